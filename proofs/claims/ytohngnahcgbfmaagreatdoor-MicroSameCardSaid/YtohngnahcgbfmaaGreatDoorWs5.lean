/- What the claim has need of: Cm15, Mt, Mt2, Mt3, Corr3, Corr9, Mt4, Ms, Ms2, Ms3, Aes, Garb, Garb2, Garb3, Garb4. -/
import Derived.Test.YtohngnahcgbfmaaGreatDoorWs4
set_option linter.unusedVariables false
set_option maxHeartbeats 16000000
set_option maxRecDepth 20000
namespace Go.Proofs.YtohngnahcgbfmaaGreatDoor.Cm
open Go Vc Er Circ
def pQ (o1 o2 : List Gt × List Int) (i : Nat) : List Gt × List Int := piS 256 (leG 256 (ze o2.1) o1.2 o2.2).1 (leG 256 (ze o2.1) o1.2 o2.2).2 o2.2 o1.2 i
theorem pQ_len (o1 o2 : List Gt × List Int) (i : Nat) : (pQ o1 o2 i).1.length = (leG 256 (ze o2.1) o1.2 o2.2).1.length + 3 * i ∧ (pQ o1 o2 i).2.length = i := piS_len _ _ _ _ _ _
theorem mk3_pQ {x y : Bool} {o1 o2 : List Gt × List Int} (ho1 : o1 = opS 256 [] 0 64 x) (ho2 : o2 = opS 256 o1.1 128 192 y) : mk3 x y = pQ o1 o2 64 := mk3_eq ho1 ho2
attribute [local irreducible] leG pQ opS
theorem rmake_k3 (fm : BitVec 64) (hf : fm < 4#64) (w : World) : Calls Tryz.prog 66 [i64 (3 : Int), u64 fm].toArray w (Ret fun v w' => ∃ (key : Option Nat) (c : Nat) (sp : LV) (ko : Option Nat) (co : Nat) (so : LV), v = .agg #[i64 ((256 : Nat) : Int), sO key (mk3 (fbS fm 0) (fbS fm 1)).1.length c, sO ko 64 co] ∧ Sl EG key (mk3 (fbS fm 0) (fbS fm 1)).1 c sp ∧ Sl EI ko (mk3 (fbS fm 0) (fbS fm 1)).2 co so ∧ Hp No w w' [(key, sob EG 210 (mk3 (fbS fm 0) (fbS fm 1)).1 sp), (ko, sob EI 3 (mk3 (fbS fm 0) (fbS fm 1)).2 so)]) := by
 let x2 : Array Value := #[i64 0, sN0, sN0]
 have H := Hp.start No w
 refine enter (n := 151) Tryz.func66 rfl rfl (bLe rfl) ?_
 refine go 1 ?_
 intro b1 w2 M2 H3 N2
 refine go 2 ?_
 refine cl ((by have h := rnop_ok (3 : Int) fm w2; rw [nop_three fm hf] at h; exact h)) ?_
 rintro _ w5 ⟨rfl, m1⟩
 have H7 := H3.ext m1
 refine go 2 ?_
 refine sq ((r_mulI rfl rfl om).as (v' := iN 256) (by rfl)) ?_
 refine go 2 ?_
 intro b8 w9 O2 P2 Q2
 refine go 1 ?_
 intro n1 p1 R2
 have q1 := p1.nil (sob EG 210 [] [])
 have r1 := q1.a3 rfl
 refine go 5 ?_
 refine sq ((r_eql64 (a := fm % (2#64)) (b := 1#64) rfl rfl).as (v' := .bool (fbS fm 0)) (by exact congrArg Value.bool (fb_rem0 fm))) ?_
 have s1 := r1.b1 rfl
 refine cl (rop_ok 256 none 0 ([]) ([] : List Gt) Sl.none om (by exact Nat.zero_le _) none 0 0 0 64 om om (fbS fm 0) ([(rC b8 #[iN 256, sO none (List.length ([] : List Gt)) 0, sN0] 175), (rC b1 x2 175)]) w n1 s1) ?_
 rintro _ S2 ⟨G0, H0, t1, q0, I0, J0, rfl, K0, hO27, L0⟩
 obtain ⟨o1, ho1⟩ : ∃ q, q = opS 256 ([] : List Gt) 0 64 (fbS fm 0) := ⟨_, rfl⟩
 rw [← ho1] at K0 hO27 L0 ⊢
 have x0 := opS_len 256 ([] : List Gt) 0 64 (fbS fm 0)
 rw [← ho1] at x0
 have T2 := L0.a4 rfl
 refine go 4 ?_
 intro u1 w1 U2
 refine go 1 ?_
 simp only [List.length_nil] at x0
 refine go 1 ?_
 refine sq ((r_eqlI rfl rfl).as (v' := .bool true) (by rfl)) ?_
 refine go 4 ?_
 refine sq ((r_eql64 (a := (fm / (2#64)) % (2#64)) (b := 1#64) rfl rfl).as (v' := .bool (fbS fm 1)) (by exact congrArg Value.bool (fb_rem1 fm))) ?_
 have y1 := w1.b1 rfl
 refine cl (rop_ok 256 G0 H0 t1 o1.1 K0 om om none 0 0 128 192 om om (fbS fm 1) ([(q0, sob EI 3 o1.2 J0), (rC b8 #[iN 256, sO G0 (List.length o1.1) H0, sN0] 175), (rC b1 x2 175)]) w u1 y1) ?_
 rintro _ V2 ⟨M0, N0, z1, y0, O0, A1, rfl, P0, hO43, Q0⟩
 obtain ⟨o2, ho2⟩ : ∃ q, q = opS 256 o1.1 128 192 (fbS fm 1) := ⟨_, rfl⟩
 let x4 : RW := (q0, sob EI 3 o1.2 J0)
 let x1 : RW := (y0, sob EI 3 o2.2 A1)
 rw [← ho2] at P0 hO43 Q0 ⊢
 have R0 := opS_len 256 o1.1 128 192 (fbS fm 1)
 rw [← ho2] at R0
 have X2 := Q0.a5 rfl
 refine go 4 ?_
 intro B1 C1 Y2
 refine go 2 ?_
 have D1 := C1.b1 rfl
 refine cl (rput_ok 256 M0 N0 z1 o2.1 P0 om om none 0 0 (1 : Int) (0 : Int) (0 : Int) ([x1, x4, (rC b8 #[iN 256, sO M0 (List.length o2.1) N0, sN0] 175), (rC b1 x2 175)]) w B1 D1) ?_
 rintro _ Z2 ⟨c3, r0, z0, S0, E1, rfl, F1, G1⟩
 have d3 := G1.a5 rfl
 refine go 4 ?_
 intro T0 H1 e3
 refine go 1 ?_
 subst E1
 have U0 : o2.1 ++ [(⟨(1 : Int), (0 : Int), (0 : Int)⟩ : Gt)] = ze o2.1 := by rfl
 have V0 := F1
 rw [U0] at V0
 have I1 : Hp No w T0 [(r0, sob EG 210 (ze o2.1) S0), x1, x4, (rC b8 #[iN 256, sO r0 (List.length (ze o2.1)) z0, sN0] 175), (rC b1 x2 175)] := by rw [← U0]; exact H1
 have hzl : (ze o2.1).length = o2.1.length + 1 := by simp [ze]
 refine go 1 ?_
 refine sq ((r_eqlI rfl rfl).as (v' := .bool false) (by rfl)) ?_
 refine go 4 ?_
 have J1 := I1.b1 rfl
 refine cl (rless_ok 256 r0 z0 S0 (ze o2.1) V0 om om none 0 0 o1.2 o2.2 (by exact x0.2) (by exact R0.2) (ownA q0) (ownA y0) I0 O0 ([x1, x4, (rC b8 #[iN 256, sO r0 (List.length (ze o2.1)) z0, sN0] 175), (rC b1 x2 175)]) w T0 (fun w' _ hR => rdKept hO27 (List.mem_of_getElem? (i := 1) rfl) hR) (fun w' _ hR => rdKept hO43 (List.mem_of_getElem? (i := 0) rfl) hR) J1) ?_
 rintro _ f3 ⟨g3, K1, L1, M1, N1, rfl, O1, P1⟩
 have h3 := P1.a5 rfl
 refine go 4 ?_
 intro i3 Q1 j3
 refine go 1 ?_
 subst N1
 have hlg := leG_len 256 (ze o2.1) o1.2 o2.2
 have R1 := Q1.nil (sob EI 3 [] [])
 have S1 := R1.a6 rfl
 refine go 1 ?_
 refine sq ((r_eqlI rfl rfl).as (v' := .bool false) (by rfl)) ?_
 refine go 1 ?_
 refine loopAny (σ := Nat × Option Nat × Nat × LV × Option Nat × Nat × LV) (fun (i, ky, cy, sy, ku, cu, su) => [(4, pT b1), (6, pT b8), (7, sO q0 64 I0), (8, sO y0 64 O0), (13, i64 (((leG 256 (ze o2.1) o1.2 o2.2).2))), (15, iN i)]) (fun (i, ky, cy, sy, ku, cu, su) w' => (i ≤ 64 ∧ Sl EG ky (pQ o1 o2 i).1 cy sy ∧ Sl EI ku (pQ o1 o2 i).2 cu su) ∧ Hp No w w' [(ky, sob EG 210 ((pQ o1 o2 i).1) sy), (ku, sob EI 3 ((pQ o1 o2 i).2) su), (rC b8 #[iN 256, sO ky (List.length ((pQ o1 o2 i).1)) cy, sO ku i cu] 175), (rC b1 x2 175), x4, x1]) (fun (i, ky, cy, sy, ku, cu, su) => 64 - i) ((0, K1, L1, M1, none, 0, [])) ?_ ?_ ?_
 ·exact kp
 ·exact (by unfold pQ; exact ⟨⟨om, O1, Sl.none⟩, (S1.pk 6 [1, 0, 4, 5, 3, 2])⟩)
 rintro ⟨i, ky, cy, sy, ku, cu, su⟩ ρ k3 ⟨⟨hq, hSy, hSu⟩, HL⟩
 let x5 : Array Value := #[iN 256, sO ky (List.length ((pQ o1 o2 i).1)) cy, sO ku i cu]
 let x3 : RW := (ku, sob EI 3 ((pQ o1 o2 i).2) su)
 have hpi := pQ_len o1 o2 i
 refine go 2 ?_
 refine condProp (((i : Nat) : Int) < (64 : Int)) rfl (fun T1 => ?_) (fun T1 => ?_)
 ·refine go 1 ?_
  have U1 := (HL.pk 6 [0, 2, 1, 3, 4, 5])
  let n0 : List RW := [x3, (rC b1 x2 175), x4, x1]
  let A0 := fun (a0 : Option Nat) (e0 : LV) => ((a0, sob EG 210 (((pQ o1 o2 i).1) ++ [(⟨(1 : Int), (o2.2).getD i 0, (o1.2).getD i 0⟩ : Gt)]) e0) : RW)
  let W0 := ((rC b8 x5 175) : RW)
  let B0 := fun (a0 : Option Nat) (c0 : Nat) (e0 : LV) => (Sl EG a0 (((pQ o1 o2 i).1) ++ [(⟨(1 : Int), (o2.2).getD i 0, (o1.2).getD i 0⟩ : Gt)]) c0 e0 : Prop)
  let V1 : Tab := [zt2 false false fun _ _ w' => Hp No w w' ((ky, sob EG 210 ((pQ o1 o2 i).1) sy) :: W0 :: n0), zt2 true false fun v9 _ w' => ∃ a0 c0 e0 h0, v9 = .tuple #[.agg #[iN 256, sO a0 (List.length (((pQ o1 o2 i).1) ++ [(⟨(1 : Int), (o2.2).getD i 0, (o1.2).getD i 0⟩ : Gt)])) c0, sO ku i cu], i64 h0] ∧ (B0 a0 c0 e0) ∧ h0 = wrW 256 ((pQ o1 o2 i).1) ∧ Hp No w w' ((A0 a0 e0) :: W0 :: n0), zt2 true true fun v9 _ w' => ∃ a0 c0 e0 h0, v9 = .tuple #[.agg #[iN 256, sO a0 (List.length (((pQ o1 o2 i).1) ++ [(⟨(1 : Int), (o2.2).getD i 0, (o1.2).getD i 0⟩ : Gt)])) c0, sO ku i cu], i64 h0] ∧ (B0 a0 c0 e0) ∧ h0 = wrW 256 ((pQ o1 o2 i).1) ∧ Hp No w w' ((A0 a0 e0) :: (rC b8 #[iN 256, sO a0 (List.length (((pQ o1 o2 i).1) ++ [(⟨(1 : Int), (o2.2).getD i 0, (o1.2).getD i 0⟩ : Gt)])) c0, sO ku i cu] 175) :: n0)]
  refine drawH (m := 15) [0, 0, 0, 6, 14, 0, 0, 96, 224, 511, 1023, 2047, 2047, 4095, 16383] [9, 13] n0 V1 mixed (fun _ e => U1.ext e) (A_ (fun _ _ h => h.drop1.drop1) (A_ (fun _ _ ⟨_, _, _, _, _, _, _, h⟩ => h.drop1.drop1) (A_ (fun _ _ ⟨_, _, _, _, _, _, _, h⟩ => h.drop1.drop1) trivial))) (fun X0 => ?_)
  refine gk 9 ?_
  refine WalkT.eff X0 0 ?_ ?_
  ·refine A_ (fun r w0 uw hF hE => ?_) trivial
   have W1 := hF.ext hE
   refine gW fun Q' hK => ?_
   have X1 := W1.b1 rfl
   refine cl (rput_ok 256 ky cy sy ((pQ o1 o2 i).1) hSy om om (ownA ku) i cu (1 : Int) ((o2.2).getD i 0) ((o1.2).getD i 0) ([(rC b8 x5 175), x3, (rC b1 x2 175), x4, x1]) w uw X1) ?_
   rintro _ l3 ⟨Y1, Z1, c2, d2, e2, rfl, f2, g2⟩
   have h2 := g2.a6 rfl
   exact hK _ _ (E_ Z1 (E_ c2 (E_ d2 (E_ Y1 (A_ rfl (A_ f2 (A_ e2 h2)))))))
  refine WalkT.hand (fun r => r 9) (fun r r' h => h 9 (by decide) rfl) (fun _ _ => r_move rfl) ?_
  refine WalkT.lookS (fun r => proj (r 9) 0) (fun r r' h => by rw [h 9 (by decide) rfl]) ?_ ?_
  ·refine A_ (fun r w0 uw hF hE => ?_) trivial
   obtain ⟨a0, c0, e0, h0, e9, j0, l0, HH⟩ := hF
   replace HH := HH.ext hE
   dsimp only
   rw [e9]
   exact vGr
  refine WalkT.lookS (fun r => proj (r 9) 1) (fun r r' h => by rw [h 9 (by decide) rfl]) ?_ ?_
  ·refine A_ (fun r w0 uw hF hE => ?_) (A_ (fun r w0 uw hF hE => ?_) trivial)
   ·obtain ⟨a0, c0, e0, h0, e9, j0, l0, HH⟩ := hF
    replace HH := HH.ext hE
    dsimp only
    rw [e9]
    exact vGr
   ·obtain ⟨a0, c0, e0, h0, e9, j0, l0, HH⟩ := hF
    replace HH := HH.ext hE
    dsimp only
    rw [e9]
    exact vGr
  refine WalkT.eff X0 1 ?_ ?_
  ·refine A_ (fun r w0 uw hF hE => ?_) trivial
   obtain ⟨a0, c0, e0, h0, e9, j0, l0, Y0⟩ := hF
   replace Y0 := Y0.ext hE
   dsimp only
   rw [e9]
   refine gW0 fun Q' hK => ?_
   refine go 1 ?_
   intro m3 i2 n3
   exact hK _ (fun _ => (E_ a0 (E_ c0 (E_ e0 (E_ h0 (A_ e9 (A_ j0 (A_ l0 i2))))))))
  refine WalkT.hand (fun r => proj (r 9) 1) (fun r r' h => by rw [h 9 (by decide) rfl]) (fun _ _ => r_assign rfl) ?_
  refine WalkT.nil ?_
  intro r w0 j2 hF hE
  obtain ⟨a0, c0, e0, h0, e9, j0, l0, s0⟩ := hF
  replace s0 := s0.ext hE
  dsimp only
  rw [e9]
  dsimp only [B0] at j0
  dsimp only [n0, A0] at s0
  subst l0
  refine go 3 ?_
  have k2 := s0.as (L' := (_ :: ([(rC b8 #[iN 256, sO a0 (List.length (((pQ o1 o2 i).1) ++ [(⟨(1 : Int), (o2.2).getD i 0, (o1.2).getD i 0⟩ : Gt)])) c0, sO ku i cu] 175), x3, (rC b1 x2 175), x4, x1]))) rfl
  refine cl (rput_ok 256 a0 c0 e0 (((pQ o1 o2 i).1) ++ [(⟨(1 : Int), (o2.2).getD i 0, (o1.2).getD i 0⟩ : Gt)]) j0 om (by simp only [List.length_append, List.length_cons, List.length_nil]; omega) (ownA ku) i cu (2 : Int) ((leG 256 (ze o2.1) o1.2 o2.2).2) (wrW 256 ((pQ o1 o2 i).1)) ([(rC b8 #[iN 256, sO a0 (List.length (((pQ o1 o2 i).1) ++ [(⟨(1 : Int), (o2.2).getD i 0, (o1.2).getD i 0⟩ : Gt)])) c0, sO ku i cu] 175), x3, (rC b1 x2 175), x4, x1]) w j2 k2) ?_
  rintro _ o3 ⟨p3, o0, u0, Z0, l2, rfl, m2, n2⟩
  have q3 := n2.a6 rfl
  refine go 4 ?_
  intro r3 p2 s3
  refine go 1 ?_
  subst l2
  refine go 0 ?_
  let p0 : List RW := [x3, (rC b1 x2 175), x4, x1]
  let C0 := fun (b0 : Option Nat) (d0 : LV) => ((b0, sob EG 210 (((pQ o1 o2 i).1) ++ [(⟨(1 : Int), (o2.2).getD i 0, (o1.2).getD i 0⟩ : Gt)] ++ [(⟨(2 : Int), ((leG 256 (ze o2.1) o1.2 o2.2).2), (wrW 256 ((pQ o1 o2 i).1))⟩ : Gt)] ++ [(⟨(1 : Int), (o1.2).getD i 0, (wrW 256 (((pQ o1 o2 i).1) ++ [(⟨(1 : Int), (o2.2).getD i 0, (o1.2).getD i 0⟩ : Gt)]))⟩ : Gt)]) d0) : RW)
  let c1 := ((rC b8 #[iN 256, sO o0 (List.length (((pQ o1 o2 i).1) ++ [(⟨(1 : Int), (o2.2).getD i 0, (o1.2).getD i 0⟩ : Gt)] ++ [(⟨(2 : Int), ((leG 256 (ze o2.1) o1.2 o2.2).2), (wrW 256 ((pQ o1 o2 i).1))⟩ : Gt)])) u0, sO ku i cu] 175) : RW)
  let D0 := fun (b0 : Option Nat) (f0 : Nat) (d0 : LV) => (Sl EG b0 (((pQ o1 o2 i).1) ++ [(⟨(1 : Int), (o2.2).getD i 0, (o1.2).getD i 0⟩ : Gt)] ++ [(⟨(2 : Int), ((leG 256 (ze o2.1) o1.2 o2.2).2), (wrW 256 ((pQ o1 o2 i).1))⟩ : Gt)] ++ [(⟨(1 : Int), (o1.2).getD i 0, (wrW 256 (((pQ o1 o2 i).1) ++ [(⟨(1 : Int), (o2.2).getD i 0, (o1.2).getD i 0⟩ : Gt)]))⟩ : Gt)]) f0 d0 : Prop)
  let q2 : Tab := [zt2 false false fun _ _ w' => Hp No w w' ((o0, sob EG 210 (((pQ o1 o2 i).1) ++ [(⟨(1 : Int), (o2.2).getD i 0, (o1.2).getD i 0⟩ : Gt)] ++ [(⟨(2 : Int), ((leG 256 (ze o2.1) o1.2 o2.2).2), (wrW 256 ((pQ o1 o2 i).1))⟩ : Gt)]) Z0) :: c1 :: p0), zt2 true false fun v6 _ w' => ∃ b0 f0 d0 i0, v6 = .tuple #[.agg #[iN 256, sO b0 (List.length (((pQ o1 o2 i).1) ++ [(⟨(1 : Int), (o2.2).getD i 0, (o1.2).getD i 0⟩ : Gt)] ++ [(⟨(2 : Int), ((leG 256 (ze o2.1) o1.2 o2.2).2), (wrW 256 ((pQ o1 o2 i).1))⟩ : Gt)] ++ [(⟨(1 : Int), (o1.2).getD i 0, (wrW 256 (((pQ o1 o2 i).1) ++ [(⟨(1 : Int), (o2.2).getD i 0, (o1.2).getD i 0⟩ : Gt)]))⟩ : Gt)])) f0, sO ku i cu], i64 i0] ∧ (D0 b0 f0 d0) ∧ i0 = wrW 256 (((pQ o1 o2 i).1) ++ [(⟨(1 : Int), (o2.2).getD i 0, (o1.2).getD i 0⟩ : Gt)] ++ [(⟨(2 : Int), ((leG 256 (ze o2.1) o1.2 o2.2).2), (wrW 256 ((pQ o1 o2 i).1))⟩ : Gt)]) ∧ Hp No w w' ((C0 b0 d0) :: c1 :: p0), zt2 true true fun v6 _ w' => ∃ b0 f0 d0 i0, v6 = .tuple #[.agg #[iN 256, sO b0 (List.length (((pQ o1 o2 i).1) ++ [(⟨(1 : Int), (o2.2).getD i 0, (o1.2).getD i 0⟩ : Gt)] ++ [(⟨(2 : Int), ((leG 256 (ze o2.1) o1.2 o2.2).2), (wrW 256 ((pQ o1 o2 i).1))⟩ : Gt)] ++ [(⟨(1 : Int), (o1.2).getD i 0, (wrW 256 (((pQ o1 o2 i).1) ++ [(⟨(1 : Int), (o2.2).getD i 0, (o1.2).getD i 0⟩ : Gt)]))⟩ : Gt)])) f0, sO ku i cu], i64 i0] ∧ (D0 b0 f0 d0) ∧ i0 = wrW 256 (((pQ o1 o2 i).1) ++ [(⟨(1 : Int), (o2.2).getD i 0, (o1.2).getD i 0⟩ : Gt)] ++ [(⟨(2 : Int), ((leG 256 (ze o2.1) o1.2 o2.2).2), (wrW 256 ((pQ o1 o2 i).1))⟩ : Gt)]) ∧ Hp No w w' ((C0 b0 d0) :: (rC b8 #[iN 256, sO b0 (List.length (((pQ o1 o2 i).1) ++ [(⟨(1 : Int), (o2.2).getD i 0, (o1.2).getD i 0⟩ : Gt)] ++ [(⟨(2 : Int), ((leG 256 (ze o2.1) o1.2 o2.2).2), (wrW 256 ((pQ o1 o2 i).1))⟩ : Gt)] ++ [(⟨(1 : Int), (o1.2).getD i 0, (wrW 256 (((pQ o1 o2 i).1) ++ [(⟨(1 : Int), (o2.2).getD i 0, (o1.2).getD i 0⟩ : Gt)]))⟩ : Gt)])) f0, sO ku i cu] 175) :: p0)]
  refine drawH (m := 12) [0, 0, 0, 6, 14, 0, 63, 127, 255, 255, 511, 2047] [6, 10] p0 q2 mixed (fun _ e => p2.ext e) (A_ (fun _ _ h => h.drop1.drop1) (A_ (fun _ _ ⟨_, _, _, _, _, _, _, h⟩ => h.drop1.drop1) (A_ (fun _ _ ⟨_, _, _, _, _, _, _, h⟩ => h.drop1.drop1) trivial))) (fun d1 => ?_)
  refine gk 6 ?_
  refine WalkT.eff d1 0 ?_ ?_
  ·refine A_ (fun r w0 uw hF hE => ?_) trivial
   have r2 := hF.ext hE
   refine gW fun Q' hK => ?_
   have s2 := r2.as (L' := (_ :: ([(rC b8 #[iN 256, sO o0 (List.length (((pQ o1 o2 i).1) ++ [(⟨(1 : Int), (o2.2).getD i 0, (o1.2).getD i 0⟩ : Gt)] ++ [(⟨(2 : Int), ((leG 256 (ze o2.1) o1.2 o2.2).2), (wrW 256 ((pQ o1 o2 i).1))⟩ : Gt)])) u0, sO ku i cu] 175), x3, (rC b1 x2 175), x4, x1]))) rfl
   refine cl (rput_ok 256 o0 u0 Z0 (((pQ o1 o2 i).1) ++ [(⟨(1 : Int), (o2.2).getD i 0, (o1.2).getD i 0⟩ : Gt)] ++ [(⟨(2 : Int), ((leG 256 (ze o2.1) o1.2 o2.2).2), (wrW 256 ((pQ o1 o2 i).1))⟩ : Gt)]) m2 om (by simp only [List.length_append, List.length_cons, List.length_nil]; omega) (ownA ku) i cu (1 : Int) ((o1.2).getD i 0) (wrW 256 (((pQ o1 o2 i).1) ++ [(⟨(1 : Int), (o2.2).getD i 0, (o1.2).getD i 0⟩ : Gt)])) ([(rC b8 #[iN 256, sO o0 (List.length (((pQ o1 o2 i).1) ++ [(⟨(1 : Int), (o2.2).getD i 0, (o1.2).getD i 0⟩ : Gt)] ++ [(⟨(2 : Int), ((leG 256 (ze o2.1) o1.2 o2.2).2), (wrW 256 ((pQ o1 o2 i).1))⟩ : Gt)])) u0, sO ku i cu] 175), x3, (rC b1 x2 175), x4, x1]) w uw s2) ?_
   rintro _ t3 ⟨t2, u2, y2, z2, A2, rfl, B2, C2⟩
   have D2 := C2.a6 rfl
   exact hK _ _ (E_ u2 (E_ y2 (E_ z2 (E_ t2 (A_ rfl (A_ B2 (A_ A2 D2)))))))
  refine WalkT.hand (fun r => r 6) (fun r r' h => h 6 (by decide) rfl) (fun _ _ => r_move rfl) ?_
  refine WalkT.lookS (fun r => proj (r 6) 0) (fun r r' h => by rw [h 6 (by decide) rfl]) ?_ ?_
  ·refine A_ (fun r w0 uw hF hE => ?_) trivial
   obtain ⟨b0, f0, d0, i0, e6, k0, m0, HH⟩ := hF
   replace HH := HH.ext hE
   dsimp only
   rw [e6]
   exact vGr
  refine WalkT.lookS (fun r => proj (r 6) 1) (fun r r' h => by rw [h 6 (by decide) rfl]) ?_ ?_
  ·refine A_ (fun r w0 uw hF hE => ?_) (A_ (fun r w0 uw hF hE => ?_) trivial)
   ·obtain ⟨b0, f0, d0, i0, e6, k0, m0, HH⟩ := hF
    replace HH := HH.ext hE
    dsimp only
    rw [e6]
    exact vGr
   ·obtain ⟨b0, f0, d0, i0, e6, k0, m0, HH⟩ := hF
    replace HH := HH.ext hE
    dsimp only
    rw [e6]
    exact vGr
  refine WalkT.eff d1 1 ?_ ?_
  ·refine A_ (fun r w0 uw hF hE => ?_) trivial
   obtain ⟨b0, f0, d0, i0, e6, k0, m0, e1⟩ := hF
   replace e1 := e1.ext hE
   dsimp only
   rw [e6]
   refine gW0 fun Q' hK => ?_
   refine go 1 ?_
   intro u3 E2 w3
   exact hK _ (fun _ => (E_ b0 (E_ f0 (E_ d0 (E_ i0 (A_ e6 (A_ k0 (A_ m0 E2))))))))
  refine WalkT.hand (fun r => proj (r 6) 1) (fun r r' h => by rw [h 6 (by decide) rfl]) (fun _ _ => r_assign rfl) ?_
  refine WalkT.nil ?_
  intro r w0 y3 hF hE
  obtain ⟨b0, f0, d0, i0, e6, k0, m0, E0⟩ := hF
  replace E0 := E0.ext hE
  dsimp only
  rw [e6]
  dsimp only [D0] at k0
  dsimp only [p0, C0] at E0
  subst m0
  refine go 3 ?_
  refine bS (E := EI) (l := [(wrW 256 (((pQ o1 o2 i).1) ++ [(⟨(1 : Int), (o2.2).getD i 0, (o1.2).getD i 0⟩ : Gt)] ++ [(⟨(2 : Int), ((leG 256 (ze o2.1) o1.2 o2.2).2), (wrW 256 ((pQ o1 o2 i).1))⟩ : Gt)]))]) ?_
  intro F2 z3 A3 B3 C3
  refine apq ?_
  refine ⟨by exact hpi.2.symm, by rfl, om, ?_⟩
  intro F0 g1 h1 D3 G2 E3 F3
  refine go 2 ?_
  intro H2 I2 G3
  refine go 3 ?_
  have i1 : ((pQ o1 o2 i).1) ++ [(⟨(1 : Int), (o2.2).getD i 0, (o1.2).getD i 0⟩ : Gt)] ++ [(⟨(2 : Int), ((leG 256 (ze o2.1) o1.2 o2.2).2), (wrW 256 ((pQ o1 o2 i).1))⟩ : Gt)] ++ [(⟨(1 : Int), (o1.2).getD i 0, (wrW 256 (((pQ o1 o2 i).1) ++ [(⟨(1 : Int), (o2.2).getD i 0, (o1.2).getD i 0⟩ : Gt)]))⟩ : Gt)] = (pQ o1 o2 (i + 1)).1 := by unfold pQ; rfl
  have j1 := k0
  rw [i1] at j1
  have J2 : Hp No w H2 [((some F2), sob EI 3 ([(wrW 256 (((pQ o1 o2 i).1) ++ [(⟨(1 : Int), (o2.2).getD i 0, (o1.2).getD i 0⟩ : Gt)] ++ [(⟨(2 : Int), ((leG 256 (ze o2.1) o1.2 o2.2).2), (wrW 256 ((pQ o1 o2 i).1))⟩ : Gt)]))]) ([])), (b0, sob EG 210 ((pQ o1 o2 (i + 1)).1) d0), (rC b8 #[iN 256, sO b0 (List.length ((pQ o1 o2 (i + 1)).1)) f0, sO F0 (i + 1) g1] 175), (F0, sob EI 3 (((pQ o1 o2 i).2) ++ ([(wrW 256 (((pQ o1 o2 i).1) ++ [(⟨(1 : Int), (o2.2).getD i 0, (o1.2).getD i 0⟩ : Gt)] ++ [(⟨(2 : Int), ((leG 256 (ze o2.1) o1.2 o2.2).2), (wrW 256 ((pQ o1 o2 i).1))⟩ : Gt)]))])) h1), (rC b1 x2 175), x4, x1] := by rw [← i1]; exact I2
  have K2 : ((pQ o1 o2 i).2) ++ ([(wrW 256 (((pQ o1 o2 i).1) ++ [(⟨(1 : Int), (o2.2).getD i 0, (o1.2).getD i 0⟩ : Gt)] ++ [(⟨(2 : Int), ((leG 256 (ze o2.1) o1.2 o2.2).2), (wrW 256 ((pQ o1 o2 i).1))⟩ : Gt)]))]) = (pQ o1 o2 (i + 1)).2 := by unfold pQ; rfl
  have k1 := G2
  have l1 := J2
  rw [K2] at k1 l1
  exact ⟨(i + 1, b0, f0, d0, F0, g1, h1), _, rfl, kp, ⟨⟨om, j1, k1⟩, (l1.pk 7 [1, 3, 2, 4, 5, 6])⟩, vd⟩
 ·have hj : i = 64 := by omega
  refine go 2 ?_
  intro I3 L2 J3
  refine go 0 ?_
  subst hj
  rw [mk3_pQ ho1 ho2]
  exact ⟨_, rfl, ky, cy, sy, ku, cu, su, rfl, hSy, hSu, ((((L2.dropk 5).dropk 4).dropk 3).dropk 2)⟩
end Go.Proofs.YtohngnahcgbfmaaGreatDoor.Cm
namespace Go.Proofs.YtohngnahcgbfmaaGreatDoor.Mt
open Go Vc Er Ek Circ Mi
open Co Cm
theorem fits34 : Fits Tryz.prog 34 E64 := fits64 (by kernel_rfl) (by kernel_rfl)
theorem fld36_3 : fld Tryz.prog 36 3 = some (3, 1, 3) := by kernel_rfl
theorem fld36_4 : fld Tryz.prog 36 4 = some (4, 1, 34) := by kernel_rfl
theorem mixed : Tryz.prog.follows .mixedOrders = true := by kernel_rfl
theorem one3 : isOne Tryz.prog 3 = true := by kernel_rfl
theorem one34 : isOne Tryz.prog 34 = true := by kernel_rfl
theorem sli23 : sli Tryz.prog 23 = some (34, 1) := by kernel_rfl
theorem words_ok (l : List (BitVec 64)) (a1 a2 : Option Addr) (n1 n2 c1 c2 : Nat) (hn1 : n1 = l.length) (hn2 : n2 = l.length) (w : World) (h1 : Rd E64 w a1 l) (h2 : Rd E64 w a2 l) (hl : l.length ≤ 140737488355328) : Calls Tryz.prog 12 [.slice a1 n1 c1, .slice a2 n2 c2].toArray w (Ret fun v w' => v = .bool true ∧ Ext w w') := by
 subst hn1 hn2
 have H := Hp.start No w
 refine enter (n := 26) Tryz.func12 rfl rfl (bLe rfl) ?_
 refine go 5 ?_
 refine sq ((r_neqI rfl rfl).as (v' := .bool false) (by simp)) ?_
 refine go 3 ?_
 refine loopAny (σ := Nat) (fun q => [(0, .slice a1 l.length c1), (1, .slice a2 l.length c2), (12, iN l.length), (13, iN q)]) (fun q w' => q ≤ l.length ∧ Hp No w w' []) (fun q => l.length - q) (0) ?_ ?_ ?_
 ·exact kp
 ·exact ⟨Nat.zero_le _, H⟩
 rintro q ρ w1 ⟨hq, HL⟩
 refine go 1 ?_
 refine condProp (((q : Nat) : Int) < (l.length : Nat)) rfl (fun a0 => ?_) (fun a0 => ?_)
 ·refine go 2 ?_
  refine drawAny (K := [none, none, none, none, none, none, none, none, none]) [0, 0, 3, 7, 0, 0, 48, 112, 255] (fun w' => Ext w1 w') (fun w' w'' => Ext w' w'') mixed (by kernel_rfl) (Ext.drew _) (fun _ _ h h' => h.trans h') ?_ ?_
  ·exact relNone (by decide)
  refine gk 8 ?_
  refine ⟨.bool false, fun _ d0 e0 _ => Gives.run rfl ((r_neq64 (a := l.getD q 0#64) (b := l.getD q 0#64) rfl rfl).as (v' := .bool false) (by simp)) ⟨rfl, Chg.refl _ _⟩, ?_⟩
  intro r24 f0 b0 hF
  have c0 := HL.ext b0
  refine go 2 ?_
  exact ⟨q + 1, _, rfl, kp, ⟨om, c0⟩, vd⟩
 ·refine go 1 ?_
  exact ⟨_, rfl, rfl, HL.chg⟩
theorem rands_ok (n : Int) (gs : List Gt) (ol : List Int) (ga oa : Option Addr) (gc oc mo : Nat) (w : World) (hGs : Rd EG w ga gs) (hgl : gs.length ≤ 140737488355328) : Calls Tryz.prog 65 [.agg #[i64 n, .slice ga gs.length gc, .slice oa mo oc]].toArray w (Ret fun v w' => v = iN (andsS gs gs.length) ∧ Ext w w') := by
 have H := Hp.start No w
 refine enter (n := 22) Tryz.func65 rfl rfl (bLe rfl) ?_
 refine go 1 ?_
 intro b1 w2 b0 H3 c0
 refine go 3 ?_
 refine loopAny (σ := Nat) (fun i => [(1, pT b1), (3, iN (andsS gs i)), (4, iN i)]) (fun i w' => i ≤ gs.length ∧ Hp No w w' [(rC b1 #[i64 n, .slice ga gs.length gc, .slice oa mo oc] 175)]) (fun i => gs.length - i) (0) ?_ ?_ ?_
 ·exact kp
 ·exact ⟨om, H3⟩
 rintro i ρ w5 ⟨hi, HL⟩
 have hle := andsS_le gs i
 refine go 5 ?_
 refine condProp (((i : Nat) : Int) < (gs.length : Nat)) rfl (fun c9 => ?_) (fun c9 => ?_)
 ·refine go 5 ?_
  refine sq (r_ldP (E := EG) (l := gs) (j := i) (o := 0) (v := (gs.getD i g0)) (u := i64 ((gs.getD i g0).k)) one3 (hGs.ext HL.chg) (at_getD om) rfl rfl rfl) ?_
  refine go 1 ?_
  refine condProp (((gs.getD i g0).k : Int) = (2 : Int)) rfl (fun a0 => ?_) (fun a0 => ?_)
  ·refine go 6 ?_
   exact ⟨i + 1, _, rfl, ⟨rfl, congrArg i64 (by rw [andsS, if_pos a0]; rfl), rfl, trivial⟩, ⟨om, HL⟩, vd⟩
  ·refine go 3 ?_
   exact ⟨i + 1, _, rfl, ⟨rfl, congrArg i64 (by rw [andsS, if_neg a0]), rfl, trivial⟩, ⟨om, HL⟩, vd⟩
 ·obtain rfl : i = gs.length := by omega
  refine go 2 ?_
  exact ⟨_, rfl, rfl, HL.chg⟩
theorem rmake_all (o : Mo) (h : nopS o.k o.c ≠ 0) (w : World) : Calls Tryz.prog 66 [i64 o.k, u64 o.c].toArray w (Ret fun v w' => ∃ (key : Option Nat) (c : Nat) (sp : LV) (ko : Option Nat) (co : Nat) (so : LV), v = .agg #[i64 (((128 * opG o) : Nat) : Int), sO key (makeG o).1.length c, sO ko 64 co] ∧ Sl EG key (makeG o).1 c sp ∧ Sl EI ko (makeG o).2 co so ∧ Hp No w w' [(key, sob EG 210 (makeG o).1 sp), (ko, sob EI 3 (makeG o).2 so)]) := by
 unfold nopS at h
 by_cases h1 : o.k = 1 ∧ o.c.toNat < 2
 ·have e1 : opG o = 1 := if_pos h1.1
  have e2 : makeG o = mk1 (fbS o.c 0) := if_pos h1.1
  rw [e1, e2, h1.1]; exact Cm.rmake_k1 o.c h1.2 w
 ·rw [if_neg h1] at h
  by_cases h2 : (o.k = 2 ∨ o.k = 3) ∧ o.c.toNat < 4
  ·have e1 : opG o = 2 := if_neg om
   rcases h2 with ⟨h3 | h3, h4⟩
   ·have e2 : makeG o = mk2 (fbS o.c 0) (fbS o.c 1) := (if_neg om).trans (if_pos h3)
    rw [e1, e2, h3]; exact Cm.rmake_k2 o.c h4 w
   ·have e2 : makeG o = mk3 (fbS o.c 0) (fbS o.c 1) := (if_neg om).trans (if_neg om)
    rw [e1, e2, h3]; exact Cm.rmake_k3 o.c h4 w
  ·rw [if_neg h2] at h; exact absurd rfl h
theorem randg_ok (o : Mo) (hng : nopS o.k o.c ≠ 0) (w : World) : Calls Tryz.prog 45 [.agg #[i64 (o.kd), i64 (o.a), i64 (o.b), i64 (o.k), u64 (o.c), i64 (o.pt)]].toArray w (Ret fun v w' => v = i64 ((andG o : Nat) : Int) ∧ Ext w w') := by
 have H := Hp.start No w
 refine enter (n := 9) Tryz.func45 rfl rfl (bLe rfl) ?_
 refine go 1 ?_
 intro b1 w2 i0 H3 j0
 refine go 5 ?_
 refine cl (rmake_all o hng w2) ?_
 rintro _ w5 ⟨a0, c8, k0, b0, c0, l0, rfl, m0, hO14, d0⟩
 have e0 := (H3.join d0).a3 rfl
 refine cl (rands_ok ((128 * opG o) : Nat) ((makeG o).1) ((makeG o).2) (ownA a0) (ownA b0) c8 c0 64 w5 vRd (by have := makeG_len o; omega)) ?_
 rintro _ n0 ⟨rfl, f0⟩
 have h0 := e0.ext f0
 refine go 1 ?_
 exact ⟨_, rfl, rfl, h0.chg⟩
end Go.Proofs.YtohngnahcgbfmaaGreatDoor.Mt
namespace Go.Proofs.YtohngnahcgbfmaaGreatDoor.Mt
open Go Vc Er Ek Circ Mi
open Co Cm
theorem byt3 : byt Tryz.prog 3 = some 8 := by kernel_rfl
theorem fits3 : Fits Tryz.prog 3 EI := fitsI (by kernel_rfl) (by kernel_rfl)
theorem fits36 : Fits Tryz.prog 36 EMo := fitsMo (by kernel_rfl) (by kernel_rfl)
theorem fld36_1 : fld Tryz.prog 36 1 = some (1, 1, 3) := by kernel_rfl
theorem fld36_2 : fld Tryz.prog 36 2 = some (2, 1, 3) := by kernel_rfl
theorem sli100 : sli Tryz.prog 100 = some (3, 1) := by kernel_rfl
theorem sli22 : sli Tryz.prog 22 = some (36, 6) := by kernel_rfl
theorem zer3 : zer Tryz.prog 3 = some (.int .i64 0) := by kernel_rfl
theorem rrounds_ok (ops : List Mo) (oa : Option Addr) (oc : Nat) (w : World) (hG : Gl w) (hO : Rd EMo w oa ops) (hol : ops.length ≤ 140737488355328) (hg : Mi.Good ops 65536 65536) : Calls Tryz.prog 44 [.slice oa ops.length oc].toArray w (Ret fun v w' => SlRes EI 3 (rdS ops ops.length) w v w' ∧ Ext w w') := by
 have hlen := hg.len
 have H := Hp.start No w
 refine enter (n := 65) Tryz.func44 rfl rfl (bLe rfl) ?_
 refine go 2 ?_
 have H1 := H.nil (sob EI 3 [] [])
 refine go 1 ?_
 refine loopAny (σ := Nat × Option Nat × Nat × LV) (fun (i, kf, cf, sf) => [(0, .slice oa ops.length oc), (3, sO kf i cf), (4, iN i)]) (fun (i, kf, cf, sf) w' => (i ≤ ops.length ∧ Sl EI kf (rdS ops i) cf sf) ∧ Hp No w w' [(kf, sob EI 3 (rdS ops i) sf)]) (fun (i, kf, cf, sf) => ops.length - i) ((0, none, 0, [])) ?_ ?_ ?_
 ·exact kp
 ·exact ⟨⟨Nat.zero_le _, Sl.none⟩, H1⟩
 rintro ⟨i, kf, cf, sf⟩ ρ w2 ⟨⟨hq, hSf⟩, HL⟩
 have hfl := rdS_len ops i
 have hrb0 := rd_bound ops i
 refine go 4 ?_
 refine condProp (((i : Nat) : Int) < (ops.length : Nat)) rfl (fun j0 => ?_) (fun j0 => ?_)
 ·refine go 4 ?_
  have hgo := hg.at' i om
  refine cl (Mi.rwants_ok (ops.getD i mo0) hgo.ok w2) ?_
  rintro _ w4 ⟨rfl, k0⟩
  have H6 := HL.ext k0
  refine go 9 ?_
  obtain ⟨r, hr⟩ : ∃ q, q = (ruleS (ops.getD i mo0) 65536 65536) := ⟨_, rfl⟩
  rw [← hr]
  have hwa := hgo.a
  have hwb := hgo.b
  rw [← hr] at hwa hwb
  unfold wantP at hwa hwb
  have l0 := rule_r (ops.getD i mo0) 65536 65536
  rw [← hr] at l0
  have h1 := hrb0.2 (ops.getD i mo0).a.toNat
  have h2 := hrb0.2 (ops.getD i mo0).b.toNat
  refine gj 1 ?_
  refine seqJoin (σ := Int) (fun mo => [(0, .slice oa ops.length oc), (3, sO kf i cf), (4, iN i), (6, i64 (r.1.b)), (8, i64 (r.1.r)), (9, i64 mo)]) (fun mo w' => mo = (if r.1.a = 0 then 0 else (rdS ops i).getD (ops.getD i mo0).a.toNat 0) ∧ Hp No w w' [(kf, sob EI 3 (rdS ops i) sf)]) ?_ (fun b0 => ?_)
  ·rintro mo ρ w8 ⟨hmo, H9⟩
   have hmo2 : 0 ≤ mo ∧ mo ≤ 2 * (i : Nat) := by rw [hmo]; split <;> omega
   refine go 0 ?_
   by_cases hb : r.1.b = 0
   ·refine go 0 ?_
    rw [if_pos hb] at hwb
    refine go 1 ?_
    refine sq ((r_neqI rfl rfl).as (v' := .bool false) (by exact congrArg Value.bool (decide_eq_false (fun h => h hb)))) ?_
    refine go 6 ?_
    refine bS (E := EI) (l := [mo + r.1.r]) fun H0 I0 J0 K0 L0 => ?_
    refine apq ?_
    refine ⟨by exact (rdS_len ops i).symm, by rfl, om, ?_⟩
    intro m0 n0 o0 M0 p0 N0 q0
    have r0 : (rdS ops i) ++ ([mo + r.1.r]) = rdS ops (i + 1) := by rw [rdS, ← hr, aheadS, if_pos hb, ← hmo]
    have c0 := p0
    have d0 := q0
    rw [r0] at c0 d0
    refine go 4 ?_
    exact ⟨(i + 1, m0, n0, o0), _, rfl, kp, ⟨⟨om, c0⟩, (d0.dropk 0)⟩, vd⟩
   ·refine go 0 ?_
    rw [if_neg hb] at hwb
    refine go 1 ?_
    refine sq ((r_neqI rfl rfl).as (v' := .bool true) (by exact congrArg Value.bool (decide_eq_true hb))) ?_
    refine go 6 ?_
    refine sqAny (v := i64 ((ops.getD i mo0).b)) (w' := w8) (wantedSome (d' := 38) (b := true) rfl rfl rfl) (r_ldP (E := EMo) (l := ops) (j := i) (o := 2) (v := (ops.getD i mo0)) (u := i64 ((ops.getD i mo0).b)) one3 (hO.ext H9.chg) (at_getD om) rfl rfl rfl) ?_
    refine go 5 ?_
    refine condProp ((mo : Int) < ((rdS ops i).getD ((ops.getD i mo0).b.toNat) 0)) rfl (fun s0 => ?_) (fun s0 => ?_)
    ·refine go 5 ?_
     refine sq (r_ldP (E := EMo) (l := ops) (j := i) (o := 2) (v := (ops.getD i mo0)) (u := i64 ((ops.getD i mo0).b)) one3 (hO.ext H9.chg) (at_getD om) rfl rfl rfl) ?_
     refine go 7 ?_
     refine bS (E := EI) (l := [((rdS ops i).getD ((ops.getD i mo0).b.toNat) 0) + r.1.r]) fun O0 P0 Q0 R0 S0 => ?_
     refine apq ?_
     refine ⟨by exact (rdS_len ops i).symm, by rfl, om, ?_⟩
     intro u0 w0 x0 T0 y0 U0 z0
     have A0 : (rdS ops i) ++ ([((rdS ops i).getD ((ops.getD i mo0).b.toNat) 0) + r.1.r]) = rdS ops (i + 1) := by rw [rdS, ← hr, aheadS, if_neg hb, ← hmo, Int.max_eq_right om]
     have e0 := y0
     have f0 := z0
     rw [A0] at e0 f0
     refine go 4 ?_
     exact ⟨(i + 1, u0, w0, x0), _, rfl, kp, ⟨⟨om, e0⟩, (f0.dropk 0)⟩, vd⟩
    ·refine go 4 ?_
     refine bS (E := EI) (l := [mo + r.1.r]) fun V0 W0 X0 Y0 Z0 => ?_
     refine apq ?_
     refine ⟨by exact (rdS_len ops i).symm, by rfl, om, ?_⟩
     intro B0 C0 D0 c1 E0 d1 F0
     have G0 : (rdS ops i) ++ ([mo + r.1.r]) = rdS ops (i + 1) := by rw [rdS, ← hr, aheadS, if_neg hb, ← hmo, Int.max_eq_left om]
     have h0 := E0
     have i0 := F0
     rw [G0] at h0 i0
     refine go 4 ?_
     exact ⟨(i + 1, B0, C0, D0), _, rfl, kp, ⟨⟨om, h0⟩, (i0.dropk 0)⟩, vd⟩
  ·refine go 2 ?_
   refine condProp ((r.1.a : Int) ≠ (0 : Int)) rfl (fun a0 => ?_) (fun a0 => ?_)
   ·have hra : r.1.a ≠ 0 := by simpa using a0
    rw [if_neg hra] at hwa
    refine go 5 ?_
    refine sq (r_ldP (E := EMo) (l := ops) (j := i) (o := 1) (v := (ops.getD i mo0)) (u := i64 ((ops.getD i mo0).a)) one3 (hO.ext H6.chg) (at_getD om) rfl rfl rfl) ?_
    refine go 2 ?_
    exact sAv (wnil (thenNormal (b0 ((rdS ops i).getD (ops.getD i mo0).a.toNat 0) _ _ kp ⟨(if_neg hra).symm, H6⟩)))
   ·have hra : r.1.a = 0 := by simpa using a0
    rw [if_pos hra] at hwa
    exact skipAny (thenNormal (b0 0 _ _ kp ⟨(if_pos hra).symm, H6⟩))
 ·have hie : i = ops.length := by omega
  subst hie
  refine go 2 ?_
  exact ⟨_, rfl, HL.resN (k := 0) rfl hSf (rdS_len _ _).symm, HL.chg⟩
end Go.Proofs.YtohngnahcgbfmaaGreatDoor.Mt
namespace Go.Proofs.YtohngnahcgbfmaaGreatDoor.Mt
open Go Vc Er Ek Circ Mi
open Co Cm
theorem arr29 : arr Tryz.prog 29 = some (2, 1) := by kernel_rfl
theorem fld36_0 : fld Tryz.prog 36 0 = some (0, 1, 33) := by kernel_rfl
theorem fld36_5 : fld Tryz.prog 36 5 = some (5, 1, 3) := by kernel_rfl
theorem one33 : isOne Tryz.prog 33 = true := by kernel_rfl
theorem pls57 : pls Tryz.prog 57 = some #[(0, 1), (1, 1), (2, 1), (3, 2), (5, 1), (6, 2)] := by kernel_rfl
theorem siz3 : siz Tryz.prog 3 = some 1 := by kernel_rfl
theorem zer57 : zer Tryz.prog 57 = some (.agg #[.int .i64 0, .int .i64 0, .int .i64 0, .int .i64 0, .int .i64 0, .int .i64 0, .int .i64 0, .int .i64 0]) := by kernel_rfl
def gbS (ops : List Mo) (i : Nat) : Nat := if 0 < cntS fG ops i then 2 else 0
theorem gb_no {ops : List Mo} {i : Nat} {o : Mo} (ho : o = ops.getD i mo0) (h : fG o = 0) : gbS ops (i + 1) = gbS ops i := by unfold gbS; rw [cnt_succ ho h, Nat.add_zero]
theorem gb_yes {ops : List Mo} {i : Nat} {o : Mo} (ho : o = ops.getD i mo0) (h : fG o = 1) : gbS ops (i + 1) = 2 := by unfold gbS; rw [cnt_succ ho h, if_pos om]
theorem gb_le (ops : List Mo) (i : Nat) : gbS ops i ≤ 2 := by unfold gbS; split <;> omega
theorem rneed_ok (ops : List Mo) (oa : Option Addr) (oc : Nat) (w : World) (hG : Gl w) (hO : Rd EMo w oa ops) (hol : ops.length ≤ 140737488355328) (hg : Mi.Good ops 65536 65536) : Calls Tryz.prog 24 [.slice oa ops.length oc].toArray w (Ret fun v w' => v = .agg #[iN (nA ops), iN (nB ops), iN (nO ops), iN (nT0 ops), iN (nT1 ops), i64 (nR ops), iN (nW0 ops), iN (nW1 ops)] ∧ Ext w w') := by
 let x2 : Array Value := #[i64 0, i64 0, i64 0, i64 0, i64 0, i64 0, i64 0, i64 0]
 have hlen := hg.len
 have H := Hp.start No w
 refine enter (n := 147) Tryz.func24 rfl rfl (bLe rfl) ?_
 refine go 1 ?_
 intro b1 w2 o1 H3 p1
 refine go 0 ?_
 refine sq ((r_build (cs' := #[.int .i64 0, .int .i64 0, .int .i64 0, .int .i64 0, .int .i64 0, .int .i64 0, .int .i64 0, .int .i64 0]) (ps := []) zer57 pls57 rfl (by rfl)).as (v' := .agg x2) (by rfl)) ?_
 refine go 1 ?_
 intro b5 w6 r1 H7 s1
 refine go 1 ?_
 intro w9 u0 t1
 refine go 1 ?_
 refine cl (rrounds_ok ops oa oc w9 vGl vRd om hg) ?_
 rintro _ u1 ⟨⟨a0, k0, b0, rfl, w1, x0⟩, y0⟩
 rw [show (rdS ops ops.length).length = ops.length from rdS_len _ _]
 have z0 := u0.add y0 x0
 refine go 3 ?_
 refine loopAny (σ := Nat) (fun i => [(0, .slice oa ops.length oc), (2, pT b1), (3, pT b5), (4, sO a0 ops.length k0), (5, iN (gbS ops i)), (6, iN i)]) (fun i w' => i ≤ ops.length ∧ Hp No w w' [(rC b5 #[iN (cntS fA ops i), iN (cntS fB ops i), iN (cntS fO ops i), iN (cntS fT0 ops i), iN (cntS fT1 ops i), i64 (mxS (rdS ops ops.length) i), iN (cntS fW0 ops i), iN (cntS fW1 ops i)] 57), (rC b1 x2 57), (a0, sob EI 3 (rdS ops ops.length) b0)]) (fun i => ops.length - i) (0) ?_ ?_ ?_
 ·exact kp
 ·exact ⟨Nat.zero_le _, (z0.pk 3 [1, 2, 0])⟩
 rintro i ρ y1 ⟨hq, HL⟩
 have hrl := rdS_len ops ops.length
 have hmx := mx_bound ops ops.length i
 have hrb := rd_bound ops ops.length
 obtain ⟨hcA, hcB, hcO, hcT0, hcT1, hcW0, hcW1, hcG⟩ := cntLe ops i
 refine go 4 ?_
 refine condProp (((i : Nat) : Int) < (ops.length : Nat)) rfl (fun cj15 => ?_) (fun cj15 => ?_)
 ·refine go 5 ?_
  intro d0 z1 A1 B1 C1
  refine go 1 ?_
  intro A0 l0 D1
  obtain ⟨o, ho⟩ : ∃ q1, q1 = ops.getD i mo0 := ⟨_, rfl⟩
  let m0 : Value := i64 (((cntS fT0 ops i) : Nat) + ((256 * opG o) : Nat))
  let x9 : Array Value := #[i64 (o.kd), i64 (o.a), i64 (o.b), i64 (o.k), u64 (o.c), i64 (o.pt)]
  let x8 : Value := iN (cntS fO ops i)
  let x7 : Value := iN (cntS fW0 ops i)
  let x6 : Value := iN (cntS fT1 ops i)
  let x5 : Value := iN (cntS fW1 ops i)
  let x4 : Value := iN (cntS fB ops i)
  let x3 : Value := iN (cntS fA ops i)
  let x1 : Value := i64 (mxS (rdS ops ops.length) (i + 1))
  rw [← ho] at l0 ⊢
  have hgo := hg.at' i om
  rw [← ho] at hgo
  have hog := opG_le o
  have hag := andG_le o
  refine gj 0 ?_
  refine seqJoin (σ := Unit) (fun (_ : Unit) => [(0, .slice oa ops.length oc), (2, pT b1), (3, pT b5), (4, sO a0 ops.length k0), (5, iN (gbS ops i)), (6, iN i), (7, pT d0)]) (fun (_ : Unit) w' => True ∧ Hp No w w' [(rC b5 #[x3, x4, x8, iN (cntS fT0 ops i), x6, x1, x7, x5] 57), (rC b1 x2 57), (a0, sob EI 3 (rdS ops ops.length) b0), (rC d0 x9 36)]) ?_ (fun n0 => ?_)
  ·rintro ⟨⟩ ρ B0 ⟨_, c0⟩
   refine go 4 ?_
   refine condProp ((o.kd : Int) = (1 : Int)) rfl (fun k1 => ?_) (fun k1 => ?_)
   ·by_cases hp : o.pt = 0
    ·refine go 3 ?_
     refine sq (r_indexA (off' := 3) (j := 0) arr29 (b := b5) (off := 3) rfl rfl vo om om) (sq (r_loadC (v := iN (cntS fT0 ops i)) one3 (c0.get (k := 0) rfl) (off := 3) rfl (by rfl)) ?_)
     refine go 2 ?_
     refine sq (r_indexA (off' := 3) (j := 0) arr29 (b := b5) (off := 3) rfl rfl vo om om) (d_store (k := 0) (v := i64 (((cntS fT0 ops i) : Nat) + (1 : Int))) (cs' := #[x3, x4, x8, i64 (((cntS fT0 ops i) : Nat) + (1 : Int)), x6, x1, x7, x5]) c0 rfl rfl rfl siz3 (by rfl) (by exact EI.one _) (by exact bLe rfl) (by rfl) fun E1 C0 F1 => ?_)
     have o0 := C0.a4 rfl
     refine go 3 ?_
     refine sq (r_indexA (off' := 6) (j := 0) arr29 (b := b5) (off := 6) rfl rfl vo om om) (sq (r_loadC (v := iN (cntS fW0 ops i)) one3 (o0.get (k := 0) rfl) (off := 6) rfl (by rfl)) ?_)
     refine go 2 ?_
     refine sq (r_indexA (off' := 6) (j := 0) arr29 (b := b5) (off := 6) rfl rfl vo om om) (d_store (k := 0) (v := i64 (((cntS fW0 ops i) : Nat) + (1 : Int))) (cs' := #[x3, x4, x8, i64 (((cntS fT0 ops i) : Nat) + (1 : Int)), x6, x1, i64 (((cntS fW0 ops i) : Nat) + (1 : Int)), x5]) o0 rfl rfl rfl siz3 (by rfl) (by exact EI.one _) (by exact bLe rfl) (by rfl) fun G1 D0 H1 => ?_)
     have E0 := D0.a4 rfl
     refine go 3 ?_
     have hi := inc1a k1 hp
     have F0 := ((E0.dropk 3)).as (L' := [(rC b5 #[iN (cntS fA ops (i + 1)), iN (cntS fB ops (i + 1)), iN (cntS fO ops (i + 1)), iN (cntS fT0 ops (i + 1)), iN (cntS fT1 ops (i + 1)), i64 (mxS (rdS ops ops.length) (i + 1)), iN (cntS fW0 ops (i + 1)), iN (cntS fW1 ops (i + 1))] 57), (rC b1 #[i64 0, i64 0, i64 0, i64 0, i64 0, i64 0, i64 0, i64 0] 57), (a0, sob EI 3 (rdS ops ops.length) b0)]) (by rw [cnt_succ ho hi.A, cnt_succ ho hi.B, cnt_succ ho hi.O, cnt_succ ho hi.T0, cnt_succ ho hi.T1, cnt_succ ho hi.W0, cnt_succ ho hi.W1] <;> rfl)
     exact ⟨i + 1, _, rfl, ⟨rfl, rfl, rfl, rfl, congrArg (fun q : Nat => i64 (q : Int)) (gb_no ho hi.G).symm, rfl, trivial⟩, ⟨om, F0⟩, vd⟩
    ·refine go 0 ?_
     have hp1 : o.pt = 1 := by have := hgo.p; omega
     refine go 3 ?_
     refine sq (r_indexA (off' := 4) (j := 1) arr29 (b := b5) (off := 3) rfl rfl vo om om) (sq (r_loadC (v := iN (cntS fT1 ops i)) one3 (c0.get (k := 0) rfl) (off := 4) rfl (by rfl)) ?_)
     refine go 2 ?_
     refine sq (r_indexA (off' := 4) (j := 1) arr29 (b := b5) (off := 3) rfl rfl vo om om) (d_store (k := 0) (v := i64 (((cntS fT1 ops i) : Nat) + (1 : Int))) (cs' := #[x3, x4, x8, iN (cntS fT0 ops i), i64 (((cntS fT1 ops i) : Nat) + (1 : Int)), x1, x7, x5]) c0 rfl rfl rfl siz3 (by rfl) (by exact EI.one _) (by exact bLe rfl) (by rfl) fun I1 G0 J1 => ?_)
     have p0 := G0.a4 rfl
     refine go 3 ?_
     refine sq (r_indexA (off' := 7) (j := 1) arr29 (b := b5) (off := 6) rfl rfl vo om om) (sq (r_loadC (v := iN (cntS fW1 ops i)) one3 (p0.get (k := 0) rfl) (off := 7) rfl (by rfl)) ?_)
     refine go 2 ?_
     refine sq (r_indexA (off' := 7) (j := 1) arr29 (b := b5) (off := 6) rfl rfl vo om om) (d_store (k := 0) (v := i64 (((cntS fW1 ops i) : Nat) + (1 : Int))) (cs' := #[x3, x4, x8, iN (cntS fT0 ops i), i64 (((cntS fT1 ops i) : Nat) + (1 : Int)), x1, x7, i64 (((cntS fW1 ops i) : Nat) + (1 : Int))]) p0 rfl rfl rfl siz3 (by rfl) (by exact EI.one _) (by exact bLe rfl) (by rfl) fun K1 H0 L1 => ?_)
     have I0 := H0.a4 rfl
     refine go 3 ?_
     have hi := inc1b k1 hp1
     have J0 := ((I0.dropk 3)).as (L' := [(rC b5 #[iN (cntS fA ops (i + 1)), iN (cntS fB ops (i + 1)), iN (cntS fO ops (i + 1)), iN (cntS fT0 ops (i + 1)), iN (cntS fT1 ops (i + 1)), i64 (mxS (rdS ops ops.length) (i + 1)), iN (cntS fW0 ops (i + 1)), iN (cntS fW1 ops (i + 1))] 57), (rC b1 #[i64 0, i64 0, i64 0, i64 0, i64 0, i64 0, i64 0, i64 0] 57), (a0, sob EI 3 (rdS ops ops.length) b0)]) (by rw [cnt_succ ho hi.A, cnt_succ ho hi.B, cnt_succ ho hi.O, cnt_succ ho hi.T0, cnt_succ ho hi.T1, cnt_succ ho hi.W0, cnt_succ ho hi.W1] <;> rfl)
     exact ⟨i + 1, _, rfl, ⟨rfl, rfl, rfl, rfl, congrArg (fun q : Nat => i64 (q : Int)) (gb_no ho hi.G).symm, rfl, trivial⟩, ⟨om, J0⟩, vd⟩
   ·refine go 2 ?_
    refine condProp ((o.kd : Int) = (6 : Int)) rfl (fun k6 => ?_) (fun k6 => ?_)
    ·refine go 0 ?_
     refine condTrue (congrArg Value.bool (decide_eq_true k6)) ?_
     refine go 3 ?_
     refine condTrue (congrArg Value.bool (decide_eq_true k6)) ?_
     refine go 5 ?_
     intro M1 N1 O1
     refine go 7 ?_
     intro P1 Q1 R1
     refine go 7 ?_
     intro S1 K0 U1
     refine go 3 ?_
     have hi := inc6 k6
     have L0 := ((K0.dropk 3)).as (L' := [(rC b5 #[iN (cntS fA ops (i + 1)), iN (cntS fB ops (i + 1)), iN (cntS fO ops (i + 1)), iN (cntS fT0 ops (i + 1)), iN (cntS fT1 ops (i + 1)), i64 (mxS (rdS ops ops.length) (i + 1)), iN (cntS fW0 ops (i + 1)), iN (cntS fW1 ops (i + 1))] 57), (rC b1 #[i64 0, i64 0, i64 0, i64 0, i64 0, i64 0, i64 0, i64 0] 57), (a0, sob EI 3 (rdS ops ops.length) b0)]) (by rw [cnt_succ ho hi.A, cnt_succ ho hi.B, cnt_succ ho hi.O, cnt_succ ho hi.T0, cnt_succ ho hi.T1, cnt_succ ho hi.W0, cnt_succ ho hi.W1] <;> rfl)
     exact ⟨i + 1, _, rfl, ⟨rfl, rfl, rfl, rfl, congrArg (fun q : Nat => i64 (q : Int)) (gb_no ho hi.G).symm, rfl, trivial⟩, ⟨om, L0⟩, vd⟩
    ·refine go 2 ?_
     refine condProp ((o.kd : Int) = (9 : Int)) rfl (fun k9 => ?_) (fun k9 => ?_)
     ·refine go 3 ?_
      refine condFalse (congrArg Value.bool (decide_eq_false k6)) ?_
      refine go 5 ?_
      intro V1 X1 Y1
      refine go 7 ?_
      intro Z1 c2 d2
      refine go 7 ?_
      intro e2 M0 f2
      refine go 3 ?_
      have hi := inc9 k9
      have N0 := ((M0.dropk 3)).as (L' := [(rC b5 #[iN (cntS fA ops (i + 1)), iN (cntS fB ops (i + 1)), iN (cntS fO ops (i + 1)), iN (cntS fT0 ops (i + 1)), iN (cntS fT1 ops (i + 1)), i64 (mxS (rdS ops ops.length) (i + 1)), iN (cntS fW0 ops (i + 1)), iN (cntS fW1 ops (i + 1))] 57), (rC b1 #[i64 0, i64 0, i64 0, i64 0, i64 0, i64 0, i64 0, i64 0] 57), (a0, sob EI 3 (rdS ops ops.length) b0)]) (by rw [cnt_succ ho hi.A, cnt_succ ho hi.B, cnt_succ ho hi.O, cnt_succ ho hi.T0, cnt_succ ho hi.T1, cnt_succ ho hi.W0, cnt_succ ho hi.W1] <;> rfl)
      exact ⟨i + 1, _, rfl, ⟨rfl, rfl, rfl, rfl, congrArg (fun q : Nat => i64 (q : Int)) (gb_no ho hi.G).symm, rfl, trivial⟩, ⟨om, N0⟩, vd⟩
     ·refine go 2 ?_
      refine condProp ((o.kd : Int) = (17 : Int)) rfl (fun e0 => ?_) (fun e0 => ?_)
      ·refine go 4 ?_
       refine cl ((by have h := Cm.rnop_ok o.k o.c B0; rw [(nop_op (garb_of e0 hgo.ok).1).1] at h; exact h)) ?_
       rintro _ g2 ⟨rfl, O0⟩
       have h2 := c0.ext O0
       refine go 5 ?_
       refine sq ((r_mulI rfl rfl om).as (v' := iN (64 * opG o)) (by rfl)) (sq ((r_addI rfl rfl om).as (v' := iN (cntS fO ops i + 64 * opG o)) (by rfl)) ?_)
       refine go 2 ?_
       intro i2 j2 k2
       refine go 4 ?_
       refine sq ((r_mulI rfl rfl om).as (v' := iN (256 * opG o)) (by rfl)) ?_
       refine go 4 ?_
       intro l2 P0 m2
       refine go 0 ?_
       let f0 : List RW := [(rC b1 x2 57), (a0, sob EI 3 (rdS ops ops.length) b0), (rC d0 x9 36)]
       let q0 := ((rC b5 #[x3, x4, iN (cntS fO ops i + 64 * opG o), m0, x6, x1, x7, x5] 57) : RW)
       let Q0 : Tab := [zt2 false false fun _ _ w' => Hp No w w' (q0 :: f0), zt2 true false fun v9 _ w' => v9 = iN (andG o) ∧ Hp No w w' (q0 :: f0), zt2 true true fun v9 _ w' => v9 = iN (andG o) ∧ Hp No w w' ((rC b5 #[x3, x4, iN (cntS fO ops i + 64 * opG o), m0, x6, x1, i64 (((cntS fW0 ops i) : Nat) + ((2 * (192 * opG o + 2 * andG o)) : Nat)), x5] 57) :: f0)]
       refine drawH (m := 17) [0, 1, 3, 0, 8, 0, 32, 120, 0, 256, 768, 2040, 4088, 8191, 0, 32767, 65535] [9, 16] f0 Q0 mixed (fun _ e => P0.ext e) (A_ (fun _ _ h => h.drop1) (A_ (fun _ _ ⟨_, h⟩ => h.drop1) (A_ (fun _ _ ⟨_, h⟩ => h.drop1) trivial))) (fun r0 => ?_)
       refine gk 4 ?_
       refine lkH (iN (64 * opG o)) (fun _ uw hcx => (r_mulI rfl rfl om).as (v' := iN (64 * opG o)) (by rfl)) ?_
       refine gk 1 ?_
       refine lkH (iN (128 * opG o)) (fun _ uw hcx => (r_mulI rfl rfl om).as (v' := iN (128 * opG o)) (by rfl)) (lkH (iN (192 * opG o)) (fun _ uw hcx => (r_addI rfl rfl om).as (v' := iN (192 * opG o)) (by exact congrArg i64 om)) ?_)
       refine gk 1 ?_
       refine WalkT.eff r0 0 ?_ ?_
       ·refine A_ (fun r w0 uw hF hE => ?_) trivial
        have R0 := hF.ext hE
        refine gW fun Q' hK => (cl (randg_ok o (garb_of e0 hgo.ok).1 uw) ?_)
        rintro _ n2 ⟨rfl, S0⟩
        have U0 := R0.ext S0
        exact hK _ _ (A_ rfl U0)
       refine WalkT.lookS (fun _ => i64 ((2 : Int) * ((andG o) : Nat))) (fun _ _ _ => rfl) ?_ ?_
       ·refine A_ (fun r w0 uw hF hE => ?_) trivial
        obtain ⟨e9, HH⟩ := hF
        replace HH := HH.ext hE
        dsimp only
        rw [e9]
        exact vGr
       refine gk 1 ?_
       refine lkH (iN (2 * (192 * opG o + 2 * andG o))) (fun _ uw hcx => (r_mulI rfl rfl om).as (v' := iN (2 * (192 * opG o + 2 * andG o))) (by rfl)) ?_
       refine gk 3 ?_
       refine WalkT.eff r0 1 ?_ ?_
       ·refine A_ (fun r w0 uw hF hE => ?_) trivial
        obtain ⟨e9, s0⟩ := hF
        replace s0 := s0.ext hE
        refine gW0 fun Q' hK => ?_
        refine go 1 ?_
        intro o2 V0 p2
        exact hK _ (fun _ => (A_ e9 V0))
       refine WalkT.nil fun r w0 q2 hF hE => ?_
       obtain ⟨e9, i0⟩ := hF
       replace i0 := i0.ext hE
       dsimp only
       rw [e9]
       dsimp only [f0] at i0
       refine go 8 ?_
       intro r2 X0 s2
       refine go 3 ?_
       have hi := inc17 e0
       have Y0 := ((X0.dropk 3)).as (L' := [(rC b5 #[iN (cntS fA ops (i + 1)), iN (cntS fB ops (i + 1)), iN (cntS fO ops (i + 1)), iN (cntS fT0 ops (i + 1)), iN (cntS fT1 ops (i + 1)), i64 (mxS (rdS ops ops.length) (i + 1)), iN (cntS fW0 ops (i + 1)), iN (cntS fW1 ops (i + 1))] 57), (rC b1 #[i64 0, i64 0, i64 0, i64 0, i64 0, i64 0, i64 0, i64 0] 57), (a0, sob EI 3 (rdS ops ops.length) b0)]) (by rw [cnt_succ ho hi.A, cnt_succ ho hi.B, cnt_succ ho hi.O, cnt_succ ho hi.T0, cnt_succ ho hi.T1, cnt_succ ho hi.W0, cnt_succ ho hi.W1] <;> rfl)
       exact ⟨i + 1, _, rfl, ⟨rfl, rfl, rfl, rfl, congrArg (fun q : Nat => i64 (q : Int)) (gb_yes ho hi.G).symm, rfl, trivial⟩, ⟨om, Y0⟩, vd⟩
      ·refine go 2 ?_
       refine condProp ((o.kd : Int) = (18 : Int)) rfl (fun h0 => ?_) (fun h0 => ?_)
       ·refine go 0 ?_
        refine condTrue (congrArg Value.bool (decide_eq_true h0)) ?_
        refine go 7 ?_
        intro t2 u2 y2
        refine go 7 ?_
        intro z2 Z0 A2
        refine go 3 ?_
        have hi := incT (.inl h0)
        have c1 := ((Z0.dropk 3)).as (L' := [(rC b5 #[iN (cntS fA ops (i + 1)), iN (cntS fB ops (i + 1)), iN (cntS fO ops (i + 1)), iN (cntS fT0 ops (i + 1)), iN (cntS fT1 ops (i + 1)), i64 (mxS (rdS ops ops.length) (i + 1)), iN (cntS fW0 ops (i + 1)), iN (cntS fW1 ops (i + 1))] 57), (rC b1 #[i64 0, i64 0, i64 0, i64 0, i64 0, i64 0, i64 0, i64 0] 57), (a0, sob EI 3 (rdS ops ops.length) b0)]) (by rw [cnt_succ ho hi.A, cnt_succ ho hi.B, cnt_succ ho hi.O, cnt_succ ho hi.T0, cnt_succ ho hi.T1, cnt_succ ho hi.W0, cnt_succ ho hi.W1] <;> rfl)
        exact ⟨i + 1, _, rfl, ⟨rfl, rfl, rfl, rfl, congrArg (fun q : Nat => i64 (q : Int)) (gb_no ho hi.G).symm, rfl, trivial⟩, ⟨om, c1⟩, vd⟩
       ·refine go 2 ?_
        refine condProp ((o.kd : Int) = (19 : Int)) rfl (fun j0 => ?_) (fun j0 => ?_)
        ·refine go 7 ?_
         intro B2 C2 D2
         refine go 7 ?_
         intro E2 d1 F2
         refine go 3 ?_
         have hi := incT (.inr j0)
         have e1 := ((d1.dropk 3)).as (L' := [(rC b5 #[iN (cntS fA ops (i + 1)), iN (cntS fB ops (i + 1)), iN (cntS fO ops (i + 1)), iN (cntS fT0 ops (i + 1)), iN (cntS fT1 ops (i + 1)), i64 (mxS (rdS ops ops.length) (i + 1)), iN (cntS fW0 ops (i + 1)), iN (cntS fW1 ops (i + 1))] 57), (rC b1 #[i64 0, i64 0, i64 0, i64 0, i64 0, i64 0, i64 0, i64 0] 57), (a0, sob EI 3 (rdS ops ops.length) b0)]) (by rw [cnt_succ ho hi.A, cnt_succ ho hi.B, cnt_succ ho hi.O, cnt_succ ho hi.T0, cnt_succ ho hi.T1, cnt_succ ho hi.W0, cnt_succ ho hi.W1] <;> rfl)
         exact ⟨i + 1, _, rfl, ⟨rfl, rfl, rfl, rfl, congrArg (fun q : Nat => i64 (q : Int)) (gb_no ho hi.G).symm, rfl, trivial⟩, ⟨om, e1⟩, vd⟩
        ·refine go 3 ?_
         have hi := inc0 k1 k6 k9 h0 j0 e0
         have g1 := ((c0.dropk 3)).as (L' := [(rC b5 #[iN (cntS fA ops (i + 1)), iN (cntS fB ops (i + 1)), iN (cntS fO ops (i + 1)), iN (cntS fT0 ops (i + 1)), iN (cntS fT1 ops (i + 1)), i64 (mxS (rdS ops ops.length) (i + 1)), iN (cntS fW0 ops (i + 1)), iN (cntS fW1 ops (i + 1))] 57), (rC b1 #[i64 0, i64 0, i64 0, i64 0, i64 0, i64 0, i64 0, i64 0] 57), (a0, sob EI 3 (rdS ops ops.length) b0)]) (by rw [cnt_succ ho hi.A, cnt_succ ho hi.B, cnt_succ ho hi.O, cnt_succ ho hi.T0, cnt_succ ho hi.T1, cnt_succ ho hi.W0, cnt_succ ho hi.W1] <;> rfl)
         exact ⟨i + 1, _, rfl, ⟨rfl, rfl, rfl, rfl, congrArg (fun q : Nat => i64 (q : Int)) (gb_no ho hi.G).symm, rfl, trivial⟩, ⟨om, g1⟩, vd⟩
  ·refine go 0 ?_
   refine drawAny (K := [none, none, none, none, none, none, none]) [0, 0, 3, 7, 0, 16, 63] (fun w' => Ext A0 w') (fun w' w'' => Ext w' w'') mixed (by kernel_rfl) (Ext.drew _) (fun _ _ h h' => h.trans h') ?_ ?_
   ·exact relNone (by decide)
   refine gk 7 ?_
   intro r142 G2 h1 hF
   have i1 := l0.ext h1
   refine go 0 ?_
   refine condProp ((mxS (rdS ops ops.length) i : Int) < ((rdS ops ops.length).getD i 0)) rfl (fun cj28 => ?_) (fun cj28 => ?_)
   ·refine go 6 ?_
    intro H2 j1 I2
    refine wnil (thenNormal ?_)
    have l1 := ((j1.pk 4 [1, 2, 3, 0])).as (L' := [(rC b5 #[iN (cntS fA ops i), iN (cntS fB ops i), iN (cntS fO ops i), iN (cntS fT0 ops i), iN (cntS fT1 ops i), i64 (mxS (rdS ops ops.length) (i + 1)), iN (cntS fW0 ops i), iN (cntS fW1 ops i)] 57), (rC b1 #[i64 0, i64 0, i64 0, i64 0, i64 0, i64 0, i64 0, i64 0] 57), (a0, sob EI 3 (rdS ops ops.length) b0), (rC d0 #[i64 (o.kd), i64 (o.a), i64 (o.b), i64 (o.k), u64 (o.c), i64 (o.pt)] 36)]) (by rw [show mxS (rdS ops ops.length) (i + 1) = _ from Int.max_eq_right om] <;> rfl)
    exact n0 () _ _ kp ⟨trivial, l1⟩
   ·refine skipAny (thenNormal ?_)
    have m1 := ((i1.pk 4 [1, 2, 3, 0])).as (L' := [(rC b5 #[iN (cntS fA ops i), iN (cntS fB ops i), iN (cntS fO ops i), iN (cntS fT0 ops i), iN (cntS fT1 ops i), i64 (mxS (rdS ops ops.length) (i + 1)), iN (cntS fW0 ops i), iN (cntS fW1 ops i)] 57), (rC b1 #[i64 0, i64 0, i64 0, i64 0, i64 0, i64 0, i64 0, i64 0] 57), (a0, sob EI 3 (rdS ops ops.length) b0), (rC d0 #[i64 (o.kd), i64 (o.a), i64 (o.b), i64 (o.k), u64 (o.c), i64 (o.pt)] 36)]) (by rw [show mxS (rdS ops ops.length) (i + 1) = _ from Int.max_eq_left om] <;> rfl)
    exact n0 () _ _ kp ⟨trivial, m1⟩
 ·have hie : i = ops.length := by omega
  subst hie
  refine go 4 ?_
  refine sq (r_addI rfl rfl (by have := gb_le ops ops.length; omega)) ?_
  refine go 3 ?_
  intro J2 K2 L2
  refine go 2 ?_
  intro M2 n1 N2
  refine go 0 ?_
  exact ⟨_, rfl, rfl, n1.chg⟩
end Go.Proofs.YtohngnahcgbfmaaGreatDoor.Mt
namespace Go.Proofs.YtohngnahcgbfmaaGreatDoor.Co
open Go Vc Er
theorem und34 : Tryz.prog.underlying 34 = some (.int .u64) := by kernel_rfl
theorem fitsLb : Fits Tryz.prog 83 ELb := ⟨by kernel_rfl, .inr ⟨by kernel_rfl, fun _ => rfl⟩⟩
end Go.Proofs.YtohngnahcgbfmaaGreatDoor.Co
namespace Go.Proofs.YtohngnahcgbfmaaGreatDoor.Co
open Go Vc Er
theorem sli23 : sli Tryz.prog 23 = some (34, 1) := by kernel_rfl
theorem rdeal_ok (ws : List (BitVec 64)) (wa : Option Addr) (wc : Nat) (n1 n2 n3 : Nat) (hn1 : n1 ≤ 65536) (hn2 : n2 ≤ 65536) (hn3 : n3 ≤ 65536) (w : World) (hW : Rd E64 w wa ws) (hlen : ws.length ≤ 140737488355328) (hfit : 5 * (n1 + n2 + n3) ≤ ws.length) : Calls Tryz.prog 26 [.slice wa ws.length wc, iN n1, iN n2, iN n3].toArray w (Ret fun v w' => ∃ (kyta : Option Nat) (ccta : Nat) (zzta : LV) (kyba : Option Nat) (ccba : Nat) (zzba : LV) (kyoa : Option Nat) (ccoa : Nat) (zzoa : LV) (kytb : Option Nat) (cctb : Nat) (zztb : LV) (kybb : Option Nat) (ccbb : Nat) (zzbb : LV) (kyob : Option Nat) (ccob : Nat) (zzob : LV), v = .tuple #[.agg #[sO kyta (rowsOf (trA ws) 0 n1).length ccta, sO kyba (rowsOf (trA ws) (5 * n1) n2).length ccba, sO kyoa (rowsOf (otA ws) (5 * (n1 + n2)) n3).length ccoa, sO kytb (rowsOf (trB ws) 0 n1).length cctb, sO kybb (rowsOf (biB ws) (5 * n1) n2).length ccbb, sO kyob (rowsOf (otB ws) (5 * (n1 + n2)) n3).length ccob], i64 (0 : Int)] ∧ Sl ETr kyta (rowsOf (trA ws) 0 n1) ccta zzta ∧ Sl ETr kyba (rowsOf (trA ws) (5 * n1) n2) ccba zzba ∧ Sl EOt kyoa (rowsOf (otA ws) (5 * (n1 + n2)) n3) ccoa zzoa ∧ Sl ETr kytb (rowsOf (trB ws) 0 n1) cctb zztb ∧ Sl ETr kybb (rowsOf (biB ws) (5 * n1) n2) ccbb zzbb ∧ Sl EOt kyob (rowsOf (otB ws) (5 * (n1 + n2)) n3) ccob zzob ∧ Hp No w w' [(kyta, sob ETr 66 (rowsOf (trA ws) 0 n1) zzta), (kyba, sob ETr 66 (rowsOf (trA ws) (5 * n1) n2) zzba), (kyoa, sob EOt 121 (rowsOf (otA ws) (5 * (n1 + n2)) n3) zzoa), (kytb, sob ETr 66 (rowsOf (trB ws) 0 n1) zztb), (kybb, sob ETr 66 (rowsOf (biB ws) (5 * n1) n2) zzbb), (kyob, sob EOt 121 (rowsOf (otB ws) (5 * (n1 + n2)) n3) zzob)]) := by
 let x1 : Array Value := #[sN0, sN0, sN0, sN0, sN0, sN0]
 have H := Hp.start No w
 refine enter (n := 276) Tryz.func26 rfl rfl (bLe rfl) ?_
 refine go 1 ?_
 intro b1 w2 d4 H3 e4
 refine go 3 ?_
 intro b5 w6 f4 H7 g4
 refine go 1 ?_
 intro w9 e2 h4
 refine go 1 ?_
 refine sq ((r_lssI rfl rfl).as (v' := .bool false) (by exact congrArg Value.bool (decide_eq_false om))) ?_
 refine go 2 ?_
 refine sqAny (v := .bool false) (w' := w9) (wantedSome (d' := 24) (b := false) rfl rfl rfl) ((r_gtrI rfl rfl).as (v' := .bool false) (by exact congrArg Value.bool (decide_eq_false om))) ?_
 refine go 3 ?_
 refine sqAny (v := .bool false) (w' := w9) (wantedSome (d' := 28) (b := false) rfl rfl rfl) ((r_lssI rfl rfl).as (v' := .bool false) (by exact congrArg Value.bool (decide_eq_false om))) ?_
 refine go 3 ?_
 refine sqAny (v := .bool false) (w' := w9) (wantedSome (d' := 32) (b := false) rfl rfl rfl) ((r_gtrI rfl rfl).as (v' := .bool false) (by exact congrArg Value.bool (decide_eq_false om))) ?_
 refine go 3 ?_
 refine sqAny (v := .bool false) (w' := w9) (wantedSome (d' := 36) (b := false) rfl rfl rfl) ((r_lssI rfl rfl).as (v' := .bool false) (by exact congrArg Value.bool (decide_eq_false om))) ?_
 refine go 3 ?_
 refine sqAny (v := .bool false) (w' := w9) (wantedSome (d' := 40) (b := false) rfl rfl rfl) ((r_gtrI rfl rfl).as (v' := .bool false) (by exact congrArg Value.bool (decide_eq_false om))) ?_
 refine go 9 ?_
 refine sq ((r_lssI rfl rfl).as (v' := .bool false) (by exact congrArg Value.bool (decide_eq_false om))) ?_
 refine go 2 ?_
 refine loopAny (σ := Nat × Option Nat × Nat × LV × Option Nat × Nat × LV) (fun (zi, kyta, ccta, zzta, kytb, cctb, zztb) => [(0, .slice wa ws.length wc), (1, iN n1), (2, iN n2), (3, iN n3), (8, pT b1), (9, i64 0), (10, pT b5), (11, iN (0 + 5 * zi)), (12, iN zi)]) (fun (zi, kyta, ccta, zzta, kytb, cctb, zztb) w' => (zi ≤ n1 ∧ Sl ETr kyta (rowsOf (trA ws) 0 zi) ccta zzta ∧ Sl ETr kytb (rowsOf (trB ws) 0 zi) cctb zztb) ∧ Hp No w w' [(rC b5 #[sO kyta zi ccta, sN0, sN0, sO kytb zi cctb, sN0, sN0] 43), (kyta, sob ETr 66 (rowsOf (trA ws) 0 zi) zzta), (kytb, sob ETr 66 (rowsOf (trB ws) 0 zi) zztb), (rC b1 x1 43)]) (fun (zi, kyta, ccta, zzta, kytb, cctb, zztb) => n1 - zi) ((0, none, 0, [], none, 0, [])) ?_ ?_ ?_
 ·exact ⟨rfl, rfl, rfl, rfl, rfl, rfl, rfl, congrArg i64 om, rfl, trivial⟩
 ·exact ⟨⟨Nat.zero_le _, Sl.none, Sl.none⟩, (((e2.nil (sob ETr 66 [] [])).nil (sob ETr 66 [] [])).pk 4 [2, 1, 0, 3])⟩
 rintro ⟨zi, kyta, ccta, zzta, kytb, cctb, zztb⟩ ρ f2 ⟨⟨hzi, hkyta, hkytb⟩, t1⟩
 refine go 3 ?_
 refine condProp (((zi : Nat) : Int) < (n1 : Nat)) rfl (fun g2 => ?_) (fun g2 => ?_)
 ·refine go 0 ?_
  refine drawAny (K := [none, none, none, none, none, none, none, none, none, none, none, none, none, none, none, none, none, none, none, none, none, none, none]) [0, 0, 3, 7, 0, 0, 32, 112, 240, 511, 0, 0, 2048, 7168, 15360, 0, 0, 65536, 229376, 491520, 1047552, 1023, 4194303] (fun w' => Ext f2 w') (fun w' w'' => Ext w' w'') mixed (by kernel_rfl) (Ext.drew _) (fun _ _ h h' => h.trans h') ?_ ?_
  ·exact relNone (by decide)
  refine gk 23 ?_
  intro r63 i4 h2 hF
  have i2 := t1.ext h2
  refine go 0 ?_
  let D0 : List RW := [(kytb, sob ETr 66 (rowsOf (trB ws) 0 zi) zztb), (rC b1 x1 43)]
  let L0 := fun (b0 : Nat) => (((some b0), sob ETr 66 ([⟨ws.getD (0 + 5 * zi) 0#64, ws.getD ((0 + 5 * zi) + 2) 0#64, ws.getD ((0 + 5 * zi) + 4) 0#64⟩] : List Tr) ([])) : RW)
  let u1 := ((kyta, sob ETr 66 (rowsOf (trA ws) 0 zi) zzta) : RW)
  let Z0 := ((rC b5 #[sO kyta zi ccta, sN0, sN0, sO kytb zi cctb, sN0, sN0] 43) : RW)
  let M0 := fun (b0 : Nat) => (Sl ETr (some b0) ([⟨ws.getD (0 + 5 * zi) 0#64, ws.getD ((0 + 5 * zi) + 2) 0#64, ws.getD ((0 + 5 * zi) + 4) 0#64⟩] : List Tr) 1 ([]) : Prop)
  let j2 : Tab := [zt3 false false false fun _ _ _ w' => Hp No w w' (Z0 :: u1 :: D0), zt3 true false false fun v18 _ _ w' => ∃ b0, v18 = sO (some b0) 1 1 ∧ (M0 b0) ∧ Hp No w w' ((L0 b0) :: Z0 :: u1 :: D0), zt3 true true false fun v18 v19 _ w' => ∃ b0 f0 l0 p0, v18 = sO (some b0) 1 1 ∧ v19 = sO f0 (zi + 1) l0 ∧ (M0 b0) ∧ Sl ETr f0 (rowsOf (trA ws) 0 (zi + 1)) l0 p0 ∧ Hp No w w' ((L0 b0) :: Z0 :: (f0, sob ETr 66 (rowsOf (trA ws) 0 (zi + 1)) p0) :: D0), zt3 true true true fun v18 v19 _ w' => ∃ b0 f0 l0 p0, v18 = sO (some b0) 1 1 ∧ v19 = sO f0 (zi + 1) l0 ∧ (M0 b0) ∧ Sl ETr f0 (rowsOf (trA ws) 0 (zi + 1)) l0 p0 ∧ Hp No w w' ((L0 b0) :: (rC b5 #[sO f0 (zi + 1) l0, sN0, sN0, sO kytb zi cctb, sN0, sN0] 43) :: (f0, sob ETr 66 (rowsOf (trA ws) 0 (zi + 1)) p0) :: D0)]
  refine drawH (m := 23) [0, 1, 3, 0, 0, 24, 56, 0, 0, 256, 896, 1920, 0, 0, 8192, 28672, 61440, 131064, 262136, 524287, 1048575, 2097151, 4194303] [18, 19, 22] D0 j2 mixed (fun _ e => i2.ext e) (A_ (fun _ _ h => h.drop1.drop1) (A_ (fun _ _ ⟨_, _, _, h⟩ => h.drop1.drop1.drop1) (A_ (fun _ _ ⟨_, _, _, _, _, _, _, _, h⟩ => h.drop1.drop1.drop1) (A_ (fun _ _ ⟨_, _, _, _, _, _, _, _, h⟩ => h.drop1.drop1.drop1) trivial)))) (fun c1 => ?_)
  refine gk 18 ?_
  refine WalkT.eff c1 0 ?_ ?_
  ·refine A_ (fun r w0 uw hF hE => ?_) trivial
   have j4 := hF.ext hE
   exact gW fun Q' hK => (bS (E := ETr) (l := ([⟨ws.getD (0 + 5 * zi) 0#64, ws.getD ((0 + 5 * zi) + 2) 0#64, ws.getD ((0 + 5 * zi) + 4) 0#64⟩] : List Tr)) fun k2 k4 l2 m2 l4 => hK _ _ (E_ k2 (A_ rfl (A_ l2 m2))))
  refine WalkT.eff c1 1 ?_ ?_
  ·refine A_ (fun r w0 uw hF hE => ?_) trivial
   obtain ⟨b0, j0, H0, w1⟩ := hF
   replace w1 := w1.ext hE
   dsimp only
   rw [j0]
   refine gW fun Q' hK => ?_
   refine apq ?_
   refine ⟨by rw [rowsOf_len], by rfl, om, ?_⟩
   intro o2 p2 q2 m4 r2 n4 s2
   have t2 : (rowsOf (trA ws) 0 zi) ++ ([⟨ws.getD (0 + 5 * zi) 0#64, ws.getD ((0 + 5 * zi) + 2) 0#64, ws.getD ((0 + 5 * zi) + 4) 0#64⟩] : List Tr) = rowsOf (trA ws) 0 (zi + 1) := by rw [rowsOf_succ]; rfl
   have y1 := r2
   have z1 := s2
   rw [t2] at y1 z1
   exact hK _ _ (E_ b0 (E_ o2 (E_ p2 (E_ q2 (A_ j0 (A_ rfl (A_ H0 (A_ y1 z1))))))))
  refine gk 2 ?_
  refine WalkT.eff c1 2 ?_ ?_
  ·refine A_ (fun r w0 uw hF hE => ?_) trivial
   obtain ⟨b0, f0, l0, p0, j0, u0, H0, d1, A1⟩ := hF
   replace A1 := A1.ext hE
   dsimp only
   rw [u0]
   refine gW0 fun Q' hK => ?_
   refine go 1 ?_
   intro o4 u2 p4
   exact hK _ (fun _ => (E_ b0 (E_ f0 (E_ l0 (E_ p0 (A_ j0 (A_ u0 (A_ H0 (A_ d1 u2)))))))))
  refine WalkT.nil fun r w0 q4 hF hE => ?_
  obtain ⟨b0, f0, l0, p0, j0, u0, H0, d1, N0⟩ := hF
  replace N0 := N0.ext hE
  dsimp only
  rw [j0, u0]
  dsimp only [M0] at H0
  dsimp only [D0, L0] at N0
  refine go 0 ?_
  have y2 := (N0.pk 5 [1, 3, 0, 2, 4])
  let E0 : List RW := [((some b0), sob ETr 66 ([⟨ws.getD (0 + 5 * zi) 0#64, ws.getD ((0 + 5 * zi) + 2) 0#64, ws.getD ((0 + 5 * zi) + 4) 0#64⟩] : List Tr) ([])), (f0, sob ETr 66 (rowsOf (trA ws) 0 (zi + 1)) p0), (rC b1 x1 43)]
  let O0 := fun (d0 : Nat) => (((some d0), sob ETr 66 ([⟨ws.getD ((0 + 5 * zi) + 1) 0#64, ws.getD ((0 + 5 * zi) + 3) 0#64, (((ws.getD (0 + 5 * zi) 0#64) + (ws.getD ((0 + 5 * zi) + 1) 0#64)) * ((ws.getD ((0 + 5 * zi) + 2) 0#64) + (ws.getD ((0 + 5 * zi) + 3) 0#64))) - (ws.getD ((0 + 5 * zi) + 4) 0#64)⟩] : List Tr) ([])) : RW)
  let B1 := ((kytb, sob ETr 66 (rowsOf (trB ws) 0 zi) zztb) : RW)
  let e1 := ((rC b5 #[sO f0 (zi + 1) l0, sN0, sN0, sO kytb zi cctb, sN0, sN0] 43) : RW)
  let P0 := fun (d0 : Nat) => (Sl ETr (some d0) ([⟨ws.getD ((0 + 5 * zi) + 1) 0#64, ws.getD ((0 + 5 * zi) + 3) 0#64, (((ws.getD (0 + 5 * zi) 0#64) + (ws.getD ((0 + 5 * zi) + 1) 0#64)) * ((ws.getD ((0 + 5 * zi) + 2) 0#64) + (ws.getD ((0 + 5 * zi) + 3) 0#64))) - (ws.getD ((0 + 5 * zi) + 4) 0#64)⟩] : List Tr) 1 ([]) : Prop)
  let z2 : Tab := [zt3 false false false fun _ _ _ w' => Hp No w w' (e1 :: B1 :: E0), zt3 true false false fun v23 _ _ w' => ∃ d0, v23 = sO (some d0) 1 1 ∧ (P0 d0) ∧ Hp No w w' ((O0 d0) :: e1 :: B1 :: E0), zt3 true true false fun v23 v24 _ w' => ∃ d0 m0 q0 x0, v23 = sO (some d0) 1 1 ∧ v24 = sO m0 (zi + 1) q0 ∧ (P0 d0) ∧ Sl ETr m0 (rowsOf (trB ws) 0 (zi + 1)) q0 x0 ∧ Hp No w w' ((O0 d0) :: e1 :: (m0, sob ETr 66 (rowsOf (trB ws) 0 (zi + 1)) x0) :: E0), zt3 true true true fun v23 v24 _ w' => ∃ d0 m0 q0 x0, v23 = sO (some d0) 1 1 ∧ v24 = sO m0 (zi + 1) q0 ∧ (P0 d0) ∧ Sl ETr m0 (rowsOf (trB ws) 0 (zi + 1)) q0 x0 ∧ Hp No w w' ((O0 d0) :: (rC b5 #[sO f0 (zi + 1) l0, sN0, sN0, sO m0 (zi + 1) q0, sN0, sN0] 43) :: (m0, sob ETr 66 (rowsOf (trB ws) 0 (zi + 1)) x0) :: E0)]
  refine drawH (m := 28) [0, 1, 3, 0, 0, 16, 56, 120, 0, 0, 512, 1792, 3840, 0, 0, 24576, 0, 0, 131072, 458752, 983040, 2088960, 4194296, 8388600, 16777215, 33554431, 67108863, 134217727] [23, 24, 27] E0 z2 mixed (fun _ e => y2.ext e) (A_ (fun _ _ h => h.drop1.drop1) (A_ (fun _ _ ⟨_, _, _, h⟩ => h.drop1.drop1.drop1) (A_ (fun _ _ ⟨_, _, _, _, _, _, _, _, h⟩ => h.drop1.drop1.drop1) (A_ (fun _ _ ⟨_, _, _, _, _, _, _, _, h⟩ => h.drop1.drop1.drop1) trivial)))) (fun g1 => ?_)
  refine gk 23 ?_
  refine WalkT.eff g1 0 ?_ ?_
  ·refine A_ (fun r w0 uw hF hE => ?_) trivial
   have r4 := hF.ext hE
   exact gW fun Q' hK => (bS (E := ETr) (l := ([⟨ws.getD ((0 + 5 * zi) + 1) 0#64, ws.getD ((0 + 5 * zi) + 3) 0#64, (((ws.getD (0 + 5 * zi) 0#64) + (ws.getD ((0 + 5 * zi) + 1) 0#64)) * ((ws.getD ((0 + 5 * zi) + 2) 0#64) + (ws.getD ((0 + 5 * zi) + 3) 0#64))) - (ws.getD ((0 + 5 * zi) + 4) 0#64)⟩] : List Tr)) fun A2 s4 B2 C2 t4 => hK _ _ (E_ A2 (A_ rfl (A_ B2 C2))))
  refine WalkT.eff g1 1 ?_ ?_
  ·refine A_ (fun r w0 uw hF hE => ?_) trivial
   obtain ⟨d0, k0, I0, C1⟩ := hF
   replace C1 := C1.ext hE
   dsimp only
   rw [k0]
   refine gW fun Q' hK => ?_
   refine apq ?_
   refine ⟨by rw [rowsOf_len], by rfl, om, ?_⟩
   intro D2 E2 F2 u4 G2 w4 H2
   have I2 : (rowsOf (trB ws) 0 zi) ++ ([⟨ws.getD ((0 + 5 * zi) + 1) 0#64, ws.getD ((0 + 5 * zi) + 3) 0#64, (((ws.getD (0 + 5 * zi) 0#64) + (ws.getD ((0 + 5 * zi) + 1) 0#64)) * ((ws.getD ((0 + 5 * zi) + 2) 0#64) + (ws.getD ((0 + 5 * zi) + 3) 0#64))) - (ws.getD ((0 + 5 * zi) + 4) 0#64)⟩] : List Tr) = rowsOf (trB ws) 0 (zi + 1) := by rw [rowsOf_succ]; rfl
   have D1 := G2
   have E1 := H2
   rw [I2] at D1 E1
   exact hK _ _ (E_ d0 (E_ D2 (E_ E2 (E_ F2 (A_ k0 (A_ rfl (A_ I0 (A_ D1 E1))))))))
  refine gk 2 ?_
  refine WalkT.eff g1 2 ?_ ?_
  ·refine A_ (fun r w0 uw hF hE => ?_) trivial
   obtain ⟨d0, m0, q0, x0, k0, y0, I0, h1, F1⟩ := hF
   replace F1 := F1.ext hE
   dsimp only
   rw [y0]
   refine gW0 fun Q' hK => ?_
   refine go 1 ?_
   intro x4 J2 y4
   exact hK _ (fun _ => (E_ d0 (E_ m0 (E_ q0 (E_ x0 (A_ k0 (A_ y0 (A_ I0 (A_ h1 J2)))))))))
  refine WalkT.nil fun r w0 z4 hF hE => ?_
  obtain ⟨d0, m0, q0, x0, k0, y0, I0, h1, Q0⟩ := hF
  replace Q0 := Q0.ext hE
  dsimp only
  rw [k0, y0]
  dsimp only [P0] at I0
  dsimp only [E0, O0] at Q0
  refine go 6 ?_
  exact ⟨(zi + 1, f0, l0, p0, m0, q0, x0), _, rfl, ⟨rfl, rfl, rfl, rfl, rfl, rfl, rfl, congrArg i64 om, rfl, trivial⟩, ⟨⟨om, d1, h1⟩, (Q0.pk 6 [1, 4, 2, 5])⟩, vd⟩
 ·obtain rfl : n1 = zi := by omega
  let x3 : RW := (kytb, sob ETr 66 (rowsOf (trB ws) 0 n1) zztb)
  let x2 : RW := (kyta, sob ETr 66 (rowsOf (trA ws) 0 n1) zzta)
  refine go 1 ?_
  refine loopAny (σ := Nat × Option Nat × Nat × LV × Option Nat × Nat × LV) (fun (zi, kyba, ccba, zzba, kybb, ccbb, zzbb) => [(0, .slice wa ws.length wc), (1, iN n1), (2, iN n2), (3, iN n3), (8, pT b1), (9, i64 0), (10, pT b5), (11, iN (5 * n1 + 5 * zi)), (15, iN zi)]) (fun (zi, kyba, ccba, zzba, kybb, ccbb, zzbb) w' => (zi ≤ n2 ∧ Sl ETr kyba (rowsOf (trA ws) (5 * n1) zi) ccba zzba ∧ Sl ETr kybb (rowsOf (biB ws) (5 * n1) zi) ccbb zzbb) ∧ Hp No w w' [(rC b5 #[sO kyta n1 ccta, sO kyba zi ccba, sN0, sO kytb n1 cctb, sO kybb zi ccbb, sN0] 43), x2, x3, (kyba, sob ETr 66 (rowsOf (trA ws) (5 * n1) zi) zzba), (kybb, sob ETr 66 (rowsOf (biB ws) (5 * n1) zi) zzbb), (rC b1 x1 43)]) (fun (zi, kyba, ccba, zzba, kybb, ccbb, zzbb) => n2 - zi) ((0, none, 0, [], none, 0, [])) ?_ ?_ ?_
  ·exact ⟨rfl, rfl, rfl, rfl, rfl, rfl, rfl, congrArg i64 om, rfl, trivial⟩
  ·exact ⟨⟨Nat.zero_le _, Sl.none, Sl.none⟩, (((t1.nil (sob ETr 66 [] [])).nil (sob ETr 66 [] [])).pk 6 [2, 3, 4, 1, 0, 5])⟩
  rintro ⟨zi, kyba, ccba, zzba, kybb, ccbb, zzbb⟩ ρ K2 ⟨⟨hzi, hkyba, hkybb⟩, G1⟩
  refine go 3 ?_
  refine condProp (((zi : Nat) : Int) < (n2 : Nat)) rfl (fun L2 => ?_) (fun L2 => ?_)
  ·refine go 0 ?_
   refine drawAny (K := [none, none, none, none, none, none, none, none, none, none, none, none, none, none, none, none, none, none, none, none, none, none, none]) [0, 0, 3, 7, 0, 0, 32, 112, 240, 511, 0, 0, 2048, 7168, 15360, 0, 0, 65536, 229376, 491520, 1047552, 1023, 4194303] (fun w' => Ext K2 w') (fun w' w'' => Ext w' w'') mixed (by kernel_rfl) (Ext.drew _) (fun _ _ h h' => h.trans h') ?_ ?_
   ·exact relNone (by decide)
   refine gk 23 ?_
   intro r260 A4 M2 hF
   have N2 := G1.ext M2
   refine go 0 ?_
   have O2 := (N2.pk 6 [0, 3, 1, 2, 4, 5])
   let F0 : List RW := [x2, x3, (kybb, sob ETr 66 (rowsOf (biB ws) (5 * n1) zi) zzbb), (rC b1 x1 43)]
   let R0 := fun (c0 : Nat) => (((some c0), sob ETr 66 ([⟨ws.getD (5 * n1 + 5 * zi) 0#64, ws.getD ((5 * n1 + 5 * zi) + 2) 0#64, ws.getD ((5 * n1 + 5 * zi) + 4) 0#64⟩] : List Tr) ([])) : RW)
   let H1 := ((kyba, sob ETr 66 (rowsOf (trA ws) (5 * n1) zi) zzba) : RW)
   let i1 := ((rC b5 #[sO kyta n1 ccta, sO kyba zi ccba, sN0, sO kytb n1 cctb, sO kybb zi ccbb, sN0] 43) : RW)
   let S0 := fun (c0 : Nat) => (Sl ETr (some c0) ([⟨ws.getD (5 * n1 + 5 * zi) 0#64, ws.getD ((5 * n1 + 5 * zi) + 2) 0#64, ws.getD ((5 * n1 + 5 * zi) + 4) 0#64⟩] : List Tr) 1 ([]) : Prop)
   let P2 : Tab := [zt3 false false false fun _ _ _ w' => Hp No w w' (i1 :: H1 :: F0), zt3 true false false fun v18 _ _ w' => ∃ c0, v18 = sO (some c0) 1 1 ∧ (S0 c0) ∧ Hp No w w' ((R0 c0) :: i1 :: H1 :: F0), zt3 true true false fun v18 v19 _ w' => ∃ c0 h0 n0 r0, v18 = sO (some c0) 1 1 ∧ v19 = sO h0 (zi + 1) n0 ∧ (S0 c0) ∧ Sl ETr h0 (rowsOf (trA ws) (5 * n1) (zi + 1)) n0 r0 ∧ Hp No w w' ((R0 c0) :: i1 :: (h0, sob ETr 66 (rowsOf (trA ws) (5 * n1) (zi + 1)) r0) :: F0), zt3 true true true fun v18 v19 _ w' => ∃ c0 h0 n0 r0, v18 = sO (some c0) 1 1 ∧ v19 = sO h0 (zi + 1) n0 ∧ (S0 c0) ∧ Sl ETr h0 (rowsOf (trA ws) (5 * n1) (zi + 1)) n0 r0 ∧ Hp No w w' ((R0 c0) :: (rC b5 #[sO kyta n1 ccta, sO h0 (zi + 1) n0, sN0, sO kytb n1 cctb, sO kybb zi ccbb, sN0] 43) :: (h0, sob ETr 66 (rowsOf (trA ws) (5 * n1) (zi + 1)) r0) :: F0)]
   refine drawH (m := 23) [0, 1, 3, 0, 0, 24, 56, 0, 0, 256, 896, 1920, 0, 0, 8192, 28672, 61440, 131064, 262136, 524287, 1048575, 2097151, 4194303] [18, 19, 22] F0 P2 mixed (fun _ e => O2.ext e) (A_ (fun _ _ h => h.drop1.drop1) (A_ (fun _ _ ⟨_, _, _, h⟩ => h.drop1.drop1.drop1) (A_ (fun _ _ ⟨_, _, _, _, _, _, _, _, h⟩ => h.drop1.drop1.drop1) (A_ (fun _ _ ⟨_, _, _, _, _, _, _, _, h⟩ => h.drop1.drop1.drop1) trivial)))) (fun j1 => ?_)
   refine gk 18 ?_
   refine WalkT.eff j1 0 ?_ ?_
   ·refine A_ (fun r w0 uw hF hE => ?_) trivial
    have B4 := hF.ext hE
    exact gW fun Q' hK => (bS (E := ETr) (l := ([⟨ws.getD (5 * n1 + 5 * zi) 0#64, ws.getD ((5 * n1 + 5 * zi) + 2) 0#64, ws.getD ((5 * n1 + 5 * zi) + 4) 0#64⟩] : List Tr)) fun Q2 C4 R2 S2 D4 => hK _ _ (E_ Q2 (A_ rfl (A_ R2 S2))))
   refine WalkT.eff j1 1 ?_ ?_
   ·refine A_ (fun r w0 uw hF hE => ?_) trivial
    obtain ⟨c0, j0, J0, I1⟩ := hF
    replace I1 := I1.ext hE
    dsimp only
    rw [j0]
    refine gW fun Q' hK => ?_
    refine apq ?_
    refine ⟨by rw [rowsOf_len], by rfl, om, ?_⟩
    intro T2 U2 V2 F4 X2 G4 Y2
    have Z2 : (rowsOf (trA ws) (5 * n1) zi) ++ ([⟨ws.getD (5 * n1 + 5 * zi) 0#64, ws.getD ((5 * n1 + 5 * zi) + 2) 0#64, ws.getD ((5 * n1 + 5 * zi) + 4) 0#64⟩] : List Tr) = rowsOf (trA ws) (5 * n1) (zi + 1) := by rw [rowsOf_succ]; rfl
    have J1 := X2
    have K1 := Y2
    rw [Z2] at J1 K1
    exact hK _ _ (E_ c0 (E_ T2 (E_ U2 (E_ V2 (A_ j0 (A_ rfl (A_ J0 (A_ J1 K1))))))))
   refine gk 2 ?_
   refine WalkT.eff j1 2 ?_ ?_
   ·refine A_ (fun r w0 uw hF hE => ?_) trivial
    obtain ⟨c0, h0, n0, r0, j0, u0, J0, k1, L1⟩ := hF
    replace L1 := L1.ext hE
    dsimp only
    rw [u0]
    refine gW0 fun Q' hK => ?_
    refine go 1 ?_
    intro H4 c3 I4
    exact hK _ (fun _ => (E_ c0 (E_ h0 (E_ n0 (E_ r0 (A_ j0 (A_ u0 (A_ J0 (A_ k1 c3)))))))))
   refine WalkT.nil fun r w0 J4 hF hE => ?_
   obtain ⟨c0, h0, n0, r0, j0, u0, J0, k1, T0⟩ := hF
   replace T0 := T0.ext hE
   dsimp only
   rw [j0, u0]
   dsimp only [S0] at J0
   dsimp only [F0, R0] at T0
   refine go 0 ?_
   have d3 := (T0.pk 7 [1, 5, 0, 2, 3, 4, 6])
   let G0 : List RW := [((some c0), sob ETr 66 ([⟨ws.getD (5 * n1 + 5 * zi) 0#64, ws.getD ((5 * n1 + 5 * zi) + 2) 0#64, ws.getD ((5 * n1 + 5 * zi) + 4) 0#64⟩] : List Tr) ([])), (h0, sob ETr 66 (rowsOf (trA ws) (5 * n1) (zi + 1)) r0), x2, x3, (rC b1 x1 43)]
   let U0 := fun (e0 : Nat) => (((some e0), sob ETr 66 ([⟨ws.getD ((5 * n1 + 5 * zi) + 1) 0#64, ws.getD ((5 * n1 + 5 * zi) + 3) 0#64, (((ws.getD (5 * n1 + 5 * zi) 0#64) ^^^ (ws.getD ((5 * n1 + 5 * zi) + 1) 0#64)) &&& ((ws.getD ((5 * n1 + 5 * zi) + 2) 0#64) ^^^ (ws.getD ((5 * n1 + 5 * zi) + 3) 0#64))) ^^^ (ws.getD ((5 * n1 + 5 * zi) + 4) 0#64)⟩] : List Tr) ([])) : RW)
   let M1 := ((kybb, sob ETr 66 (rowsOf (biB ws) (5 * n1) zi) zzbb) : RW)
   let l1 := ((rC b5 #[sO kyta n1 ccta, sO h0 (zi + 1) n0, sN0, sO kytb n1 cctb, sO kybb zi ccbb, sN0] 43) : RW)
   let V0 := fun (e0 : Nat) => (Sl ETr (some e0) ([⟨ws.getD ((5 * n1 + 5 * zi) + 1) 0#64, ws.getD ((5 * n1 + 5 * zi) + 3) 0#64, (((ws.getD (5 * n1 + 5 * zi) 0#64) ^^^ (ws.getD ((5 * n1 + 5 * zi) + 1) 0#64)) &&& ((ws.getD ((5 * n1 + 5 * zi) + 2) 0#64) ^^^ (ws.getD ((5 * n1 + 5 * zi) + 3) 0#64))) ^^^ (ws.getD ((5 * n1 + 5 * zi) + 4) 0#64)⟩] : List Tr) 1 ([]) : Prop)
   let e3 : Tab := [zt3 false false false fun _ _ _ w' => Hp No w w' (l1 :: M1 :: G0), zt3 true false false fun v23 _ _ w' => ∃ e0, v23 = sO (some e0) 1 1 ∧ (V0 e0) ∧ Hp No w w' ((U0 e0) :: l1 :: M1 :: G0), zt3 true true false fun v23 v24 _ w' => ∃ e0 o0 s0 z0, v23 = sO (some e0) 1 1 ∧ v24 = sO o0 (zi + 1) s0 ∧ (V0 e0) ∧ Sl ETr o0 (rowsOf (biB ws) (5 * n1) (zi + 1)) s0 z0 ∧ Hp No w w' ((U0 e0) :: l1 :: (o0, sob ETr 66 (rowsOf (biB ws) (5 * n1) (zi + 1)) z0) :: G0), zt3 true true true fun v23 v24 _ w' => ∃ e0 o0 s0 z0, v23 = sO (some e0) 1 1 ∧ v24 = sO o0 (zi + 1) s0 ∧ (V0 e0) ∧ Sl ETr o0 (rowsOf (biB ws) (5 * n1) (zi + 1)) s0 z0 ∧ Hp No w w' ((U0 e0) :: (rC b5 #[sO kyta n1 ccta, sO h0 (zi + 1) n0, sN0, sO kytb n1 cctb, sO o0 (zi + 1) s0, sN0] 43) :: (o0, sob ETr 66 (rowsOf (biB ws) (5 * n1) (zi + 1)) z0) :: G0)]
   refine drawH (m := 28) [0, 1, 3, 0, 0, 16, 56, 120, 0, 0, 512, 1792, 3840, 0, 0, 24576, 0, 0, 131072, 458752, 983040, 2088960, 4194296, 8388600, 16777215, 33554431, 67108863, 134217727] [23, 24, 27] G0 e3 mixed (fun _ e => d3.ext e) (A_ (fun _ _ h => h.drop1.drop1) (A_ (fun _ _ ⟨_, _, _, h⟩ => h.drop1.drop1.drop1) (A_ (fun _ _ ⟨_, _, _, _, _, _, _, _, h⟩ => h.drop1.drop1.drop1) (A_ (fun _ _ ⟨_, _, _, _, _, _, _, _, h⟩ => h.drop1.drop1.drop1) trivial)))) (fun m1 => ?_)
   refine gk 23 ?_
   refine WalkT.eff m1 0 ?_ ?_
   ·refine A_ (fun r w0 uw hF hE => ?_) trivial
    have K4 := hF.ext hE
    exact gW fun Q' hK => (bS (E := ETr) (l := ([⟨ws.getD ((5 * n1 + 5 * zi) + 1) 0#64, ws.getD ((5 * n1 + 5 * zi) + 3) 0#64, (((ws.getD (5 * n1 + 5 * zi) 0#64) ^^^ (ws.getD ((5 * n1 + 5 * zi) + 1) 0#64)) &&& ((ws.getD ((5 * n1 + 5 * zi) + 2) 0#64) ^^^ (ws.getD ((5 * n1 + 5 * zi) + 3) 0#64))) ^^^ (ws.getD ((5 * n1 + 5 * zi) + 4) 0#64)⟩] : List Tr)) fun f3 L4 g3 h3 M4 => hK _ _ (E_ f3 (A_ rfl (A_ g3 h3))))
   refine WalkT.eff m1 1 ?_ ?_
   ·refine A_ (fun r w0 uw hF hE => ?_) trivial
    obtain ⟨e0, k0, K0, N1⟩ := hF
    replace N1 := N1.ext hE
    dsimp only
    rw [k0]
    refine gW fun Q' hK => ?_
    refine apq ?_
    refine ⟨by rw [rowsOf_len], by rfl, om, ?_⟩
    intro i3 j3 k3 N4 l3 O4 m3
    have o3 : (rowsOf (biB ws) (5 * n1) zi) ++ ([⟨ws.getD ((5 * n1 + 5 * zi) + 1) 0#64, ws.getD ((5 * n1 + 5 * zi) + 3) 0#64, (((ws.getD (5 * n1 + 5 * zi) 0#64) ^^^ (ws.getD ((5 * n1 + 5 * zi) + 1) 0#64)) &&& ((ws.getD ((5 * n1 + 5 * zi) + 2) 0#64) ^^^ (ws.getD ((5 * n1 + 5 * zi) + 3) 0#64))) ^^^ (ws.getD ((5 * n1 + 5 * zi) + 4) 0#64)⟩] : List Tr) = rowsOf (biB ws) (5 * n1) (zi + 1) := by rw [rowsOf_succ]; rfl
    have O1 := l3
    have P1 := m3
    rw [o3] at O1 P1
    exact hK _ _ (E_ e0 (E_ i3 (E_ j3 (E_ k3 (A_ k0 (A_ rfl (A_ K0 (A_ O1 P1))))))))
   refine gk 2 ?_
   refine WalkT.eff m1 2 ?_ ?_
   ·refine A_ (fun r w0 uw hF hE => ?_) trivial
    obtain ⟨e0, o0, s0, z0, k0, y0, K0, o1, Q1⟩ := hF
    replace Q1 := Q1.ext hE
    dsimp only
    rw [y0]
    refine gW0 fun Q' hK => ?_
    refine go 1 ?_
    intro P4 p3 Q4
    exact hK _ (fun _ => (E_ e0 (E_ o0 (E_ s0 (E_ z0 (A_ k0 (A_ y0 (A_ K0 (A_ o1 p3)))))))))
   refine WalkT.nil fun r w0 R4 hF hE => ?_
   obtain ⟨e0, o0, s0, z0, k0, y0, K0, o1, W0⟩ := hF
   replace W0 := W0.ext hE
   dsimp only
   rw [k0, y0]
   dsimp only [V0] at K0
   dsimp only [G0, U0] at W0
   refine go 6 ?_
   exact ⟨(zi + 1, h0, n0, r0, o0, s0, z0), _, rfl, ⟨rfl, rfl, rfl, rfl, rfl, rfl, rfl, congrArg i64 om, rfl, trivial⟩, ⟨⟨om, k1, o1⟩, (W0.pk 8 [1, 5, 6, 4, 2, 7])⟩, vd⟩
  ·obtain rfl : n2 = zi := by omega
   refine go 1 ?_
   refine loopAny (σ := Nat × Option Nat × Nat × LV × Option Nat × Nat × LV) (fun (zi, kyoa, ccoa, zzoa, kyob, ccob, zzob) => [(0, .slice wa ws.length wc), (1, iN n1), (2, iN n2), (3, iN n3), (8, pT b1), (9, i64 0), (10, pT b5), (11, iN (5 * (n1 + n2) + 5 * zi)), (18, iN zi)]) (fun (zi, kyoa, ccoa, zzoa, kyob, ccob, zzob) w' => (zi ≤ n3 ∧ Sl EOt kyoa (rowsOf (otA ws) (5 * (n1 + n2)) zi) ccoa zzoa ∧ Sl EOt kyob (rowsOf (otB ws) (5 * (n1 + n2)) zi) ccob zzob) ∧ Hp No w w' [(rC b5 #[sO kyta n1 ccta, sO kyba n2 ccba, sO kyoa zi ccoa, sO kytb n1 cctb, sO kybb n2 ccbb, sO kyob zi ccob] 43), x2, x3, (kyba, sob ETr 66 (rowsOf (trA ws) (5 * n1) n2) zzba), (kybb, sob ETr 66 (rowsOf (biB ws) (5 * n1) n2) zzbb), (kyoa, sob EOt 121 (rowsOf (otA ws) (5 * (n1 + n2)) zi) zzoa), (kyob, sob EOt 121 (rowsOf (otB ws) (5 * (n1 + n2)) zi) zzob), (rC b1 x1 43)]) (fun (zi, kyoa, ccoa, zzoa, kyob, ccob, zzob) => n3 - zi) ((0, none, 0, [], none, 0, [])) ?_ ?_ ?_
   ·exact ⟨rfl, rfl, rfl, rfl, rfl, rfl, rfl, congrArg i64 om, rfl, trivial⟩
   ·exact ⟨⟨Nat.zero_le _, Sl.none, Sl.none⟩, (((G1.nil (sob EOt 121 [] [])).nil (sob EOt 121 [] [])).pk 8 [2, 3, 4, 5, 6, 1, 0, 7])⟩
   rintro ⟨zi, kyoa, ccoa, zzoa, kyob, ccob, zzob⟩ ρ S4 ⟨⟨hzi, hkyoa, hkyob⟩, q3⟩
   refine go 3 ?_
   refine condProp (((zi : Nat) : Int) < (n3 : Nat)) rfl (fun r3 => ?_) (fun r3 => ?_)
   ·refine go 0 ?_
    let A0 : List RW := [(rC b5 #[sO kyta n1 ccta, sO kyba n2 ccba, sO kyoa zi ccoa, sO kytb n1 cctb, sO kybb n2 ccbb, sO kyob zi ccob] 43), x2, x3, (kyba, sob ETr 66 (rowsOf (trA ws) (5 * n1) n2) zzba), (kybb, sob ETr 66 (rowsOf (biB ws) (5 * n1) n2) zzbb), (kyoa, sob EOt 121 (rowsOf (otA ws) (5 * (n1 + n2)) zi) zzoa), (kyob, sob EOt 121 (rowsOf (otB ws) (5 * (n1 + n2)) zi) zzob), (rC b1 x1 43)]
    let p1 := fun (a0 : Nat) => ((rX a0 E64 ([ws.getD (5 * (n1 + n2) + 5 * zi) 0#64, ws.getD ((5 * (n1 + n2) + 5 * zi) + 1) 0#64]) 83) : RW)
    let R1 := fun (a0 : Nat) => ((rX a0 E64 ([0#64, 0#64]) 83) : RW)
    let S1 := fun (i0 : Nat) => ((rX i0 E64 ([0#64, 0#64]) 83) : RW)
    let s3 : Tab := [zt4 false false false false fun _ _ _ _ w' => Hp No w w' A0, zt4 true false false false fun v21 _ _ _ w' => ∃ a0, v21 = pT a0 ∧ Hp No w w' ((R1 a0) :: A0), zt4 false true false false fun _ v22 _ _ w' => ∃ X0, v22 = pT X0 ∧ Hp No w w' ((rX X0 E64 ([0#64, 0#64]) 83) :: A0), zt4 true true false false fun v21 v22 _ _ w' => ∃ a0 i0, v21 = pT a0 ∧ v22 = pT i0 ∧ Hp No w w' ((S1 i0) :: (R1 a0) :: A0), zt4 true true true false fun v21 v22 _ _ w' => ∃ a0 i0, v21 = pT a0 ∧ v22 = pT i0 ∧ Hp No w w' ((S1 i0) :: (p1 a0) :: A0), zt4 true true true true fun v21 v22 _ _ w' => ∃ a0 i0, v21 = pT a0 ∧ v22 = pT i0 ∧ Hp No w w' ((rX i0 E64 ([ws.getD ((5 * (n1 + n2) + 5 * zi) + 2) 0#64, ws.getD ((5 * (n1 + n2) + 5 * zi) + 3) 0#64]) 83) :: (p1 a0) :: A0)]
    refine drawH (m := 25) [0, 0, 3, 7, 0, 0, 32, 112, 240, 511, 0, 0, 2048, 7168, 15360, 0, 0, 65536, 229376, 491520, 1047552, 0, 0, 6292479, 16777215] [21, 22, 23, 24] A0 s3 mixed (fun _ e => q3.ext e) (A_ (fun _ _ h => h) (A_ (fun _ _ ⟨_, _, h⟩ => h.drop1) (A_ (fun _ _ ⟨_, _, h⟩ => h.drop1) (A_ (fun _ _ ⟨_, _, _, _, h⟩ => h.drop1.drop1) (A_ (fun _ _ ⟨_, _, _, _, h⟩ => h.drop1.drop1) (A_ (fun _ _ ⟨_, _, _, _, h⟩ => h.drop1.drop1) trivial)))))) (fun Y0 => ?_)
    refine gk 21 ?_
    refine WalkT.eff Y0 0 ?_ ?_
    ·refine A_ (fun r w0 uw hF hE => ?_) (A_ (fun r w0 uw hF hE => ?_) trivial)
     ·have T4 := hF.ext hE
      refine gW fun Q' hK => ?_
      refine go 1 ?_
      intro t3 U4 V4 u3 W4
      exact hK _ _ (E_ t3 (A_ rfl u3))
     ·obtain ⟨X0, B0, T1⟩ := hF
      replace T1 := T1.ext hE
      refine gW fun Q' hK => ?_
      refine go 1 ?_
      intro w3 X4 Y4 y3 Z4
      exact hK _ _ (E_ w3 (E_ X0 (A_ rfl (A_ B0 ((y3.pk 2 [1, 0]))))))
    refine WalkT.eff Y0 1 ?_ ?_
    ·refine A_ (fun r w0 uw hF hE => ?_) (A_ (fun r w0 uw hF hE => ?_) trivial)
     ·have c5 := hF.ext hE
      refine gW fun Q' hK => ?_
      refine go 1 ?_
      intro z3 d5 e5 A3 f5
      exact hK _ _ (E_ z3 (A_ rfl A3))
     ·obtain ⟨a0, C0, U1⟩ := hF
      replace U1 := U1.ext hE
      refine gW fun Q' hK => ?_
      refine go 1 ?_
      intro B3 g5 h5 C3 i5
      exact hK _ _ (E_ a0 (E_ B3 (A_ C0 (A_ rfl C3))))
    refine WalkT.eff Y0 2 ?_ ?_
    ·refine A_ (fun r w0 uw hF hE => ?_) trivial
     obtain ⟨a0, i0, C0, B0, V1⟩ := hF
     replace V1 := V1.ext hE
     dsimp only
     rw [C0]
     refine gW0 fun Q' hK => ?_
     refine go 1 ?_
     intro j5 D3 k5
     exact hK _ (fun _ => (E_ a0 (E_ i0 (A_ C0 (A_ B0 D3)))))
    refine WalkT.eff Y0 3 ?_ ?_
    ·refine A_ (fun r w0 uw hF hE => ?_) trivial
     obtain ⟨a0, i0, C0, B0, W1⟩ := hF
     replace W1 := W1.ext hE
     dsimp only
     rw [B0]
     refine gW0 fun Q' hK => ?_
     refine go 1 ?_
     intro l5 E3 m5
     exact hK _ (fun _ => (E_ a0 (E_ i0 (A_ C0 (A_ B0 E3)))))
    refine WalkT.nil fun r w0 n5 hF hE => ?_
    obtain ⟨a0, i0, C0, B0, q1⟩ := hF
    replace q1 := q1.ext hE
    dsimp only
    rw [C0, B0]
    dsimp only [A0, p1] at q1
    refine go 7 ?_
    refine bS (E := EOt) (l := ([⟨ws.getD (5 * (n1 + n2) + 5 * zi) 0#64, ws.getD ((5 * (n1 + n2) + 5 * zi) + 1) 0#64, ws.getD ((5 * (n1 + n2) + 5 * zi) + 2) 0#64, ws.getD ((5 * (n1 + n2) + 5 * zi) + 3) 0#64, false⟩] : List Ot)) fun o5 p5 q5 r5 s5 => ?_
    refine apq ?_
    refine ⟨by rw [rowsOf_len], by rfl, om, ?_⟩
    intro X1 Y1 Z1 t5 F3 u5 G3
    have I3 : (rowsOf (otA ws) (5 * (n1 + n2)) zi) ++ ([⟨ws.getD (5 * (n1 + n2) + 5 * zi) 0#64, ws.getD ((5 * (n1 + n2) + 5 * zi) + 1) 0#64, ws.getD ((5 * (n1 + n2) + 5 * zi) + 2) 0#64, ws.getD ((5 * (n1 + n2) + 5 * zi) + 3) 0#64, false⟩] : List Ot) = rowsOf (otA ws) (5 * (n1 + n2)) (zi + 1) := by rw [rowsOf_succ]; rfl
    have r1 := F3
    have J3 := G3
    rw [I3] at r1 J3
    refine go 3 ?_
    intro w5 x5 y5
    refine go 7 ?_
    refine condProp (((ws.getD ((5 * (n1 + n2) + 5 * zi) + 4) 0#64) % (2#64)) = (1#64)) rfl (fun s1 => ?_) (fun s1 => ?_)
    ·refine go 6 ?_
     refine bS (E := EOt) (l := ([⟨ws.getD ((5 * (n1 + n2) + 5 * zi) + 2) 0#64, ws.getD ((5 * (n1 + n2) + 5 * zi) + 3) 0#64, 0#64, 0#64, true⟩] : List Ot)) fun z5 A5 B5 C5 D5 => ?_
     refine apq ?_
     refine ⟨by rw [rowsOf_len], by rfl, om, ?_⟩
     intro K3 L3 M3 E5 N3 F5 O3
     have P3 : (rowsOf (otB ws) (5 * (n1 + n2)) zi) ++ ([⟨ws.getD ((5 * (n1 + n2) + 5 * zi) + 2) 0#64, ws.getD ((5 * (n1 + n2) + 5 * zi) + 3) 0#64, 0#64, 0#64, true⟩] : List Ot) = rowsOf (otB ws) (5 * (n1 + n2)) (zi + 1) := by rw [rowsOf_succ, otB_t (by rw [odd_mod]; exact s1)]; rfl
     have c2 := N3
     have Q3 := O3
     rw [P3] at c2 Q3
     refine go 3 ?_
     intro G5 R3 H5
     refine go 6 ?_
     exact ⟨(zi + 1, X1, Y1, Z1, K3, L3, M3), _, rfl, ⟨rfl, rfl, rfl, rfl, rfl, rfl, rfl, congrArg i64 om, rfl, trivial⟩, ⟨⟨om, r1, c2⟩, ((((R3.dropk 3).dropk 2).dropk 1).dropk 0)⟩, vd⟩
    ·refine go 6 ?_
     refine bS (E := EOt) (l := ([⟨ws.getD (5 * (n1 + n2) + 5 * zi) 0#64, ws.getD ((5 * (n1 + n2) + 5 * zi) + 1) 0#64, 0#64, 0#64, false⟩] : List Ot)) fun I5 J5 K5 L5 M5 => ?_
     refine apq ?_
     refine ⟨by rw [rowsOf_len], by rfl, om, ?_⟩
     intro S3 T3 U3 N5 V3 O5 W3
     have X3 : (rowsOf (otB ws) (5 * (n1 + n2)) zi) ++ ([⟨ws.getD (5 * (n1 + n2) + 5 * zi) 0#64, ws.getD ((5 * (n1 + n2) + 5 * zi) + 1) 0#64, 0#64, 0#64, false⟩] : List Ot) = rowsOf (otB ws) (5 * (n1 + n2)) (zi + 1) := by rw [rowsOf_succ, otB_f (by rw [odd_mod]; exact s1)]; rfl
     have d2 := V3
     have Y3 := W3
     rw [X3] at d2 Y3
     refine go 3 ?_
     intro P5 Z3 Q5
     refine go 6 ?_
     exact ⟨(zi + 1, X1, Y1, Z1, S3, T3, U3), _, rfl, ⟨rfl, rfl, rfl, rfl, rfl, rfl, rfl, congrArg i64 om, rfl, trivial⟩, ⟨⟨om, r1, d2⟩, ((((Z3.dropk 3).dropk 2).dropk 1).dropk 0)⟩, vd⟩
   ·obtain rfl : n3 = zi := by omega
    refine go 2 ?_
    intro R5 c4 S5
    refine go 1 ?_
    refine ⟨_, rfl, kyta, ccta, zzta, kyba, ccba, zzba, kyoa, ccoa, zzoa, kytb, cctb, zztb, kybb, ccbb, zzbb, kyob, ccob, zzob, by simp only [rowsOf_len]; rfl, hkyta, hkyba, hkyoa, hkytb, hkybb, hkyob, (c4.pk 8 [1, 3, 5, 2, 4, 6])⟩
end Go.Proofs.YtohngnahcgbfmaaGreatDoor.Co
namespace Go.Proofs.YtohngnahcgbfmaaGreatDoor.Mt
open Go Vc Er Ek Circ Mi
open Co Cm
theorem agg38 : isAgg' Tryz.prog 38 = true := by kernel_rfl
theorem arr24 : arr Tryz.prog 24 = some (2, 1) := by kernel_rfl
theorem byt34 : byt Tryz.prog 34 = some 8 := by kernel_rfl
theorem fld26_0 : fld Tryz.prog 26 0 = some (0, 1, 22) := by kernel_rfl
theorem one22 : isOne Tryz.prog 22 = true := by kernel_rfl
theorem one23 : isOne Tryz.prog 23 = true := by kernel_rfl
theorem siz38 : siz Tryz.prog 38 = some 2 := by kernel_rfl
theorem und3 : Tryz.prog.underlying 3 = some (.int .i64) := by kernel_rfl
theorem und34 : Tryz.prog.underlying 34 = some (.int .u64) := by kernel_rfl
theorem zer34 : zer Tryz.prog 34 = some (.int .u64 0) := by kernel_rfl
theorem long_ok (l : List (BitVec 64)) (la : Option Addr) (lc m n : Nat) (hm : m = l.length) (w : World) (hL : Rd E64 w la l) (hl : l.length ≤ 17592186044416) (hn : n ≤ 17592186044416) : Calls Tryz.prog 25 [.slice la m lc, i64 ((n : Nat) : Int)].toArray w (Ret fun v w' => ∃ ls : List (BitVec 64), ls.length = max l.length n ∧ ∃ (key : Option Nat) (c : Nat) (sp : LV), v = sO key ls.length c ∧ Sl E64 key ls c sp ∧ Hp No w w' [(key, sob E64 34 ls sp)]) := by
 subst hm
 have H := Hp.start No w
 refine enter (n := 28) Tryz.func25 rfl rfl (bLe rfl) ?_
 refine go 1 ?_
 refine bS (E := E64) (l := []) fun b1 w3 n0 H4 o0 => ?_
 refine go 2 ?_
 intro c0 c7 d0 p0 e0 q0 f0
 have h0 : ([]) ++ l = l := by rfl
 have a0 := e0
 have b0 := f0
 rw [h0] at a0 b0
 refine go 4 ?_
 refine loopAny (σ := Nat × List (BitVec 64) × Option Nat × Nat × LV) (fun (i, ls, kf, cf, sf) => [(1, iN n), (5, sO kf i cf), (6, iN i)]) (fun (i, ls, kf, cf, sf) w' => (l.length ≤ i ∧ i ≤ max l.length n ∧ ls.length = i ∧ Sl E64 kf ls cf sf) ∧ Hp No w w' [(kf, sob E64 34 ls sf)]) (fun (i, ls, kf, cf, sf) => max l.length n - i) ((l.length, l, c0, c7, d0)) ?_ ?_ ?_
 ·exact ⟨rfl, congrArg (Value.slice _ · _) (Nat.zero_add _), congrArg (fun q : Nat => i64 (q : Int)) (Nat.zero_add _), trivial⟩
 ·exact ⟨⟨Nat.le_refl _, Nat.le_max_left _ _, rfl, a0⟩, b0⟩
 rintro ⟨i, ls, kf, cf, sf⟩ ρ r0 ⟨⟨hq1, hq2, hfl, hSf⟩, HL⟩
 refine go 3 ?_
 refine condProp (((i : Nat) : Int) < (n : Nat)) rfl (fun cj14 => ?_) (fun cj14 => ?_)
 ·refine go 8 ?_
  refine bS (E := E64) (l := [((BitVec.ofInt 64 (i : Nat)) * (11400714819323198485#64)) + ((BitVec.ofInt 64 (i : Nat)) <<< (32 : Nat))]) fun s0 u0 w0 x0 y0 => ?_
  refine apq ?_
  refine ⟨by exact hfl.symm, by rfl, om, ?_⟩
  intro i0 j0 k0 z0 l0 A0 m0
  refine go 4 ?_
  exact ⟨(i + 1, _, i0, j0, k0), _, rfl, kp, ⟨⟨om, by omega, by rw [List.length_append, hfl]; rfl, l0⟩, (m0.dropk 0)⟩, vd⟩
 ·refine go 2 ?_
  exact ⟨_, rfl, ls, by omega, kf, cf, sf, by rw [hfl] <;> rfl, hSf, HL⟩
theorem rdeal_w (ws : List (BitVec 64)) (wa : Option Addr) (wc n1 n2 n3 m : Nat) (hm : m = ws.length) (hn1 : n1 ≤ 65536) (hn2 : n2 ≤ 65536) (hn3 : n3 ≤ 65536) (w : World) (hW : Rd E64 w wa ws) (hlen : ws.length ≤ 140737488355328) (hfit : 5 * (n1 + n2 + n3) ≤ ws.length) : Calls Tryz.prog 26 [.slice wa m wc, i64 ((n1 : Nat) : Int), i64 ((n2 : Nat) : Int), i64 ((n3 : Nat) : Int)].toArray w (Ret fun v w' => (∃ q0 q1 q2 q3 q4 q5 : SlV, v = .tuple #[.agg #[.slice q0.a q0.n q0.c, .slice q1.a q1.n q1.c, .slice q2.a q2.n q2.c, .slice q3.a q3.n q3.c, .slice q4.a q4.n q4.c, .slice q5.a q5.n q5.c], i64 (0 : Int)]) ∧ Ext w w') := by
 subst hm
 refine (rdeal_ok ws wa wc n1 n2 n3 hn1 hn2 hn3 w hW hlen hfit).mono fun e w' he => ?_
 obtain ⟨v, rfl, _, _, _, _, _, _, _, _, _, _, _, _, _, _, _, _, _, _, rfl, _, _, _, _, _, _, HN⟩ := he
 exact ⟨_, rfl, ⟨⟨_, _, _⟩, ⟨_, _, _⟩, ⟨_, _, _⟩, ⟨_, _, _⟩, ⟨_, _, _⟩, ⟨_, _, _⟩, rfl⟩, HN.chg⟩
theorem dealt_ok (ops : List Mo) (oa : Option Addr) (oc : Nat) (in0 in1 t0 t1 dl : List (BitVec 64)) (ain0 ain1 at0 at1 adl : Option Addr) (cin0 cin1 ct0 ct1 cdl : Nat) (w : World) (hG : Gl w) (hg : Mi.Good ops 65536 65536) (hlen : ops.length ≤ 400) (hO : Rd EMo w oa ops) (hT0 : Rd E64 w at0 t0) (hT1 : Rd E64 w at1 t1) (hDL : Rd E64 w adl dl) (hl0 : t0.length ≤ 17592186044416) (hl1 : t1.length ≤ 17592186044416) (hld : dl.length ≤ 17592186044416) : Calls Tryz.prog 9 [.agg #[.slice oa ops.length oc, .slice ain0 in0.length cin0, .slice ain1 in1.length cin1, .slice at0 t0.length ct0, .slice at1 t1.length ct1, .slice adl dl.length cdl]].toArray w (Ret fun v w' => ∃ (b1 b2 : Nat) (s1 s2 : Sk) (ds l0 l1 : List (BitVec 64)) (k0 : Option Nat) (c0 : Nat) (z0 : LV) (k1 : Option Nat) (c1 : Nat) (z1 : LV) (q0 q1 q2 q3 q4 q5 : SlV), v = .tuple #[.agg #[pT b1, pT b2], .agg #[.slice q0.a q0.n q0.c, .slice q1.a q1.n q1.c, .slice q2.a q2.n q2.c, .slice q3.a q3.n q3.c, .slice q4.a q4.n q4.c, .slice q5.a q5.n q5.c], .agg #[sO k0 l0.length c0, sO k1 l1.length c1]] ∧ s1.ok ∧ s2.ok ∧ Dealt ds (nA ops) (nB ops) (nO ops) s1 s2 ∧ l0.length = max t0.length (nT0 ops) ∧ l1.length = max t1.length (nT1 ops) ∧ Sl E64 k0 l0 c0 z0 ∧ Sl E64 k1 l1 c1 z1 ∧ Hp No w w' (skR 66 121 114 b1 s1 ++ (skR 66 121 114 b2 s2 ++ [(k0, sob E64 34 l0 z0), (k1, sob E64 34 l1 z1)]))) := by
 let x6 : Array Value := #[sN0, sN0, sN0, sN0, sN0, sN0]
 let x5 : Array Value := #[.pointer none, .pointer none]
 let x4 : Array Value := #[iN (nA ops), iN (nB ops), iN (nO ops), iN (nT0 ops), iN (nT1 ops), i64 (nR ops), iN (nW0 ops), iN (nW1 ops)]
 let x1 : Array Value := #[.slice oa ops.length oc, .slice ain0 in0.length cin0, .slice ain1 in1.length cin1, .slice at0 t0.length ct0, .slice at1 t1.length ct1, .slice adl dl.length cdl]
 obtain ⟨hcA, hcB, hcO, hcT0, hcT1, hcW0, hcW1, hcG⟩ := cntLe ops ops.length
 have e1 : nA ops = cntS fA ops ops.length := rfl
 have e2 : nB ops = cntS fB ops ops.length := rfl
 have e3 : nO ops = cntS fO ops ops.length := rfl
 have e4 : nT0 ops ≤ cntS fT0 ops ops.length + 2 := by unfold nT0 dlt; split <;> omega
 have e5 : nT1 ops = cntS fT1 ops ops.length := rfl
 have H := Hp.start No w
 refine enter (n := 66) Tryz.func9 rfl rfl (bLe rfl) ?_
 refine go 1 ?_
 intro b1 w2 E3 H3 F3
 refine go 1 ?_
 intro b5 w6 G3 H7 I3
 refine go 1 ?_
 intro b9 J3 K3 L3 M3
 refine go 1 ?_
 intro N0 P1 N3 Q1 O3
 refine go 2 ?_
 refine cl (rneed_ok ops oa oc P1 vGl vRd om hg) ?_
 rintro _ P3 ⟨rfl, R1⟩
 have Q3 := Q1.ext R1
 refine go 1 ?_
 intro R0 R3 S3 T3 U3
 refine go 1 ?_
 intro S1 T1 V3
 refine go 6 ?_
 refine sq ((r_addI rfl rfl om).as (v' := iN (nA ops + nB ops)) (by rfl)) ?_
 refine go 2 ?_
 refine sq ((r_addI rfl rfl om).as (v' := iN (nA ops + nB ops + nO ops)) (by rfl)) (sq ((r_mulI rfl rfl om).as (v' := iN (5 * (nA ops + nB ops + nO ops))) (by rfl)) (cl (long_ok dl adl cdl dl.length (5 * (nA ops + nB ops + nO ops)) (by rfl) S1 vRd om om) ?_))
 rintro _ W3 ⟨n0, X3, S0, B1, U1, rfl, Y3, V1⟩
 let x3 : RW := (S0, sob E64 34 n0 U1)
 have W1 := (T1.join V1).a6 rfl
 refine go 1 ?_
 let L0 : List RW := [x3, (rC R0 x4 57), (rC N0 #[sN0, sN0] 24), (rC b9 x6 43), (rC b5 x5 38), (rC b1 x1 26)]
 let T0 := fun (a0 : Sk) => ((a0.b.key, sobP ETr 66 a0.b.pre a0.b.l a0.b.sp) : RW)
 let U0 := fun (a0 : Sk) => ((a0.o.key, sobP EOt 121 a0.o.pre a0.o.l a0.o.sp) : RW)
 let V0 := fun (a0 : Sk) => ((a0.t.key, sobP ETr 66 a0.t.pre a0.t.l a0.t.sp) : RW)
 let W0 := fun (b0 : Sk) => ((b0.b.key, sobP ETr 66 b0.b.pre b0.b.l b0.b.sp) : RW)
 let X0 := fun (b0 : Sk) => ((b0.o.key, sobP EOt 121 b0.o.pre b0.o.l b0.o.sp) : RW)
 let Y0 := fun (b0 : Sk) => ((b0.t.key, sobP ETr 66 b0.t.pre b0.t.l b0.t.sp) : RW)
 let I1 := fun (f0 : Nat) (d0 : Option Nat) (h0 : Nat) => ((rC f0 #[sO d0 n0.length h0, .pointer none, iN n0.length, iN 0] 96) : RW)
 let Z0 := fun (f0 : Nat) (d0 : Option Nat) (h0 : Nat) => ((rC f0 #[sO d0 n0.length h0, .pointer none, iN n0.length, iN (5 * ((nA ops) + (nB ops)) + 5 * (nO ops))] 96) : RW)
 let d1 := fun (s0 : Nat) (a0 : Sk) => ((rC s0 #[.slice a0.t.a a0.t.l.length a0.t.c, .slice a0.b.a a0.b.l.length a0.b.c, .slice a0.o.a a0.o.l.length a0.o.c] 114) : RW)
 let g1 := fun (u0 : Nat) (b0 : Sk) => ((rC u0 #[.slice b0.t.a b0.t.l.length b0.t.c, .slice b0.b.a b0.b.l.length b0.b.c, .slice b0.o.a b0.o.l.length b0.o.c] 114) : RW)
 let X1 : Tab := [zt4 false false false false fun _ _ _ _ w' => Hp No w w' L0, zt4 true false false false fun v1 _ _ _ w' => ∃ f0 d0 h0 j0, v1 = pT f0 ∧ Sl E64 d0 n0 h0 j0 ∧ Hp No w w' ((I1 f0 d0 h0) :: (d0, sob E64 34 n0 j0) :: L0), zt4 true true false false fun v1 v8 _ _ w' => ∃ f0 d0 h0 j0 s0 u0 a0 b0, v1 = pT f0 ∧ v8 = .tuple #[.agg #[pT s0, pT u0], .nilIface] ∧ Sl E64 d0 n0 h0 j0 ∧ a0.ok ∧ b0.ok ∧ Dealt n0 (nA ops) (nB ops) (nO ops) a0 b0 ∧ Hp No w w' ((d1 s0 a0) :: (V0 a0) :: (T0 a0) :: (U0 a0) :: (g1 u0 b0) :: (Y0 b0) :: (W0 b0) :: (X0 b0) :: (Z0 f0 d0 h0) :: (d0, sob E64 34 n0 j0) :: L0), zt4 false false true false fun _ _ v12 _ w' => ∃ h1, v12 = pT h1 ∧ Hp No w w' ((rC h1 x5 38) :: L0), zt4 true false true false fun v1 _ v12 _ w' => ∃ f0 d0 h0 j0 O0, v1 = pT f0 ∧ v12 = pT O0 ∧ Sl E64 d0 n0 h0 j0 ∧ Hp No w w' ((rC O0 x5 38) :: (I1 f0 d0 h0) :: (d0, sob E64 34 n0 j0) :: L0), zt4 true true true false fun v1 v8 v12 _ w' => ∃ f0 d0 h0 j0 s0 u0 a0 b0 C0, v1 = pT f0 ∧ v8 = .tuple #[.agg #[pT s0, pT u0], .nilIface] ∧ v12 = pT C0 ∧ Sl E64 d0 n0 h0 j0 ∧ a0.ok ∧ b0.ok ∧ Dealt n0 (nA ops) (nB ops) (nO ops) a0 b0 ∧ Hp No w w' ((rC C0 x5 38) :: (d1 s0 a0) :: (V0 a0) :: (T0 a0) :: (U0 a0) :: (g1 u0 b0) :: (Y0 b0) :: (W0 b0) :: (X0 b0) :: (Z0 f0 d0 h0) :: (d0, sob E64 34 n0 j0) :: L0), zt4 true true true true fun v1 v8 v12 _ w' => ∃ f0 d0 h0 j0 s0 u0 a0 b0 C0, v1 = pT f0 ∧ v8 = .tuple #[.agg #[pT s0, pT u0], .nilIface] ∧ v12 = pT C0 ∧ Sl E64 d0 n0 h0 j0 ∧ a0.ok ∧ b0.ok ∧ Dealt n0 (nA ops) (nB ops) (nO ops) a0 b0 ∧ Hp No w w' ((rC C0 #[pT s0, pT u0] 38) :: (d1 s0 a0) :: (V0 a0) :: (T0 a0) :: (U0 a0) :: (g1 u0 b0) :: (Y0 b0) :: (W0 b0) :: (X0 b0) :: (Z0 f0 d0 h0) :: (d0, sob E64 34 n0 j0) :: L0)]
 refine drawH (m := 15) [0, 1, 0, 4, 0, 16, 0, 64, 255, 511, 1023, 1023, 0, 6143, 16383] [1, 8, 12, 13] L0 X1 mixed (fun _ e => W1.ext e) (A_ (fun _ _ h => h) (A_ (fun _ _ ⟨_, _, _, _, _, _, h⟩ => h.drop1.drop1) (A_ (fun _ _ ⟨_, _, _, _, _, _, _, _, _, _, _, _, _, _, h⟩ => h.drop1.drop1.drop1.drop1.drop1.drop1.drop1.drop1.drop1.drop1) (A_ (fun _ _ ⟨_, _, h⟩ => h.drop1) (A_ (fun _ _ ⟨_, _, _, _, _, _, _, _, h⟩ => h.drop1.drop1.drop1) (A_ (fun _ _ ⟨_, _, _, _, _, _, _, _, _, _, _, _, _, _, _, _, h⟩ => h.drop1.drop1.drop1.drop1.drop1.drop1.drop1.drop1.drop1.drop1.drop1) (A_ (fun _ _ ⟨_, _, _, _, _, _, _, _, _, _, _, _, _, _, _, _, h⟩ => h.drop1.drop1.drop1.drop1.drop1.drop1.drop1.drop1.drop1.drop1.drop1) trivial))))))) (fun i1 => ?_)
 refine gk 1 ?_
 refine WalkT.eff i1 0 ?_ ?_
 ·refine A_ (fun r w0 uw hF hE => ?_) (A_ (fun r w0 uw hF hE => ?_) trivial)
  ·have Y1 := hF.ext hE
   refine gW fun Q' hK => (cl (load_ok n0 om (ownA S0) n0.length B1 (by rfl) uw vRd) ?_)
   rintro _ Z3 ⟨⟨Z1, c2, d2, f2, rfl, g2, h2⟩, c4⟩
   have i2 := (Y1.join h2).a8 rfl
   exact hK _ _ (E_ Z1 (E_ c2 (E_ d2 (E_ f2 (A_ rfl (A_ g2 i2))))))
  ·obtain ⟨h1, F0, C1⟩ := hF
   replace C1 := C1.ext hE
   refine gW fun Q' hK => (cl (load_ok n0 om (ownA S0) n0.length B1 (by rfl) uw vRd) ?_)
   rintro _ d4 ⟨⟨j2, k2, l2, m2, rfl, n2, o2⟩, f4⟩
   have p2 := (C1.join o2).a9 rfl
   exact hK _ _ (E_ j2 (E_ k2 (E_ l2 (E_ m2 (E_ h1 (A_ rfl (A_ F0 (A_ n2 ((p2.pk 3 [2, 0, 1]))))))))))
 refine gk 6 ?_
 refine WalkT.eff i1 1 ?_ ?_
 ·refine A_ (fun r w0 uw hF hE => ?_) (A_ (fun r w0 uw hF hE => ?_) trivial)
  ·obtain ⟨f0, d0, h0, j0, e1, A0, D1⟩ := hF
   replace D1 := D1.ext hE
   dsimp only
   rw [e1]
   refine gW fun Q' hK => ?_
   have r2 := D1.b2 rfl
   refine cl (deal_ok f0 d0 h0 j0 n0 A0 om (nA ops) (nB ops) (nO ops) om om om om [x3, (rC R0 x4 57), (rC N0 #[sN0, sN0] 24), (rC b9 x6 43), (rC b5 x5 38), (rC b1 x1 26)] w uw r2) ?_
   rintro _ g4 ⟨t2, u2, y2, z2, rfl, A2, B2, C2, D2⟩
   have E2 := D2.a16 rfl
   exact hK _ _ (E_ f0 (E_ d0 (E_ h0 (E_ j0 (E_ t2 (E_ u2 (E_ y2 (E_ z2 (A_ e1 (A_ rfl (A_ A0 (A_ A2 (A_ B2 (A_ C2 E2))))))))))))))
  ·obtain ⟨f0, d0, h0, j0, O0, e1, F0, A0, E1⟩ := hF
   replace E1 := E1.ext hE
   dsimp only
   rw [e1]
   refine gW fun Q' hK => ?_
   have F2 := ((E1.pk 9 [1, 2, 0, 3, 4, 5, 6, 7, 8])).b2 rfl
   refine cl (deal_ok f0 d0 h0 j0 n0 A0 om (nA ops) (nB ops) (nO ops) om om om om [(rC O0 x5 38), x3, (rC R0 x4 57), (rC N0 #[sN0, sN0] 24), (rC b9 x6 43), (rC b5 x5 38), (rC b1 x1 26)] w uw F2) ?_
   rintro _ h4 ⟨G2, H2, I2, J2, rfl, K2, L2, M2, N2⟩
   have O2 := N2.as (L' := [_, _, _, _, _, _, _, _, _, _, _, _, _, _, _, _, _]) rfl
   exact hK _ _ (E_ f0 (E_ d0 (E_ h0 (E_ j0 (E_ G2 (E_ H2 (E_ I2 (E_ J2 (E_ O0 (A_ e1 (A_ rfl (A_ F0 (A_ A0 (A_ K2 (A_ L2 (A_ M2 ((O2.pk 11 [10, 0, 1, 2, 3, 4, 5, 6, 7, 8, 9]))))))))))))))))))
 refine WalkT.hand (fun r => r 8) (fun r r' h => h 8 (by decide) rfl) (fun _ _ => r_move rfl) (WalkT.lookS (fun r => proj (r 8) 0) (fun r r' h => by rw [h 8 (by decide) rfl]) ?_ ?_)
 ·refine A_ (fun r w0 uw hF hE => ?_) (A_ (fun r w0 uw hF hE => ?_) trivial)
  ·obtain ⟨f0, d0, h0, j0, s0, u0, a0, b0, e1, e8, A0, G0, H0, I0, HH⟩ := hF
   replace HH := HH.ext hE
   dsimp only
   rw [e8]
   exact vGr
  ·obtain ⟨f0, d0, h0, j0, s0, u0, a0, b0, C0, e1, e8, F0, A0, G0, H0, I0, HH⟩ := hF
   replace HH := HH.ext hE
   dsimp only
   rw [e8]
   exact vGr
 refine WalkT.lookS (fun r => proj (r 8) 1) (fun r r' h => by rw [h 8 (by decide) rfl]) ?_ ?_
 ·refine A_ (fun r w0 uw hF hE => ?_) (A_ (fun r w0 uw hF hE => ?_) (A_ (fun r w0 uw hF hE => ?_) trivial))
  ·obtain ⟨f0, d0, h0, j0, s0, u0, a0, b0, e1, e8, A0, G0, H0, I0, HH⟩ := hF
   replace HH := HH.ext hE
   dsimp only
   rw [e8]
   exact vGr
  ·obtain ⟨f0, d0, h0, j0, s0, u0, a0, b0, C0, e1, e8, F0, A0, G0, H0, I0, HH⟩ := hF
   replace HH := HH.ext hE
   dsimp only
   rw [e8]
   exact vGr
  ·obtain ⟨f0, d0, h0, j0, s0, u0, a0, b0, C0, e1, e8, F0, A0, G0, H0, I0, HH⟩ := hF
   replace HH := HH.ext hE
   dsimp only
   rw [e8]
   exact vGr
 refine WalkT.eff i1 2 ?_ ?_
 ·refine A_ (fun r w0 uw hF hE => ?_) (A_ (fun r w0 uw hF hE => ?_) (A_ (fun r w0 uw hF hE => ?_) trivial))
  ·have i4 := hF.ext hE
   refine gW fun Q' hK => ?_
   refine go 1 ?_
   intro P2 j4 k4 Q2 l4
   exact hK _ _ (E_ P2 (A_ rfl Q2))
  ·obtain ⟨f0, d0, h0, j0, e1, A0, J1⟩ := hF
   replace J1 := J1.ext hE
   refine gW fun Q' hK => ?_
   refine go 1 ?_
   intro R2 m4 n4 S2 o4
   exact hK _ _ (E_ f0 (E_ d0 (E_ h0 (E_ j0 (E_ R2 (A_ e1 (A_ rfl (A_ A0 S2))))))))
  ·obtain ⟨f0, d0, h0, j0, s0, u0, a0, b0, e1, e8, A0, G0, H0, I0, K1⟩ := hF
   replace K1 := K1.ext hE
   refine gW fun Q' hK => ?_
   refine go 1 ?_
   intro T2 p4 r4 U2 s4
   exact hK _ _ (E_ f0 (E_ d0 (E_ h0 (E_ j0 (E_ s0 (E_ u0 (E_ a0 (E_ b0 (E_ T2 (A_ e1 (A_ e8 (A_ rfl (A_ A0 (A_ G0 (A_ H0 (A_ I0 U2))))))))))))))))
 refine WalkT.eff i1 3 ?_ ?_
 ·refine A_ (fun r w0 uw hF hE => ?_) trivial
  obtain ⟨f0, d0, h0, j0, s0, u0, a0, b0, C0, e1, e8, F0, A0, G0, H0, I0, L1⟩ := hF
  replace L1 := L1.ext hE
  dsimp only
  rw [F0, e8]
  refine gW0 fun Q' hK => ?_
  refine go 1 ?_
  intro t4 V2 u4
  exact hK _ (fun _ => (E_ f0 (E_ d0 (E_ h0 (E_ j0 (E_ s0 (E_ u0 (E_ a0 (E_ b0 (E_ C0 (A_ e1 (A_ e8 (A_ F0 (A_ A0 (A_ G0 (A_ H0 (A_ I0 V2)))))))))))))))))
 refine WalkT.hand (fun r => proj (r 8) 1) (fun r r' h => by rw [h 8 (by decide) rfl]) (fun _ _ => r_assign rfl) (WalkT.nil fun r w0 X2 hF hE => ?_)
 obtain ⟨f0, d0, h0, j0, s0, u0, a0, b0, C0, e1, e8, F0, A0, G0, H0, I0, j1⟩ := hF
 replace j1 := j1.ext hE
 dsimp only
 rw [e1, e8, F0]
 dsimp only [L0, d1, V0, T0, U0, g1, Y0, W0, X0, Z0] at j1
 refine go 7 ?_
 refine cl (rdeal_w n0 (ownA S0) B1 (nA ops) (nB ops) (nO ops) n0.length (by rfl) om om om X2 vRd om om) ?_
 rintro _ w4 ⟨⟨m1, n1, o1, p1, r1, u1, rfl⟩, Y2⟩
 let x2 : Array Value := #[.slice m1.a m1.n m1.c, .slice n1.a n1.n n1.c, .slice o1.a o1.n o1.c, .slice p1.a p1.n p1.c, .slice r1.a r1.n r1.c, .slice u1.a u1.n u1.c]
 have y4 := j1.ext Y2
 refine go 4 ?_
 intro Z2 z4 A4 B4 C4
 refine go 1 ?_
 intro D4 c3 F4
 refine go 1 ?_
 have d3 := (c3.pk 18 [14, 15, 16, 0, 1, 2, 3, 4, 5, 6, 7, 8, 9, 10, 11, 12, 13, 17])
 let M0 : List RW := [(rC Z2 x2 43), (rC C0 #[pT s0, pT u0] 38), (rC s0 #[.slice a0.t.a a0.t.l.length a0.t.c, .slice a0.b.a a0.b.l.length a0.b.c, .slice a0.o.a a0.o.l.length a0.o.c] 114), (a0.t.key, sobP ETr 66 a0.t.pre a0.t.l a0.t.sp), (a0.b.key, sobP ETr 66 a0.b.pre a0.b.l a0.b.sp), (a0.o.key, sobP EOt 121 a0.o.pre a0.o.l a0.o.sp), (rC u0 #[.slice b0.t.a b0.t.l.length b0.t.c, .slice b0.b.a b0.b.l.length b0.b.c, .slice b0.o.a b0.o.l.length b0.o.c] 114), (b0.t.key, sobP ETr 66 b0.t.pre b0.t.l b0.t.sp), (b0.b.key, sobP ETr 66 b0.b.pre b0.b.l b0.b.sp), (b0.o.key, sobP EOt 121 b0.o.pre b0.o.l b0.o.sp), (rC f0 #[sO d0 n0.length h0, .pointer none, iN n0.length, iN (5 * ((nA ops) + (nB ops)) + 5 * (nO ops))] 96), (d0, sob E64 34 n0 j0), x3, (rC R0 x4 57), (rC b1 x1 26)]
 let P0 := ((rC N0 #[sN0, sN0] 24) : RW)
 let w1 := ((rC b5 #[pT s0, pT u0] 38) : RW)
 let F1 := ((rC b5 x5 38) : RW)
 let y1 := ((rC b9 x6 43) : RW)
 let G1 := ((rC b9 x2 43) : RW)
 let f3 : Tab := [zt5 false false false false false fun _ _ _ _ _ w' => Hp No w w' (P0 :: y1 :: F1 :: M0), zt5 true false false false false fun v8 _ _ _ _ w' => ∃ i0 o0 p0 e0, v8 = sO i0 e0.length o0 ∧ Sl E64 i0 e0 o0 p0 ∧ e0.length = max t0.length (nT0 ops) ∧ Hp No w w' ((i0, sob E64 34 e0 p0) :: P0 :: y1 :: F1 :: M0), zt5 true true false false false fun v8 v15 _ _ _ w' => ∃ i0 o0 p0 e0 r0 x0 y0 m0, v8 = sO i0 e0.length o0 ∧ v15 = sO r0 m0.length x0 ∧ Sl E64 r0 m0 x0 y0 ∧ Sl E64 i0 e0 o0 p0 ∧ e0.length = max t0.length (nT0 ops) ∧ m0.length = max t1.length (nT1 ops) ∧ Hp No w w' ((r0, sob E64 34 m0 y0) :: (i0, sob E64 34 e0 p0) :: P0 :: y1 :: F1 :: M0), zt5 true true true false false fun v8 v15 _ _ _ w' => ∃ i0 o0 p0 e0 r0 x0 y0 m0, v8 = sO i0 e0.length o0 ∧ v15 = sO r0 m0.length x0 ∧ Sl E64 r0 m0 x0 y0 ∧ Sl E64 i0 e0 o0 p0 ∧ e0.length = max t0.length (nT0 ops) ∧ m0.length = max t1.length (nT1 ops) ∧ Hp No w w' ((r0, sob E64 34 m0 y0) :: (i0, sob E64 34 e0 p0) :: P0 :: y1 :: w1 :: M0), zt5 true true true true false fun v8 v15 _ _ _ w' => ∃ i0 o0 p0 e0 r0 x0 y0 m0, v8 = sO i0 e0.length o0 ∧ v15 = sO r0 m0.length x0 ∧ Sl E64 r0 m0 x0 y0 ∧ Sl E64 i0 e0 o0 p0 ∧ e0.length = max t0.length (nT0 ops) ∧ m0.length = max t1.length (nT1 ops) ∧ Hp No w w' ((r0, sob E64 34 m0 y0) :: (i0, sob E64 34 e0 p0) :: P0 :: G1 :: w1 :: M0), zt5 true true true true true fun v8 v15 _ _ _ w' => ∃ i0 o0 p0 e0 r0 x0 y0 m0, v8 = sO i0 e0.length o0 ∧ v15 = sO r0 m0.length x0 ∧ Sl E64 r0 m0 x0 y0 ∧ Sl E64 i0 e0 o0 p0 ∧ e0.length = max t0.length (nT0 ops) ∧ m0.length = max t1.length (nT1 ops) ∧ Hp No w w' ((r0, sob E64 34 m0 y0) :: (i0, sob E64 34 e0 p0) :: (rC N0 #[sO i0 e0.length o0, sO r0 m0.length x0] 24) :: G1 :: w1 :: M0)]
 refine drawH (m := 20) [0, 0, 0, 4, 12, 0, 32, 96, 252, 0, 512, 1536, 0, 4096, 12288, 32764, 65532, 65533, 196607, 524287] [8, 15, 17, 18, 19] M0 f3 mixed (fun _ e => d3.ext e) (A_ (fun _ _ h => h.drop1.drop1.drop1) (A_ (fun _ _ ⟨_, _, _, _, _, _, _, h⟩ => h.drop1.drop1.drop1.drop1) (A_ (fun _ _ ⟨_, _, _, _, _, _, _, _, _, _, _, _, _, _, h⟩ => h.drop1.drop1.drop1.drop1.drop1) (A_ (fun _ _ ⟨_, _, _, _, _, _, _, _, _, _, _, _, _, _, h⟩ => h.drop1.drop1.drop1.drop1.drop1) (A_ (fun _ _ ⟨_, _, _, _, _, _, _, _, _, _, _, _, _, _, h⟩ => h.drop1.drop1.drop1.drop1.drop1) (A_ (fun _ _ ⟨_, _, _, _, _, _, _, _, _, _, _, _, _, _, h⟩ => h.drop1.drop1.drop1.drop1.drop1) trivial)))))) (fun Q0 => ?_)
 refine gk 8 ?_
 refine WalkT.eff Q0 0 ?_ ?_
 ·refine A_ (fun r w0 uw hF hE => ?_) trivial
  have g3 := hF.ext hE
  refine gW fun Q' hK => (cl (long_ok t0 at0 ct0 t0.length (nT0 ops) (by rfl) uw vRd om om) ?_)
  rintro _ G4 ⟨h3, i3, j3, k3, l3, rfl, m3, n3⟩
  have o3 := (g3.join n3).as (L' := [_, _, _, _, _, _, _, _, _, _, _, _, _, _, _, _, _, _, _]) rfl
  exact hK _ _ (E_ j3 (E_ k3 (E_ l3 (E_ h3 (A_ rfl (A_ m3 (A_ i3 o3)))))))
 refine gk 6 ?_
 refine WalkT.eff Q0 1 ?_ ?_
 ·refine A_ (fun r w0 uw hF hE => ?_) trivial
  obtain ⟨i0, o0, p0, e0, e8, D0, E0, H1⟩ := hF
  replace H1 := H1.ext hE
  refine gW fun Q' hK => (cl (long_ok t1 at1 ct1 t1.length (nT1 ops) (by rfl) uw vRd om om) ?_)
  rintro _ H4 ⟨p3, r3, s3, t3, u3, rfl, w3, y3⟩
  have z3 := (H1.join y3).as (L' := [_, _, _, _, _, _, _, _, _, _, _, _, _, _, _, _, _, _, _, _]) rfl
  exact hK _ _ (E_ i0 (E_ o0 (E_ p0 (E_ e0 (E_ s3 (E_ t3 (E_ u3 (E_ p3 (A_ e8 (A_ rfl (A_ w3 (A_ D0 (A_ E0 (A_ r3 z3))))))))))))))
 refine WalkT.lookS (fun r => .agg #[r 8, r 15]) (fun r r' h => by rw [h 8 (by decide) rfl, h 15 (by decide) rfl]) ?_ ?_
 ·refine A_ (fun r w0 uw hF hE => ?_) (A_ (fun r w0 uw hF hE => ?_) (A_ (fun r w0 uw hF hE => ?_) trivial))
  ·obtain ⟨i0, o0, p0, e0, r0, x0, y0, m0, e8, B0, J0, D0, E0, K0, HH⟩ := hF
   replace HH := HH.ext hE
   dsimp only
   rw [e8, B0]
   exact vGr
  ·obtain ⟨i0, o0, p0, e0, r0, x0, y0, m0, e8, B0, J0, D0, E0, K0, HH⟩ := hF
   replace HH := HH.ext hE
   dsimp only
   rw [e8, B0]
   exact vGr
  ·obtain ⟨i0, o0, p0, e0, r0, x0, y0, m0, e8, B0, J0, D0, E0, K0, HH⟩ := hF
   replace HH := HH.ext hE
   dsimp only
   rw [e8, B0]
   exact vGr
 refine WalkT.eff Q0 2 ?_ ?_
 ·refine A_ (fun r w0 uw hF hE => ?_) trivial
  obtain ⟨i0, o0, p0, e0, r0, x0, y0, m0, e8, B0, J0, D0, E0, K0, M1⟩ := hF
  replace M1 := M1.ext hE
  refine gW0 fun Q' hK => ?_
  refine go 1 ?_
  intro I4 A3 J4
  exact hK _ (fun _ => (E_ i0 (E_ o0 (E_ p0 (E_ e0 (E_ r0 (E_ x0 (E_ y0 (E_ m0 (A_ e8 (A_ B0 (A_ J0 (A_ D0 (A_ E0 (A_ K0 A3)))))))))))))))
 refine WalkT.eff Q0 3 ?_ ?_
 ·refine A_ (fun r w0 uw hF hE => ?_) trivial
  obtain ⟨i0, o0, p0, e0, r0, x0, y0, m0, e8, B0, J0, D0, E0, K0, N1⟩ := hF
  replace N1 := N1.ext hE
  refine gW0 fun Q' hK => ?_
  refine go 1 ?_
  intro K4 B3 L4
  exact hK _ (fun _ => (E_ i0 (E_ o0 (E_ p0 (E_ e0 (E_ r0 (E_ x0 (E_ y0 (E_ m0 (A_ e8 (A_ B0 (A_ J0 (A_ D0 (A_ E0 (A_ K0 B3)))))))))))))))
 refine WalkT.eff Q0 4 ?_ ?_
 ·refine A_ (fun r w0 uw hF hE => ?_) trivial
  obtain ⟨i0, o0, p0, e0, r0, x0, y0, m0, e8, B0, J0, D0, E0, K0, O1⟩ := hF
  replace O1 := O1.ext hE
  dsimp only
  rw [B0, e8]
  refine gW0 fun Q' hK => ?_
  refine go 1 ?_
  intro M4 C3 N4
  exact hK _ (fun _ => (E_ i0 (E_ o0 (E_ p0 (E_ e0 (E_ r0 (E_ x0 (E_ y0 (E_ m0 (A_ e8 (A_ B0 (A_ J0 (A_ D0 (A_ E0 (A_ K0 C3)))))))))))))))
 refine WalkT.nil fun r w0 O4 hF hE => ?_
 obtain ⟨i0, o0, p0, e0, r0, x0, y0, m0, e8, B0, J0, D0, E0, K0, A1⟩ := hF
 replace A1 := A1.ext hE
 dsimp only
 rw [e8, B0]
 dsimp only [M0, G1, w1] at A1
 refine go 0 ?_
 have D3 := ((A1.pk 20 [7, 8, 9, 10, 11, 12, 13, 14, 1, 0])).as (L' := skR 66 121 114 s0 a0 ++ (skR 66 121 114 u0 b0 ++ [(i0, sob E64 34 e0 p0), (r0, sob E64 34 m0 y0)])) rfl
 exact ⟨_, rfl, s0, u0, a0, b0, n0, e0, m0, i0, o0, p0, r0, x0, y0, m1, n1, o1, p1, r1, u1, rfl, G0, H0, I0, E0, K0, D0, J0, D3⟩
end Go.Proofs.YtohngnahcgbfmaaGreatDoor.Mt
namespace Go.Proofs.YtohngnahcgbfmaaGreatDoor.Ms
open Go Vc Er Ek Circ Mi
open Co Cm
theorem agg83 : isAgg' Tryz.prog 83 = true := by kernel_rfl
theorem byt83 : byt Tryz.prog 83 = some 16 := by kernel_rfl
theorem call36 : callable Tryz.prog 36 = true := by kernel_rfl
theorem isI31 : isI Tryz.prog 31 = true := by kernel_rfl
theorem mixed : Tryz.prog.follows .mixedOrders = true := by kernel_rfl
theorem one40 : isOne Tryz.prog 40 = true := by kernel_rfl
theorem one89 : isOne Tryz.prog 89 = true := by kernel_rfl
theorem siz40 : siz Tryz.prog 40 = some 1 := by kernel_rfl
theorem siz83 : siz Tryz.prog 83 = some 2 := by kernel_rfl
theorem siz89 : siz Tryz.prog 89 = some 1 := by kernel_rfl
theorem sli40 : sli Tryz.prog 40 = some (121, 5) := by kernel_rfl
theorem sli89 : sli Tryz.prog 89 = some (83, 2) := by kernel_rfl
theorem zer83 : zer Tryz.prog 83 = some (.agg (List.replicate 2 (.int .u64 0)).toArray) := by kernel_rfl
theorem dgarb_ok (o : Mo) (me : Nat) (hme : me ≤ 1) (j : Nat) (kd : Option Nat) (cd : Nat) (sd : LV) (ds : List Dr) (hSd : Sl EDr kd ds cd sd) (hj : j < ds.length) (hz : ds.getD j dr0 = dr0) (tb : Nat) (tk : Option Nat) (tc : Nat) (ts : LV) (ws : List (BitVec 64)) (hSw : Sl E64 tk ws tc ts) (hwl : ws.length ≤ 140737488355328) (sb : Nat) (st : Sk) (hst : st.ok) (R : List RW) (w₀ w : World) (u n2 : Nat) (hn2 : n2 = if me = 0 then 128 * opG o else 0) (hol : (64 * opG o) ≤ st.o.l.length) (htl : u + 2 * n2 ≤ ws.length) (H : Hp No w₀ w ((kd, sob EDr 91 ds sd) :: (rC tb #[sO tk ws.length tc, .pointer none, iN ws.length, iN u] 96) :: (tk, sob E64 34 ws ts) :: (skR 66 121 114 sb st ++ R))) : Calls Tryz.prog 48 [.pointer (adr (ownA kd) (j * 6)), .agg #[i64 (o.kd), i64 (o.a), i64 (o.b), i64 (o.k), u64 (o.c), i64 (o.pt)], iN me, pT tb, pT sb].toArray w (Ret fun v w' => ∃ (dd : Dr) (G : List RW) (s' : Sk), v = .nilIface ∧ dd.w = 0#64 ∧ dd.t = tr0 ∧ Kp EOt 121 G ((st.o.l).take (64 * opG o)) dd.os ∧ (me = 0 → Kp ELb 83 G (lbS ws u n2) dd.zs) ∧ Sl EDr kd (ds.set j dd) cd sd ∧ s'.ok ∧ s'.t.l = st.t.l ∧ s'.b.l = st.b.l ∧ s'.o.l = st.o.l.drop (64 * opG o) ∧ Hp No w₀ w' ((kd, sob EDr 91 (ds.set j dd) sd) :: (rC tb #[sO tk ws.length tc, .pointer none, iN ws.length, iN (u + 2 * n2)] 96) :: (tk, sob E64 34 ws ts) :: (skR 66 121 114 sb s' ++ (G ++ R)))) := by
 let z0 : Value := sO tk ws.length tc
 let x8 : RW := (tk, sob E64 34 ws ts)
 let x6 : Array Value := #[z0, .pointer none, iN ws.length, iN u]
 let x4 : Array Value := #[i64 (o.kd), i64 (o.a), i64 (o.b), i64 (o.k), u64 (o.c), i64 (o.pt)]
 let x3 : Value := .pointer (adr (ownA kd) (j * 6))
 have hkd : (adr (ownA kd) (j * 6)).isSome = true := by
  obtain ⟨g, rfl⟩ := hSd.some om
  rfl
 have hog := opG_le o
 have hn2i : ((128 * opG o : Nat) : Int) * ((1 : Int) - ((me : Nat) : Int)) = ((n2 : Nat) : Int) := by
  rcases (show me = 0 ∨ me = 1 by omega) with rfl | rfl
  ·rw [hn2, if_pos rfl]; simp
  ·rw [hn2, if_neg (by decide)]; simp
 have hn2b : n2 ≤ 256 := by rw [hn2]; split <;> omega
 refine enter (n := 66) Tryz.func48 rfl rfl (bLe rfl) ?_
 refine go 1 ?_
 intro b1 w2 e2 H3 f2
 refine go 2 ?_
 refine cl (opnds_ok o w2) ?_
 rintro _ w5 ⟨rfl, V0⟩
 have H7 := H3.ext V0
 refine sq ((r_mulI rfl rfl om).as (v' := iN (64 * opG o)) (by exact congrArg i64 (by push_cast; rfl))) ?_
 refine go 1 ?_
 refine loopAny (σ := Nat × Option Nat × Nat × LV × Sk) (fun (i, ko, co, so, s1) => [(0, .pointer (adr (ownA kd) (j * 6))), (2, iN me), (3, pT tb), (4, pT sb), (6, pT b1), (10, .nilIface), (17, iN (64 * opG o)), (18, iN i)]) (fun (i, ko, co, so, s1) w' => (i ≤ (64 * opG o) ∧ Sl EDr kd (ds.set j (⟨0#64, tr0, ⟨ownA ko, i, co⟩, sv0⟩ : Dr)) cd sd ∧ Sl EOt ko ((st.o.l).take i) co so ∧ s1.ok ∧ s1.t.l = st.t.l ∧ s1.b.l = st.b.l ∧ s1.o.l = st.o.l.drop i) ∧ Hp No w₀ w' ((kd, sob EDr 91 (ds.set j (⟨0#64, tr0, ⟨ownA ko, i, co⟩, sv0⟩ : Dr)) sd) :: (rC tb x6 96) :: x8 :: (rC b1 x4 36) :: (ko, sob EOt 121 ((st.o.l).take i) so) :: (skR 66 121 114 sb s1 ++ R))) (fun (i, ko, co, so, s1) => (64 * opG o) - i) ((0, none, 0, [], st)) ?_ ?_ ?_
 ·exact kp
 have J0 : ds = ds.set j (⟨0#64, tr0, ⟨ownA none, 0, 0⟩, sv0⟩ : Dr) := set_same hj hz
 have H8 := ((H7.nil (sob EOt 121 ((st.o.l).take 0) [])).pk 5 [2, 3, 4, 1, 0]).as (L' := (_ :: _ :: _ :: _ :: _ :: (skR 66 121 114 sb st ++ R))) rfl
 have W0 : Sl EDr kd (ds.set j (⟨0#64, tr0, ⟨ownA none, 0, 0⟩, sv0⟩ : Dr)) cd sd := by rw [← J0]; exact hSd
 have H9 := H8.as (L' := ((kd, sob EDr 91 (ds.set j (⟨0#64, tr0, ⟨ownA none, 0, 0⟩, sv0⟩ : Dr)) sd) :: (rC tb #[sO tk ws.length tc, .pointer none, iN ws.length, iN u] 96) :: (tk, sob E64 34 ws ts) :: (rC b1 #[i64 (o.kd), i64 (o.a), i64 (o.b), i64 (o.k), u64 (o.c), i64 (o.pt)] 36) :: (none, sob EOt 121 ((st.o.l).take 0) ([])) :: (skR 66 121 114 sb st ++ R))) (by rw [← J0])
 ·exact ⟨⟨Nat.zero_le _, W0, Sl.none, hst, rfl, rfl, rfl⟩, H9⟩
 rintro ⟨i, ko, co, so, s1⟩ ρ K0 ⟨⟨hq, o0, hSo, hs1k, hs1t, hs1b, hs1o⟩, HL⟩
 let x9 : RW := (ko, sob EOt 121 ((st.o.l).take i) so)
 let x7 : RW := (kd, sob EDr 91 (ds.set j (⟨0#64, tr0, ⟨ownA ko, i, co⟩, sv0⟩ : Dr)) sd)
 let x5 : RW := (ko, sob EOt 121 ((st.o.l).take (64 * opG o)) so)
 let x1 : List RW := [x7, (rC tb x6 96), x8, (rC b1 x4 36), x9]
 refine go 1 ?_
 refine condProp (((i : Nat) : Int) < ((64 * opG o) : Nat)) rfl (fun X0 => ?_) (fun X0 => ?_)
 ·refine go 1 ?_
  have Y0 := (Hp.midQ (X := x1) (A := skR 66 121 114 sb s1) (Y := R) HL).as (L' := skR 66 121 114 sb s1 ++ (x1 ++ R)) rfl
  refine cl (Co.take2_hit sb s1 hs1k (x1 ++ R) w₀ K0 Y0 (by rw [hs1o, List.length_drop]; omega)) ?_
  rintro _ g2 ⟨rfl, n0, Z0, c1, d1, e1, g1⟩
  have h2 := (Hp.midQ (X := skR 66 121 114 sb n0) (A := x1) (Y := R) Z0).as (L' := (_ :: _ :: _ :: _ :: _ :: (skR 66 121 114 sb n0 ++ R))) rfl
  refine go 4 ?_
  intro h1 i2 j2 k2 l2
  refine go 1 ?_
  intro m2 i1 o2
  refine go 3 ?_
  have j1 := (i1.pk 6 [1, 5, 0, 2, 3, 4])
  let j0 : List RW := ((rC h1 #[u64 (((s1.o.l).getD 0 ot0).p), u64 (((s1.o.l).getD 0 ot0).q), u64 (((s1.o.l).getD 0 ot0).r), u64 (((s1.o.l).getD 0 ot0).s), .bool (((s1.o.l).getD 0 ot0).ch)] 121) :: (rC tb x6 96) :: x8 :: (rC b1 x4 36) :: (skR 66 121 114 sb n0 ++ R))
  let p0 := fun (a0 : Nat) => (((some a0), sob EOt 121 ([⟨((s1.o.l).getD 0 ot0).p, ((s1.o.l).getD 0 ot0).q, ((s1.o.l).getD 0 ot0).r, ((s1.o.l).getD 0 ot0).s, ((s1.o.l).getD 0 ot0).ch⟩] : List Ot) ([])) : RW)
  let A0 := (x7 : RW)
  let q0 := fun (a0 : Nat) => (Sl EOt (some a0) ([⟨((s1.o.l).getD 0 ot0).p, ((s1.o.l).getD 0 ot0).q, ((s1.o.l).getD 0 ot0).r, ((s1.o.l).getD 0 ot0).s, ((s1.o.l).getD 0 ot0).ch⟩] : List Ot) 1 ([]) : Prop)
  let k1 : Tab := [zt3 false false false fun _ _ _ w' => Hp No w₀ w' (A0 :: x9 :: j0), zt3 true false false fun v6 _ _ w' => ∃ a0, v6 = sO (some a0) 1 1 ∧ (q0 a0) ∧ Hp No w₀ w' ((p0 a0) :: A0 :: x9 :: j0), zt3 true true false fun v6 v7 _ w' => ∃ a0 c0 e0 h0, v6 = sO (some a0) 1 1 ∧ v7 = sO c0 (i + 1) e0 ∧ (q0 a0) ∧ Sl EOt c0 ((st.o.l).take (i + 1)) e0 h0 ∧ Hp No w₀ w' ((p0 a0) :: A0 :: (c0, sob EOt 121 ((st.o.l).take (i + 1)) h0) :: j0), zt3 true true true fun v6 v7 _ w' => ∃ a0 c0 e0 h0, v6 = sO (some a0) 1 1 ∧ v7 = sO c0 (i + 1) e0 ∧ (q0 a0) ∧ Sl EDr kd ((ds.set j (⟨0#64, tr0, ⟨ownA ko, i, co⟩, sv0⟩ : Dr)).set j ({ (ds.set j (⟨0#64, tr0, ⟨ownA ko, i, co⟩, sv0⟩ : Dr)).getD j dr0 with os := ⟨ownA c0, i + 1, e0⟩ } : Dr)) cd sd ∧ Sl EOt c0 ((st.o.l).take (i + 1)) e0 h0 ∧ Hp No w₀ w' ((p0 a0) :: (kd, sob EDr 91 ((ds.set j (⟨0#64, tr0, ⟨ownA ko, i, co⟩, sv0⟩ : Dr)).set j ({ (ds.set j (⟨0#64, tr0, ⟨ownA ko, i, co⟩, sv0⟩ : Dr)).getD j dr0 with os := ⟨ownA c0, i + 1, e0⟩ } : Dr)) sd) :: (c0, sob EOt 121 ((st.o.l).take (i + 1)) h0) :: j0)]
  refine drawH (m := 11) [0, 0, 2, 6, 14, 0, 32, 126, 255, 511, 1023] [6, 7, 10] j0 k1 mixed (fun _ e => j1.ext e) (A_ (fun _ _ h => h.drop1.drop1) (A_ (fun _ _ ⟨_, _, _, h⟩ => h.drop1.drop1.drop1) (A_ (fun _ _ ⟨_, _, _, _, _, _, _, _, h⟩ => h.drop1.drop1.drop1) (A_ (fun _ _ ⟨_, _, _, _, _, _, _, _, _, h⟩ => h.drop1.drop1.drop1) trivial)))) (fun B0 => ?_)
  refine gk 2 ?_
  refine lkH x3 (fun _ uw hcx => r_nilCheckP rfl hkd) ?_
  refine gk 1 ?_
  refine WalkT.lookS (fun _ => sO ko i co) (fun _ _ _ => rfl) ?_ ?_
  ·refine A_ (fun r w0 uw hF hE => ?_) (A_ (fun r w0 uw hF hE => ?_) trivial)
   ·have HH := hF.ext hE
    exact Gives.run rfl (r_ldP (E := EDr) (l := ds.set j (⟨0#64, tr0, ⟨ownA ko, i, co⟩, sv0⟩ : Dr)) (j := j) (o := 4) (v := (⟨0#64, tr0, ⟨ownA ko, i, co⟩, sv0⟩ : Dr)) (u := sO ko i co) one40 (HH.rd (k := 0) rfl o0) (List.getElem?_set_self om) rfl rfl rfl) ⟨rfl, Chg.refl _ _⟩
   ·obtain ⟨a0, e6, k0, HH⟩ := hF
    replace HH := HH.ext hE
    exact Gives.run rfl (r_ldP (E := EDr) (l := ds.set j (⟨0#64, tr0, ⟨ownA ko, i, co⟩, sv0⟩ : Dr)) (j := j) (o := 4) (v := (⟨0#64, tr0, ⟨ownA ko, i, co⟩, sv0⟩ : Dr)) (u := sO ko i co) one40 (HH.rd (k := 1) rfl o0) (List.getElem?_set_self om) rfl rfl rfl) ⟨rfl, Chg.refl _ _⟩
  refine gk 1 ?_
  refine WalkT.eff B0 0 ?_ ?_
  ·refine A_ (fun r w0 uw hF hE => ?_) trivial
   have p2 := hF.ext hE
   exact gW fun Q' hK => (bS (E := EOt) (l := ([⟨((s1.o.l).getD 0 ot0).p, ((s1.o.l).getD 0 ot0).q, ((s1.o.l).getD 0 ot0).r, ((s1.o.l).getD 0 ot0).s, ((s1.o.l).getD 0 ot0).ch⟩] : List Ot)) fun l1 q2 m1 n1 r2 => hK _ _ (E_ l1 (A_ rfl (A_ m1 n1))))
  refine WalkT.eff B0 1 ?_ ?_
  ·refine A_ (fun r w0 uw hF hE => ?_) trivial
   obtain ⟨a0, e6, k0, L0⟩ := hF
   replace L0 := L0.ext hE
   dsimp only
   rw [e6]
   refine gW fun Q' hK => ?_
   refine apq ?_
   refine ⟨by rw [List.length_take]; omega, by rfl, om, ?_⟩
   intro o1 p1 q1 s2 r1 t2 t1
   have u1 : ((st.o.l).take i) ++ ([⟨((s1.o.l).getD 0 ot0).p, ((s1.o.l).getD 0 ot0).q, ((s1.o.l).getD 0 ot0).r, ((s1.o.l).getD 0 ot0).s, ((s1.o.l).getD 0 ot0).ch⟩] : List Ot) = (st.o.l).take (i + 1) := by rw [hs1o, drop_first]; exact take_one _ _ _ om
   have M0 := r1
   have N0 := t1
   rw [u1] at M0 N0
   exact hK _ _ (E_ a0 (E_ o1 (E_ p1 (E_ q1 (A_ e6 (A_ rfl (A_ k0 (A_ M0 N0))))))))
  refine lkH x3 (fun _ uw hcx => r_nilCheckP rfl hkd) ?_
  refine gk 1 ?_
  refine WalkT.eff B0 2 ?_ ?_
  ·refine A_ (fun r w0 uw hF hE => ?_) trivial
   obtain ⟨a0, c0, e0, h0, e6, e7, k0, C0, D0⟩ := hF
   replace D0 := D0.ext hE
   dsimp only
   rw [e7]
   refine gW0 fun Q' hK => (d_storeP (E := EDr) (k := 1) (l := ds.set j (⟨0#64, tr0, ⟨ownA ko, i, co⟩, sv0⟩ : Dr)) (j := j) (o := 4) (a := (ds.set j (⟨0#64, tr0, ⟨ownA ko, i, co⟩, sv0⟩ : Dr)).getD j dr0) (b := ({ (ds.set j (⟨0#64, tr0, ⟨ownA ko, i, co⟩, sv0⟩ : Dr)).getD j dr0 with os := ⟨ownA c0, i + 1, e0⟩ } : Dr)) (v := sO c0 (i + 1) e0) D0 rfl o0 rfl rfl rfl siz40 rfl rfl (by decide) rfl (at_getD (by rw [List.length_set]; exact hj)) fun u2 w1 y1 => ?_)
   have z1 := y1.as (L' := (_ :: _ :: _ :: _ :: _ :: _ :: _ :: (skR 66 121 114 sb n0 ++ R))) rfl
   exact hK _ (fun _ => (E_ a0 (E_ c0 (E_ e0 (E_ h0 (A_ e6 (A_ e7 (A_ k0 (A_ w1 (A_ C0 z1))))))))))
  refine WalkT.nil fun r w0 y2 hF hE => ?_
  obtain ⟨a0, c0, e0, h0, e6, e7, k0, A1, C0, r0⟩ := hF
  replace r0 := r0.ext hE
  dsimp only
  rw [e6, e7]
  dsimp only [q0] at k0
  dsimp only [j0, p0] at r0
  have B1 : (ds.set j (⟨0#64, tr0, ⟨ownA ko, i, co⟩, sv0⟩ : Dr)).set j ({ (ds.set j (⟨0#64, tr0, ⟨ownA ko, i, co⟩, sv0⟩ : Dr)).getD j dr0 with os := ⟨ownA c0, i + 1, e0⟩ } : Dr) = ds.set j (⟨0#64, tr0, ⟨ownA c0, i + 1, e0⟩, sv0⟩ : Dr) := by exact dr_os hj _
  have O0 := A1
  have P0 := r0
  rw [B1] at O0 P0
  refine go 2 ?_
  exact ⟨(i + 1, c0, e0, h0, n0), _, rfl, kp, ⟨⟨om, O0, C0, c1, by rw [e1]; exact hs1t, by rw [g1]; exact hs1b, by rw [d1, hs1o, List.drop_drop]⟩, (P0.pk 7 [1, 4, 5, 6, 2])⟩, vd⟩
 ·have hie : i = (64 * opG o) := by omega
  subst hie
  refine go 1 ?_
  refine cl (opnds_ok o K0) ?_
  rintro _ z2 ⟨rfl, C1⟩
  have D1 := HL.ext C1
  refine sq ((r_mulI rfl rfl om).as (v' := iN (128 * opG o)) (by exact congrArg i64 (by push_cast; rfl))) ?_
  refine go 2 ?_
  refine sq ((r_mulI rfl rfl (by rw [hn2i]; omega)).as (v' := iN n2) (by exact congrArg i64 hn2i)) ?_
  refine go 1 ?_
  refine loopAny (σ := Nat × Option Nat × Nat × LV) (fun (i, kz, cz, sz) => [(0, .pointer (adr (ownA kd) (j * 6))), (3, pT tb), (6, pT b1), (10, .nilIface), (44, iN n2), (45, iN i)]) (fun (i, kz, cz, sz) w' => (i ≤ n2 ∧ Sl EDr kd (ds.set j (⟨0#64, tr0, ⟨ownA ko, (64 * opG o), co⟩, ⟨ownA kz, i, cz⟩⟩ : Dr)) cd sd ∧ Sl ELb kz (lbS ws u i) cz sz) ∧ Hp No w₀ w' ((kd, sob EDr 91 (ds.set j (⟨0#64, tr0, ⟨ownA ko, (64 * opG o), co⟩, ⟨ownA kz, i, cz⟩⟩ : Dr)) sd) :: (rC tb #[sO tk ws.length tc, .pointer none, iN ws.length, iN (u + 2 * i)] 96) :: x8 :: (rC b1 x4 36) :: x5 :: (kz, sob ELb 83 (lbS ws u i) sz) :: (skR 66 121 114 sb s1 ++ R))) (fun (i, kz, cz, sz) => n2 - i) ((0, none, 0, [])) ?_ ?_ ?_
  ·exact kp
  have E1 := ((D1.nil (sob ELb 83 (lbS ws u 0) [])).pk 6 [1, 2, 3, 4, 5, 0]).as (L' := (_ :: _ :: _ :: _ :: _ :: _ :: (skR 66 121 114 sb s1 ++ R))) rfl
  ·exact ⟨⟨Nat.zero_le _, o0, Sl.none⟩, E1⟩
  rintro ⟨i, kz, cz, sz⟩ ρ F1 ⟨⟨hq, s0, hSz⟩, E0⟩
  refine go 1 ?_
  refine condProp (((i : Nat) : Int) < (n2 : Nat)) rfl (fun G1 => ?_) (fun G1 => ?_)
  ·refine go 1 ?_
   refine cl (label_hit tb tc (u + 2 * i) (ownA tk) ws F1 vGa (hpRdSt E0 (i := 1) (j := 2) rfl rfl rfl hSw) om om) ?_
   rintro _ A2 ⟨rfl, H1, I1⟩
   have B2 := (E0.set (k := 1) rfl H1 I1).as (L' := (_ :: _ :: _ :: _ :: _ :: _ :: (skR 66 121 114 sb s1 ++ R))) rfl
   refine go 4 ?_
   intro J1 C2 D2 E2 F2
   refine go 1 ?_
   intro G2 K1 H2
   refine go 3 ?_
   have L1 := (K1.pk 7 [1, 6, 0, 2, 3, 4, 5])
   let l0 : List RW := ((rX J1 E64 ([ws.getD (u + 2 * i) 0#64, ws.getD ((u + 2 * i) + 1) 0#64]) 83) :: (rC tb #[z0, .pointer none, iN ws.length, iN ((u + 2 * i) + 2)] 96) :: x8 :: (rC b1 x4 36) :: x5 :: (skR 66 121 114 sb s1 ++ R))
   let u0 := fun (b0 : Nat) => (((some b0), sob ELb 83 ([(ws.getD (u + 2 * i) 0#64, ws.getD ((u + 2 * i) + 1) 0#64)] : List LbT) ([])) : RW)
   let F0 := ((kd, sob EDr 91 (ds.set j (⟨0#64, tr0, ⟨ownA ko, (64 * opG o), co⟩, ⟨ownA kz, i, cz⟩⟩ : Dr)) sd) : RW)
   let x0 := fun (b0 : Nat) => (Sl ELb (some b0) ([(ws.getD (u + 2 * i) 0#64, ws.getD ((u + 2 * i) + 1) 0#64)] : List LbT) 1 ([]) : Prop)
   let M1 : Tab := [zt3 false false false fun _ _ _ w' => Hp No w₀ w' (F0 :: (kz, sob ELb 83 (lbS ws u i) sz) :: l0), zt3 true false false fun v6 _ _ w' => ∃ b0, v6 = sO (some b0) 1 1 ∧ (x0 b0) ∧ Hp No w₀ w' ((u0 b0) :: F0 :: (kz, sob ELb 83 (lbS ws u i) sz) :: l0), zt3 true true false fun v6 v7 _ w' => ∃ b0 d0 f0 i0, v6 = sO (some b0) 1 1 ∧ v7 = sO d0 (i + 1) f0 ∧ (x0 b0) ∧ Sl ELb d0 (lbS ws u (i + 1)) f0 i0 ∧ Hp No w₀ w' ((u0 b0) :: F0 :: (d0, sob ELb 83 (lbS ws u (i + 1)) i0) :: l0), zt3 true true true fun v6 v7 _ w' => ∃ b0 d0 f0 i0, v6 = sO (some b0) 1 1 ∧ v7 = sO d0 (i + 1) f0 ∧ (x0 b0) ∧ Sl EDr kd ((ds.set j (⟨0#64, tr0, ⟨ownA ko, (64 * opG o), co⟩, ⟨ownA kz, i, cz⟩⟩ : Dr)).set j ({ (ds.set j (⟨0#64, tr0, ⟨ownA ko, (64 * opG o), co⟩, ⟨ownA kz, i, cz⟩⟩ : Dr)).getD j dr0 with zs := ⟨ownA d0, i + 1, f0⟩ } : Dr)) cd sd ∧ Sl ELb d0 (lbS ws u (i + 1)) f0 i0 ∧ Hp No w₀ w' ((u0 b0) :: (kd, sob EDr 91 ((ds.set j (⟨0#64, tr0, ⟨ownA ko, (64 * opG o), co⟩, ⟨ownA kz, i, cz⟩⟩ : Dr)).set j ({ (ds.set j (⟨0#64, tr0, ⟨ownA ko, (64 * opG o), co⟩, ⟨ownA kz, i, cz⟩⟩ : Dr)).getD j dr0 with zs := ⟨ownA d0, i + 1, f0⟩ } : Dr)) sd) :: (d0, sob ELb 83 (lbS ws u (i + 1)) i0) :: l0)]
   refine drawH (m := 11) [0, 0, 2, 6, 14, 0, 32, 126, 255, 511, 1023] [6, 7, 10] l0 M1 mixed (fun _ e => L1.ext e) (A_ (fun _ _ h => h.drop1.drop1) (A_ (fun _ _ ⟨_, _, _, h⟩ => h.drop1.drop1.drop1) (A_ (fun _ _ ⟨_, _, _, _, _, _, _, _, h⟩ => h.drop1.drop1.drop1) (A_ (fun _ _ ⟨_, _, _, _, _, _, _, _, _, h⟩ => h.drop1.drop1.drop1) trivial)))) (fun G0 => ?_)
   refine gk 2 ?_
   refine lkH x3 (fun _ uw hcx => r_nilCheckP rfl hkd) ?_
   refine gk 1 ?_
   refine WalkT.lookS (fun _ => sO kz i cz) (fun _ _ _ => rfl) ?_ ?_
   ·refine A_ (fun r w0 uw hF hE => ?_) (A_ (fun r w0 uw hF hE => ?_) trivial)
    ·have HH := hF.ext hE
     exact Gives.run rfl (r_ldP (E := EDr) (l := ds.set j (⟨0#64, tr0, ⟨ownA ko, (64 * opG o), co⟩, ⟨ownA kz, i, cz⟩⟩ : Dr)) (j := j) (o := 5) (v := (⟨0#64, tr0, ⟨ownA ko, (64 * opG o), co⟩, ⟨ownA kz, i, cz⟩⟩ : Dr)) (u := sO kz i cz) one89 (HH.rd (k := 0) rfl s0) (List.getElem?_set_self om) rfl rfl rfl) ⟨rfl, Chg.refl _ _⟩
    ·obtain ⟨b0, e6, m0, HH⟩ := hF
     replace HH := HH.ext hE
     exact Gives.run rfl (r_ldP (E := EDr) (l := ds.set j (⟨0#64, tr0, ⟨ownA ko, (64 * opG o), co⟩, ⟨ownA kz, i, cz⟩⟩ : Dr)) (j := j) (o := 5) (v := (⟨0#64, tr0, ⟨ownA ko, (64 * opG o), co⟩, ⟨ownA kz, i, cz⟩⟩ : Dr)) (u := sO kz i cz) one89 (HH.rd (k := 1) rfl s0) (List.getElem?_set_self om) rfl rfl rfl) ⟨rfl, Chg.refl _ _⟩
   refine gk 1 ?_
   refine WalkT.eff G0 0 ?_ ?_
   ·refine A_ (fun r w0 uw hF hE => ?_) trivial
    have I2 := hF.ext hE
    exact gW fun Q' hK => (bS (E := ELb) (l := ([(ws.getD (u + 2 * i) 0#64, ws.getD ((u + 2 * i) + 1) 0#64)] : List LbT)) fun N1 J2 O1 P1 K2 => hK _ _ (E_ N1 (A_ rfl (A_ O1 P1))))
   refine WalkT.eff G0 1 ?_ ?_
   ·refine A_ (fun r w0 uw hF hE => ?_) trivial
    obtain ⟨b0, e6, m0, Q0⟩ := hF
    replace Q0 := Q0.ext hE
    dsimp only
    rw [e6]
    refine gW fun Q' hK => ?_
    refine apq ?_
    refine ⟨by exact (lbS_len _ _ _).symm, by rfl, om, ?_⟩
    intro Q1 R1 S1 L2 T1 M2 U1
    have V1 : (lbS ws u i) ++ ([(ws.getD (u + 2 * i) 0#64, ws.getD ((u + 2 * i) + 1) 0#64)] : List LbT) = lbS ws u (i + 1) := by exact (lbS_succ _ _ _).symm
    have R0 := T1
    have S0 := U1
    rw [V1] at R0 S0
    exact hK _ _ (E_ b0 (E_ Q1 (E_ R1 (E_ S1 (A_ e6 (A_ rfl (A_ m0 (A_ R0 S0))))))))
   refine lkH x3 (fun _ uw hcx => r_nilCheckP rfl hkd) ?_
   refine gk 1 ?_
   refine WalkT.eff G0 2 ?_ ?_
   ·refine A_ (fun r w0 uw hF hE => ?_) trivial
    obtain ⟨b0, d0, f0, i0, e6, e7, m0, H0, I0⟩ := hF
    replace I0 := I0.ext hE
    dsimp only
    rw [e7]
    refine gW0 fun Q' hK => (d_storeP (E := EDr) (k := 1) (l := ds.set j (⟨0#64, tr0, ⟨ownA ko, (64 * opG o), co⟩, ⟨ownA kz, i, cz⟩⟩ : Dr)) (j := j) (o := 5) (a := (ds.set j (⟨0#64, tr0, ⟨ownA ko, (64 * opG o), co⟩, ⟨ownA kz, i, cz⟩⟩ : Dr)).getD j dr0) (b := ({ (ds.set j (⟨0#64, tr0, ⟨ownA ko, (64 * opG o), co⟩, ⟨ownA kz, i, cz⟩⟩ : Dr)).getD j dr0 with zs := ⟨ownA d0, i + 1, f0⟩ } : Dr)) (v := sO d0 (i + 1) f0) I0 rfl s0 rfl rfl rfl siz89 rfl rfl (by decide) rfl (at_getD (by rw [List.length_set]; exact hj)) fun N2 W1 X1 => ?_)
    have Y1 := X1.as (L' := (_ :: _ :: _ :: _ :: _ :: _ :: _ :: _ :: (skR 66 121 114 sb s1 ++ R))) rfl
    exact hK _ (fun _ => (E_ b0 (E_ d0 (E_ f0 (E_ i0 (A_ e6 (A_ e7 (A_ m0 (A_ W1 (A_ H0 Y1))))))))))
   refine WalkT.nil fun r w0 O2 hF hE => ?_
   obtain ⟨b0, d0, f0, i0, e6, e7, m0, Z1, H0, y0⟩ := hF
   replace y0 := y0.ext hE
   dsimp only
   rw [e6, e7]
   dsimp only [x0] at m0
   dsimp only [l0, u0] at y0
   have c2 : (ds.set j (⟨0#64, tr0, ⟨ownA ko, (64 * opG o), co⟩, ⟨ownA kz, i, cz⟩⟩ : Dr)).set j ({ (ds.set j (⟨0#64, tr0, ⟨ownA ko, (64 * opG o), co⟩, ⟨ownA kz, i, cz⟩⟩ : Dr)).getD j dr0 with zs := ⟨ownA d0, i + 1, f0⟩ } : Dr) = ds.set j (⟨0#64, tr0, ⟨ownA ko, (64 * opG o), co⟩, ⟨ownA d0, i + 1, f0⟩⟩ : Dr) := by exact dr_zs hj _
   have T0 := Z1
   have U0 := y0
   rw [c2] at T0 U0
   refine go 2 ?_
   exact ⟨(i + 1, d0, f0, i0), _, rfl, kp, ⟨⟨om, T0, H0⟩, (U0.pk 8 [1, 4, 5, 6, 7, 2])⟩, vd⟩
  ·obtain rfl : n2 = i := by omega
   let x2 : List RW := [x5, (kz, sob ELb 83 (lbS ws u n2) sz)]
   refine go 1 ?_
   have d2 := (Hp.midP (P := [(kd, sob EDr 91 (ds.set j (⟨0#64, tr0, ⟨ownA ko, (64 * opG o), co⟩, ⟨ownA kz, n2, cz⟩⟩ : Dr)) sd), (rC tb #[z0, .pointer none, iN ws.length, iN (u + 2 * n2)] 96), x8]) (X := x2) (A := skR 66 121 114 sb s1) (Y := R) (E0.dropk 3)).as (L' := (_ :: _ :: _ :: (skR 66 121 114 sb s1 ++ (x2 ++ R)))) rfl
   exact ⟨_, rfl, (⟨0#64, tr0, ⟨ownA ko, (64 * opG o), co⟩, ⟨ownA kz, n2, cz⟩⟩ : Dr), x2, s1, rfl, rfl, rfl, ⟨ko, co, so, List.mem_cons_self, hSo, by rw [show ((st.o.l).take (64 * opG o)).length = (64 * opG o) by rw [List.length_take]; omega]⟩, fun hm => ⟨kz, cz, sz, List.mem_cons_of_mem _ List.mem_cons_self, hSz, by rw [lbS_len]⟩, s0, hs1k, hs1t, hs1b, hs1o, d2⟩
end Go.Proofs.YtohngnahcgbfmaaGreatDoor.Ms
namespace Go.Proofs.YtohngnahcgbfmaaGreatDoor.Ms
open Go Vc Er Ek Circ Mi
open Co Cm
theorem arr83 : arr Tryz.prog 83 = some (2, 1) := by kernel_rfl
theorem byt91 : byt Tryz.prog 91 = some 80 := by kernel_rfl
theorem fits34 : Fits Tryz.prog 34 E64 := fits64 (by kernel_rfl) (by kernel_rfl)
theorem fits36 : Fits Tryz.prog 36 EMo := fitsMo (by kernel_rfl) (by kernel_rfl)
theorem fld36_0 : fld Tryz.prog 36 0 = some (0, 1, 33) := by kernel_rfl
theorem fld36_5 : fld Tryz.prog 36 5 = some (5, 1, 3) := by kernel_rfl
theorem fld91_0 : fld Tryz.prog 91 0 = some (0, 1, 34) := by kernel_rfl
theorem one3 : isOne Tryz.prog 3 = true := by kernel_rfl
theorem one33 : isOne Tryz.prog 33 = true := by kernel_rfl
theorem siz34 : siz Tryz.prog 34 = some 1 := by kernel_rfl
theorem siz66 : siz Tryz.prog 66 = some 3 := by kernel_rfl
theorem sli22 : sli Tryz.prog 22 = some (36, 6) := by kernel_rfl
theorem sli80 : sli Tryz.prog 80 = some (91, 6) := by kernel_rfl
theorem zer91 : zer Tryz.prog 91 = some (.agg #[.int .u64 0, .int .u64 0, .int .u64 0, .int .u64 0, sN0, sN0]) := by kernel_rfl
theorem drawg_ok (ops : List Mo) (oa : Option Addr) (oc : Nat) (me : Nat) (hme : me ≤ 1) (tb : Nat) (tk : Option Nat) (tc : Nat) (ts : LV) (ws : List (BitVec 64)) (hSw : Sl E64 tk ws tc ts) (hwl : ws.length ≤ 140737488355328) (sb : Nat) (st : Sk) (hst : st.ok) (R : List RW) (w₀ w : World) (hop : ops.length ≤ 16384) (hT : dlN me ops + cntS (fTm me) ops ops.length ≤ ws.length) (hA : cntS fA ops ops.length ≤ st.t.l.length) (hB : cntS fB ops ops.length ≤ st.b.l.length) (hC : cntS fO ops ops.length ≤ st.o.l.length) (hO : ∀ w', Ext w₀ w' → (∀ p ∈ R, ∀ b, p.1 = some b → w'.heap[b]? = some p.2) → Rd EMo w' oa ops) (H : Hp No w₀ w ((rC tb #[sO tk ws.length tc, .pointer none, iN ws.length, iN 0] 96) :: (tk, sob E64 34 ws ts) :: (skR 66 121 114 sb st ++ R))) : Calls Tryz.prog 27 [.slice oa ops.length oc, i64 ((me : Nat) : Int), pT tb, pT sb].toArray w (Ret fun v w' => ∃ (kd : Option Nat) (cd : Nat) (sd : LV) (ds : List Dr) (s' : Sk) (F : List RW), v = .tuple #[sO kd ops.length cd, .agg (cel E64 [(dlL me ops ws).1, (dlL me ops ws).2]).toArray, .nilIface] ∧ Sl EDr kd ds cd sd ∧ DrN (dwS ops ((me : Nat) : Int) (fTm me) ws (dlN me ops)) (dtS ops st.t.l st.b.l) ops.length ds ops.length ∧ s'.ok ∧ s'.t.l = st.t.l.drop (cntS fA ops ops.length) ∧ s'.b.l = st.b.l.drop (cntS fB ops ops.length) ∧ s'.o.l = st.o.l.drop (cntS fO ops ops.length) ∧ DrG 121 83 F me ops st.o.l ws (dlN me ops) ds ops.length ∧ Hp No w₀ w' ((kd, sob EDr 91 ds sd) :: (rC tb #[sO tk ws.length tc, .pointer none, iN ws.length, iN (dlN me ops + cntS (fTm me) ops ops.length)] 96) :: (tk, sob E64 34 ws ts) :: (skR 66 121 114 sb s' ++ (F ++ R)))) := by
 let x6 : Value := sO tk ws.length tc
 let x2 : RW := (tk, sob E64 34 ws ts)
 skip
 refine enter (n := 112) Tryz.func27 rfl rfl (bLe rfl) ?_
 refine go 2 ?_
 intro b1 w2 F1 H3 G1
 let x4 := (rX b1 E64 ([0#64, 0#64]) 83) :: (skR 66 121 114 sb st ++ R)
 refine go 3 ?_
 refine q_makeSlice (E := EDr) (m := ops.length) (c := ops.length) (z0 := dr0) H3 sli80 zer91 rfl byt91 rfl rfl vo vo om om fun b5 w7 q0 H8 H1 => ?_
 let x3 : RW := ((some b5), sob EDr 91 (List.replicate ops.length dr0) (cel EDr (List.replicate (ops.length - ops.length) dr0)))
 refine go 2 ?_
 intro a0 I1 J1 r0 K1
 refine gj 1 ?_
 refine seqJoin (σ := Unit) (fun _ => [(0, .slice oa ops.length oc), (1, iN me), (2, pT tb), (3, pT sb), (8, sN0), (9, pT b1), (10, .nilIface), (11, sO (some b5) ops.length ops.length), (12, pT a0), (13, .nilIface)]) (fun _ w' => True ∧ Hp No w₀ w' (x3 :: (rC tb #[x6, .pointer none, iN ws.length, iN (dlN me ops)] 96) :: x2 :: (rX a0 E64 ([(dlL me ops ws).1, (dlL me ops ws).2]) 83) :: x4)) ?_ (fun o0 => ?_)
 ·rintro _ ρ L1 ⟨_, s0⟩
  refine go 3 ?_
  refine loopAny (σ := Nat × List Dr × Sk × List RW) (fun (i, ds, s1, F) => [(1, iN me), (2, pT tb), (3, pT sb), (8, sN0), (9, pT b1), (10, .nilIface), (11, sO (some b5) ops.length ops.length), (12, pT a0), (13, .nilIface), (49, .slice oa ops.length oc), (50, iN ops.length), (51, iN i)]) (fun (i, ds, s1, F) w' => (i ≤ ops.length ∧ DrN (dwS ops ((me : Nat) : Int) (fTm me) ws (dlN me ops)) (dtS ops st.t.l st.b.l) ops.length ds i ∧ Sl EDr (some b5) ds ops.length (cel EDr (List.replicate (ops.length - ops.length) dr0)) ∧ s1.ok ∧ s1.t.l = st.t.l.drop (cntS fA ops i) ∧ s1.b.l = st.b.l.drop (cntS fB ops i) ∧ s1.o.l = st.o.l.drop (cntS fO ops i) ∧ DrG 121 83 F me ops st.o.l ws (dlN me ops) ds i) ∧ Hp No w₀ w' (((some b5), sob EDr 91 ds (cel EDr (List.replicate (ops.length - ops.length) dr0))) :: (rC tb #[sO tk ws.length tc, .pointer none, iN ws.length, iN (dlN me ops + cntS (fTm me) ops i)] 96) :: x2 :: (rX a0 E64 ([(dlL me ops ws).1, (dlL me ops ws).2]) 83) :: (rX b1 E64 ([0#64, 0#64]) 83) :: (skR 66 121 114 sb s1 ++ (F ++ R)))) (fun (i, ds, s1, F) => ops.length - i) ((0, List.replicate ops.length dr0, st, [])) ?_ ?_ ?_
  ·exact kp
  ·exact ⟨⟨Nat.zero_le _, dr_zero _, q0, hst, rfl, rfl, rfl, drg_zero⟩, s0⟩
  rintro ⟨i, ds, s1, F⟩ ρ M1 ⟨⟨hq2, hdr, hSd, hs1k, hs1t, hs1b, hs1o, hdg⟩, d0⟩
  have hdl := hdr.len
  refine go 1 ?_
  refine condProp (((i : Nat) : Int) < (ops.length : Nat)) rfl (fun u0 => ?_) (fun u0 => ?_)
  ·refine go 1 ?_
   refine sq (r_idxS (E := EMo) (l := ops) (j := i) sli22 (hO _ d0.chg (fun p hp => d0.has p (mT (mT (mT (mT (mT ((List.mem_append_right _ (List.mem_append_right _ hp)))))))))) rfl rfl vo (by rfl) om) (sq ((r_ldS (E := EMo) (l := ops) (j := i) (v := ops.getD i mo0) fits36 (hO _ d0.chg (fun p hp => d0.has p (mT (mT (mT (mT (mT ((List.mem_append_right _ (List.mem_append_right _ hp)))))))))) rfl rfl (at_getD om)).as (v' := .agg #[i64 ((ops.getD i mo0).kd), i64 ((ops.getD i mo0).a), i64 ((ops.getD i mo0).b), i64 ((ops.getD i mo0).k), u64 ((ops.getD i mo0).c), i64 ((ops.getD i mo0).pt)]) rfl) ?_)
   refine go 1 ?_
   intro b0 N1 O1 P1 Q1
   refine go 2 ?_
   intro i0 c0 R1
   obtain ⟨o, ho⟩ : ∃ q1, q1 = ops.getD i mo0 := ⟨_, rfl⟩
   let x7 : RW := ((some b5), sob EDr 91 ds (cel EDr (List.replicate (ops.length - ops.length) dr0)))
   let x5 : Array Value := #[i64 (o.kd), i64 (o.a), i64 (o.b), i64 (o.k), u64 (o.c), i64 (o.pt)]
   let x1 : Array Value := #[x6, .pointer none, iN ws.length, iN (dlN me ops + cntS (fTm me) ops i)]
   rw [← ho] at c0 ⊢
   refine go 8 ?_
   refine condProp ((o.kd : Int) = (1 : Int)) rfl (fun k1 => ?_) (fun k1 => ?_)
   ·refine go 4 ?_
    refine condProp ((o.pt : Int) = (me : Nat)) rfl (fun j0 => ?_) (fun j0 => ?_)
    ·refine go 0 ?_
     have htu : (dlN me ops + cntS (fTm me) ops i) < ws.length := by have h := cnt_le (f := fTm me) (ops := ops) (show i + 1 ≤ ops.length by omega); rw [cnt_succ ho (fTm_in k1 j0)] at h; omega
     refine go 2 ?_
     refine cl (next_hit tb tc (dlN me ops + cntS (fTm me) ops i) (ownA tk) ws i0 vGa (hpRdSt c0 (i := 2) (j := 3) rfl rfl rfl hSw) om om) ?_
     rintro _ S1 ⟨rfl, x0, y0⟩
     have A0 := (c0.set (k := 2) rfl x0 y0).as (L' := (_ :: _ :: _ :: _ :: _ :: _ :: (skR 66 121 114 sb s1 ++ (F ++ R)))) rfl
     refine go 3 ?_
     refine sq ((r_nilCheck rfl).as (v' := .pointer (adr (ownA (some b5)) (i * 6))) rfl) ?_
     refine go 1 ?_
     refine d_storeP (E := EDr) (k := 1) (l := ds) (j := i) (o := 0) (a := ds.getD i dr0) (b := ({ ds.getD i dr0 with w := ws.getD (dlN me ops + cntS (fTm me) ops i) 0#64 } : Dr)) (v := u64 (ws.getD (dlN me ops + cntS (fTm me) ops i) 0#64)) A0 rfl hSd rfl rfl rfl siz34 rfl rfl (by decide) rfl (at_getD om) fun T1 B0 C0 => ?_
     have D0 := C0.as (L' := (_ :: _ :: _ :: _ :: _ :: _ :: (skR 66 121 114 sb s1 ++ (F ++ R)))) rfl
     refine go 5 ?_
     have hu2 : cntS (fTm me) ops (i + 1) = _ := cnt_succ ho (fTm_in k1 j0)
     have E0 := ((D0.dropk 0)).as (L' := (((some b5), sob EDr 91 (ds.set i ({ ds.getD i dr0 with w := ws.getD (dlN me ops + cntS (fTm me) ops i) 0#64 } : Dr)) (cel EDr (List.replicate (ops.length - ops.length) dr0))) :: (rC tb #[sO tk ws.length tc, .pointer none, iN ws.length, iN (dlN me ops + cntS (fTm me) ops (i + 1))] 96) :: (tk, sob E64 34 ws ts) :: (rX a0 E64 ([(dlL me ops ws).1, (dlL me ops ws).2]) 83) :: (rX b1 E64 ([0#64, 0#64]) 83) :: (skR 66 121 114 sb s1 ++ (F ++ R)))) (by rw [hu2, ← Nat.add_assoc] <;> rfl)
     exact ⟨(i + 1, ds.set i ({ ds.getD i dr0 with w := ws.getD (dlN me ops + cntS (fTm me) ops i) 0#64 } : Dr), s1, F), _, rfl, kp, ⟨⟨om, dr_set hdr om (dw_in ho k1 j0) (by show (ds.getD i dr0).t = _; rw [hdr.z i (Nat.le_refl _)]; exact dt_no ho om om), B0, hs1k, by rw [cnt_succ ho (show fA o = 0 from if_neg om)]; exact hs1t, by rw [cnt_succ ho (show fB o = 0 from if_neg om)]; exact hs1b, by rw [cnt_succ ho (show fO o = 0 from if_neg om)]; exact hs1o, drg_skip hdg ho om _⟩, E0⟩, vd⟩
    ·refine go 4 ?_
     have hu2 : cntS (fTm me) ops (i + 1) = _ := cnt_succ ho (fTm_no om om)
     have F0 := ((c0.dropk 0)).as (L' := (((some b5), sob EDr 91 ds (cel EDr (List.replicate (ops.length - ops.length) dr0))) :: (rC tb #[sO tk ws.length tc, .pointer none, iN ws.length, iN (dlN me ops + cntS (fTm me) ops (i + 1))] 96) :: (tk, sob E64 34 ws ts) :: (rX a0 E64 ([(dlL me ops ws).1, (dlL me ops ws).2]) 83) :: (rX b1 E64 ([0#64, 0#64]) 83) :: (skR 66 121 114 sb s1 ++ (F ++ R)))) (by rw [hu2, ← Nat.add_assoc] <;> rfl)
     exact ⟨(i + 1, ds, s1, F), _, rfl, kp, ⟨⟨om, dr_skip hdr (dw_no ho om) (dt_no ho om om), hSd, hs1k, by rw [cnt_succ ho (show fA o = 0 from if_neg om)]; exact hs1t, by rw [cnt_succ ho (show fB o = 0 from if_neg om)]; exact hs1b, by rw [cnt_succ ho (show fO o = 0 from if_neg om)]; exact hs1o, drg_keep hdg ho om⟩, F0⟩, vd⟩
   ·refine go 2 ?_
    refine condProp ((o.kd : Int) = (6 : Int)) rfl (fun k6 => ?_) (fun k6 => ?_)
    ·refine go 2 ?_
     have G0 := (Hp.midQ (X := [(rC b0 x5 36), x7, (rC tb x1 96), x2, (rX a0 E64 ([(dlL me ops ws).1, (dlL me ops ws).2]) 83), (rX b1 E64 ([0#64, 0#64]) 83)]) (A := skR 66 121 114 sb s1) (Y := (F ++ R)) c0).as (L' := skR 66 121 114 sb s1 ++ ([(rC b0 x5 36), x7, (rC tb x1 96), x2, (rX a0 E64 ([(dlL me ops ws).1, (dlL me ops ws).2]) 83), (rX b1 E64 ([0#64, 0#64]) 83)] ++ (F ++ R))) rfl
     refine cl (Co.take0_hit sb s1 hs1k ([(rC b0 x5 36), x7, (rC tb x1 96), x2, (rX a0 E64 ([(dlL me ops ws).1, (dlL me ops ws).2]) 83), (rX b1 E64 ([0#64, 0#64]) 83)] ++ (F ++ R)) w₀ i0 G0 (by rw [hs1t, List.length_drop]; have h := cnt_le (f := fA) (ops := ops) (show i + 1 ≤ ops.length by omega); rw [cnt_succ ho (show fA o = 1 from if_pos k6)] at h; omega)) ?_
     rintro _ U1 ⟨rfl, e0, H0, I0, J0, K0, L0⟩
     have M0 := (Hp.midQ (X := skR 66 121 114 sb e0) (A := [(rC b0 x5 36), x7, (rC tb x1 96), x2, (rX a0 E64 ([(dlL me ops ws).1, (dlL me ops ws).2]) 83), (rX b1 E64 ([0#64, 0#64]) 83)]) (Y := (F ++ R)) H0).as (L' := (_ :: _ :: _ :: _ :: _ :: _ :: (skR 66 121 114 sb e0 ++ (F ++ R)))) rfl
     refine go 3 ?_
     refine sq ((r_nilCheck rfl).as (v' := .pointer (adr (ownA (some b5)) (i * 6))) rfl) ?_
     refine go 1 ?_
     refine d_storeQ (E := EDr) (k := 1) (l := ds) (j := i) (o := 1) (a := ds.getD i dr0) (b := ({ ds.getD i dr0 with t := (s1.t.l).getD 0 tr0 } : Dr)) (v := .agg #[u64 ((s1.t.l).getD 0 tr0).a, u64 ((s1.t.l).getD 0 tr0).b, u64 ((s1.t.l).getD 0 tr0).c]) (vs := [u64 ((s1.t.l).getD 0 tr0).a, u64 ((s1.t.l).getD 0 tr0).b, u64 ((s1.t.l).getD 0 tr0).c]) M0 rfl hSd rfl rfl rfl siz66 rfl rfl (by intro u hu; simp at hu; rcases hu with rfl | rfl | rfl <;> rfl) (bLe rfl) rfl (at_getD om) fun V1 N0 O0 => ?_
     have P0 := O0.as (L' := (_ :: _ :: _ :: _ :: _ :: _ :: (skR 66 121 114 sb e0 ++ (F ++ R)))) rfl
     refine go 5 ?_
     have hu2 : cntS (fTm me) ops (i + 1) = _ := cnt_succ ho (fTm_no om om)
     have Q0 := ((P0.dropk 0)).as (L' := (((some b5), sob EDr 91 (ds.set i ({ ds.getD i dr0 with t := (s1.t.l).getD 0 tr0 } : Dr)) (cel EDr (List.replicate (ops.length - ops.length) dr0))) :: (rC tb #[sO tk ws.length tc, .pointer none, iN ws.length, iN (dlN me ops + cntS (fTm me) ops (i + 1))] 96) :: (tk, sob E64 34 ws ts) :: (rX a0 E64 ([(dlL me ops ws).1, (dlL me ops ws).2]) 83) :: (rX b1 E64 ([0#64, 0#64]) 83) :: (skR 66 121 114 sb e0 ++ (F ++ R)))) (by rw [hu2, ← Nat.add_assoc] <;> rfl)
     exact ⟨(i + 1, ds.set i ({ ds.getD i dr0 with t := (s1.t.l).getD 0 tr0 } : Dr), e0, F), _, rfl, kp, ⟨⟨om, dr_set hdr om (by show (ds.getD i dr0).w = _; rw [hdr.z i (Nat.le_refl _)]; exact dw_no ho om) (by show (s1.t.l).getD 0 tr0 = _; rw [hs1t, drop_first]; exact dt_a ho k6), N0, I0, by rw [J0, hs1t, List.drop_drop, cnt_succ ho (show fA o = 1 from if_pos k6)], by rw [K0]; rw [cnt_succ ho (show fB o = 0 from if_neg om)]; exact hs1b, by rw [L0]; rw [cnt_succ ho (show fO o = 0 from if_neg om)]; exact hs1o, drg_skip hdg ho om _⟩, Q0⟩, vd⟩
    ·refine go 2 ?_
     refine condProp ((o.kd : Int) = (9 : Int)) rfl (fun k9 => ?_) (fun k9 => ?_)
     ·refine go 2 ?_
      have R0 := (Hp.midQ (X := [(rC b0 x5 36), x7, (rC tb x1 96), x2, (rX a0 E64 ([(dlL me ops ws).1, (dlL me ops ws).2]) 83), (rX b1 E64 ([0#64, 0#64]) 83)]) (A := skR 66 121 114 sb s1) (Y := (F ++ R)) c0).as (L' := skR 66 121 114 sb s1 ++ ([(rC b0 x5 36), x7, (rC tb x1 96), x2, (rX a0 E64 ([(dlL me ops ws).1, (dlL me ops ws).2]) 83), (rX b1 E64 ([0#64, 0#64]) 83)] ++ (F ++ R))) rfl
      refine cl (Co.take1_hit sb s1 hs1k ([(rC b0 x5 36), x7, (rC tb x1 96), x2, (rX a0 E64 ([(dlL me ops ws).1, (dlL me ops ws).2]) 83), (rX b1 E64 ([0#64, 0#64]) 83)] ++ (F ++ R)) w₀ i0 R0 (by rw [hs1b, List.length_drop]; have h := cnt_le (f := fB) (ops := ops) (show i + 1 ≤ ops.length by omega); rw [cnt_succ ho (show fB o = 1 from if_pos k9)] at h; omega)) ?_
      rintro _ W1 ⟨rfl, f0, S0, T0, U0, V0, W0⟩
      have X0 := (Hp.midQ (X := skR 66 121 114 sb f0) (A := [(rC b0 x5 36), x7, (rC tb x1 96), x2, (rX a0 E64 ([(dlL me ops ws).1, (dlL me ops ws).2]) 83), (rX b1 E64 ([0#64, 0#64]) 83)]) (Y := (F ++ R)) S0).as (L' := (_ :: _ :: _ :: _ :: _ :: _ :: (skR 66 121 114 sb f0 ++ (F ++ R)))) rfl
      refine go 3 ?_
      refine sq ((r_nilCheck rfl).as (v' := .pointer (adr (ownA (some b5)) (i * 6))) rfl) ?_
      refine go 1 ?_
      refine d_storeQ (E := EDr) (k := 1) (l := ds) (j := i) (o := 1) (a := ds.getD i dr0) (b := ({ ds.getD i dr0 with t := (s1.b.l).getD 0 tr0 } : Dr)) (v := .agg #[u64 ((s1.b.l).getD 0 tr0).a, u64 ((s1.b.l).getD 0 tr0).b, u64 ((s1.b.l).getD 0 tr0).c]) (vs := [u64 ((s1.b.l).getD 0 tr0).a, u64 ((s1.b.l).getD 0 tr0).b, u64 ((s1.b.l).getD 0 tr0).c]) X0 rfl hSd rfl rfl rfl siz66 rfl rfl (by intro u hu; simp at hu; rcases hu with rfl | rfl | rfl <;> rfl) (bLe rfl) rfl (at_getD om) fun X1 Y0 Z0 => ?_
      have c1 := Z0.as (L' := (_ :: _ :: _ :: _ :: _ :: _ :: (skR 66 121 114 sb f0 ++ (F ++ R)))) rfl
      refine go 5 ?_
      have hu2 : cntS (fTm me) ops (i + 1) = _ := cnt_succ ho (fTm_no om om)
      have d1 := ((c1.dropk 0)).as (L' := (((some b5), sob EDr 91 (ds.set i ({ ds.getD i dr0 with t := (s1.b.l).getD 0 tr0 } : Dr)) (cel EDr (List.replicate (ops.length - ops.length) dr0))) :: (rC tb #[sO tk ws.length tc, .pointer none, iN ws.length, iN (dlN me ops + cntS (fTm me) ops (i + 1))] 96) :: (tk, sob E64 34 ws ts) :: (rX a0 E64 ([(dlL me ops ws).1, (dlL me ops ws).2]) 83) :: (rX b1 E64 ([0#64, 0#64]) 83) :: (skR 66 121 114 sb f0 ++ (F ++ R)))) (by rw [hu2, ← Nat.add_assoc] <;> rfl)
      exact ⟨(i + 1, ds.set i ({ ds.getD i dr0 with t := (s1.b.l).getD 0 tr0 } : Dr), f0, F), _, rfl, kp, ⟨⟨om, dr_set hdr om (by show (ds.getD i dr0).w = _; rw [hdr.z i (Nat.le_refl _)]; exact dw_no ho om) (by show (s1.b.l).getD 0 tr0 = _; rw [hs1b, drop_first]; exact dt_b ho k9), Y0, T0, by rw [V0]; rw [cnt_succ ho (show fA o = 0 from if_neg om)]; exact hs1t, by rw [U0, hs1b, List.drop_drop, cnt_succ ho (show fB o = 1 from if_pos k9)], by rw [W0]; rw [cnt_succ ho (show fO o = 0 from if_neg om)]; exact hs1o, drg_skip hdg ho om _⟩, d1⟩, vd⟩
     ·refine go 2 ?_
      refine condProp ((o.kd : Int) = (17 : Int)) rfl (fun h0 => ?_) (fun h0 => ?_)
      ·have hgol : 64 * opG o ≤ s1.o.l.length := by
        rw [hs1o, List.length_drop]; have h := cnt_le (f := fO) (ops := ops) (show i + 1 ≤ ops.length by omega); rw [cnt_succ ho (show fO o = 64 * opG o from if_pos h0)] at h; omega
       have hgtl : (dlN me ops + cntS (fTm me) ops i) + 2 * (if me = 0 then 128 * opG o else 0) ≤ ws.length := by
        have h := cnt_le (f := fTm me) (ops := ops) (show i + 1 ≤ ops.length by omega); rw [cnt_succ ho (fTm_gar h0 rfl)] at h; omega
       refine go 5 ?_
       have e1 := (Hp.midP (P := [x7, (rC tb x1 96), x2]) (X := [(rC b0 x5 36), (rX a0 E64 ([(dlL me ops ws).1, (dlL me ops ws).2]) 83), (rX b1 E64 ([0#64, 0#64]) 83)]) (A := skR 66 121 114 sb s1) (Y := F ++ R) (c0.pk 6 [1, 2, 3, 0, 4, 5])).as (L' := (_ :: _ :: _ :: (skR 66 121 114 sb s1 ++ ([(rC b0 x5 36), (rX a0 E64 ([(dlL me ops ws).1, (dlL me ops ws).2]) 83), (rX b1 E64 ([0#64, 0#64]) 83)] ++ (F ++ R))))) rfl
       refine cl (dgarb_ok o me hme i (some b5) ops.length (cel EDr (List.replicate (ops.length - ops.length) dr0)) ds hSd om (hdr.z i (Nat.le_refl _)) tb tk tc ts ws hSw hwl sb s1 hs1k ([(rC b0 x5 36), (rX a0 E64 ([(dlL me ops ws).1, (dlL me ops ws).2]) 83), (rX b1 E64 ([0#64, 0#64]) 83)] ++ (F ++ R)) w₀ i0 (dlN me ops + cntS (fTm me) ops i) (if me = 0 then 128 * opG o else 0) rfl hgol hgtl e1) ?_
       rintro _ Y1 ⟨dd67, G68, k0, rfl, hgw, hgt, hgo, hgz, g1, h1, i1, j1, l1, m1⟩
       have n1 := (Hp.midPB (P := [((some b5), sob EDr 91 (ds.set i dd67) (cel EDr (List.replicate (ops.length - ops.length) dr0))), (rC tb #[sO tk ws.length tc, .pointer none, iN ws.length, iN ((dlN me ops + cntS (fTm me) ops i) + 2 * (if me = 0 then 128 * opG o else 0))] 96), x2]) (X := skR 66 121 114 sb k0) (B := G68) (A := [(rC b0 x5 36), (rX a0 E64 ([(dlL me ops ws).1, (dlL me ops ws).2]) 83), (rX b1 E64 ([0#64, 0#64]) 83)]) (Y := F ++ R) m1).as (L' := (_ :: _ :: _ :: _ :: _ :: _ :: (skR 66 121 114 sb k0 ++ (G68 ++ (F ++ R))))) rfl
       refine go 5 ?_
       have hu2 : cntS (fTm me) ops (i + 1) = _ := cnt_succ ho (fTm_gar h0 rfl)
       have o1 := ((n1.dropk 3)).as (L' := (((some b5), sob EDr 91 (ds.set i dd67) (cel EDr (List.replicate (ops.length - ops.length) dr0))) :: (rC tb #[sO tk ws.length tc, .pointer none, iN ws.length, iN (dlN me ops + cntS (fTm me) ops (i + 1))] 96) :: (tk, sob E64 34 ws ts) :: (rX a0 E64 ([(dlL me ops ws).1, (dlL me ops ws).2]) 83) :: (rX b1 E64 ([0#64, 0#64]) 83) :: (skR 66 121 114 sb k0 ++ ((G68 ++ F) ++ R)))) (by rw [hu2, ← Nat.add_assoc, List.append_assoc] <;> rfl)
       exact ⟨(i + 1, ds.set i dd67, k0, (G68 ++ F)), _, rfl, kp, ⟨⟨om, dr_set hdr om (by rw [hgw]; exact dw_no ho om) (by rw [hgt]; exact dt_no ho om om), g1, h1, by rw [i1]; rw [cnt_succ ho (show fA o = 0 from if_neg om)]; exact hs1t, by rw [j1]; rw [cnt_succ ho (show fB o = 0 from if_neg om)]; exact hs1b, by rw [l1, hs1o, List.drop_drop, cnt_succ ho (show fO o = 64 * opG o from if_pos h0)], drg_set hdg ho om (by rw [hs1o] at hgo; exact hgo) (fun hm => by have h := hgz hm; rw [if_pos hm] at h; exact h)⟩, o1⟩, vd⟩
      ·refine go 4 ?_
       have hu2 : cntS (fTm me) ops (i + 1) = _ := cnt_succ ho (fTm_no om om)
       have p1 := ((c0.dropk 0)).as (L' := (((some b5), sob EDr 91 ds (cel EDr (List.replicate (ops.length - ops.length) dr0))) :: (rC tb #[sO tk ws.length tc, .pointer none, iN ws.length, iN (dlN me ops + cntS (fTm me) ops (i + 1))] 96) :: (tk, sob E64 34 ws ts) :: (rX a0 E64 ([(dlL me ops ws).1, (dlL me ops ws).2]) 83) :: (rX b1 E64 ([0#64, 0#64]) 83) :: (skR 66 121 114 sb s1 ++ (F ++ R)))) (by rw [hu2, ← Nat.add_assoc] <;> rfl)
       exact ⟨(i + 1, ds, s1, F), _, rfl, kp, ⟨⟨om, dr_skip hdr (dw_no ho om) (dt_no ho om om), hSd, hs1k, by rw [cnt_succ ho (show fA o = 0 from if_neg om)]; exact hs1t, by rw [cnt_succ ho (show fB o = 0 from if_neg om)]; exact hs1b, by rw [cnt_succ ho (show fO o = 0 from if_neg om)]; exact hs1o, drg_keep hdg ho om⟩, p1⟩, vd⟩
  ·have hie : i = ops.length := by omega
   subst hie
   refine go 0 ?_
   have r1 := (d0.pk 5 [4, 0, 1, 2, 3])
   let l0 : List RW := (((some b5), sob EDr 91 ds (cel EDr (List.replicate (ops.length - ops.length) dr0))) :: (rC tb #[x6, .pointer none, iN ws.length, iN (dlN me ops + cntS (fTm me) ops ops.length)] 96) :: x2 :: (rX a0 E64 ([(dlL me ops ws).1, (dlL me ops ws).2]) 83) :: (skR 66 121 114 sb s1 ++ (F ++ R)))
   let t1 : Tab := [zt1 false fun _ w' => Hp No w₀ w' ((rX b1 E64 ([0#64, 0#64]) 83) :: l0), zt1 true fun _ w' => Hp No w₀ w' ((rX b1 E64 ([(dlL me ops ws).1, (dlL me ops ws).2]) 83) :: l0)]
   refine drawH (m := 5) [0, 0, 1, 7, 15] [3] l0 t1 mixed (fun _ e => r1.ext e) (A_ (fun _ _ h => h.drop1) (A_ (fun _ _ h => h.drop1) trivial)) (fun u1 => ?_)
   refine gk 3 ?_
   refine WalkT.eff u1 0 ?_ ?_
   ·refine A_ (fun r w0 uw hF hE => ?_) trivial
    have Z1 := hF.ext hE
    refine gW0 fun Q' hK => ?_
    refine go 1 ?_
    intro c2 w1 d2
    exact hK _ (fun _ => w1)
   refine gk 1 ?_
   refine WalkT.nil fun r w0 e2 hF hE => ?_
   have p0 := hF.ext hE
   dsimp only
   dsimp only [l0] at p0
   refine go 0 ?_
   exact ⟨_, rfl, (some b5), ops.length, (cel EDr (List.replicate (ops.length - ops.length) dr0)), ds, s1, F, rfl, hSd, hdr, hs1k, hs1t, hs1b, hs1o, hdg, ((p0.dropk 4).dropk 0)⟩
 ·refine go 3 ?_
  refine loopAny (σ := Nat) (fun i => [(0, .slice oa ops.length oc), (1, iN me), (2, pT tb), (3, pT sb), (8, sN0), (9, pT b1), (10, .nilIface), (11, sO (some b5) ops.length ops.length), (12, pT a0), (13, .nilIface), (22, .slice oa ops.length oc), (23, iN ops.length), (24, iN i)]) (fun i w' => (i ≤ ops.length ∧ (me = 0 → cntS fG ops i = 0)) ∧ Hp No w₀ w' (x3 :: (rC tb #[x6, .pointer none, iN ws.length, iN 0] 96) :: x2 :: (rX a0 E64 ([0#64, 0#64]) 83) :: x4)) (fun i => ops.length - i) (0) ?_ ?_ ?_
  ·exact kp
  ·exact ⟨⟨Nat.zero_le _, fun _ => rfl⟩, (r0.pk 5 [1, 3, 4, 0, 2])⟩
  rintro i ρ f2 ⟨⟨hq, hgi⟩, HL⟩
  refine go 1 ?_
  refine condProp (((i : Nat) : Int) < (ops.length : Nat)) rfl (fun y1 => ?_) (fun y1 => ?_)
  ·refine go 0 ?_
   refine sq (r_idxS (E := EMo) (l := ops) (j := i) sli22 (hO _ HL.chg (fun p hp => HL.has p (mT (mT (mT (mT (mT ((List.mem_append_right _ hp))))))))) rfl rfl vo (by rfl) om) (sq ((r_ldS (E := EMo) (l := ops) (j := i) (v := ops.getD i mo0) fits36 (hO _ HL.chg (fun p hp => HL.has p (mT (mT (mT (mT (mT ((List.mem_append_right _ hp))))))))) rfl rfl (at_getD om)).as (v' := .agg #[i64 ((ops.getD i mo0).kd), i64 ((ops.getD i mo0).a), i64 ((ops.getD i mo0).b), i64 ((ops.getD i mo0).k), u64 ((ops.getD i mo0).c), i64 ((ops.getD i mo0).pt)]) rfl) ?_)
   refine go 1 ?_
   intro g2 h2 i2 j2 k2
   refine go 1 ?_
   intro z1 n0 l2
   refine go 4 ?_
   refine sqGv (B := (decide (((ops.getD i mo0).kd : Int) = (17 : Int)))) (v := iN me) (wantedG (d' := 31) (B := true) rfl rfl rfl) (fun hB => r_move (v := iN me) rfl) (sqGv (B := (decide (((ops.getD i mo0).kd : Int) = (17 : Int)))) (v := .bool (decide (((me : Nat) : Int) = (0 : Int)))) (wantedG (d' := 31) (B := true) rfl rfl rfl) (fun hB => by simp only [gvT (v := _) (h := hB)]; exact r_eqlI rfl rfl) (sq (r_pickAnd (B := true) rfl rfl rfl rfl) ?_))
   refine go 0 ?_
   refine condBool ((decide (((ops.getD i mo0).kd : Int) = (17 : Int)) && decide (((me : Nat) : Int) = (0 : Int)))) rfl (fun m0 => ?_) (fun m0 => ?_)
   ·have hc := Bool.and_eq_true_iff.1 m0
    have hc1 := of_decide_eq_true hc.1
    have hc2 := of_decide_eq_true hc.2
    have hm0 : me = 0 := by omega
    have hgp : 0 < cntS fG ops ops.length := cnt_pos ops.length (show i < ops.length by omega) (by rw [fG, if_pos hc1]; decide)
    have hdl0 : dlN me ops = 2 := if_pos ⟨hm0, hgp⟩
    refine go 1 ?_
    refine cl (label_hit tb tc 0 (ownA tk) ws z1 vGa (hpRdSt n0 (i := 2) (j := 3) rfl rfl rfl hSw) om om) ?_
    rintro _ m2 ⟨rfl, A1, B1⟩
    have n2 := (n0.set (k := 2) rfl A1 B1).as (L' := (_ :: _ :: _ :: _ :: _ :: _ :: (skR 66 121 114 sb st ++ R))) rfl
    refine go 4 ?_
    intro o2 p2 q2
    refine go 8 ?_
    intro r2 C1 s2
    refine wend (exitAny (blockOut rfl (thenExit (thenExit (blockHere (thenNormal ?_))))))
    have hdl : dlN me ops = 0 + 2 := if_pos ⟨hm0, hgp⟩
    have hdv : dlL me ops ws = ((ws.getD 0 0#64) ||| (1#64), ws.getD (0 + 1) 0#64) := if_pos ⟨hm0, hgp⟩
    have D1 := ((C1.dropk 0)).as (L' := (((some b5), sob EDr 91 (List.replicate ops.length dr0) (cel EDr (List.replicate (ops.length - ops.length) dr0))) :: (rC tb #[sO tk ws.length tc, .pointer none, iN ws.length, iN (dlN me ops)] 96) :: (tk, sob E64 34 ws ts) :: (rX a0 E64 ([(dlL me ops ws).1, (dlL me ops ws).2]) 83) :: (rX b1 E64 ([0#64, 0#64]) 83) :: (skR 66 121 114 sb st ++ R))) (by rw [hdl, hdv] <;> rfl)
    exact o0 () _ _ kp ⟨trivial, D1⟩
   ·refine go 2 ?_
    exact ⟨i + 1, _, rfl, kp, ⟨⟨om, fun hm => by rw [cntS, hgi hm, fG, if_neg (fun e => by rw [decide_eq_true e, decide_eq_true (show ((me : Nat) : Int) = 0 by omega)] at m0; cases m0)]⟩, (n0.dropk 0)⟩, vd⟩
  ·have hie : i = ops.length := by omega
   subst hie
   refine exitAny (thenExit (thenExit (blockHere (thenNormal ?_))))
   have hdl : dlN me ops = 0 := if_neg (fun h => by have := hgi h.1; omega)
   have hdv : dlL me ops ws = (0#64, 0#64) := if_neg (fun h => by have := hgi h.1; omega)
   have E1 := HL.as (L' := (((some b5), sob EDr 91 (List.replicate ops.length dr0) (cel EDr (List.replicate (ops.length - ops.length) dr0))) :: (rC tb #[sO tk ws.length tc, .pointer none, iN ws.length, iN (dlN me ops)] 96) :: (tk, sob E64 34 ws ts) :: (rX a0 E64 ([(dlL me ops ws).1, (dlL me ops ws).2]) 83) :: (rX b1 E64 ([0#64, 0#64]) 83) :: (skR 66 121 114 sb st ++ R))) (by rw [hdl, hdv] <;> rfl)
   exact o0 () _ _ kp ⟨trivial, E1⟩
end Go.Proofs.YtohngnahcgbfmaaGreatDoor.Ms
namespace Go.Proofs.YtohngnahcgbfmaaGreatDoor.Ms
open Go Vc Er Ek Circ Mi
open Co Cm
theorem fld36_3 : fld Tryz.prog 36 3 = some (3, 1, 3) := by kernel_rfl
theorem fld36_4 : fld Tryz.prog 36 4 = some (4, 1, 34) := by kernel_rfl
theorem one34 : isOne Tryz.prog 34 = true := by kernel_rfl
theorem und3 : Tryz.prog.underlying 3 = some (.int .i64) := by kernel_rfl
theorem und34 : Tryz.prog.underlying 34 = some (.int .u64) := by kernel_rfl
theorem floor_ok (x : BitVec 64) (k : Int) (w : World) : Calls Tryz.prog 76 [u64 x, i64 k].toArray w (Ret fun v w' => v = u64 (flrS x k) ∧ Ext w w') := by
 have H := Hp.start No w
 refine enter (n := 12) Tryz.func76 rfl rfl (bLe rfl) ?_
 refine go 6 ?_
 refine sq (r_shrI rfl rfl om om) ?_
 refine go 2 ?_
 exact ⟨_, rfl, rfl, H.chg⟩
theorem spread_ok (x : BitVec 64) (w : World) : Calls Tryz.prog 77 [u64 x].toArray w (Ret fun v w' => v = u64 (sprS x) ∧ Ext w w') := by
 have H := Hp.start No w
 refine enter (n := 6) Tryz.func77 rfl rfl (bLe rfl) ?_
 refine go 3 ?_
 refine sq (r_neg64 (a := x &&& (1#64)) rfl) ?_
 refine go 1 ?_
 exact ⟨_, rfl, rfl, H.chg⟩
theorem rxor_ok (a b c d : BitVec 64) (w : World) : Calls Tryz.prog 28 [.agg (cel E64 [a, b]).toArray, .agg (cel E64 [c, d]).toArray].toArray w (Ret fun v w' => v = .agg (cel E64 [(a ^^^ c), (b ^^^ d)]).toArray ∧ Ext w w') := by
 have H := Hp.start No w
 refine enter (n := 16) Tryz.func28 rfl rfl (bLe rfl) ?_
 refine go 1 ?_
 intro b1 w2 b0 H3 c0
 refine go 1 ?_
 intro b5 w6 d0 H7 e0
 refine go 1 ?_
 intro b9 f0 h0 i0 j0
 refine go 12 ?_
 intro k0 a0 l0
 refine go 0 ?_
 exact ⟨_, rfl, rfl, a0.chg⟩
theorem local_ok (o : Mo) (me : Int) (hm : 0 ≤ me ∧ me ≤ 1) (a b : BitVec 64) (hk : 0 ≤ o.k) (w : World) : Calls Tryz.prog 50 [.agg #[i64 (o.kd), i64 (o.a), i64 (o.b), i64 (o.k), u64 (o.c), i64 (o.pt)], i64 me, u64 a, u64 b].toArray w (Ret fun v w' => v = u64 (locS o me a b) ∧ Ext w w') := by
 have H := Hp.start No w
 refine enter (n := 92) Tryz.func50 rfl rfl (bLe rfl) ?_
 refine go 1 ?_
 intro b1 w2 s0 H3 u0
 refine go 5 ?_
 refine condProp ((o.kd : Int) = (2 : Int)) rfl (fun d0 => ?_) (fun d0 => ?_)
 ·refine go 7 ?_
  exact ⟨_, rfl, congrArg u64 (by unfold locS fmS; simp [d0]), H3.chg⟩
 ·refine go 2 ?_
  refine condProp ((o.kd : Int) = (3 : Int)) rfl (fun e0 => ?_) (fun e0 => ?_)
  ·refine go 4 ?_
   exact ⟨_, rfl, congrArg u64 (by unfold locS fmS; simp [e0]), H3.chg⟩
  ·refine go 2 ?_
   refine condProp ((o.kd : Int) = (4 : Int)) rfl (fun f0 => ?_) (fun f0 => ?_)
   ·refine go 4 ?_
    exact ⟨_, rfl, congrArg u64 (by unfold locS fmS; simp [f0]), H3.chg⟩
   ·refine go 2 ?_
    refine condProp ((o.kd : Int) = (5 : Int)) rfl (fun h0 => ?_) (fun h0 => ?_)
    ·refine go 5 ?_
     exact ⟨_, rfl, congrArg u64 (by unfold locS fmS; simp [h0]), H3.chg⟩
    ·refine go 2 ?_
     refine condProp ((o.kd : Int) = (7 : Int)) rfl (fun i0 => ?_) (fun i0 => ?_)
     ·refine go 4 ?_
      exact ⟨_, rfl, congrArg u64 (by unfold locS fmS; simp [i0]), H3.chg⟩
     ·refine go 2 ?_
      refine condProp ((o.kd : Int) = (8 : Int)) rfl (fun j0 => ?_) (fun j0 => ?_)
      ·refine go 9 ?_
       exact ⟨_, rfl, congrArg u64 (by unfold locS fmS; simp [j0]), H3.chg⟩
      ·refine go 2 ?_
       refine condProp ((o.kd : Int) = (10 : Int)) rfl (fun k0 => ?_) (fun k0 => ?_)
       ·refine go 5 ?_
        exact ⟨_, rfl, congrArg u64 (by unfold locS fmS; simp [k0]), H3.chg⟩
       ·refine go 2 ?_
        refine condProp ((o.kd : Int) = (11 : Int)) rfl (fun l0 => ?_) (fun l0 => ?_)
        ·refine go 2 ?_
         refine sq ((r_loadC (v := i64 (o.k)) one3 (H3.get (k := 0) rfl) (off := 3) rfl (by rfl)).as (v' := iN o.k.toNat) (by exact congrArg i64 (Int.toNat_of_nonneg hk).symm)) ?_
         refine go 2 ?_
         exact ⟨_, rfl, congrArg u64 (by unfold locS fmS; simp [l0]), H3.chg⟩
        ·refine go 2 ?_
         refine condProp ((o.kd : Int) = (12 : Int)) rfl (fun m0 => ?_) (fun m0 => ?_)
         ·refine go 2 ?_
          refine sq ((r_loadC (v := i64 (o.k)) one3 (H3.get (k := 0) rfl) (off := 3) rfl (by rfl)).as (v' := iN o.k.toNat) (by exact congrArg i64 (Int.toNat_of_nonneg hk).symm)) ?_
          refine go 2 ?_
          exact ⟨_, rfl, congrArg u64 (by unfold locS fmS; simp [m0]), H3.chg⟩
         ·refine go 2 ?_
          refine condProp ((o.kd : Int) = (13 : Int)) rfl (fun n0 => ?_) (fun n0 => ?_)
          ·refine go 3 ?_
           refine cl (floor_ok a o.k w2) ?_
           rintro _ w5 ⟨rfl, p0⟩
           have H7 := H3.ext p0
           refine go 1 ?_
           exact ⟨_, rfl, congrArg u64 (by unfold locS fmS; simp [n0]), H7.chg⟩
          ·refine go 2 ?_
           refine condProp ((o.kd : Int) = (14 : Int)) rfl (fun o0 => ?_) (fun o0 => ?_)
           ·refine go 1 ?_
            refine cl (spread_ok a w2) ?_
            rintro _ w8 ⟨rfl, q0⟩
            have r0 := H3.ext q0
            refine go 1 ?_
            exact ⟨_, rfl, congrArg u64 (by unfold locS fmS; simp [o0]), r0.chg⟩
           ·refine go 2 ?_
            refine condProp ((o.kd : Int) = (16 : Int)) rfl (fun b0 => ?_) (fun b0 => ?_)
            ·refine go 2 ?_
             refine sq ((r_loadC (v := i64 (o.k)) one3 (H3.get (k := 0) rfl) (off := 3) rfl (by rfl)).as (v' := iN o.k.toNat) (by exact congrArg i64 (Int.toNat_of_nonneg hk).symm)) ?_
             refine go 7 ?_
             refine condProp ((me : Int) ≠ o.pt) rfl (fun a0 => ?_) (fun a0 => ?_)
             ·refine go 1 ?_
              exact ⟨_, rfl, congrArg u64 (by unfold locS fmS; simp [b0, a0]), H3.chg⟩
             ·refine go 2 ?_
              exact ⟨_, rfl, congrArg u64 (by unfold locS fmS; simp [b0, a0]), H3.chg⟩
            ·refine go 2 ?_
             refine condProp ((o.kd : Int) = (15 : Int)) rfl (fun c0 => ?_) (fun c0 => ?_)
             ·refine go 4 ?_
              refine condProp ((me : Int) ≠ o.pt) rfl (fun a0 => ?_) (fun a0 => ?_)
              ·refine go 1 ?_
               exact ⟨_, rfl, congrArg u64 (by unfold locS fmS; simp [c0, a0]), H3.chg⟩
              ·refine go 2 ?_
               exact ⟨_, rfl, congrArg u64 (by unfold locS fmS; simp [c0, a0]), H3.chg⟩
             ·refine go 2 ?_
              exact ⟨_, rfl, congrArg u64 (by unfold locS fmS; simp [d0, e0, f0, h0, i0, j0, k0, l0, m0, n0, o0, b0, c0]), H3.chg⟩
end Go.Proofs.YtohngnahcgbfmaaGreatDoor.Ms
namespace Go.Proofs.YtohngnahcgbfmaaGreatDoor.Aes
open Go Vc AesSpec
theorem agg216 : isAgg' Tryz.prog 216 = true := by kernel_rfl
theorem agg239 : isAgg' Tryz.prog 239 = true := by kernel_rfl
theorem agg83 : isAgg' Tryz.prog 83 = true := by kernel_rfl
theorem arr216 : arr Tryz.prog 216 = some (16, 1) := by kernel_rfl
theorem arr229 : arr Tryz.prog 229 = some (11, 16) := by kernel_rfl
theorem arr239 : arr Tryz.prog 239 = some (4, 1) := by kernel_rfl
theorem arr83 : arr Tryz.prog 83 = some (2, 1) := by kernel_rfl
theorem call102 : callable Tryz.prog 102 = true := by kernel_rfl
theorem call104 : callable Tryz.prog 104 = true := by kernel_rfl
theorem call28 : callable Tryz.prog 28 = true := by kernel_rfl
theorem call85 : callable Tryz.prog 85 = true := by kernel_rfl
theorem call86 : callable Tryz.prog 86 = true := by kernel_rfl
theorem call87 : callable Tryz.prog 87 = true := by kernel_rfl
theorem fits34 : Fits Tryz.prog 34 E64 := fits64 (by kernel_rfl) (by kernel_rfl)
theorem fits5 : Fits Tryz.prog 5 E8 := fits8 (by kernel_rfl) (by kernel_rfl)
theorem fld232_0 : fld Tryz.prog 232 0 = some (0, 176, 229) := by kernel_rfl
theorem mixed : Tryz.prog.follows .mixedOrders = true := by kernel_rfl
theorem one34 : isOne Tryz.prog 34 = true := by kernel_rfl
theorem one5 : isOne Tryz.prog 5 = true := by kernel_rfl
theorem siz216 : siz Tryz.prog 216 = some 16 := by kernel_rfl
theorem siz239 : siz Tryz.prog 239 = some 4 := by kernel_rfl
theorem siz34 : siz Tryz.prog 34 = some 1 := by kernel_rfl
theorem siz5 : siz Tryz.prog 5 = some 1 := by kernel_rfl
theorem siz83 : siz Tryz.prog 83 = some 2 := by kernel_rfl
theorem und216 : Tryz.prog.underlying 216 = some (.array 16 5) := by kernel_rfl
theorem und3 : Tryz.prog.underlying 3 = some (.int .i64) := by kernel_rfl
theorem und34 : Tryz.prog.underlying 34 = some (.int .u64) := by kernel_rfl
theorem zer239 : zer Tryz.prog 239 = some (.agg (List.replicate 4 (.int .u8 0)).toArray) := by kernel_rfl
theorem zer83 : zer Tryz.prog 83 = some (.agg (List.replicate 2 (.int .u64 0)).toArray) := by kernel_rfl
theorem twice_ok (a : BitVec 8) (w : World) : Calls Tryz.prog 102 [u8 a].toArray w (Ret fun v w' => v = u8 (xt a) ∧ Ext w w') := by
 have H := Hp.start No w
 refine enter (n := 10) Tryz.func102 rfl rfl (bLe rfl) ?_
 refine go 3 ?_
 refine condProp ((128#8).toNat ≤ a.toNat) rfl (fun c => ?_) (fun c => ?_)
 ·refine go 4 ?_
  exact ⟨_, rfl, congrArg u8 (if_pos c).symm, H.chg⟩
 ·refine go 3 ?_
  exact ⟨_, rfl, congrArg u8 (if_neg c).symm, H.chg⟩
theorem rot_ok (a : BitVec 8) (k : Nat) (hk : k < 8) (w : World) : Calls Tryz.prog 104 [u8 a, iN k].toArray w (Ret fun v w' => v = u8 (rot a k) ∧ Ext w w') := by
 have H := Hp.start No w
 refine enter (n := 17) Tryz.func104 rfl rfl (bLe rfl) ?_
 refine go 14 ?_
 exact ⟨_, rfl, congrArg u8 (by simp only [rot, (rot_eq k hk).1, (rot_eq k hk).2]), H.chg⟩
theorem fill_ok (b : Nat) (cl : List By) (hn : cl.length = 432) (w : World) (hb : w.heap[b]? = some (.cells (cel E8 cl).toArray 232 (0, 0))) : Calls Tryz.prog 103 [pT b].toArray w (Ret fun v w' => v = .tuple #[] ∧ Chg (· = b) w w' ∧ w'.heap[b]? = some (.cells (cel E8 (fillL cl)).toArray 232 (0, 0))) := by
 have H := Hp.start1 (M := (· = b)) rfl hb
 refine enter (n := 50) Tryz.func103 rfl rfl (bLe rfl) ?_
 refine go 3 ?_
 refine loopAny (σ := Nat) (fun k => [(0, pT b), (2, u8 ((fillS cl k).1)), (3, u8 ((fillS cl k).2.1)), (4, iN k)]) (fun k w' => k ≤ 255 ∧ Hp (· = b) w w' [(rX b E8 ((fillS cl k).2.2) 232)]) (fun k => 255 - k) (0) ?_ ?_ ?_
 ·exact kp
 ·exact ⟨om, H⟩
 rintro k ρ w1 ⟨hk, H2⟩
 have hl := fillS_len cl k
 rw [hn] at hl
 refine go 1 ?_
 refine condProp (((k : Nat) : Int) < (255 : Int)) rfl (fun e0 => ?_) (fun e0 => ?_)
 ·refine go 2 ?_
  refine Vc.cl (twice_ok ((fillS cl k).1) w1) ?_
  rintro _ w3 ⟨rfl, f0⟩
  have H5 := H2.ext f0
  refine go 19 ?_
  refine condProp ((128#8).toNat ≤ (((((fillS cl k).2.1) ^^^ (((fillS cl k).2.1) <<< (1 : Nat))) ^^^ ((((fillS cl k).2.1) ^^^ (((fillS cl k).2.1) <<< (1 : Nat))) <<< (2 : Nat))) ^^^ (((((fillS cl k).2.1) ^^^ (((fillS cl k).2.1) <<< (1 : Nat))) ^^^ ((((fillS cl k).2.1) ^^^ (((fillS cl k).2.1) <<< (1 : Nat))) <<< (2 : Nat))) <<< (4 : Nat))).toNat) rfl (fun a0 => ?_) (fun a0 => ?_)
  ·refine go 3 ?_
   refine drawAny (K := [none, none, none, none, none, none, none, none, none, none, none, none, none, none, none, none, none, none, none]) [0, 0, 0, 0, 8, 28, 0, 88, 252, 0, 728, 2044, 0, 5848, 16380, 32764, 1, 65537, 262143, 524287] (fun w' => Ext w3 w') (fun w' w'' => Ext w' w'') mixed (by kernel_rfl) (Ext.drew _) (fun _ _ h h' => h.trans h') ?_ ?_
   ·exact relNone (by decide)
   refine gk 4 ?_
   refine ⟨u8 (rot ((((((fillS cl k).2.1) ^^^ (((fillS cl k).2.1) <<< (1 : Nat))) ^^^ ((((fillS cl k).2.1) ^^^ (((fillS cl k).2.1) <<< (1 : Nat))) <<< (2 : Nat))) ^^^ (((((fillS cl k).2.1) ^^^ (((fillS cl k).2.1) <<< (1 : Nat))) ^^^ ((((fillS cl k).2.1) ^^^ (((fillS cl k).2.1) <<< (1 : Nat))) <<< (2 : Nat))) <<< (4 : Nat))) ^^^ (9#8)) 1), fun _ h0 y0 _ => Gives.call rfl (Enters.callL (vs := [u8 ((((((fillS cl k).2.1) ^^^ (((fillS cl k).2.1) <<< (1 : Nat))) ^^^ ((((fillS cl k).2.1) ^^^ (((fillS cl k).2.1) <<< (1 : Nat))) <<< (2 : Nat))) ^^^ (((((fillS cl k).2.1) ^^^ (((fillS cl k).2.1) <<< (1 : Nat))) ^^^ ((((fillS cl k).2.1) ^^^ (((fillS cl k).2.1) <<< (1 : Nat))) <<< (2 : Nat))) <<< (4 : Nat))) ^^^ (9#8)), i64 1]) call104 rfl) (rot_ok ((((((fillS cl k).2.1) ^^^ (((fillS cl k).2.1) <<< (1 : Nat))) ^^^ ((((fillS cl k).2.1) ^^^ (((fillS cl k).2.1) <<< (1 : Nat))) <<< (2 : Nat))) ^^^ (((((fillS cl k).2.1) ^^^ (((fillS cl k).2.1) <<< (1 : Nat))) ^^^ ((((fillS cl k).2.1) ^^^ (((fillS cl k).2.1) <<< (1 : Nat))) <<< (2 : Nat))) <<< (4 : Nat))) ^^^ (9#8)) 1 (by decide) h0), ?_⟩
   refine gk 2 ?_
   refine ⟨u8 (rot ((((((fillS cl k).2.1) ^^^ (((fillS cl k).2.1) <<< (1 : Nat))) ^^^ ((((fillS cl k).2.1) ^^^ (((fillS cl k).2.1) <<< (1 : Nat))) <<< (2 : Nat))) ^^^ (((((fillS cl k).2.1) ^^^ (((fillS cl k).2.1) <<< (1 : Nat))) ^^^ ((((fillS cl k).2.1) ^^^ (((fillS cl k).2.1) <<< (1 : Nat))) <<< (2 : Nat))) <<< (4 : Nat))) ^^^ (9#8)) 2), fun _ i0 z0 _ => Gives.call rfl (Enters.callL (vs := [u8 ((((((fillS cl k).2.1) ^^^ (((fillS cl k).2.1) <<< (1 : Nat))) ^^^ ((((fillS cl k).2.1) ^^^ (((fillS cl k).2.1) <<< (1 : Nat))) <<< (2 : Nat))) ^^^ (((((fillS cl k).2.1) ^^^ (((fillS cl k).2.1) <<< (1 : Nat))) ^^^ ((((fillS cl k).2.1) ^^^ (((fillS cl k).2.1) <<< (1 : Nat))) <<< (2 : Nat))) <<< (4 : Nat))) ^^^ (9#8)), i64 2]) call104 rfl) (rot_ok ((((((fillS cl k).2.1) ^^^ (((fillS cl k).2.1) <<< (1 : Nat))) ^^^ ((((fillS cl k).2.1) ^^^ (((fillS cl k).2.1) <<< (1 : Nat))) <<< (2 : Nat))) ^^^ (((((fillS cl k).2.1) ^^^ (((fillS cl k).2.1) <<< (1 : Nat))) ^^^ ((((fillS cl k).2.1) ^^^ (((fillS cl k).2.1) <<< (1 : Nat))) <<< (2 : Nat))) <<< (4 : Nat))) ^^^ (9#8)) 2 (by decide) i0), ?_⟩
   refine gk 2 ?_
   refine ⟨u8 (rot ((((((fillS cl k).2.1) ^^^ (((fillS cl k).2.1) <<< (1 : Nat))) ^^^ ((((fillS cl k).2.1) ^^^ (((fillS cl k).2.1) <<< (1 : Nat))) <<< (2 : Nat))) ^^^ (((((fillS cl k).2.1) ^^^ (((fillS cl k).2.1) <<< (1 : Nat))) ^^^ ((((fillS cl k).2.1) ^^^ (((fillS cl k).2.1) <<< (1 : Nat))) <<< (2 : Nat))) <<< (4 : Nat))) ^^^ (9#8)) 3), fun _ j0 A0 _ => Gives.call rfl (Enters.callL (vs := [u8 ((((((fillS cl k).2.1) ^^^ (((fillS cl k).2.1) <<< (1 : Nat))) ^^^ ((((fillS cl k).2.1) ^^^ (((fillS cl k).2.1) <<< (1 : Nat))) <<< (2 : Nat))) ^^^ (((((fillS cl k).2.1) ^^^ (((fillS cl k).2.1) <<< (1 : Nat))) ^^^ ((((fillS cl k).2.1) ^^^ (((fillS cl k).2.1) <<< (1 : Nat))) <<< (2 : Nat))) <<< (4 : Nat))) ^^^ (9#8)), i64 3]) call104 rfl) (rot_ok ((((((fillS cl k).2.1) ^^^ (((fillS cl k).2.1) <<< (1 : Nat))) ^^^ ((((fillS cl k).2.1) ^^^ (((fillS cl k).2.1) <<< (1 : Nat))) <<< (2 : Nat))) ^^^ (((((fillS cl k).2.1) ^^^ (((fillS cl k).2.1) <<< (1 : Nat))) ^^^ ((((fillS cl k).2.1) ^^^ (((fillS cl k).2.1) <<< (1 : Nat))) <<< (2 : Nat))) <<< (4 : Nat))) ^^^ (9#8)) 3 (by decide) j0), ?_⟩
   refine gk 2 ?_
   refine ⟨u8 (rot ((((((fillS cl k).2.1) ^^^ (((fillS cl k).2.1) <<< (1 : Nat))) ^^^ ((((fillS cl k).2.1) ^^^ (((fillS cl k).2.1) <<< (1 : Nat))) <<< (2 : Nat))) ^^^ (((((fillS cl k).2.1) ^^^ (((fillS cl k).2.1) <<< (1 : Nat))) ^^^ ((((fillS cl k).2.1) ^^^ (((fillS cl k).2.1) <<< (1 : Nat))) <<< (2 : Nat))) <<< (4 : Nat))) ^^^ (9#8)) 4), fun _ k0 B0 _ => Gives.call rfl (Enters.callL (vs := [u8 ((((((fillS cl k).2.1) ^^^ (((fillS cl k).2.1) <<< (1 : Nat))) ^^^ ((((fillS cl k).2.1) ^^^ (((fillS cl k).2.1) <<< (1 : Nat))) <<< (2 : Nat))) ^^^ (((((fillS cl k).2.1) ^^^ (((fillS cl k).2.1) <<< (1 : Nat))) ^^^ ((((fillS cl k).2.1) ^^^ (((fillS cl k).2.1) <<< (1 : Nat))) <<< (2 : Nat))) <<< (4 : Nat))) ^^^ (9#8)), i64 4]) call104 rfl) (rot_ok ((((((fillS cl k).2.1) ^^^ (((fillS cl k).2.1) <<< (1 : Nat))) ^^^ ((((fillS cl k).2.1) ^^^ (((fillS cl k).2.1) <<< (1 : Nat))) <<< (2 : Nat))) ^^^ (((((fillS cl k).2.1) ^^^ (((fillS cl k).2.1) <<< (1 : Nat))) ^^^ ((((fillS cl k).2.1) ^^^ (((fillS cl k).2.1) <<< (1 : Nat))) <<< (2 : Nat))) <<< (4 : Nat))) ^^^ (9#8)) 4 (by decide) k0), ?_⟩
   refine gk 5 ?_
   intro r47 C0 l0 hF
   have m0 := H5.ext l0
   refine d_store (k := 0) (v := u8 (((((((((((fillS cl k).2.1) ^^^ (((fillS cl k).2.1) <<< (1 : Nat))) ^^^ ((((fillS cl k).2.1) ^^^ (((fillS cl k).2.1) <<< (1 : Nat))) <<< (2 : Nat))) ^^^ (((((fillS cl k).2.1) ^^^ (((fillS cl k).2.1) <<< (1 : Nat))) ^^^ ((((fillS cl k).2.1) ^^^ (((fillS cl k).2.1) <<< (1 : Nat))) <<< (2 : Nat))) <<< (4 : Nat))) ^^^ (9#8)) ^^^ (rot ((((((fillS cl k).2.1) ^^^ (((fillS cl k).2.1) <<< (1 : Nat))) ^^^ ((((fillS cl k).2.1) ^^^ (((fillS cl k).2.1) <<< (1 : Nat))) <<< (2 : Nat))) ^^^ (((((fillS cl k).2.1) ^^^ (((fillS cl k).2.1) <<< (1 : Nat))) ^^^ ((((fillS cl k).2.1) ^^^ (((fillS cl k).2.1) <<< (1 : Nat))) <<< (2 : Nat))) <<< (4 : Nat))) ^^^ (9#8)) 1)) ^^^ (rot ((((((fillS cl k).2.1) ^^^ (((fillS cl k).2.1) <<< (1 : Nat))) ^^^ ((((fillS cl k).2.1) ^^^ (((fillS cl k).2.1) <<< (1 : Nat))) <<< (2 : Nat))) ^^^ (((((fillS cl k).2.1) ^^^ (((fillS cl k).2.1) <<< (1 : Nat))) ^^^ ((((fillS cl k).2.1) ^^^ (((fillS cl k).2.1) <<< (1 : Nat))) <<< (2 : Nat))) <<< (4 : Nat))) ^^^ (9#8)) 2)) ^^^ (rot ((((((fillS cl k).2.1) ^^^ (((fillS cl k).2.1) <<< (1 : Nat))) ^^^ ((((fillS cl k).2.1) ^^^ (((fillS cl k).2.1) <<< (1 : Nat))) <<< (2 : Nat))) ^^^ (((((fillS cl k).2.1) ^^^ (((fillS cl k).2.1) <<< (1 : Nat))) ^^^ ((((fillS cl k).2.1) ^^^ (((fillS cl k).2.1) <<< (1 : Nat))) <<< (2 : Nat))) <<< (4 : Nat))) ^^^ (9#8)) 3)) ^^^ (rot ((((((fillS cl k).2.1) ^^^ (((fillS cl k).2.1) <<< (1 : Nat))) ^^^ ((((fillS cl k).2.1) ^^^ (((fillS cl k).2.1) <<< (1 : Nat))) <<< (2 : Nat))) ^^^ (((((fillS cl k).2.1) ^^^ (((fillS cl k).2.1) <<< (1 : Nat))) ^^^ ((((fillS cl k).2.1) ^^^ (((fillS cl k).2.1) <<< (1 : Nat))) <<< (2 : Nat))) <<< (4 : Nat))) ^^^ (9#8)) 4)) ^^^ (99#8))) (cs' := (cel E8 (((fillS cl k).2.2).set (176 + ((((fillS cl k).1) ^^^ (xt ((fillS cl k).1))).toNat)) (((((((((((fillS cl k).2.1) ^^^ (((fillS cl k).2.1) <<< (1 : Nat))) ^^^ ((((fillS cl k).2.1) ^^^ (((fillS cl k).2.1) <<< (1 : Nat))) <<< (2 : Nat))) ^^^ (((((fillS cl k).2.1) ^^^ (((fillS cl k).2.1) <<< (1 : Nat))) ^^^ ((((fillS cl k).2.1) ^^^ (((fillS cl k).2.1) <<< (1 : Nat))) <<< (2 : Nat))) <<< (4 : Nat))) ^^^ (9#8)) ^^^ (rot ((((((fillS cl k).2.1) ^^^ (((fillS cl k).2.1) <<< (1 : Nat))) ^^^ ((((fillS cl k).2.1) ^^^ (((fillS cl k).2.1) <<< (1 : Nat))) <<< (2 : Nat))) ^^^ (((((fillS cl k).2.1) ^^^ (((fillS cl k).2.1) <<< (1 : Nat))) ^^^ ((((fillS cl k).2.1) ^^^ (((fillS cl k).2.1) <<< (1 : Nat))) <<< (2 : Nat))) <<< (4 : Nat))) ^^^ (9#8)) 1)) ^^^ (rot ((((((fillS cl k).2.1) ^^^ (((fillS cl k).2.1) <<< (1 : Nat))) ^^^ ((((fillS cl k).2.1) ^^^ (((fillS cl k).2.1) <<< (1 : Nat))) <<< (2 : Nat))) ^^^ (((((fillS cl k).2.1) ^^^ (((fillS cl k).2.1) <<< (1 : Nat))) ^^^ ((((fillS cl k).2.1) ^^^ (((fillS cl k).2.1) <<< (1 : Nat))) <<< (2 : Nat))) <<< (4 : Nat))) ^^^ (9#8)) 2)) ^^^ (rot ((((((fillS cl k).2.1) ^^^ (((fillS cl k).2.1) <<< (1 : Nat))) ^^^ ((((fillS cl k).2.1) ^^^ (((fillS cl k).2.1) <<< (1 : Nat))) <<< (2 : Nat))) ^^^ (((((fillS cl k).2.1) ^^^ (((fillS cl k).2.1) <<< (1 : Nat))) ^^^ ((((fillS cl k).2.1) ^^^ (((fillS cl k).2.1) <<< (1 : Nat))) <<< (2 : Nat))) <<< (4 : Nat))) ^^^ (9#8)) 3)) ^^^ (rot ((((((fillS cl k).2.1) ^^^ (((fillS cl k).2.1) <<< (1 : Nat))) ^^^ ((((fillS cl k).2.1) ^^^ (((fillS cl k).2.1) <<< (1 : Nat))) <<< (2 : Nat))) ^^^ (((((fillS cl k).2.1) ^^^ (((fillS cl k).2.1) <<< (1 : Nat))) ^^^ ((((fillS cl k).2.1) ^^^ (((fillS cl k).2.1) <<< (1 : Nat))) <<< (2 : Nat))) <<< (4 : Nat))) ^^^ (9#8)) 4)) ^^^ (99#8)))).toArray) m0 rfl rfl rfl siz5 (by rfl) (by exact E8.one _) (by rw [List.size_toArray, cel_length]; show _ ≤ _ * 1; have := ((fillS cl k).1 ^^^ xt (fillS cl k).1).isLt; rw [hl]; omega) (by exact put1 (E := E8) rfl _ _ _) fun D0 n0 E0 => ?_
   have b0 := n0.a1 rfl
   refine go 2 ?_
   have e3 : u8 ((((((fillS cl k).2.1) ^^^ (((fillS cl k).2.1) <<< (1 : Nat))) ^^^ ((((fillS cl k).2.1) ^^^ (((fillS cl k).2.1) <<< (1 : Nat))) <<< (2 : Nat))) ^^^ (((((fillS cl k).2.1) ^^^ (((fillS cl k).2.1) <<< (1 : Nat))) ^^^ ((((fillS cl k).2.1) ^^^ (((fillS cl k).2.1) <<< (1 : Nat))) <<< (2 : Nat))) <<< (4 : Nat))) ^^^ (9#8)) = u8 (fq (fillS cl k).2.1) := congrArg u8 (by simp only [fq]; first | rw [if_pos a0] | rw [if_neg a0])
   have eL : ((fillS cl k).2.2).set (176 + ((((fillS cl k).1) ^^^ (xt ((fillS cl k).1))).toNat)) (((((((((((fillS cl k).2.1) ^^^ (((fillS cl k).2.1) <<< (1 : Nat))) ^^^ ((((fillS cl k).2.1) ^^^ (((fillS cl k).2.1) <<< (1 : Nat))) <<< (2 : Nat))) ^^^ (((((fillS cl k).2.1) ^^^ (((fillS cl k).2.1) <<< (1 : Nat))) ^^^ ((((fillS cl k).2.1) ^^^ (((fillS cl k).2.1) <<< (1 : Nat))) <<< (2 : Nat))) <<< (4 : Nat))) ^^^ (9#8)) ^^^ (rot ((((((fillS cl k).2.1) ^^^ (((fillS cl k).2.1) <<< (1 : Nat))) ^^^ ((((fillS cl k).2.1) ^^^ (((fillS cl k).2.1) <<< (1 : Nat))) <<< (2 : Nat))) ^^^ (((((fillS cl k).2.1) ^^^ (((fillS cl k).2.1) <<< (1 : Nat))) ^^^ ((((fillS cl k).2.1) ^^^ (((fillS cl k).2.1) <<< (1 : Nat))) <<< (2 : Nat))) <<< (4 : Nat))) ^^^ (9#8)) 1)) ^^^ (rot ((((((fillS cl k).2.1) ^^^ (((fillS cl k).2.1) <<< (1 : Nat))) ^^^ ((((fillS cl k).2.1) ^^^ (((fillS cl k).2.1) <<< (1 : Nat))) <<< (2 : Nat))) ^^^ (((((fillS cl k).2.1) ^^^ (((fillS cl k).2.1) <<< (1 : Nat))) ^^^ ((((fillS cl k).2.1) ^^^ (((fillS cl k).2.1) <<< (1 : Nat))) <<< (2 : Nat))) <<< (4 : Nat))) ^^^ (9#8)) 2)) ^^^ (rot ((((((fillS cl k).2.1) ^^^ (((fillS cl k).2.1) <<< (1 : Nat))) ^^^ ((((fillS cl k).2.1) ^^^ (((fillS cl k).2.1) <<< (1 : Nat))) <<< (2 : Nat))) ^^^ (((((fillS cl k).2.1) ^^^ (((fillS cl k).2.1) <<< (1 : Nat))) ^^^ ((((fillS cl k).2.1) ^^^ (((fillS cl k).2.1) <<< (1 : Nat))) <<< (2 : Nat))) <<< (4 : Nat))) ^^^ (9#8)) 3)) ^^^ (rot ((((((fillS cl k).2.1) ^^^ (((fillS cl k).2.1) <<< (1 : Nat))) ^^^ ((((fillS cl k).2.1) ^^^ (((fillS cl k).2.1) <<< (1 : Nat))) <<< (2 : Nat))) ^^^ (((((fillS cl k).2.1) ^^^ (((fillS cl k).2.1) <<< (1 : Nat))) ^^^ ((((fillS cl k).2.1) ^^^ (((fillS cl k).2.1) <<< (1 : Nat))) <<< (2 : Nat))) <<< (4 : Nat))) ^^^ (9#8)) 4)) ^^^ (99#8)) = (fillS cl (k + 1)).2.2 := by simp only [fillS, aff, fp, fq]; first | rw [if_pos a0] | rw [if_neg a0]
   rw [eL] at b0
   exact ⟨k + 1, _, rfl, ⟨rfl, rfl, e3, rfl, trivial⟩, ⟨om, b0⟩, vd⟩
  ·refine go 0 ?_
   refine drawAny (K := [none, none, none, none, none, none, none, none, none, none, none, none, none, none, none, none, none, none, none]) [0, 0, 0, 0, 8, 28, 0, 88, 252, 0, 728, 2044, 0, 5848, 16380, 32764, 1, 65537, 262143, 524287] (fun w' => Ext w3 w') (fun w' w'' => Ext w' w'') mixed (by kernel_rfl) (Ext.drew _) (fun _ _ h h' => h.trans h') ?_ ?_
   ·exact relNone (by decide)
   refine gk 4 ?_
   refine ⟨u8 (rot (((((fillS cl k).2.1) ^^^ (((fillS cl k).2.1) <<< (1 : Nat))) ^^^ ((((fillS cl k).2.1) ^^^ (((fillS cl k).2.1) <<< (1 : Nat))) <<< (2 : Nat))) ^^^ (((((fillS cl k).2.1) ^^^ (((fillS cl k).2.1) <<< (1 : Nat))) ^^^ ((((fillS cl k).2.1) ^^^ (((fillS cl k).2.1) <<< (1 : Nat))) <<< (2 : Nat))) <<< (4 : Nat))) 1), fun _ o0 F0 _ => Gives.call rfl (Enters.callL (vs := [u8 (((((fillS cl k).2.1) ^^^ (((fillS cl k).2.1) <<< (1 : Nat))) ^^^ ((((fillS cl k).2.1) ^^^ (((fillS cl k).2.1) <<< (1 : Nat))) <<< (2 : Nat))) ^^^ (((((fillS cl k).2.1) ^^^ (((fillS cl k).2.1) <<< (1 : Nat))) ^^^ ((((fillS cl k).2.1) ^^^ (((fillS cl k).2.1) <<< (1 : Nat))) <<< (2 : Nat))) <<< (4 : Nat))), i64 1]) call104 rfl) (rot_ok (((((fillS cl k).2.1) ^^^ (((fillS cl k).2.1) <<< (1 : Nat))) ^^^ ((((fillS cl k).2.1) ^^^ (((fillS cl k).2.1) <<< (1 : Nat))) <<< (2 : Nat))) ^^^ (((((fillS cl k).2.1) ^^^ (((fillS cl k).2.1) <<< (1 : Nat))) ^^^ ((((fillS cl k).2.1) ^^^ (((fillS cl k).2.1) <<< (1 : Nat))) <<< (2 : Nat))) <<< (4 : Nat))) 1 (by decide) o0), ?_⟩
   refine gk 2 ?_
   refine ⟨u8 (rot (((((fillS cl k).2.1) ^^^ (((fillS cl k).2.1) <<< (1 : Nat))) ^^^ ((((fillS cl k).2.1) ^^^ (((fillS cl k).2.1) <<< (1 : Nat))) <<< (2 : Nat))) ^^^ (((((fillS cl k).2.1) ^^^ (((fillS cl k).2.1) <<< (1 : Nat))) ^^^ ((((fillS cl k).2.1) ^^^ (((fillS cl k).2.1) <<< (1 : Nat))) <<< (2 : Nat))) <<< (4 : Nat))) 2), fun _ p0 G0 _ => Gives.call rfl (Enters.callL (vs := [u8 (((((fillS cl k).2.1) ^^^ (((fillS cl k).2.1) <<< (1 : Nat))) ^^^ ((((fillS cl k).2.1) ^^^ (((fillS cl k).2.1) <<< (1 : Nat))) <<< (2 : Nat))) ^^^ (((((fillS cl k).2.1) ^^^ (((fillS cl k).2.1) <<< (1 : Nat))) ^^^ ((((fillS cl k).2.1) ^^^ (((fillS cl k).2.1) <<< (1 : Nat))) <<< (2 : Nat))) <<< (4 : Nat))), i64 2]) call104 rfl) (rot_ok (((((fillS cl k).2.1) ^^^ (((fillS cl k).2.1) <<< (1 : Nat))) ^^^ ((((fillS cl k).2.1) ^^^ (((fillS cl k).2.1) <<< (1 : Nat))) <<< (2 : Nat))) ^^^ (((((fillS cl k).2.1) ^^^ (((fillS cl k).2.1) <<< (1 : Nat))) ^^^ ((((fillS cl k).2.1) ^^^ (((fillS cl k).2.1) <<< (1 : Nat))) <<< (2 : Nat))) <<< (4 : Nat))) 2 (by decide) p0), ?_⟩
   refine gk 2 ?_
   refine ⟨u8 (rot (((((fillS cl k).2.1) ^^^ (((fillS cl k).2.1) <<< (1 : Nat))) ^^^ ((((fillS cl k).2.1) ^^^ (((fillS cl k).2.1) <<< (1 : Nat))) <<< (2 : Nat))) ^^^ (((((fillS cl k).2.1) ^^^ (((fillS cl k).2.1) <<< (1 : Nat))) ^^^ ((((fillS cl k).2.1) ^^^ (((fillS cl k).2.1) <<< (1 : Nat))) <<< (2 : Nat))) <<< (4 : Nat))) 3), fun _ q0 H0 _ => Gives.call rfl (Enters.callL (vs := [u8 (((((fillS cl k).2.1) ^^^ (((fillS cl k).2.1) <<< (1 : Nat))) ^^^ ((((fillS cl k).2.1) ^^^ (((fillS cl k).2.1) <<< (1 : Nat))) <<< (2 : Nat))) ^^^ (((((fillS cl k).2.1) ^^^ (((fillS cl k).2.1) <<< (1 : Nat))) ^^^ ((((fillS cl k).2.1) ^^^ (((fillS cl k).2.1) <<< (1 : Nat))) <<< (2 : Nat))) <<< (4 : Nat))), i64 3]) call104 rfl) (rot_ok (((((fillS cl k).2.1) ^^^ (((fillS cl k).2.1) <<< (1 : Nat))) ^^^ ((((fillS cl k).2.1) ^^^ (((fillS cl k).2.1) <<< (1 : Nat))) <<< (2 : Nat))) ^^^ (((((fillS cl k).2.1) ^^^ (((fillS cl k).2.1) <<< (1 : Nat))) ^^^ ((((fillS cl k).2.1) ^^^ (((fillS cl k).2.1) <<< (1 : Nat))) <<< (2 : Nat))) <<< (4 : Nat))) 3 (by decide) q0), ?_⟩
   refine gk 2 ?_
   refine ⟨u8 (rot (((((fillS cl k).2.1) ^^^ (((fillS cl k).2.1) <<< (1 : Nat))) ^^^ ((((fillS cl k).2.1) ^^^ (((fillS cl k).2.1) <<< (1 : Nat))) <<< (2 : Nat))) ^^^ (((((fillS cl k).2.1) ^^^ (((fillS cl k).2.1) <<< (1 : Nat))) ^^^ ((((fillS cl k).2.1) ^^^ (((fillS cl k).2.1) <<< (1 : Nat))) <<< (2 : Nat))) <<< (4 : Nat))) 4), fun _ r0 I0 _ => Gives.call rfl (Enters.callL (vs := [u8 (((((fillS cl k).2.1) ^^^ (((fillS cl k).2.1) <<< (1 : Nat))) ^^^ ((((fillS cl k).2.1) ^^^ (((fillS cl k).2.1) <<< (1 : Nat))) <<< (2 : Nat))) ^^^ (((((fillS cl k).2.1) ^^^ (((fillS cl k).2.1) <<< (1 : Nat))) ^^^ ((((fillS cl k).2.1) ^^^ (((fillS cl k).2.1) <<< (1 : Nat))) <<< (2 : Nat))) <<< (4 : Nat))), i64 4]) call104 rfl) (rot_ok (((((fillS cl k).2.1) ^^^ (((fillS cl k).2.1) <<< (1 : Nat))) ^^^ ((((fillS cl k).2.1) ^^^ (((fillS cl k).2.1) <<< (1 : Nat))) <<< (2 : Nat))) ^^^ (((((fillS cl k).2.1) ^^^ (((fillS cl k).2.1) <<< (1 : Nat))) ^^^ ((((fillS cl k).2.1) ^^^ (((fillS cl k).2.1) <<< (1 : Nat))) <<< (2 : Nat))) <<< (4 : Nat))) 4 (by decide) r0), ?_⟩
   refine gk 5 ?_
   intro r92 J0 s0 hF
   have u0 := H5.ext s0
   refine d_store (k := 0) (v := u8 ((((((((((fillS cl k).2.1) ^^^ (((fillS cl k).2.1) <<< (1 : Nat))) ^^^ ((((fillS cl k).2.1) ^^^ (((fillS cl k).2.1) <<< (1 : Nat))) <<< (2 : Nat))) ^^^ (((((fillS cl k).2.1) ^^^ (((fillS cl k).2.1) <<< (1 : Nat))) ^^^ ((((fillS cl k).2.1) ^^^ (((fillS cl k).2.1) <<< (1 : Nat))) <<< (2 : Nat))) <<< (4 : Nat))) ^^^ (rot (((((fillS cl k).2.1) ^^^ (((fillS cl k).2.1) <<< (1 : Nat))) ^^^ ((((fillS cl k).2.1) ^^^ (((fillS cl k).2.1) <<< (1 : Nat))) <<< (2 : Nat))) ^^^ (((((fillS cl k).2.1) ^^^ (((fillS cl k).2.1) <<< (1 : Nat))) ^^^ ((((fillS cl k).2.1) ^^^ (((fillS cl k).2.1) <<< (1 : Nat))) <<< (2 : Nat))) <<< (4 : Nat))) 1)) ^^^ (rot (((((fillS cl k).2.1) ^^^ (((fillS cl k).2.1) <<< (1 : Nat))) ^^^ ((((fillS cl k).2.1) ^^^ (((fillS cl k).2.1) <<< (1 : Nat))) <<< (2 : Nat))) ^^^ (((((fillS cl k).2.1) ^^^ (((fillS cl k).2.1) <<< (1 : Nat))) ^^^ ((((fillS cl k).2.1) ^^^ (((fillS cl k).2.1) <<< (1 : Nat))) <<< (2 : Nat))) <<< (4 : Nat))) 2)) ^^^ (rot (((((fillS cl k).2.1) ^^^ (((fillS cl k).2.1) <<< (1 : Nat))) ^^^ ((((fillS cl k).2.1) ^^^ (((fillS cl k).2.1) <<< (1 : Nat))) <<< (2 : Nat))) ^^^ (((((fillS cl k).2.1) ^^^ (((fillS cl k).2.1) <<< (1 : Nat))) ^^^ ((((fillS cl k).2.1) ^^^ (((fillS cl k).2.1) <<< (1 : Nat))) <<< (2 : Nat))) <<< (4 : Nat))) 3)) ^^^ (rot (((((fillS cl k).2.1) ^^^ (((fillS cl k).2.1) <<< (1 : Nat))) ^^^ ((((fillS cl k).2.1) ^^^ (((fillS cl k).2.1) <<< (1 : Nat))) <<< (2 : Nat))) ^^^ (((((fillS cl k).2.1) ^^^ (((fillS cl k).2.1) <<< (1 : Nat))) ^^^ ((((fillS cl k).2.1) ^^^ (((fillS cl k).2.1) <<< (1 : Nat))) <<< (2 : Nat))) <<< (4 : Nat))) 4)) ^^^ (99#8))) (cs' := (cel E8 (((fillS cl k).2.2).set (176 + ((((fillS cl k).1) ^^^ (xt ((fillS cl k).1))).toNat)) ((((((((((fillS cl k).2.1) ^^^ (((fillS cl k).2.1) <<< (1 : Nat))) ^^^ ((((fillS cl k).2.1) ^^^ (((fillS cl k).2.1) <<< (1 : Nat))) <<< (2 : Nat))) ^^^ (((((fillS cl k).2.1) ^^^ (((fillS cl k).2.1) <<< (1 : Nat))) ^^^ ((((fillS cl k).2.1) ^^^ (((fillS cl k).2.1) <<< (1 : Nat))) <<< (2 : Nat))) <<< (4 : Nat))) ^^^ (rot (((((fillS cl k).2.1) ^^^ (((fillS cl k).2.1) <<< (1 : Nat))) ^^^ ((((fillS cl k).2.1) ^^^ (((fillS cl k).2.1) <<< (1 : Nat))) <<< (2 : Nat))) ^^^ (((((fillS cl k).2.1) ^^^ (((fillS cl k).2.1) <<< (1 : Nat))) ^^^ ((((fillS cl k).2.1) ^^^ (((fillS cl k).2.1) <<< (1 : Nat))) <<< (2 : Nat))) <<< (4 : Nat))) 1)) ^^^ (rot (((((fillS cl k).2.1) ^^^ (((fillS cl k).2.1) <<< (1 : Nat))) ^^^ ((((fillS cl k).2.1) ^^^ (((fillS cl k).2.1) <<< (1 : Nat))) <<< (2 : Nat))) ^^^ (((((fillS cl k).2.1) ^^^ (((fillS cl k).2.1) <<< (1 : Nat))) ^^^ ((((fillS cl k).2.1) ^^^ (((fillS cl k).2.1) <<< (1 : Nat))) <<< (2 : Nat))) <<< (4 : Nat))) 2)) ^^^ (rot (((((fillS cl k).2.1) ^^^ (((fillS cl k).2.1) <<< (1 : Nat))) ^^^ ((((fillS cl k).2.1) ^^^ (((fillS cl k).2.1) <<< (1 : Nat))) <<< (2 : Nat))) ^^^ (((((fillS cl k).2.1) ^^^ (((fillS cl k).2.1) <<< (1 : Nat))) ^^^ ((((fillS cl k).2.1) ^^^ (((fillS cl k).2.1) <<< (1 : Nat))) <<< (2 : Nat))) <<< (4 : Nat))) 3)) ^^^ (rot (((((fillS cl k).2.1) ^^^ (((fillS cl k).2.1) <<< (1 : Nat))) ^^^ ((((fillS cl k).2.1) ^^^ (((fillS cl k).2.1) <<< (1 : Nat))) <<< (2 : Nat))) ^^^ (((((fillS cl k).2.1) ^^^ (((fillS cl k).2.1) <<< (1 : Nat))) ^^^ ((((fillS cl k).2.1) ^^^ (((fillS cl k).2.1) <<< (1 : Nat))) <<< (2 : Nat))) <<< (4 : Nat))) 4)) ^^^ (99#8)))).toArray) u0 rfl rfl rfl siz5 (by rfl) (by exact E8.one _) (by rw [List.size_toArray, cel_length]; show _ ≤ _ * 1; have := ((fillS cl k).1 ^^^ xt (fillS cl k).1).isLt; rw [hl]; omega) (by exact put1 (E := E8) rfl _ _ _) fun K0 w0 L0 => ?_
   have c0 := w0.a1 rfl
   refine go 2 ?_
   have e3 : u8 (((((fillS cl k).2.1) ^^^ (((fillS cl k).2.1) <<< (1 : Nat))) ^^^ ((((fillS cl k).2.1) ^^^ (((fillS cl k).2.1) <<< (1 : Nat))) <<< (2 : Nat))) ^^^ (((((fillS cl k).2.1) ^^^ (((fillS cl k).2.1) <<< (1 : Nat))) ^^^ ((((fillS cl k).2.1) ^^^ (((fillS cl k).2.1) <<< (1 : Nat))) <<< (2 : Nat))) <<< (4 : Nat))) = u8 (fq (fillS cl k).2.1) := congrArg u8 (by simp only [fq]; first | rw [if_pos a0] | rw [if_neg a0])
   have eL : ((fillS cl k).2.2).set (176 + ((((fillS cl k).1) ^^^ (xt ((fillS cl k).1))).toNat)) ((((((((((fillS cl k).2.1) ^^^ (((fillS cl k).2.1) <<< (1 : Nat))) ^^^ ((((fillS cl k).2.1) ^^^ (((fillS cl k).2.1) <<< (1 : Nat))) <<< (2 : Nat))) ^^^ (((((fillS cl k).2.1) ^^^ (((fillS cl k).2.1) <<< (1 : Nat))) ^^^ ((((fillS cl k).2.1) ^^^ (((fillS cl k).2.1) <<< (1 : Nat))) <<< (2 : Nat))) <<< (4 : Nat))) ^^^ (rot (((((fillS cl k).2.1) ^^^ (((fillS cl k).2.1) <<< (1 : Nat))) ^^^ ((((fillS cl k).2.1) ^^^ (((fillS cl k).2.1) <<< (1 : Nat))) <<< (2 : Nat))) ^^^ (((((fillS cl k).2.1) ^^^ (((fillS cl k).2.1) <<< (1 : Nat))) ^^^ ((((fillS cl k).2.1) ^^^ (((fillS cl k).2.1) <<< (1 : Nat))) <<< (2 : Nat))) <<< (4 : Nat))) 1)) ^^^ (rot (((((fillS cl k).2.1) ^^^ (((fillS cl k).2.1) <<< (1 : Nat))) ^^^ ((((fillS cl k).2.1) ^^^ (((fillS cl k).2.1) <<< (1 : Nat))) <<< (2 : Nat))) ^^^ (((((fillS cl k).2.1) ^^^ (((fillS cl k).2.1) <<< (1 : Nat))) ^^^ ((((fillS cl k).2.1) ^^^ (((fillS cl k).2.1) <<< (1 : Nat))) <<< (2 : Nat))) <<< (4 : Nat))) 2)) ^^^ (rot (((((fillS cl k).2.1) ^^^ (((fillS cl k).2.1) <<< (1 : Nat))) ^^^ ((((fillS cl k).2.1) ^^^ (((fillS cl k).2.1) <<< (1 : Nat))) <<< (2 : Nat))) ^^^ (((((fillS cl k).2.1) ^^^ (((fillS cl k).2.1) <<< (1 : Nat))) ^^^ ((((fillS cl k).2.1) ^^^ (((fillS cl k).2.1) <<< (1 : Nat))) <<< (2 : Nat))) <<< (4 : Nat))) 3)) ^^^ (rot (((((fillS cl k).2.1) ^^^ (((fillS cl k).2.1) <<< (1 : Nat))) ^^^ ((((fillS cl k).2.1) ^^^ (((fillS cl k).2.1) <<< (1 : Nat))) <<< (2 : Nat))) ^^^ (((((fillS cl k).2.1) ^^^ (((fillS cl k).2.1) <<< (1 : Nat))) ^^^ ((((fillS cl k).2.1) ^^^ (((fillS cl k).2.1) <<< (1 : Nat))) <<< (2 : Nat))) <<< (4 : Nat))) 4)) ^^^ (99#8)) = (fillS cl (k + 1)).2.2 := by simp only [fillS, aff, fp, fq]; first | rw [if_pos a0] | rw [if_neg a0]
   rw [eL] at c0
   exact ⟨k + 1, _, rfl, ⟨rfl, rfl, e3, rfl, trivial⟩, ⟨om, c0⟩, vd⟩
 ·refine go 4 ?_
  refine d_store (k := 0) (v := u8 (99#8)) (cs' := (cel E8 (((fillS cl k).2.2).set 176 (99#8))).toArray) H2 rfl rfl rfl siz5 (by rfl) (by exact E8.one _) (by rw [List.size_toArray, cel_length]; show _ ≤ _ * 1; rw [hl]; decide) (by exact put1 (E := E8) rfl _ _ _) fun M0 x0 N0 => ?_
  have d0 := x0.a1 rfl
  refine go 0 ?_
  obtain rfl : k = 255 := by omega
  exact ⟨_, rfl, rfl, d0.chg, d0.get (k := 0) rfl⟩
theorem xor_ok (a b c d : BitVec 64) (w : World) : Calls Tryz.prog 28 [.agg (cel E64 [a, b]).toArray, .agg (cel E64 [c, d]).toArray].toArray w (Ret fun v w' => v = .agg (cel E64 [(a ^^^ c), (b ^^^ d)]).toArray ∧ Ext w w') := by
 have H := Hp.start No w
 refine enter (n := 16) Tryz.func28 rfl rfl (bLe rfl) ?_
 refine go 1 ?_
 intro b1 w2 b0 H3 c0
 refine go 1 ?_
 intro b5 w6 d0 H7 e0
 refine go 1 ?_
 intro b9 f0 h0 i0 j0
 refine go 12 ?_
 intro k0 a0 l0
 refine go 0 ?_
 exact ⟨_, rfl, rfl, a0.chg⟩
theorem double_ok (a b : BitVec 64) (w : World) : Calls Tryz.prog 101 [.agg (cel E64 [a, b]).toArray].toArray w (Ret fun v w' => v = .agg (cel E64 [(dbl a b).1, (dbl a b).2]).toArray ∧ Ext w w') := by
 have H := Hp.start No w
 refine enter (n := 24) Tryz.func101 rfl rfl (bLe rfl) ?_
 refine go 1 ?_
 intro b1 w2 c0 H3 d0
 refine go 1 ?_
 intro b5 w6 e0 H7 f0
 refine go 12 ?_
 intro b9 h0 i0 j0 k0
 refine go 1 ?_
 intro l0 m0 n0
 refine go 4 ?_
 refine condProp ((b >>> (63 : Nat)) = (1#64)) rfl (fun c => ?_) (fun c => ?_)
 ·refine go 5 ?_
  intro o0 p0 q0
  refine go 2 ?_
  intro r0 a0 s0
  refine go 0 ?_
  have e : dbl a b = ((a <<< (1 : Nat)) ^^^ (135#64), (b <<< (1 : Nat)) ||| (a >>> (63 : Nat))) := by simp only [dbl]; first | rw [if_pos c] | rw [if_neg c]
  exact ⟨_, rfl, by rw [e]; rfl, a0.chg⟩
 ·refine go 2 ?_
  intro u0 b0 w0
  refine go 0 ?_
  have e : dbl a b = (a <<< (1 : Nat), (b <<< (1 : Nat)) ||| (a >>> (63 : Nat))) := by simp only [dbl]; first | rw [if_pos c] | rw [if_neg c]
  exact ⟨_, rfl, by rw [e]; rfl, b0.chg⟩
theorem bytes_ok (a b : BitVec 64) (w : World) : Calls Tryz.prog 86 [.agg (cel E64 [a, b]).toArray].toArray w (Ret fun v w' => v = .agg (cel E8 (bytesS a b 16)).toArray ∧ Ext w w') := by
 have H := Hp.start No w
 refine enter (n := 21) Tryz.func86 rfl rfl (bLe rfl) ?_
 refine go 1 ?_
 intro b1 w2 i0 H3 j0
 refine go 1 ?_
 intro b5 w6 k0 H7 l0
 refine go 1 ?_
 intro b9 m0 n0 d0 o0
 refine go 1 ?_
 refine loopAny (σ := Nat) (fun k => [(1, pT b1), (2, pT b5), (3, pT b9), (5, iN k)]) (fun k w' => k ≤ 16 ∧ Hp No w w' [(rX b9 E8 (bytesS a b k) 216), (rX b5 E8 (List.replicate 16 0#8) 216), (rX b1 E64 ([a, b]) 83)]) (fun k => 16 - k) (0) ?_ ?_ ?_
 ·exact kp
 ·exact ⟨om, d0⟩
 rintro k ρ p0 ⟨hk, a0⟩
 have hl := bytesS_len a b k
 refine go 1 ?_
 refine condProp (((k : Nat) : Int) < (16 : Int)) rfl (fun e0 => ?_) (fun e0 => ?_)
 ·refine go 6 ?_
  refine sq (r_ld1 (E := E64) (l := [a, b]) (j := k / 8) (a := ([a, b].getD (k / 8) 0#64)) fits34 (a0.get (k := 2) rfl) (at_getD (by simp; omega)) rfl rfl) ?_
  refine go 7 ?_
  intro q0 f0 r0
  refine go 2 ?_
  exact ⟨k + 1, _, rfl, kp, ⟨om, f0⟩, vd⟩
 ·obtain rfl : k = 16 := by omega
  have b0 := a0.as (L' := [(rX b9 E8 (bytesS a b 16) 216), (rX b5 E8 (List.replicate 16 0#8) 216), (rX b1 E64 ([a, b]) 83)]) (rfl)
  refine go 0 ?_
  refine sq (r_loadA (cs' := (cel E8 (bytesS a b 16)).toArray) agg216 siz216 (b0.get (k := 0) rfl) (off := 0) rfl (by rw [List.size_toArray, cel_length]; show _ ≤ _ * 1; omega) (by exact ext_all (by rw [cel_length, bytesS_len]; rfl))) (d_store (k := 1) (v := .agg (cel E8 (bytesS a b 16)).toArray) (cs' := (cel E8 (bytesS a b 16)).toArray) b0 rfl rfl rfl siz216 (by exact celSize (by rw [bytesS_len]; rfl)) (by exact celOne _) (by rw [List.size_toArray, cel_length]; show _ ≤ _ * 1; first | omega | (simp only [List.length_set]; omega) | exact bLe rfl | (simp <;> omega)) (by exact putAll (by rw [bytesS_len]; rfl)) fun s0 h0 u0 => ?_)
  have c0 := h0.a3 rfl
  exact wend (retAny (retG (rs := [.cell 2 216]) (vs := [.agg (cel E8 (bytesS a b 16)).toArray]) rfl ⟨r_loadA (cs' := (cel E8 (bytesS a b 16)).toArray) agg216 siz216 (c0.get (k := 1) rfl) (off := 0) rfl (by rw [List.size_toArray, cel_length, bytesS_len]; decide) (by exact ext_all (by rw [cel_length, bytesS_len]; rfl)), trivial⟩ (⟨_, rfl, rfl, c0.chg⟩)))
theorem label_ok (l : List By) (hl : l.length = 16) (w : World) : Calls Tryz.prog 87 [.agg (cel E8 l).toArray].toArray w (Ret fun v w' => v = .agg (cel E64 (labelS l 16)).toArray ∧ Ext w w') := by
 have H := Hp.start No w
 refine enter (n := 25) Tryz.func87 rfl rfl (bLe rfl) ?_
 refine go 1 ?_
 intro b1 w2 k0 H3 l0
 refine go 1 ?_
 intro b5 w6 m0 H7 n0
 refine go 1 ?_
 intro b9 o0 p0 d0 q0
 refine go 2 ?_
 refine loopAny (σ := Nat) (fun k => [(2, pT b5), (3, pT b9), (6, .agg (cel E8 l).toArray), (7, iN k)]) (fun k w' => k ≤ 16 ∧ Hp No w w' [(rX b9 E64 (labelS l k) 83), (rX b5 E64 ([0#64, 0#64]) 83), (rX b1 E8 l 216)]) (fun k => 16 - k) (0) ?_ ?_ ?_
 ·exact kp
 ·exact ⟨om, d0⟩
 rintro k ρ e0 ⟨hk, a0⟩
 have hL := labelS_len l k
 refine go 1 ?_
 refine condProp (((k : Nat) : Int) < (16 : Int)) rfl (fun f0 => ?_) (fun f0 => ?_)
 ·refine go 1 ?_
  refine sq (r_idxE (E := E8) (l := l) (j := k) (a := l.getD k 0#8) rfl und216 one5 siz5 rfl rfl vo om (by exact at_getD om) (fun _ => rfl)) ?_
  refine go 2 ?_
  refine drawAny (K := [none, none, none, none, none, none, none, none, none, none, none, none]) [0, 1, 3, 7, 0, 16, 0, 64, 192, 496, 1023, 2047, 4095] (fun w' => Ext e0 w') (fun w' w'' => Ext w' w'') mixed (by kernel_rfl) (Ext.drew _) (fun _ _ h h' => h.trans h') ?_ ?_
  ·exact relNone (by decide)
  refine gk 12 ?_
  intro r42 r0 h0 hF
  have s0 := a0.ext h0
  refine go 1 ?_
  intro u0 i0 w0
  refine go 2 ?_
  exact ⟨k + 1, _, rfl, kp, ⟨om, i0⟩, vd⟩
 ·obtain rfl : k = 16 := by omega
  have b0 := a0.as (L' := [(rX b9 E64 (labelS l 16) 83), (rX b5 E64 ([0#64, 0#64]) 83), (rX b1 E8 l 216)]) (rfl)
  refine go 0 ?_
  refine sq (r_loadA (cs' := (cel E64 (labelS l 16)).toArray) agg83 siz83 (b0.get (k := 0) rfl) (off := 0) rfl (by rw [List.size_toArray, cel_length, labelS_len]; decide) (by exact ext_all (by rw [cel_length, labelS_len]; rfl))) (d_store (k := 1) (v := .agg (cel E64 (labelS l 16)).toArray) (cs' := (cel E64 (labelS l 16)).toArray) b0 rfl rfl rfl siz83 (by exact celSize (by rw [labelS_len]; rfl)) (by exact celOne _) (by rw [List.size_toArray, cel_length]; show _ ≤ _ * 1; first | omega | (simp only [List.length_set]; omega) | exact bLe rfl | (simp <;> omega)) (by exact putAll (by rw [labelS_len]; rfl)) fun x0 j0 y0 => ?_)
  have c0 := j0.a3 rfl
  exact wend (retAny (retG (rs := [.cell 2 83]) (vs := [.agg (cel E64 (labelS l 16)).toArray]) rfl ⟨r_loadA (cs' := (cel E64 (labelS l 16)).toArray) agg83 siz83 (c0.get (k := 1) rfl) (off := 0) rfl (by rw [List.size_toArray, cel_length, labelS_len]; decide) (by exact ext_all (by rw [cel_length, labelS_len]; rfl)), trivial⟩ (⟨_, rfl, rfl, c0.chg⟩)))
theorem mix_ok (b : Nat) (l : List By) (hn : l.length = 16) (w : World) (hb : w.heap[b]? = some (.cells (cel E8 l).toArray 216 (0, 0))) : Calls Tryz.prog 98 [pT b].toArray w (Ret fun v w' => v = .tuple #[] ∧ Chg (· = b) w w' ∧ w'.heap[b]? = some (.cells (cel E8 (mixL l)).toArray 216 (0, 0))) := by
 have H := Hp.start1 (M := (· = b)) rfl hb
 refine enter (n := 55) Tryz.func98 rfl rfl (bLe rfl) ?_
 refine go 1 ?_
 refine loopAny (σ := Nat) (fun k => [(0, pT b), (2, iN (4 * k))]) (fun k w' => k ≤ 4 ∧ Hp (· = b) w w' [(rX b E8 (mixS l k) 216)]) (fun k => 4 - k) (0) ?_ ?_ ?_
 ·exact kp
 ·exact ⟨om, H⟩
 rintro k ρ w1 ⟨hk, H2⟩
 have hl := mixS_len l k
 rw [hn] at hl
 have h4 : (mixS l k).length = 16 := hl
 refine go 2 ?_
 refine condProp (((4 * k : Nat) : Int) < (16 : Int)) rfl (fun c0 => ?_) (fun c0 => ?_)
 ·refine go 5 ?_
  refine sq (r_sliceA (l := 4 * k) (h := (4 * k) + 4) (l' := 4 * k) (h' := 4) arr216 (b := b) (off := 0) rfl rfl rfl vo vo om om om om om) (sq (r_arrPtr arr239 rfl om) (sq (r_loadA (cs' := (cel E8 (((mixS l k).drop (4 * k)).take 4)).toArray) agg239 siz239 (H2.get (k := 0) rfl) (off := 4 * k) rfl (by rw [List.size_toArray, cel_length]; show _ ≤ _ * 1; omega) (by exact ext_mid _ _ _ rfl)) ?_))
  refine go 1 ?_
  intro b3 w4 l0 H5 m0
  refine d_store (k := 0) (v := .agg (cel E8 (((mixS l k).drop (4 * k)).take 4)).toArray) (cs' := (cel E8 (mixA (mixS l k) (4 * k))).toArray) H5 rfl rfl rfl siz239 (by exact celSize (by simp [h4, E8]; omega)) (by exact celOne _) (by exact bLe rfl) (by exact putAll (by simp [h4]; omega)) fun w7 H8 n0 => ?_
  have d0 := H8.a2 rfl
  refine go 0 ?_
  have hA : (mixA (mixS l k) (4 * k)).length = 4 := by simp [mixA, h4]; omega
  refine go 13 ?_
  refine loopAny (σ := Nat) (fun r => [(0, pT b), (2, iN (4 * k)), (3, pT b3), (4, u8 (allOf (mixA (mixS l k) (4 * k)))), (29, iN r)]) (fun r w' => r ≤ 4 ∧ Hp (· = b) w w' [(rX b3 E8 (mixA (mixS l k) (4 * k)) 239), (rX b E8 (mixI (mixA (mixS l k) (4 * k)) (allOf (mixA (mixS l k) (4 * k))) (mixS l k) (4 * k) r) 216)]) (fun r => 4 - r) (0) ?_ ?_ ?_
  ·exact kp
  ·exact ⟨om, d0⟩
  rintro r ρ e0 ⟨hr, a0⟩
  have hm := mixI_len (mixA (mixS l k) (4 * k)) (allOf (mixA (mixS l k) (4 * k))) (mixS l k) (4 * k) r
  rw [h4] at hm
  refine go 1 ?_
  refine condProp (((r : Nat) : Int) < (4 : Int)) rfl (fun f0 => ?_) (fun f0 => ?_)
  ·refine go 2 ?_
   refine drawAny (K := [none, none, none, none, none, none, none, none, none, none, none, none, none, none, none, none, none, none, none, none, none, none]) [0, 0, 0, 6, 1, 31, 63, 0, 0, 256, 768, 0, 2048, 6144, 14336, 30720, 65280, 130816, 262016, 524287, 1, 2097151, 4194303] (fun w' => Ext e0 w') (fun w' w'' => Ext w' w'') mixed (by kernel_rfl) (Ext.drew _) (fun _ _ h h' => h.trans h') ?_ ?_
   ·exact relNone (by decide)
   refine gk 17 ?_
   refine ⟨u8 (xt (((mixA (mixS l k) (4 * k)).getD r 0#8) ^^^ ((mixA (mixS l k) (4 * k)).getD ((r + 1) % 4) 0#8))), fun _ h0 o0 _ => Gives.call rfl (Enters.callL (vs := [u8 (((mixA (mixS l k) (4 * k)).getD r 0#8) ^^^ ((mixA (mixS l k) (4 * k)).getD ((r + 1) % 4) 0#8))]) call102 rfl) (twice_ok (((mixA (mixS l k) (4 * k)).getD r 0#8) ^^^ ((mixA (mixS l k) (4 * k)).getD ((r + 1) % 4) 0#8)) h0), ?_⟩
   refine gk 4 ?_
   intro r59 p0 i0 hF
   have q0 := a0.ext i0
   refine go 1 ?_
   intro r0 j0 s0
   refine go 2 ?_
   exact ⟨r + 1, _, rfl, kp, ⟨om, j0⟩, vd⟩
  ·obtain rfl : r = 4 := by omega
   have k0 := a0.as (L' := [(rX b3 E8 (mixA (mixS l k) (4 * k)) 239), (rX b E8 (mixS l (k + 1)) 216)]) (rfl)
   refine go 3 ?_
   exact ⟨k + 1, _, rfl, ⟨rfl, congrArg i64 om, trivial⟩, ⟨om, k0.drop1⟩, vd⟩
 ·obtain rfl : k = 4 := by omega
  have b0 := H2.as (L' := [(rX b E8 (mixS l 4) 216)]) (rfl)
  refine go 0 ?_
  exact ⟨_, rfl, rfl, b0.chg, b0.get (k := 0) rfl⟩
theorem new_ok (key : List By) (hk : key.length = 16) (w : World) : Calls Tryz.prog 100 [.agg (cel E8 key).toArray].toArray w (Ret fun v w' => (∃ b, v = pT b ∧ w.heap.size ≤ b ∧ w'.heap[b]? = some (.cells (cel E8 (cipher key)).toArray 232 (0, 0))) ∧ Ext w w') := by
 have H := Hp.start No w
 refine enter (n := 99) Tryz.func100 rfl rfl (bLe rfl) ?_
 refine go 1 ?_
 intro b1 w2 L0 H3 M0
 refine go 2 ?_
 refine q_box (v := .agg (List.replicate 432 (.int .u8 0)).toArray) (o := .cells (cel E8 (List.replicate 432 0#8)).toArray 232 (0, 0)) H3 rfl (by kernel_rfl) fun b5 w6 N0 H7 O0 => ?_
 refine go 2 ?_
 refine cl (fill_ok b5 (List.replicate 432 0#8) List.length_replicate w6 vGa) ?_
 rintro _ w9 ⟨rfl, i0, j0⟩
 have k0 := (H7.set (k := 0) rfl i0 j0).a2 rfl
 refine go 0 ?_
 refine drawAny (K := [none, none, none, none, none]) [0, 0, 1, 5, 15, 31] (fun w' => Ext w9 w') (fun w' w'' => Ext w' w'') mixed (by kernel_rfl) (Ext.drew _) (fun _ _ h h' => h.trans h') ?_ ?_
 ·exact relNone (by decide)
 refine gk 5 ?_
 intro r25 P0 l0 hF
 have m0 := k0.ext l0
 refine d_store (k := 0) (v := .agg (cel E8 key).toArray) (cs' := (cel E8 ((newS key 0).1)).toArray) m0 rfl rfl rfl siz216 (by exact celSize (by rw [hk]; rfl)) (by exact celOne _) (by rw [List.size_toArray, cel_length, fillL_len, List.length_replicate]; decide) (by rw [newS_zero]; exact put0 (by rw [hk, fillL_len, List.length_replicate]; decide)) fun Q0 n0 R0 => ?_
 have o0 := n0.a2 rfl
 refine go 2 ?_
 refine loopAny (σ := Nat) (fun k => [(3, pT b5), (4, u8 ((newS key k).2)), (5, iN (k + 1))]) (fun k w' => k ≤ 10 ∧ Hp No w w' [(rX b5 E8 ((newS key k).1) 232), (rX b1 E8 key 216)]) (fun k => 10 - k) (0) ?_ ?_ ?_
 ·exact kp
 ·exact ⟨om, o0⟩
 rintro k ρ p0 ⟨S0, c0⟩
 let x2 : Option Addr := some ⟨b5, (k + 1) * 16, none⟩
 let x1 : Option Addr := some ⟨b5, (k + 1 - 1) * 16, none⟩
 have hl := newS_len key hk k
 refine go 2 ?_
 refine condProp (((k + 1 : Nat) : Int) ≤ (10 : Int)) rfl (fun q0 => ?_) (fun q0 => ?_)
 ·refine go 0 ?_
  refine drawAny (K := [none, none, none, none, none, none, none, none, none, none, none, none, none]) [0, 0, 2, 1, 9, 31, 0, 0, 64, 320, 960, 63, 4095] (fun w' => Ext p0 w') (fun w' w'' => Ext w' w'') mixed (by kernel_rfl) (Ext.drew _) (fun _ _ h h' => h.trans h') ?_ ?_
  ·exact relNone (by decide)
  refine ⟨pT b5, fun _ T0 U0 _ => Gives.run rfl (r_move (v := pT b5) rfl) ⟨rfl, Chg.refl _ _⟩, ?_⟩
  refine ⟨iN (k + 1), fun _ V0 W0 _ => Gives.run rfl (r_move (v := iN (k + 1)) rfl) ⟨rfl, Chg.refl _ _⟩, ?_⟩
  refine ⟨i64 ((k + 1 : Nat) - (1 : Int)), fun _ X0 Y0 _ => Gives.run rfl (r_subI rfl rfl om) ⟨rfl, Chg.refl _ _⟩, ?_⟩
  refine ⟨pT b5, fun _ Z0 c1 _ => Gives.run rfl (r_nilCheck rfl) ⟨rfl, Chg.refl _ _⟩, ?_⟩
  refine ⟨pT b5, fun _ d1 e1 _ => Gives.run rfl (r_fieldAddr (off' := 0) fld232_0 (by decide) (b := b5) (off := 0) rfl om) ⟨rfl, Chg.refl _ _⟩, ?_⟩
  refine ⟨.pointer x1, fun _ g1 h1 _ => Gives.run rfl (r_indexA (off' := (k + 1 - 1) * 16) (j := k + 1 - 1) arr229 (b := b5) (off := 0) rfl rfl vo om om) ⟨rfl, Chg.refl _ _⟩, ?_⟩
  refine ⟨pT b5, fun _ i1 j1 _ => Gives.run rfl (r_move (v := pT b5) rfl) ⟨rfl, Chg.refl _ _⟩, ?_⟩
  refine ⟨iN (k + 1), fun _ k1 l1 _ => Gives.run rfl (r_move (v := iN (k + 1)) rfl) ⟨rfl, Chg.refl _ _⟩, ?_⟩
  refine ⟨pT b5, fun _ m1 n1 _ => Gives.run rfl (r_nilCheck rfl) ⟨rfl, Chg.refl _ _⟩, ?_⟩
  refine ⟨pT b5, fun _ o1 p1 _ => Gives.run rfl (r_fieldAddr (off' := 0) fld232_0 (by decide) (b := b5) (off := 0) rfl om) ⟨rfl, Chg.refl _ _⟩, ?_⟩
  refine ⟨.pointer x2, fun _ q1 r1 _ => Gives.run rfl (r_indexA (off' := (k + 1) * 16) (j := k + 1) arr229 (b := b5) (off := 0) rfl rfl vo om om) ⟨rfl, Chg.refl _ _⟩, ?_⟩
  refine ⟨.pointer x1, fun _ s1 t1 _ => Gives.run rfl (r_assign (v := .pointer x1) rfl) ⟨rfl, Chg.refl _ _⟩, ?_⟩
  refine ⟨.pointer x2, fun _ u1 w1 _ => Gives.run rfl (r_assign (v := .pointer x2) rfl) ⟨rfl, Chg.refl _ _⟩, ?_⟩
  intro r60 d0 r0 hF
  have a0 := c0.ext r0
  refine wnil (thenNormal (seqAny (drawAny (K := [none, none, none, none, none, none, none, none, none, none, none, none, none, none, none, none, none, none, none, none, none, none, none, none, none, none, none, none, none, none, none, none, none, none, none, none, none, none, none, some (allocRel d0 (.cells (cel E8 [0#8, 0#8, 0#8, 0#8]).toArray 239 (0, 0)))]) [0, 0, 2, 6, 14, 1, 33, 127, 255, 0, 1023, 0, 0, 4096, 12288, 28672, 2048, 67584, 260096, 522240, 0, 0, 2097152, 6291456, 14680064, 1048576, 34603008, 133169152, 267386880, 0, 0, 1073741824, 3221225472, 7516192768, 536870912, 17716740096, 68182605824, 136902082560, 274877906943, 0, 1099511627775] (fun w' => Ext d0 w') (fun w' w'' => Ext w' w'') mixed (by kernel_rfl) (Ext.drew _) (fun _ _ h h' => h.trans h') ?_ ?_)))
  ·exact relOne 39 _ rfl rfl allocRel_stable (fun _ _ _ _ _ h => h)
  refine ⟨pT b5, fun _ y1 z1 _ => Gives.run rfl (r_move (v := pT b5) rfl) ⟨rfl, Chg.refl _ _⟩, ?_⟩
  refine ⟨.pointer x1, fun _ A1 B1 _ => Gives.run rfl (r_move (v := .pointer x1) rfl) ⟨rfl, Chg.refl _ _⟩, ?_⟩
  refine ⟨.pointer x1, fun _ C1 D1 _ => Gives.run rfl (r_nilCheck rfl) ⟨rfl, Chg.refl _ _⟩, ?_⟩
  refine ⟨.pointer (some ⟨b5, ((k + 1 - 1) * 16) + 13, none⟩), fun _ E1 F1 _ => Gives.run rfl (r_indexA (off' := ((k + 1 - 1) * 16) + 13) (j := 13) arr216 (b := b5) (off := (k + 1 - 1) * 16) rfl rfl vo om om) ⟨rfl, Chg.refl _ _⟩, ?_⟩
  refine gk 4 ?_
  refine ⟨u8 (((newS key k).1).getD (176 + ((((newS key k).1).getD (((k + 1 - 1) * 16) + 13) 0#8).toNat)) 0#8), fun _ G1 s0 _ => Gives.run rfl (r_ld1 (E := E8) (l := (newS key k).1) (j := 176 + ((((newS key k).1).getD (((k + 1 - 1) * 16) + 13) 0#8).toNat)) (a := ((newS key k).1).getD (176 + ((((newS key k).1).getD (((k + 1 - 1) * 16) + 13) 0#8).toNat)) 0#8) fits5 ((a0.ext s0).get (k := 0) rfl) (at_getD (by have := ((newS key k).1.getD ((k + 1 - 1) * 16 + 13) 0#8).isLt; omega)) rfl rfl) ⟨rfl, Chg.refl _ _⟩, ?_⟩
  refine gk 10 ?_
  refine ⟨u8 (((newS key k).1).getD (176 + ((((newS key k).1).getD (((k + 1 - 1) * 16) + 14) 0#8).toNat)) 0#8), fun _ H1 u0 _ => Gives.run rfl (r_ld1 (E := E8) (l := (newS key k).1) (j := 176 + ((((newS key k).1).getD (((k + 1 - 1) * 16) + 14) 0#8).toNat)) (a := ((newS key k).1).getD (176 + ((((newS key k).1).getD (((k + 1 - 1) * 16) + 14) 0#8).toNat)) 0#8) fits5 ((a0.ext u0).get (k := 0) rfl) (at_getD (by have := ((newS key k).1.getD ((k + 1 - 1) * 16 + 14) 0#8).isLt; omega)) rfl rfl) ⟨rfl, Chg.refl _ _⟩, ?_⟩
  refine gk 8 ?_
  refine ⟨u8 (((newS key k).1).getD (176 + ((((newS key k).1).getD (((k + 1 - 1) * 16) + 15) 0#8).toNat)) 0#8), fun _ I1 w0 _ => Gives.run rfl (r_ld1 (E := E8) (l := (newS key k).1) (j := 176 + ((((newS key k).1).getD (((k + 1 - 1) * 16) + 15) 0#8).toNat)) (a := ((newS key k).1).getD (176 + ((((newS key k).1).getD (((k + 1 - 1) * 16) + 15) 0#8).toNat)) 0#8) fits5 ((a0.ext w0).get (k := 0) rfl) (at_getD (by have := ((newS key k).1.getD ((k + 1 - 1) * 16 + 15) 0#8).isLt; omega)) rfl rfl) ⟨rfl, Chg.refl _ _⟩, ?_⟩
  refine gk 8 ?_
  refine ⟨u8 (((newS key k).1).getD (176 + ((((newS key k).1).getD (((k + 1 - 1) * 16) + 12) 0#8).toNat)) 0#8), fun _ J1 x0 _ => Gives.run rfl (r_ld1 (E := E8) (l := (newS key k).1) (j := 176 + ((((newS key k).1).getD (((k + 1 - 1) * 16) + 12) 0#8).toNat)) (a := ((newS key k).1).getD (176 + ((((newS key k).1).getD (((k + 1 - 1) * 16) + 12) 0#8).toNat)) 0#8) fits5 ((a0.ext x0).get (k := 0) rfl) (at_getD (by have := ((newS key k).1.getD ((k + 1 - 1) * 16 + 12) 0#8).isLt; omega)) rfl rfl) ⟨rfl, Chg.refl _ _⟩, ?_⟩
  refine gk 1 ?_
  refine ⟨fun r K1 y0 hF => ?_, ?_⟩
  ·exact allocGives zer239 (by kernel_rfl) y0
  intro r144 L1 e0 hF
  have M1 := a0.ext e0
  obtain ⟨b8, z0, hbs, hbo⟩ := hF 39 _ rfl
  dsimp only
  rw [z0]
  have H8 := a0.add1 e0 hbs hbo
  refine d_store (k := 0) (v := .agg (cel E8 [(((newS key k).1).getD (176 + ((((newS key k).1).getD (((k + 1 - 1) * 16) + 13) 0#8).toNat)) 0#8) ^^^ ((newS key k).2), ((newS key k).1).getD (176 + ((((newS key k).1).getD (((k + 1 - 1) * 16) + 14) 0#8).toNat)) 0#8, ((newS key k).1).getD (176 + ((((newS key k).1).getD (((k + 1 - 1) * 16) + 15) 0#8).toNat)) 0#8, ((newS key k).1).getD (176 + ((((newS key k).1).getD (((k + 1 - 1) * 16) + 12) 0#8).toNat)) 0#8]).toArray) (cs' := (cel E8 (t0 (newS key k).1 (k + 1) (newS key k).2)).toArray) H8 rfl rfl rfl siz239 (by exact celSize rfl) (by exact celOne _) (by exact bLe rfl) (by exact putAll rfl) fun N1 A0 O1 => ?_
  have B0 := A0.a3 rfl
  refine go 1 ?_
  refine loopAny (σ := Nat) (fun i => [(3, pT b5), (4, u8 ((newS key k).2)), (5, iN (k + 1)), (6, .pointer x1), (7, .pointer x2), (8, pT b8), (73, iN i)]) (fun i w' => i ≤ 16 ∧ Hp No w w' [(rX b8 E8 ((innS (newS key k).1 (t0 (newS key k).1 (k + 1) (newS key k).2) (k + 1) i).2) 239), (rX b5 E8 ((innS (newS key k).1 (t0 (newS key k).1 (k + 1) (newS key k).2) (k + 1) i).1) 232), (rX b1 E8 key 216)]) (fun i => 16 - i) (0) ?_ ?_ ?_
  ·exact kp
  ·exact ⟨om, B0⟩
  rintro i ρ f0 ⟨hi, h0⟩
  have hi1 := (innS_len (newS key k).1 (t0 (newS key k).1 (k + 1) (newS key k).2) (k + 1) i).1
  rw [hl] at hi1
  have hi2 := (innS_len (newS key k).1 (t0 (newS key k).1 (k + 1) (newS key k).2) (k + 1) i).2
  rw [show (t0 (newS key k).1 (k + 1) (newS key k).2).length = 4 from rfl] at hi2
  refine go 1 ?_
  refine condProp (((i : Nat) : Int) < (16 : Int)) rfl (fun C0 => ?_) (fun C0 => ?_)
  ·refine go 2 ?_
   refine drawAny (K := [none, none, none, none, none, none, none, none, none, none, none]) [0, 1, 3, 7, 0, 0, 16, 112, 240, 511, 1023, 2047] (fun w' => Ext f0 w') (fun w' w'' => Ext w' w'') mixed (by kernel_rfl) (Ext.drew _) (fun _ _ h h' => h.trans h') ?_ ?_
   ·exact relNone (by decide)
   refine gk 11 ?_
   intro r175 P1 D0 hF
   have Q1 := h0.ext D0
   refine go 1 ?_
   intro E0 F0 R1
   refine go 0 ?_
   refine drawAny (K := [none, none, none, none, none, none, none, none]) [0, 0, 0, 4, 12, 28, 1, 127, 255] (fun w' => Ext E0 w') (fun w' w'' => Ext w' w'') mixed (by kernel_rfl) (Ext.drew _) (fun _ _ h h' => h.trans h') ?_ ?_
   ·exact relNone (by decide)
   refine gk 8 ?_
   intro r198 S1 G0 hF
   have T1 := F0.ext G0
   refine go 1 ?_
   intro U1 H0 V1
   refine go 2 ?_
   exact ⟨i + 1, _, rfl, kp, ⟨om, H0⟩, vd⟩
  ·obtain rfl : i = 16 := by omega
   have I0 := h0.as (L' := [(rX b8 E8 ((innS (newS key k).1 (t0 (newS key k).1 (k + 1) (newS key k).2) (k + 1) 16).2) 239), (rX b5 E8 ((newS key (k + 1)).1) 232), (rX b1 E8 key 216)]) (by rw [newS_succ])
   refine go 1 ?_
   refine cl (twice_ok ((newS key k).2) f0) ?_
   rintro _ W1 ⟨rfl, J0⟩
   have K0 := I0.ext J0
   refine go 4 ?_
   exact ⟨k + 1, _, rfl, kp, ⟨om, K0.drop1⟩, vd⟩
 ·obtain rfl : k = 10 := by omega
  have b0 := c0.as (L' := [(rX b5 E8 (cipher key) 232), (rX b1 E8 key 216)]) (by rw [cipher])
  refine go 2 ?_
  exact ⟨_, rfl, ⟨_, rfl, by have := b0.own _ (List.mem_of_getElem? (i := 0) rfl) _ rfl; exact this.resolve_left (fun h => h), b0.get (k := 0) rfl⟩, b0.chg⟩
theorem enc_ok (bc : Nat) (cl : List By) (hcl : cl.length = 432) (b : List By) (hb : b.length = 16) (w : World) (hc : w.heap[bc]? = some (.cells (cel E8 cl).toArray 232 (0, 0))) : Calls Tryz.prog 85 [pT bc, .agg (cel E8 b).toArray].toArray w (Ret fun v w' => v = .agg (cel E8 (encL cl b)).toArray ∧ Ext w w') := by
 have H := Hp.start No w
 refine enter (n := 71) Tryz.func85 rfl rfl (bLe rfl) ?_
 refine go 1 ?_
 intro b1 w2 M0 H3 N0
 refine go 1 ?_
 intro b5 w6 O0 H7 P0
 refine go 1 ?_
 refine loopAny (σ := Nat) (fun i => [(0, pT bc), (3, pT b1), (4, pT b5), (10, iN i)]) (fun i w' => i ≤ 16 ∧ Hp No w w' [(rX b5 E8 (List.replicate 16 0#8) 216), (rX b1 E8 (addS cl b i) 216)]) (fun i => 16 - i) (0) ?_ ?_ ?_
 ·exact kp
 ·exact ⟨om, H7⟩
 rintro i ρ w9 ⟨hi, d0⟩
 have hl := addS_len cl b i
 rw [hb] at hl
 refine go 1 ?_
 refine condProp (((i : Nat) : Int) < (16 : Int)) rfl (fun n0 => ?_) (fun n0 => ?_)
 ·refine go 2 ?_
  refine drawAny (K := [none, none, none, none, none, none, none, none, none, none, none, none]) [0, 1, 3, 0, 0, 8, 40, 104, 248, 504, 1023, 2047, 4095] (fun w' => Ext w9 w') (fun w' w'' => Ext w' w'') mixed (by kernel_rfl) (Ext.drew _) (fun _ _ h h' => h.trans h') ?_ ?_
  ·exact relNone (by decide)
  refine gk 12 ?_
  intro r38 Q0 o0 hF
  have R0 := d0.ext o0
  refine go 1 ?_
  intro S0 p0 T0
  refine go 2 ?_
  exact ⟨i + 1, _, rfl, kp, ⟨om, p0⟩, vd⟩
 ·obtain rfl : i = 16 := by omega
  have q0 := d0.as (L' := [(rX b5 E8 (List.replicate 16 0#8) 216), (rX b1 E8 (encS cl b 0) 216)]) (by rw [encS])
  refine go 1 ?_
  refine loopAny (σ := Nat) (fun k => [(0, pT bc), (3, pT b1), (4, pT b5), (6, iN (k + 1))]) (fun k w' => k ≤ 10 ∧ Hp No w w' [(rX b5 E8 (List.replicate 16 0#8) 216), (rX b1 E8 (encS cl b k) 216)]) (fun k => 10 - k) (0) ?_ ?_ ?_
  ·exact kp
  ·exact ⟨om, q0⟩
  rintro k ρ U0 ⟨hk, r0⟩
  have hl := encS_len cl b k
  rw [hb] at hl
  refine go 2 ?_
  refine condProp (((k + 1 : Nat) : Int) ≤ (10 : Int)) rfl (fun s0 => ?_) (fun s0 => ?_)
  ·refine go 1 ?_
   intro a0 V0 W0 u0 X0
   refine go 1 ?_
   refine loopAny (σ := Nat) (fun i => [(0, pT bc), (3, pT b1), (4, pT b5), (6, iN (k + 1)), (7, pT a0), (30, iN i)]) (fun i w' => i ≤ 16 ∧ Hp No w w' [(rX a0 E8 (subS cl (encS cl b k) i) 216), (rX b5 E8 (List.replicate 16 0#8) 216), (rX b1 E8 (encS cl b k) 216)]) (fun i => 16 - i) (0) ?_ ?_ ?_
   ·exact kp
   ·exact ⟨om, u0⟩
   rintro i ρ e0 ⟨hi, b0⟩
   have hs := subS_len cl (encS cl b k) i
   refine go 1 ?_
   refine condProp (((i : Nat) : Int) < (16 : Int)) rfl (fun w0 => ?_) (fun w0 => ?_)
   ·refine go 2 ?_
    refine drawAny (K := [none, none, none, none, none, none, none, none, none, none, none, none, none, none, none]) [0, 0, 0, 0, 8, 24, 60, 124, 252, 508, 2, 1026, 4094, 8190, 16383, 32767] (fun w' => Ext e0 w') (fun w' w'' => Ext w' w'') mixed (by kernel_rfl) (Ext.drew _) (fun _ _ h h' => h.trans h') ?_ ?_
    ·exact relNone (by decide)
    refine gk 13 ?_
    refine ⟨u8 (cl.getD (176 + ((((encS cl b k)).getD ((i + (4 * (i % 4))) % 16) 0#8).toNat)) 0#8), fun _ Y0 x0 _ => Gives.run rfl (r_ld1 (E := E8) (l := cl) (j := 176 + ((((encS cl b k)).getD ((i + (4 * (i % 4))) % 16) 0#8).toNat)) (a := cl.getD (176 + ((((encS cl b k)).getD ((i + (4 * (i % 4))) % 16) 0#8).toNat)) 0#8) fits5 ((b0.ext x0).keepE hc) (at_getD (by have := ((encS cl b k).getD ((i + 4 * (i % 4)) % 16) 0#8).isLt; omega)) rfl rfl) ⟨rfl, Chg.refl _ _⟩, ?_⟩
    refine gk 1 ?_
    intro r84 Z0 y0 hF
    have c1 := b0.ext y0
    refine go 1 ?_
    intro d1 z0 e1
    refine go 2 ?_
    exact ⟨i + 1, _, rfl, kp, ⟨om, z0⟩, vd⟩
   ·obtain rfl : i = 16 := by omega
    have f0 := b0.as (L' := [(rX a0 E8 (subS cl (encS cl b k) 16) 216), (rX b5 E8 (List.replicate 16 0#8) 216), (rX b1 E8 (encS cl b k) 216)]) (rfl)
    refine go 2 ?_
    refine condProp (((k + 1 : Nat) : Int) < (10 : Int)) rfl (fun A0 => ?_) (fun A0 => ?_)
    ·refine go 0 ?_
     refine Vc.cl (mix_ok a0 (subS cl (encS cl b k) 16) (subS_len _ _ _) e0 vGa) ?_
     rintro _ g1 ⟨rfl, B0, h0⟩
     rw [show mixL (subS cl (encS cl b k) 16) = (rndT cl (encS cl b k) (k + 1)) by simp only [rndT]; rw [if_pos om]] at h0
     have C0 := (f0.set (k := 0) rfl B0 h0).a3 rfl
     refine go 1 ?_
     refine loopAny (σ := Nat) (fun i => [(0, pT bc), (3, pT b1), (4, pT b5), (6, iN (k + 1)), (7, pT a0), (52, iN i)]) (fun i w' => i ≤ 16 ∧ Hp No w w' [(rX a0 E8 (rndT cl (encS cl b k) (k + 1)) 216), (rX b5 E8 (List.replicate 16 0#8) 216), (rX b1 E8 (keyS cl (rndT cl (encS cl b k) (k + 1)) (encS cl b k) (k + 1) i) 216)]) (fun i => 16 - i) (0) ?_ ?_ ?_
     ·exact kp
     ·exact ⟨om, C0⟩
     rintro i ρ D0 ⟨hi, i0⟩
     have hr := rndT_len cl (encS cl b k) (k + 1)
     have hq := keyS_len cl (rndT cl (encS cl b k) (k + 1)) (encS cl b k) (k + 1) i
     rw [hl] at hq
     refine go 1 ?_
     refine condProp (((i : Nat) : Int) < (16 : Int)) rfl (fun c0 => ?_) (fun c0 => ?_)
     ·refine go 2 ?_
      refine drawAny (K := [none, none, none, none, none, none, none, none, none, none, none, none, none, none]) [0, 0, 2, 6, 0, 0, 0, 16, 144, 432, 1008, 2032, 4094, 8191, 16383] (fun w' => Ext D0 w') (fun w' w'' => Ext w' w'') mixed (by kernel_rfl) (Ext.drew _) (fun _ _ h h' => h.trans h') ?_ ?_
      ·exact relNone (by decide)
      refine gk 14 ?_
      intro r125 h1 E0 hF
      have i1 := i0.ext E0
      refine go 1 ?_
      intro j1 F0 k1
      refine go 2 ?_
      exact ⟨i + 1, _, rfl, kp, ⟨om, F0⟩, vd⟩
     ·obtain rfl : i = 16 := by omega
      have G0 := i0.as (L' := [(rX a0 E8 (rndT cl (encS cl b k) (k + 1)) 216), (rX b5 E8 (List.replicate 16 0#8) 216), (rX b1 E8 (encS cl b (k + 1)) 216)]) (by rw [encS])
      refine go 3 ?_
      exact ⟨k + 1, _, rfl, kp, ⟨om, G0.drop1⟩, vd⟩
    ·have j0 := f0
     rw [show subS cl (encS cl b k) 16 = (rndT cl (encS cl b k) (k + 1)) by simp only [rndT]; rw [if_neg om]] at j0
     refine go 1 ?_
     refine loopAny (σ := Nat) (fun i => [(0, pT bc), (3, pT b1), (4, pT b5), (6, iN (k + 1)), (7, pT a0), (52, iN i)]) (fun i w' => i ≤ 16 ∧ Hp No w w' [(rX a0 E8 (rndT cl (encS cl b k) (k + 1)) 216), (rX b5 E8 (List.replicate 16 0#8) 216), (rX b1 E8 (keyS cl (rndT cl (encS cl b k) (k + 1)) (encS cl b k) (k + 1) i) 216)]) (fun i => 16 - i) (0) ?_ ?_ ?_
     ·exact kp
     ·exact ⟨om, j0⟩
     rintro i ρ H0 ⟨hi, k0⟩
     have hr := rndT_len cl (encS cl b k) (k + 1)
     have hq := keyS_len cl (rndT cl (encS cl b k) (k + 1)) (encS cl b k) (k + 1) i
     rw [hl] at hq
     refine go 1 ?_
     refine condProp (((i : Nat) : Int) < (16 : Int)) rfl (fun c0 => ?_) (fun c0 => ?_)
     ·refine go 2 ?_
      refine drawAny (K := [none, none, none, none, none, none, none, none, none, none, none, none, none, none]) [0, 0, 2, 6, 0, 0, 0, 16, 144, 432, 1008, 2032, 4094, 8191, 16383] (fun w' => Ext H0 w') (fun w' w'' => Ext w' w'') mixed (by kernel_rfl) (Ext.drew _) (fun _ _ h h' => h.trans h') ?_ ?_
      ·exact relNone (by decide)
      refine gk 14 ?_
      intro r164 l1 I0 hF
      have m1 := k0.ext I0
      refine go 1 ?_
      intro n1 J0 o1
      refine go 2 ?_
      exact ⟨i + 1, _, rfl, kp, ⟨om, J0⟩, vd⟩
     ·obtain rfl : i = 16 := by omega
      have K0 := k0.as (L' := [(rX a0 E8 (rndT cl (encS cl b k) (k + 1)) 216), (rX b5 E8 (List.replicate 16 0#8) 216), (rX b1 E8 (encS cl b (k + 1)) 216)]) (by rw [encS])
      refine go 3 ?_
      exact ⟨k + 1, _, rfl, kp, ⟨om, K0.drop1⟩, vd⟩
  ·obtain rfl : k = 10 := by omega
   have l0 := r0.as (L' := [(rX b5 E8 (List.replicate 16 0#8) 216), (rX b1 E8 (encL cl b) 216)]) (by rw [encL])
   refine go 0 ?_
   refine sq (r_loadA (cs' := (cel E8 (encL cl b)).toArray) agg216 siz216 (l0.get (k := 1) rfl) (off := 0) rfl (by rw [List.size_toArray, cel_length, encL_len, hb]; decide) (by exact ext_all (by rw [cel_length, encL_len, hb]; rfl))) (d_store (k := 0) (v := .agg (cel E8 (encL cl b)).toArray) (cs' := (cel E8 (encL cl b)).toArray) l0 rfl rfl rfl siz216 (by exact celSize (by rw [encL_len, hb]; rfl)) (by exact celOne _) (by rw [List.size_toArray, cel_length]; show _ ≤ _ * 1; first | omega | (simp only [List.length_set]; omega) | exact bLe rfl | (simp <;> omega)) (by exact putAll (by rw [encL_len, hb]; rfl)) fun p1 L0 q1 => ?_)
   have m0 := L0.a2 rfl
   exact wend (retAny (retG (rs := [.cell 4 216]) (vs := [.agg (cel E8 (encL cl b)).toArray]) rfl ⟨r_loadA (cs' := (cel E8 (encL cl b)).toArray) agg216 siz216 (m0.get (k := 0) rfl) (off := 0) rfl (by rw [List.size_toArray, cel_length, encL_len, hb]; decide) (by exact ext_all (by rw [cel_length, encL_len, hb]; rfl)), trivial⟩ (⟨_, rfl, rfl, m0.chg⟩)))
theorem fixed_ok (w : World) : Calls Tryz.prog 91 [].toArray w (Ret fun v w' => (∃ b, v = pT b ∧ w.heap.size ≤ b ∧ w'.heap[b]? = some (.cells (cel E8 (cipher fixKey)).toArray 232 (0, 0))) ∧ Ext w w') := by
 have H := Hp.start No w
 refine enter (n := 13) Tryz.func91 rfl rfl (bLe rfl) ?_
 refine go 2 ?_
 intro b1 w2 f0 H3 h0
 refine go 1 ?_
 refine loopAny (σ := Nat) (fun i => [(1, pT b1), (3, iN i)]) (fun i w' => i ≤ 16 ∧ Hp No w w' [(rX b1 E8 (fixS i) 216)]) (fun i => 16 - i) (0) ?_ ?_ ?_
 ·exact kp
 ·exact ⟨om, H3⟩
 rintro i ρ w5 ⟨hi, H6⟩
 have hl := fixS_len i
 refine go 1 ?_
 refine condProp (((i : Nat) : Int) < (16 : Int)) rfl (fun c4 => ?_) (fun c4 => ?_)
 ·refine go 7 ?_
  intro w7 c0 i0
  refine go 2 ?_
  exact ⟨i + 1, _, rfl, kp, ⟨om, c0⟩, vd⟩
 ·obtain rfl : i = 16 := by omega
  have b0 := H6.as (L' := [(rX b1 E8 fixKey 216)]) (by rw [fixKey])
  refine go 0 ?_
  refine sq (r_loadA (cs' := (cel E8 fixKey).toArray) agg216 siz216 (b0.get (k := 0) rfl) (off := 0) rfl (by rw [List.size_toArray, cel_length, fixKey, fixS_len]; decide) (by exact ext_all (by rw [cel_length, fixKey, fixS_len]; rfl))) (cl (new_ok fixKey (fixS_len 16) w5) ?_)
  rintro _ j0 ⟨⟨k0, rfl, d0, ho15⟩, e0⟩
  have a0 := b0.add1 e0 d0 ho15
  refine go 1 ?_
  exact ⟨_, rfl, ⟨_, rfl, by have := a0.own _ (List.mem_of_getElem? (i := 0) rfl) _ rfl; exact this.resolve_left (fun h => h), a0.get (k := 0) rfl⟩, a0.chg⟩
theorem hash_ok (bc : Nat) (cl : List By) (hcl : cl.length = 432) (a b tw : BitVec 64) (w : World) (hc : w.heap[bc]? = some (.cells (cel E8 cl).toArray 232 (0, 0))) : Calls Tryz.prog 92 [pT bc, .agg (cel E64 [a, b]).toArray, u64 tw].toArray w (Ret fun v w' => v = .agg (cel E64 [(hashL cl a b tw).1, (hashL cl a b tw).2]).toArray ∧ Ext w w') := by
 let x1 : Value := .agg (cel E64 ([((dbl a b).1) ^^^ tw, ((dbl a b).2) ^^^ (0#64)])).toArray
 have H := Hp.start No w
 refine enter (n := 20) Tryz.func92 rfl rfl (bLe rfl) ?_
 refine go 1 ?_
 intro b1 w2 n0 H3 o0
 refine go 1 ?_
 intro b5 w6 p0 H7 q0
 refine go 1 ?_
 refine Vc.cl (double_ok a b w6) ?_
 rintro _ w9 ⟨rfl, b0⟩
 have c0 := H7.ext b0
 refine go 2 ?_
 refine Vc.cl (xor_ok ((dbl a b).1) ((dbl a b).2) tw (0#64) w9) ?_
 rintro _ r0 ⟨rfl, d0⟩
 have s0 := c0.ext d0
 refine go 1 ?_
 intro u0 w0 x0 y0 z0
 refine go 1 ?_
 intro e0 a0 A0
 refine go 0 ?_
 refine drawAny (K := [none, none, none, none, none, none, none]) [0, 0, 0, 4, 14, 30, 63, 127] (fun w' => Ext e0 w') (fun w' w'' => Ext w' w'') mixed (by kernel_rfl) (Ext.drew _) (fun _ _ h h' => h.trans h') ?_ ?_
 ·exact relNone (by decide)
 refine gk 3 ?_
 refine ⟨.agg (cel E8 (bytesS (((dbl a b).1) ^^^ tw) (((dbl a b).2) ^^^ (0#64)) 16)).toArray, fun _ f0 B0 _ => Gives.call rfl (Enters.callL (vs := [x1]) call86 rfl) (bytes_ok (((dbl a b).1) ^^^ tw) (((dbl a b).2) ^^^ (0#64)) f0), ?_⟩
 refine ⟨.agg (cel E8 (encL cl (bytesS (((dbl a b).1) ^^^ tw) (((dbl a b).2) ^^^ (0#64)) 16))).toArray, fun _ h0 i0 _ => Gives.call rfl (Enters.callL (vs := [pT bc, .agg (cel E8 (bytesS (((dbl a b).1) ^^^ tw) (((dbl a b).2) ^^^ (0#64)) 16)).toArray]) call85 rfl) (enc_ok bc cl hcl (bytesS (((dbl a b).1) ^^^ tw) (((dbl a b).2) ^^^ (0#64)) 16) (bytesS_len _ _ _) h0 ((a0.ext i0).keepE hc)), ?_⟩
 refine ⟨.agg (cel E64 [(labelS (encL cl (bytesS (((dbl a b).1) ^^^ tw) (((dbl a b).2) ^^^ (0#64)) 16)) 16).getD 0 0#64, (labelS (encL cl (bytesS (((dbl a b).1) ^^^ tw) (((dbl a b).2) ^^^ (0#64)) 16)) 16).getD 1 0#64]).toArray, fun _ j0 C0 _ => Gives.call rfl (Enters.callL (vs := [.agg (cel E8 (encL cl (bytesS (((dbl a b).1) ^^^ tw) (((dbl a b).2) ^^^ (0#64)) 16))).toArray]) call87 rfl) ((label_ok (encL cl (bytesS (((dbl a b).1) ^^^ tw) (((dbl a b).2) ^^^ (0#64)) 16)) (by rw [encL_len, bytesS_len]) j0).mono (fun _ _ h => by obtain ⟨v, h1, h2, h3⟩ := h; exact ⟨v, h1, by rw [h2, ← two_list (labelS_len _ _)], h3⟩)), ?_⟩
 refine ⟨.agg (cel E64 [(((dbl a b).1) ^^^ tw) ^^^ ((labelS (encL cl (bytesS (((dbl a b).1) ^^^ tw) (((dbl a b).2) ^^^ (0#64)) 16)) 16).getD 0 0#64), (((dbl a b).2) ^^^ (0#64)) ^^^ ((labelS (encL cl (bytesS (((dbl a b).1) ^^^ tw) (((dbl a b).2) ^^^ (0#64)) 16)) 16).getD 1 0#64)]).toArray, fun _ k0 D0 _ => Gives.call rfl (Enters.callL (vs := [x1, .agg (cel E64 [(labelS (encL cl (bytesS (((dbl a b).1) ^^^ tw) (((dbl a b).2) ^^^ (0#64)) 16)) 16).getD 0 0#64, (labelS (encL cl (bytesS (((dbl a b).1) ^^^ tw) (((dbl a b).2) ^^^ (0#64)) 16)) 16).getD 1 0#64]).toArray]) call28 rfl) (xor_ok (((dbl a b).1) ^^^ tw) (((dbl a b).2) ^^^ (0#64)) ((labelS (encL cl (bytesS (((dbl a b).1) ^^^ tw) (((dbl a b).2) ^^^ (0#64)) 16)) 16).getD 0 0#64) ((labelS (encL cl (bytesS (((dbl a b).1) ^^^ tw) (((dbl a b).2) ^^^ (0#64)) 16)) 16).getD 1 0#64) k0), ?_⟩
 intro r39 E0 l0 hF
 have F0 := a0.ext l0
 refine go 1 ?_
 intro G0 m0 H0
 refine go 0 ?_
 exact ⟨_, rfl, rfl, m0.chg⟩
end Go.Proofs.YtohngnahcgbfmaaGreatDoor.Aes
namespace Go.Proofs.YtohngnahcgbfmaaGreatDoor.Gb
open Go Vc Er Circ
theorem agg83 : isAgg' Tryz.prog 83 = true := by kernel_rfl
theorem arr83 : arr Tryz.prog 83 = some (2, 1) := by kernel_rfl
theorem byt83 : byt Tryz.prog 83 = some 16 := by kernel_rfl
theorem call28 : callable Tryz.prog 28 = true := by kernel_rfl
theorem fits3 : Fits Tryz.prog 3 EI := fitsI (by kernel_rfl) (by kernel_rfl)
theorem fits34 : Fits Tryz.prog 34 E64 := fits64 (by kernel_rfl) (by kernel_rfl)
theorem fld104_2 : fld Tryz.prog 104 2 = some (2, 1, 100) := by kernel_rfl
theorem one100 : isOne Tryz.prog 100 = true := by kernel_rfl
theorem siz83 : siz Tryz.prog 83 = some 2 := by kernel_rfl
theorem sli100 : sli Tryz.prog 100 = some (3, 1) := by kernel_rfl
theorem sli89 : sli Tryz.prog 89 = some (83, 2) := by kernel_rfl
theorem zer83 : zer Tryz.prog 83 = some (.agg (List.replicate 2 (.int .u64 0)).toArray) := by kernel_rfl
def lhash (a : Lb) (s : BitVec 64) : Lb := AesSpec.hashL (AesSpec.cipher AesSpec.fixKey) a.1 a.2 s
theorem lxor_ok (a b : Lb) (w : World) : Calls Tryz.prog 28 [.agg (cel E64 [a.1, a.2]).toArray, .agg (cel E64 [b.1, b.2]).toArray].toArray w (Ret fun v w' => v = .agg (cel E64 [(lx a b).1, (lx a b).2]).toArray ∧ Ext w w') := Aes.xor_ok a.1 a.2 b.1 b.2 w
theorem lhash_ok (bc : Nat) (a : Lb) (tw : BitVec 64) (w : World) (hc : w.heap[bc]? = some (.cells (cel E8 (AesSpec.cipher AesSpec.fixKey)).toArray 232 (0, 0))) : Calls Tryz.prog 92 [pT bc, .agg (cel E64 [a.1, a.2]).toArray, u64 tw].toArray w (Ret fun v w' => v = .agg (cel E64 [(lhash a tw).1, (lhash a tw).2]).toArray ∧ Ext w w') := Aes.hash_ok bc (AesSpec.cipher AesSpec.fixKey) (AesSpec.cipher_len _ (AesSpec.fixS_len 16)) a.1 a.2 tw w hc
theorem col_ok (a : Lb) (w : World) : Calls Tryz.prog 90 [.agg (cel E64 [a.1, a.2]).toArray].toArray w (Ret fun v w' => v = .bool (col a) ∧ Ext w w') := by
 have H := Hp.start No w
 refine enter (n := 7) Tryz.func90 rfl rfl (bLe rfl) ?_
 refine go 1 ?_
 intro b1 w2 a0 H3 b0
 refine go 6 ?_
 exact ⟨_, rfl, rfl, H3.chg⟩
theorem lw_ok (c : Bool) (a : Lb) (w : World) : Calls Tryz.prog 94 [.bool c, .agg (cel E64 [a.1, a.2]).toArray].toArray w (Ret fun v w' => v = .agg (cel E64 [(lw c a).1, (lw c a).2]).toArray ∧ Ext w w') := by
 have H := Hp.start No w
 refine enter (n := 8) Tryz.func94 rfl rfl (bLe rfl) ?_
 refine go 1 ?_
 intro b1 w2 c0 H3 d0
 refine go 1 ?_
 intro b5 w6 e0 H7 f0
 refine go 1 ?_
 refine condBool c rfl (fun c5 => ?_) (fun c5 => ?_)
 ·refine go 2 ?_
  intro w9 a0 h0
  refine go 0 ?_
  rw [show lw c a = _ from if_pos c5]
  exact ⟨_, rfl, rfl, a0.chg⟩
 ·refine go 2 ?_
  intro i0 b0 j0
  refine go 0 ?_
  rw [show lw c a = _ from if_neg (by rw [c5]; exact Bool.false_ne_true)]
  exact ⟨_, rfl, rfl, b0.chg⟩
theorem lsum_ok (l : List Lb) (a0 : Option Addr) (n0 c0 : Nat) (hn0 : n0 = l.length) (hl : l.length ≤ 1000000) (w : World) (hL : Rd ELb w a0 l) : Calls Tryz.prog 93 [.slice a0 n0 c0].toArray w (Ret fun v w' => v = .agg (cel E64 [(lsum l).1, (lsum l).2]).toArray ∧ Ext w w') := by
 subst hn0
 have H := Hp.start No w
 refine enter (n := 17) Tryz.func93 rfl rfl (bLe rfl) ?_
 refine go 1 ?_
 intro b1 w2 i0 H3 j0
 refine go 1 ?_
 intro b5 w6 k0 H7 l0
 refine go 3 ?_
 refine loopAny (σ := Nat) (fun q => [(2, pT b1), (3, pT b5), (6, .slice a0 l.length c0), (7, iN l.length), (8, iN q)]) (fun q w' => q ≤ l.length ∧ Hp No w w' [(rX b5 E64 ([(lsum (l.take q)).1, (lsum (l.take q)).2]) 83), (rX b1 E64 ([0#64, 0#64]) 83)]) (fun q => l.length - q) (0) ?_ ?_ ?_
 ·exact kp
 ·exact ⟨Nat.zero_le _, H7⟩
 rintro q ρ w9 ⟨hq, HL⟩
 refine go 1 ?_
 refine condProp (((q : Nat) : Int) < (l.length : Nat)) rfl (fun c9 => ?_) (fun c9 => ?_)
 ·refine go 3 ?_
  intro m0 o0 p0 q0 r0
  refine go 1 ?_
  intro d0 e0 s0
  refine go 2 ?_
  refine cl (lxor_ok (lsum (l.take q)) (l.getD q lb0) d0) ?_
  rintro _ u0 ⟨rfl, f0⟩
  have w0 := e0.ext f0
  refine go 1 ?_
  intro x0 b0 y0
  refine go 2 ?_
  rw [show lx (lsum (l.take q)) (l.getD q lb0) = lsum (l.take (q + 1)) from (lsum_take om).symm] at b0
  exact ⟨q + 1, _, rfl, kp, ⟨om, (b0.dropk 0)⟩, vd⟩
 ·obtain rfl : q = l.length := by omega
  refine go 2 ?_
  intro z0 h0 A0
  refine go 0 ?_
  rw [List.take_length]
  exact ⟨_, rfl, rfl, h0.chg⟩
theorem outs_ok (n : Int) (gs : List Gt) (ol : List Int) (ga oa : Option Addr) (gc oc : Nat) (ws : List Lb) (wa : Option Addr) (n0 wc : Nat) (hn0 : n0 = ws.length) (w : World) (hOl : Rd EI w oa ol) (hWs : Rd ELb w wa ws) (hol : ol.length ≤ 64) (hok : ∀ i, i < ol.length → 0 ≤ ol.getD i 0 ∧ ol.getD i 0 < (ws.length : Int)) : Calls Tryz.prog 95 [.agg #[i64 n, .slice ga gs.length gc, .slice oa ol.length oc], .slice wa n0 wc].toArray w (Ret fun v w' => SlRes ELb 83 (oL ws ol ol.length) w v w' ∧ Ext w w') := by
 subst hn0
 have H := Hp.start No w
 refine enter (n := 24) Tryz.func95 rfl rfl (bLe rfl) ?_
 refine go 1 ?_
 intro b1 w2 k0 H3 l0
 refine go 6 ?_
 have H5 := H3.nil (sob ELb 83 [] [])
 refine go 0 ?_
 refine loopAny (σ := Nat × Option Nat × Nat × LV) (fun (q, key, c, sp) => [(1, .slice wa ws.length wc), (2, pT b1), (4, sN0), (9, .slice oa ol.length oc), (10, iN ol.length), (5, sO key q c), (11, iN q)]) (fun (q, key, c, sp) w' => (q ≤ ol.length ∧ Sl ELb key (oL ws ol q) c sp) ∧ Hp No w w' [(key, sob ELb 83 (oL ws ol q) sp), (rC b1 #[i64 n, .slice ga gs.length gc, .slice oa ol.length oc] 104)]) (fun (q, key, c, sp) => ol.length - q) ((0, none, 0, [])) ?_ ?_ ?_
 ·exact kp
 ·exact ⟨⟨Nat.zero_le _, Sl.none⟩, H5⟩
 rintro ⟨q, key, c, sp⟩ ρ w6 ⟨⟨hq, hS⟩, HL⟩
 refine go 1 ?_
 refine condProp (((q : Nat) : Int) < (ol.length : Nat)) rfl (fun c0 => ?_) (fun c0 => ?_)
 ·have hoq := hok q om
  refine go 8 ?_
  refine bS (E := ELb) (l := ([ws.getD ((ol.getD q 0).toNat) lb0] : List LbT)) fun b8 m0 o0 p0 q0 => ?_
  refine apq ?_
  refine ⟨by rw [oL_len], by rfl, om, ?_⟩
  intro d0 e0 f0 r0 h0 s0 i0
  have j0 : (oL ws ol q) ++ ([ws.getD ((ol.getD q 0).toNat) lb0] : List LbT) = oL ws ol (q + 1) := by rw [oL]
  have a0 := h0
  have b0 := i0
  rw [j0] at a0 b0
  refine go 3 ?_
  exact ⟨(q + 1, d0, e0, f0), _, rfl, kp, ⟨⟨om, a0⟩, (b0.dropk 0)⟩, vd⟩
 ·obtain rfl : q = ol.length := by omega
  refine go 2 ?_
  exact ⟨_, rfl, HL.resN (k := 0) rfl hS (by rw [oL_len]), HL.chg⟩
end Go.Proofs.YtohngnahcgbfmaaGreatDoor.Gb
namespace Go.Proofs.YtohngnahcgbfmaaGreatDoor.Gb
open Go Vc Er Circ
theorem agg104 : isAgg' Tryz.prog 104 = true := by kernel_rfl
theorem call90 : callable Tryz.prog 90 = true := by kernel_rfl
theorem fld104_0 : fld Tryz.prog 104 0 = some (0, 1, 3) := by kernel_rfl
theorem isI31 : isI Tryz.prog 31 = true := by kernel_rfl
theorem one3 : isOne Tryz.prog 3 = true := by kernel_rfl
theorem siz104 : siz Tryz.prog 104 = some 3 := by kernel_rfl
theorem look_good (n : Int) (gs : List Gt) (ol : List Int) (ga oa : Option Addr) (gc oc : Nat) (m : Nat) (w : World) (hG : Gl w) (hGs : Rd EG w ga gs) (hOl : Rd EI w oa ol) (hgl : gs.length ≤ 140737488355328) (hol : ol.length ≤ 140737488355328) (hg : IsC n gs ol) (hm : (m : Int) = n) : Calls Tryz.prog 89 [.agg #[i64 n, .slice ga gs.length gc, .slice oa ol.length oc], iN m].toArray w (Ret fun v w' => v = .nilIface ∧ Ext w w') := by
 have H := Hp.start No w
 refine enter (n := 18) Tryz.func89 rfl rfl (bLe rfl) ?_
 refine go 1 ?_
 intro b1 w2 b0 H3 c0
 refine go 2 ?_
 refine cl (check_good n gs ol ga oa gc oc w2 vGl vRd vRd om om hg) ?_
 rintro _ w5 ⟨rfl, a0⟩
 have H7 := H3.ext a0
 refine go 6 ?_
 refine sq ((r_neqI rfl rfl).as (v' := .bool false) (by exact congrArg Value.bool (decide_eq_false om))) ?_
 refine go 1 ?_
 exact ⟨_, rfl, rfl, H7.chg⟩
end Go.Proofs.YtohngnahcgbfmaaGreatDoor.Gb
namespace Go.Proofs.YtohngnahcgbfmaaGreatDoor.Gb
open Go Vc Er Circ
theorem call92 : callable Tryz.prog 92 = true := by kernel_rfl
theorem call93 : callable Tryz.prog 93 = true := by kernel_rfl
theorem call94 : callable Tryz.prog 94 = true := by kernel_rfl
theorem fld104_1 : fld Tryz.prog 104 1 = some (1, 1, 102) := by kernel_rfl
theorem fld154_1 : fld Tryz.prog 154 1 = some (1, 1, 3) := by kernel_rfl
theorem fld154_2 : fld Tryz.prog 154 2 = some (2, 1, 3) := by kernel_rfl
theorem mixed : Tryz.prog.follows .mixedOrders = true := by kernel_rfl
theorem one102 : isOne Tryz.prog 102 = true := by kernel_rfl
theorem sli102 : sli Tryz.prog 102 = some (154, 3) := by kernel_rfl
theorem und3 : Tryz.prog.underlying 3 = some (.int .i64) := by kernel_rfl
theorem und34 : Tryz.prog.underlying 34 = some (.int .u64) := by kernel_rfl
theorem garble_ok (n : Int) (gs : List Gt) (ol : List Int) (ga oa : Option Addr) (gc oc : Nat) (δ : Lb) (zs : List Lb) (za : Option Addr) (zc : Nat) (first : BitVec 64) (w : World) (hG : Gl w) (hGs : Rd EG w ga gs) (hOl : Rd EI w oa ol) (hgl : gs.length ≤ 140737488355328) (hol : ol.length ≤ 140737488355328) (hZ : Rd ELb w za zs) (hg : IsC n gs ol) (hm : (zs.length : Int) = n) (hc : col δ = true) : Calls Tryz.prog 69 [.agg #[i64 n, .slice ga gs.length gc, .slice oa ol.length oc], .agg (cel E64 [(δ).1, (δ).2]).toArray, .slice za zs.length zc, u64 first].toArray w (Ret fun v w' => ∃ (k1 : Option Nat) (c1 : Nat) (z1 : LV) (k2 : Option Nat) (c2 : Nat) (z2 : LV), v = .tuple #[sO k1 ((gS lhash δ first gs zs gs.length).2).length c1, sO k2 (oL (gS lhash δ first gs zs gs.length).1 ol ol.length).length c2, .nilIface] ∧ Sl ELb k1 ((gS lhash δ first gs zs gs.length).2) c1 z1 ∧ Sl ELb k2 (oL (gS lhash δ first gs zs gs.length).1 ol ol.length) c2 z2 ∧ Hp No w w' [(k1, sob ELb 83 ((gS lhash δ first gs zs gs.length).2) z1), (k2, sob ELb 83 (oL (gS lhash δ first gs zs gs.length).1 ol ol.length) z2)]) := by
 subst hm
 have hgt := hg.gates
 have hot := hg.outs
 have hhi := hg.hi
 have H := Hp.start No w
 refine enter (n := 152) Tryz.func69 rfl rfl (bLe rfl) ?_
 refine go 1 ?_
 intro b1 w2 s4 H3 t4
 refine go 1 ?_
 intro b5 w6 u4 H7 w4
 refine go 6 ?_
 refine cl (look_good (zs.length : Nat) gs ol ga oa gc oc zs.length w6 vGl vRd vRd om om hg om) ?_
 rintro _ w9 ⟨rfl, j2⟩
 have l2 := H7.ext j2
 refine go 4 ?_
 refine cl (col_ok δ w9) ?_
 rintro _ m2 ⟨rfl, n2⟩
 have o2 := l2.ext n2
 refine sq ((r_not (b := col δ) rfl).as (v' := .bool false) (by rw [hc]; rfl)) ?_
 refine go 0 ?_
 refine cl (Aes.fixed_ok m2) ?_
 rintro _ x4 ⟨⟨k0, rfl, p2, ho19⟩, q2⟩
 have r2 := o2.add1 q2 p2 ho19
 refine go 6 ?_
 refine sq ((r_addI rfl rfl om).as (v' := iN (zs.length + gs.length)) (by rfl)) (q_makeSlice (E := ELb) (m := 0) (c := (zs.length + gs.length)) (z0 := lb0) r2 sli89 zer83 rfl byt83 rfl rfl vo vo om om fun y4 z4 A4 B4 C4 => ?_)
 refine go 1 ?_
 refine apq ?_
 refine ⟨by simp, by rfl, om, ?_⟩
 intro s2 t2 u2 D4 x2 F4 y2
 have A2 : (List.replicate 0 lb0) ++ zs = zs := by rfl
 have u1 := x2
 have w1 := y2
 rw [A2] at u1 w1
 refine go 6 ?_
 refine loopAny (σ := Nat × Option Nat × Nat × LV × Option Nat × Nat × LV × Nat) (fun (i, k1, c1, z1, k2, c2, z2, m) => [(3, u64 first), (4, pT b1), (5, pT b5), (12, pT k0), (13, sO k1 (zs.length + i) c1), (14, sO k2 m c2), (47, .slice ga gs.length gc), (48, iN gs.length), (49, iN i)]) (fun (i, k1, c1, z1, k2, c2, z2, m) w' => (i ≤ gs.length ∧ Sl ELb k1 (gS lhash δ first gs zs i).1 c1 z1 ∧ Sl ELb k2 (gS lhash δ first gs zs i).2 c2 z2 ∧ m = (gS lhash δ first gs zs i).2.length) ∧ Hp No w w' [(k1, sob ELb 83 ((gS lhash δ first gs zs i).1) z1), (k2, sob ELb 83 ((gS lhash δ first gs zs i).2) z2), (rX k0 E8 (AesSpec.cipher AesSpec.fixKey) 232), (rC b1 #[iN zs.length, .slice ga gs.length gc, .slice oa ol.length oc] 104), (rX b5 E64 ([(δ).1, (δ).2]) 83)]) (fun (i, k1, c1, z1, k2, c2, z2, m) => gs.length - i) ((0, s2, t2, u2, none, 0, [], 0)) ?_ ?_ ?_
 ·exact ⟨rfl, rfl, rfl, rfl, congrArg (fun q => Value.slice _ q _) om, rfl, rfl, rfl, rfl, trivial⟩
 ·exact ⟨⟨Nat.zero_le _, u1, Sl.none, rfl⟩, ((w1.nil (sob ELb 83 [] [])).pk 5 [1, 0, 2, 4, 3])⟩
 rintro ⟨i, k1, c1, z1, k2, c2, z2, m⟩ ρ B2 ⟨⟨hi, h1, h2, rfl⟩, HL⟩
 have hwl := gS_len (h := lhash) (δ := δ) (first := first) (gs := gs) (zs := zs) i
 have htl := gS_tab (h := lhash) (δ := δ) (first := first) (gs := gs) (zs := zs) i
 refine go 1 ?_
 refine condProp (((i : Nat) : Int) < (gs.length : Nat)) rfl (fun C2 => ?_) (fun C2 => ?_)
 ·have hgi := hg.gok i om
  unfold gokP at hgi
  refine go 3 ?_
  intro A0 G4 H4 I4 J4
  refine go 1 ?_
  intro K4 L4 M4
  refine go 6 ?_
  intro B0 N4 O4 P4 Q4
  refine go 1 ?_
  intro D2 d1 R4
  obtain ⟨la, hla⟩ : ∃ x : Lb, x = (((gS lhash δ first gs zs i).1).getD (gs.getD i g0).a.toNat lb0) := ⟨_, rfl⟩
  rw [← hla] at d1 ⊢
  refine go 4 ?_
  refine condProp (((gs.getD i g0).k : Int) = (3 : Int)) rfl (fun hk => ?_) (fun hk => ?_)
  ·refine go 3 ?_
   refine cl (lxor_ok la δ D2) ?_
   rintro _ S4 ⟨rfl, E2⟩
   have T4 := d1.ext E2
   refine bS (E := ELb) (l := ([lx la δ] : List LbT)) fun U4 V4 W4 X4 Y4 => ?_
   refine apq ?_
   refine ⟨by rw [gS_len], by rfl, om, ?_⟩
   intro F2 G2 H2 Z4 I2 c5 J2
   have K2 : ((gS lhash δ first gs zs i).1) ++ ([lx la δ] : List LbT) = (gS lhash δ first gs zs (i + 1)).1 := by rw [gS, gstep, if_pos hk, hla]
   have y1 := I2
   have A1 := J2
   rw [K2] at y1 A1
   refine go 3 ?_
   have L2 : (gS lhash δ first gs zs i).2 = (gS lhash δ first gs zs (i + 1)).2 := by rw [gS, gstep, if_pos hk]
   have B1 := h2
   have C1 := A1
   rw [L2] at B1 C1
   exact ⟨(i + 1, F2, G2, H2, k2, c2, z2, (gS lhash δ first gs zs i).2.length), _, rfl, kp, ⟨⟨om, y1, B1, by rw [gS, gstep, if_pos hk]⟩, (((C1.dropk 2).dropk 1).dropk 0)⟩, vd⟩
  ·have u0 := hk
   refine go 2 ?_
   refine condProp (((gs.getD i g0).k : Int) = (1 : Int)) rfl (fun e1 => ?_) (fun e1 => ?_)
   ·have hk := e1
    have M2 := (d1.pk 7 [2, 0, 1, 3, 4, 5, 6])
    let C0 : List RW := [(rX B0 E64 ([la.1, la.2]) 83), (rC A0 #[i64 ((gs.getD i g0).k), i64 ((gs.getD i g0).a), i64 ((gs.getD i g0).b)] 154), (k2, sob ELb 83 ((gS lhash δ first gs zs i).2) z2), (rX k0 E8 (AesSpec.cipher AesSpec.fixKey) 232), (rC b1 #[iN zs.length, .slice ga gs.length gc, .slice oa ol.length oc] 104), (rX b5 E64 ([(δ).1, (δ).2]) 83)]
    let g1 := fun (i0 : Nat) => (((some i0), sob ELb 83 ([lx la (((gS lhash δ first gs zs i).1).getD ((gs.getD i g0).b.toNat) lb0)] : List LbT) ([])) : RW)
    let D1 := ((k1, sob ELb 83 ((gS lhash δ first gs zs i).1) z1) : RW)
    let i1 := fun (i0 : Nat) => (Sl ELb (some i0) ([lx la (((gS lhash δ first gs zs i).1).getD ((gs.getD i g0).b.toNat) lb0)] : List LbT) 1 ([]) : Prop)
    let N2 : Tab := [zt2 false false fun _ _ w' => Hp No w w' (D1 :: C0), zt2 true false fun v8 _ w' => ∃ i0, v8 = sO (some i0) 1 1 ∧ (i1 i0) ∧ Hp No w w' ((g1 i0) :: D1 :: C0), zt2 true true fun v8 v9 w' => ∃ i0 D0 G0 H0, v8 = sO (some i0) 1 1 ∧ v9 = sO D0 ((zs.length + i) + 1) G0 ∧ (i1 i0) ∧ Sl ELb D0 ((gS lhash δ first gs zs (i + 1)).1) G0 H0 ∧ Hp No w w' ((g1 i0) :: (D0, sob ELb 83 ((gS lhash δ first gs zs (i + 1)).1) H0) :: C0)]
    refine drawH (m := 11) [0, 0, 0, 0, 8, 28, 60, 126, 254, 511, 1023] [8, 9] C0 N2 mixed (fun _ e => M2.ext e) (A_ (fun _ _ h => h.drop1) (A_ (fun _ _ ⟨_, _, _, h⟩ => h.drop1.drop1) (A_ (fun _ _ ⟨_, _, _, _, _, _, _, _, h⟩ => h.drop1.drop1) trivial))) (fun E1 => ?_)
    refine gk 7 ?_
    refine lkW (.agg (cel E64 [(lx la (((gS lhash δ first gs zs i).1).getD ((gs.getD i g0).b.toNat) lb0)).1, (lx la (((gS lhash δ first gs zs i).1).getD ((gs.getD i g0).b.toNat) lb0)).2]).toArray) (fun _ uw hcx => Gives.call rfl (Enters.callL call28 rfl) (lxor_ok la (((gS lhash δ first gs zs i).1).getD ((gs.getD i g0).b.toNat) lb0) uw)) (WalkT.eff E1 0 ?_ ?_)
    ·refine A_ (fun r w0 uw hF hE => ?_) trivial
     have d5 := hF.ext hE
     exact gW fun Q' hK => (bS (E := ELb) (l := ([lx la (((gS lhash δ first gs zs i).1).getD ((gs.getD i g0).b.toNat) lb0)] : List LbT)) fun O2 e5 P2 Q2 f5 => hK _ _ (E_ O2 (A_ rfl (A_ P2 Q2))))
    refine WalkT.eff E1 1 ?_ ?_
    ·refine A_ (fun r w0 uw hF hE => ?_) trivial
     obtain ⟨i0, e8, j1, F1⟩ := hF
     replace F1 := F1.ext hE
     dsimp only
     rw [e8]
     refine gW fun Q' hK => ?_
     refine apq ?_
     refine ⟨by rw [gS_len], by rfl, om, ?_⟩
     intro R2 S2 T2 g5 U2 h5 V2
     have X2 : ((gS lhash δ first gs zs i).1) ++ ([lx la (((gS lhash δ first gs zs i).1).getD ((gs.getD i g0).b.toNat) lb0)] : List LbT) = (gS lhash δ first gs zs (i + 1)).1 := by rw [gS, gstep, if_neg u0, if_pos hk, hla]
     have G1 := U2
     have H1 := V2
     rw [X2] at G1 H1
     exact hK _ _ (E_ i0 (E_ R2 (E_ S2 (E_ T2 (A_ e8 (A_ rfl (A_ j1 (A_ G1 H1))))))))
    refine WalkT.hand (fun r => r 9) (fun r r' h => h 9 (by decide) rfl) (fun _ _ => r_assign rfl) (WalkT.nil fun r w0 i5 hF hE => ?_)
    obtain ⟨i0, D0, G0, H0, e8, e9, j1, Y2, I0⟩ := hF
    replace I0 := I0.ext hE
    dsimp only
    rw [e8, e9]
    dsimp only [i1] at j1
    dsimp only [C0, g1] at I0
    refine go 2 ?_
    have Z2 : (gS lhash δ first gs zs i).2 = (gS lhash δ first gs zs (i + 1)).2 := by rw [gS, gstep, if_neg u0, if_pos hk]
    have I1 := h2
    have J1 := I0
    rw [Z2] at I1 J1
    exact ⟨(i + 1, D0, G0, H0, k2, c2, z2, (gS lhash δ first gs zs i).2.length), _, rfl, kp, ⟨⟨om, Y2, I1, by rw [gS, gstep, if_neg u0, if_pos hk]⟩, (((J1.dropk 3).dropk 2).dropk 0)⟩, vd⟩
   ·have l1 := e1
    refine go 2 ?_
    refine condProp (((gs.getD i g0).k : Int) = (2 : Int)) rfl (fun c3 => ?_) (fun c3 => ?_)
    ·refine go 6 ?_
     intro J0 j5 k5 l5 m5
     refine go 1 ?_
     intro n5 K1 o5
     obtain ⟨lb, hlb⟩ : ∃ x : Lb, x = (((gS lhash δ first gs zs i).1).getD (gs.getD i g0).b.toNat lb0) := ⟨_, rfl⟩
     rw [← hlb] at K1 ⊢
     refine go 6 ?_
     obtain ⟨sv, hsv⟩ : ∃ x : BitVec 64, x = first + (BitVec.ofInt 64 ((gS lhash δ first gs zs i).2.length : Nat)) := ⟨_, rfl⟩
     let x1 : Array Value := #[iN zs.length, .slice ga gs.length gc, .slice oa ol.length oc]
     rw [← hsv]
     refine go 0 ?_
     let n0 : List RW := [(rX J0 E64 ([lb.1, lb.2]) 83), (rX B0 E64 ([la.1, la.2]) 83), (rC A0 #[i64 ((gs.getD i g0).k), i64 ((gs.getD i g0).a), i64 ((gs.getD i g0).b)] 154), (k1, sob ELb 83 ((gS lhash δ first gs zs i).1) z1), (k2, sob ELb 83 ((gS lhash δ first gs zs i).2) z2), (rX k0 E8 (AesSpec.cipher AesSpec.fixKey) 232), (rC b1 x1 104), (rX b5 E64 ([(δ).1, (δ).2]) 83)]
     let m1 := fun (b0 : Nat) => ((rX b0 E64 ([(lhash la sv).1, (lhash la sv).2]) 83) : RW)
     let L1 := fun (b0 : Nat) => ((rX b0 E64 ([0#64, 0#64]) 83) : RW)
     let M1 := fun (e0 : Nat) => ((rX e0 E64 ([0#64, 0#64]) 83) : RW)
     let d3 : Tab := [zt4 false false false false fun _ _ _ _ w' => Hp No w w' n0, zt4 true false false false fun v9 _ _ _ w' => ∃ b0, v9 = pT b0 ∧ Hp No w w' ((L1 b0) :: n0), zt4 false true false false fun _ v10 _ _ w' => ∃ K0, v10 = pT K0 ∧ Hp No w w' ((rX K0 E64 ([0#64, 0#64]) 83) :: n0), zt4 true true false false fun v9 v10 _ _ w' => ∃ b0 e0, v9 = pT b0 ∧ v10 = pT e0 ∧ Hp No w w' ((M1 e0) :: (L1 b0) :: n0), zt4 true true true false fun v9 v10 _ _ w' => ∃ b0 e0, v9 = pT b0 ∧ v10 = pT e0 ∧ Hp No w w' ((M1 e0) :: (m1 b0) :: n0), zt4 true true true true fun v9 v10 _ _ w' => ∃ b0 e0, v9 = pT b0 ∧ v10 = pT e0 ∧ Hp No w w' ((rX e0 E64 ([(lhash lb (sv + (1#64))).1, (lhash lb (sv + (1#64))).2]) 83) :: (m1 b0) :: n0)]
     refine drawH (m := 13) [0, 0, 0, 7, 0, 0, 0, 64, 255, 0, 0, 2047, 4095] [9, 10, 11, 12] n0 d3 mixed (fun _ e => K1.ext e) (A_ (fun _ _ h => h) (A_ (fun _ _ ⟨_, _, h⟩ => h.drop1) (A_ (fun _ _ ⟨_, _, h⟩ => h.drop1) (A_ (fun _ _ ⟨_, _, _, _, h⟩ => h.drop1.drop1) (A_ (fun _ _ ⟨_, _, _, _, h⟩ => h.drop1.drop1) (A_ (fun _ _ ⟨_, _, _, _, h⟩ => h.drop1.drop1) trivial)))))) (fun L0 => ?_)
     refine gk 3 ?_
     refine lkW (.agg (cel E64 [(lhash la sv).1, (lhash la sv).2]).toArray) (fun _ uw hcx => Gives.call rfl (Enters.callL call92 rfl) (lhash_ok k0 la sv uw vGa)) ?_
     refine gk 4 ?_
     refine lkW (.agg (cel E64 [(lhash lb (sv + (1#64))).1, (lhash lb (sv + (1#64))).2]).toArray) (fun _ uw hcx => Gives.call rfl (Enters.callL call92 rfl) (lhash_ok k0 lb (sv + (1#64)) uw vGa)) (WalkT.eff L0 0 ?_ ?_)
     ·refine A_ (fun r w0 uw hF hE => ?_) (A_ (fun r w0 uw hF hE => ?_) trivial)
      ·have p5 := hF.ext hE
       refine gW fun Q' hK => ?_
       refine go 1 ?_
       intro e3 q5 r5 f3 s5
       exact hK _ _ (E_ e3 (A_ rfl f3))
      ·obtain ⟨K0, o0, N1⟩ := hF
       replace N1 := N1.ext hE
       refine gW fun Q' hK => ?_
       refine go 1 ?_
       intro g3 t5 u5 h3 w5
       exact hK _ _ (E_ g3 (E_ K0 (A_ rfl (A_ o0 ((h3.pk 2 [1, 0]))))))
     refine WalkT.eff L0 1 ?_ ?_
     ·refine A_ (fun r w0 uw hF hE => ?_) (A_ (fun r w0 uw hF hE => ?_) trivial)
      ·have x5 := hF.ext hE
       refine gW fun Q' hK => ?_
       refine go 1 ?_
       intro i3 y5 z5 j3 A5
       exact hK _ _ (E_ i3 (A_ rfl j3))
      ·obtain ⟨b0, e9, O1⟩ := hF
       replace O1 := O1.ext hE
       refine gW fun Q' hK => ?_
       refine go 1 ?_
       intro k3 B5 C5 l3 D5
       exact hK _ _ (E_ b0 (E_ k3 (A_ e9 (A_ rfl l3))))
     refine WalkT.eff L0 2 ?_ ?_
     ·refine A_ (fun r w0 uw hF hE => ?_) trivial
      obtain ⟨b0, e0, e9, o0, P1⟩ := hF
      replace P1 := P1.ext hE
      dsimp only
      rw [e9]
      refine gW0 fun Q' hK => ?_
      refine go 1 ?_
      intro E5 m3 F5
      exact hK _ (fun _ => (E_ b0 (E_ e0 (A_ e9 (A_ o0 m3)))))
     refine WalkT.eff L0 3 ?_ ?_
     ·refine A_ (fun r w0 uw hF hE => ?_) trivial
      obtain ⟨b0, e0, e9, o0, Q1⟩ := hF
      replace Q1 := Q1.ext hE
      dsimp only
      rw [o0]
      refine gW0 fun Q' hK => ?_
      refine go 1 ?_
      intro G5 n3 H5
      exact hK _ (fun _ => (E_ b0 (E_ e0 (A_ e9 (A_ o0 n3)))))
     refine WalkT.nil fun r w0 I5 hF hE => ?_
     obtain ⟨b0, e0, e9, o0, M0⟩ := hF
     replace M0 := M0.ext hE
     dsimp only
     rw [e9, o0]
     dsimp only [n0, m1] at M0
     refine go 0 ?_
     let p0 : List RW := [(rX e0 E64 ([(lhash lb (sv + (1#64))).1, (lhash lb (sv + (1#64))).2]) 83), (rX b0 E64 ([(lhash la sv).1, (lhash la sv).2]) 83), (rX J0 E64 ([lb.1, lb.2]) 83), (rX B0 E64 ([la.1, la.2]) 83), (rC A0 #[i64 ((gs.getD i g0).k), i64 ((gs.getD i g0).a), i64 ((gs.getD i g0).b)] 154), (k1, sob ELb 83 ((gS lhash δ first gs zs i).1) z1), (k2, sob ELb 83 ((gS lhash δ first gs zs i).2) z2), (rX k0 E8 (AesSpec.cipher AesSpec.fixKey) 232), (rC b1 x1 104), (rX b5 E64 ([(δ).1, (δ).2]) 83)]
     let N0 := fun (a0 : Nat) => (((some a0), sob ELb 83 ([lhash la sv, lhash (lx la δ) sv, lw (col lb) δ] : List LbT) ([])) : RW)
     let O0 := fun (a0 : Nat) => (Sl ELb (some a0) ([lhash la sv, lhash (lx la δ) sv, lw (col lb) δ] : List LbT) 3 ([]) : Prop)
     let o3 : Tab := [zt3 false false false fun _ _ _ w' => Hp No w w' p0, zt3 true false false fun v11 _ _ w' => ∃ a0, v11 = sO (some a0) 3 3 ∧ (O0 a0) ∧ Hp No w w' ((N0 a0) :: p0), zt3 false true false fun _ v13 _ w' => ∃ P0, v13 = pT P0 ∧ Hp No w w' ((rX P0 E64 ([0#64, 0#64]) 83) :: p0), zt3 true true false fun v11 v13 _ w' => ∃ a0 l0, v11 = sO (some a0) 3 3 ∧ v13 = pT l0 ∧ (O0 a0) ∧ Hp No w w' ((rX l0 E64 ([0#64, 0#64]) 83) :: (N0 a0) :: p0), zt3 true true true fun v11 v13 _ w' => ∃ a0 l0, v11 = sO (some a0) 3 3 ∧ v13 = pT l0 ∧ (O0 a0) ∧ Hp No w w' ((rX l0 E64 ([(lsum ([lhash la sv, lhash (lx la δ) sv, lw (col lb) δ] : List LbT)).1, (lsum ([lhash la sv, lhash (lx la δ) sv, lw (col lb) δ] : List LbT)).2]) 83) :: (N0 a0) :: p0)]
     refine drawH (m := 15) [0, 0, 0, 0, 12, 0, 62, 0, 254, 0, 1022, 2047, 4095, 0, 16383] [11, 13, 14] p0 o3 mixed (fun _ e => M0.ext e) (A_ (fun _ _ h => h) (A_ (fun _ _ ⟨_, _, _, h⟩ => h.drop1) (A_ (fun _ _ ⟨_, _, h⟩ => h.drop1) (A_ (fun _ _ ⟨_, _, _, _, _, h⟩ => h.drop1.drop1) (A_ (fun _ _ ⟨_, _, _, _, _, h⟩ => h.drop1.drop1) trivial))))) (fun n1 => ?_)
     refine gk 4 ?_
     refine lkW (.agg (cel E64 [(lx la δ).1, (lx la δ).2]).toArray) (fun _ uw hcx => Gives.call rfl (Enters.callL call28 rfl) (lxor_ok la δ uw)) ?_
     refine gk 1 ?_
     refine lkW (.agg (cel E64 [(lhash (lx la δ) sv).1, (lhash (lx la δ) sv).2]).toArray) (fun _ uw hcx => Gives.call rfl (Enters.callL call92 rfl) (lhash_ok k0 (lx la δ) sv uw vGa)) ?_
     refine gk 1 ?_
     refine lkW (.bool (col lb)) (fun _ uw hcx => Gives.call rfl (Enters.callL call90 rfl) (col_ok lb uw)) ?_
     refine gk 1 ?_
     refine lkW (.agg (cel E64 [(lw (col lb) δ).1, (lw (col lb) δ).2]).toArray) (fun _ uw hcx => Gives.call rfl (Enters.callL call94 rfl) (lw_ok (col lb) δ uw)) (WalkT.eff n1 0 ?_ ?_)
     ·refine A_ (fun r w0 uw hF hE => ?_) (A_ (fun r w0 uw hF hE => ?_) trivial)
      ·have J5 := hF.ext hE
       exact gW fun Q' hK => (bS (E := ELb) (l := ([lhash la sv, lhash (lx la δ) sv, lw (col lb) δ] : List LbT)) fun p3 K5 q3 r3 L5 => hK _ _ (E_ p3 (A_ rfl (A_ q3 r3))))
      ·obtain ⟨P0, h0, R1⟩ := hF
       replace R1 := R1.ext hE
       exact gW fun Q' hK => (bS (E := ELb) (l := ([lhash la sv, lhash (lx la δ) sv, lw (col lb) δ] : List LbT)) fun s3 M5 t3 u3 N5 => hK _ _ (E_ s3 (E_ P0 (A_ rfl (A_ h0 (A_ t3 ((u3.pk 2 [1, 0]))))))))
     refine WalkT.lookS (fun _ => .agg (cel E64 [(lsum ([lhash la sv, lhash (lx la δ) sv, lw (col lb) δ] : List LbT)).1, (lsum ([lhash la sv, lhash (lx la δ) sv, lw (col lb) δ] : List LbT)).2]).toArray) (fun _ _ _ => rfl) ?_ ?_
     ·refine A_ (fun r w0 uw hF hE => ?_) (A_ (fun r w0 uw hF hE => ?_) trivial)
      ·obtain ⟨a0, f0, q0, HH⟩ := hF
       replace HH := HH.ext hE
       dsimp only
       rw [f0]
       exact Gives.call rfl (Enters.callL call93 rfl) (lsum_ok ([lhash la sv, lhash (lx la δ) sv, lw (col lb) δ] : List LbT) (ownA (some a0)) 3 3 (by rfl) (by simp) uw vRd)
      ·obtain ⟨a0, l0, f0, h0, q0, HH⟩ := hF
       replace HH := HH.ext hE
       dsimp only
       rw [f0]
       exact Gives.call rfl (Enters.callL call93 rfl) (lsum_ok ([lhash la sv, lhash (lx la δ) sv, lw (col lb) δ] : List LbT) (ownA (some a0)) 3 3 (by rfl) (by simp) uw vRd)
     refine WalkT.eff n1 1 ?_ ?_
     ·refine A_ (fun r w0 uw hF hE => ?_) (A_ (fun r w0 uw hF hE => ?_) trivial)
      ·have O5 := hF.ext hE
       refine gW fun Q' hK => ?_
       refine go 1 ?_
       intro w3 P5 Q5 x3 R5
       exact hK _ _ (E_ w3 (A_ rfl x3))
      ·obtain ⟨a0, f0, q0, S1⟩ := hF
       replace S1 := S1.ext hE
       refine gW fun Q' hK => ?_
       refine go 1 ?_
       intro y3 S5 T5 z3 U5
       exact hK _ _ (E_ a0 (E_ y3 (A_ f0 (A_ rfl (A_ q0 z3)))))
     refine WalkT.eff n1 2 ?_ ?_
     ·refine A_ (fun r w0 uw hF hE => ?_) trivial
      obtain ⟨a0, l0, f0, h0, q0, T1⟩ := hF
      replace T1 := T1.ext hE
      dsimp only
      rw [h0]
      refine gW0 fun Q' hK => ?_
      refine go 1 ?_
      intro V5 A3 W5
      exact hK _ (fun _ => (E_ a0 (E_ l0 (A_ f0 (A_ h0 (A_ q0 A3))))))
     refine WalkT.nil fun r w0 X5 hF hE => ?_
     obtain ⟨a0, l0, f0, h0, q0, E0⟩ := hF
     replace E0 := E0.ext hE
     dsimp only
     rw [f0, h0]
     dsimp only [O0] at q0
     dsimp only [p0, N0] at E0
     obtain ⟨tx, htx⟩ : ∃ x : Lb, x = tabX lhash δ la lb sv := ⟨_, rfl⟩
     rw [show (lsum ([lhash la sv, lhash (lx la δ) sv, lw (col lb) δ] : List LbT) : Lb) = tx from htx.symm] at E0
     refine go 0 ?_
     let r0 : List RW := [(rX l0 E64 ([tx.1, tx.2]) 83), ((some a0), sob ELb 83 ([lhash la sv, lhash (lx la δ) sv, lw (col lb) δ] : List LbT) ([])), (rX e0 E64 ([(lhash lb (sv + (1#64))).1, (lhash lb (sv + (1#64))).2]) 83), (rX b0 E64 ([(lhash la sv).1, (lhash la sv).2]) 83), (rX J0 E64 ([lb.1, lb.2]) 83), (rX B0 E64 ([la.1, la.2]) 83), (rC A0 #[i64 ((gs.getD i g0).k), i64 ((gs.getD i g0).a), i64 ((gs.getD i g0).b)] 154), (k1, sob ELb 83 ((gS lhash δ first gs zs i).1) z1), (k2, sob ELb 83 ((gS lhash δ first gs zs i).2) z2), (rX k0 E8 (AesSpec.cipher AesSpec.fixKey) 232), (rC b1 x1 104), (rX b5 E64 ([(δ).1, (δ).2]) 83)]
     let Q0 := fun (c0 : Nat) => (((some c0), sob ELb 83 ([lhash lb (sv + (1#64)), lhash (lx lb δ) (sv + (1#64)), la] : List LbT) ([])) : RW)
     let R0 := fun (c0 : Nat) => (Sl ELb (some c0) ([lhash lb (sv + (1#64)), lhash (lx lb δ) (sv + (1#64)), la] : List LbT) 3 ([]) : Prop)
     let B3 : Tab := [zt3 false false false fun _ _ _ w' => Hp No w w' r0, zt3 true false false fun v9 _ _ w' => ∃ c0, v9 = sO (some c0) 3 3 ∧ (R0 c0) ∧ Hp No w w' ((Q0 c0) :: r0), zt3 false true false fun _ v11 _ w' => ∃ S0, v11 = pT S0 ∧ Hp No w w' ((rX S0 E64 ([0#64, 0#64]) 83) :: r0), zt3 true true false fun v9 v11 _ w' => ∃ c0 m0, v9 = sO (some c0) 3 3 ∧ v11 = pT m0 ∧ (R0 c0) ∧ Hp No w w' ((rX m0 E64 ([0#64, 0#64]) 83) :: (Q0 c0) :: r0), zt3 true true true fun v9 v11 _ w' => ∃ c0 m0, v9 = sO (some c0) 3 3 ∧ v11 = pT m0 ∧ (R0 c0) ∧ Hp No w w' ((rX m0 E64 ([(lsum ([lhash lb (sv + (1#64)), lhash (lx lb δ) (sv + (1#64)), la] : List LbT)).1, (lsum ([lhash lb (sv + (1#64)), lhash (lx lb δ) (sv + (1#64)), la] : List LbT)).2]) 83) :: (Q0 c0) :: r0)]
     refine drawH (m := 13) [0, 0, 0, 0, 12, 0, 32, 126, 0, 511, 1023, 0, 4095] [9, 11, 12] r0 B3 mixed (fun _ e => E0.ext e) (A_ (fun _ _ h => h) (A_ (fun _ _ ⟨_, _, _, h⟩ => h.drop1) (A_ (fun _ _ ⟨_, _, h⟩ => h.drop1) (A_ (fun _ _ ⟨_, _, _, _, _, h⟩ => h.drop1.drop1) (A_ (fun _ _ ⟨_, _, _, _, _, h⟩ => h.drop1.drop1) trivial))))) (fun o1 => ?_)
     refine gk 4 ?_
     refine lkW (.agg (cel E64 [(lx lb δ).1, (lx lb δ).2]).toArray) (fun _ uw hcx => Gives.call rfl (Enters.callL call28 rfl) (lxor_ok lb δ uw)) ?_
     refine gk 2 ?_
     refine lkW (.agg (cel E64 [(lhash (lx lb δ) (sv + (1#64))).1, (lhash (lx lb δ) (sv + (1#64))).2]).toArray) (fun _ uw hcx => Gives.call rfl (Enters.callL call92 rfl) (lhash_ok k0 (lx lb δ) (sv + (1#64)) uw vGa)) ?_
     refine gk 1 ?_
     refine WalkT.eff o1 0 ?_ ?_
     ·refine A_ (fun r w0 uw hF hE => ?_) (A_ (fun r w0 uw hF hE => ?_) trivial)
      ·have Y5 := hF.ext hE
       exact gW fun Q' hK => (bS (E := ELb) (l := ([lhash lb (sv + (1#64)), lhash (lx lb δ) (sv + (1#64)), la] : List LbT)) fun C3 Z5 D3 E3 c6 => hK _ _ (E_ C3 (A_ rfl (A_ D3 E3))))
      ·obtain ⟨S0, f0, U1⟩ := hF
       replace U1 := U1.ext hE
       exact gW fun Q' hK => (bS (E := ELb) (l := ([lhash lb (sv + (1#64)), lhash (lx lb δ) (sv + (1#64)), la] : List LbT)) fun F3 d6 G3 I3 e6 => hK _ _ (E_ F3 (E_ S0 (A_ rfl (A_ f0 (A_ G3 ((I3.pk 2 [1, 0]))))))))
     refine WalkT.lookS (fun _ => .agg (cel E64 [(lsum ([lhash lb (sv + (1#64)), lhash (lx lb δ) (sv + (1#64)), la] : List LbT)).1, (lsum ([lhash lb (sv + (1#64)), lhash (lx lb δ) (sv + (1#64)), la] : List LbT)).2]).toArray) (fun _ _ _ => rfl) ?_ ?_
     ·refine A_ (fun r w0 uw hF hE => ?_) (A_ (fun r w0 uw hF hE => ?_) trivial)
      ·obtain ⟨c0, e9, s0, HH⟩ := hF
       replace HH := HH.ext hE
       dsimp only
       rw [e9]
       exact Gives.call rfl (Enters.callL call93 rfl) (lsum_ok ([lhash lb (sv + (1#64)), lhash (lx lb δ) (sv + (1#64)), la] : List LbT) (ownA (some c0)) 3 3 (by rfl) (by simp) uw vRd)
      ·obtain ⟨c0, m0, e9, f0, s0, HH⟩ := hF
       replace HH := HH.ext hE
       dsimp only
       rw [e9]
       exact Gives.call rfl (Enters.callL call93 rfl) (lsum_ok ([lhash lb (sv + (1#64)), lhash (lx lb δ) (sv + (1#64)), la] : List LbT) (ownA (some c0)) 3 3 (by rfl) (by simp) uw vRd)
     refine WalkT.eff o1 1 ?_ ?_
     ·refine A_ (fun r w0 uw hF hE => ?_) (A_ (fun r w0 uw hF hE => ?_) trivial)
      ·have f6 := hF.ext hE
       refine gW fun Q' hK => ?_
       refine go 1 ?_
       intro J3 g6 h6 K3 i6
       exact hK _ _ (E_ J3 (A_ rfl K3))
      ·obtain ⟨c0, e9, s0, V1⟩ := hF
       replace V1 := V1.ext hE
       refine gW fun Q' hK => ?_
       refine go 1 ?_
       intro L3 j6 k6 M3 l6
       exact hK _ _ (E_ c0 (E_ L3 (A_ e9 (A_ rfl (A_ s0 M3)))))
     refine WalkT.eff o1 2 ?_ ?_
     ·refine A_ (fun r w0 uw hF hE => ?_) trivial
      obtain ⟨c0, m0, e9, f0, s0, W1⟩ := hF
      replace W1 := W1.ext hE
      dsimp only
      rw [f0]
      refine gW0 fun Q' hK => ?_
      refine go 1 ?_
      intro m6 N3 n6
      exact hK _ (fun _ => (E_ c0 (E_ m0 (A_ e9 (A_ f0 (A_ s0 N3))))))
     refine WalkT.nil fun r w0 o6 hF hE => ?_
     obtain ⟨c0, m0, e9, f0, s0, T0⟩ := hF
     replace T0 := T0.ext hE
     dsimp only
     rw [e9, f0]
     dsimp only [R0] at s0
     dsimp only [r0, Q0] at T0
     obtain ⟨ty, hty⟩ : ∃ x : Lb, x = tabY lhash δ la lb sv := ⟨_, rfl⟩
     rw [show (lsum ([lhash lb (sv + (1#64)), lhash (lx lb δ) (sv + (1#64)), la] : List LbT) : Lb) = ty from hty.symm] at T0
     refine go 3 ?_
     refine bS (E := ELb) (l := ([tx, ty] : List LbT)) fun O3 p6 q6 r6 s6 => ?_
     refine go 1 ?_
     intro X1 P3 Y1 t6 Q3 u6 R3
     have S3 : ((gS lhash δ first gs zs i).2) ++ ([tx, ty] : List LbT) = (gS lhash δ first gs zs (i + 1)).2 := by rw [gS, gstep, if_neg u0, if_neg l1, htx, hty, hsv, hla, hlb]
     have Z1 := Q3
     have d2 := R3
     rw [S3] at Z1 d2
     refine go 1 ?_
     have T3 := (d2.pk 15 [10, 0, 1, 2, 3, 4, 5, 6, 7, 8, 9, 11, 12, 13, 14])
     let x0 : List RW := [((some O3), sob ELb 83 ([tx, ty] : List LbT) ([])), (rX m0 E64 ([ty.1, ty.2]) 83), ((some c0), sob ELb 83 ([lhash lb (sv + (1#64)), lhash (lx lb δ) (sv + (1#64)), la] : List LbT) ([])), (rX l0 E64 ([tx.1, tx.2]) 83), ((some a0), sob ELb 83 ([lhash la sv, lhash (lx la δ) sv, lw (col lb) δ] : List LbT) ([])), (rX e0 E64 ([(lhash lb (sv + (1#64))).1, (lhash lb (sv + (1#64))).2]) 83), (rX b0 E64 ([(lhash la sv).1, (lhash la sv).2]) 83), (rX J0 E64 ([lb.1, lb.2]) 83), (rX B0 E64 ([la.1, la.2]) 83), (rC A0 #[i64 ((gs.getD i g0).k), i64 ((gs.getD i g0).a), i64 ((gs.getD i g0).b)] 154), (X1, sob ELb 83 ((gS lhash δ first gs zs (i + 1)).2) Y1), (rX k0 E8 (AesSpec.cipher AesSpec.fixKey) 232), (rC b1 x1 104), (rX b5 E64 ([(δ).1, (δ).2]) 83)]
     let U0 := fun (d0 : Nat) => (((some d0), sob ELb 83 ([lhash la sv, lw (col la) tx, lhash lb (sv + (1#64)), lw (col lb) (lx ty la)] : List LbT) ([])) : RW)
     let p1 := fun (j0 : Nat) => (((some j0), sob ELb 83 ([lsum ([lhash la sv, lw (col la) tx, lhash lb (sv + (1#64)), lw (col lb) (lx ty la)] : List LbT)] : List LbT) ([])) : RW)
     let q1 := ((k1, sob ELb 83 ((gS lhash δ first gs zs i).1) z1) : RW)
     let V0 := fun (d0 : Nat) => (Sl ELb (some d0) ([lhash la sv, lw (col la) tx, lhash lb (sv + (1#64)), lw (col lb) (lx ty la)] : List LbT) 4 ([]) : Prop)
     let r1 := fun (j0 : Nat) => (Sl ELb (some j0) ([lsum ([lhash la sv, lw (col la) tx, lhash lb (sv + (1#64)), lw (col lb) (lx ty la)] : List LbT)] : List LbT) 1 ([]) : Prop)
     let U3 : Tab := [zt3 false false false fun _ _ _ w' => Hp No w w' (q1 :: x0), zt3 true false false fun v13 _ _ w' => ∃ d0, v13 = sO (some d0) 4 4 ∧ (V0 d0) ∧ Hp No w w' ((U0 d0) :: q1 :: x0), zt3 true true false fun v13 v15 _ w' => ∃ d0 j0, v13 = sO (some d0) 4 4 ∧ v15 = sO (some j0) 1 1 ∧ (r1 j0) ∧ (V0 d0) ∧ Hp No w w' ((p1 j0) :: (U0 d0) :: q1 :: x0), zt3 true true true fun v13 v15 v16 w' => ∃ d0 j0 F0 W0 X0, v13 = sO (some d0) 4 4 ∧ v15 = sO (some j0) 1 1 ∧ v16 = sO F0 ((zs.length + i) + 1) W0 ∧ (r1 j0) ∧ (V0 d0) ∧ Sl ELb F0 ((gS lhash δ first gs zs (i + 1)).1) W0 X0 ∧ Hp No w w' ((p1 j0) :: (U0 d0) :: (F0, sob ELb 83 ((gS lhash δ first gs zs (i + 1)).1) X0) :: x0)]
     refine drawH (m := 18) [0, 0, 0, 4, 0, 28, 0, 0, 188, 0, 0, 1980, 4028, 8190, 16382, 32766, 65535, 131071] [13, 15, 16] x0 U3 mixed (fun _ e => T3.ext e) (A_ (fun _ _ h => h.drop1) (A_ (fun _ _ ⟨_, _, _, h⟩ => h.drop1.drop1) (A_ (fun _ _ ⟨_, _, _, _, _, _, h⟩ => h.drop1.drop1.drop1) (A_ (fun _ _ ⟨_, _, _, _, _, _, _, _, _, _, _, h⟩ => h.drop1.drop1.drop1) trivial)))) (fun s1 => ?_)
     refine gk 3 ?_
     refine lkW (.bool (col la)) (fun _ uw hcx => Gives.call rfl (Enters.callL call90 rfl) (col_ok la uw)) ?_
     refine gk 1 ?_
     refine lkW (.agg (cel E64 [(lw (col la) tx).1, (lw (col la) tx).2]).toArray) (fun _ uw hcx => Gives.call rfl (Enters.callL call94 rfl) (lw_ok (col la) tx uw)) ?_
     refine gk 2 ?_
     refine lkW (.bool (col lb)) (fun _ uw hcx => Gives.call rfl (Enters.callL call90 rfl) (col_ok lb uw)) ?_
     refine gk 2 ?_
     refine lkW (.agg (cel E64 [(lx ty la).1, (lx ty la).2]).toArray) (fun _ uw hcx => Gives.call rfl (Enters.callL call28 rfl) (lxor_ok ty la uw)) (lkW (.agg (cel E64 [(lw (col lb) (lx ty la)).1, (lw (col lb) (lx ty la)).2]).toArray) (fun _ uw hcx => Gives.call rfl (Enters.callL call94 rfl) (lw_ok (col lb) (lx ty la) uw)) (WalkT.eff s1 0 ?_ ?_))
     ·refine A_ (fun r w0 uw hF hE => ?_) trivial
      have x6 := hF.ext hE
      exact gW fun Q' hK => (bS (E := ELb) (l := ([lhash la sv, lw (col la) tx, lhash lb (sv + (1#64)), lw (col lb) (lx ty la)] : List LbT)) fun V3 y6 W3 X3 z6 => hK _ _ (E_ V3 (A_ rfl (A_ W3 X3))))
     refine WalkT.lookS (fun _ => .agg (cel E64 [(lsum ([lhash la sv, lw (col la) tx, lhash lb (sv + (1#64)), lw (col lb) (lx ty la)] : List LbT)).1, (lsum ([lhash la sv, lw (col la) tx, lhash lb (sv + (1#64)), lw (col lb) (lx ty la)] : List LbT)).2]).toArray) (fun _ _ _ => rfl) ?_ ?_
     ·refine A_ (fun r w0 uw hF hE => ?_) trivial
      obtain ⟨d0, h0, y0, HH⟩ := hF
      replace HH := HH.ext hE
      dsimp only
      rw [h0]
      exact Gives.call rfl (Enters.callL call93 rfl) (lsum_ok ([lhash la sv, lw (col la) tx, lhash lb (sv + (1#64)), lw (col lb) (lx ty la)] : List LbT) (ownA (some d0)) 4 4 (by rfl) (by simp) uw vRd)
     refine WalkT.eff s1 1 ?_ ?_
     ·refine A_ (fun r w0 uw hF hE => ?_) trivial
      obtain ⟨d0, h0, y0, e2⟩ := hF
      replace e2 := e2.ext hE
      exact gW fun Q' hK => (bS (E := ELb) (l := ([lsum ([lhash la sv, lw (col la) tx, lhash lb (sv + (1#64)), lw (col lb) (lx ty la)] : List LbT)] : List LbT)) fun Y3 A6 Z3 c4 B6 => hK _ _ (E_ d0 (E_ Y3 (A_ h0 (A_ rfl (A_ Z3 (A_ y0 c4)))))))
     refine WalkT.eff s1 2 ?_ ?_
     ·refine A_ (fun r w0 uw hF hE => ?_) trivial
      obtain ⟨d0, j0, h0, Y0, t1, y0, f2⟩ := hF
      replace f2 := f2.ext hE
      dsimp only
      rw [Y0]
      refine gW fun Q' hK => ?_
      refine apq ?_
      refine ⟨by rw [gS_len], by rfl, om, ?_⟩
      intro d4 e4 f4 C6 g4 D6 h4
      have i4 : ((gS lhash δ first gs zs i).1) ++ ([lsum ([lhash la sv, lw (col la) tx, lhash lb (sv + (1#64)), lw (col lb) (lx ty la)] : List LbT)] : List LbT) = (gS lhash δ first gs zs (i + 1)).1 := by rw [gS, gstep, if_neg u0, if_neg l1, htx, hty, hsv, hla, hlb]; rfl
      have g2 := g4
      have i2 := h4
      rw [i4] at g2 i2
      exact hK _ _ (E_ d0 (E_ j0 (E_ d4 (E_ e4 (E_ f4 (A_ h0 (A_ Y0 (A_ rfl (A_ t1 (A_ y0 (A_ g2 i2)))))))))))
     refine WalkT.hand (fun r => r 16) (fun r r' h => h 16 (by decide) rfl) (fun _ _ => r_assign rfl) (WalkT.nil fun r w0 E6 hF hE => ?_)
     obtain ⟨d0, j0, F0, W0, X0, h0, Y0, j4, t1, y0, k4, Z0⟩ := hF
     replace Z0 := Z0.ext hE
     dsimp only
     rw [h0, Y0, j4]
     dsimp only [r1] at t1
     dsimp only [V0] at y0
     dsimp only [x0, p1, U0] at Z0
     refine go 2 ?_
     exact ⟨(i + 1, F0, W0, X0, X1, P3, Y1, (gS lhash δ first gs zs i).2.length + 2), _, rfl, kp, ⟨⟨om, k4, Z1, by rw [gS, gstep, if_neg u0, if_neg l1, List.length_append]; rfl⟩, ((((((((((((Z0.dropk 12).dropk 11).dropk 10).dropk 9).dropk 8).dropk 7).dropk 6).dropk 5).dropk 4).dropk 3).dropk 1).dropk 0)⟩, vd⟩
    ·exfalso
     omega
 ·have hie : i = gs.length := by omega
  rw [hie] at HL h1 h2
  rw [hie]
  refine go 3 ?_
  refine cl (outs_ok ((zs.length : Nat) : Int)  gs ol ga oa gc oc ((gS lhash δ first gs zs gs.length).1) (ownA k1) (zs.length + gs.length) c1 (by rw [gS_len]) B2 vRd vRd om (fun j hj => by rw [gS_len]; have := hg.ook j hj; omega)) ?_
  rintro _ F6 ⟨⟨l4, m4, n4, rfl, o4, p4⟩, q4⟩
  rw [show (oL (gS lhash δ first gs zs gs.length).1 ol ol.length).length = ol.length from oL_len _ _ _]
  have r4 := HL.add q4 p4
  refine go 3 ?_
  exact ⟨_, rfl, k2, c2, z2, l4, m4, n4, rfl, h2, o4, (r4.pk 6 [2, 0])⟩
end Go.Proofs.YtohngnahcgbfmaaGreatDoor.Gb
namespace Go.Proofs.YtohngnahcgbfmaaGreatDoor.Gb
open Go Vc Er Circ
theorem eval_ok (n : Int) (gs : List Gt) (ol : List Int) (ga oa : Option Addr) (gc oc : Nat) (ls tb : List Lb) (lsa tsa : Option Addr) (lsc tsc : Nat) (first : BitVec 64) (w : World) (hG : Gl w) (hGs : Rd EG w ga gs) (hOl : Rd EI w oa ol) (hgl : gs.length ≤ 140737488355328) (hol : ol.length ≤ 140737488355328) (hLs : Rd ELb w lsa ls) (hTb : Rd ELb w tsa tb) (hg : IsC n gs ol) (hm : (ls.length : Int) = n) (hc : tb.length = 2 * andsS gs gs.length) : Calls Tryz.prog 74 [.agg #[i64 n, .slice ga gs.length gc, .slice oa ol.length oc], .slice lsa ls.length lsc, .slice tsa tb.length tsc, u64 first].toArray w (Ret fun v w' => ∃ (k1 : Option Nat) (c1 : Nat) (z1 : LV), v = .tuple #[sO k1 ol.length c1, .nilIface] ∧ Sl ELb k1 (oL (eS lhash first gs tb ls gs.length).1 ol ol.length) c1 z1 ∧ Hp No w w' [(k1, sob ELb 83 (oL (eS lhash first gs tb ls gs.length).1 ol ol.length) z1)]) := by
 let x1 : Value := .slice oa ol.length oc
 subst hm
 have hgt := hg.gates
 have hot := hg.outs
 have hhi := hg.hi
 have han := andsS_le gs gs.length
 have H := Hp.start No w
 refine enter (n := 122) Tryz.func74 rfl rfl (bLe rfl) ?_
 refine go 1 ?_
 intro b1 w2 p2 H3 q2
 refine go 5 ?_
 refine cl (look_good (ls.length : Nat) gs ol ga oa gc oc ls.length w2 vGl vRd vRd om om hg om) ?_
 rintro _ w5 ⟨rfl, W0⟩
 have H7 := H3.ext W0
 refine go 6 ?_
 refine cl (ands_ok (ls.length : Nat) gs ol ga oa gc oc w5 vRd om) ?_
 rintro _ w8 ⟨rfl, X0⟩
 have Y0 := H7.ext X0
 refine sq ((r_mulI rfl rfl om).as (v' := iN (2 * andsS gs gs.length)) (by rfl)) (sq ((r_neqI rfl rfl).as (v' := .bool false) (by exact congrArg Value.bool (decide_eq_false om))) ?_)
 refine go 0 ?_
 refine cl (Aes.fixed_ok w8) ?_
 rintro _ r2 ⟨⟨f0, rfl, Z0, ho15⟩, d1⟩
 have e1 := Y0.add1 d1 Z0 ho15
 refine go 6 ?_
 refine sq ((r_addI rfl rfl om).as (v' := iN (ls.length + gs.length)) (by rfl)) (q_makeSlice (E := ELb) (m := 0) (c := (ls.length + gs.length)) (z0 := lb0) e1 sli89 zer83 rfl byt83 rfl rfl vo vo om om fun s2 t2 u2 x2 y2 => ?_)
 refine go 1 ?_
 refine apq ?_
 refine ⟨by simp, by rfl, om, ?_⟩
 intro g1 i1 j1 z2 l1 A2 m1
 have n1 : (List.replicate 0 lb0) ++ ls = ls := by rfl
 have B0 := l1
 have C0 := m1
 rw [n1] at B0 C0
 refine go 6 ?_
 refine loopAny (σ := Nat × Option Nat × Nat × LV × Nat) (fun (i, k1, c1, z1, m) => [(2, .slice tsa tb.length tsc), (3, u64 first), (4, pT b1), (11, pT f0), (12, sO k1 (ls.length + i) c1), (13, iN m), (49, .slice ga gs.length gc), (50, iN gs.length), (51, iN i)]) (fun (i, k1, c1, z1, m) w' => (i ≤ gs.length ∧ Sl ELb k1 (eS lhash first gs tb ls i).1 c1 z1 ∧ m = (eS lhash first gs tb ls i).2) ∧ Hp No w w' [(k1, sob ELb 83 ((eS lhash first gs tb ls i).1) z1), (rC b1 #[iN ls.length, .slice ga gs.length gc, x1] 104), (rX f0 E8 (AesSpec.cipher AesSpec.fixKey) 232)]) (fun (i, k1, c1, z1, m) => gs.length - i) ((0, g1, i1, j1, 0)) ?_ ?_ ?_
 ·exact ⟨rfl, rfl, rfl, rfl, congrArg (fun q => Value.slice _ q _) om, rfl, rfl, rfl, rfl, trivial⟩
 ·exact ⟨⟨Nat.zero_le _, B0, rfl⟩, (C0.pk 3 [0, 2, 1])⟩
 rintro ⟨i, k1, c1, z1, m⟩ ρ o1 ⟨⟨hi, h1, rfl⟩, HL⟩
 have hwl := eS_len (h := lhash) (first := first) (gs := gs) (tb := tb) (ls := ls) i
 have hnx := eS_next (h := lhash) (first := first) (gs := gs) (tb := tb) (ls := ls) i
 refine go 1 ?_
 refine condProp (((i : Nat) : Int) < (gs.length : Nat)) rfl (fun p1 => ?_) (fun p1 => ?_)
 ·have hgi := hg.gok i om
  unfold gokP at hgi
  refine go 3 ?_
  intro q0 B2 C2 D2 E2
  refine go 1 ?_
  intro F2 G2 H2
  refine go 6 ?_
  intro h0 I2 J2 K2 L2
  refine go 1 ?_
  intro M2 D0 N2
  obtain ⟨la, hla⟩ : ∃ x : Lb, x = (((eS lhash first gs tb ls i).1).getD (gs.getD i g0).a.toNat lb0) := ⟨_, rfl⟩
  rw [← hla] at D0 ⊢
  refine go 4 ?_
  refine condProp (((gs.getD i g0).k : Int) = (1 : Int)) rfl (fun r0 => ?_) (fun r0 => ?_)
  ·have hk := r0
   let k0 : List RW := [(rC q0 #[i64 ((gs.getD i g0).k), i64 ((gs.getD i g0).a), i64 ((gs.getD i g0).b)] 154), (k1, sob ELb 83 ((eS lhash first gs tb ls i).1) z1), (rC b1 #[iN ls.length, .slice ga gs.length gc, x1] 104), (rX f0 E8 (AesSpec.cipher AesSpec.fixKey) 232)]
   let q1 : Tab := [zt1 false fun _ w' => Hp No w w' ((rX h0 E64 ([la.1, la.2]) 83) :: k0), zt1 true fun _ w' => Hp No w w' ((rX h0 E64 ([(lx la (((eS lhash first gs tb ls i).1).getD ((gs.getD i g0).b.toNat) lb0)).1, (lx la (((eS lhash first gs tb ls i).1).getD ((gs.getD i g0).b.toNat) lb0)).2]) 83) :: k0)]
   refine drawH (m := 8) [0, 0, 0, 4, 14, 30, 63, 127] [7] k0 q1 mixed (fun _ e => D0.ext e) (A_ (fun _ _ h => h.drop1) (A_ (fun _ _ h => h.drop1) trivial)) (fun r1 => ?_)
   refine gk 6 ?_
   refine lkW (.agg (cel E64 [(lx la (((eS lhash first gs tb ls i).1).getD ((gs.getD i g0).b.toNat) lb0)).1, (lx la (((eS lhash first gs tb ls i).1).getD ((gs.getD i g0).b.toNat) lb0)).2]).toArray) (fun _ uw hcx => Gives.call rfl (Enters.callL call28 rfl) (lxor_ok la (((eS lhash first gs tb ls i).1).getD ((gs.getD i g0).b.toNat) lb0) uw)) (WalkT.eff r1 0 ?_ ?_)
   ·refine A_ (fun r w0 uw hF hE => ?_) trivial
    have O2 := hF.ext hE
    refine gW0 fun Q' hK => ?_
    refine go 1 ?_
    intro P2 s1 Q2
    exact hK _ (fun _ => s1)
   refine WalkT.nil fun r w0 R2 hF hE => ?_
   have t1 := hF.ext hE
   dsimp only
   dsimp only [k0] at t1
   refine go 2 ?_
   refine bS (E := ELb) (l := ([lx la (((eS lhash first gs tb ls i).1).getD ((gs.getD i g0).b.toNat) lb0)] : List LbT)) fun S2 T2 U2 V2 X2 => ?_
   refine apq ?_
   refine ⟨by rw [eS_len], by rfl, om, ?_⟩
   intro u1 w1 y1 Y2 A1 Z2 B1
   have C1 : ((eS lhash first gs tb ls i).1) ++ ([lx la (((eS lhash first gs tb ls i).1).getD ((gs.getD i g0).b.toNat) lb0)] : List LbT) = (eS lhash first gs tb ls (i + 1)).1 := by rw [eS, estep, if_pos hk, hla]
   have E0 := A1
   have F0 := B1
   rw [C1] at E0 F0
   refine go 3 ?_
   exact ⟨(i + 1, u1, w1, y1, (eS lhash first gs tb ls i).2), _, rfl, kp, ⟨⟨om, E0, by rw [eS, estep, if_pos hk]⟩, (((F0.dropk 2).dropk 1).dropk 0)⟩, vd⟩
  ·have l0 := r0
   refine go 2 ?_
   refine condProp (((gs.getD i g0).k : Int) = (2 : Int)) rfl (fun s0 => ?_) (fun s0 => ?_)
   ·have hk := s0
    have han := andsS_step gs i om hk
    refine go 6 ?_
    intro G0 c3 d3 e3 f3
    refine go 1 ?_
    intro g3 H0 h3
    obtain ⟨lb, hlb⟩ : ∃ x : Lb, x = (((eS lhash first gs tb ls i).1).getD (gs.getD i g0).b.toNat lb0) := ⟨_, rfl⟩
    rw [← hlb] at H0 ⊢
    refine go 5 ?_
    obtain ⟨sv, hsv⟩ : ∃ x : BitVec 64, x = first + (BitVec.ofInt 64 ((eS lhash first gs tb ls i).2 : Nat)) := ⟨_, rfl⟩
    rw [← hsv]
    refine go 0 ?_
    let d0 : List RW := [(rX G0 E64 ([lb.1, lb.2]) 83), (rX h0 E64 ([la.1, la.2]) 83), (rC q0 #[i64 ((gs.getD i g0).k), i64 ((gs.getD i g0).a), i64 ((gs.getD i g0).b)] 154), (k1, sob ELb 83 ((eS lhash first gs tb ls i).1) z1), (rC b1 #[iN ls.length, .slice ga gs.length gc, x1] 104), (rX f0 E8 (AesSpec.cipher AesSpec.fixKey) 232)]
    let u0 := fun (a0 : Nat) => ((rX a0 E64 ([(tb.getD ((eS lhash first gs tb ls i).2) lb0).1, (tb.getD ((eS lhash first gs tb ls i).2) lb0).2]) 83) : RW)
    let I0 := fun (a0 : Nat) => ((rX a0 E64 ([0#64, 0#64]) 83) : RW)
    let J0 := fun (b0 : Nat) => ((rX b0 E64 ([0#64, 0#64]) 83) : RW)
    let D1 : Tab := [zt4 false false false false fun _ _ _ _ w' => Hp No w w' d0, zt4 true false false false fun v9 _ _ _ w' => ∃ a0, v9 = pT a0 ∧ Hp No w w' ((I0 a0) :: d0), zt4 false true false false fun _ v10 _ _ w' => ∃ m0, v10 = pT m0 ∧ Hp No w w' ((rX m0 E64 ([0#64, 0#64]) 83) :: d0), zt4 true true false false fun v9 v10 _ _ w' => ∃ a0 b0, v9 = pT a0 ∧ v10 = pT b0 ∧ Hp No w w' ((J0 b0) :: (I0 a0) :: d0), zt4 true true true false fun v9 v10 _ _ w' => ∃ a0 b0, v9 = pT a0 ∧ v10 = pT b0 ∧ Hp No w w' ((J0 b0) :: (u0 a0) :: d0), zt4 true true true true fun v9 v10 _ _ w' => ∃ a0 b0, v9 = pT a0 ∧ v10 = pT b0 ∧ Hp No w w' ((rX b0 E64 ([(tb.getD ((eS lhash first gs tb ls i).2 + 1) lb0).1, (tb.getD ((eS lhash first gs tb ls i).2 + 1) lb0).2]) 83) :: (u0 a0) :: d0)]
    refine drawH (m := 13) [0, 0, 3, 7, 0, 0, 32, 112, 240, 0, 0, 1551, 4095] [9, 10, 11, 12] d0 D1 mixed (fun _ e => H0.ext e) (A_ (fun _ _ h => h) (A_ (fun _ _ ⟨_, _, h⟩ => h.drop1) (A_ (fun _ _ ⟨_, _, h⟩ => h.drop1) (A_ (fun _ _ ⟨_, _, _, _, h⟩ => h.drop1.drop1) (A_ (fun _ _ ⟨_, _, _, _, h⟩ => h.drop1.drop1) (A_ (fun _ _ ⟨_, _, _, _, h⟩ => h.drop1.drop1) trivial)))))) (fun n0 => ?_)
    refine gk 6 ?_
    refine lkH (iN ((eS lhash first gs tb ls i).2 + 1)) (fun _ uw hcx => (r_addI rfl rfl om).as (v' := iN ((eS lhash first gs tb ls i).2 + 1)) (by rfl)) ?_
    refine gk 2 ?_
    refine WalkT.eff n0 0 ?_ ?_
    ·refine A_ (fun r w0 uw hF hE => ?_) (A_ (fun r w0 uw hF hE => ?_) trivial)
     ·have i3 := hF.ext hE
      refine gW fun Q' hK => ?_
      refine go 1 ?_
      intro E1 j3 k3 F1 l3
      exact hK _ _ (E_ E1 (A_ rfl F1))
     ·obtain ⟨m0, e0, K0⟩ := hF
      replace K0 := K0.ext hE
      refine gW fun Q' hK => ?_
      refine go 1 ?_
      intro G1 m3 n3 H1 o3
      exact hK _ _ (E_ G1 (E_ m0 (A_ rfl (A_ e0 ((H1.pk 2 [1, 0]))))))
    refine WalkT.eff n0 1 ?_ ?_
    ·refine A_ (fun r w0 uw hF hE => ?_) (A_ (fun r w0 uw hF hE => ?_) trivial)
     ·have p3 := hF.ext hE
      refine gW fun Q' hK => ?_
      refine go 1 ?_
      intro I1 q3 r3 J1 s3
      exact hK _ _ (E_ I1 (A_ rfl J1))
     ·obtain ⟨a0, e9, L0⟩ := hF
      replace L0 := L0.ext hE
      refine gW fun Q' hK => ?_
      refine go 1 ?_
      intro K1 t3 u3 L1 w3
      exact hK _ _ (E_ a0 (E_ K1 (A_ e9 (A_ rfl L1))))
    refine WalkT.eff n0 2 ?_ ?_
    ·refine A_ (fun r w0 uw hF hE => ?_) trivial
     obtain ⟨a0, b0, e9, e0, M0⟩ := hF
     replace M0 := M0.ext hE
     dsimp only
     rw [e9]
     refine gW0 fun Q' hK => ?_
     refine go 1 ?_
     intro x3 M1 y3
     exact hK _ (fun _ => (E_ a0 (E_ b0 (A_ e9 (A_ e0 M1)))))
    refine WalkT.eff n0 3 ?_ ?_
    ·refine A_ (fun r w0 uw hF hE => ?_) trivial
     obtain ⟨a0, b0, e9, e0, N0⟩ := hF
     replace N0 := N0.ext hE
     dsimp only
     rw [e0]
     refine gW0 fun Q' hK => ?_
     refine go 1 ?_
     intro z3 N1 A3
     exact hK _ (fun _ => (E_ a0 (E_ b0 (A_ e9 (A_ e0 N1)))))
    refine WalkT.nil fun r w0 B3 hF hE => ?_
    obtain ⟨a0, b0, e9, e0, o0⟩ := hF
    replace o0 := o0.ext hE
    dsimp only
    rw [e9, e0]
    dsimp only [d0, u0] at o0
    refine go 1 ?_
    refine sq ((r_addI rfl rfl om).as (v' := iN ((eS lhash first gs tb ls i).2 + 2)) (by rfl)) ?_
    refine go 1 ?_
    have O1 := (o0.pk 8 [3, 0, 1, 2, 4, 5, 6, 7])
    let i0 : List RW := [(rX b0 E64 ([(tb.getD ((eS lhash first gs tb ls i).2 + 1) lb0).1, (tb.getD ((eS lhash first gs tb ls i).2 + 1) lb0).2]) 83), (rX a0 E64 ([(tb.getD ((eS lhash first gs tb ls i).2) lb0).1, (tb.getD ((eS lhash first gs tb ls i).2) lb0).2]) 83), (rX G0 E64 ([lb.1, lb.2]) 83), (rC q0 #[i64 ((gs.getD i g0).k), i64 ((gs.getD i g0).a), i64 ((gs.getD i g0).b)] 154), (k1, sob ELb 83 ((eS lhash first gs tb ls i).1) z1), (rC b1 #[iN ls.length, .slice ga gs.length gc, x1] 104), (rX f0 E8 (AesSpec.cipher AesSpec.fixKey) 232)]
    let x0 := fun (c0 : Nat) => (((some c0), sob ELb 83 ([lhash la sv, lw (col la) (tb.getD ((eS lhash first gs tb ls i).2) lb0), lhash lb (sv + (1#64)), lw (col lb) (lx (tb.getD ((eS lhash first gs tb ls i).2 + 1) lb0) la)] : List LbT) ([])) : RW)
    let O0 := ((rX h0 E64 ([la.1, la.2]) 83) : RW)
    let y0 := fun (c0 : Nat) => (Sl ELb (some c0) ([lhash la sv, lw (col la) (tb.getD ((eS lhash first gs tb ls i).2) lb0), lhash lb (sv + (1#64)), lw (col lb) (lx (tb.getD ((eS lhash first gs tb ls i).2 + 1) lb0) la)] : List LbT) 4 ([]) : Prop)
    let P1 : Tab := [zt2 false false fun _ _ w' => Hp No w w' (O0 :: i0), zt2 true false fun v19 _ w' => ∃ c0, v19 = sO (some c0) 4 4 ∧ (y0 c0) ∧ Hp No w w' ((x0 c0) :: O0 :: i0), zt2 true true fun v19 _ w' => ∃ c0, v19 = sO (some c0) 4 4 ∧ (y0 c0) ∧ Hp No w w' ((x0 c0) :: (rX h0 E64 ([(lsum ([lhash la sv, lw (col la) (tb.getD ((eS lhash first gs tb ls i).2) lb0), lhash lb (sv + (1#64)), lw (col lb) (lx (tb.getD ((eS lhash first gs tb ls i).2 + 1) lb0) la)] : List LbT)).1, (lsum ([lhash la sv, lw (col la) (tb.getD ((eS lhash first gs tb ls i).2) lb0), lhash lb (sv + (1#64)), lw (col lb) (lx (tb.getD ((eS lhash first gs tb ls i).2 + 1) lb0) la)] : List LbT)).2]) 83) :: i0)]
    refine drawH (m := 22) [0, 0, 0, 7, 0, 31, 0, 127, 0, 0, 0, 1024, 4095, 0, 16383, 0, 0, 131071, 262143, 524287, 1048575, 2097151] [19, 21] i0 P1 mixed (fun _ e => O1.ext e) (A_ (fun _ _ h => h.drop1) (A_ (fun _ _ ⟨_, _, _, h⟩ => h.drop1.drop1) (A_ (fun _ _ ⟨_, _, _, h⟩ => h.drop1.drop1) trivial))) (fun P0 => ?_)
    refine gk 3 ?_
    refine lkW (.agg (cel E64 [(lhash la sv).1, (lhash la sv).2]).toArray) (fun _ uw hcx => Gives.call rfl (Enters.callL call92 rfl) (lhash_ok f0 la sv uw vGa)) ?_
    refine gk 1 ?_
    refine lkW (.bool (col la)) (fun _ uw hcx => Gives.call rfl (Enters.callL call90 rfl) (col_ok la uw)) ?_
    refine gk 1 ?_
    refine lkW (.agg (cel E64 [(lw (col la) (tb.getD ((eS lhash first gs tb ls i).2) lb0)).1, (lw (col la) (tb.getD ((eS lhash first gs tb ls i).2) lb0)).2]).toArray) (fun _ uw hcx => Gives.call rfl (Enters.callL call94 rfl) (lw_ok (col la) (tb.getD ((eS lhash first gs tb ls i).2) lb0) uw)) ?_
    refine gk 4 ?_
    refine lkW (.agg (cel E64 [(lhash lb (sv + (1#64))).1, (lhash lb (sv + (1#64))).2]).toArray) (fun _ uw hcx => Gives.call rfl (Enters.callL call92 rfl) (lhash_ok f0 lb (sv + (1#64)) uw vGa)) ?_
    refine gk 1 ?_
    refine lkW (.bool (col lb)) (fun _ uw hcx => Gives.call rfl (Enters.callL call90 rfl) (col_ok lb uw)) ?_
    refine gk 2 ?_
    refine lkW (.agg (cel E64 [(lx (tb.getD ((eS lhash first gs tb ls i).2 + 1) lb0) la).1, (lx (tb.getD ((eS lhash first gs tb ls i).2 + 1) lb0) la).2]).toArray) (fun _ uw hcx => Gives.call rfl (Enters.callL call28 rfl) (lxor_ok (tb.getD ((eS lhash first gs tb ls i).2 + 1) lb0) la uw)) (lkW (.agg (cel E64 [(lw (col lb) (lx (tb.getD ((eS lhash first gs tb ls i).2 + 1) lb0) la)).1, (lw (col lb) (lx (tb.getD ((eS lhash first gs tb ls i).2 + 1) lb0) la)).2]).toArray) (fun _ uw hcx => Gives.call rfl (Enters.callL call94 rfl) (lw_ok (col lb) (lx (tb.getD ((eS lhash first gs tb ls i).2 + 1) lb0) la) uw)) (WalkT.eff P0 0 ?_ ?_))
    ·refine A_ (fun r w0 uw hF hE => ?_) trivial
     have C3 := hF.ext hE
     exact gW fun Q' hK => (bS (E := ELb) (l := ([lhash la sv, lw (col la) (tb.getD ((eS lhash first gs tb ls i).2) lb0), lhash lb (sv + (1#64)), lw (col lb) (lx (tb.getD ((eS lhash first gs tb ls i).2 + 1) lb0) la)] : List LbT)) fun Q1 D3 R1 S1 E3 => hK _ _ (E_ Q1 (A_ rfl (A_ R1 S1))))
    refine WalkT.lookS (fun _ => .agg (cel E64 [(lsum ([lhash la sv, lw (col la) (tb.getD ((eS lhash first gs tb ls i).2) lb0), lhash lb (sv + (1#64)), lw (col lb) (lx (tb.getD ((eS lhash first gs tb ls i).2 + 1) lb0) la)] : List LbT)).1, (lsum ([lhash la sv, lw (col la) (tb.getD ((eS lhash first gs tb ls i).2) lb0), lhash lb (sv + (1#64)), lw (col lb) (lx (tb.getD ((eS lhash first gs tb ls i).2 + 1) lb0) la)] : List LbT)).2]).toArray) (fun _ _ _ => rfl) ?_ ?_
    ·refine A_ (fun r w0 uw hF hE => ?_) trivial
     obtain ⟨c0, j0, p0, HH⟩ := hF
     replace HH := HH.ext hE
     dsimp only
     rw [j0]
     exact Gives.call rfl (Enters.callL call93 rfl) (lsum_ok ([lhash la sv, lw (col la) (tb.getD ((eS lhash first gs tb ls i).2) lb0), lhash lb (sv + (1#64)), lw (col lb) (lx (tb.getD ((eS lhash first gs tb ls i).2 + 1) lb0) la)] : List LbT) (ownA (some c0)) 4 4 (by rfl) (by simp) uw vRd)
    refine WalkT.eff P0 1 ?_ ?_
    ·refine A_ (fun r w0 uw hF hE => ?_) trivial
     obtain ⟨c0, j0, p0, Q0⟩ := hF
     replace Q0 := Q0.ext hE
     refine gW0 fun Q' hK => ?_
     refine go 1 ?_
     intro F3 T1 G3
     exact hK _ (fun _ => (E_ c0 (A_ j0 (A_ p0 T1))))
    refine WalkT.nil fun r w0 I3 hF hE => ?_
    obtain ⟨c0, j0, p0, A0⟩ := hF
    replace A0 := A0.ext hE
    dsimp only
    rw [j0]
    dsimp only [y0] at p0
    dsimp only [i0, x0] at A0
    refine go 2 ?_
    refine bS (E := ELb) (l := ([lsum ([lhash la sv, lw (col la) (tb.getD ((eS lhash first gs tb ls i).2) lb0), lhash lb (sv + (1#64)), lw (col lb) (lx (tb.getD ((eS lhash first gs tb ls i).2 + 1) lb0) la)] : List LbT)] : List LbT)) fun J3 K3 L3 M3 N3 => ?_
    refine apq ?_
    refine ⟨by rw [eS_len], by rfl, om, ?_⟩
    intro U1 V1 W1 O3 X1 P3 Y1
    have Z1 : ((eS lhash first gs tb ls i).1) ++ ([lsum ([lhash la sv, lw (col la) (tb.getD ((eS lhash first gs tb ls i).2) lb0), lhash lb (sv + (1#64)), lw (col lb) (lx (tb.getD ((eS lhash first gs tb ls i).2 + 1) lb0) la)] : List LbT)] : List LbT) = (eS lhash first gs tb ls (i + 1)).1 := by rw [eS, estep, if_neg l0, if_pos hk, hsv, hla, hlb]; try rfl
    have R0 := X1
    have S0 := Y1
    rw [Z1] at R0 S0
    refine go 3 ?_
    exact ⟨(i + 1, U1, V1, W1, (eS lhash first gs tb ls i).2 + 2), _, rfl, kp, ⟨⟨om, R0, by rw [eS, estep, if_neg l0, if_pos hk]⟩, (((((((S0.dropk 6).dropk 5).dropk 4).dropk 3).dropk 2).dropk 1).dropk 0)⟩, vd⟩
   ·have T0 := s0
    refine go 2 ?_
    refine bS (E := ELb) (l := ([la] : List LbT)) fun Q3 R3 S3 T3 U3 => ?_
    refine apq ?_
    refine ⟨by rw [eS_len], by rfl, om, ?_⟩
    intro c2 d2 e2 V3 f2 W3 g2
    have h2 : ((eS lhash first gs tb ls i).1) ++ ([la] : List LbT) = (eS lhash first gs tb ls (i + 1)).1 := by rw [eS, estep, if_neg l0, if_neg T0, hla]
    have U0 := f2
    have V0 := g2
    rw [h2] at U0 V0
    refine go 3 ?_
    exact ⟨(i + 1, c2, d2, e2, (eS lhash first gs tb ls i).2), _, rfl, kp, ⟨⟨om, U0, by rw [eS, estep, if_neg l0, if_neg T0]⟩, (((V0.dropk 2).dropk 1).dropk 0)⟩, vd⟩
 ·have hie : i = gs.length := by omega
  rw [hie] at HL h1
  rw [hie]
  refine go 2 ?_
  refine cl (outs_ok ((ls.length : Nat) : Int) gs ol ga oa gc oc ((eS lhash first gs tb ls gs.length).1) (ownA k1) (ls.length + gs.length) c1 (by rw [eS_len]) o1 vRd vRd om (fun j hj => by rw [eS_len]; have := hg.ook j hj; omega)) ?_
  rintro _ X3 ⟨⟨i2, j2, k2, rfl, l2, m2⟩, n2⟩
  rw [show (oL (eS lhash first gs tb ls gs.length).1 ol ol.length).length = ol.length from oL_len _ _ _]
  have o2 := HL.add n2 m2
  refine go 2 ?_
  exact ⟨_, rfl, i2, j2, k2, rfl, l2, (((o2.dropk 3).dropk 2).dropk 1)⟩
end Go.Proofs.YtohngnahcgbfmaaGreatDoor.Gb
