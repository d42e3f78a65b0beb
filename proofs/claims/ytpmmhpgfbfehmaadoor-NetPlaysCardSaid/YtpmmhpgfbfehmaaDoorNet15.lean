/- The walks of the nets. -/
import Derived.Test.YtpmmhpgfbfehmaaDoorNet14
import Derived.Test.YtpmmhpgfbfehmaaDoorVcOpenO
namespace Go.Proofs.YtpmmhpgfbfehmaaDoor.Nt
open Go Go.Proofs.YtpmmhpgfbfehmaaDoor.Vc Go.Proofs.YtpmmhpgfbfehmaaDoor.Er
set_option linter.unusedVariables false
theorem call31 : callable Tryd.prog 31 = true := by kernel_rfl
theorem fits69 : Fits Tryd.prog 69 EO := fitsO (by kernel_rfl) (by kernel_rfl)
theorem sli65 : sli Tryd.prog 65 = some (69, 5) := by kernel_rfl
structure PQ (x0 x1 : Wy) (k0 k1 : Option Nat) (c0 c1 : Nat) (s0 s1 : List Value) (m0 m1 : List (List (BitVec 8))) : Prop where
  ok0 : x0.ok
  ok1 : x1.ok
  sl0 : Sl ET k0 m0 c0 s0
  sl1 : Sl ET k1 m1 c1 s1
  e0 : bss x0.fs = m0
  e1 : bss x1.fs = m1
  l0 : m0.length ≤ 64
  l1 : m1.length ≤ 64
  z0 : ∀ q ∈ m0, q.length ≤ 140737488351232
  z1 : ∀ q ∈ m1, q.length ≤ 140737488351232
theorem PS.toQ {w₀ : World} {b : Nat} {x0 x1 : Wy} {k0 k1 : Option Nat} {c0 c1 : Nat} {s0 s1 : List Value} {m0 m1 : List (List (BitVec 8))} {X : List (Option Nat × Obj)} {w : World} (P : PS w₀ b x0 x1 k0 k1 c0 c1 s0 s1 m0 m1 X w) : PQ x0 x1 k0 k1 c0 c1 s0 s1 m0 m1 := ⟨P.ok0, P.ok1, P.sl0, P.sl1, P.e0, P.e1, P.l0, P.l1, P.z0, P.z1⟩
theorem PQ.toS {w₀ : World} {b : Nat} {x0 x1 : Wy} {k0 k1 : Option Nat} {c0 c1 : Nat} {s0 s1 : List Value} {m0 m1 : List (List (BitVec 8))} {X : List (Option Nat × Obj)} {w : World} (P : PQ x0 x1 k0 k1 c0 c1 s0 s1 m0 m1) (h : Hp No w₀ w ((some b, .cells (nv false x0 x1) 76 (0, 0)) :: (x0.key, sob ES 30 (svs x0.fs) x0.sp) :: (x1.key, sob ES 30 (svs x1.fs) x1.sp) :: (frs 5 x0.fs ++ (frs 5 x1.fs ++ ((k0, sob ET 9 m0 s0) :: (k1, sob ET 9 m1 s1) :: X))))) : PS w₀ b x0 x1 k0 k1 c0 c1 s0 s1 m0 m1 X w :=
  ⟨P.ok0, P.ok1, P.sl0, P.sl1, P.e0, P.e1, P.l0, P.l1, P.z0, P.z1, h⟩
theorem PQ0 : PQ wy0 wy0 none none 0 0 [] [] [] [] := ⟨wy0_ok, wy0_ok, Sl.none, Sl.none, rfl, rfl, by simp, by simp, by simp, by simp⟩

theorem netplays_ok (sl : List OpV) (cont : Nat → List (BitVec 8)) (sa : Option Addr) (sc : Nat) (w₀ : World) (hG : Gl w₀) (hSr : Rd EO w₀ sa sl) (hsl : sl.length ≤ 140737488351232) (hop : ∀ i, i < sl.length → (sl.getD i op0).bit ≤ 9223372036854775807 ∧ (sl.getD i op0).fr.n = (cont i).length ∧ Rd E8 w₀ (sl.getD i op0).fr.a (cont i) ∧ (cont i).length ≤ 140737488351232) : Calls Tryd.prog 9 [.slice sa sl.length sc].toArray w₀ (Ret fun v w' => v = .bool true ∧ Ext w₀ w') := by
  have H := Hp.start No w₀
  refine enter (n := 83) Tryd.func9 rfl rfl (Nat.le_of_ble_eq_true rfl) ?_
  refine seqRegion ?_
  refine sq (r_assign (v := .bool (false)) rfl) ?_
  refine wend ?_
  refine seqRegion ?_
  refine c_call (vs := []) call12 rfl (nnew_ok w₀) ?_
  rintro _ w1 ⟨⟨b3, rfl, HN4⟩, hE5⟩
  have H6 := (H.join HN4).as (L' := ((some b3, .cells (nv false wy0 wy0) 76 (0, 0)) :: (wy0.key, sob ES 30 (svs wy0.fs) wy0.sp) :: (wy0.key, sob ES 30 (svs wy0.fs) wy0.sp) :: (frs 5 wy0.fs ++ (frs 5 wy0.fs ++ [])))) rfl
  refine sq (r_assign (v := .pointer (some ⟨b3, 0, none⟩)) rfl) ?_
  refine wend ?_
  refine seqAny ?_
  refine seqRegion ?_
  refine c_call (vs := []) call13 rfl (nawake_ok w1 (Chg.gl H6.chg (fun x => x) hG)) ?_
  rintro _ w7 ⟨rfl, hE8⟩
  have H9 := H6.ext hE8
  refine sq (r_notT rfl) ?_
  refine sq (r_move (v := .bool (false)) rfl) ?_
  refine sqAny (v := .pointer (some ⟨b3, 0, none⟩)) (w' := w7) (wantedSome (d' := 14) (b := false) rfl rfl rfl) (r_move (v := .pointer (some ⟨b3, 0, none⟩)) rfl) ?_
  refine sqAny (v := .bool (false)) (w' := w7) (wantedSome (d' := 14) (b := false) rfl rfl rfl) (r_eqlPN und23 rfl rfl) ?_
  refine sq (r_pickF (v := .bool (false)) rfl rfl) ?_
  refine wend ?_
  refine condFalse rfl ?_
  refine skipAny ?_
  refine thenNormal ?_
  refine seqRegion ?_
  refine sq (r_build (cs' := #[.slice none 0 0, .slice none 0 0]) (ps := []) zer42 pls42 rfl (by rfl)) ?_
  refine q_alloc (o := .cells #[.slice none 0 0, .slice none 0 0] 42 (0, 0)) H9 zer42 (by kernel_rfl) ?_
  intro b10 w11 hb10 H12 hE13
  refine d_store (k := 0) (v := .agg #[.slice none 0 0, .slice none 0 0]) (cs' := #[.slice none 0 0, .slice none 0 0]) H12 rfl rfl rfl siz42 (by rfl) (by intro u hu; simp [Value.cells] at hu; first | (subst hu; rfl) | (rcases hu with rfl | rfl <;> rfl)) (by exact Nat.le_of_ble_eq_true rfl) (by rfl) ?_
  intro w14 H15 hC16
  have H15' := H15.as (L' := ((some b10, .cells #[.slice none 0 0, .slice none 0 0] 42 (0, 0)) :: (some b3, .cells (nv false wy0 wy0) 76 (0, 0)) :: (wy0.key, sob ES 30 (svs wy0.fs) wy0.sp) :: (wy0.key, sob ES 30 (svs wy0.fs) wy0.sp) :: (frs 5 wy0.fs ++ (frs 5 wy0.fs ++ [])))) rfl
  clear H15
  refine wend ?_
  refine seqAny ?_
  refine seqRegion ?_
  refine sq (r_assign (v := i64 ((0 : Int))) rfl) ?_
  refine wend ?_
  refine blockAny ?_
  refine loopAny (σ := Nat × Wy × Wy × (Option Nat) × (Option Nat) × Nat × Nat × (List Value) × (List Value) × (List (List (BitVec 8))) × (List (List (BitVec 8)))) (fun (z, x0, x1, k0, k1, c0, c1, s0, s1, m0, m1) => [(0, .slice sa sl.length sc), (3, .pointer (some ⟨b3, 0, none⟩)), (4, .pointer (some ⟨b10, 0, none⟩)), (5, i64 ((z : Nat)))]) (fun (z, x0, x1, k0, k1, c0, c1, s0, s1, m0, m1) w' => z ≤ sl.length ∧ PQ x0 x1 k0 k1 c0 c1 s0 s1 m0 m1 ∧ Hp No w₀ w' ((k0, sob ET 9 m0 s0) :: (k1, sob ET 9 m1 s1) :: (some b10, .cells #[.slice (ownA k0) m0.length c0, .slice (ownA k1) m1.length c1] 42 (0, 0)) :: (some b3, .cells (nv false x0 x1) 76 (0, 0)) :: (x0.key, sob ES 30 (svs x0.fs) x0.sp) :: (x1.key, sob ES 30 (svs x1.fs) x1.sp) :: (frs 5 x0.fs ++ (frs 5 x1.fs ++ [])))) (fun (z, x0, x1, k0, k1, c0, c1, s0, s1, m0, m1) => sl.length - z) ((0, wy0, wy0, none, none, 0, 0, [], [], [], [])) ?_ ?_ ?_
  · exact ⟨rfl, rfl, rfl, rfl, trivial⟩
  · exact ⟨Nat.zero_le _, PQ0, (H15'.nil (sob ET 9 [] [])).nil (sob ET 9 [] [])⟩
  rintro ⟨z, x0, x1, k0, k1, c0, c1, s0, s1, m0, m1⟩ ρ w17 ⟨hq, P, HL⟩
  refine seqAny ?_
  refine seqRegion ?_
  refine sq (r_move (v := i64 ((z : Nat))) rfl) ?_
  refine sq (r_move (v := .slice sa sl.length sc) rfl) ?_
  refine sq (r_lenS sli65 (a := sa) (m := sl.length) (c := sc) rfl) ?_
  refine sq (r_lssI (a := (z : Nat)) (b := (sl.length : Nat)) rfl rfl) ?_
  refine sq (r_move (v := .bool (decide (((z : Nat) : Int) < (sl.length : Nat)))) rfl) ?_
  by_cases g19 : ((z : Nat) : Int) < (sl.length : Nat)
  · skip
    refine sqAny (v := i64 ((z : Nat))) (w' := w17) (wantedSome (d' := 23) (b := true) rfl rfl (congrArg Value.bool (decide_eq_true g19))) (r_move (v := i64 ((z : Nat))) rfl) ?_
    refine sqAny (v := .bool (decide (((z : Nat) : Int) < (150 : Int)))) (w' := w17) (wantedSome (d' := 23) (b := true) rfl rfl (congrArg Value.bool (decide_eq_true g19))) (r_lssI (a := (z : Nat)) (b := (150 : Int)) rfl rfl) ?_
    refine sq (r_pickT (u := .bool (decide (((z : Nat) : Int) < (150 : Int)))) (congrArg Value.bool (decide_eq_true g19)) rfl) ?_
    refine wend ?_
    refine condProp (((z : Nat) : Int) < (150 : Int)) rfl (fun c26 => ?_) (fun c26 => ?_)
    · skip
      refine skipAny ?_
      refine thenNormal ?_
      refine seqAny ?_
      refine blockAny ?_
      refine seqRegion ?_
      refine sq (r_assign (v := .bool (false)) rfl) ?_
      refine wend ?_
      refine seqAny ?_
      refine drawC (m := 12) [0, 0, 0, 0, 12, 28, 63, 127, 255, 255, 511, 2047] [6, 10] (fun q vs w' => match q, vs with | 0, [] => Hp No w₀ w' ((k0, sob ET 9 m0 s0) :: (k1, sob ET 9 m1 s1) :: (some b10, .cells #[.slice (ownA k0) m0.length c0, .slice (ownA k1) m1.length c1] 42 (0, 0)) :: (some b3, .cells (nv false x0 x1) 76 (0, 0)) :: (x0.key, sob ES 30 (svs x0.fs) x0.sp) :: (x1.key, sob ES 30 (svs x1.fs) x1.sp) :: (frs 5 x0.fs ++ (frs 5 x1.fs ++ []))) | 1, [v0] => ∃ (x0_26 : Wy) (x1_27 : Wy) (k0_28 : Option Nat) (k1_29 : Option Nat) (c0_30 : Nat) (c1_31 : Nat) (s0_32 : List Value) (s1_33 : List Value) (m0_34 : List (List (BitVec 8))) (m1_35 : List (List (BitVec 8))), v0 = .tuple #[.agg #[.slice (ownA k0_28) m0_34.length c0_30, .slice (ownA k1_29) m1_35.length c1_31], .bool (true)] ∧ PQ x0_26 x1_27 k0_28 k1_29 c0_30 c1_31 s0_32 s1_33 m0_34 m1_35 ∧ Hp No w₀ w' ((k0_28, sob ET 9 m0_34 s0_32) :: (k1_29, sob ET 9 m1_35 s1_33) :: (some b10, .cells #[.slice (ownA k0) m0.length c0, .slice (ownA k1) m1.length c1] 42 (0, 0)) :: (some b3, .cells (nv false x0_26 x1_27) 76 (0, 0)) :: (x0_26.key, sob ES 30 (svs x0_26.fs) x0_26.sp) :: (x1_27.key, sob ES 30 (svs x1_27.fs) x1_27.sp) :: (frs 5 x0_26.fs ++ (frs 5 x1_27.fs ++ []))) | 2, [v0, _] => ∃ (x0_26 : Wy) (x1_27 : Wy) (k0_28 : Option Nat) (k1_29 : Option Nat) (c0_30 : Nat) (c1_31 : Nat) (s0_32 : List Value) (s1_33 : List Value) (m0_34 : List (List (BitVec 8))) (m1_35 : List (List (BitVec 8))), v0 = .tuple #[.agg #[.slice (ownA k0_28) m0_34.length c0_30, .slice (ownA k1_29) m1_35.length c1_31], .bool (true)] ∧ True ∧ PQ x0_26 x1_27 k0_28 k1_29 c0_30 c1_31 s0_32 s1_33 m0_34 m1_35 ∧ Hp No w₀ w' ((k0_28, sob ET 9 m0_34 s0_32) :: (k1_29, sob ET 9 m1_35 s1_33) :: (some b10, .cells #[.slice (ownA k0_28) m0_34.length c0_30, .slice (ownA k1_29) m1_35.length c1_31] 42 (0, 0)) :: (some b3, .cells (nv false x0_26 x1_27) 76 (0, 0)) :: (x0_26.key, sob ES 30 (svs x0_26.fs) x0_26.sp) :: (x1_27.key, sob ES 30 (svs x1_27.fs) x1_27.sp) :: (frs 5 x0_26.fs ++ (frs 5 x1_27.fs ++ []))) | _, _ => False) mixed (by kernel_rfl) (by kernel_rfl) HL.drew ?_
      refine WalkC.look rfl (fun _ => .pointer (some ⟨b3, 0, none⟩)) (fun _ _ _ => rfl) (fun q r uw _ _ _ _ => Gives.run rfl (r_move (v := .pointer (some ⟨b3, 0, none⟩)) rfl) ⟨rfl, rfl⟩) ?_
      refine WalkC.look rfl (fun _ => .agg #[.slice (ownA k0) m0.length c0, .slice (ownA k1) m1.length c1]) (fun _ _ _ => rfl) (fun q r uw hlo hhi hle hF => ?_) ?_
      · skip
        have h1 : 0 ≤ q := Nat.zero_le _
        have h2 : q ≤ 0 := hhi 0 6 rfl rfl
        rcases (show q = 0 by omega) with rfl
        · skip
          have HH := hF
          exact Gives.run rfl (r_loadA (cs' := #[.slice (ownA k0) m0.length c0, .slice (ownA k1) m1.length c1]) agg42 siz42 (HH.get (k := 2) rfl) (off := 0) rfl (by exact Nat.le_of_ble_eq_true rfl) (by rfl)) ⟨rfl, rfl⟩
      refine WalkC.look rfl (fun _ => .slice sa sl.length sc) (fun _ _ _ => rfl) (fun q r uw _ _ _ _ => Gives.run rfl (r_move (v := .slice sa sl.length sc) rfl) ⟨rfl, rfl⟩) ?_
      refine WalkC.look rfl (fun _ => i64 ((z : Nat))) (fun _ _ _ => rfl) (fun q r uw _ _ _ _ => Gives.run rfl (r_move (v := i64 ((z : Nat))) rfl) ⟨rfl, rfl⟩) ?_
      refine WalkC.look rfl (fun _ => .pointer (adr sa (z * 5))) (fun _ _ _ => rfl) (fun q r uw hlo hhi hle hF => ?_) ?_
      · skip
        have h1 : 0 ≤ q := Nat.zero_le _
        have h2 : q ≤ 0 := hhi 0 6 rfl rfl
        rcases (show q = 0 by omega) with rfl
        · skip
          have HH := hF
          exact Gives.run rfl (r_idxS (E := EO) (l := sl) (j := z) sli65 (hSr.ext HH.chg) rfl rfl (by first | rfl | omega | (simp; omega)) (by rfl) (by omega)) ⟨rfl, rfl⟩
      refine WalkC.look rfl (fun _ => .agg #[i64 (((sl).getD z op0).kd), i64 (((sl).getD z op0).way), i64 (((sl).getD z op0).i), i64 (((sl).getD z op0).bit), .slice (((sl).getD z op0).fr.a) ((cont z).length) (((sl).getD z op0).fr.c)]) (fun _ _ _ => rfl) (fun q r uw hlo hhi hle hF => ?_) ?_
      · skip
        have h1 : 0 ≤ q := Nat.zero_le _
        have h2 : q ≤ 0 := hhi 0 6 rfl rfl
        rcases (show q = 0 by omega) with rfl
        · skip
          have HH := hF
          exact Gives.run rfl (((r_ldS (E := EO) (l := sl) (j := z) (v := (sl).getD z op0) fits69 (hSr.ext HH.chg) rfl rfl (at_getD (by omega))).as (v' := .agg #[i64 (((sl).getD z op0).kd), i64 (((sl).getD z op0).way), i64 (((sl).getD z op0).i), i64 (((sl).getD z op0).bit), .slice (((sl).getD z op0).fr.a) (((sl).getD z op0).fr.n) (((sl).getD z op0).fr.c)]) rfl).as (v' := .agg #[i64 (((sl).getD z op0).kd), i64 (((sl).getD z op0).way), i64 (((sl).getD z op0).i), i64 (((sl).getD z op0).bit), .slice (((sl).getD z op0).fr.a) ((cont z).length) (((sl).getD z op0).fr.c)]) (by rw [← (hop z (by omega)).2.1])) ⟨rfl, rfl⟩
      refine WalkC.eff 0 rfl (fun r uw20 hF22 => ?_) ?_
      · skip
        have H21 := hF22
        dsimp only [List.take, List.map, List.cons_append, List.nil_append]
        refine Gives.ofW (d := 36) rfl rfl (fun Q' hK => ?_)
        have H23 := Hp.toR [(k0, sob ET 9 m0 s0), (k1, sob ET 9 m1 s1), (some b10, .cells #[.slice (ownA k0) m0.length c0, .slice (ownA k1) m1.length c1] 42 (0, 0))] (F := frs 5 x0.fs) (G := frs 5 x1.fs) (X := []) H21
        refine c_call (vs := [.pointer (some ⟨b3, 0, none⟩), .agg #[.slice (ownA k0) m0.length c0, .slice (ownA k1) m1.length c1], .agg #[i64 (((sl).getD z op0).kd), i64 (((sl).getD z op0).way), i64 (((sl).getD z op0).i), i64 (((sl).getD z op0).bit), .slice (((sl).getD z op0).fr.a) ((cont z).length) (((sl).getD z op0).fr.c)]]) call31 rfl (play_any w₀ b3 x0 x1 k0 k1 c0 c1 s0 s1 m0 m1 [(some b10, .cells #[.slice (ownA k0) m0.length c0, .slice (ownA k1) m1.length c1] 42 (0, 0))] uw20 (P.toS H23) ((sl).getD z op0).fr.a ((sl).getD z op0).fr.c (cont z) (hop z (by omega)).2.2.2 ((sl).getD z op0).kd ((sl).getD z op0).way ((sl).getD z op0).i ((sl).getD z op0).bit (hop z (by omega)).1 hG (hop z (by omega)).2.2.1) ?_
        rintro _ w24 ⟨x0_26, x1_27, k0_28, k1_29, c0_30, c1_31, s0_32, s1_33, m0_34, m1_35, rfl, PN36⟩
        have Pq37 := PN36.toQ
        have H38 := (Hp.fromR [(k0_28, sob ET 9 m0_34 s0_32), (k1_29, sob ET 9 m1_35 s1_33), (some b10, .cells #[.slice (ownA k0) m0.length c0, .slice (ownA k1) m1.length c1] 42 (0, 0))] (F := frs 5 x0_26.fs) (G := frs 5 x1_27.fs) (X := []) PN36.hp).as (L' := ((k0_28, sob ET 9 m0_34 s0_32) :: (k1_29, sob ET 9 m1_35 s1_33) :: (some b10, .cells #[.slice (ownA k0) m0.length c0, .slice (ownA k1) m1.length c1] 42 (0, 0)) :: (some b3, .cells (nv false x0_26 x1_27) 76 (0, 0)) :: (x0_26.key, sob ES 30 (svs x0_26.fs) x0_26.sp) :: (x1_27.key, sob ES 30 (svs x1_27.fs) x1_27.sp) :: (frs 5 x0_26.fs ++ (frs 5 x1_27.fs ++ [])))) rfl
        exact hK _ _ ⟨x0_26, x1_27, k0_28, k1_29, c0_30, c1_31, s0_32, s1_33, m0_34, m1_35, rfl, Pq37, H38⟩
      refine WalkC.look rfl (fun r => r 6) (fun r r' h => h 6 (by decide) rfl) (fun q r uw _ _ _ _ => Gives.run rfl (r_move rfl) ⟨rfl, rfl⟩) ?_
      refine WalkC.look rfl (fun r => proj (r 6) 0) (fun r r' h => by rw [h 6 (by decide) rfl]) (fun q r uw hlo hhi hle hF => ?_) ?_
      · skip
        have h1 : 1 ≤ q := hlo 0 6 rfl rfl
        have h2 : q ≤ 1 := hhi 1 10 rfl rfl
        rcases (show q = 1 by omega) with rfl
        · skip
          obtain ⟨x0_26, x1_27, k0_28, k1_29, c0_30, c1_31, s0_32, s1_33, m0_34, m1_35, e6, Pq37, HH⟩ := hF
          dsimp only
          rw [e6]
          exact Gives.run rfl (r_extract (vs := #[.agg #[.slice (ownA k0_28) m0_34.length c0_30, .slice (ownA k1_29) m1_35.length c1_31], .bool (true)]) rfl rfl) ⟨rfl, rfl⟩
      refine WalkC.look rfl (fun _ => .bool (true)) (fun _ _ _ => rfl) (fun q r uw hlo hhi hle hF => ?_) ?_
      · skip
        have h1 : 1 ≤ q := hlo 0 6 rfl rfl
        have h2 : q ≤ 2 := hle
        rcases (show q = 1 ∨ q = 2 by omega) with rfl | rfl
        · skip
          obtain ⟨x0_26, x1_27, k0_28, k1_29, c0_30, c1_31, s0_32, s1_33, m0_34, m1_35, e6, Pq37, HH⟩ := hF
          dsimp only
          rw [e6]
          exact Gives.run rfl (r_extract (vs := #[.agg #[.slice (ownA k0_28) m0_34.length c0_30, .slice (ownA k1_29) m1_35.length c1_31], .bool (true)]) rfl rfl) ⟨rfl, rfl⟩
        · skip
          obtain ⟨x0_26, x1_27, k0_28, k1_29, c0_30, c1_31, s0_32, s1_33, m0_34, m1_35, e6, e10, Pq37, HH⟩ := hF
          dsimp only
          rw [e6]
          exact Gives.run rfl (r_extract (vs := #[.agg #[.slice (ownA k0_28) m0_34.length c0_30, .slice (ownA k1_29) m1_35.length c1_31], .bool (true)]) rfl rfl) ⟨rfl, rfl⟩
      refine WalkC.eff 1 rfl (fun r uw39 hF41 => ?_) ?_
      · skip
        obtain ⟨x0_26, x1_27, k0_28, k1_29, c0_30, c1_31, s0_32, s1_33, m0_34, m1_35, e6, Pq37, H40⟩ := hF41
        dsimp only [List.take, List.map, List.cons_append, List.nil_append]
        rw [e6]
        refine Gives.ofW0 rfl (fun Q' hK => ?_)
        refine d_store (k := 2) (v := .agg #[.slice (ownA k0_28) m0_34.length c0_30, .slice (ownA k1_29) m1_35.length c1_31]) (cs' := #[.slice (ownA k0_28) m0_34.length c0_30, .slice (ownA k1_29) m1_35.length c1_31]) H40 rfl rfl rfl siz42 (by rfl) (by intro u hu; simp [Value.cells] at hu; first | (subst hu; rfl) | (rcases hu with rfl | rfl <;> rfl)) (by exact Nat.le_of_ble_eq_true rfl) (by rfl) ?_
        intro w42 H43 hC44
        have H43' := H43.as (L' := ((k0_28, sob ET 9 m0_34 s0_32) :: (k1_29, sob ET 9 m1_35 s1_33) :: (some b10, .cells #[.slice (ownA k0_28) m0_34.length c0_30, .slice (ownA k1_29) m1_35.length c1_31] 42 (0, 0)) :: (some b3, .cells (nv false x0_26 x1_27) 76 (0, 0)) :: (x0_26.key, sob ES 30 (svs x0_26.fs) x0_26.sp) :: (x1_27.key, sob ES 30 (svs x1_27.fs) x1_27.sp) :: (frs 5 x0_26.fs ++ (frs 5 x1_27.fs ++ [])))) rfl
        clear H43
        exact hK _ (fun _ => ⟨x0_26, x1_27, k0_28, k1_29, c0_30, c1_31, s0_32, s1_33, m0_34, m1_35, rfl, trivial, Pq37, H43'⟩)
      refine WalkC.look rfl (fun _ => .bool (true)) (fun _ _ _ => rfl) (fun q r uw _ _ _ _ => Gives.run rfl (r_assign (v := .bool (true)) rfl) ⟨rfl, rfl⟩) ?_
      refine WalkC.nil ?_
      intro r45 w46 hF48
      obtain ⟨x0_26, x1_27, k0_28, k1_29, c0_30, c1_31, s0_32, s1_33, m0_34, m1_35, e6, e10, Pq37, H47⟩ := hF48
      dsimp only
      rw [e6]
      refine wnil ?_
      refine thenNormal ?_
      refine seqRegion ?_
      refine sq (r_move (v := .bool (true)) rfl) ?_
      refine sq (r_notT rfl) ?_
      refine wend ?_
      refine condFalse rfl ?_
      refine skipAny ?_
      refine blockNormal ?_
      refine thenNormal ?_
      refine oneRegion ?_
      refine sq (r_move (v := i64 ((z : Nat))) rfl) ?_
      refine sq (r_addI (a := (z : Nat)) (b := (1 : Int)) rfl rfl (by omega)) ?_
      refine sq (r_assign (v := i64 ((z : Nat) + (1 : Int))) rfl) ?_
      refine wnil ?_
      refine thenNormal ?_
      exact ⟨(z + 1, x0_26, x1_27, k0_28, k1_29, c0_30, c1_31, s0_32, s1_33, m0_34, m1_35), _, rfl, ⟨rfl, rfl, rfl, rfl, trivial⟩, ⟨by omega, Pq37, H47⟩, by show sl.length - (z + 1) < sl.length - z; omega⟩
    · skip
      refine exitAny ?_
      refine thenExit ?_
      refine thenExit ?_
      refine blockHere ?_
      refine thenNormal ?_
      refine seqAny ?_
      refine seqRegion ?_
      refine sq (r_move (v := i64 ((0 : Int))) rfl) ?_
      refine wend ?_
      refine blockAny ?_
      refine loopAny (σ := Nat) (fun y => [(3, .pointer (some ⟨b3, 0, none⟩)), (4, .pointer (some ⟨b10, 0, none⟩)), (41, i64 ((y : Nat)))]) (fun y w' => y ≤ 2 ∧ Hp No w₀ w' ((k0, sob ET 9 m0 s0) :: (k1, sob ET 9 m1 s1) :: (some b10, .cells #[.slice (ownA k0) m0.length c0, .slice (ownA k1) m1.length c1] 42 (0, 0)) :: (some b3, .cells (nv false x0 x1) 76 (0, 0)) :: (x0.key, sob ES 30 (svs x0.fs) x0.sp) :: (x1.key, sob ES 30 (svs x1.fs) x1.sp) :: (frs 5 x0.fs ++ (frs 5 x1.fs ++ [])))) (fun y => 2 - y) (0) ?_ ?_ ?_
      · exact ⟨rfl, rfl, rfl, trivial⟩
      · exact ⟨by omega, HL⟩
      rintro y ρ w49 ⟨hy, HL2⟩
      rcases (show y = 0 ∨ y = 1 ∨ y = 2 by omega) with rfl | rfl | rfl
      · skip
        refine seqRegion ?_
        refine sq ((r_lssI (a := (0 : Nat)) (b := (2 : Int)) rfl rfl).as (v' := .bool (true)) (by rfl)) ?_
        refine wend ?_
        refine seqAny ?_
        refine condTrue rfl ?_
        refine skipAny ?_
        refine thenNormal ?_
        refine seqAny ?_
        refine blockAny ?_
        refine seqRegion ?_
        refine sq (r_move (v := i64 ((0 : Nat))) rfl) ?_
        refine sq (r_assign (v := i64 ((0 : Nat))) rfl) ?_
        refine wend ?_
        refine seqRegion ?_
        refine sq (r_move (v := i64 ((0 : Nat))) rfl) ?_
        refine sq (r_fieldAddr (off' := 0) fld42_0 (by decide) (b := b10) (off := 0) rfl (by omega)) ?_
        refine sq (r_indexA (off' := 0) (j := 0) arr40 (b := b10) (off := 0) rfl rfl (by first | rfl | omega | (simp; omega)) (by omega) (by omega)) ?_
        refine sq (r_loadC (v := .slice (ownA k0) m0.length c0) one39 (HL2.get (k := 2) rfl) (off := 0) rfl (by rfl)) ?_
        refine sq (r_lenS sli39 (a := ownA k0) (m := m0.length) (c := c0) rfl) ?_
        refine sq (r_move (v := i64 ((0 : Int))) rfl) ?_
        refine wend ?_
        refine blockAny ?_
        refine loopAny (σ := Nat) (fun j => [(3, .pointer (some ⟨b3, 0, none⟩)), (4, .pointer (some ⟨b10, 0, none⟩)), (7, i64 ((0 : Nat))), (41, i64 ((0 : Nat))), (48, i64 ((m0.length : Nat))), (49, i64 ((j : Nat)))]) (fun j w' => j ≤ m0.length ∧ Hp No w₀ w' ((k0, sob ET 9 m0 s0) :: (k1, sob ET 9 m1 s1) :: (some b10, .cells #[.slice (ownA k0) m0.length c0, .slice (ownA k1) m1.length c1] 42 (0, 0)) :: (some b3, .cells (nv false x0 x1) 76 (0, 0)) :: (x0.key, sob ES 30 (svs x0.fs) x0.sp) :: (x1.key, sob ES 30 (svs x1.fs) x1.sp) :: (frs 5 x0.fs ++ (frs 5 x1.fs ++ [])))) (fun j => m0.length - j) (0) ?_ ?_ ?_
        · exact ⟨rfl, rfl, rfl, rfl, rfl, rfl, trivial⟩
        · exact ⟨Nat.zero_le _, HL2⟩
        rintro j ρ w51 ⟨hj, HL3⟩
        have hlm := P.l0
        refine seqRegion ?_
        refine sq (r_lssI (a := (j : Nat)) (b := (m0.length : Nat)) rfl rfl) ?_
        refine wend ?_
        refine seqAny ?_
        refine condProp (((j : Nat) : Int) < (m0.length : Nat)) rfl (fun c50 => ?_) (fun c50 => ?_)
        · skip
          refine skipAny ?_
          refine thenNormal ?_
          refine seqAny ?_
          refine blockAny ?_
          refine seqRegion ?_
          refine sq (r_move (v := i64 ((j : Nat))) rfl) ?_
          refine sq (r_assign (v := i64 ((j : Nat))) rfl) ?_
          refine wend ?_
          refine seqRegion ?_
          refine sq (r_move (v := .pointer (some ⟨b3, 0, none⟩)) rfl) ?_
          refine sq (r_move (v := i64 ((0 : Nat))) rfl) ?_
          refine sq (r_move (v := i64 ((j : Nat))) rfl) ?_
          have hzj := P.z0 _ (getD_mem (d := []) (show j < m0.length by omega))
          obtain ⟨f53, hf54, hfb55⟩ := bss_at (F := x0.fs) (i := j) (b := m0.getD j []) (by rw [P.e0]; simp [show j < m0.length by omega])
          have fok56 := P.ok0.each _ (List.mem_of_getElem? hf54)
          have hif53 := (List.getElem?_eq_some_iff.1 hf54).1
          refine c_call (vs := [.pointer (some ⟨b3, 0, none⟩), i64 ((0 : Nat)), i64 ((j : Nat))]) call20 rfl (at_hit false b3 x0 x1 w51 j hif53 f53 hf54 (by rw [hfb55]; omega) (HL3.get (k := 3) rfl) (HL3.rd (k := 4) rfl P.ok0.sl) (HL3.rdF (T := 5) fok56 (List.mem_cons_of_mem _ (List.mem_cons_of_mem _ (List.mem_cons_of_mem _ (List.mem_cons_of_mem _ (List.mem_cons_of_mem _ (List.mem_cons_of_mem _ (List.mem_append_left _ (frs_mem hf54)))))))))) ?_
          rintro _ w57 ⟨⟨key59, c60, sp61, rfl, hS62, hk63⟩, hE64⟩
          have H65 := HL3.add hE64 hk63
          refine sq (r_move (v := .tuple #[.slice (ownA key59) f53.bs.length c60, .nilIface]) rfl) ?_
          refine sq (r_extract (vs := #[.slice (ownA key59) f53.bs.length c60, .nilIface]) rfl rfl) ?_
          refine sq (r_extract (vs := #[.slice (ownA key59) f53.bs.length c60, .nilIface]) rfl rfl) ?_
          refine sq (r_assign (v := .slice (ownA key59) f53.bs.length c60) rfl) ?_
          refine sq (r_assign (v := .nilIface) rfl) ?_
          refine wend ?_
          refine seqAny ?_
          refine drawAny (K := [none, none, none, none, none, none, none, none, none, none, none, none, none, none]) [0, 1, 3, 7, 15, 7, 7, 103, 231, 7, 999, 2023, 4095, 8191] (fun w' => Ext w57 w') (fun w' w'' => Ext w' w'') mixed (by kernel_rfl) (Ext.drew _) (fun _ _ h h' => h.trans h') ?_ ?_
          · exact relNone (by decide)
          refine ⟨.nilIface, fun _ uw66 hC67 _ => Gives.run rfl (r_move (v := .nilIface) rfl) ⟨rfl, Chg.refl _ _⟩, ?_⟩
          refine ⟨.bool (false), fun _ uw68 hC69 _ => Gives.run rfl (r_neqNN isI28 rfl rfl) ⟨rfl, Chg.refl _ _⟩, ?_⟩
          refine ⟨.bool (false), fun _ uw70 hC71 _ => Gives.run rfl (r_move (v := .bool (false)) rfl) ⟨rfl, Chg.refl _ _⟩, ?_⟩
          refine ⟨.slice (ownA key59) f53.bs.length c60, fun _ uw72 hC73 _ => Gives.runW (wantedSome (d' := 61) (b := false) rfl rfl rfl) (r_move (v := .slice (ownA key59) f53.bs.length c60) rfl) ⟨rfl, Chg.refl _ _⟩, ?_⟩
          refine ⟨.string (strB f53.bs), fun _ uw74 hC75 _ => Gives.runW (wantedSome (d' := 61) (b := false) rfl rfl rfl) (r_toStr (l := f53.bs) und30 und5 und9 ((H65.ext hC75).rd (k := 0) rfl hS62) rfl (by rfl)) ⟨rfl, Chg.refl _ _⟩, ?_⟩
          refine ⟨i64 ((0 : Nat)), fun _ uw76 hC77 _ => Gives.runW (wantedSome (d' := 61) (b := false) rfl rfl rfl) (r_move (v := i64 ((0 : Nat))) rfl) ⟨rfl, Chg.refl _ _⟩, ?_⟩
          refine ⟨.pointer (some ⟨b10, 0, none⟩), fun _ uw78 hC79 _ => Gives.runW (wantedSome (d' := 61) (b := false) rfl rfl rfl) (r_fieldAddr (off' := 0) fld42_0 (by decide) (b := b10) (off := 0) rfl (by omega)) ⟨rfl, Chg.refl _ _⟩, ?_⟩
          refine ⟨.pointer (some ⟨b10, 0, none⟩), fun _ uw80 hC81 _ => Gives.runW (wantedSome (d' := 61) (b := false) rfl rfl rfl) (r_indexA (off' := 0) (j := 0) arr40 (b := b10) (off := 0) rfl rfl (by first | rfl | omega | (simp; omega)) (by omega) (by omega)) ⟨rfl, Chg.refl _ _⟩, ?_⟩
          refine ⟨.slice (ownA k0) m0.length c0, fun _ uw82 hC83 _ => Gives.runW (wantedSome (d' := 61) (b := false) rfl rfl rfl) (r_loadC (v := .slice (ownA k0) m0.length c0) one39 ((H65.ext hC83).get (k := 3) rfl) (off := 0) rfl (by rfl)) ⟨rfl, Chg.refl _ _⟩, ?_⟩
          refine ⟨i64 ((j : Nat)), fun _ uw84 hC85 _ => Gives.runW (wantedSome (d' := 61) (b := false) rfl rfl rfl) (r_move (v := i64 ((j : Nat))) rfl) ⟨rfl, Chg.refl _ _⟩, ?_⟩
          refine ⟨.pointer (adr (ownA k0) (j * 1)), fun _ uw86 hC87 _ => Gives.runW (wantedSome (d' := 61) (b := false) rfl rfl rfl) (r_idxS (E := ET) (l := m0) (j := j) sli39 ((H65.ext hC87).rd (k := 1) rfl P.sl0) rfl rfl (by first | rfl | omega | (simp; omega)) (by rfl) (by omega)) ⟨rfl, Chg.refl _ _⟩, ?_⟩
          refine ⟨.string (strB ((m0).getD j [])), fun _ uw88 hC89 _ => Gives.runW (wantedSome (d' := 61) (b := false) rfl rfl rfl) (r_ldS (E := ET) (l := m0) (j := j) (v := (m0).getD j []) fits9 ((H65.ext hC89).rd (k := 1) rfl P.sl0) rfl rfl (at_getD (by omega))) ⟨rfl, Chg.refl _ _⟩, ?_⟩
          refine ⟨.bool (false), fun _ uw90 hC91 _ => Gives.runW (wantedSome (d' := 61) (b := false) rfl rfl rfl) ((r_neqStr (s := strB f53.bs) (s' := strB ((m0).getD j [])) rfl rfl).as (v' := .bool (false)) (by rw [hfb55]; simp)) ⟨rfl, Chg.refl _ _⟩, ?_⟩
          refine ⟨.bool (false), fun _ uw92 hC93 _ => Gives.run rfl (r_pickF (v := .bool (false)) rfl rfl) ⟨rfl, Chg.refl _ _⟩, ?_⟩
          intro r97 w94 hE96 hF
          have H95 := H65.ext hE96
          refine wnil ?_
          refine thenNormal ?_
          refine condFalse rfl ?_
          refine skipAny ?_
          refine blockNormal ?_
          refine thenNormal ?_
          refine oneRegion ?_
          refine sq (r_addI (a := (j : Nat)) (b := (1 : Int)) rfl rfl (by omega)) ?_
          refine sq (r_move (v := i64 ((j : Nat) + (1 : Int))) rfl) ?_
          refine wnil ?_
          refine thenNormal ?_
          exact ⟨j + 1, _, rfl, ⟨rfl, rfl, rfl, rfl, rfl, rfl, trivial⟩, ⟨by omega, (H95.dropk 0)⟩, by show m0.length - (j + 1) < m0.length - j; omega⟩
        · skip
          refine exitAny ?_
          refine thenExit ?_
          refine thenExit ?_
          refine blockHere ?_
          refine blockNormal ?_
          refine thenNormal ?_
          refine oneRegion ?_
          refine sq (r_addI (a := (0 : Nat)) (b := (1 : Int)) rfl rfl (by omega)) ?_
          refine sq (r_move (v := i64 ((0 : Nat) + (1 : Int))) rfl) ?_
          refine wnil ?_
          refine thenNormal ?_
          exact ⟨0 + 1, _, rfl, ⟨rfl, rfl, rfl, trivial⟩, ⟨by omega, HL3⟩, by show 2 - (0 + 1) < 2 - 0; omega⟩
      · skip
        refine seqRegion ?_
        refine sq ((r_lssI (a := (1 : Nat)) (b := (2 : Int)) rfl rfl).as (v' := .bool (true)) (by rfl)) ?_
        refine wend ?_
        refine seqAny ?_
        refine condTrue rfl ?_
        refine skipAny ?_
        refine thenNormal ?_
        refine seqAny ?_
        refine blockAny ?_
        refine seqRegion ?_
        refine sq (r_move (v := i64 ((1 : Nat))) rfl) ?_
        refine sq (r_assign (v := i64 ((1 : Nat))) rfl) ?_
        refine wend ?_
        refine seqRegion ?_
        refine sq (r_move (v := i64 ((1 : Nat))) rfl) ?_
        refine sq (r_fieldAddr (off' := 0) fld42_0 (by decide) (b := b10) (off := 0) rfl (by omega)) ?_
        refine sq (r_indexA (off' := 1) (j := 1) arr40 (b := b10) (off := 0) rfl rfl (by first | rfl | omega | (simp; omega)) (by omega) (by omega)) ?_
        refine sq (r_loadC (v := .slice (ownA k1) m1.length c1) one39 (HL2.get (k := 2) rfl) (off := 1) rfl (by rfl)) ?_
        refine sq (r_lenS sli39 (a := ownA k1) (m := m1.length) (c := c1) rfl) ?_
        refine sq (r_move (v := i64 ((0 : Int))) rfl) ?_
        refine wend ?_
        refine blockAny ?_
        refine loopAny (σ := Nat) (fun j => [(3, .pointer (some ⟨b3, 0, none⟩)), (4, .pointer (some ⟨b10, 0, none⟩)), (7, i64 ((1 : Nat))), (41, i64 ((1 : Nat))), (48, i64 ((m1.length : Nat))), (49, i64 ((j : Nat)))]) (fun j w' => j ≤ m1.length ∧ Hp No w₀ w' ((k0, sob ET 9 m0 s0) :: (k1, sob ET 9 m1 s1) :: (some b10, .cells #[.slice (ownA k0) m0.length c0, .slice (ownA k1) m1.length c1] 42 (0, 0)) :: (some b3, .cells (nv false x0 x1) 76 (0, 0)) :: (x0.key, sob ES 30 (svs x0.fs) x0.sp) :: (x1.key, sob ES 30 (svs x1.fs) x1.sp) :: (frs 5 x0.fs ++ (frs 5 x1.fs ++ [])))) (fun j => m1.length - j) (0) ?_ ?_ ?_
        · exact ⟨rfl, rfl, rfl, rfl, rfl, rfl, trivial⟩
        · exact ⟨Nat.zero_le _, HL2⟩
        rintro j ρ w98 ⟨hj, HL3⟩
        have hlm := P.l1
        refine seqRegion ?_
        refine sq (r_lssI (a := (j : Nat)) (b := (m1.length : Nat)) rfl rfl) ?_
        refine wend ?_
        refine seqAny ?_
        refine condProp (((j : Nat) : Int) < (m1.length : Nat)) rfl (fun c50 => ?_) (fun c50 => ?_)
        · skip
          refine skipAny ?_
          refine thenNormal ?_
          refine seqAny ?_
          refine blockAny ?_
          refine seqRegion ?_
          refine sq (r_move (v := i64 ((j : Nat))) rfl) ?_
          refine sq (r_assign (v := i64 ((j : Nat))) rfl) ?_
          refine wend ?_
          refine seqRegion ?_
          refine sq (r_move (v := .pointer (some ⟨b3, 0, none⟩)) rfl) ?_
          refine sq (r_move (v := i64 ((1 : Nat))) rfl) ?_
          refine sq (r_move (v := i64 ((j : Nat))) rfl) ?_
          have H100 := Hp.toR [(k0, sob ET 9 m0 s0), (k1, sob ET 9 m1 s1), (some b10, .cells #[.slice (ownA k0) m0.length c0, .slice (ownA k1) m1.length c1] 42 (0, 0))] (F := frs 5 x0.fs) (G := frs 5 x1.fs) (X := []) HL3
          have H101 := H100.swapWy (F := frs 5 x0.fs) (G := frs 5 x1.fs)
          rw [nv_swap] at H101
          have H102 := (Hp.fromR [(k0, sob ET 9 m0 s0), (k1, sob ET 9 m1 s1), (some b10, .cells #[.slice (ownA k0) m0.length c0, .slice (ownA k1) m1.length c1] 42 (0, 0))] (F := frs 5 x1.fs) (G := frs 5 x0.fs) (X := []) H101).as (L' := ((k0, sob ET 9 m0 s0) :: (k1, sob ET 9 m1 s1) :: (some b10, .cells #[.slice (ownA k0) m0.length c0, .slice (ownA k1) m1.length c1] 42 (0, 0)) :: (some b3, .cells (nv true x1 x0) 76 (0, 0)) :: (x1.key, sob ES 30 (svs x1.fs) x1.sp) :: (x0.key, sob ES 30 (svs x0.fs) x0.sp) :: (frs 5 x1.fs ++ (frs 5 x0.fs ++ [])))) rfl
          have hzj := P.z1 _ (getD_mem (d := []) (show j < m1.length by omega))
          obtain ⟨f103, hf104, hfb105⟩ := bss_at (F := x1.fs) (i := j) (b := m1.getD j []) (by rw [P.e1]; simp [show j < m1.length by omega])
          have fok106 := P.ok1.each _ (List.mem_of_getElem? hf104)
          have hif103 := (List.getElem?_eq_some_iff.1 hf104).1
          refine c_call (vs := [.pointer (some ⟨b3, 0, none⟩), i64 ((1 : Nat)), i64 ((j : Nat))]) call20 rfl (at_hit true b3 x1 x0 w98 j hif103 f103 hf104 (by rw [hfb105]; omega) (H102.get (k := 3) rfl) (H102.rd (k := 4) rfl P.ok1.sl) (H102.rdF (T := 5) fok106 (List.mem_cons_of_mem _ (List.mem_cons_of_mem _ (List.mem_cons_of_mem _ (List.mem_cons_of_mem _ (List.mem_cons_of_mem _ (List.mem_cons_of_mem _ (List.mem_append_left _ (frs_mem hf104)))))))))) ?_
          rintro _ w107 ⟨⟨key109, c110, sp111, rfl, hS112, hk113⟩, hE114⟩
          have H115 := H102.add hE114 hk113
          refine sq (r_move (v := .tuple #[.slice (ownA key109) f103.bs.length c110, .nilIface]) rfl) ?_
          refine sq (r_extract (vs := #[.slice (ownA key109) f103.bs.length c110, .nilIface]) rfl rfl) ?_
          refine sq (r_extract (vs := #[.slice (ownA key109) f103.bs.length c110, .nilIface]) rfl rfl) ?_
          refine sq (r_assign (v := .slice (ownA key109) f103.bs.length c110) rfl) ?_
          refine sq (r_assign (v := .nilIface) rfl) ?_
          have H116 := Hp.toR [(key109, sob E8 5 f103.bs sp111), (k0, sob ET 9 m0 s0), (k1, sob ET 9 m1 s1), (some b10, .cells #[.slice (ownA k0) m0.length c0, .slice (ownA k1) m1.length c1] 42 (0, 0))] (F := frs 5 x1.fs) (G := frs 5 x0.fs) (X := []) H115
          have H117 := H116.swapWy (F := frs 5 x1.fs) (G := frs 5 x0.fs)
          rw [nv_swap] at H117
          have H118 := (Hp.fromR [(key109, sob E8 5 f103.bs sp111), (k0, sob ET 9 m0 s0), (k1, sob ET 9 m1 s1), (some b10, .cells #[.slice (ownA k0) m0.length c0, .slice (ownA k1) m1.length c1] 42 (0, 0))] (F := frs 5 x0.fs) (G := frs 5 x1.fs) (X := []) H117).as (L' := ((key109, sob E8 5 f103.bs sp111) :: (k0, sob ET 9 m0 s0) :: (k1, sob ET 9 m1 s1) :: (some b10, .cells #[.slice (ownA k0) m0.length c0, .slice (ownA k1) m1.length c1] 42 (0, 0)) :: (some b3, .cells (nv false x0 x1) 76 (0, 0)) :: (x0.key, sob ES 30 (svs x0.fs) x0.sp) :: (x1.key, sob ES 30 (svs x1.fs) x1.sp) :: (frs 5 x0.fs ++ (frs 5 x1.fs ++ [])))) rfl
          refine wend ?_
          refine seqAny ?_
          refine drawAny (K := [none, none, none, none, none, none, none, none, none, none, none, none, none, none]) [0, 1, 3, 7, 15, 7, 7, 103, 231, 7, 999, 2023, 4095, 8191] (fun w' => Ext w107 w') (fun w' w'' => Ext w' w'') mixed (by kernel_rfl) (Ext.drew _) (fun _ _ h h' => h.trans h') ?_ ?_
          · exact relNone (by decide)
          refine ⟨.nilIface, fun _ uw119 hC120 _ => Gives.run rfl (r_move (v := .nilIface) rfl) ⟨rfl, Chg.refl _ _⟩, ?_⟩
          refine ⟨.bool (false), fun _ uw121 hC122 _ => Gives.run rfl (r_neqNN isI28 rfl rfl) ⟨rfl, Chg.refl _ _⟩, ?_⟩
          refine ⟨.bool (false), fun _ uw123 hC124 _ => Gives.run rfl (r_move (v := .bool (false)) rfl) ⟨rfl, Chg.refl _ _⟩, ?_⟩
          refine ⟨.slice (ownA key109) f103.bs.length c110, fun _ uw125 hC126 _ => Gives.runW (wantedSome (d' := 61) (b := false) rfl rfl rfl) (r_move (v := .slice (ownA key109) f103.bs.length c110) rfl) ⟨rfl, Chg.refl _ _⟩, ?_⟩
          refine ⟨.string (strB f103.bs), fun _ uw127 hC128 _ => Gives.runW (wantedSome (d' := 61) (b := false) rfl rfl rfl) (r_toStr (l := f103.bs) und30 und5 und9 ((H118.ext hC128).rd (k := 0) rfl hS112) rfl (by rfl)) ⟨rfl, Chg.refl _ _⟩, ?_⟩
          refine ⟨i64 ((1 : Nat)), fun _ uw129 hC130 _ => Gives.runW (wantedSome (d' := 61) (b := false) rfl rfl rfl) (r_move (v := i64 ((1 : Nat))) rfl) ⟨rfl, Chg.refl _ _⟩, ?_⟩
          refine ⟨.pointer (some ⟨b10, 0, none⟩), fun _ uw131 hC132 _ => Gives.runW (wantedSome (d' := 61) (b := false) rfl rfl rfl) (r_fieldAddr (off' := 0) fld42_0 (by decide) (b := b10) (off := 0) rfl (by omega)) ⟨rfl, Chg.refl _ _⟩, ?_⟩
          refine ⟨.pointer (some ⟨b10, 1, none⟩), fun _ uw133 hC134 _ => Gives.runW (wantedSome (d' := 61) (b := false) rfl rfl rfl) (r_indexA (off' := 1) (j := 1) arr40 (b := b10) (off := 0) rfl rfl (by first | rfl | omega | (simp; omega)) (by omega) (by omega)) ⟨rfl, Chg.refl _ _⟩, ?_⟩
          refine ⟨.slice (ownA k1) m1.length c1, fun _ uw135 hC136 _ => Gives.runW (wantedSome (d' := 61) (b := false) rfl rfl rfl) (r_loadC (v := .slice (ownA k1) m1.length c1) one39 ((H118.ext hC136).get (k := 3) rfl) (off := 1) rfl (by rfl)) ⟨rfl, Chg.refl _ _⟩, ?_⟩
          refine ⟨i64 ((j : Nat)), fun _ uw137 hC138 _ => Gives.runW (wantedSome (d' := 61) (b := false) rfl rfl rfl) (r_move (v := i64 ((j : Nat))) rfl) ⟨rfl, Chg.refl _ _⟩, ?_⟩
          refine ⟨.pointer (adr (ownA k1) (j * 1)), fun _ uw139 hC140 _ => Gives.runW (wantedSome (d' := 61) (b := false) rfl rfl rfl) (r_idxS (E := ET) (l := m1) (j := j) sli39 ((H118.ext hC140).rd (k := 2) rfl P.sl1) rfl rfl (by first | rfl | omega | (simp; omega)) (by rfl) (by omega)) ⟨rfl, Chg.refl _ _⟩, ?_⟩
          refine ⟨.string (strB ((m1).getD j [])), fun _ uw141 hC142 _ => Gives.runW (wantedSome (d' := 61) (b := false) rfl rfl rfl) (r_ldS (E := ET) (l := m1) (j := j) (v := (m1).getD j []) fits9 ((H118.ext hC142).rd (k := 2) rfl P.sl1) rfl rfl (at_getD (by omega))) ⟨rfl, Chg.refl _ _⟩, ?_⟩
          refine ⟨.bool (false), fun _ uw143 hC144 _ => Gives.runW (wantedSome (d' := 61) (b := false) rfl rfl rfl) ((r_neqStr (s := strB f103.bs) (s' := strB ((m1).getD j [])) rfl rfl).as (v' := .bool (false)) (by rw [hfb105]; simp)) ⟨rfl, Chg.refl _ _⟩, ?_⟩
          refine ⟨.bool (false), fun _ uw145 hC146 _ => Gives.run rfl (r_pickF (v := .bool (false)) rfl rfl) ⟨rfl, Chg.refl _ _⟩, ?_⟩
          intro r150 w147 hE149 hF
          have H148 := H118.ext hE149
          refine wnil ?_
          refine thenNormal ?_
          refine condFalse rfl ?_
          refine skipAny ?_
          refine blockNormal ?_
          refine thenNormal ?_
          refine oneRegion ?_
          refine sq (r_addI (a := (j : Nat)) (b := (1 : Int)) rfl rfl (by omega)) ?_
          refine sq (r_move (v := i64 ((j : Nat) + (1 : Int))) rfl) ?_
          refine wnil ?_
          refine thenNormal ?_
          exact ⟨j + 1, _, rfl, ⟨rfl, rfl, rfl, rfl, rfl, rfl, trivial⟩, ⟨by omega, (H148.dropk 0)⟩, by show m1.length - (j + 1) < m1.length - j; omega⟩
        · skip
          refine exitAny ?_
          refine thenExit ?_
          refine thenExit ?_
          refine blockHere ?_
          refine blockNormal ?_
          refine thenNormal ?_
          refine oneRegion ?_
          refine sq (r_addI (a := (1 : Nat)) (b := (1 : Int)) rfl rfl (by omega)) ?_
          refine sq (r_move (v := i64 ((1 : Nat) + (1 : Int))) rfl) ?_
          refine wnil ?_
          refine thenNormal ?_
          exact ⟨1 + 1, _, rfl, ⟨rfl, rfl, rfl, trivial⟩, ⟨by omega, HL3⟩, by show 2 - (1 + 1) < 2 - 1; omega⟩
      · skip
        refine seqRegion ?_
        refine sq ((r_lssI (a := (2 : Nat)) (b := (2 : Int)) rfl rfl).as (v' := .bool (false)) (by rfl)) ?_
        refine wend ?_
        refine seqAny ?_
        refine condFalse rfl ?_
        refine exitAny ?_
        refine thenExit ?_
        refine thenExit ?_
        refine blockHere ?_
        refine thenNormal ?_
        refine seqRegion ?_
        refine sq (r_move (v := .pointer (some ⟨b3, 0, none⟩)) rfl) ?_
        refine c_call (vs := [.pointer (some ⟨b3, 0, none⟩), i64 ((-1 : Int))]) call15 rfl (len_x b3 (-1 : Int) (by decide) (by decide) w49) ?_
        rintro _ w151 ⟨rfl, hE152⟩
        have H153 := HL2.ext hE152
        refine sq ((r_eqlI (a := (0 : Int)) (b := (0 : Int)) rfl rfl).as (v' := .bool (true)) (by rfl)) ?_
        refine sq (r_move (v := .bool (true)) rfl) ?_
        refine sqAny (v := .pointer (some ⟨b3, 0, none⟩)) (w' := w151) (wantedSome (d' := 78) (b := true) rfl rfl rfl) (r_move (v := .pointer (some ⟨b3, 0, none⟩)) rfl) ?_
        refine caAny (wantedSome (d' := 78) (b := true) rfl rfl rfl) (Enters.callL (vs := [.pointer (some ⟨b3, 0, none⟩), i64 ((2 : Int))]) call15 rfl) (len_x b3 (2 : Int) (by decide) (by decide) w151) ?_
        rintro _ w154 ⟨rfl, hE155⟩
        have H156 := H153.ext hE155
        refine sqAny (v := .bool (true)) (w' := w154) (wantedSome (d' := 78) (b := true) rfl rfl rfl) ((r_eqlI (a := (0 : Int)) (b := (0 : Int)) rfl rfl).as (v' := .bool (true)) (by rfl)) ?_
        refine sq (r_pickT (u := .bool (true)) rfl rfl) ?_
        refine sq (r_assign (v := .bool (true)) rfl) ?_
        refine wend ?_
        refine retAny ?_
        refine retG (rs := [.tmp 2]) (vs := [.bool (true)]) rfl ⟨⟨rfl, rfl⟩, trivial⟩ ?_
        exact ⟨_, rfl, rfl, H156.chg⟩
  · skip
    refine skAny (wantedSome (d' := 23) (b := false) rfl rfl (congrArg Value.bool (decide_eq_false g19))) ?_
    refine skAny (wantedSome (d' := 23) (b := false) rfl rfl (congrArg Value.bool (decide_eq_false g19))) ?_
    refine sq (r_pickF (v := .bool (false)) (congrArg Value.bool (decide_eq_false g19)) rfl) ?_
    refine wend ?_
    refine condFalse rfl ?_
    refine exitAny ?_
    refine thenExit ?_
    refine thenExit ?_
    refine blockHere ?_
    refine thenNormal ?_
    refine seqAny ?_
    refine seqRegion ?_
    refine sq (r_move (v := i64 ((0 : Int))) rfl) ?_
    refine wend ?_
    refine blockAny ?_
    refine loopAny (σ := Nat) (fun y => [(3, .pointer (some ⟨b3, 0, none⟩)), (4, .pointer (some ⟨b10, 0, none⟩)), (41, i64 ((y : Nat)))]) (fun y w' => y ≤ 2 ∧ Hp No w₀ w' ((k0, sob ET 9 m0 s0) :: (k1, sob ET 9 m1 s1) :: (some b10, .cells #[.slice (ownA k0) m0.length c0, .slice (ownA k1) m1.length c1] 42 (0, 0)) :: (some b3, .cells (nv false x0 x1) 76 (0, 0)) :: (x0.key, sob ES 30 (svs x0.fs) x0.sp) :: (x1.key, sob ES 30 (svs x1.fs) x1.sp) :: (frs 5 x0.fs ++ (frs 5 x1.fs ++ [])))) (fun y => 2 - y) (0) ?_ ?_ ?_
    · exact ⟨rfl, rfl, rfl, trivial⟩
    · exact ⟨by omega, HL⟩
    rintro y ρ w157 ⟨hy, HL2⟩
    rcases (show y = 0 ∨ y = 1 ∨ y = 2 by omega) with rfl | rfl | rfl
    · skip
      refine seqRegion ?_
      refine sq ((r_lssI (a := (0 : Nat)) (b := (2 : Int)) rfl rfl).as (v' := .bool (true)) (by rfl)) ?_
      refine wend ?_
      refine seqAny ?_
      refine condTrue rfl ?_
      refine skipAny ?_
      refine thenNormal ?_
      refine seqAny ?_
      refine blockAny ?_
      refine seqRegion ?_
      refine sq (r_move (v := i64 ((0 : Nat))) rfl) ?_
      refine sq (r_assign (v := i64 ((0 : Nat))) rfl) ?_
      refine wend ?_
      refine seqRegion ?_
      refine sq (r_move (v := i64 ((0 : Nat))) rfl) ?_
      refine sq (r_fieldAddr (off' := 0) fld42_0 (by decide) (b := b10) (off := 0) rfl (by omega)) ?_
      refine sq (r_indexA (off' := 0) (j := 0) arr40 (b := b10) (off := 0) rfl rfl (by first | rfl | omega | (simp; omega)) (by omega) (by omega)) ?_
      refine sq (r_loadC (v := .slice (ownA k0) m0.length c0) one39 (HL2.get (k := 2) rfl) (off := 0) rfl (by rfl)) ?_
      refine sq (r_lenS sli39 (a := ownA k0) (m := m0.length) (c := c0) rfl) ?_
      refine sq (r_move (v := i64 ((0 : Int))) rfl) ?_
      refine wend ?_
      refine blockAny ?_
      refine loopAny (σ := Nat) (fun j => [(3, .pointer (some ⟨b3, 0, none⟩)), (4, .pointer (some ⟨b10, 0, none⟩)), (7, i64 ((0 : Nat))), (41, i64 ((0 : Nat))), (48, i64 ((m0.length : Nat))), (49, i64 ((j : Nat)))]) (fun j w' => j ≤ m0.length ∧ Hp No w₀ w' ((k0, sob ET 9 m0 s0) :: (k1, sob ET 9 m1 s1) :: (some b10, .cells #[.slice (ownA k0) m0.length c0, .slice (ownA k1) m1.length c1] 42 (0, 0)) :: (some b3, .cells (nv false x0 x1) 76 (0, 0)) :: (x0.key, sob ES 30 (svs x0.fs) x0.sp) :: (x1.key, sob ES 30 (svs x1.fs) x1.sp) :: (frs 5 x0.fs ++ (frs 5 x1.fs ++ [])))) (fun j => m0.length - j) (0) ?_ ?_ ?_
      · exact ⟨rfl, rfl, rfl, rfl, rfl, rfl, trivial⟩
      · exact ⟨Nat.zero_le _, HL2⟩
      rintro j ρ w159 ⟨hj, HL3⟩
      have hlm := P.l0
      refine seqRegion ?_
      refine sq (r_lssI (a := (j : Nat)) (b := (m0.length : Nat)) rfl rfl) ?_
      refine wend ?_
      refine seqAny ?_
      refine condProp (((j : Nat) : Int) < (m0.length : Nat)) rfl (fun c50 => ?_) (fun c50 => ?_)
      · skip
        refine skipAny ?_
        refine thenNormal ?_
        refine seqAny ?_
        refine blockAny ?_
        refine seqRegion ?_
        refine sq (r_move (v := i64 ((j : Nat))) rfl) ?_
        refine sq (r_assign (v := i64 ((j : Nat))) rfl) ?_
        refine wend ?_
        refine seqRegion ?_
        refine sq (r_move (v := .pointer (some ⟨b3, 0, none⟩)) rfl) ?_
        refine sq (r_move (v := i64 ((0 : Nat))) rfl) ?_
        refine sq (r_move (v := i64 ((j : Nat))) rfl) ?_
        have hzj := P.z0 _ (getD_mem (d := []) (show j < m0.length by omega))
        obtain ⟨f161, hf162, hfb163⟩ := bss_at (F := x0.fs) (i := j) (b := m0.getD j []) (by rw [P.e0]; simp [show j < m0.length by omega])
        have fok164 := P.ok0.each _ (List.mem_of_getElem? hf162)
        have hif161 := (List.getElem?_eq_some_iff.1 hf162).1
        refine c_call (vs := [.pointer (some ⟨b3, 0, none⟩), i64 ((0 : Nat)), i64 ((j : Nat))]) call20 rfl (at_hit false b3 x0 x1 w159 j hif161 f161 hf162 (by rw [hfb163]; omega) (HL3.get (k := 3) rfl) (HL3.rd (k := 4) rfl P.ok0.sl) (HL3.rdF (T := 5) fok164 (List.mem_cons_of_mem _ (List.mem_cons_of_mem _ (List.mem_cons_of_mem _ (List.mem_cons_of_mem _ (List.mem_cons_of_mem _ (List.mem_cons_of_mem _ (List.mem_append_left _ (frs_mem hf162)))))))))) ?_
        rintro _ w165 ⟨⟨key167, c168, sp169, rfl, hS170, hk171⟩, hE172⟩
        have H173 := HL3.add hE172 hk171
        refine sq (r_move (v := .tuple #[.slice (ownA key167) f161.bs.length c168, .nilIface]) rfl) ?_
        refine sq (r_extract (vs := #[.slice (ownA key167) f161.bs.length c168, .nilIface]) rfl rfl) ?_
        refine sq (r_extract (vs := #[.slice (ownA key167) f161.bs.length c168, .nilIface]) rfl rfl) ?_
        refine sq (r_assign (v := .slice (ownA key167) f161.bs.length c168) rfl) ?_
        refine sq (r_assign (v := .nilIface) rfl) ?_
        refine wend ?_
        refine seqAny ?_
        refine drawAny (K := [none, none, none, none, none, none, none, none, none, none, none, none, none, none]) [0, 1, 3, 7, 15, 7, 7, 103, 231, 7, 999, 2023, 4095, 8191] (fun w' => Ext w165 w') (fun w' w'' => Ext w' w'') mixed (by kernel_rfl) (Ext.drew _) (fun _ _ h h' => h.trans h') ?_ ?_
        · exact relNone (by decide)
        refine ⟨.nilIface, fun _ uw174 hC175 _ => Gives.run rfl (r_move (v := .nilIface) rfl) ⟨rfl, Chg.refl _ _⟩, ?_⟩
        refine ⟨.bool (false), fun _ uw176 hC177 _ => Gives.run rfl (r_neqNN isI28 rfl rfl) ⟨rfl, Chg.refl _ _⟩, ?_⟩
        refine ⟨.bool (false), fun _ uw178 hC179 _ => Gives.run rfl (r_move (v := .bool (false)) rfl) ⟨rfl, Chg.refl _ _⟩, ?_⟩
        refine ⟨.slice (ownA key167) f161.bs.length c168, fun _ uw180 hC181 _ => Gives.runW (wantedSome (d' := 61) (b := false) rfl rfl rfl) (r_move (v := .slice (ownA key167) f161.bs.length c168) rfl) ⟨rfl, Chg.refl _ _⟩, ?_⟩
        refine ⟨.string (strB f161.bs), fun _ uw182 hC183 _ => Gives.runW (wantedSome (d' := 61) (b := false) rfl rfl rfl) (r_toStr (l := f161.bs) und30 und5 und9 ((H173.ext hC183).rd (k := 0) rfl hS170) rfl (by rfl)) ⟨rfl, Chg.refl _ _⟩, ?_⟩
        refine ⟨i64 ((0 : Nat)), fun _ uw184 hC185 _ => Gives.runW (wantedSome (d' := 61) (b := false) rfl rfl rfl) (r_move (v := i64 ((0 : Nat))) rfl) ⟨rfl, Chg.refl _ _⟩, ?_⟩
        refine ⟨.pointer (some ⟨b10, 0, none⟩), fun _ uw186 hC187 _ => Gives.runW (wantedSome (d' := 61) (b := false) rfl rfl rfl) (r_fieldAddr (off' := 0) fld42_0 (by decide) (b := b10) (off := 0) rfl (by omega)) ⟨rfl, Chg.refl _ _⟩, ?_⟩
        refine ⟨.pointer (some ⟨b10, 0, none⟩), fun _ uw188 hC189 _ => Gives.runW (wantedSome (d' := 61) (b := false) rfl rfl rfl) (r_indexA (off' := 0) (j := 0) arr40 (b := b10) (off := 0) rfl rfl (by first | rfl | omega | (simp; omega)) (by omega) (by omega)) ⟨rfl, Chg.refl _ _⟩, ?_⟩
        refine ⟨.slice (ownA k0) m0.length c0, fun _ uw190 hC191 _ => Gives.runW (wantedSome (d' := 61) (b := false) rfl rfl rfl) (r_loadC (v := .slice (ownA k0) m0.length c0) one39 ((H173.ext hC191).get (k := 3) rfl) (off := 0) rfl (by rfl)) ⟨rfl, Chg.refl _ _⟩, ?_⟩
        refine ⟨i64 ((j : Nat)), fun _ uw192 hC193 _ => Gives.runW (wantedSome (d' := 61) (b := false) rfl rfl rfl) (r_move (v := i64 ((j : Nat))) rfl) ⟨rfl, Chg.refl _ _⟩, ?_⟩
        refine ⟨.pointer (adr (ownA k0) (j * 1)), fun _ uw194 hC195 _ => Gives.runW (wantedSome (d' := 61) (b := false) rfl rfl rfl) (r_idxS (E := ET) (l := m0) (j := j) sli39 ((H173.ext hC195).rd (k := 1) rfl P.sl0) rfl rfl (by first | rfl | omega | (simp; omega)) (by rfl) (by omega)) ⟨rfl, Chg.refl _ _⟩, ?_⟩
        refine ⟨.string (strB ((m0).getD j [])), fun _ uw196 hC197 _ => Gives.runW (wantedSome (d' := 61) (b := false) rfl rfl rfl) (r_ldS (E := ET) (l := m0) (j := j) (v := (m0).getD j []) fits9 ((H173.ext hC197).rd (k := 1) rfl P.sl0) rfl rfl (at_getD (by omega))) ⟨rfl, Chg.refl _ _⟩, ?_⟩
        refine ⟨.bool (false), fun _ uw198 hC199 _ => Gives.runW (wantedSome (d' := 61) (b := false) rfl rfl rfl) ((r_neqStr (s := strB f161.bs) (s' := strB ((m0).getD j [])) rfl rfl).as (v' := .bool (false)) (by rw [hfb163]; simp)) ⟨rfl, Chg.refl _ _⟩, ?_⟩
        refine ⟨.bool (false), fun _ uw200 hC201 _ => Gives.run rfl (r_pickF (v := .bool (false)) rfl rfl) ⟨rfl, Chg.refl _ _⟩, ?_⟩
        intro r205 w202 hE204 hF
        have H203 := H173.ext hE204
        refine wnil ?_
        refine thenNormal ?_
        refine condFalse rfl ?_
        refine skipAny ?_
        refine blockNormal ?_
        refine thenNormal ?_
        refine oneRegion ?_
        refine sq (r_addI (a := (j : Nat)) (b := (1 : Int)) rfl rfl (by omega)) ?_
        refine sq (r_move (v := i64 ((j : Nat) + (1 : Int))) rfl) ?_
        refine wnil ?_
        refine thenNormal ?_
        exact ⟨j + 1, _, rfl, ⟨rfl, rfl, rfl, rfl, rfl, rfl, trivial⟩, ⟨by omega, (H203.dropk 0)⟩, by show m0.length - (j + 1) < m0.length - j; omega⟩
      · skip
        refine exitAny ?_
        refine thenExit ?_
        refine thenExit ?_
        refine blockHere ?_
        refine blockNormal ?_
        refine thenNormal ?_
        refine oneRegion ?_
        refine sq (r_addI (a := (0 : Nat)) (b := (1 : Int)) rfl rfl (by omega)) ?_
        refine sq (r_move (v := i64 ((0 : Nat) + (1 : Int))) rfl) ?_
        refine wnil ?_
        refine thenNormal ?_
        exact ⟨0 + 1, _, rfl, ⟨rfl, rfl, rfl, trivial⟩, ⟨by omega, HL3⟩, by show 2 - (0 + 1) < 2 - 0; omega⟩
    · skip
      refine seqRegion ?_
      refine sq ((r_lssI (a := (1 : Nat)) (b := (2 : Int)) rfl rfl).as (v' := .bool (true)) (by rfl)) ?_
      refine wend ?_
      refine seqAny ?_
      refine condTrue rfl ?_
      refine skipAny ?_
      refine thenNormal ?_
      refine seqAny ?_
      refine blockAny ?_
      refine seqRegion ?_
      refine sq (r_move (v := i64 ((1 : Nat))) rfl) ?_
      refine sq (r_assign (v := i64 ((1 : Nat))) rfl) ?_
      refine wend ?_
      refine seqRegion ?_
      refine sq (r_move (v := i64 ((1 : Nat))) rfl) ?_
      refine sq (r_fieldAddr (off' := 0) fld42_0 (by decide) (b := b10) (off := 0) rfl (by omega)) ?_
      refine sq (r_indexA (off' := 1) (j := 1) arr40 (b := b10) (off := 0) rfl rfl (by first | rfl | omega | (simp; omega)) (by omega) (by omega)) ?_
      refine sq (r_loadC (v := .slice (ownA k1) m1.length c1) one39 (HL2.get (k := 2) rfl) (off := 1) rfl (by rfl)) ?_
      refine sq (r_lenS sli39 (a := ownA k1) (m := m1.length) (c := c1) rfl) ?_
      refine sq (r_move (v := i64 ((0 : Int))) rfl) ?_
      refine wend ?_
      refine blockAny ?_
      refine loopAny (σ := Nat) (fun j => [(3, .pointer (some ⟨b3, 0, none⟩)), (4, .pointer (some ⟨b10, 0, none⟩)), (7, i64 ((1 : Nat))), (41, i64 ((1 : Nat))), (48, i64 ((m1.length : Nat))), (49, i64 ((j : Nat)))]) (fun j w' => j ≤ m1.length ∧ Hp No w₀ w' ((k0, sob ET 9 m0 s0) :: (k1, sob ET 9 m1 s1) :: (some b10, .cells #[.slice (ownA k0) m0.length c0, .slice (ownA k1) m1.length c1] 42 (0, 0)) :: (some b3, .cells (nv false x0 x1) 76 (0, 0)) :: (x0.key, sob ES 30 (svs x0.fs) x0.sp) :: (x1.key, sob ES 30 (svs x1.fs) x1.sp) :: (frs 5 x0.fs ++ (frs 5 x1.fs ++ [])))) (fun j => m1.length - j) (0) ?_ ?_ ?_
      · exact ⟨rfl, rfl, rfl, rfl, rfl, rfl, trivial⟩
      · exact ⟨Nat.zero_le _, HL2⟩
      rintro j ρ w206 ⟨hj, HL3⟩
      have hlm := P.l1
      refine seqRegion ?_
      refine sq (r_lssI (a := (j : Nat)) (b := (m1.length : Nat)) rfl rfl) ?_
      refine wend ?_
      refine seqAny ?_
      refine condProp (((j : Nat) : Int) < (m1.length : Nat)) rfl (fun c50 => ?_) (fun c50 => ?_)
      · skip
        refine skipAny ?_
        refine thenNormal ?_
        refine seqAny ?_
        refine blockAny ?_
        refine seqRegion ?_
        refine sq (r_move (v := i64 ((j : Nat))) rfl) ?_
        refine sq (r_assign (v := i64 ((j : Nat))) rfl) ?_
        refine wend ?_
        refine seqRegion ?_
        refine sq (r_move (v := .pointer (some ⟨b3, 0, none⟩)) rfl) ?_
        refine sq (r_move (v := i64 ((1 : Nat))) rfl) ?_
        refine sq (r_move (v := i64 ((j : Nat))) rfl) ?_
        have H208 := Hp.toR [(k0, sob ET 9 m0 s0), (k1, sob ET 9 m1 s1), (some b10, .cells #[.slice (ownA k0) m0.length c0, .slice (ownA k1) m1.length c1] 42 (0, 0))] (F := frs 5 x0.fs) (G := frs 5 x1.fs) (X := []) HL3
        have H209 := H208.swapWy (F := frs 5 x0.fs) (G := frs 5 x1.fs)
        rw [nv_swap] at H209
        have H210 := (Hp.fromR [(k0, sob ET 9 m0 s0), (k1, sob ET 9 m1 s1), (some b10, .cells #[.slice (ownA k0) m0.length c0, .slice (ownA k1) m1.length c1] 42 (0, 0))] (F := frs 5 x1.fs) (G := frs 5 x0.fs) (X := []) H209).as (L' := ((k0, sob ET 9 m0 s0) :: (k1, sob ET 9 m1 s1) :: (some b10, .cells #[.slice (ownA k0) m0.length c0, .slice (ownA k1) m1.length c1] 42 (0, 0)) :: (some b3, .cells (nv true x1 x0) 76 (0, 0)) :: (x1.key, sob ES 30 (svs x1.fs) x1.sp) :: (x0.key, sob ES 30 (svs x0.fs) x0.sp) :: (frs 5 x1.fs ++ (frs 5 x0.fs ++ [])))) rfl
        have hzj := P.z1 _ (getD_mem (d := []) (show j < m1.length by omega))
        obtain ⟨f211, hf212, hfb213⟩ := bss_at (F := x1.fs) (i := j) (b := m1.getD j []) (by rw [P.e1]; simp [show j < m1.length by omega])
        have fok214 := P.ok1.each _ (List.mem_of_getElem? hf212)
        have hif211 := (List.getElem?_eq_some_iff.1 hf212).1
        refine c_call (vs := [.pointer (some ⟨b3, 0, none⟩), i64 ((1 : Nat)), i64 ((j : Nat))]) call20 rfl (at_hit true b3 x1 x0 w206 j hif211 f211 hf212 (by rw [hfb213]; omega) (H210.get (k := 3) rfl) (H210.rd (k := 4) rfl P.ok1.sl) (H210.rdF (T := 5) fok214 (List.mem_cons_of_mem _ (List.mem_cons_of_mem _ (List.mem_cons_of_mem _ (List.mem_cons_of_mem _ (List.mem_cons_of_mem _ (List.mem_cons_of_mem _ (List.mem_append_left _ (frs_mem hf212)))))))))) ?_
        rintro _ w215 ⟨⟨key217, c218, sp219, rfl, hS220, hk221⟩, hE222⟩
        have H223 := H210.add hE222 hk221
        refine sq (r_move (v := .tuple #[.slice (ownA key217) f211.bs.length c218, .nilIface]) rfl) ?_
        refine sq (r_extract (vs := #[.slice (ownA key217) f211.bs.length c218, .nilIface]) rfl rfl) ?_
        refine sq (r_extract (vs := #[.slice (ownA key217) f211.bs.length c218, .nilIface]) rfl rfl) ?_
        refine sq (r_assign (v := .slice (ownA key217) f211.bs.length c218) rfl) ?_
        refine sq (r_assign (v := .nilIface) rfl) ?_
        have H224 := Hp.toR [(key217, sob E8 5 f211.bs sp219), (k0, sob ET 9 m0 s0), (k1, sob ET 9 m1 s1), (some b10, .cells #[.slice (ownA k0) m0.length c0, .slice (ownA k1) m1.length c1] 42 (0, 0))] (F := frs 5 x1.fs) (G := frs 5 x0.fs) (X := []) H223
        have H225 := H224.swapWy (F := frs 5 x1.fs) (G := frs 5 x0.fs)
        rw [nv_swap] at H225
        have H226 := (Hp.fromR [(key217, sob E8 5 f211.bs sp219), (k0, sob ET 9 m0 s0), (k1, sob ET 9 m1 s1), (some b10, .cells #[.slice (ownA k0) m0.length c0, .slice (ownA k1) m1.length c1] 42 (0, 0))] (F := frs 5 x0.fs) (G := frs 5 x1.fs) (X := []) H225).as (L' := ((key217, sob E8 5 f211.bs sp219) :: (k0, sob ET 9 m0 s0) :: (k1, sob ET 9 m1 s1) :: (some b10, .cells #[.slice (ownA k0) m0.length c0, .slice (ownA k1) m1.length c1] 42 (0, 0)) :: (some b3, .cells (nv false x0 x1) 76 (0, 0)) :: (x0.key, sob ES 30 (svs x0.fs) x0.sp) :: (x1.key, sob ES 30 (svs x1.fs) x1.sp) :: (frs 5 x0.fs ++ (frs 5 x1.fs ++ [])))) rfl
        refine wend ?_
        refine seqAny ?_
        refine drawAny (K := [none, none, none, none, none, none, none, none, none, none, none, none, none, none]) [0, 1, 3, 7, 15, 7, 7, 103, 231, 7, 999, 2023, 4095, 8191] (fun w' => Ext w215 w') (fun w' w'' => Ext w' w'') mixed (by kernel_rfl) (Ext.drew _) (fun _ _ h h' => h.trans h') ?_ ?_
        · exact relNone (by decide)
        refine ⟨.nilIface, fun _ uw227 hC228 _ => Gives.run rfl (r_move (v := .nilIface) rfl) ⟨rfl, Chg.refl _ _⟩, ?_⟩
        refine ⟨.bool (false), fun _ uw229 hC230 _ => Gives.run rfl (r_neqNN isI28 rfl rfl) ⟨rfl, Chg.refl _ _⟩, ?_⟩
        refine ⟨.bool (false), fun _ uw231 hC232 _ => Gives.run rfl (r_move (v := .bool (false)) rfl) ⟨rfl, Chg.refl _ _⟩, ?_⟩
        refine ⟨.slice (ownA key217) f211.bs.length c218, fun _ uw233 hC234 _ => Gives.runW (wantedSome (d' := 61) (b := false) rfl rfl rfl) (r_move (v := .slice (ownA key217) f211.bs.length c218) rfl) ⟨rfl, Chg.refl _ _⟩, ?_⟩
        refine ⟨.string (strB f211.bs), fun _ uw235 hC236 _ => Gives.runW (wantedSome (d' := 61) (b := false) rfl rfl rfl) (r_toStr (l := f211.bs) und30 und5 und9 ((H226.ext hC236).rd (k := 0) rfl hS220) rfl (by rfl)) ⟨rfl, Chg.refl _ _⟩, ?_⟩
        refine ⟨i64 ((1 : Nat)), fun _ uw237 hC238 _ => Gives.runW (wantedSome (d' := 61) (b := false) rfl rfl rfl) (r_move (v := i64 ((1 : Nat))) rfl) ⟨rfl, Chg.refl _ _⟩, ?_⟩
        refine ⟨.pointer (some ⟨b10, 0, none⟩), fun _ uw239 hC240 _ => Gives.runW (wantedSome (d' := 61) (b := false) rfl rfl rfl) (r_fieldAddr (off' := 0) fld42_0 (by decide) (b := b10) (off := 0) rfl (by omega)) ⟨rfl, Chg.refl _ _⟩, ?_⟩
        refine ⟨.pointer (some ⟨b10, 1, none⟩), fun _ uw241 hC242 _ => Gives.runW (wantedSome (d' := 61) (b := false) rfl rfl rfl) (r_indexA (off' := 1) (j := 1) arr40 (b := b10) (off := 0) rfl rfl (by first | rfl | omega | (simp; omega)) (by omega) (by omega)) ⟨rfl, Chg.refl _ _⟩, ?_⟩
        refine ⟨.slice (ownA k1) m1.length c1, fun _ uw243 hC244 _ => Gives.runW (wantedSome (d' := 61) (b := false) rfl rfl rfl) (r_loadC (v := .slice (ownA k1) m1.length c1) one39 ((H226.ext hC244).get (k := 3) rfl) (off := 1) rfl (by rfl)) ⟨rfl, Chg.refl _ _⟩, ?_⟩
        refine ⟨i64 ((j : Nat)), fun _ uw245 hC246 _ => Gives.runW (wantedSome (d' := 61) (b := false) rfl rfl rfl) (r_move (v := i64 ((j : Nat))) rfl) ⟨rfl, Chg.refl _ _⟩, ?_⟩
        refine ⟨.pointer (adr (ownA k1) (j * 1)), fun _ uw247 hC248 _ => Gives.runW (wantedSome (d' := 61) (b := false) rfl rfl rfl) (r_idxS (E := ET) (l := m1) (j := j) sli39 ((H226.ext hC248).rd (k := 2) rfl P.sl1) rfl rfl (by first | rfl | omega | (simp; omega)) (by rfl) (by omega)) ⟨rfl, Chg.refl _ _⟩, ?_⟩
        refine ⟨.string (strB ((m1).getD j [])), fun _ uw249 hC250 _ => Gives.runW (wantedSome (d' := 61) (b := false) rfl rfl rfl) (r_ldS (E := ET) (l := m1) (j := j) (v := (m1).getD j []) fits9 ((H226.ext hC250).rd (k := 2) rfl P.sl1) rfl rfl (at_getD (by omega))) ⟨rfl, Chg.refl _ _⟩, ?_⟩
        refine ⟨.bool (false), fun _ uw251 hC252 _ => Gives.runW (wantedSome (d' := 61) (b := false) rfl rfl rfl) ((r_neqStr (s := strB f211.bs) (s' := strB ((m1).getD j [])) rfl rfl).as (v' := .bool (false)) (by rw [hfb213]; simp)) ⟨rfl, Chg.refl _ _⟩, ?_⟩
        refine ⟨.bool (false), fun _ uw253 hC254 _ => Gives.run rfl (r_pickF (v := .bool (false)) rfl rfl) ⟨rfl, Chg.refl _ _⟩, ?_⟩
        intro r258 w255 hE257 hF
        have H256 := H226.ext hE257
        refine wnil ?_
        refine thenNormal ?_
        refine condFalse rfl ?_
        refine skipAny ?_
        refine blockNormal ?_
        refine thenNormal ?_
        refine oneRegion ?_
        refine sq (r_addI (a := (j : Nat)) (b := (1 : Int)) rfl rfl (by omega)) ?_
        refine sq (r_move (v := i64 ((j : Nat) + (1 : Int))) rfl) ?_
        refine wnil ?_
        refine thenNormal ?_
        exact ⟨j + 1, _, rfl, ⟨rfl, rfl, rfl, rfl, rfl, rfl, trivial⟩, ⟨by omega, (H256.dropk 0)⟩, by show m1.length - (j + 1) < m1.length - j; omega⟩
      · skip
        refine exitAny ?_
        refine thenExit ?_
        refine thenExit ?_
        refine blockHere ?_
        refine blockNormal ?_
        refine thenNormal ?_
        refine oneRegion ?_
        refine sq (r_addI (a := (1 : Nat)) (b := (1 : Int)) rfl rfl (by omega)) ?_
        refine sq (r_move (v := i64 ((1 : Nat) + (1 : Int))) rfl) ?_
        refine wnil ?_
        refine thenNormal ?_
        exact ⟨1 + 1, _, rfl, ⟨rfl, rfl, rfl, trivial⟩, ⟨by omega, HL3⟩, by show 2 - (1 + 1) < 2 - 1; omega⟩
    · skip
      refine seqRegion ?_
      refine sq ((r_lssI (a := (2 : Nat)) (b := (2 : Int)) rfl rfl).as (v' := .bool (false)) (by rfl)) ?_
      refine wend ?_
      refine seqAny ?_
      refine condFalse rfl ?_
      refine exitAny ?_
      refine thenExit ?_
      refine thenExit ?_
      refine blockHere ?_
      refine thenNormal ?_
      refine seqRegion ?_
      refine sq (r_move (v := .pointer (some ⟨b3, 0, none⟩)) rfl) ?_
      refine c_call (vs := [.pointer (some ⟨b3, 0, none⟩), i64 ((-1 : Int))]) call15 rfl (len_x b3 (-1 : Int) (by decide) (by decide) w157) ?_
      rintro _ w259 ⟨rfl, hE260⟩
      have H261 := HL2.ext hE260
      refine sq ((r_eqlI (a := (0 : Int)) (b := (0 : Int)) rfl rfl).as (v' := .bool (true)) (by rfl)) ?_
      refine sq (r_move (v := .bool (true)) rfl) ?_
      refine sqAny (v := .pointer (some ⟨b3, 0, none⟩)) (w' := w259) (wantedSome (d' := 78) (b := true) rfl rfl rfl) (r_move (v := .pointer (some ⟨b3, 0, none⟩)) rfl) ?_
      refine caAny (wantedSome (d' := 78) (b := true) rfl rfl rfl) (Enters.callL (vs := [.pointer (some ⟨b3, 0, none⟩), i64 ((2 : Int))]) call15 rfl) (len_x b3 (2 : Int) (by decide) (by decide) w259) ?_
      rintro _ w262 ⟨rfl, hE263⟩
      have H264 := H261.ext hE263
      refine sqAny (v := .bool (true)) (w' := w262) (wantedSome (d' := 78) (b := true) rfl rfl rfl) ((r_eqlI (a := (0 : Int)) (b := (0 : Int)) rfl rfl).as (v' := .bool (true)) (by rfl)) ?_
      refine sq (r_pickT (u := .bool (true)) rfl rfl) ?_
      refine sq (r_assign (v := .bool (true)) rfl) ?_
      refine wend ?_
      refine retAny ?_
      refine retG (rs := [.tmp 2]) (vs := [.bool (true)]) rfl ⟨⟨rfl, rfl⟩, trivial⟩ ?_
      exact ⟨_, rfl, rfl, H264.chg⟩
end Go.Proofs.YtpmmhpgfbfehmaaDoor.Nt
