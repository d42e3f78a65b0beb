/- What the claim has need of: Cm4, Cm5, Cm6, Cm7, Cm8, Cm9. -/
import Derived.Test.YteofdmdpaejgaaaDoorCx2
namespace Go.Proofs.YteofdmdpaejgaaaDoor.Cm
open Go Go.Proofs.YteofdmdpaejgaaaDoor.Vc Go.Proofs.YteofdmdpaejgaaaDoor.Er Go.Proofs.YteofdmdpaejgaaaDoor.Circ
set_option linter.unusedVariables false
set_option maxHeartbeats 1000000 in
theorem mless_ok (b n : Nat) (key : Option Nat) (c : Nat) (sp : List Value) (gs : List Gt) (hSw : Sl EG key gs c sp) (hn : n ≤ 1000) (hlen : gs.length ≤ 3000) (ra rb : List Int) (hra : ra.length = 64) (hrb : rb.length = 64) (R : List (Option Nat × Obj)) (w₀ w : World) (H : Hp No w₀ w ((some b, .cells #[i64 ((n : Nat)), .slice (ownA key) (List.length gs) c, .slice none 0 0] 151 (0, 0)) :: (key, sob EG 99 gs sp) :: R)) : Calls Tryd.prog 77 [.pointer (some ⟨b, 0, none⟩), .agg (cel EI ra).toArray, .agg (cel EI rb).toArray].toArray w (Ret fun v w' => v = i64 (leG n gs ra rb).2 ∧ ∃ (key' : Option Nat) (c' : Nat) (sp' : List Value), Sl EG key' ((leG n gs ra rb).1) c' sp' ∧ Hp No w₀ w' ((some b, .cells #[i64 ((n : Nat)), .slice (ownA key') (List.length ((leG n gs ra rb).1)) c', .slice none 0 0] 151 (0, 0)) :: (key', sob EG 99 ((leG n gs ra rb).1) sp') :: R)) := by
  skip
  refine enter (n := 41) Tryd.func77 rfl rfl (Nat.le_of_ble_eq_true rfl) ?_
  refine seqRegion ?_
  refine q_box (v := .agg (cel EI ra).toArray) (o := .cells (cel EI ra).toArray 153 (0, 0)) H rfl (by rfl) ?_
  intro b1 w2 hb1 H3 hE4
  refine q_box (v := .agg (cel EI rb).toArray) (o := .cells (cel EI rb).toArray 153 (0, 0)) H3 rfl (by rfl) ?_
  intro b5 w6 hb5 H7 hE8
  refine sq (r_assign (v := i64 ((0 : Int))) rfl) ?_
  refine wend ?_
  refine seqAny ?_
  refine drawC (m := 9) [0, 0, 0, 4, 14, 0, 32, 127, 255] [4, 7] (fun q vs w' => match q, vs with | 0, [] => Hp No w₀ w' ((some b5, .cells (cel EI rb).toArray 153 (0, 0)) :: (some b1, .cells (cel EI ra).toArray 153 (0, 0)) :: (some b, .cells #[i64 ((n : Nat)), .slice (ownA key) (List.length gs) c, .slice none 0 0] 151 (0, 0)) :: (key, sob EG 99 gs sp) :: R) | 1, [v0] => ∃ (wx23 : Int) (key15 : Option Nat) (c16 : Nat) (sp17 : List Value), v0 = i64 (wx23) ∧ Sl EG key15 (gs ++ [(⟨(3 : Int), (ra).getD 0 0, (0 : Int)⟩ : Gt)]) c16 sp17 ∧ wx23 = wrW n gs ∧ Hp No w₀ w' ((some b, .cells #[i64 ((n : Nat)), .slice (ownA key15) (List.length (gs ++ [(⟨(3 : Int), (ra).getD 0 0, (0 : Int)⟩ : Gt)])) c16, .slice none 0 0] 151 (0, 0)) :: (key15, sob EG 99 (gs ++ [(⟨(3 : Int), (ra).getD 0 0, (0 : Int)⟩ : Gt)]) sp17) :: (some b5, .cells (cel EI rb).toArray 153 (0, 0)) :: (some b1, .cells (cel EI ra).toArray 153 (0, 0)) :: R) | 2, [v0, v1] => ∃ (wx23 : Int) (wx38 : Int) (key30 : Option Nat) (c31 : Nat) (sp32 : List Value), v0 = i64 (wx23) ∧ v1 = i64 (wx38) ∧ Sl EG key30 (gs ++ [(⟨(3 : Int), (ra).getD 0 0, (0 : Int)⟩ : Gt)] ++ [(⟨(2 : Int), wx23, (rb).getD 0 0⟩ : Gt)]) c31 sp32 ∧ wx23 = wrW n gs ∧ wx38 = wrW n (gs ++ [(⟨(3 : Int), (ra).getD 0 0, (0 : Int)⟩ : Gt)]) ∧ Hp No w₀ w' ((some b, .cells #[i64 ((n : Nat)), .slice (ownA key30) (List.length (gs ++ [(⟨(3 : Int), (ra).getD 0 0, (0 : Int)⟩ : Gt)] ++ [(⟨(2 : Int), wx23, (rb).getD 0 0⟩ : Gt)])) c31, .slice none 0 0] 151 (0, 0)) :: (key30, sob EG 99 (gs ++ [(⟨(3 : Int), (ra).getD 0 0, (0 : Int)⟩ : Gt)] ++ [(⟨(2 : Int), wx23, (rb).getD 0 0⟩ : Gt)]) sp32) :: (some b5, .cells (cel EI rb).toArray 153 (0, 0)) :: (some b1, .cells (cel EI ra).toArray 153 (0, 0)) :: R) | _, _ => False) mixed (by kernel_rfl) (by kernel_rfl) H7.drew ?_
  refine WalkC.look rfl (fun _ => .pointer (some ⟨b, 0, none⟩)) (fun _ _ _ => rfl) (fun q r uw _ _ _ _ => Gives.run rfl (r_move (v := .pointer (some ⟨b, 0, none⟩)) rfl) ⟨rfl, rfl⟩) ?_
  refine WalkC.look rfl (fun _ => .pointer (some ⟨b, 0, none⟩)) (fun _ _ _ => rfl) (fun q r uw _ _ _ _ => Gives.run rfl (r_move (v := .pointer (some ⟨b, 0, none⟩)) rfl) ⟨rfl, rfl⟩) ?_
  refine WalkC.look rfl (fun _ => .pointer (some ⟨b1, 0, none⟩)) (fun _ _ _ => rfl) (fun q r uw _ _ _ _ => Gives.run rfl (r_indexA (off' := 0) (j := 0) arr153 (b := b1) (off := 0) rfl rfl (by first | rfl | omega | (simp; omega)) (by omega) (by omega)) ⟨rfl, rfl⟩) ?_
  refine WalkC.look rfl (fun _ => i64 ((ra).getD 0 0)) (fun _ _ _ => rfl) (fun q r uw hlo hhi hle hF => ?_) ?_
  · skip
    have h1 : 0 ≤ q := Nat.zero_le _
    have h2 : q ≤ 0 := hhi 0 4 rfl rfl
    rcases (show q = 0 by omega) with rfl
    · skip
      have HH := hF
      exact Gives.run rfl (r_ld1 (E := EI) (l := ra) (j := 0) (a := (ra).getD 0 0) fits3 (HH.get (k := 1) rfl) (at_getD (by first | omega | (simp only [List.length_set]; omega) | exact Nat.le_of_ble_eq_true rfl | (simp <;> omega))) rfl rfl) ⟨rfl, rfl⟩
  refine WalkC.eff 0 rfl (fun r uw9 hF11 => ?_) ?_
  · skip
    have H10 := hF11
    dsimp only [List.take, List.map, List.cons_append, List.nil_append]
    refine Gives.ofW (d := 13) rfl rfl (fun Q' hK => ?_)
    have H12 := ((H10.pick 4 [2, 3, 0, 1] (by decide) (by decide))).as (L' := ((some b, .cells #[i64 ((n : Nat)), .slice (ownA key) (List.length gs) c, .slice none 0 0] 151 (0, 0)) :: (key, sob EG 99 gs sp) :: ((some b5, .cells (cel EI rb).toArray 153 (0, 0)) :: (some b1, .cells (cel EI ra).toArray 153 (0, 0)) :: R))) rfl
    refine c_call (vs := [.pointer (some ⟨b, 0, none⟩), i64 ((3 : Int)), i64 ((ra).getD 0 0), i64 ((0 : Int))]) call76 rfl (gate_ok b n key c sp gs hSw hn (by omega) (3 : Int) ((ra).getD 0 0) (0 : Int) ((some b5, .cells (cel EI rb).toArray 153 (0, 0)) :: (some b1, .cells (cel EI ra).toArray 153 (0, 0)) :: R) w₀ uw9 H12) ?_
    rintro wv21 w13 ⟨hwv22, key15, c16, sp17, hS18, HN19⟩
    obtain ⟨wx23, hwx23⟩ : ∃ q, q = wrW n gs := ⟨_, rfl⟩
    rw [← hwx23] at hwv22
    subst hwv22
    have H20 := HN19.as (L' := ((some b, .cells #[i64 ((n : Nat)), .slice (ownA key15) (List.length (gs ++ [(⟨(3 : Int), (ra).getD 0 0, (0 : Int)⟩ : Gt)])) c16, .slice none 0 0] 151 (0, 0)) :: (key15, sob EG 99 (gs ++ [(⟨(3 : Int), (ra).getD 0 0, (0 : Int)⟩ : Gt)]) sp17) :: (some b5, .cells (cel EI rb).toArray 153 (0, 0)) :: (some b1, .cells (cel EI ra).toArray 153 (0, 0)) :: R)) rfl
    exact hK _ _ ⟨wx23, key15, c16, sp17, rfl, hS18, hwx23, H20⟩
  refine WalkC.look rfl (fun _ => .pointer (some ⟨b5, 0, none⟩)) (fun _ _ _ => rfl) (fun q r uw _ _ _ _ => Gives.run rfl (r_indexA (off' := 0) (j := 0) arr153 (b := b5) (off := 0) rfl rfl (by first | rfl | omega | (simp; omega)) (by omega) (by omega)) ⟨rfl, rfl⟩) ?_
  refine WalkC.look rfl (fun _ => i64 ((rb).getD 0 0)) (fun _ _ _ => rfl) (fun q r uw hlo hhi hle hF => ?_) ?_
  · skip
    have h1 : 0 ≤ q := Nat.zero_le _
    have h2 : q ≤ 1 := hhi 1 7 rfl rfl
    rcases (show q = 0 ∨ q = 1 by omega) with rfl | rfl
    · skip
      have HH := hF
      exact Gives.run rfl (r_ld1 (E := EI) (l := rb) (j := 0) (a := (rb).getD 0 0) fits3 (HH.get (k := 0) rfl) (at_getD (by first | omega | (simp only [List.length_set]; omega) | exact Nat.le_of_ble_eq_true rfl | (simp <;> omega))) rfl rfl) ⟨rfl, rfl⟩
    · skip
      obtain ⟨wx23, key15, c16, sp17, e4, hS18, hwx23, HH⟩ := hF
      exact Gives.run rfl (r_ld1 (E := EI) (l := rb) (j := 0) (a := (rb).getD 0 0) fits3 (HH.get (k := 2) rfl) (at_getD (by first | omega | (simp only [List.length_set]; omega) | exact Nat.le_of_ble_eq_true rfl | (simp <;> omega))) rfl rfl) ⟨rfl, rfl⟩
  refine WalkC.eff 1 rfl (fun r uw24 hF26 => ?_) ?_
  · skip
    obtain ⟨wx23, key15, c16, sp17, e4, hS18, hwx23, H25⟩ := hF26
    dsimp only [List.take, List.map, List.cons_append, List.nil_append]
    rw [e4]
    refine Gives.ofW (d := 16) rfl rfl (fun Q' hK => ?_)
    have H27 := (H25).as (L' := ((some b, .cells #[i64 ((n : Nat)), .slice (ownA key15) (List.length (gs ++ [(⟨(3 : Int), (ra).getD 0 0, (0 : Int)⟩ : Gt)])) c16, .slice none 0 0] 151 (0, 0)) :: (key15, sob EG 99 (gs ++ [(⟨(3 : Int), (ra).getD 0 0, (0 : Int)⟩ : Gt)]) sp17) :: ((some b5, .cells (cel EI rb).toArray 153 (0, 0)) :: (some b1, .cells (cel EI ra).toArray 153 (0, 0)) :: R))) rfl
    refine c_call (vs := [.pointer (some ⟨b, 0, none⟩), i64 ((2 : Int)), i64 (wx23), i64 ((rb).getD 0 0)]) call76 rfl (gate_ok b n key15 c16 sp17 (gs ++ [(⟨(3 : Int), (ra).getD 0 0, (0 : Int)⟩ : Gt)]) hS18 hn (by simp only [List.length_append, List.length_cons, List.length_nil]; omega) (2 : Int) wx23 ((rb).getD 0 0) ((some b5, .cells (cel EI rb).toArray 153 (0, 0)) :: (some b1, .cells (cel EI ra).toArray 153 (0, 0)) :: R) w₀ uw24 H27) ?_
    rintro wv36 w28 ⟨hwv37, key30, c31, sp32, hS33, HN34⟩
    obtain ⟨wx38, hwx38⟩ : ∃ q, q = wrW n (gs ++ [(⟨(3 : Int), (ra).getD 0 0, (0 : Int)⟩ : Gt)]) := ⟨_, rfl⟩
    rw [← hwx38] at hwv37
    subst hwv37
    have H35 := HN34.as (L' := ((some b, .cells #[i64 ((n : Nat)), .slice (ownA key30) (List.length (gs ++ [(⟨(3 : Int), (ra).getD 0 0, (0 : Int)⟩ : Gt)] ++ [(⟨(2 : Int), wx23, (rb).getD 0 0⟩ : Gt)])) c31, .slice none 0 0] 151 (0, 0)) :: (key30, sob EG 99 (gs ++ [(⟨(3 : Int), (ra).getD 0 0, (0 : Int)⟩ : Gt)] ++ [(⟨(2 : Int), wx23, (rb).getD 0 0⟩ : Gt)]) sp32) :: (some b5, .cells (cel EI rb).toArray 153 (0, 0)) :: (some b1, .cells (cel EI ra).toArray 153 (0, 0)) :: R)) rfl
    exact hK _ _ ⟨wx23, wx38, key30, c31, sp32, rfl, rfl, hS33, hwx23, hwx38, H35⟩
  refine WalkC.look rfl (fun r => r 7) (fun r r' h => h 7 (by decide) rfl) (fun q r uw _ _ _ _ => Gives.run rfl (r_assign rfl) ⟨rfl, rfl⟩) ?_
  refine WalkC.nil ?_
  intro r39 w40 hF42
  obtain ⟨wx23, wx38, key30, c31, sp32, e4, e7, hS33, hwx23, hwx38, H41⟩ := hF42
  dsimp only
  rw [e4, e7]
  subst hwx38
  subst hwx23
  have e43 : gs ++ [(⟨(3 : Int), (ra).getD 0 0, (0 : Int)⟩ : Gt)] ++ [(⟨(2 : Int), (wrW n gs), (rb).getD 0 0⟩ : Gt)] = (leS n gs ra rb 0).1 := by rfl
  have hS44 := hS33
  rw [e43] at hS44
  have H45 : Hp No w₀ w40 ((some b, .cells #[i64 ((n : Nat)), .slice (ownA key30) (List.length ((leS n gs ra rb 0).1)) c31, .slice none 0 0] 151 (0, 0)) :: (key30, sob EG 99 ((leS n gs ra rb 0).1) sp32) :: (some b5, .cells (cel EI rb).toArray 153 (0, 0)) :: (some b1, .cells (cel EI ra).toArray 153 (0, 0)) :: R) := by rw [← e43]; exact H41
  refine wnil ?_
  refine thenNormal ?_
  refine seqAny ?_
  refine seqRegion ?_
  refine sq (r_assign (v := i64 ((1 : Int))) rfl) ?_
  refine wend ?_
  refine blockAny ?_
  refine loopAny (σ := Nat × Option Nat × Nat × List Value) (fun (i, kz, cz, sz) => [(0, .pointer (some ⟨b, 0, none⟩)), (4, .pointer (some ⟨b1, 0, none⟩)), (5, .pointer (some ⟨b5, 0, none⟩)), (7, i64 ((leS n gs ra rb i).2)), (8, i64 (((i + 1) : Nat)))]) (fun (i, kz, cz, sz) w' => (i ≤ 62 ∧ Sl EG kz (leS n gs ra rb i).1 cz sz) ∧ Hp No w₀ w' ((some b, .cells #[i64 ((n : Nat)), .slice (ownA kz) (List.length ((leS n gs ra rb i).1)) cz, .slice none 0 0] 151 (0, 0)) :: (kz, sob EG 99 ((leS n gs ra rb i).1) sz) :: (some b1, .cells (cel EI ra).toArray 153 (0, 0)) :: (some b5, .cells (cel EI rb).toArray 153 (0, 0)) :: R)) (fun (i, kz, cz, sz) => 62 - i) ((0, key30, c31, sp32)) ?_ ?_ ?_
  · exact ⟨rfl, rfl, rfl, rfl, rfl, trivial⟩
  · exact ⟨⟨by omega, hS44⟩, (H45.pick 4 [0, 1, 3, 2] (by decide) (by decide))⟩
  rintro ⟨i, kz, cz, sz⟩ ρ w46 ⟨⟨hq, hSz⟩, HL⟩
  have hll := leS_len n gs ra rb i
  refine seqAny ?_
  refine seqRegion ?_
  refine sq (r_move (v := i64 (((i + 1) : Nat))) rfl) ?_
  refine sq (r_lssI (a := ((i + 1) : Nat)) (b := (63 : Int)) rfl rfl) ?_
  refine wend ?_
  refine condProp ((((i + 1) : Nat) : Int) < (63 : Int)) rfl (fun c18 => ?_) (fun c18 => ?_)
  · skip
    refine skipAny ?_
    refine thenNormal ?_
    refine seqAny ?_
    refine blockAny ?_
    refine drawC (m := 12) [0, 0, 0, 4, 12, 30, 0, 64, 192, 0, 1023, 2047] [5, 10] (fun q vs w' => match q, vs with | 0, [] => Hp No w₀ w' ((some b, .cells #[i64 ((n : Nat)), .slice (ownA kz) (List.length ((leS n gs ra rb i).1)) cz, .slice none 0 0] 151 (0, 0)) :: (kz, sob EG 99 ((leS n gs ra rb i).1) sz) :: (some b1, .cells (cel EI ra).toArray 153 (0, 0)) :: (some b5, .cells (cel EI rb).toArray 153 (0, 0)) :: R) | 1, [v0] => ∃ (wx62 : Int) (key54 : Option Nat) (c55 : Nat) (sp56 : List Value), v0 = i64 (wx62) ∧ Sl EG key54 (((leS n gs ra rb i).1) ++ [(⟨(3 : Int), (ra).getD (i + 1) 0, (0 : Int)⟩ : Gt)]) c55 sp56 ∧ wx62 = wrW n ((leS n gs ra rb i).1) ∧ Hp No w₀ w' ((some b, .cells #[i64 ((n : Nat)), .slice (ownA key54) (List.length (((leS n gs ra rb i).1) ++ [(⟨(3 : Int), (ra).getD (i + 1) 0, (0 : Int)⟩ : Gt)])) c55, .slice none 0 0] 151 (0, 0)) :: (key54, sob EG 99 (((leS n gs ra rb i).1) ++ [(⟨(3 : Int), (ra).getD (i + 1) 0, (0 : Int)⟩ : Gt)]) sp56) :: (some b1, .cells (cel EI ra).toArray 153 (0, 0)) :: (some b5, .cells (cel EI rb).toArray 153 (0, 0)) :: R) | 2, [v0, v1] => ∃ (wx62 : Int) (wx77 : Int) (key69 : Option Nat) (c70 : Nat) (sp71 : List Value), v0 = i64 (wx62) ∧ v1 = i64 (wx77) ∧ Sl EG key69 (caG n (((leS n gs ra rb i).1) ++ [(⟨(3 : Int), (ra).getD (i + 1) 0, (0 : Int)⟩ : Gt)]) wx62 ((rb).getD (i + 1) 0) ((leS n gs ra rb i).2)) c70 sp71 ∧ wx62 = wrW n ((leS n gs ra rb i).1) ∧ wx77 = caW n (((leS n gs ra rb i).1) ++ [(⟨(3 : Int), (ra).getD (i + 1) 0, (0 : Int)⟩ : Gt)]) ∧ Hp No w₀ w' ((some b, .cells #[i64 ((n : Nat)), .slice (ownA key69) (List.length (caG n (((leS n gs ra rb i).1) ++ [(⟨(3 : Int), (ra).getD (i + 1) 0, (0 : Int)⟩ : Gt)]) wx62 ((rb).getD (i + 1) 0) ((leS n gs ra rb i).2))) c70, .slice none 0 0] 151 (0, 0)) :: (key69, sob EG 99 (caG n (((leS n gs ra rb i).1) ++ [(⟨(3 : Int), (ra).getD (i + 1) 0, (0 : Int)⟩ : Gt)]) wx62 ((rb).getD (i + 1) 0) ((leS n gs ra rb i).2)) sp71) :: (some b1, .cells (cel EI ra).toArray 153 (0, 0)) :: (some b5, .cells (cel EI rb).toArray 153 (0, 0)) :: R) | _, _ => False) mixed (by kernel_rfl) (by kernel_rfl) HL.drew ?_
    refine WalkC.look rfl (fun _ => .pointer (some ⟨b, 0, none⟩)) (fun _ _ _ => rfl) (fun q r uw _ _ _ _ => Gives.run rfl (r_move (v := .pointer (some ⟨b, 0, none⟩)) rfl) ⟨rfl, rfl⟩) ?_
    refine WalkC.look rfl (fun _ => .pointer (some ⟨b, 0, none⟩)) (fun _ _ _ => rfl) (fun q r uw _ _ _ _ => Gives.run rfl (r_move (v := .pointer (some ⟨b, 0, none⟩)) rfl) ⟨rfl, rfl⟩) ?_
    refine WalkC.look rfl (fun _ => i64 (((i + 1) : Nat))) (fun _ _ _ => rfl) (fun q r uw _ _ _ _ => Gives.run rfl (r_move (v := i64 (((i + 1) : Nat))) rfl) ⟨rfl, rfl⟩) ?_
    refine WalkC.look rfl (fun _ => .pointer (some ⟨b1, (i + 1), none⟩)) (fun _ _ _ => rfl) (fun q r uw _ _ _ _ => Gives.run rfl (r_indexA (off' := (i + 1)) (j := (i + 1)) arr153 (b := b1) (off := 0) rfl rfl (by first | rfl | omega | (simp; omega)) (by omega) (by omega)) ⟨rfl, rfl⟩) ?_
    refine WalkC.look rfl (fun _ => i64 ((ra).getD (i + 1) 0)) (fun _ _ _ => rfl) (fun q r uw hlo hhi hle hF => ?_) ?_
    · skip
      have h1 : 0 ≤ q := Nat.zero_le _
      have h2 : q ≤ 0 := hhi 0 5 rfl rfl
      rcases (show q = 0 by omega) with rfl
      · skip
        have HH := hF
        exact Gives.run rfl (r_ld1 (E := EI) (l := ra) (j := (i + 1)) (a := (ra).getD (i + 1) 0) fits3 (HH.get (k := 2) rfl) (at_getD (by first | omega | (simp only [List.length_set]; omega) | exact Nat.le_of_ble_eq_true rfl | (simp <;> omega))) rfl rfl) ⟨rfl, rfl⟩
    refine WalkC.eff 0 rfl (fun r uw48 hF50 => ?_) ?_
    · skip
      have H49 := hF50
      dsimp only [List.take, List.map, List.cons_append, List.nil_append]
      refine Gives.ofW (d := 26) rfl rfl (fun Q' hK => ?_)
      have H51 := (H49).as (L' := ((some b, .cells #[i64 ((n : Nat)), .slice (ownA kz) (List.length ((leS n gs ra rb i).1)) cz, .slice none 0 0] 151 (0, 0)) :: (kz, sob EG 99 ((leS n gs ra rb i).1) sz) :: ((some b1, .cells (cel EI ra).toArray 153 (0, 0)) :: (some b5, .cells (cel EI rb).toArray 153 (0, 0)) :: R))) rfl
      refine c_call (vs := [.pointer (some ⟨b, 0, none⟩), i64 ((3 : Int)), i64 ((ra).getD (i + 1) 0), i64 ((0 : Int))]) call76 rfl (gate_ok b n kz cz sz ((leS n gs ra rb i).1) hSz hn (by omega) (3 : Int) ((ra).getD (i + 1) 0) (0 : Int) ((some b1, .cells (cel EI ra).toArray 153 (0, 0)) :: (some b5, .cells (cel EI rb).toArray 153 (0, 0)) :: R) w₀ uw48 H51) ?_
      rintro wv60 w52 ⟨hwv61, key54, c55, sp56, hS57, HN58⟩
      obtain ⟨wx62, hwx62⟩ : ∃ q, q = wrW n ((leS n gs ra rb i).1) := ⟨_, rfl⟩
      rw [← hwx62] at hwv61
      subst hwv61
      have H59 := HN58.as (L' := ((some b, .cells #[i64 ((n : Nat)), .slice (ownA key54) (List.length (((leS n gs ra rb i).1) ++ [(⟨(3 : Int), (ra).getD (i + 1) 0, (0 : Int)⟩ : Gt)])) c55, .slice none 0 0] 151 (0, 0)) :: (key54, sob EG 99 (((leS n gs ra rb i).1) ++ [(⟨(3 : Int), (ra).getD (i + 1) 0, (0 : Int)⟩ : Gt)]) sp56) :: (some b1, .cells (cel EI ra).toArray 153 (0, 0)) :: (some b5, .cells (cel EI rb).toArray 153 (0, 0)) :: R)) rfl
      exact hK _ _ ⟨wx62, key54, c55, sp56, rfl, hS57, hwx62, H59⟩
    refine WalkC.look rfl (fun _ => i64 (((i + 1) : Nat))) (fun _ _ _ => rfl) (fun q r uw _ _ _ _ => Gives.run rfl (r_move (v := i64 (((i + 1) : Nat))) rfl) ⟨rfl, rfl⟩) ?_
    refine WalkC.look rfl (fun _ => .pointer (some ⟨b5, (i + 1), none⟩)) (fun _ _ _ => rfl) (fun q r uw _ _ _ _ => Gives.run rfl (r_indexA (off' := (i + 1)) (j := (i + 1)) arr153 (b := b5) (off := 0) rfl rfl (by first | rfl | omega | (simp; omega)) (by omega) (by omega)) ⟨rfl, rfl⟩) ?_
    refine WalkC.look rfl (fun _ => i64 ((rb).getD (i + 1) 0)) (fun _ _ _ => rfl) (fun q r uw hlo hhi hle hF => ?_) ?_
    · skip
      have h1 : 0 ≤ q := Nat.zero_le _
      have h2 : q ≤ 1 := hhi 1 10 rfl rfl
      rcases (show q = 0 ∨ q = 1 by omega) with rfl | rfl
      · skip
        have HH := hF
        exact Gives.run rfl (r_ld1 (E := EI) (l := rb) (j := (i + 1)) (a := (rb).getD (i + 1) 0) fits3 (HH.get (k := 3) rfl) (at_getD (by first | omega | (simp only [List.length_set]; omega) | exact Nat.le_of_ble_eq_true rfl | (simp <;> omega))) rfl rfl) ⟨rfl, rfl⟩
      · skip
        obtain ⟨wx62, key54, c55, sp56, e5, hS57, hwx62, HH⟩ := hF
        exact Gives.run rfl (r_ld1 (E := EI) (l := rb) (j := (i + 1)) (a := (rb).getD (i + 1) 0) fits3 (HH.get (k := 3) rfl) (at_getD (by first | omega | (simp only [List.length_set]; omega) | exact Nat.le_of_ble_eq_true rfl | (simp <;> omega))) rfl rfl) ⟨rfl, rfl⟩
    refine WalkC.look rfl (fun _ => i64 ((leS n gs ra rb i).2)) (fun _ _ _ => rfl) (fun q r uw _ _ _ _ => Gives.run rfl (r_move (v := i64 ((leS n gs ra rb i).2)) rfl) ⟨rfl, rfl⟩) ?_
    refine WalkC.eff 1 rfl (fun r uw63 hF65 => ?_) ?_
    · skip
      obtain ⟨wx62, key54, c55, sp56, e5, hS57, hwx62, H64⟩ := hF65
      dsimp only [List.take, List.map, List.cons_append, List.nil_append]
      rw [e5]
      refine Gives.ofW (d := 31) rfl rfl (fun Q' hK => ?_)
      have H66 := (H64).as (L' := ((some b, .cells #[i64 ((n : Nat)), .slice (ownA key54) (List.length (((leS n gs ra rb i).1) ++ [(⟨(3 : Int), (ra).getD (i + 1) 0, (0 : Int)⟩ : Gt)])) c55, .slice none 0 0] 151 (0, 0)) :: (key54, sob EG 99 (((leS n gs ra rb i).1) ++ [(⟨(3 : Int), (ra).getD (i + 1) 0, (0 : Int)⟩ : Gt)]) sp56) :: ((some b1, .cells (cel EI ra).toArray 153 (0, 0)) :: (some b5, .cells (cel EI rb).toArray 153 (0, 0)) :: R))) rfl
      refine c_call (vs := [.pointer (some ⟨b, 0, none⟩), i64 (wx62), i64 ((rb).getD (i + 1) 0), i64 ((leS n gs ra rb i).2)]) call104 rfl (carry_ok b n key54 c55 sp56 (((leS n gs ra rb i).1) ++ [(⟨(3 : Int), (ra).getD (i + 1) 0, (0 : Int)⟩ : Gt)]) hS57 hn (by simp only [List.length_append, List.length_cons, List.length_nil]; omega) wx62 ((rb).getD (i + 1) 0) ((leS n gs ra rb i).2) ((some b1, .cells (cel EI ra).toArray 153 (0, 0)) :: (some b5, .cells (cel EI rb).toArray 153 (0, 0)) :: R) w₀ uw63 H66) ?_
      rintro wv75 w67 ⟨hwv76, key69, c70, sp71, hS72, HN73⟩
      obtain ⟨wx77, hwx77⟩ : ∃ q, q = caW n (((leS n gs ra rb i).1) ++ [(⟨(3 : Int), (ra).getD (i + 1) 0, (0 : Int)⟩ : Gt)]) := ⟨_, rfl⟩
      rw [← hwx77] at hwv76
      subst hwv76
      have H74 := HN73.as (L' := ((some b, .cells #[i64 ((n : Nat)), .slice (ownA key69) (List.length (caG n (((leS n gs ra rb i).1) ++ [(⟨(3 : Int), (ra).getD (i + 1) 0, (0 : Int)⟩ : Gt)]) wx62 ((rb).getD (i + 1) 0) ((leS n gs ra rb i).2))) c70, .slice none 0 0] 151 (0, 0)) :: (key69, sob EG 99 (caG n (((leS n gs ra rb i).1) ++ [(⟨(3 : Int), (ra).getD (i + 1) 0, (0 : Int)⟩ : Gt)]) wx62 ((rb).getD (i + 1) 0) ((leS n gs ra rb i).2)) sp71) :: (some b1, .cells (cel EI ra).toArray 153 (0, 0)) :: (some b5, .cells (cel EI rb).toArray 153 (0, 0)) :: R)) rfl
      exact hK _ _ ⟨wx62, wx77, key69, c70, sp71, rfl, rfl, hS72, hwx62, hwx77, H74⟩
    refine WalkC.look rfl (fun r => r 10) (fun r r' h => h 10 (by decide) rfl) (fun q r uw _ _ _ _ => Gives.run rfl (r_assign rfl) ⟨rfl, rfl⟩) ?_
    refine WalkC.nil ?_
    intro r78 w79 hF81
    obtain ⟨wx62, wx77, key69, c70, sp71, e5, e10, hS72, hwx62, hwx77, H80⟩ := hF81
    dsimp only
    rw [e5, e10]
    subst hwx77
    subst hwx62
    refine wnil ?_
    refine blockNormal ?_
    refine thenNormal ?_
    refine oneRegion ?_
    refine sq (r_move (v := i64 (((i + 1) : Nat))) rfl) ?_
    refine sq ((r_addI (a := ((i + 1) : Nat)) (b := (1 : Int)) rfl rfl (by omega)).as (v' := i64 (((i + 1 + 1) : Nat))) (by rfl)) ?_
    refine sq (r_assign (v := i64 (((i + 1 + 1) : Nat))) rfl) ?_
    refine wnil ?_
    refine thenNormal ?_
    have e82 : caG n (((leS n gs ra rb i).1) ++ [(⟨(3 : Int), (ra).getD (i + 1) 0, (0 : Int)⟩ : Gt)]) (wrW n ((leS n gs ra rb i).1)) ((rb).getD (i + 1) 0) ((leS n gs ra rb i).2) = (leS n gs ra rb (i + 1)).1 := by rfl
    have hS83 := hS72
    rw [e82] at hS83
    have H84 : Hp No w₀ w79 ((some b, .cells #[i64 ((n : Nat)), .slice (ownA key69) (List.length ((leS n gs ra rb (i + 1)).1)) c70, .slice none 0 0] 151 (0, 0)) :: (key69, sob EG 99 ((leS n gs ra rb (i + 1)).1) sp71) :: (some b1, .cells (cel EI ra).toArray 153 (0, 0)) :: (some b5, .cells (cel EI rb).toArray 153 (0, 0)) :: R) := by rw [← e82]; exact H80
    exact ⟨(i + 1, key69, c70, sp71), _, rfl, ⟨rfl, rfl, rfl, rfl, rfl, trivial⟩, ⟨⟨by omega, hS83⟩, H84⟩, by show 62 - (i + 1) < 62 - i; omega⟩
  · skip
    have hie : i = 62 := by omega
    refine exitAny ?_
    refine thenExit ?_
    refine thenExit ?_
    refine blockHere ?_
    refine thenNormal ?_
    refine seqAny ?_
    refine drawC (m := 10) [0, 0, 2, 0, 0, 16, 56, 0, 255, 511] [6, 8] (fun q vs w' => match q, vs with | 0, [] => Hp No w₀ w' ((some b, .cells #[i64 ((n : Nat)), .slice (ownA kz) (List.length ((leS n gs ra rb i).1)) cz, .slice none 0 0] 151 (0, 0)) :: (kz, sob EG 99 ((leS n gs ra rb i).1) sz) :: (some b1, .cells (cel EI ra).toArray 153 (0, 0)) :: (some b5, .cells (cel EI rb).toArray 153 (0, 0)) :: R) | 1, [v0] => ∃ (wx99 : Int) (key91 : Option Nat) (c92 : Nat) (sp93 : List Value), v0 = i64 (wx99) ∧ Sl EG key91 (((leS n gs ra rb i).1) ++ [(⟨(3 : Int), (rb).getD 63 0, (0 : Int)⟩ : Gt)]) c92 sp93 ∧ wx99 = wrW n ((leS n gs ra rb i).1) ∧ Hp No w₀ w' ((some b, .cells #[i64 ((n : Nat)), .slice (ownA key91) (List.length (((leS n gs ra rb i).1) ++ [(⟨(3 : Int), (rb).getD 63 0, (0 : Int)⟩ : Gt)])) c92, .slice none 0 0] 151 (0, 0)) :: (key91, sob EG 99 (((leS n gs ra rb i).1) ++ [(⟨(3 : Int), (rb).getD 63 0, (0 : Int)⟩ : Gt)]) sp93) :: (some b1, .cells (cel EI ra).toArray 153 (0, 0)) :: (some b5, .cells (cel EI rb).toArray 153 (0, 0)) :: R) | 2, [v0, v1] => ∃ (wx99 : Int) (wx114 : Int) (key106 : Option Nat) (c107 : Nat) (sp108 : List Value), v0 = i64 (wx99) ∧ v1 = i64 (wx114) ∧ Sl EG key106 (caG n (((leS n gs ra rb i).1) ++ [(⟨(3 : Int), (rb).getD 63 0, (0 : Int)⟩ : Gt)]) ((ra).getD 63 0) wx99 ((leS n gs ra rb i).2)) c107 sp108 ∧ wx99 = wrW n ((leS n gs ra rb i).1) ∧ wx114 = caW n (((leS n gs ra rb i).1) ++ [(⟨(3 : Int), (rb).getD 63 0, (0 : Int)⟩ : Gt)]) ∧ Hp No w₀ w' ((some b, .cells #[i64 ((n : Nat)), .slice (ownA key106) (List.length (caG n (((leS n gs ra rb i).1) ++ [(⟨(3 : Int), (rb).getD 63 0, (0 : Int)⟩ : Gt)]) ((ra).getD 63 0) wx99 ((leS n gs ra rb i).2))) c107, .slice none 0 0] 151 (0, 0)) :: (key106, sob EG 99 (caG n (((leS n gs ra rb i).1) ++ [(⟨(3 : Int), (rb).getD 63 0, (0 : Int)⟩ : Gt)]) ((ra).getD 63 0) wx99 ((leS n gs ra rb i).2)) sp108) :: (some b1, .cells (cel EI ra).toArray 153 (0, 0)) :: (some b5, .cells (cel EI rb).toArray 153 (0, 0)) :: R) | _, _ => False) mixed (by kernel_rfl) (by kernel_rfl) HL.drew ?_
    refine WalkC.look rfl (fun _ => .pointer (some ⟨b, 0, none⟩)) (fun _ _ _ => rfl) (fun q r uw _ _ _ _ => Gives.run rfl (r_move (v := .pointer (some ⟨b, 0, none⟩)) rfl) ⟨rfl, rfl⟩) ?_
    refine WalkC.look rfl (fun _ => .pointer (some ⟨b1, 63, none⟩)) (fun _ _ _ => rfl) (fun q r uw _ _ _ _ => Gives.run rfl (r_indexA (off' := 63) (j := 63) arr153 (b := b1) (off := 0) rfl rfl (by first | rfl | omega | (simp; omega)) (by omega) (by omega)) ⟨rfl, rfl⟩) ?_
    refine WalkC.look rfl (fun _ => i64 ((ra).getD 63 0)) (fun _ _ _ => rfl) (fun q r uw hlo hhi hle hF => ?_) ?_
    · skip
      have h1 : 0 ≤ q := Nat.zero_le _
      have h2 : q ≤ 1 := hhi 1 8 rfl rfl
      rcases (show q = 0 ∨ q = 1 by omega) with rfl | rfl
      · skip
        have HH := hF
        exact Gives.run rfl (r_ld1 (E := EI) (l := ra) (j := 63) (a := (ra).getD 63 0) fits3 (HH.get (k := 2) rfl) (at_getD (by first | omega | (simp only [List.length_set]; omega) | exact Nat.le_of_ble_eq_true rfl | (simp <;> omega))) rfl rfl) ⟨rfl, rfl⟩
      · skip
        obtain ⟨wx99, key91, c92, sp93, e6, hS94, hwx99, HH⟩ := hF
        exact Gives.run rfl (r_ld1 (E := EI) (l := ra) (j := 63) (a := (ra).getD 63 0) fits3 (HH.get (k := 2) rfl) (at_getD (by first | omega | (simp only [List.length_set]; omega) | exact Nat.le_of_ble_eq_true rfl | (simp <;> omega))) rfl rfl) ⟨rfl, rfl⟩
    refine WalkC.look rfl (fun _ => .pointer (some ⟨b, 0, none⟩)) (fun _ _ _ => rfl) (fun q r uw _ _ _ _ => Gives.run rfl (r_move (v := .pointer (some ⟨b, 0, none⟩)) rfl) ⟨rfl, rfl⟩) ?_
    refine WalkC.look rfl (fun _ => .pointer (some ⟨b5, 63, none⟩)) (fun _ _ _ => rfl) (fun q r uw _ _ _ _ => Gives.run rfl (r_indexA (off' := 63) (j := 63) arr153 (b := b5) (off := 0) rfl rfl (by first | rfl | omega | (simp; omega)) (by omega) (by omega)) ⟨rfl, rfl⟩) ?_
    refine WalkC.look rfl (fun _ => i64 ((rb).getD 63 0)) (fun _ _ _ => rfl) (fun q r uw hlo hhi hle hF => ?_) ?_
    · skip
      have h1 : 0 ≤ q := Nat.zero_le _
      have h2 : q ≤ 0 := hhi 0 6 rfl rfl
      rcases (show q = 0 by omega) with rfl
      · skip
        have HH := hF
        exact Gives.run rfl (r_ld1 (E := EI) (l := rb) (j := 63) (a := (rb).getD 63 0) fits3 (HH.get (k := 3) rfl) (at_getD (by first | omega | (simp only [List.length_set]; omega) | exact Nat.le_of_ble_eq_true rfl | (simp <;> omega))) rfl rfl) ⟨rfl, rfl⟩
    refine WalkC.eff 0 rfl (fun r uw85 hF87 => ?_) ?_
    · skip
      have H86 := hF87
      dsimp only [List.take, List.map, List.cons_append, List.nil_append]
      refine Gives.ofW (d := 38) rfl rfl (fun Q' hK => ?_)
      have H88 := (H86).as (L' := ((some b, .cells #[i64 ((n : Nat)), .slice (ownA kz) (List.length ((leS n gs ra rb i).1)) cz, .slice none 0 0] 151 (0, 0)) :: (kz, sob EG 99 ((leS n gs ra rb i).1) sz) :: ((some b1, .cells (cel EI ra).toArray 153 (0, 0)) :: (some b5, .cells (cel EI rb).toArray 153 (0, 0)) :: R))) rfl
      refine c_call (vs := [.pointer (some ⟨b, 0, none⟩), i64 ((3 : Int)), i64 ((rb).getD 63 0), i64 ((0 : Int))]) call76 rfl (gate_ok b n kz cz sz ((leS n gs ra rb i).1) hSz hn (by omega) (3 : Int) ((rb).getD 63 0) (0 : Int) ((some b1, .cells (cel EI ra).toArray 153 (0, 0)) :: (some b5, .cells (cel EI rb).toArray 153 (0, 0)) :: R) w₀ uw85 H88) ?_
      rintro wv97 w89 ⟨hwv98, key91, c92, sp93, hS94, HN95⟩
      obtain ⟨wx99, hwx99⟩ : ∃ q, q = wrW n ((leS n gs ra rb i).1) := ⟨_, rfl⟩
      rw [← hwx99] at hwv98
      subst hwv98
      have H96 := HN95.as (L' := ((some b, .cells #[i64 ((n : Nat)), .slice (ownA key91) (List.length (((leS n gs ra rb i).1) ++ [(⟨(3 : Int), (rb).getD 63 0, (0 : Int)⟩ : Gt)])) c92, .slice none 0 0] 151 (0, 0)) :: (key91, sob EG 99 (((leS n gs ra rb i).1) ++ [(⟨(3 : Int), (rb).getD 63 0, (0 : Int)⟩ : Gt)]) sp93) :: (some b1, .cells (cel EI ra).toArray 153 (0, 0)) :: (some b5, .cells (cel EI rb).toArray 153 (0, 0)) :: R)) rfl
      exact hK _ _ ⟨wx99, key91, c92, sp93, rfl, hS94, hwx99, H96⟩
    refine WalkC.look rfl (fun _ => i64 ((leS n gs ra rb i).2)) (fun _ _ _ => rfl) (fun q r uw _ _ _ _ => Gives.run rfl (r_move (v := i64 ((leS n gs ra rb i).2)) rfl) ⟨rfl, rfl⟩) ?_
    refine WalkC.eff 1 rfl (fun r uw100 hF102 => ?_) ?_
    · skip
      obtain ⟨wx99, key91, c92, sp93, e6, hS94, hwx99, H101⟩ := hF102
      dsimp only [List.take, List.map, List.cons_append, List.nil_append]
      rw [e6]
      refine Gives.ofW (d := 40) rfl rfl (fun Q' hK => ?_)
      have H103 := (H101).as (L' := ((some b, .cells #[i64 ((n : Nat)), .slice (ownA key91) (List.length (((leS n gs ra rb i).1) ++ [(⟨(3 : Int), (rb).getD 63 0, (0 : Int)⟩ : Gt)])) c92, .slice none 0 0] 151 (0, 0)) :: (key91, sob EG 99 (((leS n gs ra rb i).1) ++ [(⟨(3 : Int), (rb).getD 63 0, (0 : Int)⟩ : Gt)]) sp93) :: ((some b1, .cells (cel EI ra).toArray 153 (0, 0)) :: (some b5, .cells (cel EI rb).toArray 153 (0, 0)) :: R))) rfl
      refine c_call (vs := [.pointer (some ⟨b, 0, none⟩), i64 ((ra).getD 63 0), i64 (wx99), i64 ((leS n gs ra rb i).2)]) call104 rfl (carry_ok b n key91 c92 sp93 (((leS n gs ra rb i).1) ++ [(⟨(3 : Int), (rb).getD 63 0, (0 : Int)⟩ : Gt)]) hS94 hn (by simp only [List.length_append, List.length_cons, List.length_nil]; omega) ((ra).getD 63 0) wx99 ((leS n gs ra rb i).2) ((some b1, .cells (cel EI ra).toArray 153 (0, 0)) :: (some b5, .cells (cel EI rb).toArray 153 (0, 0)) :: R) w₀ uw100 H103) ?_
      rintro wv112 w104 ⟨hwv113, key106, c107, sp108, hS109, HN110⟩
      obtain ⟨wx114, hwx114⟩ : ∃ q, q = caW n (((leS n gs ra rb i).1) ++ [(⟨(3 : Int), (rb).getD 63 0, (0 : Int)⟩ : Gt)]) := ⟨_, rfl⟩
      rw [← hwx114] at hwv113
      subst hwv113
      have H111 := HN110.as (L' := ((some b, .cells #[i64 ((n : Nat)), .slice (ownA key106) (List.length (caG n (((leS n gs ra rb i).1) ++ [(⟨(3 : Int), (rb).getD 63 0, (0 : Int)⟩ : Gt)]) ((ra).getD 63 0) wx99 ((leS n gs ra rb i).2))) c107, .slice none 0 0] 151 (0, 0)) :: (key106, sob EG 99 (caG n (((leS n gs ra rb i).1) ++ [(⟨(3 : Int), (rb).getD 63 0, (0 : Int)⟩ : Gt)]) ((ra).getD 63 0) wx99 ((leS n gs ra rb i).2)) sp108) :: (some b1, .cells (cel EI ra).toArray 153 (0, 0)) :: (some b5, .cells (cel EI rb).toArray 153 (0, 0)) :: R)) rfl
      exact hK _ _ ⟨wx99, wx114, key106, c107, sp108, rfl, rfl, hS109, hwx99, hwx114, H111⟩
    refine WalkC.look rfl (fun r => r 8) (fun r r' h => h 8 (by decide) rfl) (fun q r uw _ _ _ _ => Gives.run rfl (r_assign rfl) ⟨rfl, rfl⟩) ?_
    refine WalkC.nil ?_
    intro r115 w116 hF118
    obtain ⟨wx99, wx114, key106, c107, sp108, e6, e8, hS109, hwx99, hwx114, H117⟩ := hF118
    dsimp only
    rw [e6, e8]
    subst hwx114
    subst hwx99
    refine wnil ?_
    refine thenNormal ?_
    refine retAny ?_
    refine retG (rs := [.tmp 6]) (vs := [i64 ((caW n (((leS n gs ra rb i).1) ++ [(⟨(3 : Int), (rb).getD 63 0, (0 : Int)⟩ : Gt)])))]) rfl ⟨⟨rfl, rfl⟩, trivial⟩ ?_
    have e119 : caG n (((leS n gs ra rb i).1) ++ [(⟨(3 : Int), (rb).getD 63 0, (0 : Int)⟩ : Gt)]) ((ra).getD 63 0) (wrW n ((leS n gs ra rb i).1)) ((leS n gs ra rb i).2) = (leG n gs ra rb).1 := by rw [leG_eq hie]
    have hS120 := hS109
    rw [e119] at hS120
    have H121 : Hp No w₀ w116 ((some b, .cells #[i64 ((n : Nat)), .slice (ownA key106) (List.length ((leG n gs ra rb).1)) c107, .slice none 0 0] 151 (0, 0)) :: (key106, sob EG 99 ((leG n gs ra rb).1) sp108) :: (some b1, .cells (cel EI ra).toArray 153 (0, 0)) :: (some b5, .cells (cel EI rb).toArray 153 (0, 0)) :: R) := by rw [← e119]; exact H117
    exact ⟨_, rfl, congrArg i64 (by rw [leG_eq hie]), key106, c107, sp108, hS120, ((H121.dropk 3).dropk 2)⟩
end Go.Proofs.YteofdmdpaejgaaaDoor.Cm
namespace Go.Proofs.YteofdmdpaejgaaaDoor.Cm
open Go Go.Proofs.YteofdmdpaejgaaaDoor.Vc Go.Proofs.YteofdmdpaejgaaaDoor.Er Go.Proofs.YteofdmdpaejgaaaDoor.Circ
set_option linter.unusedVariables false
set_option maxHeartbeats 1000000 in
theorem mpick_ok (b n : Nat) (key : Option Nat) (c : Nat) (sp : List Value) (gs : List Gt) (hSw : Sl EG key gs c sp) (hn : n ≤ 1000) (hlen : gs.length ≤ 3000) (ws : Int) (ra rb : List Int) (hra : ra.length = 64) (hrb : rb.length = 64) (R : List (Option Nat × Obj)) (w₀ w : World) (H : Hp No w₀ w ((some b, .cells #[i64 ((n : Nat)), .slice (ownA key) (List.length gs) c, .slice none 0 0] 151 (0, 0)) :: (key, sob EG 99 gs sp) :: R)) : Calls Tryd.prog 78 [.pointer (some ⟨b, 0, none⟩), i64 ws, .agg (cel EI ra).toArray, .agg (cel EI rb).toArray].toArray w (Ret fun v w' => v = .agg (cel EI ((piS n gs ws ra rb 64).2)).toArray ∧ ∃ (key' : Option Nat) (c' : Nat) (sp' : List Value), Sl EG key' ((piS n gs ws ra rb 64).1) c' sp' ∧ Hp No w₀ w' ((some b, .cells #[i64 ((n : Nat)), .slice (ownA key') (List.length ((piS n gs ws ra rb 64).1)) c', .slice none 0 0] 151 (0, 0)) :: (key', sob EG 99 ((piS n gs ws ra rb 64).1) sp') :: R)) := by
  skip
  refine enter (n := 34) Tryd.func78 rfl rfl (Nat.le_of_ble_eq_true rfl) ?_
  refine seqRegion ?_
  refine q_box (v := .agg (cel EI ra).toArray) (o := .cells (cel EI ra).toArray 153 (0, 0)) H rfl (by rfl) ?_
  intro b1 w2 hb1 H3 hE4
  refine q_box (v := .agg (cel EI rb).toArray) (o := .cells (cel EI rb).toArray 153 (0, 0)) H3 rfl (by rfl) ?_
  intro b5 w6 hb5 H7 hE8
  refine q_alloc (o := .cells (cel EI (List.replicate 64 0)).toArray 153 (0, 0)) H7 zer153 (by kernel_rfl) ?_
  intro b9 w10 hb9 H11 hE12
  refine wend ?_
  refine seqRegion ?_
  refine q_alloc (o := .cells (cel EI (List.replicate 64 0)).toArray 153 (0, 0)) H11 zer153 (by kernel_rfl) ?_
  intro b13 w14 hb13 H15 hE16
  refine wend ?_
  refine seqAny ?_
  refine seqRegion ?_
  refine sq (r_move (v := i64 ((0 : Int))) rfl) ?_
  refine wend ?_
  refine blockAny ?_
  refine loopAny (σ := Nat × Option Nat × Nat × List Value) (fun (i, kz, cz, sz) => [(0, .pointer (some ⟨b, 0, none⟩)), (1, i64 (ws)), (6, .pointer (some ⟨b1, 0, none⟩)), (7, .pointer (some ⟨b5, 0, none⟩)), (8, .pointer (some ⟨b9, 0, none⟩)), (9, .pointer (some ⟨b13, 0, none⟩)), (11, i64 ((i : Nat)))]) (fun (i, kz, cz, sz) w' => (i ≤ 64 ∧ Sl EG kz ((piS n gs ws ra rb i).1) cz sz) ∧ Hp No w₀ w' ((some b, .cells #[i64 ((n : Nat)), .slice (ownA kz) (List.length ((piS n gs ws ra rb i).1)) cz, .slice none 0 0] 151 (0, 0)) :: (kz, sob EG 99 ((piS n gs ws ra rb i).1) sz) :: (some b13, .cells (cel EI (padW ((piS n gs ws ra rb i).2))).toArray 153 (0, 0)) :: (some b1, .cells (cel EI ra).toArray 153 (0, 0)) :: (some b5, .cells (cel EI rb).toArray 153 (0, 0)) :: (some b9, .cells (cel EI (List.replicate 64 0)).toArray 153 (0, 0)) :: R)) (fun (i, kz, cz, sz) => 64 - i) ((0, key, c, sp)) ?_ ?_ ?_
  · exact ⟨rfl, rfl, rfl, rfl, rfl, rfl, rfl, trivial⟩
  · exact ⟨⟨by omega, hSw⟩, (H15.pick 6 [4, 5, 0, 3, 2, 1] (by decide) (by decide))⟩
  rintro ⟨i, kz, cz, sz⟩ ρ w17 ⟨⟨hq, hSz⟩, HL⟩
  have hpi := piS_len n gs ws ra rb i
  have hpl : (padW (piS n gs ws ra rb i).2).length = 64 := padW_len (by rw [hpi.2]; exact hq)
  refine seqRegion ?_
  refine sq (r_lssI (a := (i : Nat)) (b := (64 : Int)) rfl rfl) ?_
  refine wend ?_
  refine seqAny ?_
  refine condProp (((i : Nat) : Int) < (64 : Int)) rfl (fun c12 => ?_) (fun c12 => ?_)
  · skip
    refine skipAny ?_
    refine thenNormal ?_
    refine seqAny ?_
    refine blockAny ?_
    refine seqRegion ?_
    refine sq (r_move (v := i64 ((i : Nat))) rfl) ?_
    refine sq (r_assign (v := i64 ((i : Nat))) rfl) ?_
    refine wend ?_
    refine drawC (m := 19) [0, 0, 0, 4, 12, 0, 0, 0, 0, 256, 768, 0, 2048, 6144, 16256, 32736, 65534, 131071, 262143] [14, 15, 16, 18] (fun q vs w' => match q, vs with | 0, [] => Hp No w₀ w' ((some b, .cells #[i64 ((n : Nat)), .slice (ownA kz) (List.length ((piS n gs ws ra rb i).1)) cz, .slice none 0 0] 151 (0, 0)) :: (kz, sob EG 99 ((piS n gs ws ra rb i).1) sz) :: (some b13, .cells (cel EI (padW ((piS n gs ws ra rb i).2))).toArray 153 (0, 0)) :: (some b1, .cells (cel EI ra).toArray 153 (0, 0)) :: (some b5, .cells (cel EI rb).toArray 153 (0, 0)) :: (some b9, .cells (cel EI (List.replicate 64 0)).toArray 153 (0, 0)) :: R) | 1, [v0] => ∃ (wx33 : Int) (key25 : Option Nat) (c26 : Nat) (sp27 : List Value), v0 = i64 (wx33) ∧ Sl EG key25 (((piS n gs ws ra rb i).1) ++ [(⟨(1 : Int), (ra).getD i 0, (rb).getD i 0⟩ : Gt)]) c26 sp27 ∧ wx33 = wrW n ((piS n gs ws ra rb i).1) ∧ Hp No w₀ w' ((some b, .cells #[i64 ((n : Nat)), .slice (ownA key25) (List.length (((piS n gs ws ra rb i).1) ++ [(⟨(1 : Int), (ra).getD i 0, (rb).getD i 0⟩ : Gt)])) c26, .slice none 0 0] 151 (0, 0)) :: (key25, sob EG 99 (((piS n gs ws ra rb i).1) ++ [(⟨(1 : Int), (ra).getD i 0, (rb).getD i 0⟩ : Gt)]) sp27) :: (some b13, .cells (cel EI (padW ((piS n gs ws ra rb i).2))).toArray 153 (0, 0)) :: (some b1, .cells (cel EI ra).toArray 153 (0, 0)) :: (some b5, .cells (cel EI rb).toArray 153 (0, 0)) :: (some b9, .cells (cel EI (List.replicate 64 0)).toArray 153 (0, 0)) :: R) | 2, [v0, v1] => ∃ (wx33 : Int) (wx48 : Int) (key40 : Option Nat) (c41 : Nat) (sp42 : List Value), v0 = i64 (wx33) ∧ v1 = i64 (wx48) ∧ Sl EG key40 (((piS n gs ws ra rb i).1) ++ [(⟨(1 : Int), (ra).getD i 0, (rb).getD i 0⟩ : Gt)] ++ [(⟨(2 : Int), ws, wx33⟩ : Gt)]) c41 sp42 ∧ wx33 = wrW n ((piS n gs ws ra rb i).1) ∧ wx48 = wrW n (((piS n gs ws ra rb i).1) ++ [(⟨(1 : Int), (ra).getD i 0, (rb).getD i 0⟩ : Gt)]) ∧ Hp No w₀ w' ((some b, .cells #[i64 ((n : Nat)), .slice (ownA key40) (List.length (((piS n gs ws ra rb i).1) ++ [(⟨(1 : Int), (ra).getD i 0, (rb).getD i 0⟩ : Gt)] ++ [(⟨(2 : Int), ws, wx33⟩ : Gt)])) c41, .slice none 0 0] 151 (0, 0)) :: (key40, sob EG 99 (((piS n gs ws ra rb i).1) ++ [(⟨(1 : Int), (ra).getD i 0, (rb).getD i 0⟩ : Gt)] ++ [(⟨(2 : Int), ws, wx33⟩ : Gt)]) sp42) :: (some b13, .cells (cel EI (padW ((piS n gs ws ra rb i).2))).toArray 153 (0, 0)) :: (some b1, .cells (cel EI ra).toArray 153 (0, 0)) :: (some b5, .cells (cel EI rb).toArray 153 (0, 0)) :: (some b9, .cells (cel EI (List.replicate 64 0)).toArray 153 (0, 0)) :: R) | 3, [v0, v1, v2] => ∃ (wx33 : Int) (wx48 : Int) (wx63 : Int) (key55 : Option Nat) (c56 : Nat) (sp57 : List Value), v0 = i64 (wx33) ∧ v1 = i64 (wx48) ∧ v2 = i64 (wx63) ∧ Sl EG key55 (((piS n gs ws ra rb i).1) ++ [(⟨(1 : Int), (ra).getD i 0, (rb).getD i 0⟩ : Gt)] ++ [(⟨(2 : Int), ws, wx33⟩ : Gt)] ++ [(⟨(1 : Int), (rb).getD i 0, wx48⟩ : Gt)]) c56 sp57 ∧ wx33 = wrW n ((piS n gs ws ra rb i).1) ∧ wx48 = wrW n (((piS n gs ws ra rb i).1) ++ [(⟨(1 : Int), (ra).getD i 0, (rb).getD i 0⟩ : Gt)]) ∧ wx63 = wrW n (((piS n gs ws ra rb i).1) ++ [(⟨(1 : Int), (ra).getD i 0, (rb).getD i 0⟩ : Gt)] ++ [(⟨(2 : Int), ws, wx33⟩ : Gt)]) ∧ Hp No w₀ w' ((some b, .cells #[i64 ((n : Nat)), .slice (ownA key55) (List.length (((piS n gs ws ra rb i).1) ++ [(⟨(1 : Int), (ra).getD i 0, (rb).getD i 0⟩ : Gt)] ++ [(⟨(2 : Int), ws, wx33⟩ : Gt)] ++ [(⟨(1 : Int), (rb).getD i 0, wx48⟩ : Gt)])) c56, .slice none 0 0] 151 (0, 0)) :: (key55, sob EG 99 (((piS n gs ws ra rb i).1) ++ [(⟨(1 : Int), (ra).getD i 0, (rb).getD i 0⟩ : Gt)] ++ [(⟨(2 : Int), ws, wx33⟩ : Gt)] ++ [(⟨(1 : Int), (rb).getD i 0, wx48⟩ : Gt)]) sp57) :: (some b13, .cells (cel EI (padW ((piS n gs ws ra rb i).2))).toArray 153 (0, 0)) :: (some b1, .cells (cel EI ra).toArray 153 (0, 0)) :: (some b5, .cells (cel EI rb).toArray 153 (0, 0)) :: (some b9, .cells (cel EI (List.replicate 64 0)).toArray 153 (0, 0)) :: R) | 4, [v0, v1, v2, _] => ∃ (wx33 : Int) (wx48 : Int) (wx63 : Int) (key55 : Option Nat) (c56 : Nat) (sp57 : List Value), v0 = i64 (wx33) ∧ v1 = i64 (wx48) ∧ v2 = i64 (wx63) ∧ True ∧ Sl EG key55 (((piS n gs ws ra rb i).1) ++ [(⟨(1 : Int), (ra).getD i 0, (rb).getD i 0⟩ : Gt)] ++ [(⟨(2 : Int), ws, wx33⟩ : Gt)] ++ [(⟨(1 : Int), (rb).getD i 0, wx48⟩ : Gt)]) c56 sp57 ∧ wx33 = wrW n ((piS n gs ws ra rb i).1) ∧ wx48 = wrW n (((piS n gs ws ra rb i).1) ++ [(⟨(1 : Int), (ra).getD i 0, (rb).getD i 0⟩ : Gt)]) ∧ wx63 = wrW n (((piS n gs ws ra rb i).1) ++ [(⟨(1 : Int), (ra).getD i 0, (rb).getD i 0⟩ : Gt)] ++ [(⟨(2 : Int), ws, wx33⟩ : Gt)]) ∧ Hp No w₀ w' ((some b, .cells #[i64 ((n : Nat)), .slice (ownA key55) (List.length (((piS n gs ws ra rb i).1) ++ [(⟨(1 : Int), (ra).getD i 0, (rb).getD i 0⟩ : Gt)] ++ [(⟨(2 : Int), ws, wx33⟩ : Gt)] ++ [(⟨(1 : Int), (rb).getD i 0, wx48⟩ : Gt)])) c56, .slice none 0 0] 151 (0, 0)) :: (key55, sob EG 99 (((piS n gs ws ra rb i).1) ++ [(⟨(1 : Int), (ra).getD i 0, (rb).getD i 0⟩ : Gt)] ++ [(⟨(2 : Int), ws, wx33⟩ : Gt)] ++ [(⟨(1 : Int), (rb).getD i 0, wx48⟩ : Gt)]) sp57) :: (some b13, .cells (cel EI ((padW ((piS n gs ws ra rb i).2)).set i wx63)).toArray 153 (0, 0)) :: (some b1, .cells (cel EI ra).toArray 153 (0, 0)) :: (some b5, .cells (cel EI rb).toArray 153 (0, 0)) :: (some b9, .cells (cel EI (List.replicate 64 0)).toArray 153 (0, 0)) :: R) | _, _ => False) mixed (by kernel_rfl) (by kernel_rfl) HL.drew ?_
    refine WalkC.look rfl (fun _ => i64 ((i : Nat))) (fun _ _ _ => rfl) (fun q r uw _ _ _ _ => Gives.run rfl (r_move (v := i64 ((i : Nat))) rfl) ⟨rfl, rfl⟩) ?_
    refine WalkC.look rfl (fun _ => .pointer (some ⟨b, 0, none⟩)) (fun _ _ _ => rfl) (fun q r uw _ _ _ _ => Gives.run rfl (r_move (v := .pointer (some ⟨b, 0, none⟩)) rfl) ⟨rfl, rfl⟩) ?_
    refine WalkC.look rfl (fun _ => i64 ((i : Nat))) (fun _ _ _ => rfl) (fun q r uw _ _ _ _ => Gives.run rfl (r_move (v := i64 ((i : Nat))) rfl) ⟨rfl, rfl⟩) ?_
    refine WalkC.look rfl (fun _ => .pointer (some ⟨b5, i, none⟩)) (fun _ _ _ => rfl) (fun q r uw _ _ _ _ => Gives.run rfl (r_indexA (off' := i) (j := i) arr153 (b := b5) (off := 0) rfl rfl (by first | rfl | omega | (simp; omega)) (by omega) (by omega)) ⟨rfl, rfl⟩) ?_
    refine WalkC.look rfl (fun _ => i64 ((rb).getD i 0)) (fun _ _ _ => rfl) (fun q r uw hlo hhi hle hF => ?_) ?_
    · skip
      have h1 : 0 ≤ q := Nat.zero_le _
      have h2 : q ≤ 2 := hhi 2 16 rfl rfl
      rcases (show q = 0 ∨ q = 1 ∨ q = 2 by omega) with rfl | rfl | rfl
      · skip
        have HH := hF
        exact Gives.run rfl (r_ld1 (E := EI) (l := rb) (j := i) (a := (rb).getD i 0) fits3 (HH.get (k := 4) rfl) (at_getD (by first | omega | (simp only [List.length_set]; omega) | exact Nat.le_of_ble_eq_true rfl | (simp <;> omega))) rfl rfl) ⟨rfl, rfl⟩
      · skip
        obtain ⟨wx33, key25, c26, sp27, e14, hS28, hwx33, HH⟩ := hF
        exact Gives.run rfl (r_ld1 (E := EI) (l := rb) (j := i) (a := (rb).getD i 0) fits3 (HH.get (k := 4) rfl) (at_getD (by first | omega | (simp only [List.length_set]; omega) | exact Nat.le_of_ble_eq_true rfl | (simp <;> omega))) rfl rfl) ⟨rfl, rfl⟩
      · skip
        obtain ⟨wx33, wx48, key40, c41, sp42, e14, e15, hS43, hwx33, hwx48, HH⟩ := hF
        exact Gives.run rfl (r_ld1 (E := EI) (l := rb) (j := i) (a := (rb).getD i 0) fits3 (HH.get (k := 4) rfl) (at_getD (by first | omega | (simp only [List.length_set]; omega) | exact Nat.le_of_ble_eq_true rfl | (simp <;> omega))) rfl rfl) ⟨rfl, rfl⟩
    refine WalkC.look rfl (fun _ => .pointer (some ⟨b, 0, none⟩)) (fun _ _ _ => rfl) (fun q r uw _ _ _ _ => Gives.run rfl (r_move (v := .pointer (some ⟨b, 0, none⟩)) rfl) ⟨rfl, rfl⟩) ?_
    refine WalkC.look rfl (fun _ => i64 (ws)) (fun _ _ _ => rfl) (fun q r uw _ _ _ _ => Gives.run rfl (r_move (v := i64 (ws)) rfl) ⟨rfl, rfl⟩) ?_
    refine WalkC.look rfl (fun _ => .pointer (some ⟨b, 0, none⟩)) (fun _ _ _ => rfl) (fun q r uw _ _ _ _ => Gives.run rfl (r_move (v := .pointer (some ⟨b, 0, none⟩)) rfl) ⟨rfl, rfl⟩) ?_
    refine WalkC.look rfl (fun _ => i64 ((i : Nat))) (fun _ _ _ => rfl) (fun q r uw _ _ _ _ => Gives.run rfl (r_move (v := i64 ((i : Nat))) rfl) ⟨rfl, rfl⟩) ?_
    refine WalkC.look rfl (fun _ => .pointer (some ⟨b1, i, none⟩)) (fun _ _ _ => rfl) (fun q r uw _ _ _ _ => Gives.run rfl (r_indexA (off' := i) (j := i) arr153 (b := b1) (off := 0) rfl rfl (by first | rfl | omega | (simp; omega)) (by omega) (by omega)) ⟨rfl, rfl⟩) ?_
    refine WalkC.look rfl (fun _ => i64 ((ra).getD i 0)) (fun _ _ _ => rfl) (fun q r uw hlo hhi hle hF => ?_) ?_
    · skip
      have h1 : 0 ≤ q := Nat.zero_le _
      have h2 : q ≤ 0 := hhi 0 14 rfl rfl
      rcases (show q = 0 by omega) with rfl
      · skip
        have HH := hF
        exact Gives.run rfl (r_ld1 (E := EI) (l := ra) (j := i) (a := (ra).getD i 0) fits3 (HH.get (k := 3) rfl) (at_getD (by first | omega | (simp only [List.length_set]; omega) | exact Nat.le_of_ble_eq_true rfl | (simp <;> omega))) rfl rfl) ⟨rfl, rfl⟩
    refine WalkC.look rfl (fun _ => i64 ((i : Nat))) (fun _ _ _ => rfl) (fun q r uw _ _ _ _ => Gives.run rfl (r_move (v := i64 ((i : Nat))) rfl) ⟨rfl, rfl⟩) ?_
    refine WalkC.look rfl (fun _ => .pointer (some ⟨b5, i, none⟩)) (fun _ _ _ => rfl) (fun q r uw _ _ _ _ => Gives.run rfl (r_indexA (off' := i) (j := i) arr153 (b := b5) (off := 0) rfl rfl (by first | rfl | omega | (simp; omega)) (by omega) (by omega)) ⟨rfl, rfl⟩) ?_
    refine WalkC.look rfl (fun _ => i64 ((rb).getD i 0)) (fun _ _ _ => rfl) (fun q r uw hlo hhi hle hF => ?_) ?_
    · skip
      have h1 : 0 ≤ q := Nat.zero_le _
      have h2 : q ≤ 0 := hhi 0 14 rfl rfl
      rcases (show q = 0 by omega) with rfl
      · skip
        have HH := hF
        exact Gives.run rfl (r_ld1 (E := EI) (l := rb) (j := i) (a := (rb).getD i 0) fits3 (HH.get (k := 4) rfl) (at_getD (by first | omega | (simp only [List.length_set]; omega) | exact Nat.le_of_ble_eq_true rfl | (simp <;> omega))) rfl rfl) ⟨rfl, rfl⟩
    refine WalkC.eff 0 rfl (fun r uw19 hF21 => ?_) ?_
    · skip
      have H20 := hF21
      dsimp only [List.take, List.map, List.cons_append, List.nil_append]
      refine Gives.ofW (d := 28) rfl rfl (fun Q' hK => ?_)
      have H22 := (H20).as (L' := ((some b, .cells #[i64 ((n : Nat)), .slice (ownA kz) (List.length ((piS n gs ws ra rb i).1)) cz, .slice none 0 0] 151 (0, 0)) :: (kz, sob EG 99 ((piS n gs ws ra rb i).1) sz) :: ((some b13, .cells (cel EI (padW ((piS n gs ws ra rb i).2))).toArray 153 (0, 0)) :: (some b1, .cells (cel EI ra).toArray 153 (0, 0)) :: (some b5, .cells (cel EI rb).toArray 153 (0, 0)) :: (some b9, .cells (cel EI (List.replicate 64 0)).toArray 153 (0, 0)) :: R))) rfl
      refine c_call (vs := [.pointer (some ⟨b, 0, none⟩), i64 ((1 : Int)), i64 ((ra).getD i 0), i64 ((rb).getD i 0)]) call76 rfl (gate_ok b n kz cz sz ((piS n gs ws ra rb i).1) hSz hn (by omega) (1 : Int) ((ra).getD i 0) ((rb).getD i 0) ((some b13, .cells (cel EI (padW ((piS n gs ws ra rb i).2))).toArray 153 (0, 0)) :: (some b1, .cells (cel EI ra).toArray 153 (0, 0)) :: (some b5, .cells (cel EI rb).toArray 153 (0, 0)) :: (some b9, .cells (cel EI (List.replicate 64 0)).toArray 153 (0, 0)) :: R) w₀ uw19 H22) ?_
      rintro wv31 w23 ⟨hwv32, key25, c26, sp27, hS28, HN29⟩
      obtain ⟨wx33, hwx33⟩ : ∃ q, q = wrW n ((piS n gs ws ra rb i).1) := ⟨_, rfl⟩
      rw [← hwx33] at hwv32
      subst hwv32
      have H30 := HN29.as (L' := ((some b, .cells #[i64 ((n : Nat)), .slice (ownA key25) (List.length (((piS n gs ws ra rb i).1) ++ [(⟨(1 : Int), (ra).getD i 0, (rb).getD i 0⟩ : Gt)])) c26, .slice none 0 0] 151 (0, 0)) :: (key25, sob EG 99 (((piS n gs ws ra rb i).1) ++ [(⟨(1 : Int), (ra).getD i 0, (rb).getD i 0⟩ : Gt)]) sp27) :: (some b13, .cells (cel EI (padW ((piS n gs ws ra rb i).2))).toArray 153 (0, 0)) :: (some b1, .cells (cel EI ra).toArray 153 (0, 0)) :: (some b5, .cells (cel EI rb).toArray 153 (0, 0)) :: (some b9, .cells (cel EI (List.replicate 64 0)).toArray 153 (0, 0)) :: R)) rfl
      exact hK _ _ ⟨wx33, key25, c26, sp27, rfl, hS28, hwx33, H30⟩
    refine WalkC.eff 1 rfl (fun r uw34 hF36 => ?_) ?_
    · skip
      obtain ⟨wx33, key25, c26, sp27, e14, hS28, hwx33, H35⟩ := hF36
      dsimp only [List.take, List.map, List.cons_append, List.nil_append]
      rw [e14]
      refine Gives.ofW (d := 29) rfl rfl (fun Q' hK => ?_)
      have H37 := (H35).as (L' := ((some b, .cells #[i64 ((n : Nat)), .slice (ownA key25) (List.length (((piS n gs ws ra rb i).1) ++ [(⟨(1 : Int), (ra).getD i 0, (rb).getD i 0⟩ : Gt)])) c26, .slice none 0 0] 151 (0, 0)) :: (key25, sob EG 99 (((piS n gs ws ra rb i).1) ++ [(⟨(1 : Int), (ra).getD i 0, (rb).getD i 0⟩ : Gt)]) sp27) :: ((some b13, .cells (cel EI (padW ((piS n gs ws ra rb i).2))).toArray 153 (0, 0)) :: (some b1, .cells (cel EI ra).toArray 153 (0, 0)) :: (some b5, .cells (cel EI rb).toArray 153 (0, 0)) :: (some b9, .cells (cel EI (List.replicate 64 0)).toArray 153 (0, 0)) :: R))) rfl
      refine c_call (vs := [.pointer (some ⟨b, 0, none⟩), i64 ((2 : Int)), i64 (ws), i64 (wx33)]) call76 rfl (gate_ok b n key25 c26 sp27 (((piS n gs ws ra rb i).1) ++ [(⟨(1 : Int), (ra).getD i 0, (rb).getD i 0⟩ : Gt)]) hS28 hn (by simp only [List.length_append, List.length_cons, List.length_nil]; omega) (2 : Int) ws wx33 ((some b13, .cells (cel EI (padW ((piS n gs ws ra rb i).2))).toArray 153 (0, 0)) :: (some b1, .cells (cel EI ra).toArray 153 (0, 0)) :: (some b5, .cells (cel EI rb).toArray 153 (0, 0)) :: (some b9, .cells (cel EI (List.replicate 64 0)).toArray 153 (0, 0)) :: R) w₀ uw34 H37) ?_
      rintro wv46 w38 ⟨hwv47, key40, c41, sp42, hS43, HN44⟩
      obtain ⟨wx48, hwx48⟩ : ∃ q, q = wrW n (((piS n gs ws ra rb i).1) ++ [(⟨(1 : Int), (ra).getD i 0, (rb).getD i 0⟩ : Gt)]) := ⟨_, rfl⟩
      rw [← hwx48] at hwv47
      subst hwv47
      have H45 := HN44.as (L' := ((some b, .cells #[i64 ((n : Nat)), .slice (ownA key40) (List.length (((piS n gs ws ra rb i).1) ++ [(⟨(1 : Int), (ra).getD i 0, (rb).getD i 0⟩ : Gt)] ++ [(⟨(2 : Int), ws, wx33⟩ : Gt)])) c41, .slice none 0 0] 151 (0, 0)) :: (key40, sob EG 99 (((piS n gs ws ra rb i).1) ++ [(⟨(1 : Int), (ra).getD i 0, (rb).getD i 0⟩ : Gt)] ++ [(⟨(2 : Int), ws, wx33⟩ : Gt)]) sp42) :: (some b13, .cells (cel EI (padW ((piS n gs ws ra rb i).2))).toArray 153 (0, 0)) :: (some b1, .cells (cel EI ra).toArray 153 (0, 0)) :: (some b5, .cells (cel EI rb).toArray 153 (0, 0)) :: (some b9, .cells (cel EI (List.replicate 64 0)).toArray 153 (0, 0)) :: R)) rfl
      exact hK _ _ ⟨wx33, wx48, key40, c41, sp42, rfl, rfl, hS43, hwx33, hwx48, H45⟩
    refine WalkC.eff 2 rfl (fun r uw49 hF51 => ?_) ?_
    · skip
      obtain ⟨wx33, wx48, key40, c41, sp42, e14, e15, hS43, hwx33, hwx48, H50⟩ := hF51
      dsimp only [List.take, List.map, List.cons_append, List.nil_append]
      rw [e14, e15]
      refine Gives.ofW (d := 30) rfl rfl (fun Q' hK => ?_)
      have H52 := (H50).as (L' := ((some b, .cells #[i64 ((n : Nat)), .slice (ownA key40) (List.length (((piS n gs ws ra rb i).1) ++ [(⟨(1 : Int), (ra).getD i 0, (rb).getD i 0⟩ : Gt)] ++ [(⟨(2 : Int), ws, wx33⟩ : Gt)])) c41, .slice none 0 0] 151 (0, 0)) :: (key40, sob EG 99 (((piS n gs ws ra rb i).1) ++ [(⟨(1 : Int), (ra).getD i 0, (rb).getD i 0⟩ : Gt)] ++ [(⟨(2 : Int), ws, wx33⟩ : Gt)]) sp42) :: ((some b13, .cells (cel EI (padW ((piS n gs ws ra rb i).2))).toArray 153 (0, 0)) :: (some b1, .cells (cel EI ra).toArray 153 (0, 0)) :: (some b5, .cells (cel EI rb).toArray 153 (0, 0)) :: (some b9, .cells (cel EI (List.replicate 64 0)).toArray 153 (0, 0)) :: R))) rfl
      refine c_call (vs := [.pointer (some ⟨b, 0, none⟩), i64 ((1 : Int)), i64 ((rb).getD i 0), i64 (wx48)]) call76 rfl (gate_ok b n key40 c41 sp42 (((piS n gs ws ra rb i).1) ++ [(⟨(1 : Int), (ra).getD i 0, (rb).getD i 0⟩ : Gt)] ++ [(⟨(2 : Int), ws, wx33⟩ : Gt)]) hS43 hn (by simp only [List.length_append, List.length_cons, List.length_nil]; omega) (1 : Int) ((rb).getD i 0) wx48 ((some b13, .cells (cel EI (padW ((piS n gs ws ra rb i).2))).toArray 153 (0, 0)) :: (some b1, .cells (cel EI ra).toArray 153 (0, 0)) :: (some b5, .cells (cel EI rb).toArray 153 (0, 0)) :: (some b9, .cells (cel EI (List.replicate 64 0)).toArray 153 (0, 0)) :: R) w₀ uw49 H52) ?_
      rintro wv61 w53 ⟨hwv62, key55, c56, sp57, hS58, HN59⟩
      obtain ⟨wx63, hwx63⟩ : ∃ q, q = wrW n (((piS n gs ws ra rb i).1) ++ [(⟨(1 : Int), (ra).getD i 0, (rb).getD i 0⟩ : Gt)] ++ [(⟨(2 : Int), ws, wx33⟩ : Gt)]) := ⟨_, rfl⟩
      rw [← hwx63] at hwv62
      subst hwv62
      have H60 := HN59.as (L' := ((some b, .cells #[i64 ((n : Nat)), .slice (ownA key55) (List.length (((piS n gs ws ra rb i).1) ++ [(⟨(1 : Int), (ra).getD i 0, (rb).getD i 0⟩ : Gt)] ++ [(⟨(2 : Int), ws, wx33⟩ : Gt)] ++ [(⟨(1 : Int), (rb).getD i 0, wx48⟩ : Gt)])) c56, .slice none 0 0] 151 (0, 0)) :: (key55, sob EG 99 (((piS n gs ws ra rb i).1) ++ [(⟨(1 : Int), (ra).getD i 0, (rb).getD i 0⟩ : Gt)] ++ [(⟨(2 : Int), ws, wx33⟩ : Gt)] ++ [(⟨(1 : Int), (rb).getD i 0, wx48⟩ : Gt)]) sp57) :: (some b13, .cells (cel EI (padW ((piS n gs ws ra rb i).2))).toArray 153 (0, 0)) :: (some b1, .cells (cel EI ra).toArray 153 (0, 0)) :: (some b5, .cells (cel EI rb).toArray 153 (0, 0)) :: (some b9, .cells (cel EI (List.replicate 64 0)).toArray 153 (0, 0)) :: R)) rfl
      exact hK _ _ ⟨wx33, wx48, wx63, key55, c56, sp57, rfl, rfl, rfl, hS58, hwx33, hwx48, hwx63, H60⟩
    refine WalkC.look rfl (fun _ => .pointer (some ⟨b13, i, none⟩)) (fun _ _ _ => rfl) (fun q r uw _ _ _ _ => Gives.run rfl (r_indexA (off' := i) (j := i) arr153 (b := b13) (off := 0) rfl rfl (by first | rfl | omega | (simp; omega)) (by omega) (by omega)) ⟨rfl, rfl⟩) ?_
    refine WalkC.eff 3 rfl (fun r uw64 hF66 => ?_) ?_
    · skip
      obtain ⟨wx33, wx48, wx63, key55, c56, sp57, e14, e15, e16, hS58, hwx33, hwx48, hwx63, H65⟩ := hF66
      dsimp only [List.take, List.map, List.cons_append, List.nil_append]
      rw [e14, e15, e16]
      refine Gives.ofW0 rfl (fun Q' hK => ?_)
      refine d_store (k := 2) (v := i64 (wx63)) (cs' := (cel EI ((padW ((piS n gs ws ra rb i).2)).set i wx63)).toArray) H65 rfl rfl rfl siz3 (by rfl) (by exact EI.one _) (by rw [List.size_toArray, cel_length]; show _ ≤ _ * 1; first | omega | (simp only [List.length_set]; omega) | exact Nat.le_of_ble_eq_true rfl | (simp <;> omega)) (by exact put1 (E := EI) rfl _ _ _) ?_
      intro w67 H68 hC69
      have H68' := H68.as (L' := ((some b, .cells #[i64 ((n : Nat)), .slice (ownA key55) (List.length (((piS n gs ws ra rb i).1) ++ [(⟨(1 : Int), (ra).getD i 0, (rb).getD i 0⟩ : Gt)] ++ [(⟨(2 : Int), ws, wx33⟩ : Gt)] ++ [(⟨(1 : Int), (rb).getD i 0, wx48⟩ : Gt)])) c56, .slice none 0 0] 151 (0, 0)) :: (key55, sob EG 99 (((piS n gs ws ra rb i).1) ++ [(⟨(1 : Int), (ra).getD i 0, (rb).getD i 0⟩ : Gt)] ++ [(⟨(2 : Int), ws, wx33⟩ : Gt)] ++ [(⟨(1 : Int), (rb).getD i 0, wx48⟩ : Gt)]) sp57) :: (some b13, .cells (cel EI ((padW ((piS n gs ws ra rb i).2)).set i wx63)).toArray 153 (0, 0)) :: (some b1, .cells (cel EI ra).toArray 153 (0, 0)) :: (some b5, .cells (cel EI rb).toArray 153 (0, 0)) :: (some b9, .cells (cel EI (List.replicate 64 0)).toArray 153 (0, 0)) :: R)) rfl
      clear H68
      exact hK _ (fun _ => ⟨wx33, wx48, wx63, key55, c56, sp57, rfl, rfl, rfl, trivial, hS58, hwx33, hwx48, hwx63, H68'⟩)
    refine WalkC.nil ?_
    intro r70 w71 hF73
    obtain ⟨wx33, wx48, wx63, key55, c56, sp57, e14, e15, e16, e18, hS58, hwx33, hwx48, hwx63, H72⟩ := hF73
    dsimp only
    rw [e14, e15, e16]
    subst hwx63
    subst hwx48
    subst hwx33
    have e74 : ((piS n gs ws ra rb i).1) ++ [(⟨(1 : Int), (ra).getD i 0, (rb).getD i 0⟩ : Gt)] ++ [(⟨(2 : Int), ws, (wrW n ((piS n gs ws ra rb i).1))⟩ : Gt)] ++ [(⟨(1 : Int), (rb).getD i 0, (wrW n (((piS n gs ws ra rb i).1) ++ [(⟨(1 : Int), (ra).getD i 0, (rb).getD i 0⟩ : Gt)]))⟩ : Gt)] = (piS n gs ws ra rb (i + 1)).1 := by rfl
    have hS75 := hS58
    rw [e74] at hS75
    have H76 : Hp No w₀ w71 ((some b, .cells #[i64 ((n : Nat)), .slice (ownA key55) (List.length ((piS n gs ws ra rb (i + 1)).1)) c56, .slice none 0 0] 151 (0, 0)) :: (key55, sob EG 99 ((piS n gs ws ra rb (i + 1)).1) sp57) :: (some b13, .cells (cel EI ((padW ((piS n gs ws ra rb i).2)).set i (wrW n (((piS n gs ws ra rb i).1) ++ [(⟨(1 : Int), (ra).getD i 0, (rb).getD i 0⟩ : Gt)] ++ [(⟨(2 : Int), ws, (wrW n ((piS n gs ws ra rb i).1))⟩ : Gt)])))).toArray 153 (0, 0)) :: (some b1, .cells (cel EI ra).toArray 153 (0, 0)) :: (some b5, .cells (cel EI rb).toArray 153 (0, 0)) :: (some b9, .cells (cel EI (List.replicate 64 0)).toArray 153 (0, 0)) :: R) := by rw [← e74]; exact H72
    rw [padW_set (l := (piS n gs ws ra rb i).2) _ hpi.2 (by omega)] at H76
    have H77 := H76.as (L' := ((some b, .cells #[i64 ((n : Nat)), .slice (ownA key55) (List.length ((piS n gs ws ra rb (i + 1)).1)) c56, .slice none 0 0] 151 (0, 0)) :: (key55, sob EG 99 ((piS n gs ws ra rb (i + 1)).1) sp57) :: (some b13, .cells (cel EI (padW ((piS n gs ws ra rb (i + 1)).2))).toArray 153 (0, 0)) :: (some b1, .cells (cel EI ra).toArray 153 (0, 0)) :: (some b5, .cells (cel EI rb).toArray 153 (0, 0)) :: (some b9, .cells (cel EI (List.replicate 64 0)).toArray 153 (0, 0)) :: R)) rfl
    refine wnil ?_
    refine blockNormal ?_
    refine thenNormal ?_
    refine oneRegion ?_
    refine sq (r_addI (a := (i : Nat)) (b := (1 : Int)) rfl rfl (by omega)) ?_
    refine sq (r_move (v := i64 ((i : Nat) + (1 : Int))) rfl) ?_
    refine wnil ?_
    refine thenNormal ?_
    exact ⟨(i + 1, key55, c56, sp57), _, rfl, ⟨rfl, rfl, rfl, rfl, rfl, rfl, rfl, trivial⟩, ⟨⟨by omega, hS75⟩, H77⟩, by show 64 - (i + 1) < 64 - i; omega⟩
  · skip
    have hie : i = 64 := by omega
    have hrl := hpi.2.trans hie
    rw [padW_full hrl] at HL
    refine exitAny ?_
    refine thenExit ?_
    refine thenExit ?_
    refine blockHere ?_
    refine thenNormal ?_
    refine seqRegion ?_
    refine sq (r_loadA (cs' := (cel EI ((piS n gs ws ra rb i).2)).toArray) agg153 siz153 (HL.get (k := 2) rfl) (off := 0) rfl (by rw [List.size_toArray, cel_length]; show _ ≤ _ * 1; omega) (by exact ext_all (by rw [cel_length]; show _ * 1 = _; omega))) ?_
    refine d_store (k := 5) (v := .agg (cel EI ((piS n gs ws ra rb i).2)).toArray) (cs' := (cel EI ((piS n gs ws ra rb i).2)).toArray) HL rfl rfl rfl siz153 (by exact celSize (by rw [hrl]; rfl)) (by exact celOne _) (by rw [List.size_toArray, cel_length]; show _ ≤ _ * 1; first | omega | (simp only [List.length_set]; omega) | exact Nat.le_of_ble_eq_true rfl | (simp <;> omega)) (by exact putAll (by rw [List.length_replicate]; exact hrl.symm)) ?_
    intro w78 H79 hC80
    have H79' := H79.as (L' := ((some b, .cells #[i64 ((n : Nat)), .slice (ownA kz) (List.length ((piS n gs ws ra rb i).1)) cz, .slice none 0 0] 151 (0, 0)) :: (kz, sob EG 99 ((piS n gs ws ra rb i).1) sz) :: (some b13, .cells (cel EI ((piS n gs ws ra rb i).2)).toArray 153 (0, 0)) :: (some b1, .cells (cel EI ra).toArray 153 (0, 0)) :: (some b5, .cells (cel EI rb).toArray 153 (0, 0)) :: (some b9, .cells (cel EI ((piS n gs ws ra rb i).2)).toArray 153 (0, 0)) :: R)) rfl
    clear H79
    refine wend ?_
    refine retAny ?_
    refine retG (rs := [.cell 8 153]) (vs := [.agg (cel EI ((piS n gs ws ra rb i).2)).toArray]) rfl ⟨r_loadA (cs' := (cel EI ((piS n gs ws ra rb i).2)).toArray) agg153 siz153 (H79'.get (k := 5) rfl) (off := 0) rfl (by rw [List.size_toArray, cel_length]; show _ ≤ _ * 1; omega) (by exact ext_all (by rw [cel_length]; show _ * 1 = _; omega)), trivial⟩ ?_
    subst hie
    exact ⟨_, rfl, rfl, kz, cz, sz, hSz, ((((H79'.dropk 5).dropk 4).dropk 3).dropk 2)⟩
end Go.Proofs.YteofdmdpaejgaaaDoor.Cm
namespace Go.Proofs.YteofdmdpaejgaaaDoor.Cm
open Go Go.Proofs.YteofdmdpaejgaaaDoor.Vc Go.Proofs.YteofdmdpaejgaaaDoor.Er Go.Proofs.YteofdmdpaejgaaaDoor.Circ
set_option linter.unusedVariables false
theorem agg70 : isAgg' Tryd.prog 70 = true := by kernel_rfl
theorem arr154 : arr Tryd.prog 154 = some (2, 64) := by kernel_rfl
theorem call63 : callable Tryd.prog 63 = true := by kernel_rfl
theorem call73 : callable Tryd.prog 73 = true := by kernel_rfl
theorem call74 : callable Tryd.prog 74 = true := by kernel_rfl
theorem call75 : callable Tryd.prog 75 = true := by kernel_rfl
theorem fld70_2 : fld Tryd.prog 70 2 = some (2, 1, 60) := by kernel_rfl
theorem pls151 : pls Tryd.prog 151 = some #[(0, 3)] := by kernel_rfl
theorem pls70 : pls Tryd.prog 70 = some #[(0, 1), (1, 1), (2, 1)] := by kernel_rfl
theorem siz60 : siz Tryd.prog 60 = some 1 := by kernel_rfl
theorem siz70 : siz Tryd.prog 70 = some 3 := by kernel_rfl
theorem und57 : Tryd.prog.underlying 57 = some (.int .i64) := by kernel_rfl
theorem zer151 : zer Tryd.prog 151 = some (.agg #[.int .i64 0, .slice none 0 0, .slice none 0 0]) := by kernel_rfl
theorem zer154 : zer Tryd.prog 154 = some (.agg (List.replicate 128 (.int .i64 0)).toArray) := by kernel_rfl
theorem zer70 : zer Tryd.prog 70 = some (.agg #[.int .i64 0, .slice none 0 0, .slice none 0 0]) := by kernel_rfl
theorem make_bad (kd : Int) (fm : BitVec 64) (w : World) (hG : Gl w) (hb : ¬ (kd = 1 ∧ fm < 2#64) ∧ ¬ ((kd = 2 ∨ kd = 3) ∧ fm < 4#64)) : Calls Tryd.prog 29 [i64 (kd), u64 (fm)].toArray w (Ret fun v w' => (∃ ev, v = .tuple #[.agg #[i64 (0 : Int), .slice none 0 0, .slice none 0 0], ev] ∧ Er w.heap.size w' 1 1 ev) ∧ Ext w w') := by
  have H := Hp.start No w
  refine enter (n := 131) Tryd.func29 rfl rfl (Nat.le_of_ble_eq_true rfl) ?_
  refine seqRegion ?_
  refine q_alloc (o := .cells #[i64 ((0 : Int)), .slice none 0 0, .slice none 0 0] 70 (0, 0)) H zer70 (by kernel_rfl) ?_
  intro b1 w2 hb1 H3 hE4
  refine sq (r_assign (v := .nilIface) rfl) ?_
  refine wend ?_
  refine seqRegion ?_
  refine sq (r_assign (v := i64 ((2 : Int))) rfl) ?_
  refine wend ?_
  refine seqAny ?_
  refine seqRegion ?_
  refine sq (r_move (v := i64 (kd)) rfl) ?_
  refine wend ?_
  refine blockAny ?_
  refine seqAny ?_
  refine blockAny ?_
  refine seqAny ?_
  refine blockAny ?_
  refine seqAny ?_
  refine blockAny ?_
  refine seqAny ?_
  refine seqAny ?_
  refine seqRegion ?_
  refine sq (r_eqlI (a := kd) (b := (1 : Int)) rfl rfl) ?_
  refine sq (r_assign (v := .bool (decide ((kd : Int) = (1 : Int)))) rfl) ?_
  refine wend ?_
  refine condProp ((kd : Int) = (1 : Int)) rfl (fun c18 => ?_) (fun c18 => ?_)
  · skip
    refine exitAny ?_
    refine thenExit ?_
    refine thenExit ?_
    refine blockHere ?_
    refine thenNormal ?_
    refine oneRegion ?_
    refine sq (r_assign (v := i64 ((1 : Int))) rfl) ?_
    refine wnil ?_
    refine blockNormal ?_
    refine thenNormal ?_
    refine seqRegion ?_
    refine sq (r_move (v := u64 (fm)) rfl) ?_
    refine sq (r_move (v := i64 ((1 : Int))) rfl) ?_
    refine sq (r_shl64 (a := 1#64) (c := 1) rfl rfl) ?_
    refine sq (r_lss64 (a := fm) (b := (1#64) <<< (1 : Nat)) rfl rfl) ?_
    refine wend ?_
    refine condProp (fm.toNat < ((1#64) <<< (1 : Nat)).toNat) rfl (fun c26 => ?_) (fun c26 => ?_)
    · skip
      exfalso
      first | exact hb.1 ⟨c18, c26⟩ | exact hb.2 ⟨.inl c20, c26⟩ | exact hb.2 ⟨.inr c20, c26⟩
    · skip
      refine skipAny ?_
      refine blockNormal ?_
      refine thenNormal ?_
      refine seqAny ?_
      refine seqRegion ?_
      refine sq (r_build (cs' := #[.int .i64 0, .slice none 0 0, .slice none 0 0]) (ps := []) zer70 pls70 rfl (by rfl)) ?_
      refine sq (r_mkI und57 (xv := i64 ((1 : Int))) rfl) ?_
      refine sq (r_move (v := i64 (kd)) rfl) ?_
      have := H3.lt (List.mem_of_getElem? (i := 0) rfl) rfl
      refine c_call (vs := [.iface 57 (i64 ((1 : Int))), .string ({data := #[109, 97, 107, 101]}), i64 (kd)]) call63 rfl (wrap0_ok (1 : Int) kd ({data := #[109, 97, 107, 101]}) w2 (Chg.gl H3.chg (fun x => x) hG)) ?_
      rintro v7 w5 ⟨hEr8, hE9⟩
      have H10 := H3.ext hE9
      obtain ⟨T11, x12, rfl⟩ := hEr8.iface
      refine d_store (k := 0) (v := .agg #[.int .i64 0, .slice none 0 0, .slice none 0 0]) (cs' := #[i64 ((0 : Int)), .slice none 0 0, .slice none 0 0]) H10 rfl rfl rfl siz70 (by rfl) (by intro u hu; simp [Value.cells] at hu; first | (subst hu; rfl) | (rcases hu with rfl | rfl | rfl <;> rfl)) (by exact Nat.le_of_ble_eq_true rfl) (by rfl) ?_
      intro w13 H14 hC15
      have H14' := H14.as (L' := [(some b1, .cells #[i64 ((0 : Int)), .slice none 0 0, .slice none 0 0] 70 (0, 0))]) rfl
      clear H14
      refine sq (r_assign (v := .iface T11 (x12)) rfl) ?_
      refine wend ?_
      refine retAny ?_
      refine thenRet ?_
      refine blockRet ?_
      refine thenRet ?_
      refine retG (rs := [.cell 4 70, .tmp 5]) (vs := [.agg #[i64 ((0 : Int)), .slice none 0 0, .slice none 0 0], .iface T11 (x12)]) rfl ⟨r_loadA (cs' := #[i64 ((0 : Int)), .slice none 0 0, .slice none 0 0]) agg70 siz70 (H14'.get (k := 0) rfl) (off := 0) rfl (by exact Nat.le_of_ble_eq_true rfl) (by rfl), ⟨rfl, rfl⟩, trivial⟩ ?_
      exact ⟨_, rfl, ⟨_, rfl, (Er.chgs (hC15.mono (M' := fun x => x = b1) (fun _ h => by subst h; simp)) (fun x h1 h2 h3 => by have := hC15.size; rcases h3 with rfl <;> omega) hEr8).mono H3.chg.size⟩, H14'.chg⟩
  · skip
    refine skipAny ?_
    refine thenNormal ?_
    refine seqAny ?_
    refine seqRegion ?_
    refine sq (r_eqlI (a := kd) (b := (2 : Int)) rfl rfl) ?_
    refine sq (r_assign (v := .bool (decide ((kd : Int) = (2 : Int)))) rfl) ?_
    refine wend ?_
    refine condProp ((kd : Int) = (2 : Int)) rfl (fun c20 => ?_) (fun c20 => ?_)
    · skip
      refine skipAny ?_
      refine thenNormal ?_
      refine condTrue (congrArg Value.bool (decide_eq_true c20)) ?_
      refine exitAny ?_
      refine thenExit ?_
      refine blockOut rfl ?_
      refine thenExit ?_
      refine blockHere ?_
      refine thenNormal ?_
      refine seqRegion ?_
      refine sq (r_move (v := u64 (fm)) rfl) ?_
      refine sq (r_move (v := i64 ((2 : Int))) rfl) ?_
      refine sq (r_shl64 (a := 1#64) (c := 2) rfl rfl) ?_
      refine sq (r_lss64 (a := fm) (b := (1#64) <<< (2 : Nat)) rfl rfl) ?_
      refine wend ?_
      refine condProp (fm.toNat < ((1#64) <<< (2 : Nat)).toNat) rfl (fun c26 => ?_) (fun c26 => ?_)
      · skip
        exfalso
        first | exact hb.1 ⟨c18, c26⟩ | exact hb.2 ⟨.inl c20, c26⟩ | exact hb.2 ⟨.inr c20, c26⟩
      · skip
        refine skipAny ?_
        refine blockNormal ?_
        refine thenNormal ?_
        refine seqAny ?_
        refine seqRegion ?_
        refine sq (r_build (cs' := #[.int .i64 0, .slice none 0 0, .slice none 0 0]) (ps := []) zer70 pls70 rfl (by rfl)) ?_
        refine sq (r_mkI und57 (xv := i64 ((1 : Int))) rfl) ?_
        refine sq (r_move (v := i64 (kd)) rfl) ?_
        have := H3.lt (List.mem_of_getElem? (i := 0) rfl) rfl
        refine c_call (vs := [.iface 57 (i64 ((1 : Int))), .string ({data := #[109, 97, 107, 101]}), i64 (kd)]) call63 rfl (wrap0_ok (1 : Int) kd ({data := #[109, 97, 107, 101]}) w2 (Chg.gl H3.chg (fun x => x) hG)) ?_
        rintro v18 w16 ⟨hEr19, hE20⟩
        have H21 := H3.ext hE20
        obtain ⟨T22, x23, rfl⟩ := hEr19.iface
        refine d_store (k := 0) (v := .agg #[.int .i64 0, .slice none 0 0, .slice none 0 0]) (cs' := #[i64 ((0 : Int)), .slice none 0 0, .slice none 0 0]) H21 rfl rfl rfl siz70 (by rfl) (by intro u hu; simp [Value.cells] at hu; first | (subst hu; rfl) | (rcases hu with rfl | rfl | rfl <;> rfl)) (by exact Nat.le_of_ble_eq_true rfl) (by rfl) ?_
        intro w24 H25 hC26
        have H25' := H25.as (L' := [(some b1, .cells #[i64 ((0 : Int)), .slice none 0 0, .slice none 0 0] 70 (0, 0))]) rfl
        clear H25
        refine sq (r_assign (v := .iface T22 (x23)) rfl) ?_
        refine wend ?_
        refine retAny ?_
        refine thenRet ?_
        refine blockRet ?_
        refine thenRet ?_
        refine retG (rs := [.cell 4 70, .tmp 5]) (vs := [.agg #[i64 ((0 : Int)), .slice none 0 0, .slice none 0 0], .iface T22 (x23)]) rfl ⟨r_loadA (cs' := #[i64 ((0 : Int)), .slice none 0 0, .slice none 0 0]) agg70 siz70 (H25'.get (k := 0) rfl) (off := 0) rfl (by exact Nat.le_of_ble_eq_true rfl) (by rfl), ⟨rfl, rfl⟩, trivial⟩ ?_
        exact ⟨_, rfl, ⟨_, rfl, (Er.chgs (hC26.mono (M' := fun x => x = b1) (fun _ h => by subst h; simp)) (fun x h1 h2 h3 => by have := hC26.size; rcases h3 with rfl <;> omega) hEr19).mono H3.chg.size⟩, H25'.chg⟩
    · skip
      refine oneRegion ?_
      refine sq (r_eqlI (a := kd) (b := (3 : Int)) rfl rfl) ?_
      refine sq (r_assign (v := .bool (decide ((kd : Int) = (3 : Int)))) rfl) ?_
      refine wnil ?_
      refine thenNormal ?_
      refine condProp ((kd : Int) = (3 : Int)) rfl (fun c20 => ?_) (fun c20 => ?_)
      · skip
        refine exitAny ?_
        refine thenExit ?_
        refine blockOut rfl ?_
        refine thenExit ?_
        refine blockHere ?_
        refine thenNormal ?_
        refine seqRegion ?_
        refine sq (r_move (v := u64 (fm)) rfl) ?_
        refine sq (r_move (v := i64 ((2 : Int))) rfl) ?_
        refine sq (r_shl64 (a := 1#64) (c := 2) rfl rfl) ?_
        refine sq (r_lss64 (a := fm) (b := (1#64) <<< (2 : Nat)) rfl rfl) ?_
        refine wend ?_
        refine condProp (fm.toNat < ((1#64) <<< (2 : Nat)).toNat) rfl (fun c26 => ?_) (fun c26 => ?_)
        · skip
          exfalso
          first | exact hb.1 ⟨c18, c26⟩ | exact hb.2 ⟨.inl c20, c26⟩ | exact hb.2 ⟨.inr c20, c26⟩
        · skip
          refine skipAny ?_
          refine blockNormal ?_
          refine thenNormal ?_
          refine seqAny ?_
          refine seqRegion ?_
          refine sq (r_build (cs' := #[.int .i64 0, .slice none 0 0, .slice none 0 0]) (ps := []) zer70 pls70 rfl (by rfl)) ?_
          refine sq (r_mkI und57 (xv := i64 ((1 : Int))) rfl) ?_
          refine sq (r_move (v := i64 (kd)) rfl) ?_
          have := H3.lt (List.mem_of_getElem? (i := 0) rfl) rfl
          refine c_call (vs := [.iface 57 (i64 ((1 : Int))), .string ({data := #[109, 97, 107, 101]}), i64 (kd)]) call63 rfl (wrap0_ok (1 : Int) kd ({data := #[109, 97, 107, 101]}) w2 (Chg.gl H3.chg (fun x => x) hG)) ?_
          rintro v29 w27 ⟨hEr30, hE31⟩
          have H32 := H3.ext hE31
          obtain ⟨T33, x34, rfl⟩ := hEr30.iface
          refine d_store (k := 0) (v := .agg #[.int .i64 0, .slice none 0 0, .slice none 0 0]) (cs' := #[i64 ((0 : Int)), .slice none 0 0, .slice none 0 0]) H32 rfl rfl rfl siz70 (by rfl) (by intro u hu; simp [Value.cells] at hu; first | (subst hu; rfl) | (rcases hu with rfl | rfl | rfl <;> rfl)) (by exact Nat.le_of_ble_eq_true rfl) (by rfl) ?_
          intro w35 H36 hC37
          have H36' := H36.as (L' := [(some b1, .cells #[i64 ((0 : Int)), .slice none 0 0, .slice none 0 0] 70 (0, 0))]) rfl
          clear H36
          refine sq (r_assign (v := .iface T33 (x34)) rfl) ?_
          refine wend ?_
          refine retAny ?_
          refine thenRet ?_
          refine blockRet ?_
          refine thenRet ?_
          refine retG (rs := [.cell 4 70, .tmp 5]) (vs := [.agg #[i64 ((0 : Int)), .slice none 0 0, .slice none 0 0], .iface T33 (x34)]) rfl ⟨r_loadA (cs' := #[i64 ((0 : Int)), .slice none 0 0, .slice none 0 0]) agg70 siz70 (H36'.get (k := 0) rfl) (off := 0) rfl (by exact Nat.le_of_ble_eq_true rfl) (by rfl), ⟨rfl, rfl⟩, trivial⟩ ?_
          exact ⟨_, rfl, ⟨_, rfl, (Er.chgs (hC37.mono (M' := fun x => x = b1) (fun _ h => by subst h; simp)) (fun x h1 h2 h3 => by have := hC37.size; rcases h3 with rfl <;> omega) hEr30).mono H3.chg.size⟩, H36'.chg⟩
      · skip
        refine skipAny ?_
        refine thenNormal ?_
        refine exitAny ?_
        refine blockOut rfl ?_
        refine thenExit ?_
        refine blockOut rfl ?_
        refine thenExit ?_
        refine blockHere ?_
        refine thenNormal ?_
        refine seqAny ?_
        refine seqRegion ?_
        refine sq (r_build (cs' := #[.int .i64 0, .slice none 0 0, .slice none 0 0]) (ps := []) zer70 pls70 rfl (by rfl)) ?_
        refine sq (r_mkI und57 (xv := i64 ((1 : Int))) rfl) ?_
        refine sq (r_move (v := i64 (kd)) rfl) ?_
        have := H3.lt (List.mem_of_getElem? (i := 0) rfl) rfl
        refine c_call (vs := [.iface 57 (i64 ((1 : Int))), .string ({data := #[109, 97, 107, 101]}), i64 (kd)]) call63 rfl (wrap0_ok (1 : Int) kd ({data := #[109, 97, 107, 101]}) w2 (Chg.gl H3.chg (fun x => x) hG)) ?_
        rintro v40 w38 ⟨hEr41, hE42⟩
        have H43 := H3.ext hE42
        obtain ⟨T44, x45, rfl⟩ := hEr41.iface
        refine d_store (k := 0) (v := .agg #[.int .i64 0, .slice none 0 0, .slice none 0 0]) (cs' := #[i64 ((0 : Int)), .slice none 0 0, .slice none 0 0]) H43 rfl rfl rfl siz70 (by rfl) (by intro u hu; simp [Value.cells] at hu; first | (subst hu; rfl) | (rcases hu with rfl | rfl | rfl <;> rfl)) (by exact Nat.le_of_ble_eq_true rfl) (by rfl) ?_
        intro w46 H47 hC48
        have H47' := H47.as (L' := [(some b1, .cells #[i64 ((0 : Int)), .slice none 0 0, .slice none 0 0] 70 (0, 0))]) rfl
        clear H47
        refine sq (r_assign (v := .iface T44 (x45)) rfl) ?_
        refine wend ?_
        refine retAny ?_
        refine thenRet ?_
        refine blockRet ?_
        refine thenRet ?_
        refine retG (rs := [.cell 4 70, .tmp 5]) (vs := [.agg #[i64 ((0 : Int)), .slice none 0 0, .slice none 0 0], .iface T44 (x45)]) rfl ⟨r_loadA (cs' := #[i64 ((0 : Int)), .slice none 0 0, .slice none 0 0]) agg70 siz70 (H47'.get (k := 0) rfl) (off := 0) rfl (by exact Nat.le_of_ble_eq_true rfl) (by rfl), ⟨rfl, rfl⟩, trivial⟩ ?_
        exact ⟨_, rfl, ⟨_, rfl, (Er.chgs (hC48.mono (M' := fun x => x = b1) (fun _ h => by subst h; simp)) (fun x h1 h2 h3 => by have := hC48.size; rcases h3 with rfl <;> omega) hEr41).mono H3.chg.size⟩, H47'.chg⟩
set_option maxHeartbeats 2000000 in
theorem make_k1 (fm : BitVec 64) (hf : fm < 2#64) (w : World) : Calls Tryd.prog 29 [i64 (1 : Int), u64 fm].toArray w (Ret fun v w' => ∃ (key : Option Nat) (c : Nat) (sp : List Value) (b : Nat), v = .tuple #[.agg #[i64 ((128 : Nat) : Int), .slice (ownA key) (mk1 (fbS fm 0)).1.length c, .slice (some ⟨b, 0, none⟩) 64 64], .nilIface] ∧ Sl EG key (mk1 (fbS fm 0)).1 c sp ∧ Hp No w w' [(key, sob EG 99 (mk1 (fbS fm 0)).1 sp), (some b, .cells (cel EI (mk1 (fbS fm 0)).2).toArray 153 (0, 0))]) := by
  have H := Hp.start No w
  refine enter (n := 131) Tryd.func29 rfl rfl (Nat.le_of_ble_eq_true rfl) ?_
  refine seqRegion ?_
  refine q_alloc (o := .cells #[i64 ((0 : Int)), .slice none 0 0, .slice none 0 0] 70 (0, 0)) H zer70 (by kernel_rfl) ?_
  intro b1 w2 hb1 H3 hE4
  refine sq (r_assign (v := .nilIface) rfl) ?_
  refine wend ?_
  refine seqRegion ?_
  refine sq (r_assign (v := i64 ((2 : Int))) rfl) ?_
  refine wend ?_
  refine seqAny ?_
  refine seqRegion ?_
  refine sq (r_move (v := i64 ((1 : Int))) rfl) ?_
  refine wend ?_
  refine blockAny ?_
  refine seqAny ?_
  refine blockAny ?_
  refine seqAny ?_
  refine blockAny ?_
  refine seqAny ?_
  refine blockAny ?_
  refine seqAny ?_
  refine seqAny ?_
  refine seqRegion ?_
  refine sq ((r_eqlI (a := (1 : Int)) (b := (1 : Int)) rfl rfl).as (v' := .bool (true)) (by rfl)) ?_
  refine sq (r_assign (v := .bool (true)) rfl) ?_
  refine wend ?_
  refine condTrue rfl ?_
  refine exitAny ?_
  refine thenExit ?_
  refine thenExit ?_
  refine blockHere ?_
  refine thenNormal ?_
  refine oneRegion ?_
  refine sq (r_assign (v := i64 ((1 : Int))) rfl) ?_
  refine wnil ?_
  refine blockNormal ?_
  refine thenNormal ?_
  refine seqRegion ?_
  refine sq (r_move (v := u64 (fm)) rfl) ?_
  refine sq (r_move (v := i64 ((1 : Int))) rfl) ?_
  refine sq (r_shl64 (a := 1#64) (c := 1) rfl rfl) ?_
  refine sq ((r_lss64 (a := fm) (b := (1#64) <<< (1 : Nat)) rfl rfl).as (v' := .bool (true)) (by exact congrArg Value.bool (decide_eq_true hf))) ?_
  refine wend ?_
  refine condTrue rfl ?_
  refine exitAny ?_
  refine blockOut rfl ?_
  refine thenExit ?_
  refine blockHere ?_
  refine thenNormal ?_
  refine seqRegion ?_
  refine sq (r_move (v := i64 ((1 : Int))) rfl) ?_
  refine sq ((r_mulI (a := (128 : Int)) (b := (1 : Int)) rfl rfl (by omega)).as (v' := i64 ((128 : Nat))) (by rfl)) ?_
  refine sq (r_build (cs' := #[i64 ((128 : Nat)), .slice none 0 0, .slice none 0 0]) (ps := [(0, i64 ((128 : Nat)))]) zer70 pls70 rfl (by rfl)) ?_
  refine sq (r_build (cs' := #[i64 ((128 : Nat)), .slice none 0 0, .slice none 0 0]) (ps := [(0, .agg #[i64 ((128 : Nat)), .slice none 0 0, .slice none 0 0])]) zer151 pls151 rfl (by rfl)) ?_
  refine q_box (v := .agg #[i64 ((128 : Nat)), .slice none 0 0, .slice none 0 0]) (o := .cells #[i64 ((128 : Nat)), .slice none 0 0, .slice none 0 0] 151 (0, 0)) H3 rfl (by rfl) ?_
  intro b5 w6 hb5 H7 hE8
  refine sq (r_assign (v := .pointer (some ⟨b5, 0, none⟩)) rfl) ?_
  have H9 := H7.nil (sob EG 99 [] [])
  have H10 := H9.as (L' := [(none, sob EG 99 ([]) ([])), (some b5, .cells #[i64 ((128 : Nat)), .slice (ownA none) (List.length ([] : List Gt)) 0, .slice none 0 0] 151 (0, 0)), (some b1, .cells #[i64 ((0 : Int)), .slice none 0 0, .slice none 0 0] 70 (0, 0))]) rfl
  refine wend ?_
  refine seqRegion ?_
  refine q_alloc (o := .cells (cel EI (List.replicate 128 0)).toArray 154 (0, 0)) H10 zer154 (by kernel_rfl) ?_
  intro b11 w12 hb11 H13 hE14
  rw [padX_nil] at H13
  refine wend ?_
  refine seqAny ?_
  refine seqRegion ?_
  refine sq (r_move (v := i64 ((1 : Int))) rfl) ?_
  refine sq (r_move (v := i64 ((0 : Int))) rfl) ?_
  refine wend ?_
  refine blockAny ?_
  refine loopAny (σ := Nat × Option Nat × Nat × List Value) (fun (i, kz, cz, sz) => [(0, i64 ((1 : Int))), (1, u64 (fm)), (4, .pointer (some ⟨b1, 0, none⟩)), (7, .pointer (some ⟨b5, 0, none⟩)), (8, .pointer (some ⟨b11, 0, none⟩)), (36, i64 ((1 : Int))), (37, i64 ((i : Nat)))]) (fun (i, kz, cz, sz) w' => (i ≤ 1 ∧ Sl EG kz (opsS 128 fm i).1 cz sz) ∧ Hp No w w' [(some b5, .cells #[i64 ((128 : Nat)), .slice (ownA kz) (List.length ((opsS 128 fm i).1)) cz, .slice none 0 0] 151 (0, 0)), (kz, sob EG 99 ((opsS 128 fm i).1) sz), (some b11, .cells (cel EI (padX ((opsS 128 fm i).2))).toArray 154 (0, 0)), (some b1, .cells #[i64 ((0 : Int)), .slice none 0 0, .slice none 0 0] 70 (0, 0))]) (fun (i, kz, cz, sz) => 1 - i) ((0, none, 0, [])) ?_ ?_ ?_
  · exact ⟨rfl, rfl, rfl, rfl, rfl, rfl, rfl, trivial⟩
  · exact ⟨⟨by omega, Sl.none⟩, (H13.pick 4 [2, 1, 0, 3] (by decide) (by decide))⟩
  rintro ⟨i, kz, cz, sz⟩ ρ w15 ⟨⟨hq, hSz⟩, HL⟩
  have hol := opsS_len 128 fm i
  have hi1 := inW_len (64 * (2 * i)) 64
  have hi2 := inW_len (64 * (2 * i + 1)) 64
  have hpx : (padX (opsS 128 fm i).2).length = 128 := padX_len (by rw [hol.2]; omega)
  refine seqRegion ?_
  refine sq (r_lssI (a := (i : Nat)) (b := (1 : Int)) rfl rfl) ?_
  refine wend ?_
  refine seqAny ?_
  refine condProp (((i : Nat) : Int) < (1 : Int)) rfl (fun c38 => ?_) (fun c38 => ?_)
  · skip
    refine skipAny ?_
    refine thenNormal ?_
    refine seqAny ?_
    refine blockAny ?_
    refine seqRegion ?_
    refine sq (r_move (v := i64 ((i : Nat))) rfl) ?_
    refine sq (r_assign (v := i64 ((i : Nat))) rfl) ?_
    refine wend ?_
    refine seqRegion ?_
    refine sq (r_move (v := .pointer (some ⟨b5, 0, none⟩)) rfl) ?_
    refine sq (r_move (v := i64 ((i : Nat))) rfl) ?_
    refine sq ((r_mulI (a := (2 : Int)) (b := (i : Nat)) rfl rfl (by omega)).as (v' := i64 (((2 * i) : Nat))) (by exact congrArg i64 (by omega))) ?_
    refine c_call (vs := [.pointer (some ⟨b5, 0, none⟩), i64 (((2 * i) : Nat))]) call73 rfl (input_ok b5 (2 * i) (by omega) w15) ?_
    rintro _ w17 ⟨rfl, hE18⟩
    have H19 := HL.ext hE18
    refine sq (r_move (v := .pointer (some ⟨b5, 0, none⟩)) rfl) ?_
    refine sq (r_move (v := i64 ((i : Nat))) rfl) ?_
    refine sq ((r_mulI (a := (2 : Int)) (b := (i : Nat)) rfl rfl (by omega)).as (v' := i64 (((2 * i) : Nat))) (by exact congrArg i64 (by omega))) ?_
    refine sq ((r_addI (a := ((2 * i) : Nat)) (b := (1 : Int)) rfl rfl (by omega)).as (v' := i64 (((2 * i + 1) : Nat))) (by exact congrArg i64 (by omega))) ?_
    refine c_call (vs := [.pointer (some ⟨b5, 0, none⟩), i64 (((2 * i + 1) : Nat))]) call73 rfl (input_ok b5 (2 * i + 1) (by omega) w17) ?_
    rintro _ w20 ⟨rfl, hE21⟩
    have H22 := H19.ext hE21
    refine q_alloc (o := .cells (cel EI (List.replicate 64 0)).toArray 153 (0, 0)) H22 zer153 (by kernel_rfl) ?_
    intro b23 w24 hb23 H25 hE26
    refine q_alloc (o := .cells (cel EI (List.replicate 64 0)).toArray 153 (0, 0)) H25 zer153 (by kernel_rfl) ?_
    intro b27 w28 hb27 H29 hE30
    refine d_store (k := 1) (v := .agg (cel EI (inW (64 * (2 * i)) 64)).toArray) (cs' := (cel EI (inW (64 * (2 * i)) 64)).toArray) H29 rfl rfl rfl siz153 (by exact celSize (by rw [hi1]; rfl)) (by exact celOne _) (by rw [List.size_toArray, cel_length]; show _ ≤ _ * 1; first | omega | (simp only [List.length_set]; omega) | exact Nat.le_of_ble_eq_true rfl | (simp <;> omega)) (by exact putAll (by rw [List.length_replicate]; exact hi1.symm)) ?_
    intro w31 H32 hC33
    have H32' := H32.as (L' := [(some b27, .cells (cel EI (List.replicate 64 0)).toArray 153 (0, 0)), (some b23, .cells (cel EI (inW (64 * (2 * i)) 64)).toArray 153 (0, 0)), (some b5, .cells #[i64 ((128 : Nat)), .slice (ownA kz) (List.length ((opsS 128 fm i).1)) cz, .slice none 0 0] 151 (0, 0)), (kz, sob EG 99 ((opsS 128 fm i).1) sz), (some b11, .cells (cel EI (padX ((opsS 128 fm i).2))).toArray 154 (0, 0)), (some b1, .cells #[i64 ((0 : Int)), .slice none 0 0, .slice none 0 0] 70 (0, 0))]) rfl
    clear H32
    refine d_store (k := 0) (v := .agg (cel EI (inW (64 * (2 * i + 1)) 64)).toArray) (cs' := (cel EI (inW (64 * (2 * i + 1)) 64)).toArray) H32' rfl rfl rfl siz153 (by exact celSize (by rw [hi2]; rfl)) (by exact celOne _) (by rw [List.size_toArray, cel_length]; show _ ≤ _ * 1; first | omega | (simp only [List.length_set]; omega) | exact Nat.le_of_ble_eq_true rfl | (simp <;> omega)) (by exact putAll (by rw [List.length_replicate]; exact hi2.symm)) ?_
    intro w34 H35 hC36
    have H35' := H35.as (L' := [(some b27, .cells (cel EI (inW (64 * (2 * i + 1)) 64)).toArray 153 (0, 0)), (some b23, .cells (cel EI (inW (64 * (2 * i)) 64)).toArray 153 (0, 0)), (some b5, .cells #[i64 ((128 : Nat)), .slice (ownA kz) (List.length ((opsS 128 fm i).1)) cz, .slice none 0 0] 151 (0, 0)), (kz, sob EG 99 ((opsS 128 fm i).1) sz), (some b11, .cells (cel EI (padX ((opsS 128 fm i).2))).toArray 154 (0, 0)), (some b1, .cells #[i64 ((0 : Int)), .slice none 0 0, .slice none 0 0] 70 (0, 0))]) rfl
    clear H35
    refine wend ?_
    refine seqRegion ?_
    refine sq (r_move (v := u64 (fm)) rfl) ?_
    refine sq (r_move (v := i64 ((i : Nat))) rfl) ?_
    refine sq (r_shr64 (a := fm) (c := i) rfl rfl) ?_
    refine sq (r_and64 (a := fm >>> (i : Nat)) (b := 1#64) rfl rfl) ?_
    refine sq (r_eql64 (a := (fm >>> (i : Nat)) &&& (1#64)) (b := 1#64) rfl rfl) ?_
    refine wend ?_
    refine condProp (((fm >>> (i : Nat)) &&& (1#64)) = (1#64)) rfl (fun c53 => ?_) (fun c53 => ?_)
    · skip
      refine oneRegion ?_
      refine sq (r_move (v := i64 ((i : Nat))) rfl) ?_
      refine sq (r_move (v := .pointer (some ⟨b5, 0, none⟩)) rfl) ?_
      refine sq (r_loadA (cs' := (cel EI (inW (64 * (2 * i)) 64)).toArray) agg153 siz153 (H35'.get (k := 1) rfl) (off := 0) rfl (by rw [List.size_toArray, cel_length]; show _ ≤ _ * 1; omega) (by exact ext_all (by rw [cel_length]; show _ * 1 = _; omega))) ?_
      refine sq (r_loadA (cs' := (cel EI (inW (64 * (2 * i + 1)) 64)).toArray) agg153 siz153 (H35'.get (k := 0) rfl) (off := 0) rfl (by rw [List.size_toArray, cel_length]; show _ ≤ _ * 1; omega) (by exact ext_all (by rw [cel_length]; show _ * 1 = _; omega))) ?_
      have H37 := ((H35'.pick 6 [2, 3, 0, 1, 4, 5] (by decide) (by decide))).as (L' := ((some b5, .cells #[i64 ((128 : Nat)), .slice (ownA kz) (List.length ((opsS 128 fm i).1)) cz, .slice none 0 0] 151 (0, 0)) :: (kz, sob EG 99 ((opsS 128 fm i).1) sz) :: [(some b27, .cells (cel EI (inW (64 * (2 * i + 1)) 64)).toArray 153 (0, 0)), (some b23, .cells (cel EI (inW (64 * (2 * i)) 64)).toArray 153 (0, 0)), (some b11, .cells (cel EI (padX ((opsS 128 fm i).2))).toArray 154 (0, 0)), (some b1, .cells #[i64 ((0 : Int)), .slice none 0 0, .slice none 0 0] 70 (0, 0))])) rfl
      refine c_call (vs := [.pointer (some ⟨b5, 0, none⟩), .agg (cel EI (inW (64 * (2 * i)) 64)).toArray, .agg (cel EI (inW (64 * (2 * i + 1)) 64)).toArray]) call74 rfl (mxor_ok b5 128 kz cz sz ((opsS 128 fm i).1) hSz (by omega) (by omega) (inW (64 * (2 * i)) 64) (inW (64 * (2 * i + 1)) 64) (by omega) (by omega) [(some b27, .cells (cel EI (inW (64 * (2 * i + 1)) 64)).toArray 153 (0, 0)), (some b23, .cells (cel EI (inW (64 * (2 * i)) 64)).toArray 153 (0, 0)), (some b11, .cells (cel EI (padX ((opsS 128 fm i).2))).toArray 154 (0, 0)), (some b1, .cells #[i64 ((0 : Int)), .slice none 0 0, .slice none 0 0] 70 (0, 0))] w w34 H37) ?_
      rintro _ w38 ⟨rfl, key40, c41, sp42, hS43, HN44⟩
      have H45 := HN44.as (L' := [(some b5, .cells #[i64 ((128 : Nat)), .slice (ownA key40) (List.length ((xoS 128 ((opsS 128 fm i).1) (inW (64 * (2 * i)) 64) (inW (64 * (2 * i + 1)) 64) 64).1)) c41, .slice none 0 0] 151 (0, 0)), (key40, sob EG 99 ((xoS 128 ((opsS 128 fm i).1) (inW (64 * (2 * i)) 64) (inW (64 * (2 * i + 1)) 64) 64).1) sp42), (some b27, .cells (cel EI (inW (64 * (2 * i + 1)) 64)).toArray 153 (0, 0)), (some b23, .cells (cel EI (inW (64 * (2 * i)) 64)).toArray 153 (0, 0)), (some b11, .cells (cel EI (padX ((opsS 128 fm i).2))).toArray 154 (0, 0)), (some b1, .cells #[i64 ((0 : Int)), .slice none 0 0, .slice none 0 0] 70 (0, 0))]) rfl
      have hnr : (xoS 128 ((opsS 128 fm i).1) (inW (64 * (2 * i)) 64) (inW (64 * (2 * i + 1)) 64) 64).2.length = 64 := (xoS_len 128 ((opsS 128 fm i).1) (inW (64 * (2 * i)) 64) (inW (64 * (2 * i + 1)) 64) 64).2
      refine sq (r_indexA (off' := i * 64) (j := i) arr154 (b := b11) (off := 0) rfl rfl (by first | rfl | omega | (simp; omega)) (by omega) (by omega)) ?_
      refine d_store (k := 4) (v := .agg (cel EI ((xoS 128 ((opsS 128 fm i).1) (inW (64 * (2 * i)) 64) (inW (64 * (2 * i + 1)) 64) 64).2)).toArray) (cs' := (cel EI (padX ((opsS 128 fm i).2 ++ (xoS 128 ((opsS 128 fm i).1) (inW (64 * (2 * i)) 64) (inW (64 * (2 * i + 1)) 64) 64).2))).toArray) H45 rfl rfl rfl siz153 (by exact celSize (by rw [hnr]; rfl)) (by exact celOne _) (by rw [List.size_toArray, cel_length, padX_len (by rw [hol.2]; omega)]; show _ ≤ _ * 1; omega) (by exact padX_put (by rw [hol.2]; omega) (by rw [hol.2]; omega) (by first | exact hnr)) ?_
      intro w46 H47 hC48
      have H47' := H47.as (L' := [(some b5, .cells #[i64 ((128 : Nat)), .slice (ownA key40) (List.length ((xoS 128 ((opsS 128 fm i).1) (inW (64 * (2 * i)) 64) (inW (64 * (2 * i + 1)) 64) 64).1)) c41, .slice none 0 0] 151 (0, 0)), (key40, sob EG 99 ((xoS 128 ((opsS 128 fm i).1) (inW (64 * (2 * i)) 64) (inW (64 * (2 * i + 1)) 64) 64).1) sp42), (some b27, .cells (cel EI (inW (64 * (2 * i + 1)) 64)).toArray 153 (0, 0)), (some b23, .cells (cel EI (inW (64 * (2 * i)) 64)).toArray 153 (0, 0)), (some b11, .cells (cel EI (padX ((opsS 128 fm i).2 ++ (xoS 128 ((opsS 128 fm i).1) (inW (64 * (2 * i)) 64) (inW (64 * (2 * i + 1)) 64) 64).2))).toArray 154 (0, 0)), (some b1, .cells #[i64 ((0 : Int)), .slice none 0 0, .slice none 0 0] 70 (0, 0))]) rfl
      clear H47
      refine wnil ?_
      refine blockNormal ?_
      refine thenNormal ?_
      refine oneRegion ?_
      refine sq (r_addI (a := (i : Nat)) (b := (1 : Int)) rfl rfl (by omega)) ?_
      refine sq (r_move (v := i64 ((i : Nat) + (1 : Int))) rfl) ?_
      refine wnil ?_
      refine thenNormal ?_
      have e49 : (xoS 128 ((opsS 128 fm i).1) (inW (64 * (2 * i)) 64) (inW (64 * (2 * i + 1)) 64) 64).1 = (opsS 128 fm (i + 1)).1 := by rw [opsS, opS_t c53]
      have hS50 := hS43
      rw [e49] at hS50
      have H51 : Hp No w w46 [(some b5, .cells #[i64 ((128 : Nat)), .slice (ownA key40) (List.length ((opsS 128 fm (i + 1)).1)) c41, .slice none 0 0] 151 (0, 0)), (key40, sob EG 99 ((opsS 128 fm (i + 1)).1) sp42), (some b27, .cells (cel EI (inW (64 * (2 * i + 1)) 64)).toArray 153 (0, 0)), (some b23, .cells (cel EI (inW (64 * (2 * i)) 64)).toArray 153 (0, 0)), (some b11, .cells (cel EI (padX ((opsS 128 fm i).2 ++ (xoS 128 ((opsS 128 fm i).1) (inW (64 * (2 * i)) 64) (inW (64 * (2 * i + 1)) 64) 64).2))).toArray 154 (0, 0)), (some b1, .cells #[i64 ((0 : Int)), .slice none 0 0, .slice none 0 0] 70 (0, 0))] := by rw [← e49]; exact H47'
      rw [show (opsS 128 fm i).2 ++ (xoS 128 ((opsS 128 fm i).1) (inW (64 * (2 * i)) 64) (inW (64 * (2 * i + 1)) 64) 64).2 = (opsS 128 fm (i + 1)).2 from by rw [opsS, opS_t c53]] at H51
      exact ⟨(i + 1, key40, c41, sp42), _, rfl, ⟨rfl, rfl, rfl, rfl, rfl, rfl, rfl, trivial⟩, ⟨⟨by omega, hS50⟩, ((H51.dropk 3).dropk 2)⟩, by show 1 - (i + 1) < 1 - i; omega⟩
    · skip
      refine oneRegion ?_
      refine sq (r_move (v := i64 ((i : Nat))) rfl) ?_
      refine sq (r_move (v := .pointer (some ⟨b5, 0, none⟩)) rfl) ?_
      refine sq (r_loadA (cs' := (cel EI (inW (64 * (2 * i)) 64)).toArray) agg153 siz153 (H35'.get (k := 1) rfl) (off := 0) rfl (by rw [List.size_toArray, cel_length]; show _ ≤ _ * 1; omega) (by exact ext_all (by rw [cel_length]; show _ * 1 = _; omega))) ?_
      refine sq (r_loadA (cs' := (cel EI (inW (64 * (2 * i + 1)) 64)).toArray) agg153 siz153 (H35'.get (k := 0) rfl) (off := 0) rfl (by rw [List.size_toArray, cel_length]; show _ ≤ _ * 1; omega) (by exact ext_all (by rw [cel_length]; show _ * 1 = _; omega))) ?_
      have H52 := ((H35'.pick 6 [2, 3, 0, 1, 4, 5] (by decide) (by decide))).as (L' := ((some b5, .cells #[i64 ((128 : Nat)), .slice (ownA kz) (List.length ((opsS 128 fm i).1)) cz, .slice none 0 0] 151 (0, 0)) :: (kz, sob EG 99 ((opsS 128 fm i).1) sz) :: [(some b27, .cells (cel EI (inW (64 * (2 * i + 1)) 64)).toArray 153 (0, 0)), (some b23, .cells (cel EI (inW (64 * (2 * i)) 64)).toArray 153 (0, 0)), (some b11, .cells (cel EI (padX ((opsS 128 fm i).2))).toArray 154 (0, 0)), (some b1, .cells #[i64 ((0 : Int)), .slice none 0 0, .slice none 0 0] 70 (0, 0))])) rfl
      refine c_call (vs := [.pointer (some ⟨b5, 0, none⟩), .agg (cel EI (inW (64 * (2 * i)) 64)).toArray, .agg (cel EI (inW (64 * (2 * i + 1)) 64)).toArray]) call75 rfl (madd_ok b5 128 kz cz sz ((opsS 128 fm i).1) hSz (by omega) (by omega) (inW (64 * (2 * i)) 64) (inW (64 * (2 * i + 1)) 64) (by omega) (by omega) [(some b27, .cells (cel EI (inW (64 * (2 * i + 1)) 64)).toArray 153 (0, 0)), (some b23, .cells (cel EI (inW (64 * (2 * i)) 64)).toArray 153 (0, 0)), (some b11, .cells (cel EI (padX ((opsS 128 fm i).2))).toArray 154 (0, 0)), (some b1, .cells #[i64 ((0 : Int)), .slice none 0 0, .slice none 0 0] 70 (0, 0))] w w34 H52) ?_
      rintro _ w53 ⟨rfl, key55, c56, sp57, hS58, HN59⟩
      have H60 := HN59.as (L' := [(some b5, .cells #[i64 ((128 : Nat)), .slice (ownA key55) (List.length ((adS 128 ((opsS 128 fm i).1) (inW (64 * (2 * i)) 64) (inW (64 * (2 * i + 1)) 64) 63).1)) c56, .slice none 0 0] 151 (0, 0)), (key55, sob EG 99 ((adS 128 ((opsS 128 fm i).1) (inW (64 * (2 * i)) 64) (inW (64 * (2 * i + 1)) 64) 63).1) sp57), (some b27, .cells (cel EI (inW (64 * (2 * i + 1)) 64)).toArray 153 (0, 0)), (some b23, .cells (cel EI (inW (64 * (2 * i)) 64)).toArray 153 (0, 0)), (some b11, .cells (cel EI (padX ((opsS 128 fm i).2))).toArray 154 (0, 0)), (some b1, .cells #[i64 ((0 : Int)), .slice none 0 0, .slice none 0 0] 70 (0, 0))]) rfl
      have hnr : (adS 128 ((opsS 128 fm i).1) (inW (64 * (2 * i)) 64) (inW (64 * (2 * i + 1)) 64) 63).2.1.length = 64 := (adS_len 128 ((opsS 128 fm i).1) (inW (64 * (2 * i)) 64) (inW (64 * (2 * i + 1)) 64) 63).2
      refine sq (r_indexA (off' := i * 64) (j := i) arr154 (b := b11) (off := 0) rfl rfl (by first | rfl | omega | (simp; omega)) (by omega) (by omega)) ?_
      refine d_store (k := 4) (v := .agg (cel EI ((adS 128 ((opsS 128 fm i).1) (inW (64 * (2 * i)) 64) (inW (64 * (2 * i + 1)) 64) 63).2.1)).toArray) (cs' := (cel EI (padX ((opsS 128 fm i).2 ++ (adS 128 ((opsS 128 fm i).1) (inW (64 * (2 * i)) 64) (inW (64 * (2 * i + 1)) 64) 63).2.1))).toArray) H60 rfl rfl rfl siz153 (by exact celSize (by rw [hnr]; rfl)) (by exact celOne _) (by rw [List.size_toArray, cel_length, padX_len (by rw [hol.2]; omega)]; show _ ≤ _ * 1; omega) (by exact padX_put (by rw [hol.2]; omega) (by rw [hol.2]; omega) (by first | exact hnr)) ?_
      intro w61 H62 hC63
      have H62' := H62.as (L' := [(some b5, .cells #[i64 ((128 : Nat)), .slice (ownA key55) (List.length ((adS 128 ((opsS 128 fm i).1) (inW (64 * (2 * i)) 64) (inW (64 * (2 * i + 1)) 64) 63).1)) c56, .slice none 0 0] 151 (0, 0)), (key55, sob EG 99 ((adS 128 ((opsS 128 fm i).1) (inW (64 * (2 * i)) 64) (inW (64 * (2 * i + 1)) 64) 63).1) sp57), (some b27, .cells (cel EI (inW (64 * (2 * i + 1)) 64)).toArray 153 (0, 0)), (some b23, .cells (cel EI (inW (64 * (2 * i)) 64)).toArray 153 (0, 0)), (some b11, .cells (cel EI (padX ((opsS 128 fm i).2 ++ (adS 128 ((opsS 128 fm i).1) (inW (64 * (2 * i)) 64) (inW (64 * (2 * i + 1)) 64) 63).2.1))).toArray 154 (0, 0)), (some b1, .cells #[i64 ((0 : Int)), .slice none 0 0, .slice none 0 0] 70 (0, 0))]) rfl
      clear H62
      refine wnil ?_
      refine blockNormal ?_
      refine thenNormal ?_
      refine oneRegion ?_
      refine sq (r_addI (a := (i : Nat)) (b := (1 : Int)) rfl rfl (by omega)) ?_
      refine sq (r_move (v := i64 ((i : Nat) + (1 : Int))) rfl) ?_
      refine wnil ?_
      refine thenNormal ?_
      have e64 : (adS 128 ((opsS 128 fm i).1) (inW (64 * (2 * i)) 64) (inW (64 * (2 * i + 1)) 64) 63).1 = (opsS 128 fm (i + 1)).1 := by rw [opsS, opS_f c53]
      have hS65 := hS58
      rw [e64] at hS65
      have H66 : Hp No w w61 [(some b5, .cells #[i64 ((128 : Nat)), .slice (ownA key55) (List.length ((opsS 128 fm (i + 1)).1)) c56, .slice none 0 0] 151 (0, 0)), (key55, sob EG 99 ((opsS 128 fm (i + 1)).1) sp57), (some b27, .cells (cel EI (inW (64 * (2 * i + 1)) 64)).toArray 153 (0, 0)), (some b23, .cells (cel EI (inW (64 * (2 * i)) 64)).toArray 153 (0, 0)), (some b11, .cells (cel EI (padX ((opsS 128 fm i).2 ++ (adS 128 ((opsS 128 fm i).1) (inW (64 * (2 * i)) 64) (inW (64 * (2 * i + 1)) 64) 63).2.1))).toArray 154 (0, 0)), (some b1, .cells #[i64 ((0 : Int)), .slice none 0 0, .slice none 0 0] 70 (0, 0))] := by rw [← e64]; exact H62'
      rw [show (opsS 128 fm i).2 ++ (adS 128 ((opsS 128 fm i).1) (inW (64 * (2 * i)) 64) (inW (64 * (2 * i + 1)) 64) 63).2.1 = (opsS 128 fm (i + 1)).2 from by rw [opsS, opS_f c53]] at H66
      exact ⟨(i + 1, key55, c56, sp57), _, rfl, ⟨rfl, rfl, rfl, rfl, rfl, rfl, rfl, trivial⟩, ⟨⟨by omega, hS65⟩, ((H66.dropk 3).dropk 2)⟩, by show 1 - (i + 1) < 1 - i; omega⟩
  · skip
    have hie : i = 1 := by omega
    rw [hie, opsS_one] at HL hSz hol
    obtain ⟨o1, ho1⟩ : ∃ q, q = opS 128 [] 0 64 (fbS fm 0) := ⟨_, rfl⟩
    rw [← ho1] at HL hSz hol
    have hl1 := opS_len 128 [] 0 64 (fbS fm 0)
    rw [← ho1] at hl1
    simp only [List.length_nil] at hl1
    have H67 := HL.as (L' := [(some b5, .cells #[i64 ((128 : Nat)), .slice (ownA kz) (List.length o1.1) cz, .slice none 0 0] 151 (0, 0)), (kz, sob EG 99 o1.1 sz), (some b11, .cells (cel EI (padX o1.2)).toArray 154 (0, 0)), (some b1, .cells #[i64 ((0 : Int)), .slice none 0 0, .slice none 0 0] 70 (0, 0))]) rfl
    have hpx : (padX o1.2).length = 128 := padX_len (by omega)
    refine exitAny ?_
    refine thenExit ?_
    refine thenExit ?_
    refine blockHere ?_
    refine thenNormal ?_
    refine seqRegion ?_
    refine q_alloc (o := .cells (cel EI (List.replicate 64 0)).toArray 153 (0, 0)) H67 zer153 (by kernel_rfl) ?_
    intro b68 w69 hb68 H70 hE71
    refine wend ?_
    refine seqAny ?_
    refine seqRegion ?_
    refine sq (r_move (v := .pointer (some ⟨b5, 0, none⟩)) rfl) ?_
    have H72 := ((H70.pick 5 [1, 2, 0, 3, 4] (by decide) (by decide))).as (L' := ((some b5, .cells #[i64 ((128 : Nat)), .slice (ownA kz) (List.length o1.1) cz, .slice none 0 0] 151 (0, 0)) :: (kz, sob EG 99 o1.1 sz) :: [(some b68, .cells (cel EI (List.replicate 64 0)).toArray 153 (0, 0)), (some b11, .cells (cel EI (padX o1.2)).toArray 154 (0, 0)), (some b1, .cells #[i64 ((0 : Int)), .slice none 0 0, .slice none 0 0] 70 (0, 0))])) rfl
    refine c_call (vs := [.pointer (some ⟨b5, 0, none⟩), i64 ((1 : Int)), i64 ((0 : Int)), i64 ((0 : Int))]) call76 rfl (gate_ok b5 128 kz cz sz o1.1 hSz (by omega) (by omega) (1 : Int) (0 : Int) (0 : Int) [(some b68, .cells (cel EI (List.replicate 64 0)).toArray 153 (0, 0)), (some b11, .cells (cel EI (padX o1.2)).toArray 154 (0, 0)), (some b1, .cells #[i64 ((0 : Int)), .slice none 0 0, .slice none 0 0] 70 (0, 0))] w w69 H72) ?_
    rintro wv81 w73 ⟨hwv82, key75, c76, sp77, hS78, HN79⟩
    obtain ⟨wx83, hwx83⟩ : ∃ q, q = wrW 128 o1.1 := ⟨_, rfl⟩
    rw [← hwx83] at hwv82
    subst hwv82
    have H80 := HN79.as (L' := [(some b5, .cells #[i64 ((128 : Nat)), .slice (ownA key75) (List.length (o1.1 ++ [(⟨(1 : Int), (0 : Int), (0 : Int)⟩ : Gt)])) c76, .slice none 0 0] 151 (0, 0)), (key75, sob EG 99 (o1.1 ++ [(⟨(1 : Int), (0 : Int), (0 : Int)⟩ : Gt)]) sp77), (some b68, .cells (cel EI (List.replicate 64 0)).toArray 153 (0, 0)), (some b11, .cells (cel EI (padX o1.2)).toArray 154 (0, 0)), (some b1, .cells #[i64 ((0 : Int)), .slice none 0 0, .slice none 0 0] 70 (0, 0))]) rfl
    refine sq (r_assign (v := i64 (wx83)) rfl) ?_
    subst hwx83
    have e84 : o1.1 ++ [(⟨(1 : Int), (0 : Int), (0 : Int)⟩ : Gt)] = ze o1.1 := by rfl
    have hS85 := hS78
    rw [e84] at hS85
    have H86 : Hp No w w73 [(some b5, .cells #[i64 ((128 : Nat)), .slice (ownA key75) (List.length (ze o1.1)) c76, .slice none 0 0] 151 (0, 0)), (key75, sob EG 99 (ze o1.1) sp77), (some b68, .cells (cel EI (List.replicate 64 0)).toArray 153 (0, 0)), (some b11, .cells (cel EI (padX o1.2)).toArray 154 (0, 0)), (some b1, .cells #[i64 ((0 : Int)), .slice none 0 0, .slice none 0 0] 70 (0, 0))] := by rw [← e84]; exact H80
    have hzl : (ze o1.1).length = o1.1.length + 1 := by simp [ze]
    refine wend ?_
    refine seqRegion ?_
    refine sq (r_move (v := i64 ((1 : Int))) rfl) ?_
    refine wend ?_
    refine blockAny ?_
    refine seqRegion ?_
    refine sq ((r_eqlI (a := (1 : Int)) (b := (1 : Int)) rfl rfl).as (v' := .bool (true)) (by rfl)) ?_
    refine sq (r_assign (v := .bool (true)) rfl) ?_
    refine wend ?_
    refine condTrue rfl ?_
    refine seqRegion ?_
    refine sq (r_move (v := .pointer (some ⟨b5, 0, none⟩)) rfl) ?_
    refine sq (r_indexA (off' := 0) (j := 0) arr154 (b := b11) (off := 0) rfl rfl (by first | rfl | omega | (simp; omega)) (by omega) (by omega)) ?_
    refine sq (r_indexA (off' := 63) (j := 63) arr153 (b := b11) (off := 0) rfl rfl (by first | rfl | omega | (simp; omega)) (by omega) (by omega)) ?_
    refine sq ((r_ld1 (E := EI) (l := padX o1.2) (j := 63) (a := (padX o1.2).getD 63 0) fits3 (H86.get (k := 3) rfl) (at_getD (by omega)) rfl rfl).as (v' := i64 (o1.2.getD 63 0)) (by exact congrArg i64 (padX_at (by omega)))) ?_
    have H87 := (H86).as (L' := ((some b5, .cells #[i64 ((128 : Nat)), .slice (ownA key75) (List.length (ze o1.1)) c76, .slice none 0 0] 151 (0, 0)) :: (key75, sob EG 99 (ze o1.1) sp77) :: [(some b68, .cells (cel EI (List.replicate 64 0)).toArray 153 (0, 0)), (some b11, .cells (cel EI (padX o1.2)).toArray 154 (0, 0)), (some b1, .cells #[i64 ((0 : Int)), .slice none 0 0, .slice none 0 0] 70 (0, 0))])) rfl
    refine c_call (vs := [.pointer (some ⟨b5, 0, none⟩), i64 ((3 : Int)), i64 (o1.2.getD 63 0), i64 ((0 : Int))]) call76 rfl (gate_ok b5 128 key75 c76 sp77 (ze o1.1) hS85 (by omega) (by omega) (3 : Int) (o1.2.getD 63 0) (0 : Int) [(some b68, .cells (cel EI (List.replicate 64 0)).toArray 153 (0, 0)), (some b11, .cells (cel EI (padX o1.2)).toArray 154 (0, 0)), (some b1, .cells #[i64 ((0 : Int)), .slice none 0 0, .slice none 0 0] 70 (0, 0))] w w73 H87) ?_
    rintro wv96 w88 ⟨hwv97, key90, c91, sp92, hS93, HN94⟩
    obtain ⟨wx98, hwx98⟩ : ∃ q, q = wrW 128 (ze o1.1) := ⟨_, rfl⟩
    rw [← hwx98] at hwv97
    subst hwv97
    have H95 := HN94.as (L' := [(some b5, .cells #[i64 ((128 : Nat)), .slice (ownA key90) (List.length ((ze o1.1) ++ [(⟨(3 : Int), o1.2.getD 63 0, (0 : Int)⟩ : Gt)])) c91, .slice none 0 0] 151 (0, 0)), (key90, sob EG 99 ((ze o1.1) ++ [(⟨(3 : Int), o1.2.getD 63 0, (0 : Int)⟩ : Gt)]) sp92), (some b68, .cells (cel EI (List.replicate 64 0)).toArray 153 (0, 0)), (some b11, .cells (cel EI (padX o1.2)).toArray 154 (0, 0)), (some b1, .cells #[i64 ((0 : Int)), .slice none 0 0, .slice none 0 0] 70 (0, 0))]) rfl
    refine sq (r_assign (v := i64 (wx98)) rfl) ?_
    subst hwx98
    refine wend ?_
    refine seqAny ?_
    refine seqRegion ?_
    refine sq (r_move (v := i64 ((0 : Int))) rfl) ?_
    refine wend ?_
    refine blockAny ?_
    refine loopAny (σ := Nat × Option Nat × Nat × List Value) (fun (i, ky, cy, sy) => [(4, .pointer (some ⟨b1, 0, none⟩)), (7, .pointer (some ⟨b5, 0, none⟩)), (8, .pointer (some ⟨b11, 0, none⟩)), (12, .pointer (some ⟨b68, 0, none⟩)), (13, i64 ((wrW 128 o1.1))), (14, i64 ((wrW 128 (ze o1.1)))), (77, i64 ((i : Nat)))]) (fun (i, ky, cy, sy) w' => (i ≤ 63 ∧ Sl EG ky (reS 128 (ze o1.1 ++ [(⟨3, o1.2.getD 63 0, 0⟩ : Gt)]) (wrW 128 (ze o1.1)) o1.2 i).1 cy sy) ∧ Hp No w w' [(some b5, .cells #[i64 ((128 : Nat)), .slice (ownA ky) (List.length ((reS 128 (ze o1.1 ++ [(⟨3, o1.2.getD 63 0, 0⟩ : Gt)]) (wrW 128 (ze o1.1)) o1.2 i).1)) cy, .slice none 0 0] 151 (0, 0)), (ky, sob EG 99 ((reS 128 (ze o1.1 ++ [(⟨3, o1.2.getD 63 0, 0⟩ : Gt)]) (wrW 128 (ze o1.1)) o1.2 i).1) sy), (some b68, .cells (cel EI (padW ((reS 128 (ze o1.1 ++ [(⟨3, o1.2.getD 63 0, 0⟩ : Gt)]) (wrW 128 (ze o1.1)) o1.2 i).2))).toArray 153 (0, 0)), (some b11, .cells (cel EI (padX o1.2)).toArray 154 (0, 0)), (some b1, .cells #[i64 ((0 : Int)), .slice none 0 0, .slice none 0 0] 70 (0, 0))]) (fun (i, ky, cy, sy) => 63 - i) ((0, key90, c91, sp92)) ?_ ?_ ?_
    · exact ⟨rfl, rfl, rfl, rfl, rfl, rfl, rfl, trivial⟩
    · exact ⟨⟨by omega, hS93⟩, H95⟩
    rintro ⟨i, ky, cy, sy⟩ ρ w99 ⟨⟨hq2, hSy⟩, HL2⟩
    have hre := reS_len 128 (ze o1.1 ++ [(⟨3, o1.2.getD 63 0, 0⟩ : Gt)]) (wrW 128 (ze o1.1)) o1.2 i
    have hgl : (ze o1.1 ++ [(⟨3, o1.2.getD 63 0, 0⟩ : Gt)]).length = o1.1.length + 2 := by rw [List.length_append, hzl]; rfl
    have hpl : (padW (reS 128 (ze o1.1 ++ [(⟨3, o1.2.getD 63 0, 0⟩ : Gt)]) (wrW 128 (ze o1.1)) o1.2 i).2).length = 64 := padW_len (by rw [hre.2]; omega)
    refine seqRegion ?_
    refine sq (r_lssI (a := (i : Nat)) (b := (63 : Int)) rfl rfl) ?_
    refine wend ?_
    refine seqAny ?_
    refine condProp (((i : Nat) : Int) < (63 : Int)) rfl (fun c78 => ?_) (fun c78 => ?_)
    · skip
      refine skipAny ?_
      refine thenNormal ?_
      refine seqAny ?_
      refine blockAny ?_
      refine seqRegion ?_
      refine sq (r_move (v := i64 ((i : Nat))) rfl) ?_
      refine sq (r_assign (v := i64 ((i : Nat))) rfl) ?_
      refine wend ?_
      refine oneRegion ?_
      refine sq (r_move (v := i64 ((i : Nat))) rfl) ?_
      refine sq (r_move (v := .pointer (some ⟨b5, 0, none⟩)) rfl) ?_
      refine sq (r_move (v := i64 ((wrW 128 (ze o1.1)))) rfl) ?_
      refine sq (r_move (v := i64 ((i : Nat))) rfl) ?_
      refine sq (r_indexA (off' := 0) (j := 0) arr154 (b := b11) (off := 0) rfl rfl (by first | rfl | omega | (simp; omega)) (by omega) (by omega)) ?_
      refine sq (r_indexA (off' := i) (j := i) arr153 (b := b11) (off := 0) rfl rfl (by first | rfl | omega | (simp; omega)) (by omega) (by omega)) ?_
      refine sq ((r_ld1 (E := EI) (l := padX o1.2) (j := i) (a := (padX o1.2).getD i 0) fits3 (HL2.get (k := 3) rfl) (at_getD (by omega)) rfl rfl).as (v' := i64 (o1.2.getD i 0)) (by exact congrArg i64 (padX_at (by omega)))) ?_
      have H101 := (HL2).as (L' := ((some b5, .cells #[i64 ((128 : Nat)), .slice (ownA ky) (List.length ((reS 128 (ze o1.1 ++ [(⟨3, o1.2.getD 63 0, 0⟩ : Gt)]) (wrW 128 (ze o1.1)) o1.2 i).1)) cy, .slice none 0 0] 151 (0, 0)) :: (ky, sob EG 99 ((reS 128 (ze o1.1 ++ [(⟨3, o1.2.getD 63 0, 0⟩ : Gt)]) (wrW 128 (ze o1.1)) o1.2 i).1) sy) :: [(some b68, .cells (cel EI (padW ((reS 128 (ze o1.1 ++ [(⟨3, o1.2.getD 63 0, 0⟩ : Gt)]) (wrW 128 (ze o1.1)) o1.2 i).2))).toArray 153 (0, 0)), (some b11, .cells (cel EI (padX o1.2)).toArray 154 (0, 0)), (some b1, .cells #[i64 ((0 : Int)), .slice none 0 0, .slice none 0 0] 70 (0, 0))])) rfl
      refine c_call (vs := [.pointer (some ⟨b5, 0, none⟩), i64 ((2 : Int)), i64 ((wrW 128 (ze o1.1))), i64 (o1.2.getD i 0)]) call76 rfl (gate_ok b5 128 ky cy sy ((reS 128 (ze o1.1 ++ [(⟨3, o1.2.getD 63 0, 0⟩ : Gt)]) (wrW 128 (ze o1.1)) o1.2 i).1) hSy (by omega) (by omega) (2 : Int) (wrW 128 (ze o1.1)) (o1.2.getD i 0) [(some b68, .cells (cel EI (padW ((reS 128 (ze o1.1 ++ [(⟨3, o1.2.getD 63 0, 0⟩ : Gt)]) (wrW 128 (ze o1.1)) o1.2 i).2))).toArray 153 (0, 0)), (some b11, .cells (cel EI (padX o1.2)).toArray 154 (0, 0)), (some b1, .cells #[i64 ((0 : Int)), .slice none 0 0, .slice none 0 0] 70 (0, 0))] w w99 H101) ?_
      rintro wv110 w102 ⟨hwv111, key104, c105, sp106, hS107, HN108⟩
      obtain ⟨wx112, hwx112⟩ : ∃ q, q = wrW 128 ((reS 128 (ze o1.1 ++ [(⟨3, o1.2.getD 63 0, 0⟩ : Gt)]) (wrW 128 (ze o1.1)) o1.2 i).1) := ⟨_, rfl⟩
      rw [← hwx112] at hwv111
      subst hwv111
      have H109 := HN108.as (L' := [(some b5, .cells #[i64 ((128 : Nat)), .slice (ownA key104) (List.length ((reS 128 (ze o1.1 ++ [(⟨3, o1.2.getD 63 0, 0⟩ : Gt)]) (wrW 128 (ze o1.1)) o1.2 i).1 ++ [(⟨(2 : Int), (wrW 128 (ze o1.1)), o1.2.getD i 0⟩ : Gt)])) c105, .slice none 0 0] 151 (0, 0)), (key104, sob EG 99 ((reS 128 (ze o1.1 ++ [(⟨3, o1.2.getD 63 0, 0⟩ : Gt)]) (wrW 128 (ze o1.1)) o1.2 i).1 ++ [(⟨(2 : Int), (wrW 128 (ze o1.1)), o1.2.getD i 0⟩ : Gt)]) sp106), (some b68, .cells (cel EI (padW ((reS 128 (ze o1.1 ++ [(⟨3, o1.2.getD 63 0, 0⟩ : Gt)]) (wrW 128 (ze o1.1)) o1.2 i).2))).toArray 153 (0, 0)), (some b11, .cells (cel EI (padX o1.2)).toArray 154 (0, 0)), (some b1, .cells #[i64 ((0 : Int)), .slice none 0 0, .slice none 0 0] 70 (0, 0))]) rfl
      refine sq (r_indexA (off' := i) (j := i) arr153 (b := b68) (off := 0) rfl rfl (by first | rfl | omega | (simp; omega)) (by omega) (by omega)) ?_
      refine d_store (k := 2) (v := i64 (wx112)) (cs' := (cel EI ((padW ((reS 128 (ze o1.1 ++ [(⟨3, o1.2.getD 63 0, 0⟩ : Gt)]) (wrW 128 (ze o1.1)) o1.2 i).2)).set i wx112)).toArray) H109 rfl rfl rfl siz3 (by rfl) (by exact EI.one _) (by rw [List.size_toArray, cel_length]; show _ ≤ _ * 1; first | omega | (simp only [List.length_set]; omega) | exact Nat.le_of_ble_eq_true rfl | (simp <;> omega)) (by exact put1 (E := EI) rfl _ _ _) ?_
      intro w113 H114 hC115
      have H114' := H114.as (L' := [(some b5, .cells #[i64 ((128 : Nat)), .slice (ownA key104) (List.length ((reS 128 (ze o1.1 ++ [(⟨3, o1.2.getD 63 0, 0⟩ : Gt)]) (wrW 128 (ze o1.1)) o1.2 i).1 ++ [(⟨(2 : Int), (wrW 128 (ze o1.1)), o1.2.getD i 0⟩ : Gt)])) c105, .slice none 0 0] 151 (0, 0)), (key104, sob EG 99 ((reS 128 (ze o1.1 ++ [(⟨3, o1.2.getD 63 0, 0⟩ : Gt)]) (wrW 128 (ze o1.1)) o1.2 i).1 ++ [(⟨(2 : Int), (wrW 128 (ze o1.1)), o1.2.getD i 0⟩ : Gt)]) sp106), (some b68, .cells (cel EI ((padW ((reS 128 (ze o1.1 ++ [(⟨3, o1.2.getD 63 0, 0⟩ : Gt)]) (wrW 128 (ze o1.1)) o1.2 i).2)).set i wx112)).toArray 153 (0, 0)), (some b11, .cells (cel EI (padX o1.2)).toArray 154 (0, 0)), (some b1, .cells #[i64 ((0 : Int)), .slice none 0 0, .slice none 0 0] 70 (0, 0))]) rfl
      clear H114
      refine wnil ?_
      refine blockNormal ?_
      refine thenNormal ?_
      refine oneRegion ?_
      refine sq (r_addI (a := (i : Nat)) (b := (1 : Int)) rfl rfl (by omega)) ?_
      refine sq (r_move (v := i64 ((i : Nat) + (1 : Int))) rfl) ?_
      refine wnil ?_
      refine thenNormal ?_
      subst hwx112
      have e116 : (reS 128 (ze o1.1 ++ [(⟨3, o1.2.getD 63 0, 0⟩ : Gt)]) (wrW 128 (ze o1.1)) o1.2 i).1 ++ [(⟨(2 : Int), (wrW 128 (ze o1.1)), o1.2.getD i 0⟩ : Gt)] = (reS 128 (ze o1.1 ++ [(⟨3, o1.2.getD 63 0, 0⟩ : Gt)]) (wrW 128 (ze o1.1)) o1.2 (i + 1)).1 := by rfl
      have hS117 := hS107
      rw [e116] at hS117
      have H118 : Hp No w w113 [(some b5, .cells #[i64 ((128 : Nat)), .slice (ownA key104) (List.length ((reS 128 (ze o1.1 ++ [(⟨3, o1.2.getD 63 0, 0⟩ : Gt)]) (wrW 128 (ze o1.1)) o1.2 (i + 1)).1)) c105, .slice none 0 0] 151 (0, 0)), (key104, sob EG 99 ((reS 128 (ze o1.1 ++ [(⟨3, o1.2.getD 63 0, 0⟩ : Gt)]) (wrW 128 (ze o1.1)) o1.2 (i + 1)).1) sp106), (some b68, .cells (cel EI ((padW ((reS 128 (ze o1.1 ++ [(⟨3, o1.2.getD 63 0, 0⟩ : Gt)]) (wrW 128 (ze o1.1)) o1.2 i).2)).set i (wrW 128 ((reS 128 (ze o1.1 ++ [(⟨3, o1.2.getD 63 0, 0⟩ : Gt)]) (wrW 128 (ze o1.1)) o1.2 i).1)))).toArray 153 (0, 0)), (some b11, .cells (cel EI (padX o1.2)).toArray 154 (0, 0)), (some b1, .cells #[i64 ((0 : Int)), .slice none 0 0, .slice none 0 0] 70 (0, 0))] := by rw [← e116]; exact H114'
      rw [padW_set (l := (reS 128 (ze o1.1 ++ [(⟨3, o1.2.getD 63 0, 0⟩ : Gt)]) (wrW 128 (ze o1.1)) o1.2 i).2) _ hre.2 (by omega)] at H118
      have H119 := H118.as (L' := [(some b5, .cells #[i64 ((128 : Nat)), .slice (ownA key104) (List.length ((reS 128 (ze o1.1 ++ [(⟨3, o1.2.getD 63 0, 0⟩ : Gt)]) (wrW 128 (ze o1.1)) o1.2 (i + 1)).1)) c105, .slice none 0 0] 151 (0, 0)), (key104, sob EG 99 ((reS 128 (ze o1.1 ++ [(⟨3, o1.2.getD 63 0, 0⟩ : Gt)]) (wrW 128 (ze o1.1)) o1.2 (i + 1)).1) sp106), (some b68, .cells (cel EI (padW ((reS 128 (ze o1.1 ++ [(⟨3, o1.2.getD 63 0, 0⟩ : Gt)]) (wrW 128 (ze o1.1)) o1.2 (i + 1)).2))).toArray 153 (0, 0)), (some b11, .cells (cel EI (padX o1.2)).toArray 154 (0, 0)), (some b1, .cells #[i64 ((0 : Int)), .slice none 0 0, .slice none 0 0] 70 (0, 0))]) rfl
      exact ⟨(i + 1, key104, c105, sp106), _, rfl, ⟨rfl, rfl, rfl, rfl, rfl, rfl, rfl, trivial⟩, ⟨⟨by omega, hS117⟩, H119⟩, by show 63 - (i + 1) < 63 - i; omega⟩
    · skip
      have hj : i = 63 := by omega
      refine exitAny ?_
      refine thenExit ?_
      refine thenExit ?_
      refine blockHere ?_
      refine thenNormal ?_
      refine oneRegion ?_
      refine sq (r_move (v := i64 ((wrW 128 o1.1))) rfl) ?_
      refine sq (r_indexA (off' := 63) (j := 63) arr153 (b := b68) (off := 0) rfl rfl (by first | rfl | omega | (simp; omega)) (by omega) (by omega)) ?_
      refine d_store (k := 2) (v := i64 ((wrW 128 o1.1))) (cs' := (cel EI ((padW ((reS 128 (ze o1.1 ++ [(⟨3, o1.2.getD 63 0, 0⟩ : Gt)]) (wrW 128 (ze o1.1)) o1.2 i).2)).set 63 (wrW 128 o1.1))).toArray) HL2 rfl rfl rfl siz3 (by rfl) (by exact EI.one _) (by rw [List.size_toArray, cel_length]; show _ ≤ _ * 1; first | omega | (simp only [List.length_set]; omega) | exact Nat.le_of_ble_eq_true rfl | (simp <;> omega)) (by exact put1 (E := EI) rfl _ _ _) ?_
      intro w120 H121 hC122
      have H121' := H121.as (L' := [(some b5, .cells #[i64 ((128 : Nat)), .slice (ownA ky) (List.length ((reS 128 (ze o1.1 ++ [(⟨3, o1.2.getD 63 0, 0⟩ : Gt)]) (wrW 128 (ze o1.1)) o1.2 i).1)) cy, .slice none 0 0] 151 (0, 0)), (ky, sob EG 99 ((reS 128 (ze o1.1 ++ [(⟨3, o1.2.getD 63 0, 0⟩ : Gt)]) (wrW 128 (ze o1.1)) o1.2 i).1) sy), (some b68, .cells (cel EI ((padW ((reS 128 (ze o1.1 ++ [(⟨3, o1.2.getD 63 0, 0⟩ : Gt)]) (wrW 128 (ze o1.1)) o1.2 i).2)).set 63 (wrW 128 o1.1))).toArray 153 (0, 0)), (some b11, .cells (cel EI (padX o1.2)).toArray 154 (0, 0)), (some b1, .cells #[i64 ((0 : Int)), .slice none 0 0, .slice none 0 0] 70 (0, 0))]) rfl
      clear H121
      rw [padW_last (hre.2.trans hj)] at H121'
      have hrl : ((reS 128 (ze o1.1 ++ [(⟨3, o1.2.getD 63 0, 0⟩ : Gt)]) (wrW 128 (ze o1.1)) o1.2 i).2 ++ [wrW 128 o1.1]).length = 64 := by rw [List.length_append, hre.2, hj]; rfl
      refine wnil ?_
      refine blockNormal ?_
      refine thenNormal ?_
      refine seqRegion ?_
      refine sq (r_move (v := .pointer (some ⟨b5, 0, none⟩)) rfl) ?_
      refine sq (r_sliceA0 arr153 (b := b68) (off := 0) rfl (Nat.le_of_ble_eq_true rfl)) ?_
      refine sq (r_nilCheck rfl) ?_
      refine sq (r_fieldAddr (off' := 0) fld151_0 (by decide) (b := b5) (off := 0) rfl (by omega)) ?_
      refine sq (r_fieldAddr (off' := 2) fld70_2 (by decide) (b := b5) (off := 0) rfl (by omega)) ?_
      refine d_store (k := 0) (v := .slice (some ⟨b68, 0, none⟩) 64 64) (cs' := #[i64 ((128 : Nat)), .slice (ownA ky) (List.length ((reS 128 (ze o1.1 ++ [(⟨3, o1.2.getD 63 0, 0⟩ : Gt)]) (wrW 128 (ze o1.1)) o1.2 i).1)) cy, .slice (some ⟨b68, 0, none⟩) 64 64]) H121' rfl rfl rfl siz60 (by rfl) (by intro u hu; simp [Value.cells] at hu; first | (subst hu; rfl) | (rcases hu with rfl <;> rfl)) (by exact Nat.le_of_ble_eq_true rfl) (by rfl) ?_
      intro w123 H124 hC125
      have H124' := H124.as (L' := [(some b5, .cells #[i64 ((128 : Nat)), .slice (ownA ky) (List.length ((reS 128 (ze o1.1 ++ [(⟨3, o1.2.getD 63 0, 0⟩ : Gt)]) (wrW 128 (ze o1.1)) o1.2 i).1)) cy, .slice (some ⟨b68, 0, none⟩) 64 64] 151 (0, 0)), (ky, sob EG 99 ((reS 128 (ze o1.1 ++ [(⟨3, o1.2.getD 63 0, 0⟩ : Gt)]) (wrW 128 (ze o1.1)) o1.2 i).1) sy), (some b68, .cells (cel EI ((reS 128 (ze o1.1 ++ [(⟨3, o1.2.getD 63 0, 0⟩ : Gt)]) (wrW 128 (ze o1.1)) o1.2 i).2 ++ [wrW 128 o1.1])).toArray 153 (0, 0)), (some b11, .cells (cel EI (padX o1.2)).toArray 154 (0, 0)), (some b1, .cells #[i64 ((0 : Int)), .slice none 0 0, .slice none 0 0] 70 (0, 0))]) rfl
      clear H124
      refine wend ?_
      refine seqRegion ?_
      refine sq (r_move (v := .pointer (some ⟨b5, 0, none⟩)) rfl) ?_
      refine sq (r_nilCheck rfl) ?_
      refine sq (r_fieldAddr (off' := 0) fld151_0 (by decide) (b := b5) (off := 0) rfl (by omega)) ?_
      refine sq (r_loadA (cs' := #[i64 ((128 : Nat)), .slice (ownA ky) (List.length ((reS 128 (ze o1.1 ++ [(⟨3, o1.2.getD 63 0, 0⟩ : Gt)]) (wrW 128 (ze o1.1)) o1.2 i).1)) cy, .slice (some ⟨b68, 0, none⟩) 64 64]) agg70 siz70 (H124'.get (k := 0) rfl) (off := 0) rfl (by exact Nat.le_of_ble_eq_true rfl) (by rfl)) ?_
      refine d_store (k := 4) (v := .agg #[i64 ((128 : Nat)), .slice (ownA ky) (List.length ((reS 128 (ze o1.1 ++ [(⟨3, o1.2.getD 63 0, 0⟩ : Gt)]) (wrW 128 (ze o1.1)) o1.2 i).1)) cy, .slice (some ⟨b68, 0, none⟩) 64 64]) (cs' := #[i64 ((128 : Nat)), .slice (ownA ky) (List.length ((reS 128 (ze o1.1 ++ [(⟨3, o1.2.getD 63 0, 0⟩ : Gt)]) (wrW 128 (ze o1.1)) o1.2 i).1)) cy, .slice (some ⟨b68, 0, none⟩) 64 64]) H124' rfl rfl rfl siz70 (by rfl) (by intro u hu; simp [Value.cells] at hu; first | (subst hu; rfl) | (rcases hu with rfl | rfl | rfl <;> rfl)) (by exact Nat.le_of_ble_eq_true rfl) (by rfl) ?_
      intro w126 H127 hC128
      have H127' := H127.as (L' := [(some b5, .cells #[i64 ((128 : Nat)), .slice (ownA ky) (List.length ((reS 128 (ze o1.1 ++ [(⟨3, o1.2.getD 63 0, 0⟩ : Gt)]) (wrW 128 (ze o1.1)) o1.2 i).1)) cy, .slice (some ⟨b68, 0, none⟩) 64 64] 151 (0, 0)), (ky, sob EG 99 ((reS 128 (ze o1.1 ++ [(⟨3, o1.2.getD 63 0, 0⟩ : Gt)]) (wrW 128 (ze o1.1)) o1.2 i).1) sy), (some b68, .cells (cel EI ((reS 128 (ze o1.1 ++ [(⟨3, o1.2.getD 63 0, 0⟩ : Gt)]) (wrW 128 (ze o1.1)) o1.2 i).2 ++ [wrW 128 o1.1])).toArray 153 (0, 0)), (some b11, .cells (cel EI (padX o1.2)).toArray 154 (0, 0)), (some b1, .cells #[i64 ((128 : Nat)), .slice (ownA ky) (List.length ((reS 128 (ze o1.1 ++ [(⟨3, o1.2.getD 63 0, 0⟩ : Gt)]) (wrW 128 (ze o1.1)) o1.2 i).1)) cy, .slice (some ⟨b68, 0, none⟩) 64 64] 70 (0, 0))]) rfl
      clear H127
      refine sq (r_assign (v := .nilIface) rfl) ?_
      refine wend ?_
      refine retAny ?_
      refine retG (rs := [.cell 4 70, .tmp 5]) (vs := [.agg #[i64 ((128 : Nat)), .slice (ownA ky) (List.length ((reS 128 (ze o1.1 ++ [(⟨3, o1.2.getD 63 0, 0⟩ : Gt)]) (wrW 128 (ze o1.1)) o1.2 i).1)) cy, .slice (some ⟨b68, 0, none⟩) 64 64], .nilIface]) rfl ⟨r_loadA (cs' := #[i64 ((128 : Nat)), .slice (ownA ky) (List.length ((reS 128 (ze o1.1 ++ [(⟨3, o1.2.getD 63 0, 0⟩ : Gt)]) (wrW 128 (ze o1.1)) o1.2 i).1)) cy, .slice (some ⟨b68, 0, none⟩) 64 64]) agg70 siz70 (H127'.get (k := 4) rfl) (off := 0) rfl (by exact Nat.le_of_ble_eq_true rfl) (by rfl), ⟨rfl, rfl⟩, trivial⟩ ?_
      subst hj
      rw [show (mk1 (fbS fm 0)) = _ from mk1_eq _, ← ho1]
      exact ⟨_, rfl, ky, cy, sy, b68, rfl, hSy, (((H127'.dropk 4).dropk 3).dropk 0)⟩
end Go.Proofs.YteofdmdpaejgaaaDoor.Cm
namespace Go.Proofs.YteofdmdpaejgaaaDoor.Cm
open Go Go.Proofs.YteofdmdpaejgaaaDoor.Vc Go.Proofs.YteofdmdpaejgaaaDoor.Er Go.Proofs.YteofdmdpaejgaaaDoor.Circ
set_option linter.unusedVariables false
theorem call77 : callable Tryd.prog 77 = true := by kernel_rfl
theorem call78 : callable Tryd.prog 78 = true := by kernel_rfl
set_option maxHeartbeats 2000000 in
theorem make_k2 (fm : BitVec 64) (hf : fm < 4#64) (w : World) : Calls Tryd.prog 29 [i64 (2 : Int), u64 fm].toArray w (Ret fun v w' => ∃ (key : Option Nat) (c : Nat) (sp : List Value) (b : Nat), v = .tuple #[.agg #[i64 ((256 : Nat) : Int), .slice (ownA key) (mk2 (fbS fm 0) (fbS fm 1)).1.length c, .slice (some ⟨b, 0, none⟩) 64 64], .nilIface] ∧ Sl EG key (mk2 (fbS fm 0) (fbS fm 1)).1 c sp ∧ Hp No w w' [(key, sob EG 99 (mk2 (fbS fm 0) (fbS fm 1)).1 sp), (some b, .cells (cel EI (mk2 (fbS fm 0) (fbS fm 1)).2).toArray 153 (0, 0))]) := by
  have H := Hp.start No w
  refine enter (n := 131) Tryd.func29 rfl rfl (Nat.le_of_ble_eq_true rfl) ?_
  refine seqRegion ?_
  refine q_alloc (o := .cells #[i64 ((0 : Int)), .slice none 0 0, .slice none 0 0] 70 (0, 0)) H zer70 (by kernel_rfl) ?_
  intro b1 w2 hb1 H3 hE4
  refine sq (r_assign (v := .nilIface) rfl) ?_
  refine wend ?_
  refine seqRegion ?_
  refine sq (r_assign (v := i64 ((2 : Int))) rfl) ?_
  refine wend ?_
  refine seqAny ?_
  refine seqRegion ?_
  refine sq (r_move (v := i64 ((2 : Int))) rfl) ?_
  refine wend ?_
  refine blockAny ?_
  refine seqAny ?_
  refine blockAny ?_
  refine seqAny ?_
  refine blockAny ?_
  refine seqAny ?_
  refine blockAny ?_
  refine seqAny ?_
  refine seqAny ?_
  refine seqRegion ?_
  refine sq ((r_eqlI (a := (2 : Int)) (b := (1 : Int)) rfl rfl).as (v' := .bool (false)) (by rfl)) ?_
  refine sq (r_assign (v := .bool (false)) rfl) ?_
  refine wend ?_
  refine condFalse rfl ?_
  refine skipAny ?_
  refine thenNormal ?_
  refine seqAny ?_
  refine seqRegion ?_
  refine sq ((r_eqlI (a := (2 : Int)) (b := (2 : Int)) rfl rfl).as (v' := .bool (true)) (by rfl)) ?_
  refine sq (r_assign (v := .bool (true)) rfl) ?_
  refine wend ?_
  refine condTrue rfl ?_
  refine skipAny ?_
  refine thenNormal ?_
  refine condTrue rfl ?_
  refine exitAny ?_
  refine thenExit ?_
  refine blockOut rfl ?_
  refine thenExit ?_
  refine blockHere ?_
  refine thenNormal ?_
  refine seqRegion ?_
  refine sq (r_move (v := u64 (fm)) rfl) ?_
  refine sq (r_move (v := i64 ((2 : Int))) rfl) ?_
  refine sq (r_shl64 (a := 1#64) (c := 2) rfl rfl) ?_
  refine sq ((r_lss64 (a := fm) (b := (1#64) <<< (2 : Nat)) rfl rfl).as (v' := .bool (true)) (by exact congrArg Value.bool (decide_eq_true hf))) ?_
  refine wend ?_
  refine condTrue rfl ?_
  refine exitAny ?_
  refine blockOut rfl ?_
  refine thenExit ?_
  refine blockHere ?_
  refine thenNormal ?_
  refine seqRegion ?_
  refine sq (r_move (v := i64 ((2 : Int))) rfl) ?_
  refine sq ((r_mulI (a := (128 : Int)) (b := (2 : Int)) rfl rfl (by omega)).as (v' := i64 ((256 : Nat))) (by rfl)) ?_
  refine sq (r_build (cs' := #[i64 ((256 : Nat)), .slice none 0 0, .slice none 0 0]) (ps := [(0, i64 ((256 : Nat)))]) zer70 pls70 rfl (by rfl)) ?_
  refine sq (r_build (cs' := #[i64 ((256 : Nat)), .slice none 0 0, .slice none 0 0]) (ps := [(0, .agg #[i64 ((256 : Nat)), .slice none 0 0, .slice none 0 0])]) zer151 pls151 rfl (by rfl)) ?_
  refine q_box (v := .agg #[i64 ((256 : Nat)), .slice none 0 0, .slice none 0 0]) (o := .cells #[i64 ((256 : Nat)), .slice none 0 0, .slice none 0 0] 151 (0, 0)) H3 rfl (by rfl) ?_
  intro b5 w6 hb5 H7 hE8
  refine sq (r_assign (v := .pointer (some ⟨b5, 0, none⟩)) rfl) ?_
  have H9 := H7.nil (sob EG 99 [] [])
  have H10 := H9.as (L' := [(none, sob EG 99 ([]) ([])), (some b5, .cells #[i64 ((256 : Nat)), .slice (ownA none) (List.length ([] : List Gt)) 0, .slice none 0 0] 151 (0, 0)), (some b1, .cells #[i64 ((0 : Int)), .slice none 0 0, .slice none 0 0] 70 (0, 0))]) rfl
  refine wend ?_
  refine seqRegion ?_
  refine q_alloc (o := .cells (cel EI (List.replicate 128 0)).toArray 154 (0, 0)) H10 zer154 (by kernel_rfl) ?_
  intro b11 w12 hb11 H13 hE14
  rw [padX_nil] at H13
  refine wend ?_
  refine seqAny ?_
  refine seqRegion ?_
  refine sq (r_move (v := i64 ((2 : Int))) rfl) ?_
  refine sq (r_move (v := i64 ((0 : Int))) rfl) ?_
  refine wend ?_
  refine blockAny ?_
  refine loopAny (σ := Nat × Option Nat × Nat × List Value) (fun (i, kz, cz, sz) => [(0, i64 ((2 : Int))), (1, u64 (fm)), (4, .pointer (some ⟨b1, 0, none⟩)), (7, .pointer (some ⟨b5, 0, none⟩)), (8, .pointer (some ⟨b11, 0, none⟩)), (36, i64 ((2 : Int))), (37, i64 ((i : Nat)))]) (fun (i, kz, cz, sz) w' => (i ≤ 2 ∧ Sl EG kz (opsS 256 fm i).1 cz sz) ∧ Hp No w w' [(some b5, .cells #[i64 ((256 : Nat)), .slice (ownA kz) (List.length ((opsS 256 fm i).1)) cz, .slice none 0 0] 151 (0, 0)), (kz, sob EG 99 ((opsS 256 fm i).1) sz), (some b11, .cells (cel EI (padX ((opsS 256 fm i).2))).toArray 154 (0, 0)), (some b1, .cells #[i64 ((0 : Int)), .slice none 0 0, .slice none 0 0] 70 (0, 0))]) (fun (i, kz, cz, sz) => 2 - i) ((0, none, 0, [])) ?_ ?_ ?_
  · exact ⟨rfl, rfl, rfl, rfl, rfl, rfl, rfl, trivial⟩
  · exact ⟨⟨by omega, Sl.none⟩, (H13.pick 4 [2, 1, 0, 3] (by decide) (by decide))⟩
  rintro ⟨i, kz, cz, sz⟩ ρ w15 ⟨⟨hq, hSz⟩, HL⟩
  have hol := opsS_len 256 fm i
  have hi1 := inW_len (64 * (2 * i)) 64
  have hi2 := inW_len (64 * (2 * i + 1)) 64
  have hpx : (padX (opsS 256 fm i).2).length = 128 := padX_len (by rw [hol.2]; omega)
  refine seqRegion ?_
  refine sq (r_lssI (a := (i : Nat)) (b := (2 : Int)) rfl rfl) ?_
  refine wend ?_
  refine seqAny ?_
  refine condProp (((i : Nat) : Int) < (2 : Int)) rfl (fun c38 => ?_) (fun c38 => ?_)
  · skip
    refine skipAny ?_
    refine thenNormal ?_
    refine seqAny ?_
    refine blockAny ?_
    refine seqRegion ?_
    refine sq (r_move (v := i64 ((i : Nat))) rfl) ?_
    refine sq (r_assign (v := i64 ((i : Nat))) rfl) ?_
    refine wend ?_
    refine seqRegion ?_
    refine sq (r_move (v := .pointer (some ⟨b5, 0, none⟩)) rfl) ?_
    refine sq (r_move (v := i64 ((i : Nat))) rfl) ?_
    refine sq ((r_mulI (a := (2 : Int)) (b := (i : Nat)) rfl rfl (by omega)).as (v' := i64 (((2 * i) : Nat))) (by exact congrArg i64 (by omega))) ?_
    refine c_call (vs := [.pointer (some ⟨b5, 0, none⟩), i64 (((2 * i) : Nat))]) call73 rfl (input_ok b5 (2 * i) (by omega) w15) ?_
    rintro _ w17 ⟨rfl, hE18⟩
    have H19 := HL.ext hE18
    refine sq (r_move (v := .pointer (some ⟨b5, 0, none⟩)) rfl) ?_
    refine sq (r_move (v := i64 ((i : Nat))) rfl) ?_
    refine sq ((r_mulI (a := (2 : Int)) (b := (i : Nat)) rfl rfl (by omega)).as (v' := i64 (((2 * i) : Nat))) (by exact congrArg i64 (by omega))) ?_
    refine sq ((r_addI (a := ((2 * i) : Nat)) (b := (1 : Int)) rfl rfl (by omega)).as (v' := i64 (((2 * i + 1) : Nat))) (by exact congrArg i64 (by omega))) ?_
    refine c_call (vs := [.pointer (some ⟨b5, 0, none⟩), i64 (((2 * i + 1) : Nat))]) call73 rfl (input_ok b5 (2 * i + 1) (by omega) w17) ?_
    rintro _ w20 ⟨rfl, hE21⟩
    have H22 := H19.ext hE21
    refine q_alloc (o := .cells (cel EI (List.replicate 64 0)).toArray 153 (0, 0)) H22 zer153 (by kernel_rfl) ?_
    intro b23 w24 hb23 H25 hE26
    refine q_alloc (o := .cells (cel EI (List.replicate 64 0)).toArray 153 (0, 0)) H25 zer153 (by kernel_rfl) ?_
    intro b27 w28 hb27 H29 hE30
    refine d_store (k := 1) (v := .agg (cel EI (inW (64 * (2 * i)) 64)).toArray) (cs' := (cel EI (inW (64 * (2 * i)) 64)).toArray) H29 rfl rfl rfl siz153 (by exact celSize (by rw [hi1]; rfl)) (by exact celOne _) (by rw [List.size_toArray, cel_length]; show _ ≤ _ * 1; first | omega | (simp only [List.length_set]; omega) | exact Nat.le_of_ble_eq_true rfl | (simp <;> omega)) (by exact putAll (by rw [List.length_replicate]; exact hi1.symm)) ?_
    intro w31 H32 hC33
    have H32' := H32.as (L' := [(some b27, .cells (cel EI (List.replicate 64 0)).toArray 153 (0, 0)), (some b23, .cells (cel EI (inW (64 * (2 * i)) 64)).toArray 153 (0, 0)), (some b5, .cells #[i64 ((256 : Nat)), .slice (ownA kz) (List.length ((opsS 256 fm i).1)) cz, .slice none 0 0] 151 (0, 0)), (kz, sob EG 99 ((opsS 256 fm i).1) sz), (some b11, .cells (cel EI (padX ((opsS 256 fm i).2))).toArray 154 (0, 0)), (some b1, .cells #[i64 ((0 : Int)), .slice none 0 0, .slice none 0 0] 70 (0, 0))]) rfl
    clear H32
    refine d_store (k := 0) (v := .agg (cel EI (inW (64 * (2 * i + 1)) 64)).toArray) (cs' := (cel EI (inW (64 * (2 * i + 1)) 64)).toArray) H32' rfl rfl rfl siz153 (by exact celSize (by rw [hi2]; rfl)) (by exact celOne _) (by rw [List.size_toArray, cel_length]; show _ ≤ _ * 1; first | omega | (simp only [List.length_set]; omega) | exact Nat.le_of_ble_eq_true rfl | (simp <;> omega)) (by exact putAll (by rw [List.length_replicate]; exact hi2.symm)) ?_
    intro w34 H35 hC36
    have H35' := H35.as (L' := [(some b27, .cells (cel EI (inW (64 * (2 * i + 1)) 64)).toArray 153 (0, 0)), (some b23, .cells (cel EI (inW (64 * (2 * i)) 64)).toArray 153 (0, 0)), (some b5, .cells #[i64 ((256 : Nat)), .slice (ownA kz) (List.length ((opsS 256 fm i).1)) cz, .slice none 0 0] 151 (0, 0)), (kz, sob EG 99 ((opsS 256 fm i).1) sz), (some b11, .cells (cel EI (padX ((opsS 256 fm i).2))).toArray 154 (0, 0)), (some b1, .cells #[i64 ((0 : Int)), .slice none 0 0, .slice none 0 0] 70 (0, 0))]) rfl
    clear H35
    refine wend ?_
    refine seqRegion ?_
    refine sq (r_move (v := u64 (fm)) rfl) ?_
    refine sq (r_move (v := i64 ((i : Nat))) rfl) ?_
    refine sq (r_shr64 (a := fm) (c := i) rfl rfl) ?_
    refine sq (r_and64 (a := fm >>> (i : Nat)) (b := 1#64) rfl rfl) ?_
    refine sq (r_eql64 (a := (fm >>> (i : Nat)) &&& (1#64)) (b := 1#64) rfl rfl) ?_
    refine wend ?_
    refine condProp (((fm >>> (i : Nat)) &&& (1#64)) = (1#64)) rfl (fun c53 => ?_) (fun c53 => ?_)
    · skip
      refine oneRegion ?_
      refine sq (r_move (v := i64 ((i : Nat))) rfl) ?_
      refine sq (r_move (v := .pointer (some ⟨b5, 0, none⟩)) rfl) ?_
      refine sq (r_loadA (cs' := (cel EI (inW (64 * (2 * i)) 64)).toArray) agg153 siz153 (H35'.get (k := 1) rfl) (off := 0) rfl (by rw [List.size_toArray, cel_length]; show _ ≤ _ * 1; omega) (by exact ext_all (by rw [cel_length]; show _ * 1 = _; omega))) ?_
      refine sq (r_loadA (cs' := (cel EI (inW (64 * (2 * i + 1)) 64)).toArray) agg153 siz153 (H35'.get (k := 0) rfl) (off := 0) rfl (by rw [List.size_toArray, cel_length]; show _ ≤ _ * 1; omega) (by exact ext_all (by rw [cel_length]; show _ * 1 = _; omega))) ?_
      have H37 := ((H35'.pick 6 [2, 3, 0, 1, 4, 5] (by decide) (by decide))).as (L' := ((some b5, .cells #[i64 ((256 : Nat)), .slice (ownA kz) (List.length ((opsS 256 fm i).1)) cz, .slice none 0 0] 151 (0, 0)) :: (kz, sob EG 99 ((opsS 256 fm i).1) sz) :: [(some b27, .cells (cel EI (inW (64 * (2 * i + 1)) 64)).toArray 153 (0, 0)), (some b23, .cells (cel EI (inW (64 * (2 * i)) 64)).toArray 153 (0, 0)), (some b11, .cells (cel EI (padX ((opsS 256 fm i).2))).toArray 154 (0, 0)), (some b1, .cells #[i64 ((0 : Int)), .slice none 0 0, .slice none 0 0] 70 (0, 0))])) rfl
      refine c_call (vs := [.pointer (some ⟨b5, 0, none⟩), .agg (cel EI (inW (64 * (2 * i)) 64)).toArray, .agg (cel EI (inW (64 * (2 * i + 1)) 64)).toArray]) call74 rfl (mxor_ok b5 256 kz cz sz ((opsS 256 fm i).1) hSz (by omega) (by omega) (inW (64 * (2 * i)) 64) (inW (64 * (2 * i + 1)) 64) (by omega) (by omega) [(some b27, .cells (cel EI (inW (64 * (2 * i + 1)) 64)).toArray 153 (0, 0)), (some b23, .cells (cel EI (inW (64 * (2 * i)) 64)).toArray 153 (0, 0)), (some b11, .cells (cel EI (padX ((opsS 256 fm i).2))).toArray 154 (0, 0)), (some b1, .cells #[i64 ((0 : Int)), .slice none 0 0, .slice none 0 0] 70 (0, 0))] w w34 H37) ?_
      rintro _ w38 ⟨rfl, key40, c41, sp42, hS43, HN44⟩
      have H45 := HN44.as (L' := [(some b5, .cells #[i64 ((256 : Nat)), .slice (ownA key40) (List.length ((xoS 256 ((opsS 256 fm i).1) (inW (64 * (2 * i)) 64) (inW (64 * (2 * i + 1)) 64) 64).1)) c41, .slice none 0 0] 151 (0, 0)), (key40, sob EG 99 ((xoS 256 ((opsS 256 fm i).1) (inW (64 * (2 * i)) 64) (inW (64 * (2 * i + 1)) 64) 64).1) sp42), (some b27, .cells (cel EI (inW (64 * (2 * i + 1)) 64)).toArray 153 (0, 0)), (some b23, .cells (cel EI (inW (64 * (2 * i)) 64)).toArray 153 (0, 0)), (some b11, .cells (cel EI (padX ((opsS 256 fm i).2))).toArray 154 (0, 0)), (some b1, .cells #[i64 ((0 : Int)), .slice none 0 0, .slice none 0 0] 70 (0, 0))]) rfl
      have hnr : (xoS 256 ((opsS 256 fm i).1) (inW (64 * (2 * i)) 64) (inW (64 * (2 * i + 1)) 64) 64).2.length = 64 := (xoS_len 256 ((opsS 256 fm i).1) (inW (64 * (2 * i)) 64) (inW (64 * (2 * i + 1)) 64) 64).2
      refine sq (r_indexA (off' := i * 64) (j := i) arr154 (b := b11) (off := 0) rfl rfl (by first | rfl | omega | (simp; omega)) (by omega) (by omega)) ?_
      refine d_store (k := 4) (v := .agg (cel EI ((xoS 256 ((opsS 256 fm i).1) (inW (64 * (2 * i)) 64) (inW (64 * (2 * i + 1)) 64) 64).2)).toArray) (cs' := (cel EI (padX ((opsS 256 fm i).2 ++ (xoS 256 ((opsS 256 fm i).1) (inW (64 * (2 * i)) 64) (inW (64 * (2 * i + 1)) 64) 64).2))).toArray) H45 rfl rfl rfl siz153 (by exact celSize (by rw [hnr]; rfl)) (by exact celOne _) (by rw [List.size_toArray, cel_length, padX_len (by rw [hol.2]; omega)]; show _ ≤ _ * 1; omega) (by exact padX_put (by rw [hol.2]; omega) (by rw [hol.2]; omega) (by first | exact hnr)) ?_
      intro w46 H47 hC48
      have H47' := H47.as (L' := [(some b5, .cells #[i64 ((256 : Nat)), .slice (ownA key40) (List.length ((xoS 256 ((opsS 256 fm i).1) (inW (64 * (2 * i)) 64) (inW (64 * (2 * i + 1)) 64) 64).1)) c41, .slice none 0 0] 151 (0, 0)), (key40, sob EG 99 ((xoS 256 ((opsS 256 fm i).1) (inW (64 * (2 * i)) 64) (inW (64 * (2 * i + 1)) 64) 64).1) sp42), (some b27, .cells (cel EI (inW (64 * (2 * i + 1)) 64)).toArray 153 (0, 0)), (some b23, .cells (cel EI (inW (64 * (2 * i)) 64)).toArray 153 (0, 0)), (some b11, .cells (cel EI (padX ((opsS 256 fm i).2 ++ (xoS 256 ((opsS 256 fm i).1) (inW (64 * (2 * i)) 64) (inW (64 * (2 * i + 1)) 64) 64).2))).toArray 154 (0, 0)), (some b1, .cells #[i64 ((0 : Int)), .slice none 0 0, .slice none 0 0] 70 (0, 0))]) rfl
      clear H47
      refine wnil ?_
      refine blockNormal ?_
      refine thenNormal ?_
      refine oneRegion ?_
      refine sq (r_addI (a := (i : Nat)) (b := (1 : Int)) rfl rfl (by omega)) ?_
      refine sq (r_move (v := i64 ((i : Nat) + (1 : Int))) rfl) ?_
      refine wnil ?_
      refine thenNormal ?_
      have e49 : (xoS 256 ((opsS 256 fm i).1) (inW (64 * (2 * i)) 64) (inW (64 * (2 * i + 1)) 64) 64).1 = (opsS 256 fm (i + 1)).1 := by rw [opsS, opS_t c53]
      have hS50 := hS43
      rw [e49] at hS50
      have H51 : Hp No w w46 [(some b5, .cells #[i64 ((256 : Nat)), .slice (ownA key40) (List.length ((opsS 256 fm (i + 1)).1)) c41, .slice none 0 0] 151 (0, 0)), (key40, sob EG 99 ((opsS 256 fm (i + 1)).1) sp42), (some b27, .cells (cel EI (inW (64 * (2 * i + 1)) 64)).toArray 153 (0, 0)), (some b23, .cells (cel EI (inW (64 * (2 * i)) 64)).toArray 153 (0, 0)), (some b11, .cells (cel EI (padX ((opsS 256 fm i).2 ++ (xoS 256 ((opsS 256 fm i).1) (inW (64 * (2 * i)) 64) (inW (64 * (2 * i + 1)) 64) 64).2))).toArray 154 (0, 0)), (some b1, .cells #[i64 ((0 : Int)), .slice none 0 0, .slice none 0 0] 70 (0, 0))] := by rw [← e49]; exact H47'
      rw [show (opsS 256 fm i).2 ++ (xoS 256 ((opsS 256 fm i).1) (inW (64 * (2 * i)) 64) (inW (64 * (2 * i + 1)) 64) 64).2 = (opsS 256 fm (i + 1)).2 from by rw [opsS, opS_t c53]] at H51
      exact ⟨(i + 1, key40, c41, sp42), _, rfl, ⟨rfl, rfl, rfl, rfl, rfl, rfl, rfl, trivial⟩, ⟨⟨by omega, hS50⟩, ((H51.dropk 3).dropk 2)⟩, by show 2 - (i + 1) < 2 - i; omega⟩
    · skip
      refine oneRegion ?_
      refine sq (r_move (v := i64 ((i : Nat))) rfl) ?_
      refine sq (r_move (v := .pointer (some ⟨b5, 0, none⟩)) rfl) ?_
      refine sq (r_loadA (cs' := (cel EI (inW (64 * (2 * i)) 64)).toArray) agg153 siz153 (H35'.get (k := 1) rfl) (off := 0) rfl (by rw [List.size_toArray, cel_length]; show _ ≤ _ * 1; omega) (by exact ext_all (by rw [cel_length]; show _ * 1 = _; omega))) ?_
      refine sq (r_loadA (cs' := (cel EI (inW (64 * (2 * i + 1)) 64)).toArray) agg153 siz153 (H35'.get (k := 0) rfl) (off := 0) rfl (by rw [List.size_toArray, cel_length]; show _ ≤ _ * 1; omega) (by exact ext_all (by rw [cel_length]; show _ * 1 = _; omega))) ?_
      have H52 := ((H35'.pick 6 [2, 3, 0, 1, 4, 5] (by decide) (by decide))).as (L' := ((some b5, .cells #[i64 ((256 : Nat)), .slice (ownA kz) (List.length ((opsS 256 fm i).1)) cz, .slice none 0 0] 151 (0, 0)) :: (kz, sob EG 99 ((opsS 256 fm i).1) sz) :: [(some b27, .cells (cel EI (inW (64 * (2 * i + 1)) 64)).toArray 153 (0, 0)), (some b23, .cells (cel EI (inW (64 * (2 * i)) 64)).toArray 153 (0, 0)), (some b11, .cells (cel EI (padX ((opsS 256 fm i).2))).toArray 154 (0, 0)), (some b1, .cells #[i64 ((0 : Int)), .slice none 0 0, .slice none 0 0] 70 (0, 0))])) rfl
      refine c_call (vs := [.pointer (some ⟨b5, 0, none⟩), .agg (cel EI (inW (64 * (2 * i)) 64)).toArray, .agg (cel EI (inW (64 * (2 * i + 1)) 64)).toArray]) call75 rfl (madd_ok b5 256 kz cz sz ((opsS 256 fm i).1) hSz (by omega) (by omega) (inW (64 * (2 * i)) 64) (inW (64 * (2 * i + 1)) 64) (by omega) (by omega) [(some b27, .cells (cel EI (inW (64 * (2 * i + 1)) 64)).toArray 153 (0, 0)), (some b23, .cells (cel EI (inW (64 * (2 * i)) 64)).toArray 153 (0, 0)), (some b11, .cells (cel EI (padX ((opsS 256 fm i).2))).toArray 154 (0, 0)), (some b1, .cells #[i64 ((0 : Int)), .slice none 0 0, .slice none 0 0] 70 (0, 0))] w w34 H52) ?_
      rintro _ w53 ⟨rfl, key55, c56, sp57, hS58, HN59⟩
      have H60 := HN59.as (L' := [(some b5, .cells #[i64 ((256 : Nat)), .slice (ownA key55) (List.length ((adS 256 ((opsS 256 fm i).1) (inW (64 * (2 * i)) 64) (inW (64 * (2 * i + 1)) 64) 63).1)) c56, .slice none 0 0] 151 (0, 0)), (key55, sob EG 99 ((adS 256 ((opsS 256 fm i).1) (inW (64 * (2 * i)) 64) (inW (64 * (2 * i + 1)) 64) 63).1) sp57), (some b27, .cells (cel EI (inW (64 * (2 * i + 1)) 64)).toArray 153 (0, 0)), (some b23, .cells (cel EI (inW (64 * (2 * i)) 64)).toArray 153 (0, 0)), (some b11, .cells (cel EI (padX ((opsS 256 fm i).2))).toArray 154 (0, 0)), (some b1, .cells #[i64 ((0 : Int)), .slice none 0 0, .slice none 0 0] 70 (0, 0))]) rfl
      have hnr : (adS 256 ((opsS 256 fm i).1) (inW (64 * (2 * i)) 64) (inW (64 * (2 * i + 1)) 64) 63).2.1.length = 64 := (adS_len 256 ((opsS 256 fm i).1) (inW (64 * (2 * i)) 64) (inW (64 * (2 * i + 1)) 64) 63).2
      refine sq (r_indexA (off' := i * 64) (j := i) arr154 (b := b11) (off := 0) rfl rfl (by first | rfl | omega | (simp; omega)) (by omega) (by omega)) ?_
      refine d_store (k := 4) (v := .agg (cel EI ((adS 256 ((opsS 256 fm i).1) (inW (64 * (2 * i)) 64) (inW (64 * (2 * i + 1)) 64) 63).2.1)).toArray) (cs' := (cel EI (padX ((opsS 256 fm i).2 ++ (adS 256 ((opsS 256 fm i).1) (inW (64 * (2 * i)) 64) (inW (64 * (2 * i + 1)) 64) 63).2.1))).toArray) H60 rfl rfl rfl siz153 (by exact celSize (by rw [hnr]; rfl)) (by exact celOne _) (by rw [List.size_toArray, cel_length, padX_len (by rw [hol.2]; omega)]; show _ ≤ _ * 1; omega) (by exact padX_put (by rw [hol.2]; omega) (by rw [hol.2]; omega) (by first | exact hnr)) ?_
      intro w61 H62 hC63
      have H62' := H62.as (L' := [(some b5, .cells #[i64 ((256 : Nat)), .slice (ownA key55) (List.length ((adS 256 ((opsS 256 fm i).1) (inW (64 * (2 * i)) 64) (inW (64 * (2 * i + 1)) 64) 63).1)) c56, .slice none 0 0] 151 (0, 0)), (key55, sob EG 99 ((adS 256 ((opsS 256 fm i).1) (inW (64 * (2 * i)) 64) (inW (64 * (2 * i + 1)) 64) 63).1) sp57), (some b27, .cells (cel EI (inW (64 * (2 * i + 1)) 64)).toArray 153 (0, 0)), (some b23, .cells (cel EI (inW (64 * (2 * i)) 64)).toArray 153 (0, 0)), (some b11, .cells (cel EI (padX ((opsS 256 fm i).2 ++ (adS 256 ((opsS 256 fm i).1) (inW (64 * (2 * i)) 64) (inW (64 * (2 * i + 1)) 64) 63).2.1))).toArray 154 (0, 0)), (some b1, .cells #[i64 ((0 : Int)), .slice none 0 0, .slice none 0 0] 70 (0, 0))]) rfl
      clear H62
      refine wnil ?_
      refine blockNormal ?_
      refine thenNormal ?_
      refine oneRegion ?_
      refine sq (r_addI (a := (i : Nat)) (b := (1 : Int)) rfl rfl (by omega)) ?_
      refine sq (r_move (v := i64 ((i : Nat) + (1 : Int))) rfl) ?_
      refine wnil ?_
      refine thenNormal ?_
      have e64 : (adS 256 ((opsS 256 fm i).1) (inW (64 * (2 * i)) 64) (inW (64 * (2 * i + 1)) 64) 63).1 = (opsS 256 fm (i + 1)).1 := by rw [opsS, opS_f c53]
      have hS65 := hS58
      rw [e64] at hS65
      have H66 : Hp No w w61 [(some b5, .cells #[i64 ((256 : Nat)), .slice (ownA key55) (List.length ((opsS 256 fm (i + 1)).1)) c56, .slice none 0 0] 151 (0, 0)), (key55, sob EG 99 ((opsS 256 fm (i + 1)).1) sp57), (some b27, .cells (cel EI (inW (64 * (2 * i + 1)) 64)).toArray 153 (0, 0)), (some b23, .cells (cel EI (inW (64 * (2 * i)) 64)).toArray 153 (0, 0)), (some b11, .cells (cel EI (padX ((opsS 256 fm i).2 ++ (adS 256 ((opsS 256 fm i).1) (inW (64 * (2 * i)) 64) (inW (64 * (2 * i + 1)) 64) 63).2.1))).toArray 154 (0, 0)), (some b1, .cells #[i64 ((0 : Int)), .slice none 0 0, .slice none 0 0] 70 (0, 0))] := by rw [← e64]; exact H62'
      rw [show (opsS 256 fm i).2 ++ (adS 256 ((opsS 256 fm i).1) (inW (64 * (2 * i)) 64) (inW (64 * (2 * i + 1)) 64) 63).2.1 = (opsS 256 fm (i + 1)).2 from by rw [opsS, opS_f c53]] at H66
      exact ⟨(i + 1, key55, c56, sp57), _, rfl, ⟨rfl, rfl, rfl, rfl, rfl, rfl, rfl, trivial⟩, ⟨⟨by omega, hS65⟩, ((H66.dropk 3).dropk 2)⟩, by show 2 - (i + 1) < 2 - i; omega⟩
  · skip
    have hie : i = 2 := by omega
    rw [hie, opsS_two] at HL hSz hol
    obtain ⟨o1, ho1⟩ : ∃ q, q = opS 256 [] 0 64 (fbS fm 0) := ⟨_, rfl⟩
    rw [← ho1] at HL hSz hol
    have hl1 := opS_len 256 [] 0 64 (fbS fm 0)
    rw [← ho1] at hl1
    obtain ⟨o2, ho2⟩ : ∃ q, q = opS 256 o1.1 128 192 (fbS fm 1) := ⟨_, rfl⟩
    rw [← ho2] at HL hSz hol
    have hl2 := opS_len 256 o1.1 128 192 (fbS fm 1)
    rw [← ho2] at hl2
    rw [padX_full (by rw [List.length_append]; omega)] at HL
    simp only [List.length_nil] at hl1
    dsimp only at HL hSz
    have H67 := HL.as (L' := [(some b5, .cells #[i64 ((256 : Nat)), .slice (ownA kz) (List.length o2.1) cz, .slice none 0 0] 151 (0, 0)), (kz, sob EG 99 o2.1 sz), (some b11, .cells (cel EI (o1.2 ++ o2.2)).toArray 154 (0, 0)), (some b1, .cells #[i64 ((0 : Int)), .slice none 0 0, .slice none 0 0] 70 (0, 0))]) rfl
    have hpx : (o1.2 ++ o2.2).length = 128 := by rw [List.length_append]; omega
    refine exitAny ?_
    refine thenExit ?_
    refine thenExit ?_
    refine blockHere ?_
    refine thenNormal ?_
    refine seqRegion ?_
    refine q_alloc (o := .cells (cel EI (List.replicate 64 0)).toArray 153 (0, 0)) H67 zer153 (by kernel_rfl) ?_
    intro b68 w69 hb68 H70 hE71
    refine wend ?_
    refine seqAny ?_
    refine seqRegion ?_
    refine sq (r_move (v := .pointer (some ⟨b5, 0, none⟩)) rfl) ?_
    have H72 := ((H70.pick 5 [1, 2, 0, 3, 4] (by decide) (by decide))).as (L' := ((some b5, .cells #[i64 ((256 : Nat)), .slice (ownA kz) (List.length o2.1) cz, .slice none 0 0] 151 (0, 0)) :: (kz, sob EG 99 o2.1 sz) :: [(some b68, .cells (cel EI (List.replicate 64 0)).toArray 153 (0, 0)), (some b11, .cells (cel EI (o1.2 ++ o2.2)).toArray 154 (0, 0)), (some b1, .cells #[i64 ((0 : Int)), .slice none 0 0, .slice none 0 0] 70 (0, 0))])) rfl
    refine c_call (vs := [.pointer (some ⟨b5, 0, none⟩), i64 ((1 : Int)), i64 ((0 : Int)), i64 ((0 : Int))]) call76 rfl (gate_ok b5 256 kz cz sz o2.1 hSz (by omega) (by omega) (1 : Int) (0 : Int) (0 : Int) [(some b68, .cells (cel EI (List.replicate 64 0)).toArray 153 (0, 0)), (some b11, .cells (cel EI (o1.2 ++ o2.2)).toArray 154 (0, 0)), (some b1, .cells #[i64 ((0 : Int)), .slice none 0 0, .slice none 0 0] 70 (0, 0))] w w69 H72) ?_
    rintro wv81 w73 ⟨hwv82, key75, c76, sp77, hS78, HN79⟩
    obtain ⟨wx83, hwx83⟩ : ∃ q, q = wrW 256 o2.1 := ⟨_, rfl⟩
    rw [← hwx83] at hwv82
    subst hwv82
    have H80 := HN79.as (L' := [(some b5, .cells #[i64 ((256 : Nat)), .slice (ownA key75) (List.length (o2.1 ++ [(⟨(1 : Int), (0 : Int), (0 : Int)⟩ : Gt)])) c76, .slice none 0 0] 151 (0, 0)), (key75, sob EG 99 (o2.1 ++ [(⟨(1 : Int), (0 : Int), (0 : Int)⟩ : Gt)]) sp77), (some b68, .cells (cel EI (List.replicate 64 0)).toArray 153 (0, 0)), (some b11, .cells (cel EI (o1.2 ++ o2.2)).toArray 154 (0, 0)), (some b1, .cells #[i64 ((0 : Int)), .slice none 0 0, .slice none 0 0] 70 (0, 0))]) rfl
    refine sq (r_assign (v := i64 (wx83)) rfl) ?_
    subst hwx83
    have e84 : o2.1 ++ [(⟨(1 : Int), (0 : Int), (0 : Int)⟩ : Gt)] = ze o2.1 := by rfl
    have hS85 := hS78
    rw [e84] at hS85
    have H86 : Hp No w w73 [(some b5, .cells #[i64 ((256 : Nat)), .slice (ownA key75) (List.length (ze o2.1)) c76, .slice none 0 0] 151 (0, 0)), (key75, sob EG 99 (ze o2.1) sp77), (some b68, .cells (cel EI (List.replicate 64 0)).toArray 153 (0, 0)), (some b11, .cells (cel EI (o1.2 ++ o2.2)).toArray 154 (0, 0)), (some b1, .cells #[i64 ((0 : Int)), .slice none 0 0, .slice none 0 0] 70 (0, 0))] := by rw [← e84]; exact H80
    have hzl : (ze o2.1).length = o2.1.length + 1 := by simp [ze]
    refine wend ?_
    refine seqRegion ?_
    refine sq (r_move (v := i64 ((2 : Int))) rfl) ?_
    refine wend ?_
    refine blockAny ?_
    refine seqRegion ?_
    refine sq ((r_eqlI (a := (2 : Int)) (b := (1 : Int)) rfl rfl).as (v' := .bool (false)) (by rfl)) ?_
    refine sq (r_assign (v := .bool (false)) rfl) ?_
    refine wend ?_
    refine condFalse rfl ?_
    refine seqRegion ?_
    refine sq ((r_eqlI (a := (2 : Int)) (b := (2 : Int)) rfl rfl).as (v' := .bool (true)) (by rfl)) ?_
    refine sq (r_assign (v := .bool (true)) rfl) ?_
    refine wend ?_
    refine condTrue rfl ?_
    refine seqAny ?_
    refine seqRegion ?_
    refine sq (r_move (v := i64 ((0 : Int))) rfl) ?_
    refine wend ?_
    refine blockAny ?_
    refine loopAny (σ := Nat) (fun i => [(4, .pointer (some ⟨b1, 0, none⟩)), (7, .pointer (some ⟨b5, 0, none⟩)), (8, .pointer (some ⟨b11, 0, none⟩)), (12, .pointer (some ⟨b68, 0, none⟩)), (13, i64 ((wrW 256 o2.1))), (94, i64 ((i : Nat)))]) (fun i w' => i ≤ 64 ∧ Hp No w w' [(some b68, .cells (cel EI (padW (List.replicate i (wrW 256 o2.1)))).toArray 153 (0, 0)), (some b5, .cells #[i64 ((256 : Nat)), .slice (ownA key75) (List.length (ze o2.1)) c76, .slice none 0 0] 151 (0, 0)), (key75, sob EG 99 (ze o2.1) sp77), (some b11, .cells (cel EI (o1.2 ++ o2.2)).toArray 154 (0, 0)), (some b1, .cells #[i64 ((0 : Int)), .slice none 0 0, .slice none 0 0] 70 (0, 0))]) (fun i => 64 - i) (0) ?_ ?_ ?_
    · exact ⟨rfl, rfl, rfl, rfl, rfl, rfl, trivial⟩
    · exact ⟨Nat.zero_le _, (H86.pick 5 [2, 0, 1, 3, 4] (by decide) (by decide))⟩
    rintro i ρ w87 ⟨hq2, HL2⟩
    have hpl : (padW (List.replicate i (wrW 256 o2.1))).length = 64 := padW_len (by rw [List.length_replicate]; exact hq2)
    refine seqRegion ?_
    refine sq (r_lssI (a := (i : Nat)) (b := (64 : Int)) rfl rfl) ?_
    refine wend ?_
    refine seqAny ?_
    refine condProp (((i : Nat) : Int) < (64 : Int)) rfl (fun c95 => ?_) (fun c95 => ?_)
    · skip
      refine skipAny ?_
      refine thenNormal ?_
      refine seqAny ?_
      refine blockAny ?_
      refine seqRegion ?_
      refine sq (r_move (v := i64 ((i : Nat))) rfl) ?_
      refine sq (r_assign (v := i64 ((i : Nat))) rfl) ?_
      refine wend ?_
      refine oneRegion ?_
      refine sq (r_move (v := i64 ((i : Nat))) rfl) ?_
      refine sq (r_move (v := i64 ((wrW 256 o2.1))) rfl) ?_
      refine sq (r_indexA (off' := i) (j := i) arr153 (b := b68) (off := 0) rfl rfl (by first | rfl | omega | (simp; omega)) (by omega) (by omega)) ?_
      refine d_store (k := 0) (v := i64 ((wrW 256 o2.1))) (cs' := (cel EI ((padW (List.replicate i (wrW 256 o2.1))).set i (wrW 256 o2.1))).toArray) HL2 rfl rfl rfl siz3 (by rfl) (by exact EI.one _) (by rw [List.size_toArray, cel_length]; show _ ≤ _ * 1; first | omega | (simp only [List.length_set]; omega) | exact Nat.le_of_ble_eq_true rfl | (simp <;> omega)) (by exact put1 (E := EI) rfl _ _ _) ?_
      intro w89 H90 hC91
      have H90' := H90.as (L' := [(some b68, .cells (cel EI ((padW (List.replicate i (wrW 256 o2.1))).set i (wrW 256 o2.1))).toArray 153 (0, 0)), (some b5, .cells #[i64 ((256 : Nat)), .slice (ownA key75) (List.length (ze o2.1)) c76, .slice none 0 0] 151 (0, 0)), (key75, sob EG 99 (ze o2.1) sp77), (some b11, .cells (cel EI (o1.2 ++ o2.2)).toArray 154 (0, 0)), (some b1, .cells #[i64 ((0 : Int)), .slice none 0 0, .slice none 0 0] 70 (0, 0))]) rfl
      clear H90
      refine wnil ?_
      refine blockNormal ?_
      refine thenNormal ?_
      refine oneRegion ?_
      refine sq (r_addI (a := (i : Nat)) (b := (1 : Int)) rfl rfl (by omega)) ?_
      refine sq (r_move (v := i64 ((i : Nat) + (1 : Int))) rfl) ?_
      refine wnil ?_
      refine thenNormal ?_
      rw [padW_rep (by omega)] at H90'
      exact ⟨i + 1, _, rfl, ⟨rfl, rfl, rfl, rfl, rfl, rfl, trivial⟩, ⟨by omega, H90'⟩, by show 64 - (i + 1) < 64 - i; omega⟩
    · skip
      have hj : i = 64 := by omega
      rw [hj, padW_full List.length_replicate] at HL2
      refine exitAny ?_
      refine thenExit ?_
      refine thenExit ?_
      refine blockHere ?_
      refine thenNormal ?_
      refine oneRegion ?_
      refine sq (r_move (v := .pointer (some ⟨b5, 0, none⟩)) rfl) ?_
      refine sq (r_indexA (off' := 0) (j := 0) arr154 (b := b11) (off := 0) rfl rfl (by first | rfl | omega | (simp; omega)) (by omega) (by omega)) ?_
      refine sq ((r_loadA (cs' := (cel EI (((o1.2 ++ o2.2).drop 0).take 64)).toArray) agg153 siz153 (HL2.get (k := 3) rfl) (off := 0) rfl (by rw [List.size_toArray, cel_length]; show _ ≤ _ * 1; omega) (by exact ext_mid _ _ _ rfl)).as (v' := .agg (cel EI o1.2).toArray) (by exact congrArg (fun q => Value.agg (cel EI q).toArray) (first_of hl1.2))) ?_
      refine sq (r_indexA (off' := 64) (j := 1) arr154 (b := b11) (off := 0) rfl rfl (by first | rfl | omega | (simp; omega)) (by omega) (by omega)) ?_
      refine sq ((r_loadA (cs' := (cel EI (((o1.2 ++ o2.2).drop 64).take 64)).toArray) agg153 siz153 (HL2.get (k := 3) rfl) (off := 64) rfl (by rw [List.size_toArray, cel_length]; show _ ≤ _ * 1; omega) (by exact ext_mid _ _ _ rfl)).as (v' := .agg (cel EI o2.2).toArray) (by exact congrArg (fun q => Value.agg (cel EI q).toArray) (second_of hl1.2 hl2.2))) ?_
      have H92 := ((HL2.pick 5 [1, 2, 0, 3, 4] (by decide) (by decide))).as (L' := ((some b5, .cells #[i64 ((256 : Nat)), .slice (ownA key75) (List.length (ze o2.1)) c76, .slice none 0 0] 151 (0, 0)) :: (key75, sob EG 99 (ze o2.1) sp77) :: [(some b68, .cells (cel EI (List.replicate 64 (wrW 256 o2.1))).toArray 153 (0, 0)), (some b11, .cells (cel EI (o1.2 ++ o2.2)).toArray 154 (0, 0)), (some b1, .cells #[i64 ((0 : Int)), .slice none 0 0, .slice none 0 0] 70 (0, 0))])) rfl
      refine c_call (vs := [.pointer (some ⟨b5, 0, none⟩), .agg (cel EI o1.2).toArray, .agg (cel EI o2.2).toArray]) call77 rfl (mless_ok b5 256 key75 c76 sp77 (ze o2.1) hS85 (by omega) (by omega) o1.2 o2.2 (by omega) (by omega) [(some b68, .cells (cel EI (List.replicate 64 (wrW 256 o2.1))).toArray 153 (0, 0)), (some b11, .cells (cel EI (o1.2 ++ o2.2)).toArray 154 (0, 0)), (some b1, .cells #[i64 ((0 : Int)), .slice none 0 0, .slice none 0 0] 70 (0, 0))] w w87 H92) ?_
      rintro wv101 w93 ⟨hwv102, key95, c96, sp97, hS98, HN99⟩
      obtain ⟨wx103, hwx103⟩ : ∃ q, q = (leG 256 (ze o2.1) o1.2 o2.2).2 := ⟨_, rfl⟩
      rw [← hwx103] at hwv102
      subst hwv102
      have H100 := HN99.as (L' := [(some b5, .cells #[i64 ((256 : Nat)), .slice (ownA key95) (List.length ((leG 256 (ze o2.1) o1.2 o2.2).1)) c96, .slice none 0 0] 151 (0, 0)), (key95, sob EG 99 ((leG 256 (ze o2.1) o1.2 o2.2).1) sp97), (some b68, .cells (cel EI (List.replicate 64 (wrW 256 o2.1))).toArray 153 (0, 0)), (some b11, .cells (cel EI (o1.2 ++ o2.2)).toArray 154 (0, 0)), (some b1, .cells #[i64 ((0 : Int)), .slice none 0 0, .slice none 0 0] 70 (0, 0))]) rfl
      refine sq (r_indexA (off' := 0) (j := 0) arr153 (b := b68) (off := 0) rfl rfl (by first | rfl | omega | (simp; omega)) (by omega) (by omega)) ?_
      refine d_store (k := 2) (v := i64 (wx103)) (cs' := (cel EI ((List.replicate 64 (wrW 256 o2.1)).set 0 wx103)).toArray) H100 rfl rfl rfl siz3 (by rfl) (by exact EI.one _) (by rw [List.size_toArray, cel_length]; show _ ≤ _ * 1; rw [List.length_replicate]; omega) (by exact put1 (E := EI) rfl _ _ _) ?_
      intro w104 H105 hC106
      have H105' := H105.as (L' := [(some b5, .cells #[i64 ((256 : Nat)), .slice (ownA key95) (List.length ((leG 256 (ze o2.1) o1.2 o2.2).1)) c96, .slice none 0 0] 151 (0, 0)), (key95, sob EG 99 ((leG 256 (ze o2.1) o1.2 o2.2).1) sp97), (some b68, .cells (cel EI ((List.replicate 64 (wrW 256 o2.1)).set 0 wx103)).toArray 153 (0, 0)), (some b11, .cells (cel EI (o1.2 ++ o2.2)).toArray 154 (0, 0)), (some b1, .cells #[i64 ((0 : Int)), .slice none 0 0, .slice none 0 0] 70 (0, 0))]) rfl
      clear H105
      subst hwx103
      rw [rep_set] at H105'
      have hrl : ((leG 256 (ze o2.1) o1.2 o2.2).2 :: List.replicate 63 (wrW 256 o2.1)).length = 64 := by rw [List.length_cons, List.length_replicate]
      refine wnil ?_
      refine blockNormal ?_
      refine thenNormal ?_
      refine seqRegion ?_
      refine sq (r_move (v := .pointer (some ⟨b5, 0, none⟩)) rfl) ?_
      refine sq (r_sliceA0 arr153 (b := b68) (off := 0) rfl (Nat.le_of_ble_eq_true rfl)) ?_
      refine sq (r_nilCheck rfl) ?_
      refine sq (r_fieldAddr (off' := 0) fld151_0 (by decide) (b := b5) (off := 0) rfl (by omega)) ?_
      refine sq (r_fieldAddr (off' := 2) fld70_2 (by decide) (b := b5) (off := 0) rfl (by omega)) ?_
      refine d_store (k := 0) (v := .slice (some ⟨b68, 0, none⟩) 64 64) (cs' := #[i64 ((256 : Nat)), .slice (ownA key95) (List.length ((leG 256 (ze o2.1) o1.2 o2.2).1)) c96, .slice (some ⟨b68, 0, none⟩) 64 64]) H105' rfl rfl rfl siz60 (by rfl) (by intro u hu; simp [Value.cells] at hu; first | (subst hu; rfl) | (rcases hu with rfl <;> rfl)) (by exact Nat.le_of_ble_eq_true rfl) (by rfl) ?_
      intro w107 H108 hC109
      have H108' := H108.as (L' := [(some b5, .cells #[i64 ((256 : Nat)), .slice (ownA key95) (List.length ((leG 256 (ze o2.1) o1.2 o2.2).1)) c96, .slice (some ⟨b68, 0, none⟩) 64 64] 151 (0, 0)), (key95, sob EG 99 ((leG 256 (ze o2.1) o1.2 o2.2).1) sp97), (some b68, .cells (cel EI ((leG 256 (ze o2.1) o1.2 o2.2).2 :: List.replicate 63 (wrW 256 o2.1))).toArray 153 (0, 0)), (some b11, .cells (cel EI (o1.2 ++ o2.2)).toArray 154 (0, 0)), (some b1, .cells #[i64 ((0 : Int)), .slice none 0 0, .slice none 0 0] 70 (0, 0))]) rfl
      clear H108
      refine wend ?_
      refine seqRegion ?_
      refine sq (r_move (v := .pointer (some ⟨b5, 0, none⟩)) rfl) ?_
      refine sq (r_nilCheck rfl) ?_
      refine sq (r_fieldAddr (off' := 0) fld151_0 (by decide) (b := b5) (off := 0) rfl (by omega)) ?_
      refine sq (r_loadA (cs' := #[i64 ((256 : Nat)), .slice (ownA key95) (List.length ((leG 256 (ze o2.1) o1.2 o2.2).1)) c96, .slice (some ⟨b68, 0, none⟩) 64 64]) agg70 siz70 (H108'.get (k := 0) rfl) (off := 0) rfl (by exact Nat.le_of_ble_eq_true rfl) (by rfl)) ?_
      refine d_store (k := 4) (v := .agg #[i64 ((256 : Nat)), .slice (ownA key95) (List.length ((leG 256 (ze o2.1) o1.2 o2.2).1)) c96, .slice (some ⟨b68, 0, none⟩) 64 64]) (cs' := #[i64 ((256 : Nat)), .slice (ownA key95) (List.length ((leG 256 (ze o2.1) o1.2 o2.2).1)) c96, .slice (some ⟨b68, 0, none⟩) 64 64]) H108' rfl rfl rfl siz70 (by rfl) (by intro u hu; simp [Value.cells] at hu; first | (subst hu; rfl) | (rcases hu with rfl | rfl | rfl <;> rfl)) (by exact Nat.le_of_ble_eq_true rfl) (by rfl) ?_
      intro w110 H111 hC112
      have H111' := H111.as (L' := [(some b5, .cells #[i64 ((256 : Nat)), .slice (ownA key95) (List.length ((leG 256 (ze o2.1) o1.2 o2.2).1)) c96, .slice (some ⟨b68, 0, none⟩) 64 64] 151 (0, 0)), (key95, sob EG 99 ((leG 256 (ze o2.1) o1.2 o2.2).1) sp97), (some b68, .cells (cel EI ((leG 256 (ze o2.1) o1.2 o2.2).2 :: List.replicate 63 (wrW 256 o2.1))).toArray 153 (0, 0)), (some b11, .cells (cel EI (o1.2 ++ o2.2)).toArray 154 (0, 0)), (some b1, .cells #[i64 ((256 : Nat)), .slice (ownA key95) (List.length ((leG 256 (ze o2.1) o1.2 o2.2).1)) c96, .slice (some ⟨b68, 0, none⟩) 64 64] 70 (0, 0))]) rfl
      clear H111
      refine sq (r_assign (v := .nilIface) rfl) ?_
      refine wend ?_
      refine retAny ?_
      refine retG (rs := [.cell 4 70, .tmp 5]) (vs := [.agg #[i64 ((256 : Nat)), .slice (ownA key95) (List.length ((leG 256 (ze o2.1) o1.2 o2.2).1)) c96, .slice (some ⟨b68, 0, none⟩) 64 64], .nilIface]) rfl ⟨r_loadA (cs' := #[i64 ((256 : Nat)), .slice (ownA key95) (List.length ((leG 256 (ze o2.1) o1.2 o2.2).1)) c96, .slice (some ⟨b68, 0, none⟩) 64 64]) agg70 siz70 (H111'.get (k := 4) rfl) (off := 0) rfl (by exact Nat.le_of_ble_eq_true rfl) (by rfl), ⟨rfl, rfl⟩, trivial⟩ ?_
      rw [mk2_eq ho1 ho2]
      exact ⟨_, rfl, key95, c96, sp97, b68, rfl, hS98, (((H111'.dropk 4).dropk 3).dropk 0)⟩
set_option maxHeartbeats 2000000 in
theorem make_k3 (fm : BitVec 64) (hf : fm < 4#64) (w : World) : Calls Tryd.prog 29 [i64 (3 : Int), u64 fm].toArray w (Ret fun v w' => ∃ (key : Option Nat) (c : Nat) (sp : List Value) (b : Nat), v = .tuple #[.agg #[i64 ((256 : Nat) : Int), .slice (ownA key) (mk3 (fbS fm 0) (fbS fm 1)).1.length c, .slice (some ⟨b, 0, none⟩) 64 64], .nilIface] ∧ Sl EG key (mk3 (fbS fm 0) (fbS fm 1)).1 c sp ∧ Hp No w w' [(key, sob EG 99 (mk3 (fbS fm 0) (fbS fm 1)).1 sp), (some b, .cells (cel EI (mk3 (fbS fm 0) (fbS fm 1)).2).toArray 153 (0, 0))]) := by
  have H := Hp.start No w
  refine enter (n := 131) Tryd.func29 rfl rfl (Nat.le_of_ble_eq_true rfl) ?_
  refine seqRegion ?_
  refine q_alloc (o := .cells #[i64 ((0 : Int)), .slice none 0 0, .slice none 0 0] 70 (0, 0)) H zer70 (by kernel_rfl) ?_
  intro b1 w2 hb1 H3 hE4
  refine sq (r_assign (v := .nilIface) rfl) ?_
  refine wend ?_
  refine seqRegion ?_
  refine sq (r_assign (v := i64 ((2 : Int))) rfl) ?_
  refine wend ?_
  refine seqAny ?_
  refine seqRegion ?_
  refine sq (r_move (v := i64 ((3 : Int))) rfl) ?_
  refine wend ?_
  refine blockAny ?_
  refine seqAny ?_
  refine blockAny ?_
  refine seqAny ?_
  refine blockAny ?_
  refine seqAny ?_
  refine blockAny ?_
  refine seqAny ?_
  refine seqAny ?_
  refine seqRegion ?_
  refine sq ((r_eqlI (a := (3 : Int)) (b := (1 : Int)) rfl rfl).as (v' := .bool (false)) (by rfl)) ?_
  refine sq (r_assign (v := .bool (false)) rfl) ?_
  refine wend ?_
  refine condFalse rfl ?_
  refine skipAny ?_
  refine thenNormal ?_
  refine seqAny ?_
  refine seqRegion ?_
  refine sq ((r_eqlI (a := (3 : Int)) (b := (2 : Int)) rfl rfl).as (v' := .bool (false)) (by rfl)) ?_
  refine sq (r_assign (v := .bool (false)) rfl) ?_
  refine wend ?_
  refine condFalse rfl ?_
  refine oneRegion ?_
  refine sq ((r_eqlI (a := (3 : Int)) (b := (3 : Int)) rfl rfl).as (v' := .bool (true)) (by rfl)) ?_
  refine sq (r_assign (v := .bool (true)) rfl) ?_
  refine wnil ?_
  refine thenNormal ?_
  refine condTrue rfl ?_
  refine exitAny ?_
  refine thenExit ?_
  refine blockOut rfl ?_
  refine thenExit ?_
  refine blockHere ?_
  refine thenNormal ?_
  refine seqRegion ?_
  refine sq (r_move (v := u64 (fm)) rfl) ?_
  refine sq (r_move (v := i64 ((2 : Int))) rfl) ?_
  refine sq (r_shl64 (a := 1#64) (c := 2) rfl rfl) ?_
  refine sq ((r_lss64 (a := fm) (b := (1#64) <<< (2 : Nat)) rfl rfl).as (v' := .bool (true)) (by exact congrArg Value.bool (decide_eq_true hf))) ?_
  refine wend ?_
  refine condTrue rfl ?_
  refine exitAny ?_
  refine blockOut rfl ?_
  refine thenExit ?_
  refine blockHere ?_
  refine thenNormal ?_
  refine seqRegion ?_
  refine sq (r_move (v := i64 ((2 : Int))) rfl) ?_
  refine sq ((r_mulI (a := (128 : Int)) (b := (2 : Int)) rfl rfl (by omega)).as (v' := i64 ((256 : Nat))) (by rfl)) ?_
  refine sq (r_build (cs' := #[i64 ((256 : Nat)), .slice none 0 0, .slice none 0 0]) (ps := [(0, i64 ((256 : Nat)))]) zer70 pls70 rfl (by rfl)) ?_
  refine sq (r_build (cs' := #[i64 ((256 : Nat)), .slice none 0 0, .slice none 0 0]) (ps := [(0, .agg #[i64 ((256 : Nat)), .slice none 0 0, .slice none 0 0])]) zer151 pls151 rfl (by rfl)) ?_
  refine q_box (v := .agg #[i64 ((256 : Nat)), .slice none 0 0, .slice none 0 0]) (o := .cells #[i64 ((256 : Nat)), .slice none 0 0, .slice none 0 0] 151 (0, 0)) H3 rfl (by rfl) ?_
  intro b5 w6 hb5 H7 hE8
  refine sq (r_assign (v := .pointer (some ⟨b5, 0, none⟩)) rfl) ?_
  have H9 := H7.nil (sob EG 99 [] [])
  have H10 := H9.as (L' := [(none, sob EG 99 ([]) ([])), (some b5, .cells #[i64 ((256 : Nat)), .slice (ownA none) (List.length ([] : List Gt)) 0, .slice none 0 0] 151 (0, 0)), (some b1, .cells #[i64 ((0 : Int)), .slice none 0 0, .slice none 0 0] 70 (0, 0))]) rfl
  refine wend ?_
  refine seqRegion ?_
  refine q_alloc (o := .cells (cel EI (List.replicate 128 0)).toArray 154 (0, 0)) H10 zer154 (by kernel_rfl) ?_
  intro b11 w12 hb11 H13 hE14
  rw [padX_nil] at H13
  refine wend ?_
  refine seqAny ?_
  refine seqRegion ?_
  refine sq (r_move (v := i64 ((2 : Int))) rfl) ?_
  refine sq (r_move (v := i64 ((0 : Int))) rfl) ?_
  refine wend ?_
  refine blockAny ?_
  refine loopAny (σ := Nat × Option Nat × Nat × List Value) (fun (i, kz, cz, sz) => [(0, i64 ((3 : Int))), (1, u64 (fm)), (4, .pointer (some ⟨b1, 0, none⟩)), (7, .pointer (some ⟨b5, 0, none⟩)), (8, .pointer (some ⟨b11, 0, none⟩)), (36, i64 ((2 : Int))), (37, i64 ((i : Nat)))]) (fun (i, kz, cz, sz) w' => (i ≤ 2 ∧ Sl EG kz (opsS 256 fm i).1 cz sz) ∧ Hp No w w' [(some b5, .cells #[i64 ((256 : Nat)), .slice (ownA kz) (List.length ((opsS 256 fm i).1)) cz, .slice none 0 0] 151 (0, 0)), (kz, sob EG 99 ((opsS 256 fm i).1) sz), (some b11, .cells (cel EI (padX ((opsS 256 fm i).2))).toArray 154 (0, 0)), (some b1, .cells #[i64 ((0 : Int)), .slice none 0 0, .slice none 0 0] 70 (0, 0))]) (fun (i, kz, cz, sz) => 2 - i) ((0, none, 0, [])) ?_ ?_ ?_
  · exact ⟨rfl, rfl, rfl, rfl, rfl, rfl, rfl, trivial⟩
  · exact ⟨⟨by omega, Sl.none⟩, (H13.pick 4 [2, 1, 0, 3] (by decide) (by decide))⟩
  rintro ⟨i, kz, cz, sz⟩ ρ w15 ⟨⟨hq, hSz⟩, HL⟩
  have hol := opsS_len 256 fm i
  have hi1 := inW_len (64 * (2 * i)) 64
  have hi2 := inW_len (64 * (2 * i + 1)) 64
  have hpx : (padX (opsS 256 fm i).2).length = 128 := padX_len (by rw [hol.2]; omega)
  refine seqRegion ?_
  refine sq (r_lssI (a := (i : Nat)) (b := (2 : Int)) rfl rfl) ?_
  refine wend ?_
  refine seqAny ?_
  refine condProp (((i : Nat) : Int) < (2 : Int)) rfl (fun c38 => ?_) (fun c38 => ?_)
  · skip
    refine skipAny ?_
    refine thenNormal ?_
    refine seqAny ?_
    refine blockAny ?_
    refine seqRegion ?_
    refine sq (r_move (v := i64 ((i : Nat))) rfl) ?_
    refine sq (r_assign (v := i64 ((i : Nat))) rfl) ?_
    refine wend ?_
    refine seqRegion ?_
    refine sq (r_move (v := .pointer (some ⟨b5, 0, none⟩)) rfl) ?_
    refine sq (r_move (v := i64 ((i : Nat))) rfl) ?_
    refine sq ((r_mulI (a := (2 : Int)) (b := (i : Nat)) rfl rfl (by omega)).as (v' := i64 (((2 * i) : Nat))) (by exact congrArg i64 (by omega))) ?_
    refine c_call (vs := [.pointer (some ⟨b5, 0, none⟩), i64 (((2 * i) : Nat))]) call73 rfl (input_ok b5 (2 * i) (by omega) w15) ?_
    rintro _ w17 ⟨rfl, hE18⟩
    have H19 := HL.ext hE18
    refine sq (r_move (v := .pointer (some ⟨b5, 0, none⟩)) rfl) ?_
    refine sq (r_move (v := i64 ((i : Nat))) rfl) ?_
    refine sq ((r_mulI (a := (2 : Int)) (b := (i : Nat)) rfl rfl (by omega)).as (v' := i64 (((2 * i) : Nat))) (by exact congrArg i64 (by omega))) ?_
    refine sq ((r_addI (a := ((2 * i) : Nat)) (b := (1 : Int)) rfl rfl (by omega)).as (v' := i64 (((2 * i + 1) : Nat))) (by exact congrArg i64 (by omega))) ?_
    refine c_call (vs := [.pointer (some ⟨b5, 0, none⟩), i64 (((2 * i + 1) : Nat))]) call73 rfl (input_ok b5 (2 * i + 1) (by omega) w17) ?_
    rintro _ w20 ⟨rfl, hE21⟩
    have H22 := H19.ext hE21
    refine q_alloc (o := .cells (cel EI (List.replicate 64 0)).toArray 153 (0, 0)) H22 zer153 (by kernel_rfl) ?_
    intro b23 w24 hb23 H25 hE26
    refine q_alloc (o := .cells (cel EI (List.replicate 64 0)).toArray 153 (0, 0)) H25 zer153 (by kernel_rfl) ?_
    intro b27 w28 hb27 H29 hE30
    refine d_store (k := 1) (v := .agg (cel EI (inW (64 * (2 * i)) 64)).toArray) (cs' := (cel EI (inW (64 * (2 * i)) 64)).toArray) H29 rfl rfl rfl siz153 (by exact celSize (by rw [hi1]; rfl)) (by exact celOne _) (by rw [List.size_toArray, cel_length]; show _ ≤ _ * 1; first | omega | (simp only [List.length_set]; omega) | exact Nat.le_of_ble_eq_true rfl | (simp <;> omega)) (by exact putAll (by rw [List.length_replicate]; exact hi1.symm)) ?_
    intro w31 H32 hC33
    have H32' := H32.as (L' := [(some b27, .cells (cel EI (List.replicate 64 0)).toArray 153 (0, 0)), (some b23, .cells (cel EI (inW (64 * (2 * i)) 64)).toArray 153 (0, 0)), (some b5, .cells #[i64 ((256 : Nat)), .slice (ownA kz) (List.length ((opsS 256 fm i).1)) cz, .slice none 0 0] 151 (0, 0)), (kz, sob EG 99 ((opsS 256 fm i).1) sz), (some b11, .cells (cel EI (padX ((opsS 256 fm i).2))).toArray 154 (0, 0)), (some b1, .cells #[i64 ((0 : Int)), .slice none 0 0, .slice none 0 0] 70 (0, 0))]) rfl
    clear H32
    refine d_store (k := 0) (v := .agg (cel EI (inW (64 * (2 * i + 1)) 64)).toArray) (cs' := (cel EI (inW (64 * (2 * i + 1)) 64)).toArray) H32' rfl rfl rfl siz153 (by exact celSize (by rw [hi2]; rfl)) (by exact celOne _) (by rw [List.size_toArray, cel_length]; show _ ≤ _ * 1; first | omega | (simp only [List.length_set]; omega) | exact Nat.le_of_ble_eq_true rfl | (simp <;> omega)) (by exact putAll (by rw [List.length_replicate]; exact hi2.symm)) ?_
    intro w34 H35 hC36
    have H35' := H35.as (L' := [(some b27, .cells (cel EI (inW (64 * (2 * i + 1)) 64)).toArray 153 (0, 0)), (some b23, .cells (cel EI (inW (64 * (2 * i)) 64)).toArray 153 (0, 0)), (some b5, .cells #[i64 ((256 : Nat)), .slice (ownA kz) (List.length ((opsS 256 fm i).1)) cz, .slice none 0 0] 151 (0, 0)), (kz, sob EG 99 ((opsS 256 fm i).1) sz), (some b11, .cells (cel EI (padX ((opsS 256 fm i).2))).toArray 154 (0, 0)), (some b1, .cells #[i64 ((0 : Int)), .slice none 0 0, .slice none 0 0] 70 (0, 0))]) rfl
    clear H35
    refine wend ?_
    refine seqRegion ?_
    refine sq (r_move (v := u64 (fm)) rfl) ?_
    refine sq (r_move (v := i64 ((i : Nat))) rfl) ?_
    refine sq (r_shr64 (a := fm) (c := i) rfl rfl) ?_
    refine sq (r_and64 (a := fm >>> (i : Nat)) (b := 1#64) rfl rfl) ?_
    refine sq (r_eql64 (a := (fm >>> (i : Nat)) &&& (1#64)) (b := 1#64) rfl rfl) ?_
    refine wend ?_
    refine condProp (((fm >>> (i : Nat)) &&& (1#64)) = (1#64)) rfl (fun c53 => ?_) (fun c53 => ?_)
    · skip
      refine oneRegion ?_
      refine sq (r_move (v := i64 ((i : Nat))) rfl) ?_
      refine sq (r_move (v := .pointer (some ⟨b5, 0, none⟩)) rfl) ?_
      refine sq (r_loadA (cs' := (cel EI (inW (64 * (2 * i)) 64)).toArray) agg153 siz153 (H35'.get (k := 1) rfl) (off := 0) rfl (by rw [List.size_toArray, cel_length]; show _ ≤ _ * 1; omega) (by exact ext_all (by rw [cel_length]; show _ * 1 = _; omega))) ?_
      refine sq (r_loadA (cs' := (cel EI (inW (64 * (2 * i + 1)) 64)).toArray) agg153 siz153 (H35'.get (k := 0) rfl) (off := 0) rfl (by rw [List.size_toArray, cel_length]; show _ ≤ _ * 1; omega) (by exact ext_all (by rw [cel_length]; show _ * 1 = _; omega))) ?_
      have H37 := ((H35'.pick 6 [2, 3, 0, 1, 4, 5] (by decide) (by decide))).as (L' := ((some b5, .cells #[i64 ((256 : Nat)), .slice (ownA kz) (List.length ((opsS 256 fm i).1)) cz, .slice none 0 0] 151 (0, 0)) :: (kz, sob EG 99 ((opsS 256 fm i).1) sz) :: [(some b27, .cells (cel EI (inW (64 * (2 * i + 1)) 64)).toArray 153 (0, 0)), (some b23, .cells (cel EI (inW (64 * (2 * i)) 64)).toArray 153 (0, 0)), (some b11, .cells (cel EI (padX ((opsS 256 fm i).2))).toArray 154 (0, 0)), (some b1, .cells #[i64 ((0 : Int)), .slice none 0 0, .slice none 0 0] 70 (0, 0))])) rfl
      refine c_call (vs := [.pointer (some ⟨b5, 0, none⟩), .agg (cel EI (inW (64 * (2 * i)) 64)).toArray, .agg (cel EI (inW (64 * (2 * i + 1)) 64)).toArray]) call74 rfl (mxor_ok b5 256 kz cz sz ((opsS 256 fm i).1) hSz (by omega) (by omega) (inW (64 * (2 * i)) 64) (inW (64 * (2 * i + 1)) 64) (by omega) (by omega) [(some b27, .cells (cel EI (inW (64 * (2 * i + 1)) 64)).toArray 153 (0, 0)), (some b23, .cells (cel EI (inW (64 * (2 * i)) 64)).toArray 153 (0, 0)), (some b11, .cells (cel EI (padX ((opsS 256 fm i).2))).toArray 154 (0, 0)), (some b1, .cells #[i64 ((0 : Int)), .slice none 0 0, .slice none 0 0] 70 (0, 0))] w w34 H37) ?_
      rintro _ w38 ⟨rfl, key40, c41, sp42, hS43, HN44⟩
      have H45 := HN44.as (L' := [(some b5, .cells #[i64 ((256 : Nat)), .slice (ownA key40) (List.length ((xoS 256 ((opsS 256 fm i).1) (inW (64 * (2 * i)) 64) (inW (64 * (2 * i + 1)) 64) 64).1)) c41, .slice none 0 0] 151 (0, 0)), (key40, sob EG 99 ((xoS 256 ((opsS 256 fm i).1) (inW (64 * (2 * i)) 64) (inW (64 * (2 * i + 1)) 64) 64).1) sp42), (some b27, .cells (cel EI (inW (64 * (2 * i + 1)) 64)).toArray 153 (0, 0)), (some b23, .cells (cel EI (inW (64 * (2 * i)) 64)).toArray 153 (0, 0)), (some b11, .cells (cel EI (padX ((opsS 256 fm i).2))).toArray 154 (0, 0)), (some b1, .cells #[i64 ((0 : Int)), .slice none 0 0, .slice none 0 0] 70 (0, 0))]) rfl
      have hnr : (xoS 256 ((opsS 256 fm i).1) (inW (64 * (2 * i)) 64) (inW (64 * (2 * i + 1)) 64) 64).2.length = 64 := (xoS_len 256 ((opsS 256 fm i).1) (inW (64 * (2 * i)) 64) (inW (64 * (2 * i + 1)) 64) 64).2
      refine sq (r_indexA (off' := i * 64) (j := i) arr154 (b := b11) (off := 0) rfl rfl (by first | rfl | omega | (simp; omega)) (by omega) (by omega)) ?_
      refine d_store (k := 4) (v := .agg (cel EI ((xoS 256 ((opsS 256 fm i).1) (inW (64 * (2 * i)) 64) (inW (64 * (2 * i + 1)) 64) 64).2)).toArray) (cs' := (cel EI (padX ((opsS 256 fm i).2 ++ (xoS 256 ((opsS 256 fm i).1) (inW (64 * (2 * i)) 64) (inW (64 * (2 * i + 1)) 64) 64).2))).toArray) H45 rfl rfl rfl siz153 (by exact celSize (by rw [hnr]; rfl)) (by exact celOne _) (by rw [List.size_toArray, cel_length, padX_len (by rw [hol.2]; omega)]; show _ ≤ _ * 1; omega) (by exact padX_put (by rw [hol.2]; omega) (by rw [hol.2]; omega) (by first | exact hnr)) ?_
      intro w46 H47 hC48
      have H47' := H47.as (L' := [(some b5, .cells #[i64 ((256 : Nat)), .slice (ownA key40) (List.length ((xoS 256 ((opsS 256 fm i).1) (inW (64 * (2 * i)) 64) (inW (64 * (2 * i + 1)) 64) 64).1)) c41, .slice none 0 0] 151 (0, 0)), (key40, sob EG 99 ((xoS 256 ((opsS 256 fm i).1) (inW (64 * (2 * i)) 64) (inW (64 * (2 * i + 1)) 64) 64).1) sp42), (some b27, .cells (cel EI (inW (64 * (2 * i + 1)) 64)).toArray 153 (0, 0)), (some b23, .cells (cel EI (inW (64 * (2 * i)) 64)).toArray 153 (0, 0)), (some b11, .cells (cel EI (padX ((opsS 256 fm i).2 ++ (xoS 256 ((opsS 256 fm i).1) (inW (64 * (2 * i)) 64) (inW (64 * (2 * i + 1)) 64) 64).2))).toArray 154 (0, 0)), (some b1, .cells #[i64 ((0 : Int)), .slice none 0 0, .slice none 0 0] 70 (0, 0))]) rfl
      clear H47
      refine wnil ?_
      refine blockNormal ?_
      refine thenNormal ?_
      refine oneRegion ?_
      refine sq (r_addI (a := (i : Nat)) (b := (1 : Int)) rfl rfl (by omega)) ?_
      refine sq (r_move (v := i64 ((i : Nat) + (1 : Int))) rfl) ?_
      refine wnil ?_
      refine thenNormal ?_
      have e49 : (xoS 256 ((opsS 256 fm i).1) (inW (64 * (2 * i)) 64) (inW (64 * (2 * i + 1)) 64) 64).1 = (opsS 256 fm (i + 1)).1 := by rw [opsS, opS_t c53]
      have hS50 := hS43
      rw [e49] at hS50
      have H51 : Hp No w w46 [(some b5, .cells #[i64 ((256 : Nat)), .slice (ownA key40) (List.length ((opsS 256 fm (i + 1)).1)) c41, .slice none 0 0] 151 (0, 0)), (key40, sob EG 99 ((opsS 256 fm (i + 1)).1) sp42), (some b27, .cells (cel EI (inW (64 * (2 * i + 1)) 64)).toArray 153 (0, 0)), (some b23, .cells (cel EI (inW (64 * (2 * i)) 64)).toArray 153 (0, 0)), (some b11, .cells (cel EI (padX ((opsS 256 fm i).2 ++ (xoS 256 ((opsS 256 fm i).1) (inW (64 * (2 * i)) 64) (inW (64 * (2 * i + 1)) 64) 64).2))).toArray 154 (0, 0)), (some b1, .cells #[i64 ((0 : Int)), .slice none 0 0, .slice none 0 0] 70 (0, 0))] := by rw [← e49]; exact H47'
      rw [show (opsS 256 fm i).2 ++ (xoS 256 ((opsS 256 fm i).1) (inW (64 * (2 * i)) 64) (inW (64 * (2 * i + 1)) 64) 64).2 = (opsS 256 fm (i + 1)).2 from by rw [opsS, opS_t c53]] at H51
      exact ⟨(i + 1, key40, c41, sp42), _, rfl, ⟨rfl, rfl, rfl, rfl, rfl, rfl, rfl, trivial⟩, ⟨⟨by omega, hS50⟩, ((H51.dropk 3).dropk 2)⟩, by show 2 - (i + 1) < 2 - i; omega⟩
    · skip
      refine oneRegion ?_
      refine sq (r_move (v := i64 ((i : Nat))) rfl) ?_
      refine sq (r_move (v := .pointer (some ⟨b5, 0, none⟩)) rfl) ?_
      refine sq (r_loadA (cs' := (cel EI (inW (64 * (2 * i)) 64)).toArray) agg153 siz153 (H35'.get (k := 1) rfl) (off := 0) rfl (by rw [List.size_toArray, cel_length]; show _ ≤ _ * 1; omega) (by exact ext_all (by rw [cel_length]; show _ * 1 = _; omega))) ?_
      refine sq (r_loadA (cs' := (cel EI (inW (64 * (2 * i + 1)) 64)).toArray) agg153 siz153 (H35'.get (k := 0) rfl) (off := 0) rfl (by rw [List.size_toArray, cel_length]; show _ ≤ _ * 1; omega) (by exact ext_all (by rw [cel_length]; show _ * 1 = _; omega))) ?_
      have H52 := ((H35'.pick 6 [2, 3, 0, 1, 4, 5] (by decide) (by decide))).as (L' := ((some b5, .cells #[i64 ((256 : Nat)), .slice (ownA kz) (List.length ((opsS 256 fm i).1)) cz, .slice none 0 0] 151 (0, 0)) :: (kz, sob EG 99 ((opsS 256 fm i).1) sz) :: [(some b27, .cells (cel EI (inW (64 * (2 * i + 1)) 64)).toArray 153 (0, 0)), (some b23, .cells (cel EI (inW (64 * (2 * i)) 64)).toArray 153 (0, 0)), (some b11, .cells (cel EI (padX ((opsS 256 fm i).2))).toArray 154 (0, 0)), (some b1, .cells #[i64 ((0 : Int)), .slice none 0 0, .slice none 0 0] 70 (0, 0))])) rfl
      refine c_call (vs := [.pointer (some ⟨b5, 0, none⟩), .agg (cel EI (inW (64 * (2 * i)) 64)).toArray, .agg (cel EI (inW (64 * (2 * i + 1)) 64)).toArray]) call75 rfl (madd_ok b5 256 kz cz sz ((opsS 256 fm i).1) hSz (by omega) (by omega) (inW (64 * (2 * i)) 64) (inW (64 * (2 * i + 1)) 64) (by omega) (by omega) [(some b27, .cells (cel EI (inW (64 * (2 * i + 1)) 64)).toArray 153 (0, 0)), (some b23, .cells (cel EI (inW (64 * (2 * i)) 64)).toArray 153 (0, 0)), (some b11, .cells (cel EI (padX ((opsS 256 fm i).2))).toArray 154 (0, 0)), (some b1, .cells #[i64 ((0 : Int)), .slice none 0 0, .slice none 0 0] 70 (0, 0))] w w34 H52) ?_
      rintro _ w53 ⟨rfl, key55, c56, sp57, hS58, HN59⟩
      have H60 := HN59.as (L' := [(some b5, .cells #[i64 ((256 : Nat)), .slice (ownA key55) (List.length ((adS 256 ((opsS 256 fm i).1) (inW (64 * (2 * i)) 64) (inW (64 * (2 * i + 1)) 64) 63).1)) c56, .slice none 0 0] 151 (0, 0)), (key55, sob EG 99 ((adS 256 ((opsS 256 fm i).1) (inW (64 * (2 * i)) 64) (inW (64 * (2 * i + 1)) 64) 63).1) sp57), (some b27, .cells (cel EI (inW (64 * (2 * i + 1)) 64)).toArray 153 (0, 0)), (some b23, .cells (cel EI (inW (64 * (2 * i)) 64)).toArray 153 (0, 0)), (some b11, .cells (cel EI (padX ((opsS 256 fm i).2))).toArray 154 (0, 0)), (some b1, .cells #[i64 ((0 : Int)), .slice none 0 0, .slice none 0 0] 70 (0, 0))]) rfl
      have hnr : (adS 256 ((opsS 256 fm i).1) (inW (64 * (2 * i)) 64) (inW (64 * (2 * i + 1)) 64) 63).2.1.length = 64 := (adS_len 256 ((opsS 256 fm i).1) (inW (64 * (2 * i)) 64) (inW (64 * (2 * i + 1)) 64) 63).2
      refine sq (r_indexA (off' := i * 64) (j := i) arr154 (b := b11) (off := 0) rfl rfl (by first | rfl | omega | (simp; omega)) (by omega) (by omega)) ?_
      refine d_store (k := 4) (v := .agg (cel EI ((adS 256 ((opsS 256 fm i).1) (inW (64 * (2 * i)) 64) (inW (64 * (2 * i + 1)) 64) 63).2.1)).toArray) (cs' := (cel EI (padX ((opsS 256 fm i).2 ++ (adS 256 ((opsS 256 fm i).1) (inW (64 * (2 * i)) 64) (inW (64 * (2 * i + 1)) 64) 63).2.1))).toArray) H60 rfl rfl rfl siz153 (by exact celSize (by rw [hnr]; rfl)) (by exact celOne _) (by rw [List.size_toArray, cel_length, padX_len (by rw [hol.2]; omega)]; show _ ≤ _ * 1; omega) (by exact padX_put (by rw [hol.2]; omega) (by rw [hol.2]; omega) (by first | exact hnr)) ?_
      intro w61 H62 hC63
      have H62' := H62.as (L' := [(some b5, .cells #[i64 ((256 : Nat)), .slice (ownA key55) (List.length ((adS 256 ((opsS 256 fm i).1) (inW (64 * (2 * i)) 64) (inW (64 * (2 * i + 1)) 64) 63).1)) c56, .slice none 0 0] 151 (0, 0)), (key55, sob EG 99 ((adS 256 ((opsS 256 fm i).1) (inW (64 * (2 * i)) 64) (inW (64 * (2 * i + 1)) 64) 63).1) sp57), (some b27, .cells (cel EI (inW (64 * (2 * i + 1)) 64)).toArray 153 (0, 0)), (some b23, .cells (cel EI (inW (64 * (2 * i)) 64)).toArray 153 (0, 0)), (some b11, .cells (cel EI (padX ((opsS 256 fm i).2 ++ (adS 256 ((opsS 256 fm i).1) (inW (64 * (2 * i)) 64) (inW (64 * (2 * i + 1)) 64) 63).2.1))).toArray 154 (0, 0)), (some b1, .cells #[i64 ((0 : Int)), .slice none 0 0, .slice none 0 0] 70 (0, 0))]) rfl
      clear H62
      refine wnil ?_
      refine blockNormal ?_
      refine thenNormal ?_
      refine oneRegion ?_
      refine sq (r_addI (a := (i : Nat)) (b := (1 : Int)) rfl rfl (by omega)) ?_
      refine sq (r_move (v := i64 ((i : Nat) + (1 : Int))) rfl) ?_
      refine wnil ?_
      refine thenNormal ?_
      have e64 : (adS 256 ((opsS 256 fm i).1) (inW (64 * (2 * i)) 64) (inW (64 * (2 * i + 1)) 64) 63).1 = (opsS 256 fm (i + 1)).1 := by rw [opsS, opS_f c53]
      have hS65 := hS58
      rw [e64] at hS65
      have H66 : Hp No w w61 [(some b5, .cells #[i64 ((256 : Nat)), .slice (ownA key55) (List.length ((opsS 256 fm (i + 1)).1)) c56, .slice none 0 0] 151 (0, 0)), (key55, sob EG 99 ((opsS 256 fm (i + 1)).1) sp57), (some b27, .cells (cel EI (inW (64 * (2 * i + 1)) 64)).toArray 153 (0, 0)), (some b23, .cells (cel EI (inW (64 * (2 * i)) 64)).toArray 153 (0, 0)), (some b11, .cells (cel EI (padX ((opsS 256 fm i).2 ++ (adS 256 ((opsS 256 fm i).1) (inW (64 * (2 * i)) 64) (inW (64 * (2 * i + 1)) 64) 63).2.1))).toArray 154 (0, 0)), (some b1, .cells #[i64 ((0 : Int)), .slice none 0 0, .slice none 0 0] 70 (0, 0))] := by rw [← e64]; exact H62'
      rw [show (opsS 256 fm i).2 ++ (adS 256 ((opsS 256 fm i).1) (inW (64 * (2 * i)) 64) (inW (64 * (2 * i + 1)) 64) 63).2.1 = (opsS 256 fm (i + 1)).2 from by rw [opsS, opS_f c53]] at H66
      exact ⟨(i + 1, key55, c56, sp57), _, rfl, ⟨rfl, rfl, rfl, rfl, rfl, rfl, rfl, trivial⟩, ⟨⟨by omega, hS65⟩, ((H66.dropk 3).dropk 2)⟩, by show 2 - (i + 1) < 2 - i; omega⟩
  · skip
    have hie : i = 2 := by omega
    rw [hie, opsS_two] at HL hSz hol
    obtain ⟨o1, ho1⟩ : ∃ q, q = opS 256 [] 0 64 (fbS fm 0) := ⟨_, rfl⟩
    rw [← ho1] at HL hSz hol
    have hl1 := opS_len 256 [] 0 64 (fbS fm 0)
    rw [← ho1] at hl1
    obtain ⟨o2, ho2⟩ : ∃ q, q = opS 256 o1.1 128 192 (fbS fm 1) := ⟨_, rfl⟩
    rw [← ho2] at HL hSz hol
    have hl2 := opS_len 256 o1.1 128 192 (fbS fm 1)
    rw [← ho2] at hl2
    rw [padX_full (by rw [List.length_append]; omega)] at HL
    simp only [List.length_nil] at hl1
    dsimp only at HL hSz
    have H67 := HL.as (L' := [(some b5, .cells #[i64 ((256 : Nat)), .slice (ownA kz) (List.length o2.1) cz, .slice none 0 0] 151 (0, 0)), (kz, sob EG 99 o2.1 sz), (some b11, .cells (cel EI (o1.2 ++ o2.2)).toArray 154 (0, 0)), (some b1, .cells #[i64 ((0 : Int)), .slice none 0 0, .slice none 0 0] 70 (0, 0))]) rfl
    have hpx : (o1.2 ++ o2.2).length = 128 := by rw [List.length_append]; omega
    refine exitAny ?_
    refine thenExit ?_
    refine thenExit ?_
    refine blockHere ?_
    refine thenNormal ?_
    refine seqRegion ?_
    refine q_alloc (o := .cells (cel EI (List.replicate 64 0)).toArray 153 (0, 0)) H67 zer153 (by kernel_rfl) ?_
    intro b68 w69 hb68 H70 hE71
    refine wend ?_
    refine seqAny ?_
    refine seqRegion ?_
    refine sq (r_move (v := .pointer (some ⟨b5, 0, none⟩)) rfl) ?_
    have H72 := ((H70.pick 5 [1, 2, 0, 3, 4] (by decide) (by decide))).as (L' := ((some b5, .cells #[i64 ((256 : Nat)), .slice (ownA kz) (List.length o2.1) cz, .slice none 0 0] 151 (0, 0)) :: (kz, sob EG 99 o2.1 sz) :: [(some b68, .cells (cel EI (List.replicate 64 0)).toArray 153 (0, 0)), (some b11, .cells (cel EI (o1.2 ++ o2.2)).toArray 154 (0, 0)), (some b1, .cells #[i64 ((0 : Int)), .slice none 0 0, .slice none 0 0] 70 (0, 0))])) rfl
    refine c_call (vs := [.pointer (some ⟨b5, 0, none⟩), i64 ((1 : Int)), i64 ((0 : Int)), i64 ((0 : Int))]) call76 rfl (gate_ok b5 256 kz cz sz o2.1 hSz (by omega) (by omega) (1 : Int) (0 : Int) (0 : Int) [(some b68, .cells (cel EI (List.replicate 64 0)).toArray 153 (0, 0)), (some b11, .cells (cel EI (o1.2 ++ o2.2)).toArray 154 (0, 0)), (some b1, .cells #[i64 ((0 : Int)), .slice none 0 0, .slice none 0 0] 70 (0, 0))] w w69 H72) ?_
    rintro wv81 w73 ⟨hwv82, key75, c76, sp77, hS78, HN79⟩
    obtain ⟨wx83, hwx83⟩ : ∃ q, q = wrW 256 o2.1 := ⟨_, rfl⟩
    rw [← hwx83] at hwv82
    subst hwv82
    have H80 := HN79.as (L' := [(some b5, .cells #[i64 ((256 : Nat)), .slice (ownA key75) (List.length (o2.1 ++ [(⟨(1 : Int), (0 : Int), (0 : Int)⟩ : Gt)])) c76, .slice none 0 0] 151 (0, 0)), (key75, sob EG 99 (o2.1 ++ [(⟨(1 : Int), (0 : Int), (0 : Int)⟩ : Gt)]) sp77), (some b68, .cells (cel EI (List.replicate 64 0)).toArray 153 (0, 0)), (some b11, .cells (cel EI (o1.2 ++ o2.2)).toArray 154 (0, 0)), (some b1, .cells #[i64 ((0 : Int)), .slice none 0 0, .slice none 0 0] 70 (0, 0))]) rfl
    refine sq (r_assign (v := i64 (wx83)) rfl) ?_
    subst hwx83
    have e84 : o2.1 ++ [(⟨(1 : Int), (0 : Int), (0 : Int)⟩ : Gt)] = ze o2.1 := by rfl
    have hS85 := hS78
    rw [e84] at hS85
    have H86 : Hp No w w73 [(some b5, .cells #[i64 ((256 : Nat)), .slice (ownA key75) (List.length (ze o2.1)) c76, .slice none 0 0] 151 (0, 0)), (key75, sob EG 99 (ze o2.1) sp77), (some b68, .cells (cel EI (List.replicate 64 0)).toArray 153 (0, 0)), (some b11, .cells (cel EI (o1.2 ++ o2.2)).toArray 154 (0, 0)), (some b1, .cells #[i64 ((0 : Int)), .slice none 0 0, .slice none 0 0] 70 (0, 0))] := by rw [← e84]; exact H80
    have hzl : (ze o2.1).length = o2.1.length + 1 := by simp [ze]
    refine wend ?_
    refine seqRegion ?_
    refine sq (r_move (v := i64 ((3 : Int))) rfl) ?_
    refine wend ?_
    refine blockAny ?_
    refine seqRegion ?_
    refine sq ((r_eqlI (a := (3 : Int)) (b := (1 : Int)) rfl rfl).as (v' := .bool (false)) (by rfl)) ?_
    refine sq (r_assign (v := .bool (false)) rfl) ?_
    refine wend ?_
    refine condFalse rfl ?_
    refine seqRegion ?_
    refine sq ((r_eqlI (a := (3 : Int)) (b := (2 : Int)) rfl rfl).as (v' := .bool (false)) (by rfl)) ?_
    refine sq (r_assign (v := .bool (false)) rfl) ?_
    refine wend ?_
    refine condFalse rfl ?_
    refine seqRegion ?_
    refine sq ((r_eqlI (a := (3 : Int)) (b := (3 : Int)) rfl rfl).as (v' := .bool (true)) (by rfl)) ?_
    refine sq (r_assign (v := .bool (true)) rfl) ?_
    refine wend ?_
    refine condTrue rfl ?_
    refine drawC (m := 13) [0, 0, 0, 4, 0, 16, 62, 0, 128, 0, 512, 2047, 4095] [6, 11, 12] (fun q vs w' => match q, vs with | 0, [] => Hp No w w' [(some b5, .cells #[i64 ((256 : Nat)), .slice (ownA key75) (List.length (ze o2.1)) c76, .slice none 0 0] 151 (0, 0)), (key75, sob EG 99 (ze o2.1) sp77), (some b68, .cells (cel EI (List.replicate 64 0)).toArray 153 (0, 0)), (some b11, .cells (cel EI (o1.2 ++ o2.2)).toArray 154 (0, 0)), (some b1, .cells #[i64 ((0 : Int)), .slice none 0 0, .slice none 0 0] 70 (0, 0))] | 1, [v0] => ∃ (wx101 : Int) (key93 : Option Nat) (c94 : Nat) (sp95 : List Value), v0 = i64 (wx101) ∧ Sl EG key93 ((leG 256 (ze o2.1) o1.2 o2.2).1) c94 sp95 ∧ wx101 = (leG 256 (ze o2.1) o1.2 o2.2).2 ∧ Hp No w w' [(some b5, .cells #[i64 ((256 : Nat)), .slice (ownA key93) (List.length ((leG 256 (ze o2.1) o1.2 o2.2).1)) c94, .slice none 0 0] 151 (0, 0)), (key93, sob EG 99 ((leG 256 (ze o2.1) o1.2 o2.2).1) sp95), (some b68, .cells (cel EI (List.replicate 64 0)).toArray 153 (0, 0)), (some b11, .cells (cel EI (o1.2 ++ o2.2)).toArray 154 (0, 0)), (some b1, .cells #[i64 ((0 : Int)), .slice none 0 0, .slice none 0 0] 70 (0, 0))] | 2, [v0, v1] => ∃ (wx101 : Int) (key108 : Option Nat) (c109 : Nat) (sp110 : List Value), v0 = i64 (wx101) ∧ v1 = .agg (cel EI ((piS 256 ((leG 256 (ze o2.1) o1.2 o2.2).1) wx101 o2.2 o1.2 64).2)).toArray ∧ Sl EG key108 ((piS 256 ((leG 256 (ze o2.1) o1.2 o2.2).1) wx101 o2.2 o1.2 64).1) c109 sp110 ∧ wx101 = (leG 256 (ze o2.1) o1.2 o2.2).2 ∧ Hp No w w' [(some b5, .cells #[i64 ((256 : Nat)), .slice (ownA key108) (List.length ((piS 256 ((leG 256 (ze o2.1) o1.2 o2.2).1) wx101 o2.2 o1.2 64).1)) c109, .slice none 0 0] 151 (0, 0)), (key108, sob EG 99 ((piS 256 ((leG 256 (ze o2.1) o1.2 o2.2).1) wx101 o2.2 o1.2 64).1) sp110), (some b68, .cells (cel EI (List.replicate 64 0)).toArray 153 (0, 0)), (some b11, .cells (cel EI (o1.2 ++ o2.2)).toArray 154 (0, 0)), (some b1, .cells #[i64 ((0 : Int)), .slice none 0 0, .slice none 0 0] 70 (0, 0))] | 3, [v0, v1, _] => ∃ (wx101 : Int) (key108 : Option Nat) (c109 : Nat) (sp110 : List Value), v0 = i64 (wx101) ∧ v1 = .agg (cel EI ((piS 256 ((leG 256 (ze o2.1) o1.2 o2.2).1) wx101 o2.2 o1.2 64).2)).toArray ∧ True ∧ Sl EG key108 ((piS 256 ((leG 256 (ze o2.1) o1.2 o2.2).1) wx101 o2.2 o1.2 64).1) c109 sp110 ∧ wx101 = (leG 256 (ze o2.1) o1.2 o2.2).2 ∧ Hp No w w' [(some b5, .cells #[i64 ((256 : Nat)), .slice (ownA key108) (List.length ((piS 256 ((leG 256 (ze o2.1) o1.2 o2.2).1) wx101 o2.2 o1.2 64).1)) c109, .slice none 0 0] 151 (0, 0)), (key108, sob EG 99 ((piS 256 ((leG 256 (ze o2.1) o1.2 o2.2).1) wx101 o2.2 o1.2 64).1) sp110), (some b68, .cells (cel EI ((piS 256 ((leG 256 (ze o2.1) o1.2 o2.2).1) wx101 o2.2 o1.2 64).2)).toArray 153 (0, 0)), (some b11, .cells (cel EI (o1.2 ++ o2.2)).toArray 154 (0, 0)), (some b1, .cells #[i64 ((0 : Int)), .slice none 0 0, .slice none 0 0] 70 (0, 0))] | _, _ => False) mixed (by kernel_rfl) (by kernel_rfl) H86.drew ?_
    refine WalkC.look rfl (fun _ => .pointer (some ⟨b5, 0, none⟩)) (fun _ _ _ => rfl) (fun q r uw _ _ _ _ => Gives.run rfl (r_move (v := .pointer (some ⟨b5, 0, none⟩)) rfl) ⟨rfl, rfl⟩) ?_
    refine WalkC.look rfl (fun _ => .pointer (some ⟨b5, 0, none⟩)) (fun _ _ _ => rfl) (fun q r uw _ _ _ _ => Gives.run rfl (r_move (v := .pointer (some ⟨b5, 0, none⟩)) rfl) ⟨rfl, rfl⟩) ?_
    refine WalkC.look rfl (fun _ => .pointer (some ⟨b11, 0, none⟩)) (fun _ _ _ => rfl) (fun q r uw _ _ _ _ => Gives.run rfl (r_indexA (off' := 0) (j := 0) arr154 (b := b11) (off := 0) rfl rfl (by first | rfl | omega | (simp; omega)) (by omega) (by omega)) ⟨rfl, rfl⟩) ?_
    refine WalkC.look rfl (fun _ => .agg (cel EI o1.2).toArray) (fun _ _ _ => rfl) (fun q r uw hlo hhi hle hF => ?_) ?_
    · skip
      have h1 : 0 ≤ q := Nat.zero_le _
      have h2 : q ≤ 0 := hhi 0 6 rfl rfl
      rcases (show q = 0 by omega) with rfl
      · skip
        have HH := hF
        exact Gives.run rfl ((r_loadA (cs' := (cel EI (((o1.2 ++ o2.2).drop 0).take 64)).toArray) agg153 siz153 (HH.get (k := 3) rfl) (off := 0) rfl (by rw [List.size_toArray, cel_length]; show _ ≤ _ * 1; omega) (by exact ext_mid _ _ _ rfl)).as (v' := .agg (cel EI o1.2).toArray) (by exact congrArg (fun q => Value.agg (cel EI q).toArray) (first_of hl1.2))) ⟨rfl, rfl⟩
    refine WalkC.look rfl (fun _ => .pointer (some ⟨b11, 64, none⟩)) (fun _ _ _ => rfl) (fun q r uw _ _ _ _ => Gives.run rfl (r_indexA (off' := 64) (j := 1) arr154 (b := b11) (off := 0) rfl rfl (by first | rfl | omega | (simp; omega)) (by omega) (by omega)) ⟨rfl, rfl⟩) ?_
    refine WalkC.look rfl (fun _ => .agg (cel EI o2.2).toArray) (fun _ _ _ => rfl) (fun q r uw hlo hhi hle hF => ?_) ?_
    · skip
      have h1 : 0 ≤ q := Nat.zero_le _
      have h2 : q ≤ 0 := hhi 0 6 rfl rfl
      rcases (show q = 0 by omega) with rfl
      · skip
        have HH := hF
        exact Gives.run rfl ((r_loadA (cs' := (cel EI (((o1.2 ++ o2.2).drop 64).take 64)).toArray) agg153 siz153 (HH.get (k := 3) rfl) (off := 64) rfl (by rw [List.size_toArray, cel_length]; show _ ≤ _ * 1; omega) (by exact ext_mid _ _ _ rfl)).as (v' := .agg (cel EI o2.2).toArray) (by exact congrArg (fun q => Value.agg (cel EI q).toArray) (second_of hl1.2 hl2.2))) ⟨rfl, rfl⟩
    refine WalkC.eff 0 rfl (fun r uw87 hF89 => ?_) ?_
    · skip
      have H88 := hF89
      dsimp only [List.take, List.map, List.cons_append, List.nil_append]
      refine Gives.ofW (d := 116) rfl rfl (fun Q' hK => ?_)
      have H90 := (H88).as (L' := ((some b5, .cells #[i64 ((256 : Nat)), .slice (ownA key75) (List.length (ze o2.1)) c76, .slice none 0 0] 151 (0, 0)) :: (key75, sob EG 99 (ze o2.1) sp77) :: [(some b68, .cells (cel EI (List.replicate 64 0)).toArray 153 (0, 0)), (some b11, .cells (cel EI (o1.2 ++ o2.2)).toArray 154 (0, 0)), (some b1, .cells #[i64 ((0 : Int)), .slice none 0 0, .slice none 0 0] 70 (0, 0))])) rfl
      refine c_call (vs := [.pointer (some ⟨b5, 0, none⟩), .agg (cel EI o1.2).toArray, .agg (cel EI o2.2).toArray]) call77 rfl (mless_ok b5 256 key75 c76 sp77 (ze o2.1) hS85 (by omega) (by omega) o1.2 o2.2 (by omega) (by omega) [(some b68, .cells (cel EI (List.replicate 64 0)).toArray 153 (0, 0)), (some b11, .cells (cel EI (o1.2 ++ o2.2)).toArray 154 (0, 0)), (some b1, .cells #[i64 ((0 : Int)), .slice none 0 0, .slice none 0 0] 70 (0, 0))] w uw87 H90) ?_
      rintro wv99 w91 ⟨hwv100, key93, c94, sp95, hS96, HN97⟩
      obtain ⟨wx101, hwx101⟩ : ∃ q, q = (leG 256 (ze o2.1) o1.2 o2.2).2 := ⟨_, rfl⟩
      rw [← hwx101] at hwv100
      subst hwv100
      have H98 := HN97.as (L' := [(some b5, .cells #[i64 ((256 : Nat)), .slice (ownA key93) (List.length ((leG 256 (ze o2.1) o1.2 o2.2).1)) c94, .slice none 0 0] 151 (0, 0)), (key93, sob EG 99 ((leG 256 (ze o2.1) o1.2 o2.2).1) sp95), (some b68, .cells (cel EI (List.replicate 64 0)).toArray 153 (0, 0)), (some b11, .cells (cel EI (o1.2 ++ o2.2)).toArray 154 (0, 0)), (some b1, .cells #[i64 ((0 : Int)), .slice none 0 0, .slice none 0 0] 70 (0, 0))]) rfl
      exact hK _ _ ⟨wx101, key93, c94, sp95, rfl, hS96, hwx101, H98⟩
    refine WalkC.look rfl (fun _ => .pointer (some ⟨b11, 64, none⟩)) (fun _ _ _ => rfl) (fun q r uw _ _ _ _ => Gives.run rfl (r_indexA (off' := 64) (j := 1) arr154 (b := b11) (off := 0) rfl rfl (by first | rfl | omega | (simp; omega)) (by omega) (by omega)) ⟨rfl, rfl⟩) ?_
    refine WalkC.look rfl (fun _ => .agg (cel EI o2.2).toArray) (fun _ _ _ => rfl) (fun q r uw hlo hhi hle hF => ?_) ?_
    · skip
      have h1 : 0 ≤ q := Nat.zero_le _
      have h2 : q ≤ 1 := hhi 1 11 rfl rfl
      rcases (show q = 0 ∨ q = 1 by omega) with rfl | rfl
      · skip
        have HH := hF
        exact Gives.run rfl ((r_loadA (cs' := (cel EI (((o1.2 ++ o2.2).drop 64).take 64)).toArray) agg153 siz153 (HH.get (k := 3) rfl) (off := 64) rfl (by rw [List.size_toArray, cel_length]; show _ ≤ _ * 1; omega) (by exact ext_mid _ _ _ rfl)).as (v' := .agg (cel EI o2.2).toArray) (by exact congrArg (fun q => Value.agg (cel EI q).toArray) (second_of hl1.2 hl2.2))) ⟨rfl, rfl⟩
      · skip
        obtain ⟨wx101, key93, c94, sp95, e6, hS96, hwx101, HH⟩ := hF
        exact Gives.run rfl ((r_loadA (cs' := (cel EI (((o1.2 ++ o2.2).drop 64).take 64)).toArray) agg153 siz153 (HH.get (k := 3) rfl) (off := 64) rfl (by rw [List.size_toArray, cel_length]; show _ ≤ _ * 1; omega) (by exact ext_mid _ _ _ rfl)).as (v' := .agg (cel EI o2.2).toArray) (by exact congrArg (fun q => Value.agg (cel EI q).toArray) (second_of hl1.2 hl2.2))) ⟨rfl, rfl⟩
    refine WalkC.look rfl (fun _ => .pointer (some ⟨b11, 0, none⟩)) (fun _ _ _ => rfl) (fun q r uw _ _ _ _ => Gives.run rfl (r_indexA (off' := 0) (j := 0) arr154 (b := b11) (off := 0) rfl rfl (by first | rfl | omega | (simp; omega)) (by omega) (by omega)) ⟨rfl, rfl⟩) ?_
    refine WalkC.look rfl (fun _ => .agg (cel EI o1.2).toArray) (fun _ _ _ => rfl) (fun q r uw hlo hhi hle hF => ?_) ?_
    · skip
      have h1 : 0 ≤ q := Nat.zero_le _
      have h2 : q ≤ 1 := hhi 1 11 rfl rfl
      rcases (show q = 0 ∨ q = 1 by omega) with rfl | rfl
      · skip
        have HH := hF
        exact Gives.run rfl ((r_loadA (cs' := (cel EI (((o1.2 ++ o2.2).drop 0).take 64)).toArray) agg153 siz153 (HH.get (k := 3) rfl) (off := 0) rfl (by rw [List.size_toArray, cel_length]; show _ ≤ _ * 1; omega) (by exact ext_mid _ _ _ rfl)).as (v' := .agg (cel EI o1.2).toArray) (by exact congrArg (fun q => Value.agg (cel EI q).toArray) (first_of hl1.2))) ⟨rfl, rfl⟩
      · skip
        obtain ⟨wx101, key93, c94, sp95, e6, hS96, hwx101, HH⟩ := hF
        exact Gives.run rfl ((r_loadA (cs' := (cel EI (((o1.2 ++ o2.2).drop 0).take 64)).toArray) agg153 siz153 (HH.get (k := 3) rfl) (off := 0) rfl (by rw [List.size_toArray, cel_length]; show _ ≤ _ * 1; omega) (by exact ext_mid _ _ _ rfl)).as (v' := .agg (cel EI o1.2).toArray) (by exact congrArg (fun q => Value.agg (cel EI q).toArray) (first_of hl1.2))) ⟨rfl, rfl⟩
    refine WalkC.eff 1 rfl (fun r uw102 hF104 => ?_) ?_
    · skip
      obtain ⟨wx101, key93, c94, sp95, e6, hS96, hwx101, H103⟩ := hF104
      dsimp only [List.take, List.map, List.cons_append, List.nil_append]
      rw [e6]
      refine Gives.ofW (d := 121) rfl rfl (fun Q' hK => ?_)
      have hlg := leG_len 256 (ze o2.1) o1.2 o2.2
      have H105 := (H103).as (L' := ((some b5, .cells #[i64 ((256 : Nat)), .slice (ownA key93) (List.length ((leG 256 (ze o2.1) o1.2 o2.2).1)) c94, .slice none 0 0] 151 (0, 0)) :: (key93, sob EG 99 ((leG 256 (ze o2.1) o1.2 o2.2).1) sp95) :: [(some b68, .cells (cel EI (List.replicate 64 0)).toArray 153 (0, 0)), (some b11, .cells (cel EI (o1.2 ++ o2.2)).toArray 154 (0, 0)), (some b1, .cells #[i64 ((0 : Int)), .slice none 0 0, .slice none 0 0] 70 (0, 0))])) rfl
      refine c_call (vs := [.pointer (some ⟨b5, 0, none⟩), i64 (wx101), .agg (cel EI o2.2).toArray, .agg (cel EI o1.2).toArray]) call78 rfl (mpick_ok b5 256 key93 c94 sp95 ((leG 256 (ze o2.1) o1.2 o2.2).1) hS96 (by omega) (by omega) wx101 o2.2 o1.2 (by omega) (by omega) [(some b68, .cells (cel EI (List.replicate 64 0)).toArray 153 (0, 0)), (some b11, .cells (cel EI (o1.2 ++ o2.2)).toArray 154 (0, 0)), (some b1, .cells #[i64 ((0 : Int)), .slice none 0 0, .slice none 0 0] 70 (0, 0))] w uw102 H105) ?_
      rintro _ w106 ⟨rfl, key108, c109, sp110, hS111, HN112⟩
      have H113 := HN112.as (L' := [(some b5, .cells #[i64 ((256 : Nat)), .slice (ownA key108) (List.length ((piS 256 ((leG 256 (ze o2.1) o1.2 o2.2).1) wx101 o2.2 o1.2 64).1)) c109, .slice none 0 0] 151 (0, 0)), (key108, sob EG 99 ((piS 256 ((leG 256 (ze o2.1) o1.2 o2.2).1) wx101 o2.2 o1.2 64).1) sp110), (some b68, .cells (cel EI (List.replicate 64 0)).toArray 153 (0, 0)), (some b11, .cells (cel EI (o1.2 ++ o2.2)).toArray 154 (0, 0)), (some b1, .cells #[i64 ((0 : Int)), .slice none 0 0, .slice none 0 0] 70 (0, 0))]) rfl
      exact hK _ _ ⟨wx101, key108, c109, sp110, rfl, rfl, hS111, hwx101, H113⟩
    refine WalkC.eff 2 rfl (fun r uw114 hF116 => ?_) ?_
    · skip
      obtain ⟨wx101, key108, c109, sp110, e6, e11, hS111, hwx101, H115⟩ := hF116
      dsimp only [List.take, List.map, List.cons_append, List.nil_append]
      rw [e6, e11]
      refine Gives.ofW0 rfl (fun Q' hK => ?_)
      have hnr : ((piS 256 ((leG 256 (ze o2.1) o1.2 o2.2).1) wx101 o2.2 o1.2 64).2).length = 64 := (piS_len _ _ _ _ _ _).2
      refine d_store (k := 2) (v := .agg (cel EI ((piS 256 ((leG 256 (ze o2.1) o1.2 o2.2).1) wx101 o2.2 o1.2 64).2)).toArray) (cs' := (cel EI ((piS 256 ((leG 256 (ze o2.1) o1.2 o2.2).1) wx101 o2.2 o1.2 64).2)).toArray) H115 rfl rfl rfl siz153 (by exact celSize (by rw [hnr]; rfl)) (by exact celOne _) (by rw [List.size_toArray, cel_length]; show _ ≤ _ * 1; first | omega | (simp only [List.length_set]; omega) | exact Nat.le_of_ble_eq_true rfl | (simp <;> omega)) (by exact putAll (by rw [List.length_replicate]; exact hnr.symm)) ?_
      intro w117 H118 hC119
      have H118' := H118.as (L' := [(some b5, .cells #[i64 ((256 : Nat)), .slice (ownA key108) (List.length ((piS 256 ((leG 256 (ze o2.1) o1.2 o2.2).1) wx101 o2.2 o1.2 64).1)) c109, .slice none 0 0] 151 (0, 0)), (key108, sob EG 99 ((piS 256 ((leG 256 (ze o2.1) o1.2 o2.2).1) wx101 o2.2 o1.2 64).1) sp110), (some b68, .cells (cel EI ((piS 256 ((leG 256 (ze o2.1) o1.2 o2.2).1) wx101 o2.2 o1.2 64).2)).toArray 153 (0, 0)), (some b11, .cells (cel EI (o1.2 ++ o2.2)).toArray 154 (0, 0)), (some b1, .cells #[i64 ((0 : Int)), .slice none 0 0, .slice none 0 0] 70 (0, 0))]) rfl
      clear H118
      exact hK _ (fun _ => ⟨wx101, key108, c109, sp110, rfl, rfl, trivial, hS111, hwx101, H118'⟩)
    refine WalkC.nil ?_
    intro r120 w121 hF123
    obtain ⟨wx101, key108, c109, sp110, e6, e11, e12, hS111, hwx101, H122⟩ := hF123
    dsimp only
    rw [e6, e11]
    subst hwx101
    have hrl : (piS 256 (leG 256 (ze o2.1) o1.2 o2.2).1 (leG 256 (ze o2.1) o1.2 o2.2).2 o2.2 o1.2 64).2.length = 64 := (piS_len _ _ _ _ _ _).2
    refine wnil ?_
    refine blockNormal ?_
    refine thenNormal ?_
    refine seqRegion ?_
    refine sq (r_move (v := .pointer (some ⟨b5, 0, none⟩)) rfl) ?_
    refine sq (r_sliceA0 arr153 (b := b68) (off := 0) rfl (Nat.le_of_ble_eq_true rfl)) ?_
    refine sq (r_nilCheck rfl) ?_
    refine sq (r_fieldAddr (off' := 0) fld151_0 (by decide) (b := b5) (off := 0) rfl (by omega)) ?_
    refine sq (r_fieldAddr (off' := 2) fld70_2 (by decide) (b := b5) (off := 0) rfl (by omega)) ?_
    refine d_store (k := 0) (v := .slice (some ⟨b68, 0, none⟩) 64 64) (cs' := #[i64 ((256 : Nat)), .slice (ownA key108) (List.length ((piS 256 ((leG 256 (ze o2.1) o1.2 o2.2).1) ((leG 256 (ze o2.1) o1.2 o2.2).2) o2.2 o1.2 64).1)) c109, .slice (some ⟨b68, 0, none⟩) 64 64]) H122 rfl rfl rfl siz60 (by rfl) (by intro u hu; simp [Value.cells] at hu; first | (subst hu; rfl) | (rcases hu with rfl <;> rfl)) (by exact Nat.le_of_ble_eq_true rfl) (by rfl) ?_
    intro w124 H125 hC126
    have H125' := H125.as (L' := [(some b5, .cells #[i64 ((256 : Nat)), .slice (ownA key108) (List.length ((piS 256 ((leG 256 (ze o2.1) o1.2 o2.2).1) ((leG 256 (ze o2.1) o1.2 o2.2).2) o2.2 o1.2 64).1)) c109, .slice (some ⟨b68, 0, none⟩) 64 64] 151 (0, 0)), (key108, sob EG 99 ((piS 256 ((leG 256 (ze o2.1) o1.2 o2.2).1) ((leG 256 (ze o2.1) o1.2 o2.2).2) o2.2 o1.2 64).1) sp110), (some b68, .cells (cel EI ((piS 256 ((leG 256 (ze o2.1) o1.2 o2.2).1) ((leG 256 (ze o2.1) o1.2 o2.2).2) o2.2 o1.2 64).2)).toArray 153 (0, 0)), (some b11, .cells (cel EI (o1.2 ++ o2.2)).toArray 154 (0, 0)), (some b1, .cells #[i64 ((0 : Int)), .slice none 0 0, .slice none 0 0] 70 (0, 0))]) rfl
    clear H125
    refine wend ?_
    refine seqRegion ?_
    refine sq (r_move (v := .pointer (some ⟨b5, 0, none⟩)) rfl) ?_
    refine sq (r_nilCheck rfl) ?_
    refine sq (r_fieldAddr (off' := 0) fld151_0 (by decide) (b := b5) (off := 0) rfl (by omega)) ?_
    refine sq (r_loadA (cs' := #[i64 ((256 : Nat)), .slice (ownA key108) (List.length ((piS 256 ((leG 256 (ze o2.1) o1.2 o2.2).1) ((leG 256 (ze o2.1) o1.2 o2.2).2) o2.2 o1.2 64).1)) c109, .slice (some ⟨b68, 0, none⟩) 64 64]) agg70 siz70 (H125'.get (k := 0) rfl) (off := 0) rfl (by exact Nat.le_of_ble_eq_true rfl) (by rfl)) ?_
    refine d_store (k := 4) (v := .agg #[i64 ((256 : Nat)), .slice (ownA key108) (List.length ((piS 256 ((leG 256 (ze o2.1) o1.2 o2.2).1) ((leG 256 (ze o2.1) o1.2 o2.2).2) o2.2 o1.2 64).1)) c109, .slice (some ⟨b68, 0, none⟩) 64 64]) (cs' := #[i64 ((256 : Nat)), .slice (ownA key108) (List.length ((piS 256 ((leG 256 (ze o2.1) o1.2 o2.2).1) ((leG 256 (ze o2.1) o1.2 o2.2).2) o2.2 o1.2 64).1)) c109, .slice (some ⟨b68, 0, none⟩) 64 64]) H125' rfl rfl rfl siz70 (by rfl) (by intro u hu; simp [Value.cells] at hu; first | (subst hu; rfl) | (rcases hu with rfl | rfl | rfl <;> rfl)) (by exact Nat.le_of_ble_eq_true rfl) (by rfl) ?_
    intro w127 H128 hC129
    have H128' := H128.as (L' := [(some b5, .cells #[i64 ((256 : Nat)), .slice (ownA key108) (List.length ((piS 256 ((leG 256 (ze o2.1) o1.2 o2.2).1) ((leG 256 (ze o2.1) o1.2 o2.2).2) o2.2 o1.2 64).1)) c109, .slice (some ⟨b68, 0, none⟩) 64 64] 151 (0, 0)), (key108, sob EG 99 ((piS 256 ((leG 256 (ze o2.1) o1.2 o2.2).1) ((leG 256 (ze o2.1) o1.2 o2.2).2) o2.2 o1.2 64).1) sp110), (some b68, .cells (cel EI ((piS 256 ((leG 256 (ze o2.1) o1.2 o2.2).1) ((leG 256 (ze o2.1) o1.2 o2.2).2) o2.2 o1.2 64).2)).toArray 153 (0, 0)), (some b11, .cells (cel EI (o1.2 ++ o2.2)).toArray 154 (0, 0)), (some b1, .cells #[i64 ((256 : Nat)), .slice (ownA key108) (List.length ((piS 256 ((leG 256 (ze o2.1) o1.2 o2.2).1) ((leG 256 (ze o2.1) o1.2 o2.2).2) o2.2 o1.2 64).1)) c109, .slice (some ⟨b68, 0, none⟩) 64 64] 70 (0, 0))]) rfl
    clear H128
    refine sq (r_assign (v := .nilIface) rfl) ?_
    refine wend ?_
    refine retAny ?_
    refine retG (rs := [.cell 4 70, .tmp 5]) (vs := [.agg #[i64 ((256 : Nat)), .slice (ownA key108) (List.length ((piS 256 ((leG 256 (ze o2.1) o1.2 o2.2).1) ((leG 256 (ze o2.1) o1.2 o2.2).2) o2.2 o1.2 64).1)) c109, .slice (some ⟨b68, 0, none⟩) 64 64], .nilIface]) rfl ⟨r_loadA (cs' := #[i64 ((256 : Nat)), .slice (ownA key108) (List.length ((piS 256 ((leG 256 (ze o2.1) o1.2 o2.2).1) ((leG 256 (ze o2.1) o1.2 o2.2).2) o2.2 o1.2 64).1)) c109, .slice (some ⟨b68, 0, none⟩) 64 64]) agg70 siz70 (H128'.get (k := 4) rfl) (off := 0) rfl (by exact Nat.le_of_ble_eq_true rfl) (by rfl), ⟨rfl, rfl⟩, trivial⟩ ?_
    rw [mk3_eq ho1 ho2]
    exact ⟨_, rfl, key108, c109, sp110, b68, rfl, hS111, (((H128'.dropk 4).dropk 3).dropk 0)⟩
end Go.Proofs.YteofdmdpaejgaaaDoor.Cm
namespace Go.Proofs.YteofdmdpaejgaaaDoor.Cm
open Go Go.Proofs.YteofdmdpaejgaaaDoor.Vc Go.Proofs.YteofdmdpaejgaaaDoor.Er Go.Proofs.YteofdmdpaejgaaaDoor.Circ
set_option linter.unusedVariables false
theorem agg80 : isAgg' Tryd.prog 80 = true := by kernel_rfl
theorem byt85 : byt Tryd.prog 85 = some 24 := by kernel_rfl
theorem call80 : callable Tryd.prog 80 = true := by kernel_rfl
theorem fld80_0 : fld Tryd.prog 80 0 = some (0, 1, 3) := by kernel_rfl
theorem fld80_1 : fld Tryd.prog 80 1 = some (1, 1, 78) := by kernel_rfl
theorem one78 : isOne Tryd.prog 78 = true := by kernel_rfl
theorem pls85 : pls Tryd.prog 85 = some #[(0, 1), (1, 1), (2, 1)] := by kernel_rfl
theorem siz78 : siz Tryd.prog 78 = some 1 := by kernel_rfl
theorem siz80 : siz Tryd.prog 80 = some 3 := by kernel_rfl
theorem sli78 : sli Tryd.prog 78 = some (85, 3) := by kernel_rfl
theorem zer80 : zer Tryd.prog 80 = some (.agg #[.int .i64 0, .slice none 0 0, .slice none 0 0]) := by kernel_rfl
theorem zer85 : zer Tryd.prog 85 = some (.agg #[.int .i64 0, .int .i64 0, .int .i64 0]) := by kernel_rfl
theorem rput_ok (n : Nat) (key : Option Nat) (c : Nat) (sp : List Value) (gs : List Gt) (hSw : Sl EG key gs c sp) (hn : n ≤ 1000) (hlen : gs.length ≤ 4000) (oa : Option Addr) (on oc : Nat) (kd xa xb : Int) (R : List (Option Nat × Obj)) (w₀ w : World) (H : Hp No w₀ w ((key, sob EG 85 gs sp) :: R)) : Calls Tryd.prog 80 [.agg #[i64 ((n : Nat)), .slice (ownA key) (List.length gs) c, .slice oa on oc], i64 kd, i64 xa, i64 xb].toArray w (Ret fun v w' => ∃ (wx : Int) (key' : Option Nat) (c' : Nat) (sp' : List Value), wx = wrW n gs ∧ v = .tuple #[.agg #[i64 ((n : Nat)), .slice (ownA key') (List.length (gs ++ [(⟨kd, xa, xb⟩ : Gt)])) c', .slice oa on oc], i64 wx] ∧ Sl EG key' (gs ++ [(⟨kd, xa, xb⟩ : Gt)]) c' sp' ∧ Hp No w₀ w' ((key', sob EG 85 (gs ++ [(⟨kd, xa, xb⟩ : Gt)]) sp') :: R)) := by
  skip
  refine enter (n := 27) Tryd.func80 rfl rfl (Nat.le_of_ble_eq_true rfl) ?_
  refine seqRegion ?_
  refine q_box (v := .agg #[i64 ((n : Nat)), .slice (ownA key) (List.length gs) c, .slice oa on oc]) (o := .cells #[i64 ((n : Nat)), .slice (ownA key) (List.length gs) c, .slice oa on oc] 80 (0, 0)) H rfl (by rfl) ?_
  intro b1 w2 hb1 H3 hE4
  refine q_alloc (o := .cells #[i64 ((0 : Int)), .slice none 0 0, .slice none 0 0] 80 (0, 0)) H3 zer80 (by kernel_rfl) ?_
  intro b5 w6 hb5 H7 hE8
  refine sq (r_assign (v := i64 ((0 : Int))) rfl) ?_
  refine wend ?_
  refine seqRegion ?_
  refine sq (r_fieldAddr (off' := 1) fld80_1 (by decide) (b := b1) (off := 0) rfl (by omega)) ?_
  refine sq (r_loadC (v := .slice (ownA key) (List.length gs) c) one78 (H7.get (k := 1) rfl) (off := 1) rfl (by rfl)) ?_
  refine sq (r_move (v := i64 (kd)) rfl) ?_
  refine sq (r_move (v := i64 (xa)) rfl) ?_
  refine sq (r_move (v := i64 (xb)) rfl) ?_
  refine sq (r_build (cs' := #[i64 (kd), i64 (xa), i64 (xb)]) (ps := [(0, i64 (kd)), (1, i64 (xa)), (2, i64 (xb))]) zer85 pls85 rfl (by rfl)) ?_
  refine q_buildSlice (E := EG) (l := ([⟨kd, xa, xb⟩] : List Gt)) H7 sli78 zer85 (Nat.le_of_ble_eq_true rfl) (ps := [(0, .agg #[i64 (kd), i64 (xa), i64 (xb)])]) rfl (by exact fillAll rfl rfl) rfl ?_
  intro b9 w11 hS10 H12 hE13
  refine q_append (E := EG) (k := 3) (l := gs) (l2 := ([⟨kd, xa, xb⟩] : List Gt)) H12 rfl hSw sli78 zer85 rfl byt85 (H12.rd (k := 0) rfl hS10) rfl (by rfl) rfl (by rfl) (by omega) ?_
  intro key14 c15 sp16 w18 hS17 hne20 H19
  have H19' := H19.as (L' := (((some b9), sob EG 85 ([⟨kd, xa, xb⟩] : List Gt) ([])) :: (some b5, .cells #[i64 ((0 : Int)), .slice none 0 0, .slice none 0 0] 80 (0, 0)) :: (some b1, .cells #[i64 ((n : Nat)), .slice (ownA key) (List.length gs) c, .slice oa on oc] 80 (0, 0)) :: (key14, sob EG 85 (gs ++ ([⟨kd, xa, xb⟩] : List Gt)) sp16) :: R)) rfl
  clear H19
  have e21 : gs ++ ([⟨kd, xa, xb⟩] : List Gt) = gs ++ [(⟨kd, xa, xb⟩ : Gt)] := by rfl
  have hS22 := hS17
  rw [e21] at hS22
  have H23 := H19'.as (L' := (((some b9), sob EG 85 ([⟨kd, xa, xb⟩] : List Gt) ([])) :: (some b5, .cells #[i64 ((0 : Int)), .slice none 0 0, .slice none 0 0] 80 (0, 0)) :: (some b1, .cells #[i64 ((n : Nat)), .slice (ownA key) (List.length gs) c, .slice oa on oc] 80 (0, 0)) :: (key14, sob EG 85 (gs ++ [(⟨kd, xa, xb⟩ : Gt)]) sp16) :: R)) (by rw [e21])
  refine sq (r_fieldAddr (off' := 1) fld80_1 (by decide) (b := b1) (off := 0) rfl (by omega)) ?_
  refine d_store (k := 2) (v := .slice (ownA key14) ((List.length gs) + 1) c15) (cs' := #[i64 ((n : Nat)), .slice (ownA key14) ((List.length gs) + 1) c15, .slice oa on oc]) H23 rfl rfl rfl siz78 (by rfl) (by intro u hu; simp [Value.cells] at hu; first | (subst hu; rfl) | (rcases hu with rfl <;> rfl)) (by exact Nat.le_of_ble_eq_true rfl) (by rfl) ?_
  intro w24 H25 hC26
  have H25' := H25.as (L' := (((some b9), sob EG 85 ([⟨kd, xa, xb⟩] : List Gt) ([])) :: (some b5, .cells #[i64 ((0 : Int)), .slice none 0 0, .slice none 0 0] 80 (0, 0)) :: (some b1, .cells #[i64 ((n : Nat)), .slice (ownA key14) ((List.length gs) + 1) c15, .slice oa on oc] 80 (0, 0)) :: (key14, sob EG 85 (gs ++ [(⟨kd, xa, xb⟩ : Gt)]) sp16) :: R)) rfl
  clear H25
  refine wend ?_
  refine seqAny ?_
  refine drawC (m := 10) [0, 0, 2, 0, 8, 24, 62, 126, 1, 511] [8] (fun q vs w' => match q, vs with | 0, [] => Hp No w₀ w' (((some b9), sob EG 85 ([⟨kd, xa, xb⟩] : List Gt) ([])) :: (some b5, .cells #[i64 ((0 : Int)), .slice none 0 0, .slice none 0 0] 80 (0, 0)) :: (some b1, .cells #[i64 ((n : Nat)), .slice (ownA key14) ((List.length gs) + 1) c15, .slice oa on oc] 80 (0, 0)) :: (key14, sob EG 85 (gs ++ [(⟨kd, xa, xb⟩ : Gt)]) sp16) :: R) | 1, [_] => True ∧ Hp No w₀ w' (((some b9), sob EG 85 ([⟨kd, xa, xb⟩] : List Gt) ([])) :: (some b5, .cells #[i64 ((n : Nat)), .slice (ownA key14) ((List.length gs) + 1) c15, .slice oa on oc] 80 (0, 0)) :: (some b1, .cells #[i64 ((n : Nat)), .slice (ownA key14) ((List.length gs) + 1) c15, .slice oa on oc] 80 (0, 0)) :: (key14, sob EG 85 (gs ++ [(⟨kd, xa, xb⟩ : Gt)]) sp16) :: R) | _, _ => False) mixed (by kernel_rfl) (by kernel_rfl) H25'.drew ?_
  refine WalkC.look rfl (fun _ => .agg #[i64 ((n : Nat)), .slice (ownA key14) ((List.length gs) + 1) c15, .slice oa on oc]) (fun _ _ _ => rfl) (fun q r uw hlo hhi hle hF => ?_) ?_
  · skip
    have h1 : 0 ≤ q := Nat.zero_le _
    have h2 : q ≤ 0 := hhi 0 8 rfl rfl
    rcases (show q = 0 by omega) with rfl
    · skip
      have HH := hF
      exact Gives.run rfl (r_loadA (cs' := #[i64 ((n : Nat)), .slice (ownA key14) ((List.length gs) + 1) c15, .slice oa on oc]) agg80 siz80 (HH.get (k := 2) rfl) (off := 0) rfl (by exact Nat.le_of_ble_eq_true rfl) (by rfl)) ⟨rfl, rfl⟩
  refine WalkC.look rfl (fun _ => .pointer (some ⟨b1, 0, none⟩)) (fun _ _ _ => rfl) (fun q r uw _ _ _ _ => Gives.run rfl (r_fieldAddr (off' := 0) fld80_0 (by decide) (b := b1) (off := 0) rfl (by omega)) ⟨rfl, rfl⟩) ?_
  refine WalkC.look rfl (fun _ => i64 ((n : Nat))) (fun _ _ _ => rfl) (fun q r uw hlo hhi hle hF => ?_) ?_
  · skip
    have h1 : 0 ≤ q := Nat.zero_le _
    have h2 : q ≤ 1 := hle
    rcases (show q = 0 ∨ q = 1 by omega) with rfl | rfl
    · skip
      have HH := hF
      exact Gives.run rfl (r_loadC (v := i64 ((n : Nat))) one3 (HH.get (k := 2) rfl) (off := 0) rfl (by rfl)) ⟨rfl, rfl⟩
    · skip
      obtain ⟨e8, HH⟩ := hF
      exact Gives.run rfl (r_loadC (v := i64 ((n : Nat))) one3 (HH.get (k := 2) rfl) (off := 0) rfl (by rfl)) ⟨rfl, rfl⟩
  refine WalkC.look rfl (fun _ => .pointer (some ⟨b1, 1, none⟩)) (fun _ _ _ => rfl) (fun q r uw _ _ _ _ => Gives.run rfl (r_fieldAddr (off' := 1) fld80_1 (by decide) (b := b1) (off := 0) rfl (by omega)) ⟨rfl, rfl⟩) ?_
  refine WalkC.look rfl (fun _ => .slice (ownA key14) ((List.length gs) + 1) c15) (fun _ _ _ => rfl) (fun q r uw hlo hhi hle hF => ?_) ?_
  · skip
    have h1 : 0 ≤ q := Nat.zero_le _
    have h2 : q ≤ 1 := hle
    rcases (show q = 0 ∨ q = 1 by omega) with rfl | rfl
    · skip
      have HH := hF
      exact Gives.run rfl (r_loadC (v := .slice (ownA key14) ((List.length gs) + 1) c15) one78 (HH.get (k := 2) rfl) (off := 1) rfl (by rfl)) ⟨rfl, rfl⟩
    · skip
      obtain ⟨e8, HH⟩ := hF
      exact Gives.run rfl (r_loadC (v := .slice (ownA key14) ((List.length gs) + 1) c15) one78 (HH.get (k := 2) rfl) (off := 1) rfl (by rfl)) ⟨rfl, rfl⟩
  refine WalkC.look rfl (fun _ => i64 (((List.length gs) + 1 : Nat))) (fun _ _ _ => rfl) (fun q r uw _ _ _ _ => Gives.run rfl (r_lenS sli78 (a := ownA key14) (m := (List.length gs) + 1) (c := c15) rfl) ⟨rfl, rfl⟩) ?_
  refine WalkC.look rfl (fun _ => i64 ((n : Nat) + ((List.length gs) + 1 : Nat))) (fun _ _ _ => rfl) (fun q r uw _ _ _ _ => Gives.run rfl (r_addI (a := (n : Nat)) (b := ((List.length gs) + 1 : Nat)) rfl rfl (by omega)) ⟨rfl, rfl⟩) ?_
  refine WalkC.look rfl (fun _ => i64 (wrW n gs)) (fun _ _ _ => rfl) (fun q r uw _ _ _ _ => Gives.run rfl ((r_subI (a := (n : Nat) + ((List.length gs) + 1 : Nat)) (b := (1 : Int)) rfl rfl (by omega)).as (v' := i64 (wrW n gs)) (by exact congrArg i64 (by unfold wrW; omega))) ⟨rfl, rfl⟩) ?_
  refine WalkC.eff 0 rfl (fun r uw27 hF29 => ?_) ?_
  · skip
    have H28 := hF29
    dsimp only [List.take, List.map, List.cons_append, List.nil_append]
    refine Gives.ofW0 rfl (fun Q' hK => ?_)
    refine d_store (k := 1) (v := .agg #[i64 ((n : Nat)), .slice (ownA key14) ((List.length gs) + 1) c15, .slice oa on oc]) (cs' := #[i64 ((n : Nat)), .slice (ownA key14) ((List.length gs) + 1) c15, .slice oa on oc]) H28 rfl rfl rfl siz80 (by rfl) (by intro u hu; simp [Value.cells] at hu; first | (subst hu; rfl) | (rcases hu with rfl | rfl | rfl <;> rfl)) (by exact Nat.le_of_ble_eq_true rfl) (by rfl) ?_
    intro w30 H31 hC32
    have H31' := H31.as (L' := (((some b9), sob EG 85 ([⟨kd, xa, xb⟩] : List Gt) ([])) :: (some b5, .cells #[i64 ((n : Nat)), .slice (ownA key14) ((List.length gs) + 1) c15, .slice oa on oc] 80 (0, 0)) :: (some b1, .cells #[i64 ((n : Nat)), .slice (ownA key14) ((List.length gs) + 1) c15, .slice oa on oc] 80 (0, 0)) :: (key14, sob EG 85 (gs ++ [(⟨kd, xa, xb⟩ : Gt)]) sp16) :: R)) rfl
    clear H31
    exact hK _ (fun _ => ⟨trivial, H31'⟩)
  refine WalkC.look rfl (fun _ => i64 (wrW n gs)) (fun _ _ _ => rfl) (fun q r uw _ _ _ _ => Gives.run rfl (r_assign (v := i64 (wrW n gs)) rfl) ⟨rfl, rfl⟩) ?_
  refine WalkC.nil ?_
  intro r33 w34 hF36
  obtain ⟨e8, H35⟩ := hF36
  dsimp only
  refine wnil ?_
  refine thenNormal ?_
  refine retAny ?_
  refine retG (rs := [.cell 8 80, .tmp 9]) (vs := [.agg #[i64 ((n : Nat)), .slice (ownA key14) ((List.length gs) + 1) c15, .slice oa on oc], i64 (wrW n gs)]) rfl ⟨r_loadA (cs' := #[i64 ((n : Nat)), .slice (ownA key14) ((List.length gs) + 1) c15, .slice oa on oc]) agg80 siz80 (H35.get (k := 1) rfl) (off := 0) rfl (by exact Nat.le_of_ble_eq_true rfl) (by rfl), ⟨rfl, rfl⟩, trivial⟩ ?_
  refine ⟨_, rfl, _, key14, c15, sp16, rfl, ?_, hS22, (((H35.dropk 2).dropk 1).dropk 0)⟩
  rw [List.length_append]
  rfl
theorem rcarry_ok (n : Nat) (key : Option Nat) (c : Nat) (sp : List Value) (gs : List Gt) (hSw : Sl EG key gs c sp) (hn : n ≤ 1000) (hlen : gs.length ≤ 3900) (oa : Option Addr) (on oc : Nat) (xa xb xc : Int) (R : List (Option Nat × Obj)) (w₀ w : World) (H : Hp No w₀ w ((key, sob EG 85 gs sp) :: R)) : Calls Tryd.prog 105 [.agg #[i64 ((n : Nat)), .slice (ownA key) (List.length gs) c, .slice oa on oc], i64 xa, i64 xb, i64 xc].toArray w (Ret fun v w' => ∃ (wx : Int) (key' : Option Nat) (c' : Nat) (sp' : List Value), wx = caW n gs ∧ v = .tuple #[.agg #[i64 ((n : Nat)), .slice (ownA key') (List.length (caG n gs xa xb xc)) c', .slice oa on oc], i64 wx] ∧ Sl EG key' (caG n gs xa xb xc) c' sp' ∧ Hp No w₀ w' ((key', sob EG 85 (caG n gs xa xb xc) sp') :: R)) := by
  skip
  refine enter (n := 40) Tryd.func105 rfl rfl (Nat.le_of_ble_eq_true rfl) ?_
  refine seqRegion ?_
  refine q_box (v := .agg #[i64 ((n : Nat)), .slice (ownA key) (List.length gs) c, .slice oa on oc]) (o := .cells #[i64 ((n : Nat)), .slice (ownA key) (List.length gs) c, .slice oa on oc] 80 (0, 0)) H rfl (by rfl) ?_
  intro b1 w2 hb1 H3 hE4
  refine q_alloc (o := .cells #[i64 ((0 : Int)), .slice none 0 0, .slice none 0 0] 80 (0, 0)) H3 zer80 (by kernel_rfl) ?_
  intro b5 w6 hb5 H7 hE8
  refine sq (r_assign (v := i64 ((0 : Int))) rfl) ?_
  refine wend ?_
  refine seqRegion ?_
  refine sq (r_loadA (cs' := #[i64 ((n : Nat)), .slice (ownA key) (List.length gs) c, .slice oa on oc]) agg80 siz80 (H7.get (k := 1) rfl) (off := 0) rfl (by exact Nat.le_of_ble_eq_true rfl) (by rfl)) ?_
  refine sq (r_move (v := i64 (xa)) rfl) ?_
  refine sq (r_move (v := i64 (xc)) rfl) ?_
  have H9 := ((H7.pick 3 [2, 0, 1] (by decide) (by decide))).as (L' := ((key, sob EG 85 gs sp) :: ((some b5, .cells #[i64 ((0 : Int)), .slice none 0 0, .slice none 0 0] 80 (0, 0)) :: (some b1, .cells #[i64 ((n : Nat)), .slice (ownA key) (List.length gs) c, .slice oa on oc] 80 (0, 0)) :: R))) rfl
  refine c_call (vs := [.agg #[i64 ((n : Nat)), .slice (ownA key) (List.length gs) c, .slice oa on oc], i64 ((1 : Int)), i64 (xa), i64 (xc)]) call80 rfl (rput_ok n key c sp gs hSw hn (by omega) oa on oc (1 : Int) xa xc ((some b5, .cells #[i64 ((0 : Int)), .slice none 0 0, .slice none 0 0] 80 (0, 0)) :: (some b1, .cells #[i64 ((n : Nat)), .slice (ownA key) (List.length gs) c, .slice oa on oc] 80 (0, 0)) :: R) w₀ w6 H9) ?_
  rintro _ w10 ⟨wx12, key13, c14, sp15, hwx12, rfl, hS16, HN17⟩
  have H18 := HN17.as (L' := ((key13, sob EG 85 (gs ++ [(⟨(1 : Int), xa, xc⟩ : Gt)]) sp15) :: (some b5, .cells #[i64 ((0 : Int)), .slice none 0 0, .slice none 0 0] 80 (0, 0)) :: (some b1, .cells #[i64 ((n : Nat)), .slice (ownA key) (List.length gs) c, .slice oa on oc] 80 (0, 0)) :: R)) rfl
  refine sq (r_move (v := .tuple #[.agg #[i64 ((n : Nat)), .slice (ownA key13) (List.length (gs ++ [(⟨(1 : Int), xa, xc⟩ : Gt)])) c14, .slice oa on oc], i64 (wx12)]) rfl) ?_
  refine sq (r_extract (vs := #[.agg #[i64 ((n : Nat)), .slice (ownA key13) (List.length (gs ++ [(⟨(1 : Int), xa, xc⟩ : Gt)])) c14, .slice oa on oc], i64 (wx12)]) rfl rfl) ?_
  refine sq (r_extract (vs := #[.agg #[i64 ((n : Nat)), .slice (ownA key13) (List.length (gs ++ [(⟨(1 : Int), xa, xc⟩ : Gt)])) c14, .slice oa on oc], i64 (wx12)]) rfl rfl) ?_
  refine d_store (k := 2) (v := .agg #[i64 ((n : Nat)), .slice (ownA key13) (List.length (gs ++ [(⟨(1 : Int), xa, xc⟩ : Gt)])) c14, .slice oa on oc]) (cs' := #[i64 ((n : Nat)), .slice (ownA key13) (List.length (gs ++ [(⟨(1 : Int), xa, xc⟩ : Gt)])) c14, .slice oa on oc]) H18 rfl rfl rfl siz80 (by rfl) (by intro u hu; simp [Value.cells] at hu; first | (subst hu; rfl) | (rcases hu with rfl | rfl | rfl <;> rfl)) (by exact Nat.le_of_ble_eq_true rfl) (by rfl) ?_
  intro w19 H20 hC21
  have H20' := H20.as (L' := ((key13, sob EG 85 (gs ++ [(⟨(1 : Int), xa, xc⟩ : Gt)]) sp15) :: (some b5, .cells #[i64 ((0 : Int)), .slice none 0 0, .slice none 0 0] 80 (0, 0)) :: (some b1, .cells #[i64 ((n : Nat)), .slice (ownA key13) (List.length (gs ++ [(⟨(1 : Int), xa, xc⟩ : Gt)])) c14, .slice oa on oc] 80 (0, 0)) :: R)) rfl
  clear H20
  refine sq (r_assign (v := i64 (wx12)) rfl) ?_
  refine wend ?_
  refine seqRegion ?_
  refine sq (r_loadA (cs' := #[i64 ((n : Nat)), .slice (ownA key13) (List.length (gs ++ [(⟨(1 : Int), xa, xc⟩ : Gt)])) c14, .slice oa on oc]) agg80 siz80 (H20'.get (k := 2) rfl) (off := 0) rfl (by exact Nat.le_of_ble_eq_true rfl) (by rfl)) ?_
  refine sq (r_move (v := i64 (xb)) rfl) ?_
  refine sq (r_move (v := i64 (xc)) rfl) ?_
  have H22 := (H20').as (L' := ((key13, sob EG 85 (gs ++ [(⟨(1 : Int), xa, xc⟩ : Gt)]) sp15) :: ((some b5, .cells #[i64 ((0 : Int)), .slice none 0 0, .slice none 0 0] 80 (0, 0)) :: (some b1, .cells #[i64 ((n : Nat)), .slice (ownA key13) (List.length (gs ++ [(⟨(1 : Int), xa, xc⟩ : Gt)])) c14, .slice oa on oc] 80 (0, 0)) :: R))) rfl
  refine c_call (vs := [.agg #[i64 ((n : Nat)), .slice (ownA key13) (List.length (gs ++ [(⟨(1 : Int), xa, xc⟩ : Gt)])) c14, .slice oa on oc], i64 ((1 : Int)), i64 (xb), i64 (xc)]) call80 rfl (rput_ok n key13 c14 sp15 (gs ++ [(⟨(1 : Int), xa, xc⟩ : Gt)]) hS16 hn (by simp only [List.length_append, List.length_cons, List.length_nil]; omega) oa on oc (1 : Int) xb xc ((some b5, .cells #[i64 ((0 : Int)), .slice none 0 0, .slice none 0 0] 80 (0, 0)) :: (some b1, .cells #[i64 ((n : Nat)), .slice (ownA key13) (List.length (gs ++ [(⟨(1 : Int), xa, xc⟩ : Gt)])) c14, .slice oa on oc] 80 (0, 0)) :: R) w₀ w19 H22) ?_
  rintro _ w23 ⟨wx25, key26, c27, sp28, hwx25, rfl, hS29, HN30⟩
  have H31 := HN30.as (L' := ((key26, sob EG 85 (gs ++ [(⟨(1 : Int), xa, xc⟩ : Gt)] ++ [(⟨(1 : Int), xb, xc⟩ : Gt)]) sp28) :: (some b5, .cells #[i64 ((0 : Int)), .slice none 0 0, .slice none 0 0] 80 (0, 0)) :: (some b1, .cells #[i64 ((n : Nat)), .slice (ownA key13) (List.length (gs ++ [(⟨(1 : Int), xa, xc⟩ : Gt)])) c14, .slice oa on oc] 80 (0, 0)) :: R)) rfl
  refine sq (r_move (v := .tuple #[.agg #[i64 ((n : Nat)), .slice (ownA key26) (List.length (gs ++ [(⟨(1 : Int), xa, xc⟩ : Gt)] ++ [(⟨(1 : Int), xb, xc⟩ : Gt)])) c27, .slice oa on oc], i64 (wx25)]) rfl) ?_
  refine sq (r_extract (vs := #[.agg #[i64 ((n : Nat)), .slice (ownA key26) (List.length (gs ++ [(⟨(1 : Int), xa, xc⟩ : Gt)] ++ [(⟨(1 : Int), xb, xc⟩ : Gt)])) c27, .slice oa on oc], i64 (wx25)]) rfl rfl) ?_
  refine sq (r_extract (vs := #[.agg #[i64 ((n : Nat)), .slice (ownA key26) (List.length (gs ++ [(⟨(1 : Int), xa, xc⟩ : Gt)] ++ [(⟨(1 : Int), xb, xc⟩ : Gt)])) c27, .slice oa on oc], i64 (wx25)]) rfl rfl) ?_
  refine d_store (k := 2) (v := .agg #[i64 ((n : Nat)), .slice (ownA key26) (List.length (gs ++ [(⟨(1 : Int), xa, xc⟩ : Gt)] ++ [(⟨(1 : Int), xb, xc⟩ : Gt)])) c27, .slice oa on oc]) (cs' := #[i64 ((n : Nat)), .slice (ownA key26) (List.length (gs ++ [(⟨(1 : Int), xa, xc⟩ : Gt)] ++ [(⟨(1 : Int), xb, xc⟩ : Gt)])) c27, .slice oa on oc]) H31 rfl rfl rfl siz80 (by rfl) (by intro u hu; simp [Value.cells] at hu; first | (subst hu; rfl) | (rcases hu with rfl | rfl | rfl <;> rfl)) (by exact Nat.le_of_ble_eq_true rfl) (by rfl) ?_
  intro w32 H33 hC34
  have H33' := H33.as (L' := ((key26, sob EG 85 (gs ++ [(⟨(1 : Int), xa, xc⟩ : Gt)] ++ [(⟨(1 : Int), xb, xc⟩ : Gt)]) sp28) :: (some b5, .cells #[i64 ((0 : Int)), .slice none 0 0, .slice none 0 0] 80 (0, 0)) :: (some b1, .cells #[i64 ((n : Nat)), .slice (ownA key26) (List.length (gs ++ [(⟨(1 : Int), xa, xc⟩ : Gt)] ++ [(⟨(1 : Int), xb, xc⟩ : Gt)])) c27, .slice oa on oc] 80 (0, 0)) :: R)) rfl
  clear H33
  refine sq (r_assign (v := i64 (wx25)) rfl) ?_
  refine wend ?_
  refine seqRegion ?_
  refine sq (r_loadA (cs' := #[i64 ((n : Nat)), .slice (ownA key26) (List.length (gs ++ [(⟨(1 : Int), xa, xc⟩ : Gt)] ++ [(⟨(1 : Int), xb, xc⟩ : Gt)])) c27, .slice oa on oc]) agg80 siz80 (H33'.get (k := 2) rfl) (off := 0) rfl (by exact Nat.le_of_ble_eq_true rfl) (by rfl)) ?_
  refine sq (r_move (v := i64 (wx12)) rfl) ?_
  refine sq (r_move (v := i64 (wx25)) rfl) ?_
  have H35 := (H33').as (L' := ((key26, sob EG 85 (gs ++ [(⟨(1 : Int), xa, xc⟩ : Gt)] ++ [(⟨(1 : Int), xb, xc⟩ : Gt)]) sp28) :: ((some b5, .cells #[i64 ((0 : Int)), .slice none 0 0, .slice none 0 0] 80 (0, 0)) :: (some b1, .cells #[i64 ((n : Nat)), .slice (ownA key26) (List.length (gs ++ [(⟨(1 : Int), xa, xc⟩ : Gt)] ++ [(⟨(1 : Int), xb, xc⟩ : Gt)])) c27, .slice oa on oc] 80 (0, 0)) :: R))) rfl
  refine c_call (vs := [.agg #[i64 ((n : Nat)), .slice (ownA key26) (List.length (gs ++ [(⟨(1 : Int), xa, xc⟩ : Gt)] ++ [(⟨(1 : Int), xb, xc⟩ : Gt)])) c27, .slice oa on oc], i64 ((2 : Int)), i64 (wx12), i64 (wx25)]) call80 rfl (rput_ok n key26 c27 sp28 (gs ++ [(⟨(1 : Int), xa, xc⟩ : Gt)] ++ [(⟨(1 : Int), xb, xc⟩ : Gt)]) hS29 hn (by simp only [List.length_append, List.length_cons, List.length_nil]; omega) oa on oc (2 : Int) wx12 wx25 ((some b5, .cells #[i64 ((0 : Int)), .slice none 0 0, .slice none 0 0] 80 (0, 0)) :: (some b1, .cells #[i64 ((n : Nat)), .slice (ownA key26) (List.length (gs ++ [(⟨(1 : Int), xa, xc⟩ : Gt)] ++ [(⟨(1 : Int), xb, xc⟩ : Gt)])) c27, .slice oa on oc] 80 (0, 0)) :: R) w₀ w32 H35) ?_
  rintro _ w36 ⟨wx38, key39, c40, sp41, hwx38, rfl, hS42, HN43⟩
  have H44 := HN43.as (L' := ((key39, sob EG 85 (gs ++ [(⟨(1 : Int), xa, xc⟩ : Gt)] ++ [(⟨(1 : Int), xb, xc⟩ : Gt)] ++ [(⟨(2 : Int), wx12, wx25⟩ : Gt)]) sp41) :: (some b5, .cells #[i64 ((0 : Int)), .slice none 0 0, .slice none 0 0] 80 (0, 0)) :: (some b1, .cells #[i64 ((n : Nat)), .slice (ownA key26) (List.length (gs ++ [(⟨(1 : Int), xa, xc⟩ : Gt)] ++ [(⟨(1 : Int), xb, xc⟩ : Gt)])) c27, .slice oa on oc] 80 (0, 0)) :: R)) rfl
  refine sq (r_move (v := .tuple #[.agg #[i64 ((n : Nat)), .slice (ownA key39) (List.length (gs ++ [(⟨(1 : Int), xa, xc⟩ : Gt)] ++ [(⟨(1 : Int), xb, xc⟩ : Gt)] ++ [(⟨(2 : Int), wx12, wx25⟩ : Gt)])) c40, .slice oa on oc], i64 (wx38)]) rfl) ?_
  refine sq (r_extract (vs := #[.agg #[i64 ((n : Nat)), .slice (ownA key39) (List.length (gs ++ [(⟨(1 : Int), xa, xc⟩ : Gt)] ++ [(⟨(1 : Int), xb, xc⟩ : Gt)] ++ [(⟨(2 : Int), wx12, wx25⟩ : Gt)])) c40, .slice oa on oc], i64 (wx38)]) rfl rfl) ?_
  refine sq (r_extract (vs := #[.agg #[i64 ((n : Nat)), .slice (ownA key39) (List.length (gs ++ [(⟨(1 : Int), xa, xc⟩ : Gt)] ++ [(⟨(1 : Int), xb, xc⟩ : Gt)] ++ [(⟨(2 : Int), wx12, wx25⟩ : Gt)])) c40, .slice oa on oc], i64 (wx38)]) rfl rfl) ?_
  refine d_store (k := 2) (v := .agg #[i64 ((n : Nat)), .slice (ownA key39) (List.length (gs ++ [(⟨(1 : Int), xa, xc⟩ : Gt)] ++ [(⟨(1 : Int), xb, xc⟩ : Gt)] ++ [(⟨(2 : Int), wx12, wx25⟩ : Gt)])) c40, .slice oa on oc]) (cs' := #[i64 ((n : Nat)), .slice (ownA key39) (List.length (gs ++ [(⟨(1 : Int), xa, xc⟩ : Gt)] ++ [(⟨(1 : Int), xb, xc⟩ : Gt)] ++ [(⟨(2 : Int), wx12, wx25⟩ : Gt)])) c40, .slice oa on oc]) H44 rfl rfl rfl siz80 (by rfl) (by intro u hu; simp [Value.cells] at hu; first | (subst hu; rfl) | (rcases hu with rfl | rfl | rfl <;> rfl)) (by exact Nat.le_of_ble_eq_true rfl) (by rfl) ?_
  intro w45 H46 hC47
  have H46' := H46.as (L' := ((key39, sob EG 85 (gs ++ [(⟨(1 : Int), xa, xc⟩ : Gt)] ++ [(⟨(1 : Int), xb, xc⟩ : Gt)] ++ [(⟨(2 : Int), wx12, wx25⟩ : Gt)]) sp41) :: (some b5, .cells #[i64 ((0 : Int)), .slice none 0 0, .slice none 0 0] 80 (0, 0)) :: (some b1, .cells #[i64 ((n : Nat)), .slice (ownA key39) (List.length (gs ++ [(⟨(1 : Int), xa, xc⟩ : Gt)] ++ [(⟨(1 : Int), xb, xc⟩ : Gt)] ++ [(⟨(2 : Int), wx12, wx25⟩ : Gt)])) c40, .slice oa on oc] 80 (0, 0)) :: R)) rfl
  clear H46
  refine sq (r_assign (v := i64 (wx38)) rfl) ?_
  refine wend ?_
  refine seqRegion ?_
  refine sq (r_loadA (cs' := #[i64 ((n : Nat)), .slice (ownA key39) (List.length (gs ++ [(⟨(1 : Int), xa, xc⟩ : Gt)] ++ [(⟨(1 : Int), xb, xc⟩ : Gt)] ++ [(⟨(2 : Int), wx12, wx25⟩ : Gt)])) c40, .slice oa on oc]) agg80 siz80 (H46'.get (k := 2) rfl) (off := 0) rfl (by exact Nat.le_of_ble_eq_true rfl) (by rfl)) ?_
  refine sq (r_move (v := i64 (xc)) rfl) ?_
  refine sq (r_move (v := i64 (wx38)) rfl) ?_
  have H48 := (H46').as (L' := ((key39, sob EG 85 (gs ++ [(⟨(1 : Int), xa, xc⟩ : Gt)] ++ [(⟨(1 : Int), xb, xc⟩ : Gt)] ++ [(⟨(2 : Int), wx12, wx25⟩ : Gt)]) sp41) :: ((some b5, .cells #[i64 ((0 : Int)), .slice none 0 0, .slice none 0 0] 80 (0, 0)) :: (some b1, .cells #[i64 ((n : Nat)), .slice (ownA key39) (List.length (gs ++ [(⟨(1 : Int), xa, xc⟩ : Gt)] ++ [(⟨(1 : Int), xb, xc⟩ : Gt)] ++ [(⟨(2 : Int), wx12, wx25⟩ : Gt)])) c40, .slice oa on oc] 80 (0, 0)) :: R))) rfl
  refine c_call (vs := [.agg #[i64 ((n : Nat)), .slice (ownA key39) (List.length (gs ++ [(⟨(1 : Int), xa, xc⟩ : Gt)] ++ [(⟨(1 : Int), xb, xc⟩ : Gt)] ++ [(⟨(2 : Int), wx12, wx25⟩ : Gt)])) c40, .slice oa on oc], i64 ((1 : Int)), i64 (xc), i64 (wx38)]) call80 rfl (rput_ok n key39 c40 sp41 (gs ++ [(⟨(1 : Int), xa, xc⟩ : Gt)] ++ [(⟨(1 : Int), xb, xc⟩ : Gt)] ++ [(⟨(2 : Int), wx12, wx25⟩ : Gt)]) hS42 hn (by simp only [List.length_append, List.length_cons, List.length_nil]; omega) oa on oc (1 : Int) xc wx38 ((some b5, .cells #[i64 ((0 : Int)), .slice none 0 0, .slice none 0 0] 80 (0, 0)) :: (some b1, .cells #[i64 ((n : Nat)), .slice (ownA key39) (List.length (gs ++ [(⟨(1 : Int), xa, xc⟩ : Gt)] ++ [(⟨(1 : Int), xb, xc⟩ : Gt)] ++ [(⟨(2 : Int), wx12, wx25⟩ : Gt)])) c40, .slice oa on oc] 80 (0, 0)) :: R) w₀ w45 H48) ?_
  rintro _ w49 ⟨wx51, key52, c53, sp54, hwx51, rfl, hS55, HN56⟩
  have H57 := HN56.as (L' := ((key52, sob EG 85 (gs ++ [(⟨(1 : Int), xa, xc⟩ : Gt)] ++ [(⟨(1 : Int), xb, xc⟩ : Gt)] ++ [(⟨(2 : Int), wx12, wx25⟩ : Gt)] ++ [(⟨(1 : Int), xc, wx38⟩ : Gt)]) sp54) :: (some b5, .cells #[i64 ((0 : Int)), .slice none 0 0, .slice none 0 0] 80 (0, 0)) :: (some b1, .cells #[i64 ((n : Nat)), .slice (ownA key39) (List.length (gs ++ [(⟨(1 : Int), xa, xc⟩ : Gt)] ++ [(⟨(1 : Int), xb, xc⟩ : Gt)] ++ [(⟨(2 : Int), wx12, wx25⟩ : Gt)])) c40, .slice oa on oc] 80 (0, 0)) :: R)) rfl
  refine sq (r_extract (vs := #[.agg #[i64 ((n : Nat)), .slice (ownA key52) (List.length (gs ++ [(⟨(1 : Int), xa, xc⟩ : Gt)] ++ [(⟨(1 : Int), xb, xc⟩ : Gt)] ++ [(⟨(2 : Int), wx12, wx25⟩ : Gt)] ++ [(⟨(1 : Int), xc, wx38⟩ : Gt)])) c53, .slice oa on oc], i64 (wx51)]) rfl rfl) ?_
  refine sq (r_extract (vs := #[.agg #[i64 ((n : Nat)), .slice (ownA key52) (List.length (gs ++ [(⟨(1 : Int), xa, xc⟩ : Gt)] ++ [(⟨(1 : Int), xb, xc⟩ : Gt)] ++ [(⟨(2 : Int), wx12, wx25⟩ : Gt)] ++ [(⟨(1 : Int), xc, wx38⟩ : Gt)])) c53, .slice oa on oc], i64 (wx51)]) rfl rfl) ?_
  refine d_store (k := 1) (v := .agg #[i64 ((n : Nat)), .slice (ownA key52) (List.length (gs ++ [(⟨(1 : Int), xa, xc⟩ : Gt)] ++ [(⟨(1 : Int), xb, xc⟩ : Gt)] ++ [(⟨(2 : Int), wx12, wx25⟩ : Gt)] ++ [(⟨(1 : Int), xc, wx38⟩ : Gt)])) c53, .slice oa on oc]) (cs' := #[i64 ((n : Nat)), .slice (ownA key52) (List.length (gs ++ [(⟨(1 : Int), xa, xc⟩ : Gt)] ++ [(⟨(1 : Int), xb, xc⟩ : Gt)] ++ [(⟨(2 : Int), wx12, wx25⟩ : Gt)] ++ [(⟨(1 : Int), xc, wx38⟩ : Gt)])) c53, .slice oa on oc]) H57 rfl rfl rfl siz80 (by rfl) (by intro u hu; simp [Value.cells] at hu; first | (subst hu; rfl) | (rcases hu with rfl | rfl | rfl <;> rfl)) (by exact Nat.le_of_ble_eq_true rfl) (by rfl) ?_
  intro w58 H59 hC60
  have H59' := H59.as (L' := ((key52, sob EG 85 (gs ++ [(⟨(1 : Int), xa, xc⟩ : Gt)] ++ [(⟨(1 : Int), xb, xc⟩ : Gt)] ++ [(⟨(2 : Int), wx12, wx25⟩ : Gt)] ++ [(⟨(1 : Int), xc, wx38⟩ : Gt)]) sp54) :: (some b5, .cells #[i64 ((n : Nat)), .slice (ownA key52) (List.length (gs ++ [(⟨(1 : Int), xa, xc⟩ : Gt)] ++ [(⟨(1 : Int), xb, xc⟩ : Gt)] ++ [(⟨(2 : Int), wx12, wx25⟩ : Gt)] ++ [(⟨(1 : Int), xc, wx38⟩ : Gt)])) c53, .slice oa on oc] 80 (0, 0)) :: (some b1, .cells #[i64 ((n : Nat)), .slice (ownA key39) (List.length (gs ++ [(⟨(1 : Int), xa, xc⟩ : Gt)] ++ [(⟨(1 : Int), xb, xc⟩ : Gt)] ++ [(⟨(2 : Int), wx12, wx25⟩ : Gt)])) c40, .slice oa on oc] 80 (0, 0)) :: R)) rfl
  clear H59
  refine sq (r_assign (v := i64 (wx51)) rfl) ?_
  refine wend ?_
  refine retAny ?_
  refine retG (rs := [.cell 8 80, .tmp 9]) (vs := [.agg #[i64 ((n : Nat)), .slice (ownA key52) (List.length (gs ++ [(⟨(1 : Int), xa, xc⟩ : Gt)] ++ [(⟨(1 : Int), xb, xc⟩ : Gt)] ++ [(⟨(2 : Int), wx12, wx25⟩ : Gt)] ++ [(⟨(1 : Int), xc, wx38⟩ : Gt)])) c53, .slice oa on oc], i64 (wx51)]) rfl ⟨r_loadA (cs' := #[i64 ((n : Nat)), .slice (ownA key52) (List.length (gs ++ [(⟨(1 : Int), xa, xc⟩ : Gt)] ++ [(⟨(1 : Int), xb, xc⟩ : Gt)] ++ [(⟨(2 : Int), wx12, wx25⟩ : Gt)] ++ [(⟨(1 : Int), xc, wx38⟩ : Gt)])) c53, .slice oa on oc]) agg80 siz80 (H59'.get (k := 1) rfl) (off := 0) rfl (by exact Nat.le_of_ble_eq_true rfl) (by rfl), ⟨rfl, rfl⟩, trivial⟩ ?_
  subst hwx51
  subst hwx38
  subst hwx25
  subst hwx12
  have e61 : gs ++ [(⟨(1 : Int), xa, xc⟩ : Gt)] ++ [(⟨(1 : Int), xb, xc⟩ : Gt)] ++ [(⟨(2 : Int), (wrW n gs), (wrW n (gs ++ [(⟨(1 : Int), xa, xc⟩ : Gt)]))⟩ : Gt)] ++ [(⟨(1 : Int), xc, (wrW n (gs ++ [(⟨(1 : Int), xa, xc⟩ : Gt)] ++ [(⟨(1 : Int), xb, xc⟩ : Gt)]))⟩ : Gt)] = caG n gs xa xb xc := by rfl
  have hS62 := hS55
  rw [e61] at hS62
  have H63 : Hp No w₀ w58 ((key52, sob EG 85 (caG n gs xa xb xc) sp54) :: (some b5, .cells #[i64 ((n : Nat)), .slice (ownA key52) (List.length (caG n gs xa xb xc)) c53, .slice oa on oc] 80 (0, 0)) :: (some b1, .cells #[i64 ((n : Nat)), .slice (ownA key39) (List.length (gs ++ [(⟨(1 : Int), xa, xc⟩ : Gt)] ++ [(⟨(1 : Int), xb, xc⟩ : Gt)] ++ [(⟨(2 : Int), (wrW n gs), (wrW n (gs ++ [(⟨(1 : Int), xa, xc⟩ : Gt)]))⟩ : Gt)])) c40, .slice oa on oc] 80 (0, 0)) :: R) := by rw [← e61]; exact H59'
  exact ⟨_, rfl, _, key52, c53, sp54, by unfold caW wrW; simp only [List.length_append, List.length_cons, List.length_nil], rfl, hS62, ((H63.dropk 2).dropk 1)⟩
end Go.Proofs.YteofdmdpaejgaaaDoor.Cm
namespace Go.Proofs.YteofdmdpaejgaaaDoor.Cm
open Go Go.Proofs.YteofdmdpaejgaaaDoor.Vc Go.Proofs.YteofdmdpaejgaaaDoor.Er Go.Proofs.YteofdmdpaejgaaaDoor.Circ
set_option linter.unusedVariables false
theorem byt3 : byt Tryd.prog 3 = some 8 := by kernel_rfl
theorem sli60 : sli Tryd.prog 60 = some (3, 1) := by kernel_rfl
theorem zer3 : zer Tryd.prog 3 = some (.int .i64 0) := by kernel_rfl
set_option maxHeartbeats 1000000 in
theorem ropx_ok (n : Nat) (key : Option Nat) (c : Nat) (sp : List Value) (gs : List Gt) (hSw : Sl EG key gs c sp) (hn : n ≤ 1000) (hlen : gs.length ≤ 3000) (oa : Option Addr) (on oc : Nat) (pa pb : Nat) (hpa : pa ≤ 1000) (hpb : pb ≤ 1000) (R : List (Option Nat × Obj)) (w₀ w : World) (H : Hp No w₀ w ((key, sob EG 85 gs sp) :: R)) : Calls Tryd.prog 79 [.agg #[i64 ((n : Nat)), .slice (ownA key) (List.length gs) c, .slice oa on oc], i64 ((pa : Nat) : Int), i64 ((pb : Nat) : Int), .bool true].toArray w (Ret fun v w' => ∃ (key' : Option Nat) (c' : Nat) (sp' : List Value) (ko : Option Nat) (co : Nat) (so : List Value), v = .tuple #[.agg #[i64 ((n : Nat)), .slice (ownA key') (List.length ((xoS n gs (inW pa 64) (inW pb 64) 64).1)) c', .slice oa on oc], .slice (ownA ko) 64 co] ∧ Sl EG key' ((xoS n gs (inW pa 64) (inW pb 64) 64).1) c' sp' ∧ Sl EI ko ((xoS n gs (inW pa 64) (inW pb 64) 64).2) co so ∧ Hp No w₀ w' ((key', sob EG 85 ((xoS n gs (inW pa 64) (inW pb 64) 64).1) sp') :: (ko, sob EI 3 ((xoS n gs (inW pa 64) (inW pb 64) 64).2) so) :: R)) := by
  skip
  refine enter (n := 70) Tryd.func79 rfl rfl (Nat.le_of_ble_eq_true rfl) ?_
  refine seqRegion ?_
  refine q_box (v := .agg #[i64 ((n : Nat)), .slice (ownA key) (List.length gs) c, .slice oa on oc]) (o := .cells #[i64 ((n : Nat)), .slice (ownA key) (List.length gs) c, .slice oa on oc] 80 (0, 0)) H rfl (by rfl) ?_
  intro b1 w2 hb1 H3 hE4
  refine q_alloc (o := .cells #[i64 ((0 : Int)), .slice none 0 0, .slice none 0 0] 80 (0, 0)) H3 zer80 (by kernel_rfl) ?_
  intro b5 w6 hb5 H7 hE8
  refine sq (r_assign (v := .slice none 0 0) rfl) ?_
  refine wend ?_
  refine seqRegion ?_
  refine sq (r_assign (v := .slice none 0 0) rfl) ?_
  have H9 := H7.nil (sob EI 3 [] [])
  refine wend ?_
  refine seqRegion ?_
  refine sq (r_assign (v := i64 ((0 : Int))) rfl) ?_
  refine wend ?_
  refine seqAny ?_
  refine seqRegion ?_
  refine sq (r_assign (v := i64 ((0 : Int))) rfl) ?_
  refine wend ?_
  refine blockAny ?_
  refine loopAny (σ := Nat × Option Nat × Nat × List Value × Option Nat × Nat × List Value) (fun (i, kz, cz, sz, ko, co, so) => [(1, i64 ((pa : Nat))), (2, i64 ((pb : Nat))), (3, .bool (true)), (4, .pointer (some ⟨b1, 0, none⟩)), (8, .pointer (some ⟨b5, 0, none⟩)), (10, .slice (ownA ko) i co), (12, i64 ((i : Nat)))]) (fun (i, kz, cz, sz, ko, co, so) w' => (i ≤ 64 ∧ Sl EG kz (xoS n gs (inW pa 64) (inW pb 64) i).1 cz sz ∧ Sl EI ko (xoS n gs (inW pa 64) (inW pb 64) i).2 co so) ∧ Hp No w₀ w' ((kz, sob EG 85 ((xoS n gs (inW pa 64) (inW pb 64) i).1) sz) :: (ko, sob EI 3 ((xoS n gs (inW pa 64) (inW pb 64) i).2) so) :: (some b1, .cells #[i64 ((n : Nat)), .slice (ownA kz) (List.length ((xoS n gs (inW pa 64) (inW pb 64) i).1)) cz, .slice oa on oc] 80 (0, 0)) :: (some b5, .cells #[i64 ((0 : Int)), .slice none 0 0, .slice none 0 0] 80 (0, 0)) :: R)) (fun (i, kz, cz, sz, ko, co, so) => 64 - i) ((0, key, c, sp, none, 0, [])) ?_ ?_ ?_
  · exact ⟨rfl, rfl, rfl, rfl, rfl, rfl, rfl, trivial⟩
  · exact ⟨⟨by omega, hSw, Sl.none⟩, (H9.pick 4 [3, 0, 2, 1] (by decide) (by decide))⟩
  rintro ⟨i, kz, cz, sz, ko, co, so⟩ ρ w10 ⟨⟨hq, hSz, hSo⟩, HL⟩
  have hol := xoS_len n gs (inW pa 64) (inW pb 64) i
  refine seqAny ?_
  refine seqRegion ?_
  refine sq (r_move (v := i64 ((i : Nat))) rfl) ?_
  refine sq (r_lssI (a := (i : Nat)) (b := (64 : Int)) rfl rfl) ?_
  refine wend ?_
  refine condProp (((i : Nat) : Int) < (64 : Int)) rfl (fun c15 => ?_) (fun c15 => ?_)
  · skip
    refine skipAny ?_
    refine thenNormal ?_
    refine seqAny ?_
    refine blockAny ?_
    refine seqRegion ?_
    refine sq (r_assign (v := i64 ((0 : Int))) rfl) ?_
    refine wend ?_
    refine seqRegion ?_
    refine sq (r_loadA (cs' := #[i64 ((n : Nat)), .slice (ownA kz) (List.length ((xoS n gs (inW pa 64) (inW pb 64) i).1)) cz, .slice oa on oc]) agg80 siz80 (HL.get (k := 2) rfl) (off := 0) rfl (by exact Nat.le_of_ble_eq_true rfl) (by rfl)) ?_
    refine sq (r_move (v := i64 ((pa : Nat))) rfl) ?_
    refine sq (r_move (v := i64 ((i : Nat))) rfl) ?_
    refine sq ((r_addI (a := (pa : Nat)) (b := (i : Nat)) rfl rfl (by omega)).as (v' := i64 ((inW pa 64).getD i 0)) (by exact congrArg i64 (by rw [inW_at _ _ _ (by omega)]; omega))) ?_
    refine sq (r_move (v := i64 ((pb : Nat))) rfl) ?_
    refine sq (r_move (v := i64 ((i : Nat))) rfl) ?_
    refine sq ((r_addI (a := (pb : Nat)) (b := (i : Nat)) rfl rfl (by omega)).as (v' := i64 ((inW pb 64).getD i 0)) (by exact congrArg i64 (by rw [inW_at _ _ _ (by omega)]; omega))) ?_
    have H12 := (HL).as (L' := ((kz, sob EG 85 ((xoS n gs (inW pa 64) (inW pb 64) i).1) sz) :: ((ko, sob EI 3 ((xoS n gs (inW pa 64) (inW pb 64) i).2) so) :: (some b1, .cells #[i64 ((n : Nat)), .slice (ownA kz) (List.length ((xoS n gs (inW pa 64) (inW pb 64) i).1)) cz, .slice oa on oc] 80 (0, 0)) :: (some b5, .cells #[i64 ((0 : Int)), .slice none 0 0, .slice none 0 0] 80 (0, 0)) :: R))) rfl
    refine c_call (vs := [.agg #[i64 ((n : Nat)), .slice (ownA kz) (List.length ((xoS n gs (inW pa 64) (inW pb 64) i).1)) cz, .slice oa on oc], i64 ((1 : Int)), i64 ((inW pa 64).getD i 0), i64 ((inW pb 64).getD i 0)]) call80 rfl (rput_ok n kz cz sz ((xoS n gs (inW pa 64) (inW pb 64) i).1) hSz hn (by omega) oa on oc (1 : Int) ((inW pa 64).getD i 0) ((inW pb 64).getD i 0) ((ko, sob EI 3 ((xoS n gs (inW pa 64) (inW pb 64) i).2) so) :: (some b1, .cells #[i64 ((n : Nat)), .slice (ownA kz) (List.length ((xoS n gs (inW pa 64) (inW pb 64) i).1)) cz, .slice oa on oc] 80 (0, 0)) :: (some b5, .cells #[i64 ((0 : Int)), .slice none 0 0, .slice none 0 0] 80 (0, 0)) :: R) w₀ w10 H12) ?_
    rintro _ w13 ⟨wx15, key16, c17, sp18, hwx15, rfl, hS19, HN20⟩
    have H21 := HN20.as (L' := ((key16, sob EG 85 (((xoS n gs (inW pa 64) (inW pb 64) i).1) ++ [(⟨(1 : Int), (inW pa 64).getD i 0, (inW pb 64).getD i 0⟩ : Gt)]) sp18) :: (ko, sob EI 3 ((xoS n gs (inW pa 64) (inW pb 64) i).2) so) :: (some b1, .cells #[i64 ((n : Nat)), .slice (ownA kz) (List.length ((xoS n gs (inW pa 64) (inW pb 64) i).1)) cz, .slice oa on oc] 80 (0, 0)) :: (some b5, .cells #[i64 ((0 : Int)), .slice none 0 0, .slice none 0 0] 80 (0, 0)) :: R)) rfl
    refine sq (r_move (v := .tuple #[.agg #[i64 ((n : Nat)), .slice (ownA key16) (List.length (((xoS n gs (inW pa 64) (inW pb 64) i).1) ++ [(⟨(1 : Int), (inW pa 64).getD i 0, (inW pb 64).getD i 0⟩ : Gt)])) c17, .slice oa on oc], i64 (wx15)]) rfl) ?_
    refine sq (r_extract (vs := #[.agg #[i64 ((n : Nat)), .slice (ownA key16) (List.length (((xoS n gs (inW pa 64) (inW pb 64) i).1) ++ [(⟨(1 : Int), (inW pa 64).getD i 0, (inW pb 64).getD i 0⟩ : Gt)])) c17, .slice oa on oc], i64 (wx15)]) rfl rfl) ?_
    refine sq (r_extract (vs := #[.agg #[i64 ((n : Nat)), .slice (ownA key16) (List.length (((xoS n gs (inW pa 64) (inW pb 64) i).1) ++ [(⟨(1 : Int), (inW pa 64).getD i 0, (inW pb 64).getD i 0⟩ : Gt)])) c17, .slice oa on oc], i64 (wx15)]) rfl rfl) ?_
    refine d_store (k := 2) (v := .agg #[i64 ((n : Nat)), .slice (ownA key16) (List.length (((xoS n gs (inW pa 64) (inW pb 64) i).1) ++ [(⟨(1 : Int), (inW pa 64).getD i 0, (inW pb 64).getD i 0⟩ : Gt)])) c17, .slice oa on oc]) (cs' := #[i64 ((n : Nat)), .slice (ownA key16) (List.length (((xoS n gs (inW pa 64) (inW pb 64) i).1) ++ [(⟨(1 : Int), (inW pa 64).getD i 0, (inW pb 64).getD i 0⟩ : Gt)])) c17, .slice oa on oc]) H21 rfl rfl rfl siz80 (by rfl) (by intro u hu; simp [Value.cells] at hu; first | (subst hu; rfl) | (rcases hu with rfl | rfl | rfl <;> rfl)) (by exact Nat.le_of_ble_eq_true rfl) (by rfl) ?_
    intro w22 H23 hC24
    have H23' := H23.as (L' := ((key16, sob EG 85 (((xoS n gs (inW pa 64) (inW pb 64) i).1) ++ [(⟨(1 : Int), (inW pa 64).getD i 0, (inW pb 64).getD i 0⟩ : Gt)]) sp18) :: (ko, sob EI 3 ((xoS n gs (inW pa 64) (inW pb 64) i).2) so) :: (some b1, .cells #[i64 ((n : Nat)), .slice (ownA key16) (List.length (((xoS n gs (inW pa 64) (inW pb 64) i).1) ++ [(⟨(1 : Int), (inW pa 64).getD i 0, (inW pb 64).getD i 0⟩ : Gt)])) c17, .slice oa on oc] 80 (0, 0)) :: (some b5, .cells #[i64 ((0 : Int)), .slice none 0 0, .slice none 0 0] 80 (0, 0)) :: R)) rfl
    clear H23
    refine sq (r_assign (v := i64 (wx15)) rfl) ?_
    refine wend ?_
    refine seqAny ?_
    refine seqRegion ?_
    refine sq (r_move (v := .bool (true)) rfl) ?_
    refine wend ?_
    refine condTrue rfl ?_
    refine seqRegion ?_
    refine sq (r_move (v := .slice (ownA ko) i co) rfl) ?_
    refine sq (r_move (v := i64 (wx15)) rfl) ?_
    refine q_buildSlice (E := EI) (l := [wx15]) H23' sli60 zer3 (Nat.le_of_ble_eq_true rfl) (ps := [(0, i64 (wx15))]) rfl (by exact fillAll rfl rfl) rfl ?_
    intro b25 w27 hS26 H28 hE29
    refine q_append (E := EI) (k := 2) (l := (xoS n gs (inW pa 64) (inW pb 64) i).2) (l2 := [wx15]) H28 rfl hSo sli60 zer3 rfl byt3 (H28.rd (k := 0) rfl hS26) rfl (by exact hol.2.symm) rfl (by rfl) (by omega) ?_
    intro key30 c31 sp32 w34 hS33 hne36 H35
    have H35' := H35.as (L' := (((some b25), sob EI 3 ([wx15]) ([])) :: (key16, sob EG 85 (((xoS n gs (inW pa 64) (inW pb 64) i).1) ++ [(⟨(1 : Int), (inW pa 64).getD i 0, (inW pb 64).getD i 0⟩ : Gt)]) sp18) :: (key30, sob EI 3 (((xoS n gs (inW pa 64) (inW pb 64) i).2) ++ ([wx15])) sp32) :: (some b1, .cells #[i64 ((n : Nat)), .slice (ownA key16) (List.length (((xoS n gs (inW pa 64) (inW pb 64) i).1) ++ [(⟨(1 : Int), (inW pa 64).getD i 0, (inW pb 64).getD i 0⟩ : Gt)])) c17, .slice oa on oc] 80 (0, 0)) :: (some b5, .cells #[i64 ((0 : Int)), .slice none 0 0, .slice none 0 0] 80 (0, 0)) :: R)) rfl
    clear H35
    refine sq (r_assign (v := .slice (ownA key30) (i + 1) c31) rfl) ?_
    refine wend ?_
    refine exitAny ?_
    refine thenExit ?_
    refine blockHere ?_
    refine thenNormal ?_
    refine oneRegion ?_
    refine sq (r_move (v := i64 ((i : Nat))) rfl) ?_
    refine sq (r_addI (a := (i : Nat)) (b := (1 : Int)) rfl rfl (by omega)) ?_
    refine sq (r_assign (v := i64 ((i : Nat) + (1 : Int))) rfl) ?_
    refine wnil ?_
    refine thenNormal ?_
    subst hwx15
    have e37 : ((xoS n gs (inW pa 64) (inW pb 64) i).1) ++ [(⟨(1 : Int), (inW pa 64).getD i 0, (inW pb 64).getD i 0⟩ : Gt)] = (xoS n gs (inW pa 64) (inW pb 64) (i + 1)).1 := by rfl
    have hS38 := hS19
    rw [e37] at hS38
    have H39 : Hp No w₀ w34 (((some b25), sob EI 3 ([(wrW n ((xoS n gs (inW pa 64) (inW pb 64) i).1))]) ([])) :: (key16, sob EG 85 ((xoS n gs (inW pa 64) (inW pb 64) (i + 1)).1) sp18) :: (key30, sob EI 3 (((xoS n gs (inW pa 64) (inW pb 64) i).2) ++ ([(wrW n ((xoS n gs (inW pa 64) (inW pb 64) i).1))])) sp32) :: (some b1, .cells #[i64 ((n : Nat)), .slice (ownA key16) (List.length ((xoS n gs (inW pa 64) (inW pb 64) (i + 1)).1)) c17, .slice oa on oc] 80 (0, 0)) :: (some b5, .cells #[i64 ((0 : Int)), .slice none 0 0, .slice none 0 0] 80 (0, 0)) :: R) := by rw [← e37]; exact H35'
    have e40 : ((xoS n gs (inW pa 64) (inW pb 64) i).2) ++ ([(wrW n ((xoS n gs (inW pa 64) (inW pb 64) i).1))]) = (xoS n gs (inW pa 64) (inW pb 64) (i + 1)).2 := by rfl
    have hS41 := hS33
    rw [e40] at hS41
    have H42 := H39.as (L' := (((some b25), sob EI 3 ([(wrW n ((xoS n gs (inW pa 64) (inW pb 64) i).1))]) ([])) :: (key16, sob EG 85 ((xoS n gs (inW pa 64) (inW pb 64) (i + 1)).1) sp18) :: (key30, sob EI 3 ((xoS n gs (inW pa 64) (inW pb 64) (i + 1)).2) sp32) :: (some b1, .cells #[i64 ((n : Nat)), .slice (ownA key16) (List.length ((xoS n gs (inW pa 64) (inW pb 64) (i + 1)).1)) c17, .slice oa on oc] 80 (0, 0)) :: (some b5, .cells #[i64 ((0 : Int)), .slice none 0 0, .slice none 0 0] 80 (0, 0)) :: R)) (by rw [e40])
    exact ⟨(i + 1, key16, c17, sp18, key30, c31, sp32), _, rfl, ⟨rfl, rfl, rfl, rfl, rfl, congrArg (fun q => Value.slice _ q _) (by omega), congrArg i64 (by omega), trivial⟩, ⟨⟨by omega, hS38, hS41⟩, (H42.dropk 0)⟩, by show 64 - (i + 1) < 64 - i; omega⟩
  · skip
    have hie : i = 64 := by omega
    refine exitAny ?_
    refine thenExit ?_
    refine thenExit ?_
    refine blockHere ?_
    refine thenNormal ?_
    refine seqRegion ?_
    refine sq (r_loadA (cs' := #[i64 ((n : Nat)), .slice (ownA kz) (List.length ((xoS n gs (inW pa 64) (inW pb 64) i).1)) cz, .slice oa on oc]) agg80 siz80 (HL.get (k := 2) rfl) (off := 0) rfl (by exact Nat.le_of_ble_eq_true rfl) (by rfl)) ?_
    refine sq (r_move (v := .slice (ownA ko) i co) rfl) ?_
    refine d_store (k := 3) (v := .agg #[i64 ((n : Nat)), .slice (ownA kz) (List.length ((xoS n gs (inW pa 64) (inW pb 64) i).1)) cz, .slice oa on oc]) (cs' := #[i64 ((n : Nat)), .slice (ownA kz) (List.length ((xoS n gs (inW pa 64) (inW pb 64) i).1)) cz, .slice oa on oc]) HL rfl rfl rfl siz80 (by rfl) (by intro u hu; simp [Value.cells] at hu; first | (subst hu; rfl) | (rcases hu with rfl | rfl | rfl <;> rfl)) (by exact Nat.le_of_ble_eq_true rfl) (by rfl) ?_
    intro w43 H44 hC45
    have H44' := H44.as (L' := ((kz, sob EG 85 ((xoS n gs (inW pa 64) (inW pb 64) i).1) sz) :: (ko, sob EI 3 ((xoS n gs (inW pa 64) (inW pb 64) i).2) so) :: (some b1, .cells #[i64 ((n : Nat)), .slice (ownA kz) (List.length ((xoS n gs (inW pa 64) (inW pb 64) i).1)) cz, .slice oa on oc] 80 (0, 0)) :: (some b5, .cells #[i64 ((n : Nat)), .slice (ownA kz) (List.length ((xoS n gs (inW pa 64) (inW pb 64) i).1)) cz, .slice oa on oc] 80 (0, 0)) :: R)) rfl
    clear H44
    refine sq (r_assign (v := .slice (ownA ko) i co) rfl) ?_
    refine wend ?_
    refine retAny ?_
    refine retG (rs := [.cell 8 80, .tmp 9]) (vs := [.agg #[i64 ((n : Nat)), .slice (ownA kz) (List.length ((xoS n gs (inW pa 64) (inW pb 64) i).1)) cz, .slice oa on oc], .slice (ownA ko) i co]) rfl ⟨r_loadA (cs' := #[i64 ((n : Nat)), .slice (ownA kz) (List.length ((xoS n gs (inW pa 64) (inW pb 64) i).1)) cz, .slice oa on oc]) agg80 siz80 (H44'.get (k := 3) rfl) (off := 0) rfl (by exact Nat.le_of_ble_eq_true rfl) (by rfl), ⟨rfl, rfl⟩, trivial⟩ ?_
    subst hie
    exact ⟨_, rfl, kz, cz, sz, ko, co, so, rfl, hSz, hSo, ((H44'.dropk 3).dropk 2)⟩
end Go.Proofs.YteofdmdpaejgaaaDoor.Cm
