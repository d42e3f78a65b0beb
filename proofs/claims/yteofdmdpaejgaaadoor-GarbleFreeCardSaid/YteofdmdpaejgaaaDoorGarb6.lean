/- The walks of the garbled circuits. -/
import Derived.Test.YteofdmdpaejgaaaDoorGarb5
namespace Go.Proofs.YteofdmdpaejgaaaDoor.Gb
open Go Go.Proofs.YteofdmdpaejgaaaDoor.Vc Go.Proofs.YteofdmdpaejgaaaDoor.Er Go.Proofs.YteofdmdpaejgaaaDoor.Circ
set_option linter.unusedVariables false
theorem call24 : callable Tryd.prog 24 = true := by kernel_rfl
theorem call45 : callable Tryd.prog 45 = true := by kernel_rfl
theorem call46 : callable Tryd.prog 46 = true := by kernel_rfl
theorem call48 : callable Tryd.prog 48 = true := by kernel_rfl
theorem pls70 : pls Tryd.prog 70 = some #[(0, 1), (1, 1), (2, 1)] := by kernel_rfl
theorem pls99 : pls Tryd.prog 99 = some #[(0, 1), (1, 1), (2, 1)] := by kernel_rfl
theorem zer3 : zer Tryd.prog 3 = some (.int .i64 0) := by kernel_rfl
theorem zer70 : zer Tryd.prog 70 = some (.agg #[.int .i64 0, .slice none 0 0, .slice none 0 0]) := by kernel_rfl
set_option maxHeartbeats 1000000 in
theorem gawake_ok (w : World) (hG : Gl w) : Calls Tryd.prog 41 [].toArray w (Ret fun v w' => v = .bool true ∧ Ext w w') := by
  have H := Hp.start No w
  refine enter (n := 75) Tryd.func41 rfl rfl (Nat.le_of_ble_eq_true rfl) ?_
  refine seqRegion ?_
  refine sq (r_assign (v := .bool (false)) rfl) ?_
  refine wend ?_
  refine seqRegion ?_
  refine sq (r_build (cs' := #[i64 ((2 : Int)), i64 ((0 : Int)), i64 ((1 : Int))]) (ps := [(0, i64 ((2 : Int))), (1, i64 ((0 : Int))), (2, i64 ((1 : Int)))]) zer99 pls99 rfl (by rfl)) ?_
  refine q_buildSlice (E := EG) (l := ([⟨(2 : Int), (0 : Int), (1 : Int)⟩] : List Gt)) H sli68 zer99 (Nat.le_of_ble_eq_true rfl) (ps := [(0, .agg #[i64 ((2 : Int)), i64 ((0 : Int)), i64 ((1 : Int))])]) rfl (by exact fillAll rfl rfl) rfl ?_
  intro b1 w3 hS2 H4 hE5
  refine q_buildSlice (E := EI) (l := [(2 : Int)]) H4 sli60 zer3 (Nat.le_of_ble_eq_true rfl) (ps := [(0, i64 ((2 : Int)))]) rfl (by exact fillAll rfl rfl) rfl ?_
  intro b6 w8 hS7 H9 hE10
  refine sq (r_build (cs' := #[i64 ((2 : Int)), .slice (ownA (some b1)) 1 1, .slice (ownA (some b6)) 1 1]) (ps := [(0, i64 ((2 : Int))), (1, .slice (ownA (some b1)) 1 1), (2, .slice (ownA (some b6)) 1 1)]) zer70 pls70 rfl (by rfl)) ?_
  refine q_alloc (o := .cells #[i64 ((0 : Int)), .slice none 0 0, .slice none 0 0] 70 (0, 0)) H9 zer70 (by kernel_rfl) ?_
  intro b11 w12 hb11 H13 hE14
  refine d_store (k := 0) (v := .agg #[i64 ((2 : Int)), .slice (ownA (some b1)) 1 1, .slice (ownA (some b6)) 1 1]) (cs' := #[i64 ((2 : Int)), .slice (ownA (some b1)) 1 1, .slice (ownA (some b6)) 1 1]) H13 rfl rfl rfl siz70 (by rfl) (by intro u hu; simp [Value.cells] at hu; first | (subst hu; rfl) | (rcases hu with rfl | rfl | rfl <;> rfl)) (by exact Nat.le_of_ble_eq_true rfl) (by rfl) ?_
  intro w15 H16 hC17
  have H16' := H16.as (L' := [(some b11, .cells #[i64 ((2 : Int)), .slice (ownA (some b1)) 1 1, .slice (ownA (some b6)) 1 1] 70 (0, 0)), ((some b6), sob EI 3 ([(2 : Int)]) ([])), ((some b1), sob EG 99 ([⟨(2 : Int), (0 : Int), (1 : Int)⟩] : List Gt) ([]))]) rfl
  clear H16
  refine wend ?_
  refine seqRegion ?_
  refine sq (r_buildA (cs' := (cel E64 [1#64, 0#64]).toArray) (ps := [(0, u64 (1#64)), (1, u64 (0#64))]) zer38 arr38 rfl (by rfl)) ?_
  refine q_alloc (o := .cells (cel E64 ([0#64, 0#64])).toArray 38 (0, 0)) H16' zer38 (by kernel_rfl) ?_
  intro b18 w19 hb18 H20 hE21
  refine d_store (k := 0) (v := .agg (cel E64 [1#64, 0#64]).toArray) (cs' := (cel E64 ([1#64, 0#64])).toArray) H20 rfl rfl rfl siz38 (by exact celSize (by first | rfl | (show _ * 1 = _; omega))) (by exact celOne _) (by rw [List.size_toArray, cel_length]; show _ ≤ _ * 1; first | omega | (simp only [List.length_set]; omega) | exact Nat.le_of_ble_eq_true rfl | (simp <;> omega)) (by exact putAll (by first | rfl | omega | (simp <;> omega))) ?_
  intro w22 H23 hC24
  have H23' := H23.as (L' := [(some b18, .cells (cel E64 ([1#64, 0#64])).toArray 38 (0, 0)), (some b11, .cells #[i64 ((2 : Int)), .slice (ownA (some b1)) 1 1, .slice (ownA (some b6)) 1 1] 70 (0, 0)), ((some b6), sob EI 3 ([(2 : Int)]) ([])), ((some b1), sob EG 99 ([⟨(2 : Int), (0 : Int), (1 : Int)⟩] : List Gt) ([]))]) rfl
  clear H23
  refine wend ?_
  refine seqAny ?_
  refine drawC (m := 11) [0, 0, 0, 7, 15, 31, 31, 31, 63, 383, 1023] [2, 3] (fun q vs w' => match q, vs with | 0, [] => Ext w22 w' ∧ Hp No w w' [(some b18, .cells (cel E64 ([1#64, 0#64])).toArray 38 (0, 0)), (some b11, .cells #[i64 ((2 : Int)), .slice (ownA (some b1)) 1 1, .slice (ownA (some b6)) 1 1] 70 (0, 0)), ((some b6), sob EI 3 ([(2 : Int)]) ([])), ((some b1), sob EG 99 ([⟨(2 : Int), (0 : Int), (1 : Int)⟩] : List Gt) ([]))] | 1, [v0] => ∃ (b28 : Nat), v0 = .slice (ownA (some b28)) 2 2 ∧ Sl ELb (some b28) (List.replicate 2 lb0) 2 (cel ELb (List.replicate (2 - 2) lb0)) ∧ Ext w22 w' ∧ Hp No w w' [((some b28), sob ELb 38 (List.replicate 2 lb0) (cel ELb (List.replicate (2 - 2) lb0))), (some b18, .cells (cel E64 ([1#64, 0#64])).toArray 38 (0, 0)), (some b11, .cells #[i64 ((2 : Int)), .slice (ownA (some b1)) 1 1, .slice (ownA (some b6)) 1 1] 70 (0, 0)), ((some b6), sob EI 3 ([(2 : Int)]) ([])), ((some b1), sob EG 99 ([⟨(2 : Int), (0 : Int), (1 : Int)⟩] : List Gt) ([]))] | 2, [v0, v1] => ∃ (b28 : Nat) (k38 : Option Nat) (c39 : Nat) (z40 : List Value) (k41 : Option Nat) (c42 : Nat) (z43 : List Value), v0 = .slice (ownA (some b28)) 2 2 ∧ v1 = .tuple #[.slice (ownA k38) (((gS lhash (1#64, 0#64) (0#64) ([⟨(2 : Int), (0 : Int), (1 : Int)⟩] : List Gt) (List.replicate 2 lb0) 1).2).length) c39, .slice (ownA k41) ((oL (gS lhash (1#64, 0#64) (0#64) ([⟨(2 : Int), (0 : Int), (1 : Int)⟩] : List Gt) (List.replicate 2 lb0) 1).1 ([(2 : Int)]) 1).length) c42, .nilIface] ∧ Sl ELb k38 ((gS lhash (1#64, 0#64) (0#64) ([⟨(2 : Int), (0 : Int), (1 : Int)⟩] : List Gt) (List.replicate 2 lb0) 1).2) c39 z40 ∧ Sl ELb k41 (oL (gS lhash (1#64, 0#64) (0#64) ([⟨(2 : Int), (0 : Int), (1 : Int)⟩] : List Gt) (List.replicate 2 lb0) 1).1 ([(2 : Int)]) 1) c42 z43 ∧ Sl ELb (some b28) (List.replicate 2 lb0) 2 (cel ELb (List.replicate (2 - 2) lb0)) ∧ Ext w22 w' ∧ Hp No w w' [(k38, sob ELb 38 ((gS lhash (1#64, 0#64) (0#64) ([⟨(2 : Int), (0 : Int), (1 : Int)⟩] : List Gt) (List.replicate 2 lb0) 1).2) z40), (k41, sob ELb 38 (oL (gS lhash (1#64, 0#64) (0#64) ([⟨(2 : Int), (0 : Int), (1 : Int)⟩] : List Gt) (List.replicate 2 lb0) 1).1 ([(2 : Int)]) 1) z43), ((some b28), sob ELb 38 (List.replicate 2 lb0) (cel ELb (List.replicate (2 - 2) lb0))), (some b18, .cells (cel E64 ([1#64, 0#64])).toArray 38 (0, 0)), (some b11, .cells #[i64 ((2 : Int)), .slice (ownA (some b1)) 1 1, .slice (ownA (some b6)) 1 1] 70 (0, 0)), ((some b6), sob EI 3 ([(2 : Int)]) ([])), ((some b1), sob EG 99 ([⟨(2 : Int), (0 : Int), (1 : Int)⟩] : List Gt) ([]))] | _, _ => False) mixed (by kernel_rfl) (by kernel_rfl) ⟨Ext.drew _, H23'.drew⟩ ?_
  refine WalkC.look rfl (fun _ => .agg #[i64 ((2 : Int)), .slice (ownA (some b1)) 1 1, .slice (ownA (some b6)) 1 1]) (fun _ _ _ => rfl) (fun q r uw hlo hhi hle hF => ?_) ?_
  · skip
    have h1 : 0 ≤ q := Nat.zero_le _
    have h2 : q ≤ 1 := hhi 1 3 rfl rfl
    rcases (show q = 0 ∨ q = 1 by omega) with rfl | rfl
    · skip
      obtain ⟨hX, HH⟩ := hF
      exact Gives.run rfl (r_loadA (cs' := #[i64 ((2 : Int)), .slice (ownA (some b1)) 1 1, .slice (ownA (some b6)) 1 1]) agg70 siz70 (HH.get (k := 1) rfl) (off := 0) rfl (by exact Nat.le_of_ble_eq_true rfl) (by rfl)) ⟨rfl, rfl⟩
    · skip
      obtain ⟨b28, e2, hS29, hX, HH⟩ := hF
      exact Gives.run rfl (r_loadA (cs' := #[i64 ((2 : Int)), .slice (ownA (some b1)) 1 1, .slice (ownA (some b6)) 1 1]) agg70 siz70 (HH.get (k := 2) rfl) (off := 0) rfl (by exact Nat.le_of_ble_eq_true rfl) (by rfl)) ⟨rfl, rfl⟩
  refine WalkC.look rfl (fun _ => .agg (cel E64 ([1#64, 0#64])).toArray) (fun _ _ _ => rfl) (fun q r uw hlo hhi hle hF => ?_) ?_
  · skip
    have h1 : 0 ≤ q := Nat.zero_le _
    have h2 : q ≤ 1 := hhi 1 3 rfl rfl
    rcases (show q = 0 ∨ q = 1 by omega) with rfl | rfl
    · skip
      obtain ⟨hX, HH⟩ := hF
      exact Gives.run rfl (r_loadA (cs' := (cel E64 ([1#64, 0#64])).toArray) agg38 siz38 (HH.get (k := 0) rfl) (off := 0) rfl (by exact Nat.le_of_ble_eq_true rfl) (by exact ext_all rfl)) ⟨rfl, rfl⟩
    · skip
      obtain ⟨b28, e2, hS29, hX, HH⟩ := hF
      exact Gives.run rfl (r_loadA (cs' := (cel E64 ([1#64, 0#64])).toArray) agg38 siz38 (HH.get (k := 1) rfl) (off := 0) rfl (by exact Nat.le_of_ble_eq_true rfl) (by exact ext_all rfl)) ⟨rfl, rfl⟩
  refine WalkC.eff 0 rfl (fun r uw25 hF27 => ?_) ?_
  · skip
    obtain ⟨hX, H26⟩ := hF27
    dsimp only [List.take, List.map, List.cons_append, List.nil_append]
    refine Gives.ofW (d := 19) rfl rfl (fun Q' hK => ?_)
    refine q_makeSlice (E := ELb) (m := 2) (c := 2) (z0 := lb0) H26 sli92 zer38 rfl byt38 rfl rfl (by first | rfl | omega | (simp; omega)) (by first | rfl | omega | (simp; omega)) (by omega) (by omega) ?_
    intro b28 w30 hS29 H31 hE32
    exact hK _ _ ⟨b28, rfl, hS29, (hX.trans hE32), H31⟩
  refine WalkC.eff 1 rfl (fun r uw33 hF35 => ?_) ?_
  · skip
    obtain ⟨b28, e2, hS29, hX, H34⟩ := hF35
    dsimp only [List.take, List.map, List.cons_append, List.nil_append]
    rw [e2]
    refine Gives.ofW (d := 20) rfl rfl (fun Q' hK => ?_)
    refine c_call (vs := [.agg #[i64 ((2 : Int)), .slice (ownA (some b1)) 1 1, .slice (ownA (some b6)) 1 1], .agg (cel E64 ([1#64, 0#64])).toArray, .slice (ownA (some b28)) 2 2, u64 (0#64)]) call45 rfl (garble_ok (2 : Int) ([⟨(2 : Int), (0 : Int), (1 : Int)⟩] : List Gt) ([(2 : Int)]) (ownA (some b1)) (ownA (some b6)) 1 1 (1#64, 0#64) (List.replicate 2 lb0) (ownA (some b28)) 2 (0#64) uw33 (Chg.gl H34.chg (fun x => x) hG) (H34.rd (k := 4) rfl hS2) (H34.rd (k := 3) rfl hS7) (by first | omega | exact Nat.le_of_ble_eq_true rfl) (by first | omega | exact Nat.le_of_ble_eq_true rfl) (H34.rd (k := 0) rfl hS29) aw_is rfl rfl) ?_
    rintro _ w36 ⟨k38, c39, z40, k41, c42, z43, rfl, hS44, hS45, HN46⟩
    have H47 := (H34.join HN46).as (L' := [(k38, sob ELb 38 ((gS lhash (1#64, 0#64) (0#64) ([⟨(2 : Int), (0 : Int), (1 : Int)⟩] : List Gt) (List.replicate 2 lb0) 1).2) z40), (k41, sob ELb 38 (oL (gS lhash (1#64, 0#64) (0#64) ([⟨(2 : Int), (0 : Int), (1 : Int)⟩] : List Gt) (List.replicate 2 lb0) 1).1 ([(2 : Int)]) 1) z43), ((some b28), sob ELb 38 (List.replicate 2 lb0) (cel ELb (List.replicate (2 - 2) lb0))), (some b18, .cells (cel E64 ([1#64, 0#64])).toArray 38 (0, 0)), (some b11, .cells #[i64 ((2 : Int)), .slice (ownA (some b1)) 1 1, .slice (ownA (some b6)) 1 1] 70 (0, 0)), ((some b6), sob EI 3 ([(2 : Int)]) ([])), ((some b1), sob EG 99 ([⟨(2 : Int), (0 : Int), (1 : Int)⟩] : List Gt) ([]))]) rfl
    exact hK _ _ ⟨b28, k38, c39, z40, k41, c42, z43, rfl, rfl, hS44, hS45, hS29, (hX.trans HN46.chg), H47⟩
  refine WalkC.look rfl (fun r => r 3) (fun r r' h => h 3 (by decide) rfl) (fun q r uw _ _ _ _ => Gives.run rfl (r_move rfl) ⟨rfl, rfl⟩) ?_
  refine WalkC.look rfl (fun r => proj (r 3) 0) (fun r r' h => by rw [h 3 (by decide) rfl]) (fun q r uw hlo hhi hle hF => ?_) ?_
  · skip
    have h1 : 2 ≤ q := hlo 1 3 rfl rfl
    have h2 : q ≤ 2 := hle
    rcases (show q = 2 by omega) with rfl
    · skip
      obtain ⟨b28, k38, c39, z40, k41, c42, z43, e2, e3, hS44, hS45, hS29, hX, HH⟩ := hF
      dsimp only
      rw [e3]
      exact Gives.run rfl (r_extract (vs := #[.slice (ownA k38) (((gS lhash (1#64, 0#64) (0#64) ([⟨(2 : Int), (0 : Int), (1 : Int)⟩] : List Gt) (List.replicate 2 lb0) 1).2).length) c39, .slice (ownA k41) ((oL (gS lhash (1#64, 0#64) (0#64) ([⟨(2 : Int), (0 : Int), (1 : Int)⟩] : List Gt) (List.replicate 2 lb0) 1).1 ([(2 : Int)]) 1).length) c42, .nilIface]) rfl rfl) ⟨rfl, rfl⟩
  refine WalkC.look rfl (fun r => proj (r 3) 1) (fun r r' h => by rw [h 3 (by decide) rfl]) (fun q r uw hlo hhi hle hF => ?_) ?_
  · skip
    have h1 : 2 ≤ q := hlo 1 3 rfl rfl
    have h2 : q ≤ 2 := hle
    rcases (show q = 2 by omega) with rfl
    · skip
      obtain ⟨b28, k38, c39, z40, k41, c42, z43, e2, e3, hS44, hS45, hS29, hX, HH⟩ := hF
      dsimp only
      rw [e3]
      exact Gives.run rfl (r_extract (vs := #[.slice (ownA k38) (((gS lhash (1#64, 0#64) (0#64) ([⟨(2 : Int), (0 : Int), (1 : Int)⟩] : List Gt) (List.replicate 2 lb0) 1).2).length) c39, .slice (ownA k41) ((oL (gS lhash (1#64, 0#64) (0#64) ([⟨(2 : Int), (0 : Int), (1 : Int)⟩] : List Gt) (List.replicate 2 lb0) 1).1 ([(2 : Int)]) 1).length) c42, .nilIface]) rfl rfl) ⟨rfl, rfl⟩
  refine WalkC.look rfl (fun r => proj (r 3) 2) (fun r r' h => by rw [h 3 (by decide) rfl]) (fun q r uw hlo hhi hle hF => ?_) ?_
  · skip
    have h1 : 2 ≤ q := hlo 1 3 rfl rfl
    have h2 : q ≤ 2 := hle
    rcases (show q = 2 by omega) with rfl
    · skip
      obtain ⟨b28, k38, c39, z40, k41, c42, z43, e2, e3, hS44, hS45, hS29, hX, HH⟩ := hF
      dsimp only
      rw [e3]
      exact Gives.run rfl (r_extract (vs := #[.slice (ownA k38) (((gS lhash (1#64, 0#64) (0#64) ([⟨(2 : Int), (0 : Int), (1 : Int)⟩] : List Gt) (List.replicate 2 lb0) 1).2).length) c39, .slice (ownA k41) ((oL (gS lhash (1#64, 0#64) (0#64) ([⟨(2 : Int), (0 : Int), (1 : Int)⟩] : List Gt) (List.replicate 2 lb0) 1).1 ([(2 : Int)]) 1).length) c42, .nilIface]) rfl rfl) ⟨rfl, rfl⟩
  refine WalkC.look rfl (fun r => proj (r 3) 0) (fun r r' h => by rw [h 3 (by decide) rfl]) (fun q r uw _ _ _ _ => Gives.run rfl (r_assign rfl) ⟨rfl, rfl⟩) ?_
  refine WalkC.look rfl (fun r => proj (r 3) 1) (fun r r' h => by rw [h 3 (by decide) rfl]) (fun q r uw _ _ _ _ => Gives.run rfl (r_assign rfl) ⟨rfl, rfl⟩) ?_
  refine WalkC.look rfl (fun r => proj (r 3) 2) (fun r r' h => by rw [h 3 (by decide) rfl]) (fun q r uw _ _ _ _ => Gives.run rfl (r_assign rfl) ⟨rfl, rfl⟩) ?_
  refine WalkC.nil ?_
  intro r48 w49 hF51
  obtain ⟨b28, k38, c39, z40, k41, c42, z43, e2, e3, hS44, hS45, hS29, hX, H50⟩ := hF51
  dsimp only
  rw [e2, e3]
  refine wnil ?_
  refine thenNormal ?_
  refine seqAny ?_
  refine seqRegion ?_
  refine sq (r_move (v := .nilIface) rfl) ?_
  refine sq (r_neqNN isI27 rfl rfl) ?_
  refine sq (r_move (v := .bool (false)) rfl) ?_
  refine sqAny (v := .slice (ownA k38) (((gS lhash (1#64, 0#64) (0#64) ([⟨(2 : Int), (0 : Int), (1 : Int)⟩] : List Gt) (List.replicate 2 lb0) 1).2).length) c39) (w' := w49) (wantedSome (d' := 26) (b := false) rfl rfl rfl) (r_move (v := .slice (ownA k38) (((gS lhash (1#64, 0#64) (0#64) ([⟨(2 : Int), (0 : Int), (1 : Int)⟩] : List Gt) (List.replicate 2 lb0) 1).2).length) c39) rfl) ?_
  refine sqAny (v := i64 ((((gS lhash (1#64, 0#64) (0#64) ([⟨(2 : Int), (0 : Int), (1 : Int)⟩] : List Gt) (List.replicate 2 lb0) 1).2).length : Nat))) (w' := w49) (wantedSome (d' := 26) (b := false) rfl rfl rfl) (r_lenS sli92 (a := ownA k38) (m := ((gS lhash (1#64, 0#64) (0#64) ([⟨(2 : Int), (0 : Int), (1 : Int)⟩] : List Gt) (List.replicate 2 lb0) 1).2).length) (c := c39) rfl) ?_
  refine sqAny (v := .bool (false)) (w' := w49) (wantedSome (d' := 26) (b := false) rfl rfl rfl) ((r_neqI (a := (((gS lhash (1#64, 0#64) (0#64) ([⟨(2 : Int), (0 : Int), (1 : Int)⟩] : List Gt) (List.replicate 2 lb0) 1).2).length : Nat)) (b := (2 : Int)) rfl rfl).as (v' := .bool (false)) (by rfl)) ?_
  refine sq (r_pickF (v := .bool (false)) rfl rfl) ?_
  refine sq (r_move (v := .bool (false)) rfl) ?_
  refine sqAny (v := .slice (ownA k41) ((oL (gS lhash (1#64, 0#64) (0#64) ([⟨(2 : Int), (0 : Int), (1 : Int)⟩] : List Gt) (List.replicate 2 lb0) 1).1 ([(2 : Int)]) 1).length) c42) (w' := w49) (wantedSome (d' := 31) (b := false) rfl rfl rfl) (r_move (v := .slice (ownA k41) ((oL (gS lhash (1#64, 0#64) (0#64) ([⟨(2 : Int), (0 : Int), (1 : Int)⟩] : List Gt) (List.replicate 2 lb0) 1).1 ([(2 : Int)]) 1).length) c42) rfl) ?_
  refine sqAny (v := i64 (((oL (gS lhash (1#64, 0#64) (0#64) ([⟨(2 : Int), (0 : Int), (1 : Int)⟩] : List Gt) (List.replicate 2 lb0) 1).1 ([(2 : Int)]) 1).length : Nat))) (w' := w49) (wantedSome (d' := 31) (b := false) rfl rfl rfl) (r_lenS sli92 (a := ownA k41) (m := (oL (gS lhash (1#64, 0#64) (0#64) ([⟨(2 : Int), (0 : Int), (1 : Int)⟩] : List Gt) (List.replicate 2 lb0) 1).1 ([(2 : Int)]) 1).length) (c := c42) rfl) ?_
  refine sqAny (v := .bool (false)) (w' := w49) (wantedSome (d' := 31) (b := false) rfl rfl rfl) ((r_neqI (a := ((oL (gS lhash (1#64, 0#64) (0#64) ([⟨(2 : Int), (0 : Int), (1 : Int)⟩] : List Gt) (List.replicate 2 lb0) 1).1 ([(2 : Int)]) 1).length : Nat)) (b := (1 : Int)) rfl rfl).as (v' := .bool (false)) (by rfl)) ?_
  refine sq (r_pickF (v := .bool (false)) rfl rfl) ?_
  refine wend ?_
  refine condFalse rfl ?_
  refine skipAny ?_
  refine thenNormal ?_
  refine seqRegion ?_
  refine sq (r_loadA (cs' := #[i64 ((2 : Int)), .slice (ownA (some b1)) 1 1, .slice (ownA (some b6)) 1 1]) agg70 siz70 (H50.get (k := 4) rfl) (off := 0) rfl (by exact Nat.le_of_ble_eq_true rfl) (by rfl)) ?_
  refine sq (r_loadA (cs' := (cel E64 ([1#64, 0#64])).toArray) agg38 siz38 (H50.get (k := 3) rfl) (off := 0) rfl (by exact Nat.le_of_ble_eq_true rfl) (by exact ext_all rfl)) ?_
  refine sq (r_loadA (cs' := (cel E64 ([1#64, 0#64])).toArray) agg38 siz38 (H50.get (k := 3) rfl) (off := 0) rfl (by exact Nat.le_of_ble_eq_true rfl) (by exact ext_all rfl)) ?_
  refine q_buildSlice (E := ELb) (l := ([(1#64, 0#64), (1#64, 0#64)] : List (BitVec 64 × BitVec 64))) H50 sli92 zer38 (Nat.le_of_ble_eq_true rfl) (ps := [(0, .agg (cel E64 ([1#64, 0#64])).toArray), (1, .agg (cel E64 ([1#64, 0#64])).toArray)]) rfl (by exact fillAll rfl rfl) rfl ?_
  intro b52 w54 hS53 H55 hE56
  refine sq (r_move (v := .slice (ownA k38) (((gS lhash (1#64, 0#64) (0#64) ([⟨(2 : Int), (0 : Int), (1 : Int)⟩] : List Gt) (List.replicate 2 lb0) 1).2).length) c39) rfl) ?_
  refine c_call (vs := [.agg #[i64 ((2 : Int)), .slice (ownA (some b1)) 1 1, .slice (ownA (some b6)) 1 1], .slice (ownA (some b52)) 2 2, .slice (ownA k38) (((gS lhash (1#64, 0#64) (0#64) ([⟨(2 : Int), (0 : Int), (1 : Int)⟩] : List Gt) (List.replicate 2 lb0) 1).2).length) c39, u64 (0#64)]) call46 rfl (eval_ok (2 : Int) ([⟨(2 : Int), (0 : Int), (1 : Int)⟩] : List Gt) ([(2 : Int)]) (ownA (some b1)) (ownA (some b6)) 1 1 ([(1#64, 0#64), (1#64, 0#64)] : List (BitVec 64 × BitVec 64)) ((gS lhash (1#64, 0#64) (0#64) ([⟨(2 : Int), (0 : Int), (1 : Int)⟩] : List Gt) (List.replicate 2 lb0) 1).2) (ownA (some b52)) (ownA k38) 2 c39 (0#64) w54 (Chg.gl H55.chg (fun x => x) hG) (H55.rd (k := 7) rfl hS2) (H55.rd (k := 6) rfl hS7) (by first | omega | exact Nat.le_of_ble_eq_true rfl) (by first | omega | exact Nat.le_of_ble_eq_true rfl) (H55.rd (k := 0) rfl hS53) (H55.rd (k := 1) rfl hS44) aw_is rfl rfl) ?_
  rintro _ w57 ⟨k59, c60, z61, rfl, hS62, HN63⟩
  have H64 := (H55.join HN63).as (L' := [(k59, sob ELb 38 (oL (eS lhash (0#64) ([⟨(2 : Int), (0 : Int), (1 : Int)⟩] : List Gt) ((gS lhash (1#64, 0#64) (0#64) ([⟨(2 : Int), (0 : Int), (1 : Int)⟩] : List Gt) (List.replicate 2 lb0) 1).2) ([(1#64, 0#64), (1#64, 0#64)] : List (BitVec 64 × BitVec 64)) 1).1 ([(2 : Int)]) 1) z61), ((some b52), sob ELb 38 ([(1#64, 0#64), (1#64, 0#64)] : List (BitVec 64 × BitVec 64)) ([])), (k38, sob ELb 38 ((gS lhash (1#64, 0#64) (0#64) ([⟨(2 : Int), (0 : Int), (1 : Int)⟩] : List Gt) (List.replicate 2 lb0) 1).2) z40), (k41, sob ELb 38 (oL (gS lhash (1#64, 0#64) (0#64) ([⟨(2 : Int), (0 : Int), (1 : Int)⟩] : List Gt) (List.replicate 2 lb0) 1).1 ([(2 : Int)]) 1) z43), ((some b28), sob ELb 38 (List.replicate 2 lb0) (cel ELb (List.replicate (2 - 2) lb0))), (some b18, .cells (cel E64 ([1#64, 0#64])).toArray 38 (0, 0)), (some b11, .cells #[i64 ((2 : Int)), .slice (ownA (some b1)) 1 1, .slice (ownA (some b6)) 1 1] 70 (0, 0)), ((some b6), sob EI 3 ([(2 : Int)]) ([])), ((some b1), sob EG 99 ([⟨(2 : Int), (0 : Int), (1 : Int)⟩] : List Gt) ([]))]) rfl
  refine sq (r_move (v := .tuple #[.slice (ownA k59) 1 c60, .nilIface]) rfl) ?_
  refine sq (r_extract (vs := #[.slice (ownA k59) 1 c60, .nilIface]) rfl rfl) ?_
  refine sq (r_extract (vs := #[.slice (ownA k59) 1 c60, .nilIface]) rfl rfl) ?_
  refine sq (r_assign (v := .slice (ownA k59) 1 c60) rfl) ?_
  refine sq (r_assign (v := .nilIface) rfl) ?_
  refine wend ?_
  refine seqAny ?_
  refine drawC (m := 11) [0, 0, 0, 7, 15, 31, 31, 31, 63, 383, 1023] [2, 3] (fun q vs w' => match q, vs with | 0, [] => Ext w57 w' ∧ Hp No w w' [(k59, sob ELb 38 (oL (eS lhash (0#64) ([⟨(2 : Int), (0 : Int), (1 : Int)⟩] : List Gt) ((gS lhash (1#64, 0#64) (0#64) ([⟨(2 : Int), (0 : Int), (1 : Int)⟩] : List Gt) (List.replicate 2 lb0) 1).2) ([(1#64, 0#64), (1#64, 0#64)] : List (BitVec 64 × BitVec 64)) 1).1 ([(2 : Int)]) 1) z61), ((some b52), sob ELb 38 ([(1#64, 0#64), (1#64, 0#64)] : List (BitVec 64 × BitVec 64)) ([])), (k38, sob ELb 38 ((gS lhash (1#64, 0#64) (0#64) ([⟨(2 : Int), (0 : Int), (1 : Int)⟩] : List Gt) (List.replicate 2 lb0) 1).2) z40), (k41, sob ELb 38 (oL (gS lhash (1#64, 0#64) (0#64) ([⟨(2 : Int), (0 : Int), (1 : Int)⟩] : List Gt) (List.replicate 2 lb0) 1).1 ([(2 : Int)]) 1) z43), ((some b28), sob ELb 38 (List.replicate 2 lb0) (cel ELb (List.replicate (2 - 2) lb0))), (some b18, .cells (cel E64 ([1#64, 0#64])).toArray 38 (0, 0)), (some b11, .cells #[i64 ((2 : Int)), .slice (ownA (some b1)) 1 1, .slice (ownA (some b6)) 1 1] 70 (0, 0)), ((some b6), sob EI 3 ([(2 : Int)]) ([])), ((some b1), sob EG 99 ([⟨(2 : Int), (0 : Int), (1 : Int)⟩] : List Gt) ([]))] | 1, [v0] => ∃ (b68 : Nat), v0 = .slice (ownA (some b68)) 2 2 ∧ Sl ELb (some b68) (List.replicate 2 lb0) 2 (cel ELb (List.replicate (2 - 2) lb0)) ∧ Ext w57 w' ∧ Hp No w w' [((some b68), sob ELb 38 (List.replicate 2 lb0) (cel ELb (List.replicate (2 - 2) lb0))), (k59, sob ELb 38 (oL (eS lhash (0#64) ([⟨(2 : Int), (0 : Int), (1 : Int)⟩] : List Gt) ((gS lhash (1#64, 0#64) (0#64) ([⟨(2 : Int), (0 : Int), (1 : Int)⟩] : List Gt) (List.replicate 2 lb0) 1).2) ([(1#64, 0#64), (1#64, 0#64)] : List (BitVec 64 × BitVec 64)) 1).1 ([(2 : Int)]) 1) z61), ((some b52), sob ELb 38 ([(1#64, 0#64), (1#64, 0#64)] : List (BitVec 64 × BitVec 64)) ([])), (k38, sob ELb 38 ((gS lhash (1#64, 0#64) (0#64) ([⟨(2 : Int), (0 : Int), (1 : Int)⟩] : List Gt) (List.replicate 2 lb0) 1).2) z40), (k41, sob ELb 38 (oL (gS lhash (1#64, 0#64) (0#64) ([⟨(2 : Int), (0 : Int), (1 : Int)⟩] : List Gt) (List.replicate 2 lb0) 1).1 ([(2 : Int)]) 1) z43), ((some b28), sob ELb 38 (List.replicate 2 lb0) (cel ELb (List.replicate (2 - 2) lb0))), (some b18, .cells (cel E64 ([1#64, 0#64])).toArray 38 (0, 0)), (some b11, .cells #[i64 ((2 : Int)), .slice (ownA (some b1)) 1 1, .slice (ownA (some b6)) 1 1] 70 (0, 0)), ((some b6), sob EI 3 ([(2 : Int)]) ([])), ((some b1), sob EG 99 ([⟨(2 : Int), (0 : Int), (1 : Int)⟩] : List Gt) ([]))] | 2, [v0, v1] => ∃ (b68 : Nat) (lo84 : Nat) (T82 : TypeId) (x83 : Value), v0 = .slice (ownA (some b68)) 2 2 ∧ v1 = .tuple #[.slice none 0 0, .slice none 0 0, .iface T82 (x83)] ∧ Sl ELb (some b68) (List.replicate 2 lb0) 2 (cel ELb (List.replicate (2 - 2) lb0)) ∧ Er lo84 w' 100 1 (.iface T82 x83) ∧ b18 < lo84 ∧ b11 < lo84 ∧ Ext w57 w' ∧ Hp No w w' [((some b68), sob ELb 38 (List.replicate 2 lb0) (cel ELb (List.replicate (2 - 2) lb0))), (k59, sob ELb 38 (oL (eS lhash (0#64) ([⟨(2 : Int), (0 : Int), (1 : Int)⟩] : List Gt) ((gS lhash (1#64, 0#64) (0#64) ([⟨(2 : Int), (0 : Int), (1 : Int)⟩] : List Gt) (List.replicate 2 lb0) 1).2) ([(1#64, 0#64), (1#64, 0#64)] : List (BitVec 64 × BitVec 64)) 1).1 ([(2 : Int)]) 1) z61), ((some b52), sob ELb 38 ([(1#64, 0#64), (1#64, 0#64)] : List (BitVec 64 × BitVec 64)) ([])), (k38, sob ELb 38 ((gS lhash (1#64, 0#64) (0#64) ([⟨(2 : Int), (0 : Int), (1 : Int)⟩] : List Gt) (List.replicate 2 lb0) 1).2) z40), (k41, sob ELb 38 (oL (gS lhash (1#64, 0#64) (0#64) ([⟨(2 : Int), (0 : Int), (1 : Int)⟩] : List Gt) (List.replicate 2 lb0) 1).1 ([(2 : Int)]) 1) z43), ((some b28), sob ELb 38 (List.replicate 2 lb0) (cel ELb (List.replicate (2 - 2) lb0))), (some b18, .cells (cel E64 ([1#64, 0#64])).toArray 38 (0, 0)), (some b11, .cells #[i64 ((2 : Int)), .slice (ownA (some b1)) 1 1, .slice (ownA (some b6)) 1 1] 70 (0, 0)), ((some b6), sob EI 3 ([(2 : Int)]) ([])), ((some b1), sob EG 99 ([⟨(2 : Int), (0 : Int), (1 : Int)⟩] : List Gt) ([]))] | _, _ => False) mixed (by kernel_rfl) (by kernel_rfl) ⟨Ext.drew _, H64.drew⟩ ?_
  refine WalkC.look rfl (fun _ => .agg #[i64 ((2 : Int)), .slice (ownA (some b1)) 1 1, .slice (ownA (some b6)) 1 1]) (fun _ _ _ => rfl) (fun q r uw hlo hhi hle hF => ?_) ?_
  · skip
    have h1 : 0 ≤ q := Nat.zero_le _
    have h2 : q ≤ 1 := hhi 1 3 rfl rfl
    rcases (show q = 0 ∨ q = 1 by omega) with rfl | rfl
    · skip
      obtain ⟨hX, HH⟩ := hF
      exact Gives.run rfl (r_loadA (cs' := #[i64 ((2 : Int)), .slice (ownA (some b1)) 1 1, .slice (ownA (some b6)) 1 1]) agg70 siz70 (HH.get (k := 6) rfl) (off := 0) rfl (by exact Nat.le_of_ble_eq_true rfl) (by rfl)) ⟨rfl, rfl⟩
    · skip
      obtain ⟨b68, e2, hS69, hX, HH⟩ := hF
      exact Gives.run rfl (r_loadA (cs' := #[i64 ((2 : Int)), .slice (ownA (some b1)) 1 1, .slice (ownA (some b6)) 1 1]) agg70 siz70 (HH.get (k := 7) rfl) (off := 0) rfl (by exact Nat.le_of_ble_eq_true rfl) (by rfl)) ⟨rfl, rfl⟩
  refine WalkC.look rfl (fun _ => .agg (cel E64 [2#64, 0#64]).toArray) (fun _ _ _ => rfl) (fun q r uw _ _ _ _ => Gives.run rfl (r_buildA (cs' := (cel E64 [2#64, 0#64]).toArray) (ps := [(0, u64 (2#64)), (1, u64 (0#64))]) zer38 arr38 rfl (by rfl)) ⟨rfl, rfl⟩) ?_
  refine WalkC.eff 0 rfl (fun r uw65 hF67 => ?_) ?_
  · skip
    obtain ⟨hX, H66⟩ := hF67
    dsimp only [List.take, List.map, List.cons_append, List.nil_append]
    refine Gives.ofW (d := 48) rfl rfl (fun Q' hK => ?_)
    refine q_makeSlice (E := ELb) (m := 2) (c := 2) (z0 := lb0) H66 sli92 zer38 rfl byt38 rfl rfl (by first | rfl | omega | (simp; omega)) (by first | rfl | omega | (simp; omega)) (by omega) (by omega) ?_
    intro b68 w70 hS69 H71 hE72
    exact hK _ _ ⟨b68, rfl, hS69, (hX.trans hE72), H71⟩
  refine WalkC.eff 1 rfl (fun r uw73 hF75 => ?_) ?_
  · skip
    obtain ⟨b68, e2, hS69, hX, H74⟩ := hF75
    dsimp only [List.take, List.map, List.cons_append, List.nil_append]
    rw [e2]
    refine Gives.ofW (d := 49) rfl rfl (fun Q' hK => ?_)
    have := H74.lt (List.mem_of_getElem? (i := 6) rfl) rfl
    have := H74.lt (List.mem_of_getElem? (i := 7) rfl) rfl
    refine c_call (vs := [.agg #[i64 ((2 : Int)), .slice (ownA (some b1)) 1 1, .slice (ownA (some b6)) 1 1], .agg (cel E64 [2#64, 0#64]).toArray, .slice (ownA (some b68)) 2 2, u64 (0#64)]) call45 rfl (garble_delta (2 : Int) ([⟨(2 : Int), (0 : Int), (1 : Int)⟩] : List Gt) ([(2 : Int)]) (ownA (some b1)) (ownA (some b6)) 1 1 (2#64, 0#64) (List.replicate 2 lb0) (ownA (some b68)) 2 (0#64) uw73 (Chg.gl H74.chg (fun x => x) hG) (H74.rd (k := 9) rfl hS2) (H74.rd (k := 8) rfl hS7) (by first | omega | exact Nat.le_of_ble_eq_true rfl) (by first | omega | exact Nat.le_of_ble_eq_true rfl) (H74.rd (k := 0) rfl hS69) aw_is rfl rfl) ?_
    rintro _ w76 ⟨⟨v78, rfl, hEr79⟩, hE80⟩
    have H81 := H74.ext hE80
    obtain ⟨T82, x83, rfl⟩ := hEr79.iface
    obtain ⟨lo84, hlo85⟩ : ∃ lo, lo = uw73.heap.size := ⟨_, rfl⟩
    rw [← hlo85] at hEr79
    have hlt86 : b18 < lo84 := by omega
    have hlt87 : b11 < lo84 := by omega
    exact hK _ _ ⟨b68, lo84, T82, x83, rfl, rfl, hS69, hEr79, hlt86, hlt87, (hX.trans hE80), H81⟩
  refine WalkC.look rfl (fun r => r 3) (fun r r' h => h 3 (by decide) rfl) (fun q r uw _ _ _ _ => Gives.run rfl (r_move rfl) ⟨rfl, rfl⟩) ?_
  refine WalkC.look rfl (fun r => proj (r 3) 0) (fun r r' h => by rw [h 3 (by decide) rfl]) (fun q r uw hlo hhi hle hF => ?_) ?_
  · skip
    have h1 : 2 ≤ q := hlo 1 3 rfl rfl
    have h2 : q ≤ 2 := hle
    rcases (show q = 2 by omega) with rfl
    · skip
      obtain ⟨b68, lo84, T82, x83, e2, e3, hS69, hEr79, hlt86, hlt87, hX, HH⟩ := hF
      dsimp only
      rw [e3]
      exact Gives.run rfl (r_extract (vs := #[.slice none 0 0, .slice none 0 0, .iface T82 (x83)]) rfl rfl) ⟨rfl, rfl⟩
  refine WalkC.look rfl (fun r => proj (r 3) 1) (fun r r' h => by rw [h 3 (by decide) rfl]) (fun q r uw hlo hhi hle hF => ?_) ?_
  · skip
    have h1 : 2 ≤ q := hlo 1 3 rfl rfl
    have h2 : q ≤ 2 := hle
    rcases (show q = 2 by omega) with rfl
    · skip
      obtain ⟨b68, lo84, T82, x83, e2, e3, hS69, hEr79, hlt86, hlt87, hX, HH⟩ := hF
      dsimp only
      rw [e3]
      exact Gives.run rfl (r_extract (vs := #[.slice none 0 0, .slice none 0 0, .iface T82 (x83)]) rfl rfl) ⟨rfl, rfl⟩
  refine WalkC.look rfl (fun r => proj (r 3) 2) (fun r r' h => by rw [h 3 (by decide) rfl]) (fun q r uw hlo hhi hle hF => ?_) ?_
  · skip
    have h1 : 2 ≤ q := hlo 1 3 rfl rfl
    have h2 : q ≤ 2 := hle
    rcases (show q = 2 by omega) with rfl
    · skip
      obtain ⟨b68, lo84, T82, x83, e2, e3, hS69, hEr79, hlt86, hlt87, hX, HH⟩ := hF
      dsimp only
      rw [e3]
      exact Gives.run rfl (r_extract (vs := #[.slice none 0 0, .slice none 0 0, .iface T82 (x83)]) rfl rfl) ⟨rfl, rfl⟩
  refine WalkC.look rfl (fun r => proj (r 3) 0) (fun r r' h => by rw [h 3 (by decide) rfl]) (fun q r uw _ _ _ _ => Gives.run rfl (r_assign rfl) ⟨rfl, rfl⟩) ?_
  refine WalkC.look rfl (fun r => proj (r 3) 1) (fun r r' h => by rw [h 3 (by decide) rfl]) (fun q r uw _ _ _ _ => Gives.run rfl (r_assign rfl) ⟨rfl, rfl⟩) ?_
  refine WalkC.look rfl (fun r => proj (r 3) 2) (fun r r' h => by rw [h 3 (by decide) rfl]) (fun q r uw _ _ _ _ => Gives.run rfl (r_assign rfl) ⟨rfl, rfl⟩) ?_
  refine WalkC.nil ?_
  intro r88 w89 hF91
  obtain ⟨b68, lo84, T82, x83, e2, e3, hS69, hEr79, hlt86, hlt87, hX, H90⟩ := hF91
  dsimp only
  rw [e2, e3]
  refine wnil ?_
  refine thenNormal ?_
  refine seqAny ?_
  refine drawAny (K := [none, none, none, none, none, none, none, none, none, none, none, none, none, none, none, none, none, none, none, none, none, none, none]) [0, 1, 3, 7, 15, 31, 63, 127, 255, 511, 1023, 255, 2303, 6399, 255, 30975, 65535, 131071, 262143, 524287, 1048575, 2097151, 4194303] (fun w' => Ext w89 w') (fun w' w'' => Ext w' w'') mixed (by kernel_rfl) (Ext.drew _) (fun _ _ h h' => h.trans h') ?_ ?_
  · exact relNone (by decide)
  refine ⟨.nilIface, fun _ uw92 hC93 _ => Gives.run rfl (r_move (v := .nilIface) rfl) ⟨rfl, Chg.refl _ _⟩, ?_⟩
  refine ⟨.bool (true), fun _ uw94 hC95 _ => Gives.run rfl (r_eqlNN isI27 rfl rfl) ⟨rfl, Chg.refl _ _⟩, ?_⟩
  refine ⟨.bool (true), fun _ uw96 hC97 _ => Gives.run rfl (r_move (v := .bool (true)) rfl) ⟨rfl, Chg.refl _ _⟩, ?_⟩
  refine ⟨.slice (ownA k59) 1 c60, fun _ uw98 hC99 _ => Gives.runW (wantedSome (d' := 55) (b := true) rfl rfl rfl) (r_move (v := .slice (ownA k59) 1 c60) rfl) ⟨rfl, Chg.refl _ _⟩, ?_⟩
  refine ⟨i64 ((1 : Nat)), fun _ uw100 hC101 _ => Gives.runW (wantedSome (d' := 55) (b := true) rfl rfl rfl) (r_lenS sli92 (a := ownA k59) (m := 1) (c := c60) rfl) ⟨rfl, Chg.refl _ _⟩, ?_⟩
  refine ⟨.bool (true), fun _ uw102 hC103 _ => Gives.runW (wantedSome (d' := 55) (b := true) rfl rfl rfl) ((r_eqlI (a := (1 : Nat)) (b := (1 : Int)) rfl rfl).as (v' := .bool (true)) (by rfl)) ⟨rfl, Chg.refl _ _⟩, ?_⟩
  refine ⟨.bool (true), fun _ uw104 hC105 _ => Gives.run rfl (r_pickT (u := .bool (true)) rfl rfl) ⟨rfl, Chg.refl _ _⟩, ?_⟩
  refine ⟨.bool (true), fun _ uw106 hC107 _ => Gives.run rfl (r_move (v := .bool (true)) rfl) ⟨rfl, Chg.refl _ _⟩, ?_⟩
  refine ⟨.slice (ownA k59) 1 c60, fun _ uw108 hC109 _ => Gives.runW (wantedSome (d' := 60) (b := true) rfl rfl rfl) (r_move (v := .slice (ownA k59) 1 c60) rfl) ⟨rfl, Chg.refl _ _⟩, ?_⟩
  refine ⟨.pointer (adr (ownA k59) (0 * 2)), fun _ uw110 hC111 _ => Gives.runW (wantedSome (d' := 60) (b := true) rfl rfl rfl) (r_idxS (E := ELb) (l := oL (eS lhash (0#64) ([⟨(2 : Int), (0 : Int), (1 : Int)⟩] : List Gt) ((gS lhash (1#64, 0#64) (0#64) ([⟨(2 : Int), (0 : Int), (1 : Int)⟩] : List Gt) (List.replicate 2 lb0) 1).2) ([(1#64, 0#64), (1#64, 0#64)] : List (BitVec 64 × BitVec 64)) 1).1 ([(2 : Int)]) 1) (j := 0) sli92 ((H90.ext hC111).rd (k := 1) rfl hS62) rfl rfl (by first | rfl | omega | (simp; omega)) (by exact (oL_len _ _ _).symm) (by rw [oL_len]; decide)) ⟨rfl, Chg.refl _ _⟩, ?_⟩
  refine ⟨.agg (cel E64 [((oL (eS lhash (0#64) ([⟨(2 : Int), (0 : Int), (1 : Int)⟩] : List Gt) ((gS lhash (1#64, 0#64) (0#64) ([⟨(2 : Int), (0 : Int), (1 : Int)⟩] : List Gt) (List.replicate 2 lb0) 1).2) ([(1#64, 0#64), (1#64, 0#64)] : List (BitVec 64 × BitVec 64)) 1).1 ([(2 : Int)]) 1).getD 0 lb0).1, ((oL (eS lhash (0#64) ([⟨(2 : Int), (0 : Int), (1 : Int)⟩] : List Gt) ((gS lhash (1#64, 0#64) (0#64) ([⟨(2 : Int), (0 : Int), (1 : Int)⟩] : List Gt) (List.replicate 2 lb0) 1).2) ([(1#64, 0#64), (1#64, 0#64)] : List (BitVec 64 × BitVec 64)) 1).1 ([(2 : Int)]) 1).getD 0 lb0).2]).toArray, fun _ uw112 hC113 _ => Gives.runW (wantedSome (d' := 60) (b := true) rfl rfl rfl) ((r_ldS (E := ELb) (l := oL (eS lhash (0#64) ([⟨(2 : Int), (0 : Int), (1 : Int)⟩] : List Gt) ((gS lhash (1#64, 0#64) (0#64) ([⟨(2 : Int), (0 : Int), (1 : Int)⟩] : List Gt) (List.replicate 2 lb0) 1).2) ([(1#64, 0#64), (1#64, 0#64)] : List (BitVec 64 × BitVec 64)) 1).1 ([(2 : Int)]) 1) (j := 0) (v := (oL (eS lhash (0#64) ([⟨(2 : Int), (0 : Int), (1 : Int)⟩] : List Gt) ((gS lhash (1#64, 0#64) (0#64) ([⟨(2 : Int), (0 : Int), (1 : Int)⟩] : List Gt) (List.replicate 2 lb0) 1).2) ([(1#64, 0#64), (1#64, 0#64)] : List (BitVec 64 × BitVec 64)) 1).1 ([(2 : Int)]) 1).getD 0 lb0) fits38 ((H90.ext hC113).rd (k := 1) rfl hS62) rfl rfl (at_getD (by rw [oL_len]; decide))).as (v' := .agg (cel E64 [((oL (eS lhash (0#64) ([⟨(2 : Int), (0 : Int), (1 : Int)⟩] : List Gt) ((gS lhash (1#64, 0#64) (0#64) ([⟨(2 : Int), (0 : Int), (1 : Int)⟩] : List Gt) (List.replicate 2 lb0) 1).2) ([(1#64, 0#64), (1#64, 0#64)] : List (BitVec 64 × BitVec 64)) 1).1 ([(2 : Int)]) 1).getD 0 lb0).1, ((oL (eS lhash (0#64) ([⟨(2 : Int), (0 : Int), (1 : Int)⟩] : List Gt) ((gS lhash (1#64, 0#64) (0#64) ([⟨(2 : Int), (0 : Int), (1 : Int)⟩] : List Gt) (List.replicate 2 lb0) 1).2) ([(1#64, 0#64), (1#64, 0#64)] : List (BitVec 64 × BitVec 64)) 1).1 ([(2 : Int)]) 1).getD 0 lb0).2]).toArray) rfl) ⟨rfl, Chg.refl _ _⟩, ?_⟩
  refine ⟨.slice (ownA k41) ((oL (gS lhash (1#64, 0#64) (0#64) ([⟨(2 : Int), (0 : Int), (1 : Int)⟩] : List Gt) (List.replicate 2 lb0) 1).1 ([(2 : Int)]) 1).length) c42, fun _ uw114 hC115 _ => Gives.runW (wantedSome (d' := 60) (b := true) rfl rfl rfl) (r_move (v := .slice (ownA k41) ((oL (gS lhash (1#64, 0#64) (0#64) ([⟨(2 : Int), (0 : Int), (1 : Int)⟩] : List Gt) (List.replicate 2 lb0) 1).1 ([(2 : Int)]) 1).length) c42) rfl) ⟨rfl, Chg.refl _ _⟩, ?_⟩
  refine ⟨.pointer (adr (ownA k41) (0 * 2)), fun _ uw116 hC117 _ => Gives.runW (wantedSome (d' := 60) (b := true) rfl rfl rfl) (r_idxS (E := ELb) (l := oL (gS lhash (1#64, 0#64) (0#64) ([⟨(2 : Int), (0 : Int), (1 : Int)⟩] : List Gt) (List.replicate 2 lb0) 1).1 ([(2 : Int)]) 1) (j := 0) sli92 ((H90.ext hC117).rd (k := 4) rfl hS45) rfl rfl (by first | rfl | omega | (simp; omega)) (by first | rfl | omega | (simp; omega) | (simp at *; omega)) (by rw [oL_len]; decide)) ⟨rfl, Chg.refl _ _⟩, ?_⟩
  refine ⟨.agg (cel E64 [((oL (gS lhash (1#64, 0#64) (0#64) ([⟨(2 : Int), (0 : Int), (1 : Int)⟩] : List Gt) (List.replicate 2 lb0) 1).1 ([(2 : Int)]) 1).getD 0 lb0).1, ((oL (gS lhash (1#64, 0#64) (0#64) ([⟨(2 : Int), (0 : Int), (1 : Int)⟩] : List Gt) (List.replicate 2 lb0) 1).1 ([(2 : Int)]) 1).getD 0 lb0).2]).toArray, fun _ uw118 hC119 _ => Gives.runW (wantedSome (d' := 60) (b := true) rfl rfl rfl) ((r_ldS (E := ELb) (l := oL (gS lhash (1#64, 0#64) (0#64) ([⟨(2 : Int), (0 : Int), (1 : Int)⟩] : List Gt) (List.replicate 2 lb0) 1).1 ([(2 : Int)]) 1) (j := 0) (v := (oL (gS lhash (1#64, 0#64) (0#64) ([⟨(2 : Int), (0 : Int), (1 : Int)⟩] : List Gt) (List.replicate 2 lb0) 1).1 ([(2 : Int)]) 1).getD 0 lb0) fits38 ((H90.ext hC119).rd (k := 4) rfl hS45) rfl rfl (at_getD (by rw [oL_len]; decide))).as (v' := .agg (cel E64 [((oL (gS lhash (1#64, 0#64) (0#64) ([⟨(2 : Int), (0 : Int), (1 : Int)⟩] : List Gt) (List.replicate 2 lb0) 1).1 ([(2 : Int)]) 1).getD 0 lb0).1, ((oL (gS lhash (1#64, 0#64) (0#64) ([⟨(2 : Int), (0 : Int), (1 : Int)⟩] : List Gt) (List.replicate 2 lb0) 1).1 ([(2 : Int)]) 1).getD 0 lb0).2]).toArray) rfl) ⟨rfl, Chg.refl _ _⟩, ?_⟩
  refine ⟨.agg (cel E64 ([1#64, 0#64])).toArray, fun _ uw120 hC121 _ => Gives.runW (wantedSome (d' := 60) (b := true) rfl rfl rfl) (r_loadA (cs' := (cel E64 ([1#64, 0#64])).toArray) agg38 siz38 ((H90.ext hC121).get (k := 6) rfl) (off := 0) rfl (by exact Nat.le_of_ble_eq_true rfl) (by exact ext_all rfl)) ⟨rfl, Chg.refl _ _⟩, ?_⟩
  refine ⟨.agg (cel E64 [(lx ((oL (gS lhash (1#64, 0#64) (0#64) ([⟨(2 : Int), (0 : Int), (1 : Int)⟩] : List Gt) (List.replicate 2 lb0) 1).1 ([(2 : Int)]) 1).getD 0 lb0) (lw true (1#64, 0#64))).1, (lx ((oL (gS lhash (1#64, 0#64) (0#64) ([⟨(2 : Int), (0 : Int), (1 : Int)⟩] : List Gt) (List.replicate 2 lb0) 1).1 ([(2 : Int)]) 1).getD 0 lb0) (lw true (1#64, 0#64))).2]).toArray, fun _ uw122 hC123 _ => Gives.callW (wantedSome (d' := 60) (b := true) rfl rfl rfl) (Enters.callL (vs := [.agg (cel E64 [((oL (gS lhash (1#64, 0#64) (0#64) ([⟨(2 : Int), (0 : Int), (1 : Int)⟩] : List Gt) (List.replicate 2 lb0) 1).1 ([(2 : Int)]) 1).getD 0 lb0).1, ((oL (gS lhash (1#64, 0#64) (0#64) ([⟨(2 : Int), (0 : Int), (1 : Int)⟩] : List Gt) (List.replicate 2 lb0) 1).1 ([(2 : Int)]) 1).getD 0 lb0).2]).toArray, .agg (cel E64 ([1#64, 0#64])).toArray, .bool (true)]) call48 rfl) (label_ok ((oL (gS lhash (1#64, 0#64) (0#64) ([⟨(2 : Int), (0 : Int), (1 : Int)⟩] : List Gt) (List.replicate 2 lb0) 1).1 ([(2 : Int)]) 1).getD 0 lb0) (1#64, 0#64) true uw122), ?_⟩
  refine ⟨.bool (true), fun _ uw124 hC125 _ => Gives.runW (wantedSome (d' := 60) (b := true) rfl rfl rfl) ((r_eqlA (E := E64) (l := [((oL (eS lhash (0#64) ([⟨(2 : Int), (0 : Int), (1 : Int)⟩] : List Gt) ((gS lhash (1#64, 0#64) (0#64) ([⟨(2 : Int), (0 : Int), (1 : Int)⟩] : List Gt) (List.replicate 2 lb0) 1).2) ([(1#64, 0#64), (1#64, 0#64)] : List (BitVec 64 × BitVec 64)) 1).1 ([(2 : Int)]) 1).getD 0 lb0).1, ((oL (eS lhash (0#64) ([⟨(2 : Int), (0 : Int), (1 : Int)⟩] : List Gt) ((gS lhash (1#64, 0#64) (0#64) ([⟨(2 : Int), (0 : Int), (1 : Int)⟩] : List Gt) (List.replicate 2 lb0) 1).2) ([(1#64, 0#64), (1#64, 0#64)] : List (BitVec 64 × BitVec 64)) 1).1 ([(2 : Int)]) 1).getD 0 lb0).2]) (l' := [(lx ((oL (gS lhash (1#64, 0#64) (0#64) ([⟨(2 : Int), (0 : Int), (1 : Int)⟩] : List Gt) (List.replicate 2 lb0) 1).1 ([(2 : Int)]) 1).getD 0 lb0) (lw true (1#64, 0#64))).1, (lx ((oL (gS lhash (1#64, 0#64) (0#64) ([⟨(2 : Int), (0 : Int), (1 : Int)⟩] : List Gt) (List.replicate 2 lb0) 1).1 ([(2 : Int)]) 1).getD 0 lb0) (lw true (1#64, 0#64))).2]) gty38 und38 fits32 (eqAt64 und32) (rfl) (rfl) rfl rfl).as (v' := .bool (true)) (by exact congrArg Value.bool (decide_eq_true (by rw [aw_right])))) ⟨rfl, Chg.refl _ _⟩, ?_⟩
  refine ⟨.bool (true), fun _ uw126 hC127 _ => Gives.run rfl (r_pickT (u := .bool (true)) rfl rfl) ⟨rfl, Chg.refl _ _⟩, ?_⟩
  refine ⟨.bool (true), fun _ uw128 hC129 _ => Gives.run rfl (r_move (v := .bool (true)) rfl) ⟨rfl, Chg.refl _ _⟩, ?_⟩
  refine ⟨.iface T82 (x83), fun _ uw130 hC131 _ => Gives.runW (wantedSome (d' := 71) (b := true) rfl rfl rfl) (r_move (v := .iface T82 (x83)) rfl) ⟨rfl, Chg.refl _ _⟩, ?_⟩
  refine ⟨.bool (true), fun _ uw132 hC133 _ => Gives.callW (wantedSome (d' := 71) (b := true) rfl rfl rfl) (Enters.callL (vs := [.iface T82 (x83), i64 ((100 : Int))]) call24 rfl) (is_ok 100 (100 : Int) 1 (.iface T82 (x83)) lo84 uw132 ((hEr79.ext hC133))), ?_⟩
  refine ⟨.bool (true), fun _ uw134 hC135 _ => Gives.run rfl (r_pickT (u := .bool (true)) rfl rfl) ⟨rfl, Chg.refl _ _⟩, ?_⟩
  refine ⟨.bool (true), fun _ uw136 hC137 _ => Gives.run rfl (r_assign (v := .bool (true)) rfl) ⟨rfl, Chg.refl _ _⟩, ?_⟩
  intro r141 w138 hE140 hF
  have H139 := H90.ext hE140
  refine wnil ?_
  refine thenNormal ?_
  refine retAny ?_
  refine retG (rs := [.tmp 0]) (vs := [.bool (true)]) rfl ⟨⟨rfl, rfl⟩, trivial⟩ ?_
  exact ⟨_, rfl, rfl, H139.chg⟩
end Go.Proofs.YteofdmdpaejgaaaDoor.Gb
