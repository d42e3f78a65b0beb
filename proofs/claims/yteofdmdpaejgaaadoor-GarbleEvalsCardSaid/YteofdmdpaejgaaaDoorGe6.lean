/- What the claim has need of: Garb5, Garb6, Garb7, Garb8, Garb9, Garb10. -/
import Derived.Test.YteofdmdpaejgaaaDoorGe5
namespace Go.Proofs.YteofdmdpaejgaaaDoor.Gb
open Go Go.Proofs.YteofdmdpaejgaaaDoor.Vc Go.Proofs.YteofdmdpaejgaaaDoor.Er Go.Proofs.YteofdmdpaejgaaaDoor.Circ
set_option linter.unusedVariables false
theorem gty38 : Tryd.prog.eqGuardType Tryd.prog.depth 38 = false := by kernel_rfl
theorem und38 : Tryd.prog.underlying 38 = some (.array 2 32) := by kernel_rfl
theorem label_ok (z δ : Lb) (b : Bool) (w : World) : Calls Tryd.prog 48 [.agg (cel E64 [(z).1, (z).2]).toArray, .agg (cel E64 [(δ).1, (δ).2]).toArray, .bool (b)].toArray w (Ret fun v w' => v = .agg (cel E64 [(lx z (lw b δ)).1, (lx z (lw b δ)).2]).toArray ∧ Ext w w') := by
  have H := Hp.start No w
  refine enter (n := 12) Tryd.func48 rfl rfl (Nat.le_of_ble_eq_true rfl) ?_
  refine seqRegion ?_
  refine q_box (v := .agg (cel E64 [(z).1, (z).2]).toArray) (o := .cells (cel E64 ([(z).1, (z).2])).toArray 38 (0, 0)) H rfl (by rfl) ?_
  intro b31 w32 hb31 H33 hE34
  refine q_box (v := .agg (cel E64 [(δ).1, (δ).2]).toArray) (o := .cells (cel E64 ([(δ).1, (δ).2])).toArray 38 (0, 0)) H33 rfl (by rfl) ?_
  intro b35 w36 hb35 H37 hE38
  refine q_alloc (o := .cells (cel E64 ([0#64, 0#64])).toArray 38 (0, 0)) H37 zer38 (by kernel_rfl) ?_
  intro b39 w40 hb39 H41 hE42
  refine wend ?_
  refine seqAny ?_
  refine drawE (m := 6) [0, 0, 0, 6, 15, 31] [5] (fun bs vs w' => match bs, vs with | [false], [_] => Hp No w w' [(some b39, .cells (cel E64 ([0#64, 0#64])).toArray 38 (0, 0)), (some b35, .cells (cel E64 ([(δ).1, (δ).2])).toArray 38 (0, 0)), (some b31, .cells (cel E64 ([(z).1, (z).2])).toArray 38 (0, 0))] | [true], [_] => Hp No w w' [(some b39, .cells (cel E64 ([(lx z (lw b δ)).1, (lx z (lw b δ)).2])).toArray 38 (0, 0)), (some b35, .cells (cel E64 ([(δ).1, (δ).2])).toArray 38 (0, 0)), (some b31, .cells (cel E64 ([(z).1, (z).2])).toArray 38 (0, 0))] | _, _ => False) mixed (by kernel_rfl) (by kernel_rfl) H41.drew ?_
  refine WalkE.look rfl (fun _ => .agg (cel E64 ([(z).1, (z).2])).toArray) (fun _ _ _ => rfl) (fun L r uw0 uw hAn hDn hF hEx => ?_) ?_
  · skip
    have b5 : L 5 = false := hDn 5 (by decide) rfl
    have hb : List.map L [5] = [false] := by simp only [List.map_cons, List.map_nil, b5]
    rw [hb] at hF
    have HH := hF
    replace HH := HH.ext hEx
    exact Gives.run rfl (r_loadA (cs' := (cel E64 ([(z).1, (z).2])).toArray) agg38 siz38 (HH.get (k := 2) rfl) (off := 0) rfl (by exact Nat.le_of_ble_eq_true rfl) (by exact ext_all rfl)) ⟨rfl, rfl⟩
  refine WalkE.look rfl (fun _ => .bool (b)) (fun _ _ _ => rfl) (fun L r _ uw _ _ _ _ => Gives.run rfl (r_move (v := .bool (b)) rfl) ⟨rfl, rfl⟩) ?_
  refine WalkE.look rfl (fun _ => .agg (cel E64 ([(δ).1, (δ).2])).toArray) (fun _ _ _ => rfl) (fun L r uw0 uw hAn hDn hF hEx => ?_) ?_
  · skip
    have b5 : L 5 = false := hDn 5 (by decide) rfl
    have hb : List.map L [5] = [false] := by simp only [List.map_cons, List.map_nil, b5]
    rw [hb] at hF
    have HH := hF
    replace HH := HH.ext hEx
    exact Gives.run rfl (r_loadA (cs' := (cel E64 ([(δ).1, (δ).2])).toArray) agg38 siz38 (HH.get (k := 1) rfl) (off := 0) rfl (by exact Nat.le_of_ble_eq_true rfl) (by exact ext_all rfl)) ⟨rfl, rfl⟩
  refine WalkE.call rfl (fun _ => .agg (cel E64 [(lw b δ).1, (lw b δ).2]).toArray) (fun _ _ _ => rfl) (fun L r uw0 uw hAn hDn hF hEx => ?_) ?_
  · skip
    have b5 : L 5 = false := hDn 5 (by decide) rfl
    have hb : List.map L [5] = [false] := by simp only [List.map_cons, List.map_nil, b5]
    rw [hb] at hF
    have HH := hF
    replace HH := HH.ext hEx
    exact Gives.call rfl (Enters.callL (vs := [.bool (b), .agg (cel E64 ([(δ).1, (δ).2])).toArray]) call89 rfl) (lw_ok b δ uw)
  refine WalkE.call rfl (fun _ => .agg (cel E64 [(lx z (lw b δ)).1, (lx z (lw b δ)).2]).toArray) (fun _ _ _ => rfl) (fun L r uw0 uw hAn hDn hF hEx => ?_) ?_
  · skip
    have b5 : L 5 = false := hDn 5 (by decide) rfl
    have hb : List.map L [5] = [false] := by simp only [List.map_cons, List.map_nil, b5]
    rw [hb] at hF
    have HH := hF
    replace HH := HH.ext hEx
    exact Gives.call rfl (Enters.callL (vs := [.agg (cel E64 ([(z).1, (z).2])).toArray, .agg (cel E64 [(lw b δ).1, (lw b δ).2]).toArray]) call86 rfl) (lxor_ok z (lw b δ) uw)
  refine WalkE.eff 0 rfl (fun L r uw0 uw hLn hAn hDn hF hEx => ?_) ?_
  · skip
    have b5 : L 5 = false := hLn
    have hb : List.map L [5] = [false] := by simp only [List.map_cons, List.map_nil, b5]
    rw [hb] at hF ⊢
    have H47 := hF
    replace H47 := H47.ext hEx
    dsimp only
    refine Gives.ofW0 rfl (fun Q' hK => ?_)
    refine d_store (k := 0) (v := .agg (cel E64 [(lx z (lw b δ)).1, (lx z (lw b δ)).2]).toArray) (cs' := (cel E64 ([(lx z (lw b δ)).1, (lx z (lw b δ)).2])).toArray) H47 rfl rfl rfl siz38 (by exact celSize (by first | rfl | (show _ * 1 = _; omega))) (by exact celOne _) (by rw [List.size_toArray, cel_length]; show _ ≤ _ * 1; first | omega | (simp only [List.length_set]; omega) | exact Nat.le_of_ble_eq_true rfl | (simp <;> omega)) (by exact putAll (by first | rfl | omega | (simp <;> omega))) ?_
    intro w48 H49 hC50
    have H49' := H49.as (L' := [(some b39, .cells (cel E64 ([(lx z (lw b δ)).1, (lx z (lw b δ)).2])).toArray 38 (0, 0)), (some b35, .cells (cel E64 ([(δ).1, (δ).2])).toArray 38 (0, 0)), (some b31, .cells (cel E64 ([(z).1, (z).2])).toArray 38 (0, 0))]) rfl
    clear H49
    exact hK _ (fun _ => (show Hp No w w48 [(some b39, .cells (cel E64 ([(lx z (lw b δ)).1, (lx z (lw b δ)).2])).toArray 38 (0, 0)), (some b35, .cells (cel E64 ([(δ).1, (δ).2])).toArray 38 (0, 0)), (some b31, .cells (cel E64 ([(z).1, (z).2])).toArray 38 (0, 0))] from (((H49'.pull (k := 2) rfl).pull (k := 2) rfl).pull (k := 2) rfl)))
  refine WalkE.nil ?_
  intro r51 uw0 w52 hF hEx
  have H53 := hF
  replace H53 := H53.ext hEx
  dsimp only
  refine wnil ?_
  refine thenNormal ?_
  refine retAny ?_
  refine retG (rs := [.cell 6 38]) (vs := [.agg (cel E64 ([(lx z (lw b δ)).1, (lx z (lw b δ)).2])).toArray]) rfl ⟨r_loadA (cs' := (cel E64 ([(lx z (lw b δ)).1, (lx z (lw b δ)).2])).toArray) agg38 siz38 (H53.get (k := 0) rfl) (off := 0) rfl (by exact Nat.le_of_ble_eq_true rfl) (by exact ext_all rfl), trivial⟩ ?_
  exact ⟨_, rfl, rfl, H53.chg⟩
theorem small_yes (n : Int) (gs : List Gt) (ol : List Int) (ga oa : Option Addr) (gc oc : Nat) (w : World) (h1 : gs.length ≤ 60) (h2 : n ≤ 200) : Calls Tryd.prog 42 [.agg #[i64 (n), .slice ga gs.length gc, .slice oa ol.length oc]].toArray w (Ret fun v w' => v = .bool true ∧ Ext w w') := by
  have H := Hp.start No w
  refine enter (n := 12) Tryd.func42 rfl rfl (Nat.le_of_ble_eq_true rfl) ?_
  refine seqRegion ?_
  refine q_box (v := .agg #[i64 (n), .slice ga gs.length gc, .slice oa ol.length oc]) (o := .cells #[i64 (n), .slice ga gs.length gc, .slice oa ol.length oc] 70 (0, 0)) H rfl (by rfl) ?_
  intro b1 w2 hb1 H3 hE4
  refine sq (r_assign (v := .bool (false)) rfl) ?_
  refine wend ?_
  refine seqRegion ?_
  refine sq (r_fieldAddr (off' := 1) fld70_1 (by decide) (b := b1) (off := 0) rfl (by omega)) ?_
  refine sq (r_loadC (v := .slice ga gs.length gc) one68 (H3.get (k := 0) rfl) (off := 1) rfl (by rfl)) ?_
  refine sq (r_lenS sli68 (a := ga) (m := gs.length) (c := gc) rfl) ?_
  refine sq ((r_leqI (a := (gs.length : Nat)) (b := (60 : Int)) rfl rfl).as (v' := .bool (true)) (by exact congrArg Value.bool (decide_eq_true (by omega)))) ?_
  refine sq (r_move (v := .bool (true)) rfl) ?_
  refine sqAny (v := .pointer (some ⟨b1, 0, none⟩)) (w' := w2) (wantedSome (d' := 7) (b := true) rfl rfl rfl) (r_fieldAddr (off' := 0) fld70_0 (by decide) (b := b1) (off := 0) rfl (by omega)) ?_
  refine sqAny (v := i64 (n)) (w' := w2) (wantedSome (d' := 7) (b := true) rfl rfl rfl) (r_loadC (v := i64 (n)) one3 (H3.get (k := 0) rfl) (off := 0) rfl (by rfl)) ?_
  refine sqAny (v := .bool (true)) (w' := w2) (wantedSome (d' := 7) (b := true) rfl rfl rfl) ((r_leqI (a := n) (b := (200 : Int)) rfl rfl).as (v' := .bool (true)) (by exact congrArg Value.bool (decide_eq_true (by omega)))) ?_
  refine sq (r_pickT (u := .bool (true)) rfl rfl) ?_
  refine sq (r_assign (v := .bool (true)) rfl) ?_
  refine wend ?_
  refine retAny ?_
  refine retG (rs := [.tmp 2]) (vs := [.bool (true)]) rfl ⟨⟨rfl, rfl⟩, trivial⟩ ?_
  exact ⟨_, rfl, rfl, H3.chg⟩
theorem small_no2 (n : Int) (gs : List Gt) (ol : List Int) (ga oa : Option Addr) (gc oc : Nat) (w : World) (h1 : gs.length ≤ 60) (h2 : ¬ n ≤ 200) : Calls Tryd.prog 42 [.agg #[i64 (n), .slice ga gs.length gc, .slice oa ol.length oc]].toArray w (Ret fun v w' => v = .bool false ∧ Ext w w') := by
  have H := Hp.start No w
  refine enter (n := 12) Tryd.func42 rfl rfl (Nat.le_of_ble_eq_true rfl) ?_
  refine seqRegion ?_
  refine q_box (v := .agg #[i64 (n), .slice ga gs.length gc, .slice oa ol.length oc]) (o := .cells #[i64 (n), .slice ga gs.length gc, .slice oa ol.length oc] 70 (0, 0)) H rfl (by rfl) ?_
  intro b1 w2 hb1 H3 hE4
  refine sq (r_assign (v := .bool (false)) rfl) ?_
  refine wend ?_
  refine seqRegion ?_
  refine sq (r_fieldAddr (off' := 1) fld70_1 (by decide) (b := b1) (off := 0) rfl (by omega)) ?_
  refine sq (r_loadC (v := .slice ga gs.length gc) one68 (H3.get (k := 0) rfl) (off := 1) rfl (by rfl)) ?_
  refine sq (r_lenS sli68 (a := ga) (m := gs.length) (c := gc) rfl) ?_
  refine sq ((r_leqI (a := (gs.length : Nat)) (b := (60 : Int)) rfl rfl).as (v' := .bool (true)) (by exact congrArg Value.bool (decide_eq_true (by omega)))) ?_
  refine sq (r_move (v := .bool (true)) rfl) ?_
  refine sqAny (v := .pointer (some ⟨b1, 0, none⟩)) (w' := w2) (wantedSome (d' := 7) (b := true) rfl rfl rfl) (r_fieldAddr (off' := 0) fld70_0 (by decide) (b := b1) (off := 0) rfl (by omega)) ?_
  refine sqAny (v := i64 (n)) (w' := w2) (wantedSome (d' := 7) (b := true) rfl rfl rfl) (r_loadC (v := i64 (n)) one3 (H3.get (k := 0) rfl) (off := 0) rfl (by rfl)) ?_
  refine sqAny (v := .bool (false)) (w' := w2) (wantedSome (d' := 7) (b := true) rfl rfl rfl) ((r_leqI (a := n) (b := (200 : Int)) rfl rfl).as (v' := .bool (false)) (by exact congrArg Value.bool (decide_eq_false (by omega)))) ?_
  refine sq (r_pickT (u := .bool (false)) rfl rfl) ?_
  refine sq (r_assign (v := .bool (false)) rfl) ?_
  refine wend ?_
  refine retAny ?_
  refine retG (rs := [.tmp 2]) (vs := [.bool (false)]) rfl ⟨⟨rfl, rfl⟩, trivial⟩ ?_
  exact ⟨_, rfl, rfl, H3.chg⟩
theorem small_no1 (n : Int) (gs : List Gt) (ol : List Int) (ga oa : Option Addr) (gc oc : Nat) (w : World) (h1 : ¬ gs.length ≤ 60) : Calls Tryd.prog 42 [.agg #[i64 (n), .slice ga gs.length gc, .slice oa ol.length oc]].toArray w (Ret fun v w' => v = .bool false ∧ Ext w w') := by
  have H := Hp.start No w
  refine enter (n := 12) Tryd.func42 rfl rfl (Nat.le_of_ble_eq_true rfl) ?_
  refine seqRegion ?_
  refine q_box (v := .agg #[i64 (n), .slice ga gs.length gc, .slice oa ol.length oc]) (o := .cells #[i64 (n), .slice ga gs.length gc, .slice oa ol.length oc] 70 (0, 0)) H rfl (by rfl) ?_
  intro b1 w2 hb1 H3 hE4
  refine sq (r_assign (v := .bool (false)) rfl) ?_
  refine wend ?_
  refine seqRegion ?_
  refine sq (r_fieldAddr (off' := 1) fld70_1 (by decide) (b := b1) (off := 0) rfl (by omega)) ?_
  refine sq (r_loadC (v := .slice ga gs.length gc) one68 (H3.get (k := 0) rfl) (off := 1) rfl (by rfl)) ?_
  refine sq (r_lenS sli68 (a := ga) (m := gs.length) (c := gc) rfl) ?_
  refine sq ((r_leqI (a := (gs.length : Nat)) (b := (60 : Int)) rfl rfl).as (v' := .bool (false)) (by exact congrArg Value.bool (decide_eq_false (by omega)))) ?_
  refine sq (r_move (v := .bool (false)) rfl) ?_
  refine skAny (wantedSome (d' := 7) (b := false) rfl rfl rfl) ?_
  refine skAny (wantedSome (d' := 7) (b := false) rfl rfl rfl) ?_
  refine skAny (wantedSome (d' := 7) (b := false) rfl rfl rfl) ?_
  refine sq (r_pickF (v := .bool (false)) rfl rfl) ?_
  refine sq (r_assign (v := .bool (false)) rfl) ?_
  refine wend ?_
  refine retAny ?_
  refine retG (rs := [.tmp 2]) (vs := [.bool (false)]) rfl ⟨⟨rfl, rfl⟩, trivial⟩ ?_
  exact ⟨_, rfl, rfl, H3.chg⟩
end Go.Proofs.YteofdmdpaejgaaaDoor.Gb
namespace Go.Proofs.YteofdmdpaejgaaaDoor.Gb
open Go Go.Proofs.YteofdmdpaejgaaaDoor.Vc Go.Proofs.YteofdmdpaejgaaaDoor.Er Go.Proofs.YteofdmdpaejgaaaDoor.Circ
set_option linter.unusedVariables false
theorem call24 : callable Tryd.prog 24 = true := by kernel_rfl
theorem call45 : callable Tryd.prog 45 = true := by kernel_rfl
theorem call46 : callable Tryd.prog 46 = true := by kernel_rfl
theorem call48 : callable Tryd.prog 48 = true := by kernel_rfl
theorem pls70 : pls Tryd.prog 70 = some #[(0, 1), (1, 1), (2, 1)] := by kernel_rfl
theorem pls99 : pls Tryd.prog 99 = some #[(0, 1), (1, 1), (2, 1)] := by kernel_rfl
theorem zer3 : zer Tryd.prog 3 = some (.int .i64 0) := by kernel_rfl
theorem zer70 : zer Tryd.prog 70 = some (.agg #[.int .i64 0, .slice none 0 0, .slice none 0 0]) := by kernel_rfl
set_option maxHeartbeats 1000000 in
theorem gawake_ok (w : World) (hG : Gl w) : Calls Tryd.prog 41 [].toArray w (Ret fun v w' => v = .bool true ∧ Ext w w') := by
  have H := Hp.start No w
  refine enter (n := 75) Tryd.func41 rfl rfl (Nat.le_of_ble_eq_true rfl) ?_
  refine seqRegion ?_
  refine sq (r_assign (v := .bool (false)) rfl) ?_
  refine wend ?_
  refine seqRegion ?_
  refine sq (r_build (cs' := #[i64 ((2 : Int)), i64 ((0 : Int)), i64 ((1 : Int))]) (ps := [(0, i64 ((2 : Int))), (1, i64 ((0 : Int))), (2, i64 ((1 : Int)))]) zer99 pls99 rfl (by rfl)) ?_
  refine q_buildSlice (E := EG) (l := ([⟨(2 : Int), (0 : Int), (1 : Int)⟩] : List Gt)) H sli68 zer99 (Nat.le_of_ble_eq_true rfl) (ps := [(0, .agg #[i64 ((2 : Int)), i64 ((0 : Int)), i64 ((1 : Int))])]) rfl (by exact fillAll rfl rfl) rfl ?_
  intro b1 w3 hS2 H4 hE5
  refine q_buildSlice (E := EI) (l := [(2 : Int)]) H4 sli60 zer3 (Nat.le_of_ble_eq_true rfl) (ps := [(0, i64 ((2 : Int)))]) rfl (by exact fillAll rfl rfl) rfl ?_
  intro b6 w8 hS7 H9 hE10
  refine sq (r_build (cs' := #[i64 ((2 : Int)), .slice (ownA (some b1)) 1 1, .slice (ownA (some b6)) 1 1]) (ps := [(0, i64 ((2 : Int))), (1, .slice (ownA (some b1)) 1 1), (2, .slice (ownA (some b6)) 1 1)]) zer70 pls70 rfl (by rfl)) ?_
  refine q_alloc (o := .cells #[i64 ((0 : Int)), .slice none 0 0, .slice none 0 0] 70 (0, 0)) H9 zer70 (by kernel_rfl) ?_
  intro b11 w12 hb11 H13 hE14
  refine d_store (k := 0) (v := .agg #[i64 ((2 : Int)), .slice (ownA (some b1)) 1 1, .slice (ownA (some b6)) 1 1]) (cs' := #[i64 ((2 : Int)), .slice (ownA (some b1)) 1 1, .slice (ownA (some b6)) 1 1]) H13 rfl rfl rfl siz70 (by rfl) (by intro u hu; simp [Value.cells] at hu; first | (subst hu; rfl) | (rcases hu with rfl | rfl | rfl <;> rfl)) (by exact Nat.le_of_ble_eq_true rfl) (by rfl) ?_
  intro w15 H16 hC17
  have H16' := H16.as (L' := [(some b11, .cells #[i64 ((2 : Int)), .slice (ownA (some b1)) 1 1, .slice (ownA (some b6)) 1 1] 70 (0, 0)), ((some b6), sob EI 3 ([(2 : Int)]) ([])), ((some b1), sob EG 99 ([⟨(2 : Int), (0 : Int), (1 : Int)⟩] : List Gt) ([]))]) rfl
  clear H16
  refine wend ?_
  refine seqRegion ?_
  refine sq (r_buildA (cs' := (cel E64 [1#64, 0#64]).toArray) (ps := [(0, u64 (1#64)), (1, u64 (0#64))]) zer38 arr38 rfl (by rfl)) ?_
  refine q_alloc (o := .cells (cel E64 ([0#64, 0#64])).toArray 38 (0, 0)) H16' zer38 (by kernel_rfl) ?_
  intro b18 w19 hb18 H20 hE21
  refine d_store (k := 0) (v := .agg (cel E64 [1#64, 0#64]).toArray) (cs' := (cel E64 ([1#64, 0#64])).toArray) H20 rfl rfl rfl siz38 (by exact celSize (by first | rfl | (show _ * 1 = _; omega))) (by exact celOne _) (by rw [List.size_toArray, cel_length]; show _ ≤ _ * 1; first | omega | (simp only [List.length_set]; omega) | exact Nat.le_of_ble_eq_true rfl | (simp <;> omega)) (by exact putAll (by first | rfl | omega | (simp <;> omega))) ?_
  intro w22 H23 hC24
  have H23' := H23.as (L' := [(some b18, .cells (cel E64 ([1#64, 0#64])).toArray 38 (0, 0)), (some b11, .cells #[i64 ((2 : Int)), .slice (ownA (some b1)) 1 1, .slice (ownA (some b6)) 1 1] 70 (0, 0)), ((some b6), sob EI 3 ([(2 : Int)]) ([])), ((some b1), sob EG 99 ([⟨(2 : Int), (0 : Int), (1 : Int)⟩] : List Gt) ([]))]) rfl
  clear H23
  refine wend ?_
  refine seqAny ?_
  refine drawC (m := 11) [0, 0, 0, 7, 15, 31, 31, 31, 63, 383, 1023] [2, 3] (fun q vs w' => match q, vs with | 0, [] => Ext w22 w' ∧ Hp No w w' [(some b18, .cells (cel E64 ([1#64, 0#64])).toArray 38 (0, 0)), (some b11, .cells #[i64 ((2 : Int)), .slice (ownA (some b1)) 1 1, .slice (ownA (some b6)) 1 1] 70 (0, 0)), ((some b6), sob EI 3 ([(2 : Int)]) ([])), ((some b1), sob EG 99 ([⟨(2 : Int), (0 : Int), (1 : Int)⟩] : List Gt) ([]))] | 1, [v0] => ∃ (b28 : Nat), v0 = .slice (ownA (some b28)) 2 2 ∧ Sl ELb (some b28) (List.replicate 2 lb0) 2 (cel ELb (List.replicate (2 - 2) lb0)) ∧ Ext w22 w' ∧ Hp No w w' [((some b28), sob ELb 38 (List.replicate 2 lb0) (cel ELb (List.replicate (2 - 2) lb0))), (some b18, .cells (cel E64 ([1#64, 0#64])).toArray 38 (0, 0)), (some b11, .cells #[i64 ((2 : Int)), .slice (ownA (some b1)) 1 1, .slice (ownA (some b6)) 1 1] 70 (0, 0)), ((some b6), sob EI 3 ([(2 : Int)]) ([])), ((some b1), sob EG 99 ([⟨(2 : Int), (0 : Int), (1 : Int)⟩] : List Gt) ([]))] | 2, [v0, v1] => ∃ (b28 : Nat) (k38 : Option Nat) (c39 : Nat) (z40 : List Value) (k41 : Option Nat) (c42 : Nat) (z43 : List Value), v0 = .slice (ownA (some b28)) 2 2 ∧ v1 = .tuple #[.slice (ownA k38) (((gS lhash (1#64, 0#64) (0#64) ([⟨(2 : Int), (0 : Int), (1 : Int)⟩] : List Gt) (List.replicate 2 lb0) 1).2).length) c39, .slice (ownA k41) ((oL (gS lhash (1#64, 0#64) (0#64) ([⟨(2 : Int), (0 : Int), (1 : Int)⟩] : List Gt) (List.replicate 2 lb0) 1).1 ([(2 : Int)]) 1).length) c42, .nilIface] ∧ Sl ELb k38 ((gS lhash (1#64, 0#64) (0#64) ([⟨(2 : Int), (0 : Int), (1 : Int)⟩] : List Gt) (List.replicate 2 lb0) 1).2) c39 z40 ∧ Sl ELb k41 (oL (gS lhash (1#64, 0#64) (0#64) ([⟨(2 : Int), (0 : Int), (1 : Int)⟩] : List Gt) (List.replicate 2 lb0) 1).1 ([(2 : Int)]) 1) c42 z43 ∧ Sl ELb (some b28) (List.replicate 2 lb0) 2 (cel ELb (List.replicate (2 - 2) lb0)) ∧ Ext w22 w' ∧ Hp No w w' [(k38, sob ELb 38 ((gS lhash (1#64, 0#64) (0#64) ([⟨(2 : Int), (0 : Int), (1 : Int)⟩] : List Gt) (List.replicate 2 lb0) 1).2) z40), (k41, sob ELb 38 (oL (gS lhash (1#64, 0#64) (0#64) ([⟨(2 : Int), (0 : Int), (1 : Int)⟩] : List Gt) (List.replicate 2 lb0) 1).1 ([(2 : Int)]) 1) z43), ((some b28), sob ELb 38 (List.replicate 2 lb0) (cel ELb (List.replicate (2 - 2) lb0))), (some b18, .cells (cel E64 ([1#64, 0#64])).toArray 38 (0, 0)), (some b11, .cells #[i64 ((2 : Int)), .slice (ownA (some b1)) 1 1, .slice (ownA (some b6)) 1 1] 70 (0, 0)), ((some b6), sob EI 3 ([(2 : Int)]) ([])), ((some b1), sob EG 99 ([⟨(2 : Int), (0 : Int), (1 : Int)⟩] : List Gt) ([]))] | _, _ => False) mixed (by kernel_rfl) (by kernel_rfl) ⟨Ext.drew _, H23'.drew⟩ ?_
  refine WalkC.look rfl (fun _ => .agg #[i64 ((2 : Int)), .slice (ownA (some b1)) 1 1, .slice (ownA (some b6)) 1 1]) (fun _ _ _ => rfl) (fun q r uw hlo hhi hle hF => ?_) ?_
  · skip
    have h1 : 0 ≤ q := Nat.zero_le _
    have h2 : q ≤ 1 := hhi 1 3 rfl rfl
    rcases (show q = 0 ∨ q = 1 by omega) with rfl | rfl
    · skip
      obtain ⟨hX, HH⟩ := hF
      exact Gives.run rfl (r_loadA (cs' := #[i64 ((2 : Int)), .slice (ownA (some b1)) 1 1, .slice (ownA (some b6)) 1 1]) agg70 siz70 (HH.get (k := 1) rfl) (off := 0) rfl (by exact Nat.le_of_ble_eq_true rfl) (by rfl)) ⟨rfl, rfl⟩
    · skip
      obtain ⟨b28, e2, hS29, hX, HH⟩ := hF
      exact Gives.run rfl (r_loadA (cs' := #[i64 ((2 : Int)), .slice (ownA (some b1)) 1 1, .slice (ownA (some b6)) 1 1]) agg70 siz70 (HH.get (k := 2) rfl) (off := 0) rfl (by exact Nat.le_of_ble_eq_true rfl) (by rfl)) ⟨rfl, rfl⟩
  refine WalkC.look rfl (fun _ => .agg (cel E64 ([1#64, 0#64])).toArray) (fun _ _ _ => rfl) (fun q r uw hlo hhi hle hF => ?_) ?_
  · skip
    have h1 : 0 ≤ q := Nat.zero_le _
    have h2 : q ≤ 1 := hhi 1 3 rfl rfl
    rcases (show q = 0 ∨ q = 1 by omega) with rfl | rfl
    · skip
      obtain ⟨hX, HH⟩ := hF
      exact Gives.run rfl (r_loadA (cs' := (cel E64 ([1#64, 0#64])).toArray) agg38 siz38 (HH.get (k := 0) rfl) (off := 0) rfl (by exact Nat.le_of_ble_eq_true rfl) (by exact ext_all rfl)) ⟨rfl, rfl⟩
    · skip
      obtain ⟨b28, e2, hS29, hX, HH⟩ := hF
      exact Gives.run rfl (r_loadA (cs' := (cel E64 ([1#64, 0#64])).toArray) agg38 siz38 (HH.get (k := 1) rfl) (off := 0) rfl (by exact Nat.le_of_ble_eq_true rfl) (by exact ext_all rfl)) ⟨rfl, rfl⟩
  refine WalkC.eff 0 rfl (fun r uw25 hF27 => ?_) ?_
  · skip
    obtain ⟨hX, H26⟩ := hF27
    dsimp only [List.take, List.map, List.cons_append, List.nil_append]
    refine Gives.ofW (d := 19) rfl rfl (fun Q' hK => ?_)
    refine q_makeSlice (E := ELb) (m := 2) (c := 2) (z0 := lb0) H26 sli92 zer38 rfl byt38 rfl rfl (by first | rfl | omega | (simp; omega)) (by first | rfl | omega | (simp; omega)) (by omega) (by omega) ?_
    intro b28 w30 hS29 H31 hE32
    exact hK _ _ ⟨b28, rfl, hS29, (hX.trans hE32), H31⟩
  refine WalkC.eff 1 rfl (fun r uw33 hF35 => ?_) ?_
  · skip
    obtain ⟨b28, e2, hS29, hX, H34⟩ := hF35
    dsimp only [List.take, List.map, List.cons_append, List.nil_append]
    rw [e2]
    refine Gives.ofW (d := 20) rfl rfl (fun Q' hK => ?_)
    refine c_call (vs := [.agg #[i64 ((2 : Int)), .slice (ownA (some b1)) 1 1, .slice (ownA (some b6)) 1 1], .agg (cel E64 ([1#64, 0#64])).toArray, .slice (ownA (some b28)) 2 2, u64 (0#64)]) call45 rfl (garble_ok (2 : Int) ([⟨(2 : Int), (0 : Int), (1 : Int)⟩] : List Gt) ([(2 : Int)]) (ownA (some b1)) (ownA (some b6)) 1 1 (1#64, 0#64) (List.replicate 2 lb0) (ownA (some b28)) 2 (0#64) uw33 (Chg.gl H34.chg (fun x => x) hG) (H34.rd (k := 4) rfl hS2) (H34.rd (k := 3) rfl hS7) (by first | omega | exact Nat.le_of_ble_eq_true rfl) (by first | omega | exact Nat.le_of_ble_eq_true rfl) (H34.rd (k := 0) rfl hS29) aw_is rfl rfl) ?_
    rintro _ w36 ⟨k38, c39, z40, k41, c42, z43, rfl, hS44, hS45, HN46⟩
    have H47 := (H34.join HN46).as (L' := [(k38, sob ELb 38 ((gS lhash (1#64, 0#64) (0#64) ([⟨(2 : Int), (0 : Int), (1 : Int)⟩] : List Gt) (List.replicate 2 lb0) 1).2) z40), (k41, sob ELb 38 (oL (gS lhash (1#64, 0#64) (0#64) ([⟨(2 : Int), (0 : Int), (1 : Int)⟩] : List Gt) (List.replicate 2 lb0) 1).1 ([(2 : Int)]) 1) z43), ((some b28), sob ELb 38 (List.replicate 2 lb0) (cel ELb (List.replicate (2 - 2) lb0))), (some b18, .cells (cel E64 ([1#64, 0#64])).toArray 38 (0, 0)), (some b11, .cells #[i64 ((2 : Int)), .slice (ownA (some b1)) 1 1, .slice (ownA (some b6)) 1 1] 70 (0, 0)), ((some b6), sob EI 3 ([(2 : Int)]) ([])), ((some b1), sob EG 99 ([⟨(2 : Int), (0 : Int), (1 : Int)⟩] : List Gt) ([]))]) rfl
    exact hK _ _ ⟨b28, k38, c39, z40, k41, c42, z43, rfl, rfl, hS44, hS45, hS29, (hX.trans HN46.chg), H47⟩
  refine WalkC.look rfl (fun r => r 3) (fun r r' h => h 3 (by decide) rfl) (fun q r uw _ _ _ _ => Gives.run rfl (r_move rfl) ⟨rfl, rfl⟩) ?_
  refine WalkC.look rfl (fun r => proj (r 3) 0) (fun r r' h => by rw [h 3 (by decide) rfl]) (fun q r uw hlo hhi hle hF => ?_) ?_
  · skip
    have h1 : 2 ≤ q := hlo 1 3 rfl rfl
    have h2 : q ≤ 2 := hle
    rcases (show q = 2 by omega) with rfl
    · skip
      obtain ⟨b28, k38, c39, z40, k41, c42, z43, e2, e3, hS44, hS45, hS29, hX, HH⟩ := hF
      dsimp only
      rw [e3]
      exact Gives.run rfl (r_extract (vs := #[.slice (ownA k38) (((gS lhash (1#64, 0#64) (0#64) ([⟨(2 : Int), (0 : Int), (1 : Int)⟩] : List Gt) (List.replicate 2 lb0) 1).2).length) c39, .slice (ownA k41) ((oL (gS lhash (1#64, 0#64) (0#64) ([⟨(2 : Int), (0 : Int), (1 : Int)⟩] : List Gt) (List.replicate 2 lb0) 1).1 ([(2 : Int)]) 1).length) c42, .nilIface]) rfl rfl) ⟨rfl, rfl⟩
  refine WalkC.look rfl (fun r => proj (r 3) 1) (fun r r' h => by rw [h 3 (by decide) rfl]) (fun q r uw hlo hhi hle hF => ?_) ?_
  · skip
    have h1 : 2 ≤ q := hlo 1 3 rfl rfl
    have h2 : q ≤ 2 := hle
    rcases (show q = 2 by omega) with rfl
    · skip
      obtain ⟨b28, k38, c39, z40, k41, c42, z43, e2, e3, hS44, hS45, hS29, hX, HH⟩ := hF
      dsimp only
      rw [e3]
      exact Gives.run rfl (r_extract (vs := #[.slice (ownA k38) (((gS lhash (1#64, 0#64) (0#64) ([⟨(2 : Int), (0 : Int), (1 : Int)⟩] : List Gt) (List.replicate 2 lb0) 1).2).length) c39, .slice (ownA k41) ((oL (gS lhash (1#64, 0#64) (0#64) ([⟨(2 : Int), (0 : Int), (1 : Int)⟩] : List Gt) (List.replicate 2 lb0) 1).1 ([(2 : Int)]) 1).length) c42, .nilIface]) rfl rfl) ⟨rfl, rfl⟩
  refine WalkC.look rfl (fun r => proj (r 3) 2) (fun r r' h => by rw [h 3 (by decide) rfl]) (fun q r uw hlo hhi hle hF => ?_) ?_
  · skip
    have h1 : 2 ≤ q := hlo 1 3 rfl rfl
    have h2 : q ≤ 2 := hle
    rcases (show q = 2 by omega) with rfl
    · skip
      obtain ⟨b28, k38, c39, z40, k41, c42, z43, e2, e3, hS44, hS45, hS29, hX, HH⟩ := hF
      dsimp only
      rw [e3]
      exact Gives.run rfl (r_extract (vs := #[.slice (ownA k38) (((gS lhash (1#64, 0#64) (0#64) ([⟨(2 : Int), (0 : Int), (1 : Int)⟩] : List Gt) (List.replicate 2 lb0) 1).2).length) c39, .slice (ownA k41) ((oL (gS lhash (1#64, 0#64) (0#64) ([⟨(2 : Int), (0 : Int), (1 : Int)⟩] : List Gt) (List.replicate 2 lb0) 1).1 ([(2 : Int)]) 1).length) c42, .nilIface]) rfl rfl) ⟨rfl, rfl⟩
  refine WalkC.look rfl (fun r => proj (r 3) 0) (fun r r' h => by rw [h 3 (by decide) rfl]) (fun q r uw _ _ _ _ => Gives.run rfl (r_assign rfl) ⟨rfl, rfl⟩) ?_
  refine WalkC.look rfl (fun r => proj (r 3) 1) (fun r r' h => by rw [h 3 (by decide) rfl]) (fun q r uw _ _ _ _ => Gives.run rfl (r_assign rfl) ⟨rfl, rfl⟩) ?_
  refine WalkC.look rfl (fun r => proj (r 3) 2) (fun r r' h => by rw [h 3 (by decide) rfl]) (fun q r uw _ _ _ _ => Gives.run rfl (r_assign rfl) ⟨rfl, rfl⟩) ?_
  refine WalkC.nil ?_
  intro r48 w49 hF51
  obtain ⟨b28, k38, c39, z40, k41, c42, z43, e2, e3, hS44, hS45, hS29, hX, H50⟩ := hF51
  dsimp only
  rw [e2, e3]
  refine wnil ?_
  refine thenNormal ?_
  refine seqAny ?_
  refine seqRegion ?_
  refine sq (r_move (v := .nilIface) rfl) ?_
  refine sq (r_neqNN isI27 rfl rfl) ?_
  refine sq (r_move (v := .bool (false)) rfl) ?_
  refine sqAny (v := .slice (ownA k38) (((gS lhash (1#64, 0#64) (0#64) ([⟨(2 : Int), (0 : Int), (1 : Int)⟩] : List Gt) (List.replicate 2 lb0) 1).2).length) c39) (w' := w49) (wantedSome (d' := 26) (b := false) rfl rfl rfl) (r_move (v := .slice (ownA k38) (((gS lhash (1#64, 0#64) (0#64) ([⟨(2 : Int), (0 : Int), (1 : Int)⟩] : List Gt) (List.replicate 2 lb0) 1).2).length) c39) rfl) ?_
  refine sqAny (v := i64 ((((gS lhash (1#64, 0#64) (0#64) ([⟨(2 : Int), (0 : Int), (1 : Int)⟩] : List Gt) (List.replicate 2 lb0) 1).2).length : Nat))) (w' := w49) (wantedSome (d' := 26) (b := false) rfl rfl rfl) (r_lenS sli92 (a := ownA k38) (m := ((gS lhash (1#64, 0#64) (0#64) ([⟨(2 : Int), (0 : Int), (1 : Int)⟩] : List Gt) (List.replicate 2 lb0) 1).2).length) (c := c39) rfl) ?_
  refine sqAny (v := .bool (false)) (w' := w49) (wantedSome (d' := 26) (b := false) rfl rfl rfl) ((r_neqI (a := (((gS lhash (1#64, 0#64) (0#64) ([⟨(2 : Int), (0 : Int), (1 : Int)⟩] : List Gt) (List.replicate 2 lb0) 1).2).length : Nat)) (b := (2 : Int)) rfl rfl).as (v' := .bool (false)) (by rfl)) ?_
  refine sq (r_pickF (v := .bool (false)) rfl rfl) ?_
  refine sq (r_move (v := .bool (false)) rfl) ?_
  refine sqAny (v := .slice (ownA k41) ((oL (gS lhash (1#64, 0#64) (0#64) ([⟨(2 : Int), (0 : Int), (1 : Int)⟩] : List Gt) (List.replicate 2 lb0) 1).1 ([(2 : Int)]) 1).length) c42) (w' := w49) (wantedSome (d' := 31) (b := false) rfl rfl rfl) (r_move (v := .slice (ownA k41) ((oL (gS lhash (1#64, 0#64) (0#64) ([⟨(2 : Int), (0 : Int), (1 : Int)⟩] : List Gt) (List.replicate 2 lb0) 1).1 ([(2 : Int)]) 1).length) c42) rfl) ?_
  refine sqAny (v := i64 (((oL (gS lhash (1#64, 0#64) (0#64) ([⟨(2 : Int), (0 : Int), (1 : Int)⟩] : List Gt) (List.replicate 2 lb0) 1).1 ([(2 : Int)]) 1).length : Nat))) (w' := w49) (wantedSome (d' := 31) (b := false) rfl rfl rfl) (r_lenS sli92 (a := ownA k41) (m := (oL (gS lhash (1#64, 0#64) (0#64) ([⟨(2 : Int), (0 : Int), (1 : Int)⟩] : List Gt) (List.replicate 2 lb0) 1).1 ([(2 : Int)]) 1).length) (c := c42) rfl) ?_
  refine sqAny (v := .bool (false)) (w' := w49) (wantedSome (d' := 31) (b := false) rfl rfl rfl) ((r_neqI (a := ((oL (gS lhash (1#64, 0#64) (0#64) ([⟨(2 : Int), (0 : Int), (1 : Int)⟩] : List Gt) (List.replicate 2 lb0) 1).1 ([(2 : Int)]) 1).length : Nat)) (b := (1 : Int)) rfl rfl).as (v' := .bool (false)) (by rfl)) ?_
  refine sq (r_pickF (v := .bool (false)) rfl rfl) ?_
  refine wend ?_
  refine condFalse rfl ?_
  refine skipAny ?_
  refine thenNormal ?_
  refine seqRegion ?_
  refine sq (r_loadA (cs' := #[i64 ((2 : Int)), .slice (ownA (some b1)) 1 1, .slice (ownA (some b6)) 1 1]) agg70 siz70 (H50.get (k := 4) rfl) (off := 0) rfl (by exact Nat.le_of_ble_eq_true rfl) (by rfl)) ?_
  refine sq (r_loadA (cs' := (cel E64 ([1#64, 0#64])).toArray) agg38 siz38 (H50.get (k := 3) rfl) (off := 0) rfl (by exact Nat.le_of_ble_eq_true rfl) (by exact ext_all rfl)) ?_
  refine sq (r_loadA (cs' := (cel E64 ([1#64, 0#64])).toArray) agg38 siz38 (H50.get (k := 3) rfl) (off := 0) rfl (by exact Nat.le_of_ble_eq_true rfl) (by exact ext_all rfl)) ?_
  refine q_buildSlice (E := ELb) (l := ([(1#64, 0#64), (1#64, 0#64)] : List (BitVec 64 × BitVec 64))) H50 sli92 zer38 (Nat.le_of_ble_eq_true rfl) (ps := [(0, .agg (cel E64 ([1#64, 0#64])).toArray), (1, .agg (cel E64 ([1#64, 0#64])).toArray)]) rfl (by exact fillAll rfl rfl) rfl ?_
  intro b52 w54 hS53 H55 hE56
  refine sq (r_move (v := .slice (ownA k38) (((gS lhash (1#64, 0#64) (0#64) ([⟨(2 : Int), (0 : Int), (1 : Int)⟩] : List Gt) (List.replicate 2 lb0) 1).2).length) c39) rfl) ?_
  refine c_call (vs := [.agg #[i64 ((2 : Int)), .slice (ownA (some b1)) 1 1, .slice (ownA (some b6)) 1 1], .slice (ownA (some b52)) 2 2, .slice (ownA k38) (((gS lhash (1#64, 0#64) (0#64) ([⟨(2 : Int), (0 : Int), (1 : Int)⟩] : List Gt) (List.replicate 2 lb0) 1).2).length) c39, u64 (0#64)]) call46 rfl (eval_ok (2 : Int) ([⟨(2 : Int), (0 : Int), (1 : Int)⟩] : List Gt) ([(2 : Int)]) (ownA (some b1)) (ownA (some b6)) 1 1 ([(1#64, 0#64), (1#64, 0#64)] : List (BitVec 64 × BitVec 64)) ((gS lhash (1#64, 0#64) (0#64) ([⟨(2 : Int), (0 : Int), (1 : Int)⟩] : List Gt) (List.replicate 2 lb0) 1).2) (ownA (some b52)) (ownA k38) 2 c39 (0#64) w54 (Chg.gl H55.chg (fun x => x) hG) (H55.rd (k := 7) rfl hS2) (H55.rd (k := 6) rfl hS7) (by first | omega | exact Nat.le_of_ble_eq_true rfl) (by first | omega | exact Nat.le_of_ble_eq_true rfl) (H55.rd (k := 0) rfl hS53) (H55.rd (k := 1) rfl hS44) aw_is rfl rfl) ?_
  rintro _ w57 ⟨k59, c60, z61, rfl, hS62, HN63⟩
  have H64 := (H55.join HN63).as (L' := [(k59, sob ELb 38 (oL (eS lhash (0#64) ([⟨(2 : Int), (0 : Int), (1 : Int)⟩] : List Gt) ((gS lhash (1#64, 0#64) (0#64) ([⟨(2 : Int), (0 : Int), (1 : Int)⟩] : List Gt) (List.replicate 2 lb0) 1).2) ([(1#64, 0#64), (1#64, 0#64)] : List (BitVec 64 × BitVec 64)) 1).1 ([(2 : Int)]) 1) z61), ((some b52), sob ELb 38 ([(1#64, 0#64), (1#64, 0#64)] : List (BitVec 64 × BitVec 64)) ([])), (k38, sob ELb 38 ((gS lhash (1#64, 0#64) (0#64) ([⟨(2 : Int), (0 : Int), (1 : Int)⟩] : List Gt) (List.replicate 2 lb0) 1).2) z40), (k41, sob ELb 38 (oL (gS lhash (1#64, 0#64) (0#64) ([⟨(2 : Int), (0 : Int), (1 : Int)⟩] : List Gt) (List.replicate 2 lb0) 1).1 ([(2 : Int)]) 1) z43), ((some b28), sob ELb 38 (List.replicate 2 lb0) (cel ELb (List.replicate (2 - 2) lb0))), (some b18, .cells (cel E64 ([1#64, 0#64])).toArray 38 (0, 0)), (some b11, .cells #[i64 ((2 : Int)), .slice (ownA (some b1)) 1 1, .slice (ownA (some b6)) 1 1] 70 (0, 0)), ((some b6), sob EI 3 ([(2 : Int)]) ([])), ((some b1), sob EG 99 ([⟨(2 : Int), (0 : Int), (1 : Int)⟩] : List Gt) ([]))]) rfl
  refine sq (r_move (v := .tuple #[.slice (ownA k59) 1 c60, .nilIface]) rfl) ?_
  refine sq (r_extract (vs := #[.slice (ownA k59) 1 c60, .nilIface]) rfl rfl) ?_
  refine sq (r_extract (vs := #[.slice (ownA k59) 1 c60, .nilIface]) rfl rfl) ?_
  refine sq (r_assign (v := .slice (ownA k59) 1 c60) rfl) ?_
  refine sq (r_assign (v := .nilIface) rfl) ?_
  refine wend ?_
  refine seqAny ?_
  refine drawC (m := 11) [0, 0, 0, 7, 15, 31, 31, 31, 63, 383, 1023] [2, 3] (fun q vs w' => match q, vs with | 0, [] => Ext w57 w' ∧ Hp No w w' [(k59, sob ELb 38 (oL (eS lhash (0#64) ([⟨(2 : Int), (0 : Int), (1 : Int)⟩] : List Gt) ((gS lhash (1#64, 0#64) (0#64) ([⟨(2 : Int), (0 : Int), (1 : Int)⟩] : List Gt) (List.replicate 2 lb0) 1).2) ([(1#64, 0#64), (1#64, 0#64)] : List (BitVec 64 × BitVec 64)) 1).1 ([(2 : Int)]) 1) z61), ((some b52), sob ELb 38 ([(1#64, 0#64), (1#64, 0#64)] : List (BitVec 64 × BitVec 64)) ([])), (k38, sob ELb 38 ((gS lhash (1#64, 0#64) (0#64) ([⟨(2 : Int), (0 : Int), (1 : Int)⟩] : List Gt) (List.replicate 2 lb0) 1).2) z40), (k41, sob ELb 38 (oL (gS lhash (1#64, 0#64) (0#64) ([⟨(2 : Int), (0 : Int), (1 : Int)⟩] : List Gt) (List.replicate 2 lb0) 1).1 ([(2 : Int)]) 1) z43), ((some b28), sob ELb 38 (List.replicate 2 lb0) (cel ELb (List.replicate (2 - 2) lb0))), (some b18, .cells (cel E64 ([1#64, 0#64])).toArray 38 (0, 0)), (some b11, .cells #[i64 ((2 : Int)), .slice (ownA (some b1)) 1 1, .slice (ownA (some b6)) 1 1] 70 (0, 0)), ((some b6), sob EI 3 ([(2 : Int)]) ([])), ((some b1), sob EG 99 ([⟨(2 : Int), (0 : Int), (1 : Int)⟩] : List Gt) ([]))] | 1, [v0] => ∃ (b68 : Nat), v0 = .slice (ownA (some b68)) 2 2 ∧ Sl ELb (some b68) (List.replicate 2 lb0) 2 (cel ELb (List.replicate (2 - 2) lb0)) ∧ Ext w57 w' ∧ Hp No w w' [((some b68), sob ELb 38 (List.replicate 2 lb0) (cel ELb (List.replicate (2 - 2) lb0))), (k59, sob ELb 38 (oL (eS lhash (0#64) ([⟨(2 : Int), (0 : Int), (1 : Int)⟩] : List Gt) ((gS lhash (1#64, 0#64) (0#64) ([⟨(2 : Int), (0 : Int), (1 : Int)⟩] : List Gt) (List.replicate 2 lb0) 1).2) ([(1#64, 0#64), (1#64, 0#64)] : List (BitVec 64 × BitVec 64)) 1).1 ([(2 : Int)]) 1) z61), ((some b52), sob ELb 38 ([(1#64, 0#64), (1#64, 0#64)] : List (BitVec 64 × BitVec 64)) ([])), (k38, sob ELb 38 ((gS lhash (1#64, 0#64) (0#64) ([⟨(2 : Int), (0 : Int), (1 : Int)⟩] : List Gt) (List.replicate 2 lb0) 1).2) z40), (k41, sob ELb 38 (oL (gS lhash (1#64, 0#64) (0#64) ([⟨(2 : Int), (0 : Int), (1 : Int)⟩] : List Gt) (List.replicate 2 lb0) 1).1 ([(2 : Int)]) 1) z43), ((some b28), sob ELb 38 (List.replicate 2 lb0) (cel ELb (List.replicate (2 - 2) lb0))), (some b18, .cells (cel E64 ([1#64, 0#64])).toArray 38 (0, 0)), (some b11, .cells #[i64 ((2 : Int)), .slice (ownA (some b1)) 1 1, .slice (ownA (some b6)) 1 1] 70 (0, 0)), ((some b6), sob EI 3 ([(2 : Int)]) ([])), ((some b1), sob EG 99 ([⟨(2 : Int), (0 : Int), (1 : Int)⟩] : List Gt) ([]))] | 2, [v0, v1] => ∃ (b68 : Nat) (lo84 : Nat) (T82 : TypeId) (x83 : Value), v0 = .slice (ownA (some b68)) 2 2 ∧ v1 = .tuple #[.slice none 0 0, .slice none 0 0, .iface T82 (x83)] ∧ Sl ELb (some b68) (List.replicate 2 lb0) 2 (cel ELb (List.replicate (2 - 2) lb0)) ∧ Er lo84 w' 100 1 (.iface T82 x83) ∧ b18 < lo84 ∧ b11 < lo84 ∧ Ext w57 w' ∧ Hp No w w' [((some b68), sob ELb 38 (List.replicate 2 lb0) (cel ELb (List.replicate (2 - 2) lb0))), (k59, sob ELb 38 (oL (eS lhash (0#64) ([⟨(2 : Int), (0 : Int), (1 : Int)⟩] : List Gt) ((gS lhash (1#64, 0#64) (0#64) ([⟨(2 : Int), (0 : Int), (1 : Int)⟩] : List Gt) (List.replicate 2 lb0) 1).2) ([(1#64, 0#64), (1#64, 0#64)] : List (BitVec 64 × BitVec 64)) 1).1 ([(2 : Int)]) 1) z61), ((some b52), sob ELb 38 ([(1#64, 0#64), (1#64, 0#64)] : List (BitVec 64 × BitVec 64)) ([])), (k38, sob ELb 38 ((gS lhash (1#64, 0#64) (0#64) ([⟨(2 : Int), (0 : Int), (1 : Int)⟩] : List Gt) (List.replicate 2 lb0) 1).2) z40), (k41, sob ELb 38 (oL (gS lhash (1#64, 0#64) (0#64) ([⟨(2 : Int), (0 : Int), (1 : Int)⟩] : List Gt) (List.replicate 2 lb0) 1).1 ([(2 : Int)]) 1) z43), ((some b28), sob ELb 38 (List.replicate 2 lb0) (cel ELb (List.replicate (2 - 2) lb0))), (some b18, .cells (cel E64 ([1#64, 0#64])).toArray 38 (0, 0)), (some b11, .cells #[i64 ((2 : Int)), .slice (ownA (some b1)) 1 1, .slice (ownA (some b6)) 1 1] 70 (0, 0)), ((some b6), sob EI 3 ([(2 : Int)]) ([])), ((some b1), sob EG 99 ([⟨(2 : Int), (0 : Int), (1 : Int)⟩] : List Gt) ([]))] | _, _ => False) mixed (by kernel_rfl) (by kernel_rfl) ⟨Ext.drew _, H64.drew⟩ ?_
  refine WalkC.look rfl (fun _ => .agg #[i64 ((2 : Int)), .slice (ownA (some b1)) 1 1, .slice (ownA (some b6)) 1 1]) (fun _ _ _ => rfl) (fun q r uw hlo hhi hle hF => ?_) ?_
  · skip
    have h1 : 0 ≤ q := Nat.zero_le _
    have h2 : q ≤ 1 := hhi 1 3 rfl rfl
    rcases (show q = 0 ∨ q = 1 by omega) with rfl | rfl
    · skip
      obtain ⟨hX, HH⟩ := hF
      exact Gives.run rfl (r_loadA (cs' := #[i64 ((2 : Int)), .slice (ownA (some b1)) 1 1, .slice (ownA (some b6)) 1 1]) agg70 siz70 (HH.get (k := 6) rfl) (off := 0) rfl (by exact Nat.le_of_ble_eq_true rfl) (by rfl)) ⟨rfl, rfl⟩
    · skip
      obtain ⟨b68, e2, hS69, hX, HH⟩ := hF
      exact Gives.run rfl (r_loadA (cs' := #[i64 ((2 : Int)), .slice (ownA (some b1)) 1 1, .slice (ownA (some b6)) 1 1]) agg70 siz70 (HH.get (k := 7) rfl) (off := 0) rfl (by exact Nat.le_of_ble_eq_true rfl) (by rfl)) ⟨rfl, rfl⟩
  refine WalkC.look rfl (fun _ => .agg (cel E64 [2#64, 0#64]).toArray) (fun _ _ _ => rfl) (fun q r uw _ _ _ _ => Gives.run rfl (r_buildA (cs' := (cel E64 [2#64, 0#64]).toArray) (ps := [(0, u64 (2#64)), (1, u64 (0#64))]) zer38 arr38 rfl (by rfl)) ⟨rfl, rfl⟩) ?_
  refine WalkC.eff 0 rfl (fun r uw65 hF67 => ?_) ?_
  · skip
    obtain ⟨hX, H66⟩ := hF67
    dsimp only [List.take, List.map, List.cons_append, List.nil_append]
    refine Gives.ofW (d := 48) rfl rfl (fun Q' hK => ?_)
    refine q_makeSlice (E := ELb) (m := 2) (c := 2) (z0 := lb0) H66 sli92 zer38 rfl byt38 rfl rfl (by first | rfl | omega | (simp; omega)) (by first | rfl | omega | (simp; omega)) (by omega) (by omega) ?_
    intro b68 w70 hS69 H71 hE72
    exact hK _ _ ⟨b68, rfl, hS69, (hX.trans hE72), H71⟩
  refine WalkC.eff 1 rfl (fun r uw73 hF75 => ?_) ?_
  · skip
    obtain ⟨b68, e2, hS69, hX, H74⟩ := hF75
    dsimp only [List.take, List.map, List.cons_append, List.nil_append]
    rw [e2]
    refine Gives.ofW (d := 49) rfl rfl (fun Q' hK => ?_)
    have := H74.lt (List.mem_of_getElem? (i := 6) rfl) rfl
    have := H74.lt (List.mem_of_getElem? (i := 7) rfl) rfl
    refine c_call (vs := [.agg #[i64 ((2 : Int)), .slice (ownA (some b1)) 1 1, .slice (ownA (some b6)) 1 1], .agg (cel E64 [2#64, 0#64]).toArray, .slice (ownA (some b68)) 2 2, u64 (0#64)]) call45 rfl (garble_delta (2 : Int) ([⟨(2 : Int), (0 : Int), (1 : Int)⟩] : List Gt) ([(2 : Int)]) (ownA (some b1)) (ownA (some b6)) 1 1 (2#64, 0#64) (List.replicate 2 lb0) (ownA (some b68)) 2 (0#64) uw73 (Chg.gl H74.chg (fun x => x) hG) (H74.rd (k := 9) rfl hS2) (H74.rd (k := 8) rfl hS7) (by first | omega | exact Nat.le_of_ble_eq_true rfl) (by first | omega | exact Nat.le_of_ble_eq_true rfl) (H74.rd (k := 0) rfl hS69) aw_is rfl rfl) ?_
    rintro _ w76 ⟨⟨v78, rfl, hEr79⟩, hE80⟩
    have H81 := H74.ext hE80
    obtain ⟨T82, x83, rfl⟩ := hEr79.iface
    obtain ⟨lo84, hlo85⟩ : ∃ lo, lo = uw73.heap.size := ⟨_, rfl⟩
    rw [← hlo85] at hEr79
    have hlt86 : b18 < lo84 := by omega
    have hlt87 : b11 < lo84 := by omega
    exact hK _ _ ⟨b68, lo84, T82, x83, rfl, rfl, hS69, hEr79, hlt86, hlt87, (hX.trans hE80), H81⟩
  refine WalkC.look rfl (fun r => r 3) (fun r r' h => h 3 (by decide) rfl) (fun q r uw _ _ _ _ => Gives.run rfl (r_move rfl) ⟨rfl, rfl⟩) ?_
  refine WalkC.look rfl (fun r => proj (r 3) 0) (fun r r' h => by rw [h 3 (by decide) rfl]) (fun q r uw hlo hhi hle hF => ?_) ?_
  · skip
    have h1 : 2 ≤ q := hlo 1 3 rfl rfl
    have h2 : q ≤ 2 := hle
    rcases (show q = 2 by omega) with rfl
    · skip
      obtain ⟨b68, lo84, T82, x83, e2, e3, hS69, hEr79, hlt86, hlt87, hX, HH⟩ := hF
      dsimp only
      rw [e3]
      exact Gives.run rfl (r_extract (vs := #[.slice none 0 0, .slice none 0 0, .iface T82 (x83)]) rfl rfl) ⟨rfl, rfl⟩
  refine WalkC.look rfl (fun r => proj (r 3) 1) (fun r r' h => by rw [h 3 (by decide) rfl]) (fun q r uw hlo hhi hle hF => ?_) ?_
  · skip
    have h1 : 2 ≤ q := hlo 1 3 rfl rfl
    have h2 : q ≤ 2 := hle
    rcases (show q = 2 by omega) with rfl
    · skip
      obtain ⟨b68, lo84, T82, x83, e2, e3, hS69, hEr79, hlt86, hlt87, hX, HH⟩ := hF
      dsimp only
      rw [e3]
      exact Gives.run rfl (r_extract (vs := #[.slice none 0 0, .slice none 0 0, .iface T82 (x83)]) rfl rfl) ⟨rfl, rfl⟩
  refine WalkC.look rfl (fun r => proj (r 3) 2) (fun r r' h => by rw [h 3 (by decide) rfl]) (fun q r uw hlo hhi hle hF => ?_) ?_
  · skip
    have h1 : 2 ≤ q := hlo 1 3 rfl rfl
    have h2 : q ≤ 2 := hle
    rcases (show q = 2 by omega) with rfl
    · skip
      obtain ⟨b68, lo84, T82, x83, e2, e3, hS69, hEr79, hlt86, hlt87, hX, HH⟩ := hF
      dsimp only
      rw [e3]
      exact Gives.run rfl (r_extract (vs := #[.slice none 0 0, .slice none 0 0, .iface T82 (x83)]) rfl rfl) ⟨rfl, rfl⟩
  refine WalkC.look rfl (fun r => proj (r 3) 0) (fun r r' h => by rw [h 3 (by decide) rfl]) (fun q r uw _ _ _ _ => Gives.run rfl (r_assign rfl) ⟨rfl, rfl⟩) ?_
  refine WalkC.look rfl (fun r => proj (r 3) 1) (fun r r' h => by rw [h 3 (by decide) rfl]) (fun q r uw _ _ _ _ => Gives.run rfl (r_assign rfl) ⟨rfl, rfl⟩) ?_
  refine WalkC.look rfl (fun r => proj (r 3) 2) (fun r r' h => by rw [h 3 (by decide) rfl]) (fun q r uw _ _ _ _ => Gives.run rfl (r_assign rfl) ⟨rfl, rfl⟩) ?_
  refine WalkC.nil ?_
  intro r88 w89 hF91
  obtain ⟨b68, lo84, T82, x83, e2, e3, hS69, hEr79, hlt86, hlt87, hX, H90⟩ := hF91
  dsimp only
  rw [e2, e3]
  refine wnil ?_
  refine thenNormal ?_
  refine seqAny ?_
  refine drawAny (K := [none, none, none, none, none, none, none, none, none, none, none, none, none, none, none, none, none, none, none, none, none, none, none]) [0, 1, 3, 7, 15, 31, 63, 127, 255, 511, 1023, 255, 2303, 6399, 255, 30975, 65535, 131071, 262143, 524287, 1048575, 2097151, 4194303] (fun w' => Ext w89 w') (fun w' w'' => Ext w' w'') mixed (by kernel_rfl) (Ext.drew _) (fun _ _ h h' => h.trans h') ?_ ?_
  · exact relNone (by decide)
  refine ⟨.nilIface, fun _ uw92 hC93 _ => Gives.run rfl (r_move (v := .nilIface) rfl) ⟨rfl, Chg.refl _ _⟩, ?_⟩
  refine ⟨.bool (true), fun _ uw94 hC95 _ => Gives.run rfl (r_eqlNN isI27 rfl rfl) ⟨rfl, Chg.refl _ _⟩, ?_⟩
  refine ⟨.bool (true), fun _ uw96 hC97 _ => Gives.run rfl (r_move (v := .bool (true)) rfl) ⟨rfl, Chg.refl _ _⟩, ?_⟩
  refine ⟨.slice (ownA k59) 1 c60, fun _ uw98 hC99 _ => Gives.runW (wantedSome (d' := 55) (b := true) rfl rfl rfl) (r_move (v := .slice (ownA k59) 1 c60) rfl) ⟨rfl, Chg.refl _ _⟩, ?_⟩
  refine ⟨i64 ((1 : Nat)), fun _ uw100 hC101 _ => Gives.runW (wantedSome (d' := 55) (b := true) rfl rfl rfl) (r_lenS sli92 (a := ownA k59) (m := 1) (c := c60) rfl) ⟨rfl, Chg.refl _ _⟩, ?_⟩
  refine ⟨.bool (true), fun _ uw102 hC103 _ => Gives.runW (wantedSome (d' := 55) (b := true) rfl rfl rfl) ((r_eqlI (a := (1 : Nat)) (b := (1 : Int)) rfl rfl).as (v' := .bool (true)) (by rfl)) ⟨rfl, Chg.refl _ _⟩, ?_⟩
  refine ⟨.bool (true), fun _ uw104 hC105 _ => Gives.run rfl (r_pickT (u := .bool (true)) rfl rfl) ⟨rfl, Chg.refl _ _⟩, ?_⟩
  refine ⟨.bool (true), fun _ uw106 hC107 _ => Gives.run rfl (r_move (v := .bool (true)) rfl) ⟨rfl, Chg.refl _ _⟩, ?_⟩
  refine ⟨.slice (ownA k59) 1 c60, fun _ uw108 hC109 _ => Gives.runW (wantedSome (d' := 60) (b := true) rfl rfl rfl) (r_move (v := .slice (ownA k59) 1 c60) rfl) ⟨rfl, Chg.refl _ _⟩, ?_⟩
  refine ⟨.pointer (adr (ownA k59) (0 * 2)), fun _ uw110 hC111 _ => Gives.runW (wantedSome (d' := 60) (b := true) rfl rfl rfl) (r_idxS (E := ELb) (l := oL (eS lhash (0#64) ([⟨(2 : Int), (0 : Int), (1 : Int)⟩] : List Gt) ((gS lhash (1#64, 0#64) (0#64) ([⟨(2 : Int), (0 : Int), (1 : Int)⟩] : List Gt) (List.replicate 2 lb0) 1).2) ([(1#64, 0#64), (1#64, 0#64)] : List (BitVec 64 × BitVec 64)) 1).1 ([(2 : Int)]) 1) (j := 0) sli92 ((H90.ext hC111).rd (k := 1) rfl hS62) rfl rfl (by first | rfl | omega | (simp; omega)) (by exact (oL_len _ _ _).symm) (by rw [oL_len]; decide)) ⟨rfl, Chg.refl _ _⟩, ?_⟩
  refine ⟨.agg (cel E64 [((oL (eS lhash (0#64) ([⟨(2 : Int), (0 : Int), (1 : Int)⟩] : List Gt) ((gS lhash (1#64, 0#64) (0#64) ([⟨(2 : Int), (0 : Int), (1 : Int)⟩] : List Gt) (List.replicate 2 lb0) 1).2) ([(1#64, 0#64), (1#64, 0#64)] : List (BitVec 64 × BitVec 64)) 1).1 ([(2 : Int)]) 1).getD 0 lb0).1, ((oL (eS lhash (0#64) ([⟨(2 : Int), (0 : Int), (1 : Int)⟩] : List Gt) ((gS lhash (1#64, 0#64) (0#64) ([⟨(2 : Int), (0 : Int), (1 : Int)⟩] : List Gt) (List.replicate 2 lb0) 1).2) ([(1#64, 0#64), (1#64, 0#64)] : List (BitVec 64 × BitVec 64)) 1).1 ([(2 : Int)]) 1).getD 0 lb0).2]).toArray, fun _ uw112 hC113 _ => Gives.runW (wantedSome (d' := 60) (b := true) rfl rfl rfl) ((r_ldS (E := ELb) (l := oL (eS lhash (0#64) ([⟨(2 : Int), (0 : Int), (1 : Int)⟩] : List Gt) ((gS lhash (1#64, 0#64) (0#64) ([⟨(2 : Int), (0 : Int), (1 : Int)⟩] : List Gt) (List.replicate 2 lb0) 1).2) ([(1#64, 0#64), (1#64, 0#64)] : List (BitVec 64 × BitVec 64)) 1).1 ([(2 : Int)]) 1) (j := 0) (v := (oL (eS lhash (0#64) ([⟨(2 : Int), (0 : Int), (1 : Int)⟩] : List Gt) ((gS lhash (1#64, 0#64) (0#64) ([⟨(2 : Int), (0 : Int), (1 : Int)⟩] : List Gt) (List.replicate 2 lb0) 1).2) ([(1#64, 0#64), (1#64, 0#64)] : List (BitVec 64 × BitVec 64)) 1).1 ([(2 : Int)]) 1).getD 0 lb0) fits38 ((H90.ext hC113).rd (k := 1) rfl hS62) rfl rfl (at_getD (by rw [oL_len]; decide))).as (v' := .agg (cel E64 [((oL (eS lhash (0#64) ([⟨(2 : Int), (0 : Int), (1 : Int)⟩] : List Gt) ((gS lhash (1#64, 0#64) (0#64) ([⟨(2 : Int), (0 : Int), (1 : Int)⟩] : List Gt) (List.replicate 2 lb0) 1).2) ([(1#64, 0#64), (1#64, 0#64)] : List (BitVec 64 × BitVec 64)) 1).1 ([(2 : Int)]) 1).getD 0 lb0).1, ((oL (eS lhash (0#64) ([⟨(2 : Int), (0 : Int), (1 : Int)⟩] : List Gt) ((gS lhash (1#64, 0#64) (0#64) ([⟨(2 : Int), (0 : Int), (1 : Int)⟩] : List Gt) (List.replicate 2 lb0) 1).2) ([(1#64, 0#64), (1#64, 0#64)] : List (BitVec 64 × BitVec 64)) 1).1 ([(2 : Int)]) 1).getD 0 lb0).2]).toArray) rfl) ⟨rfl, Chg.refl _ _⟩, ?_⟩
  refine ⟨.slice (ownA k41) ((oL (gS lhash (1#64, 0#64) (0#64) ([⟨(2 : Int), (0 : Int), (1 : Int)⟩] : List Gt) (List.replicate 2 lb0) 1).1 ([(2 : Int)]) 1).length) c42, fun _ uw114 hC115 _ => Gives.runW (wantedSome (d' := 60) (b := true) rfl rfl rfl) (r_move (v := .slice (ownA k41) ((oL (gS lhash (1#64, 0#64) (0#64) ([⟨(2 : Int), (0 : Int), (1 : Int)⟩] : List Gt) (List.replicate 2 lb0) 1).1 ([(2 : Int)]) 1).length) c42) rfl) ⟨rfl, Chg.refl _ _⟩, ?_⟩
  refine ⟨.pointer (adr (ownA k41) (0 * 2)), fun _ uw116 hC117 _ => Gives.runW (wantedSome (d' := 60) (b := true) rfl rfl rfl) (r_idxS (E := ELb) (l := oL (gS lhash (1#64, 0#64) (0#64) ([⟨(2 : Int), (0 : Int), (1 : Int)⟩] : List Gt) (List.replicate 2 lb0) 1).1 ([(2 : Int)]) 1) (j := 0) sli92 ((H90.ext hC117).rd (k := 4) rfl hS45) rfl rfl (by first | rfl | omega | (simp; omega)) (by first | rfl | omega | (simp; omega) | (simp at *; omega)) (by rw [oL_len]; decide)) ⟨rfl, Chg.refl _ _⟩, ?_⟩
  refine ⟨.agg (cel E64 [((oL (gS lhash (1#64, 0#64) (0#64) ([⟨(2 : Int), (0 : Int), (1 : Int)⟩] : List Gt) (List.replicate 2 lb0) 1).1 ([(2 : Int)]) 1).getD 0 lb0).1, ((oL (gS lhash (1#64, 0#64) (0#64) ([⟨(2 : Int), (0 : Int), (1 : Int)⟩] : List Gt) (List.replicate 2 lb0) 1).1 ([(2 : Int)]) 1).getD 0 lb0).2]).toArray, fun _ uw118 hC119 _ => Gives.runW (wantedSome (d' := 60) (b := true) rfl rfl rfl) ((r_ldS (E := ELb) (l := oL (gS lhash (1#64, 0#64) (0#64) ([⟨(2 : Int), (0 : Int), (1 : Int)⟩] : List Gt) (List.replicate 2 lb0) 1).1 ([(2 : Int)]) 1) (j := 0) (v := (oL (gS lhash (1#64, 0#64) (0#64) ([⟨(2 : Int), (0 : Int), (1 : Int)⟩] : List Gt) (List.replicate 2 lb0) 1).1 ([(2 : Int)]) 1).getD 0 lb0) fits38 ((H90.ext hC119).rd (k := 4) rfl hS45) rfl rfl (at_getD (by rw [oL_len]; decide))).as (v' := .agg (cel E64 [((oL (gS lhash (1#64, 0#64) (0#64) ([⟨(2 : Int), (0 : Int), (1 : Int)⟩] : List Gt) (List.replicate 2 lb0) 1).1 ([(2 : Int)]) 1).getD 0 lb0).1, ((oL (gS lhash (1#64, 0#64) (0#64) ([⟨(2 : Int), (0 : Int), (1 : Int)⟩] : List Gt) (List.replicate 2 lb0) 1).1 ([(2 : Int)]) 1).getD 0 lb0).2]).toArray) rfl) ⟨rfl, Chg.refl _ _⟩, ?_⟩
  refine ⟨.agg (cel E64 ([1#64, 0#64])).toArray, fun _ uw120 hC121 _ => Gives.runW (wantedSome (d' := 60) (b := true) rfl rfl rfl) (r_loadA (cs' := (cel E64 ([1#64, 0#64])).toArray) agg38 siz38 ((H90.ext hC121).get (k := 6) rfl) (off := 0) rfl (by exact Nat.le_of_ble_eq_true rfl) (by exact ext_all rfl)) ⟨rfl, Chg.refl _ _⟩, ?_⟩
  refine ⟨.agg (cel E64 [(lx ((oL (gS lhash (1#64, 0#64) (0#64) ([⟨(2 : Int), (0 : Int), (1 : Int)⟩] : List Gt) (List.replicate 2 lb0) 1).1 ([(2 : Int)]) 1).getD 0 lb0) (lw true (1#64, 0#64))).1, (lx ((oL (gS lhash (1#64, 0#64) (0#64) ([⟨(2 : Int), (0 : Int), (1 : Int)⟩] : List Gt) (List.replicate 2 lb0) 1).1 ([(2 : Int)]) 1).getD 0 lb0) (lw true (1#64, 0#64))).2]).toArray, fun _ uw122 hC123 _ => Gives.callW (wantedSome (d' := 60) (b := true) rfl rfl rfl) (Enters.callL (vs := [.agg (cel E64 [((oL (gS lhash (1#64, 0#64) (0#64) ([⟨(2 : Int), (0 : Int), (1 : Int)⟩] : List Gt) (List.replicate 2 lb0) 1).1 ([(2 : Int)]) 1).getD 0 lb0).1, ((oL (gS lhash (1#64, 0#64) (0#64) ([⟨(2 : Int), (0 : Int), (1 : Int)⟩] : List Gt) (List.replicate 2 lb0) 1).1 ([(2 : Int)]) 1).getD 0 lb0).2]).toArray, .agg (cel E64 ([1#64, 0#64])).toArray, .bool (true)]) call48 rfl) (label_ok ((oL (gS lhash (1#64, 0#64) (0#64) ([⟨(2 : Int), (0 : Int), (1 : Int)⟩] : List Gt) (List.replicate 2 lb0) 1).1 ([(2 : Int)]) 1).getD 0 lb0) (1#64, 0#64) true uw122), ?_⟩
  refine ⟨.bool (true), fun _ uw124 hC125 _ => Gives.runW (wantedSome (d' := 60) (b := true) rfl rfl rfl) ((r_eqlA (E := E64) (l := [((oL (eS lhash (0#64) ([⟨(2 : Int), (0 : Int), (1 : Int)⟩] : List Gt) ((gS lhash (1#64, 0#64) (0#64) ([⟨(2 : Int), (0 : Int), (1 : Int)⟩] : List Gt) (List.replicate 2 lb0) 1).2) ([(1#64, 0#64), (1#64, 0#64)] : List (BitVec 64 × BitVec 64)) 1).1 ([(2 : Int)]) 1).getD 0 lb0).1, ((oL (eS lhash (0#64) ([⟨(2 : Int), (0 : Int), (1 : Int)⟩] : List Gt) ((gS lhash (1#64, 0#64) (0#64) ([⟨(2 : Int), (0 : Int), (1 : Int)⟩] : List Gt) (List.replicate 2 lb0) 1).2) ([(1#64, 0#64), (1#64, 0#64)] : List (BitVec 64 × BitVec 64)) 1).1 ([(2 : Int)]) 1).getD 0 lb0).2]) (l' := [(lx ((oL (gS lhash (1#64, 0#64) (0#64) ([⟨(2 : Int), (0 : Int), (1 : Int)⟩] : List Gt) (List.replicate 2 lb0) 1).1 ([(2 : Int)]) 1).getD 0 lb0) (lw true (1#64, 0#64))).1, (lx ((oL (gS lhash (1#64, 0#64) (0#64) ([⟨(2 : Int), (0 : Int), (1 : Int)⟩] : List Gt) (List.replicate 2 lb0) 1).1 ([(2 : Int)]) 1).getD 0 lb0) (lw true (1#64, 0#64))).2]) gty38 und38 fits32 (eqAt64 und32) (rfl) (rfl) rfl rfl).as (v' := .bool (true)) (by exact congrArg Value.bool (decide_eq_true (by rw [aw_right])))) ⟨rfl, Chg.refl _ _⟩, ?_⟩
  refine ⟨.bool (true), fun _ uw126 hC127 _ => Gives.run rfl (r_pickT (u := .bool (true)) rfl rfl) ⟨rfl, Chg.refl _ _⟩, ?_⟩
  refine ⟨.bool (true), fun _ uw128 hC129 _ => Gives.run rfl (r_move (v := .bool (true)) rfl) ⟨rfl, Chg.refl _ _⟩, ?_⟩
  refine ⟨.iface T82 (x83), fun _ uw130 hC131 _ => Gives.runW (wantedSome (d' := 71) (b := true) rfl rfl rfl) (r_move (v := .iface T82 (x83)) rfl) ⟨rfl, Chg.refl _ _⟩, ?_⟩
  refine ⟨.bool (true), fun _ uw132 hC133 _ => Gives.callW (wantedSome (d' := 71) (b := true) rfl rfl rfl) (Enters.callL (vs := [.iface T82 (x83), i64 ((100 : Int))]) call24 rfl) (is_ok 100 (100 : Int) 1 (.iface T82 (x83)) lo84 uw132 ((hEr79.ext hC133))), ?_⟩
  refine ⟨.bool (true), fun _ uw134 hC135 _ => Gives.run rfl (r_pickT (u := .bool (true)) rfl rfl) ⟨rfl, Chg.refl _ _⟩, ?_⟩
  refine ⟨.bool (true), fun _ uw136 hC137 _ => Gives.run rfl (r_assign (v := .bool (true)) rfl) ⟨rfl, Chg.refl _ _⟩, ?_⟩
  intro r141 w138 hE140 hF
  have H139 := H90.ext hE140
  refine wnil ?_
  refine thenNormal ?_
  refine retAny ?_
  refine retG (rs := [.tmp 0]) (vs := [.bool (true)]) rfl ⟨⟨rfl, rfl⟩, trivial⟩ ?_
  exact ⟨_, rfl, rfl, H139.chg⟩
end Go.Proofs.YteofdmdpaejgaaaDoor.Gb
namespace Go.Proofs.YteofdmdpaejgaaaDoor.Gb
open Go Go.Proofs.YteofdmdpaejgaaaDoor.Vc Go.Proofs.YteofdmdpaejgaaaDoor.Er Go.Proofs.YteofdmdpaejgaaaDoor.Circ
set_option linter.unusedVariables false
theorem call41 : callable Tryd.prog 41 = true := by kernel_rfl
theorem call42 : callable Tryd.prog 42 = true := by kernel_rfl
theorem call43 : callable Tryd.prog 43 = true := by kernel_rfl
theorem siz32 : siz Tryd.prog 32 = some 1 := by kernel_rfl
end Go.Proofs.YteofdmdpaejgaaaDoor.Gb
namespace Go.Proofs.YteofdmdpaejgaaaDoor.Gb
open Go Go.Proofs.YteofdmdpaejgaaaDoor.Vc Go.Proofs.YteofdmdpaejgaaaDoor.Er Go.Proofs.YteofdmdpaejgaaaDoor.Circ
set_option linter.unusedVariables false
theorem eval_okL (n : Int) (gs : List Gt) (ol : List Int) (ga oa : Option Addr) (gc oc : Nat) (ls tb : List Lb) (lsa tsa : Option Addr) (lsc tsc : Nat) (first : BitVec 64) (m1 m2 : Nat) (hm1 : m1 = ls.length) (hm2 : m2 = tb.length) (w : World) (hG : Gl w) (hGs : Rd EG w ga gs) (hOl : Rd EI w oa ol) (hgl : gs.length ≤ 140737488355328) (hol : ol.length ≤ 140737488355328) (hLs : Rd ELb w lsa ls) (hTb : Rd ELb w tsa tb) (hg : IsC n gs ol) (hm : (ls.length : Int) = n) (hc : tb.length = 2 * andsS gs gs.length) : Calls Tryd.prog 46 [.agg #[i64 n, .slice ga gs.length gc, .slice oa ol.length oc], .slice lsa m1 lsc, .slice tsa m2 tsc, u64 first].toArray w (Ret fun v w' => ∃ (k1 : Option Nat) (c1 : Nat) (z1 : List Value), v = .tuple #[.slice (ownA k1) ol.length c1, .nilIface] ∧ Sl ELb k1 (oL (eS lhash first gs tb ls gs.length).1 ol ol.length) c1 z1 ∧ Hp No w w' [(k1, sob ELb 38 (oL (eS lhash first gs tb ls gs.length).1 ol ol.length) z1)]) := by
  subst hm1 hm2; exact eval_ok n gs ol ga oa gc oc ls tb lsa tsa lsc tsc first w hG hGs hOl hgl hol hLs hTb hg hm hc
theorem eval_badL (n : Int) (gs : List Gt) (ol : List Int) (ga oa : Option Addr) (gc oc : Nat) (ls tb : List Lb) (lsa tsa : Option Addr) (lsc tsc : Nat) (first : BitVec 64) (m1 m2 : Nat) (hm1 : m1 = ls.length) (hm2 : m2 = tb.length) (w : World) (hG : Gl w) (hGs : Rd EG w ga gs) (hOl : Rd EI w oa ol) (hgl : gs.length ≤ 140737488355328) (hol : ol.length ≤ 140737488355328) (hLs : Rd ELb w lsa ls) (hTb : Rd ELb w tsa tb) (hg : ¬ IsC n gs ol) : Calls Tryd.prog 46 [.agg #[i64 n, .slice ga gs.length gc, .slice oa ol.length oc], .slice lsa m1 lsc, .slice tsa m2 tsc, u64 first].toArray w (Ret fun v w' => (∃ ev, v = .tuple #[.slice none 0 0, ev] ∧ Er w.heap.size w' 90 1 ev) ∧ Ext w w') := by
  subst hm1 hm2; exact eval_bad n gs ol ga oa gc oc ls tb lsa tsa lsc tsc first w hG hGs hOl hgl hol hLs hTb hg
theorem eval_numL (n : Int) (gs : List Gt) (ol : List Int) (ga oa : Option Addr) (gc oc : Nat) (ls tb : List Lb) (lsa tsa : Option Addr) (lsc tsc : Nat) (first : BitVec 64) (m1 m2 : Nat) (hm1 : m1 = ls.length) (hm2 : m2 = tb.length) (w : World) (hG : Gl w) (hGs : Rd EG w ga gs) (hOl : Rd EI w oa ol) (hgl : gs.length ≤ 140737488355328) (hol : ol.length ≤ 140737488355328) (hLs : Rd ELb w lsa ls) (hTb : Rd ELb w tsa tb) (hg : IsC n gs ol) (hm : (ls.length : Int) ≠ n) : Calls Tryd.prog 46 [.agg #[i64 n, .slice ga gs.length gc, .slice oa ol.length oc], .slice lsa m1 lsc, .slice tsa m2 tsc, u64 first].toArray w (Ret fun v w' => (∃ ev, v = .tuple #[.slice none 0 0, ev] ∧ Er w.heap.size w' 1 1 ev) ∧ Ext w w') := by
  subst hm1 hm2; exact eval_num n gs ol ga oa gc oc ls tb lsa tsa lsc tsc first w hG hGs hOl hgl hol hLs hTb hg hm
theorem eval_tabL (n : Int) (gs : List Gt) (ol : List Int) (ga oa : Option Addr) (gc oc : Nat) (ls tb : List Lb) (lsa tsa : Option Addr) (lsc tsc : Nat) (first : BitVec 64) (m1 m2 : Nat) (hm1 : m1 = ls.length) (hm2 : m2 = tb.length) (w : World) (hG : Gl w) (hGs : Rd EG w ga gs) (hOl : Rd EI w oa ol) (hgl : gs.length ≤ 140737488355328) (hol : ol.length ≤ 140737488355328) (hLs : Rd ELb w lsa ls) (hTb : Rd ELb w tsa tb) (hg : IsC n gs ol) (hm : (ls.length : Int) = n) (hc : tb.length ≠ 2 * andsS gs gs.length) : Calls Tryd.prog 46 [.agg #[i64 n, .slice ga gs.length gc, .slice oa ol.length oc], .slice lsa m1 lsc, .slice tsa m2 tsc, u64 first].toArray w (Ret fun v w' => (∃ ev, v = .tuple #[.slice none 0 0, ev] ∧ Er w.heap.size w' 100 1 ev) ∧ Ext w w') := by
  subst hm1 hm2; exact eval_tab n gs ol ga oa gc oc ls tb lsa tsa lsc tsc first w hG hGs hOl hgl hol hLs hTb hg hm hc
end Go.Proofs.YteofdmdpaejgaaaDoor.Gb
namespace Go.Proofs.YteofdmdpaejgaaaDoor.Gb
open Go Go.Proofs.YteofdmdpaejgaaaDoor.Vc Go.Proofs.YteofdmdpaejgaaaDoor.Er Go.Proofs.YteofdmdpaejgaaaDoor.Circ
set_option linter.unusedVariables false
theorem byt4 : byt Tryd.prog 4 = some 1 := by kernel_rfl
theorem fits4 : Fits Tryd.prog 4 EB := fitsB (by kernel_rfl) (by kernel_rfl)
theorem sli76 : sli Tryd.prog 76 = some (4, 1) := by kernel_rfl
theorem zer4 : zer Tryd.prog 4 = some (.bool false) := by kernel_rfl
end Go.Proofs.YteofdmdpaejgaaaDoor.Gb
namespace Go.Proofs.YteofdmdpaejgaaaDoor.Gb
open Go Go.Proofs.YteofdmdpaejgaaaDoor.Vc Go.Proofs.YteofdmdpaejgaaaDoor.Er Go.Proofs.YteofdmdpaejgaaaDoor.Circ
set_option linter.unusedVariables false
theorem call26 : callable Tryd.prog 26 = true := by kernel_rfl
set_option maxHeartbeats 1000000 in
theorem gevals_bad (n : Int) (gs : List Gt) (ol : List Int) (ga oa : Option Addr) (gc oc : Nat) (ls tb : List Lb) (lsa tsa : Option Addr) (lsc tsc : Nat) (hgc : gs.length ≤ gc) (hoc : ol.length ≤ oc) (w : World) (hG : Gl w) (hGs : Rd EG w ga gs) (hOl : Rd EI w oa ol) (hLs : Rd ELb w lsa ls) (hTb : Rd ELb w tsa tb) (h1s : gs.length ≤ 60) (h2s : n ≤ 200) (h3s : ls.length ≤ 300) (h4s : tb.length ≤ 300) (hg : ¬ IsC n (gs.take 4200) (ol.take 80)) : Calls Tryd.prog 12 [.agg #[i64 (n), .slice ga gs.length gc, .slice oa ol.length oc], .slice lsa ls.length lsc, .slice tsa tb.length tsc].toArray w (Ret fun v w' => v = .bool true ∧ Ext w w') := by
  obtain ⟨g1, hg1⟩ : ∃ g1, g1 = gs.take 4200 := ⟨_, rfl⟩
  obtain ⟨l1, hl1⟩ : ∃ l1, l1 = ol.take 80 := ⟨_, rfl⟩
  have hgl1 : g1.length ≤ 60 := by rw [hg1, List.length_take]; omega
  have hll1 : l1.length ≤ 80 := by rw [hl1, List.length_take]; omega
  rw [← hg1, ← hl1] at hg
  have han := andsS_le g1 g1.length
  have H := Hp.start No w
  refine enter (n := 91) Tryd.func12 rfl rfl (Nat.le_of_ble_eq_true rfl) ?_
  refine seqRegion ?_
  refine q_box (v := .agg #[i64 (n), .slice ga gs.length gc, .slice oa ol.length oc]) (o := .cells #[i64 (n), .slice ga gs.length gc, .slice oa ol.length oc] 70 (0, 0)) H rfl (by rfl) ?_
  intro b31 w32 hb31 H33 hE34
  refine sq (r_assign (v := .bool (false)) rfl) ?_
  refine wend ?_
  refine seqAny ?_
  refine seqRegion ?_
  refine c_call (vs := []) call41 rfl (gawake_ok w32 (Chg.gl H33.chg (fun x => x) hG)) ?_
  rintro _ w35 ⟨rfl, hE36⟩
  have H37 := H33.ext hE36
  refine sq (r_notT rfl) ?_
  refine sq (r_move (v := .bool (false)) rfl) ?_
  refine sqAny (v := .agg #[i64 (n), .slice ga gs.length gc, .slice oa ol.length oc]) (w' := w35) (wantedSome (d' := 11) (b := false) rfl rfl rfl) (r_loadA (cs' := #[i64 (n), .slice ga gs.length gc, .slice oa ol.length oc]) agg70 siz70 (H37.get (k := 0) rfl) (off := 0) rfl (by exact Nat.le_of_ble_eq_true rfl) (by rfl)) ?_
  refine caAny (wantedSome (d' := 11) (b := false) rfl rfl rfl) (Enters.callL (vs := [.agg #[i64 (n), .slice ga gs.length gc, .slice oa ol.length oc]]) call42 rfl) (small_yes n gs ol ga oa gc oc w35 h1s h2s) ?_
  rintro _ w38 ⟨rfl, hE39⟩
  have H40 := H37.ext hE39
  refine sqAny (v := .bool (false)) (w' := w38) (wantedSome (d' := 11) (b := false) rfl rfl rfl) (r_notT rfl) ?_
  refine sq (r_pickF (v := .bool (false)) rfl rfl) ?_
  refine sq (r_move (v := .bool (false)) rfl) ?_
  refine sqAny (v := .slice lsa ls.length lsc) (w' := w38) (wantedSome (d' := 16) (b := false) rfl rfl rfl) (r_move (v := .slice lsa ls.length lsc) rfl) ?_
  refine sqAny (v := i64 ((ls.length : Nat))) (w' := w38) (wantedSome (d' := 16) (b := false) rfl rfl rfl) (r_lenS sli92 (a := lsa) (m := ls.length) (c := lsc) rfl) ?_
  refine sqAny (v := .bool (false)) (w' := w38) (wantedSome (d' := 16) (b := false) rfl rfl rfl) ((r_gtrI (a := (ls.length : Nat)) (b := (300 : Int)) rfl rfl).as (v' := .bool (false)) (by exact congrArg Value.bool (decide_eq_false (by omega)))) ?_
  refine sq (r_pickF (v := .bool (false)) rfl rfl) ?_
  refine sq (r_move (v := .bool (false)) rfl) ?_
  refine sqAny (v := .slice tsa tb.length tsc) (w' := w38) (wantedSome (d' := 21) (b := false) rfl rfl rfl) (r_move (v := .slice tsa tb.length tsc) rfl) ?_
  refine sqAny (v := i64 ((tb.length : Nat))) (w' := w38) (wantedSome (d' := 21) (b := false) rfl rfl rfl) (r_lenS sli92 (a := tsa) (m := tb.length) (c := tsc) rfl) ?_
  refine sqAny (v := .bool (false)) (w' := w38) (wantedSome (d' := 21) (b := false) rfl rfl rfl) ((r_gtrI (a := (tb.length : Nat)) (b := (300 : Int)) rfl rfl).as (v' := .bool (false)) (by exact congrArg Value.bool (decide_eq_false (by omega)))) ?_
  refine sq (r_pickF (v := .bool (false)) rfl rfl) ?_
  refine wend ?_
  refine condFalse rfl ?_
  refine skipAny ?_
  refine thenNormal ?_
  refine seqRegion ?_
  refine sq (r_loadA (cs' := #[i64 (n), .slice ga gs.length gc, .slice oa ol.length oc]) agg70 siz70 (H40.get (k := 0) rfl) (off := 0) rfl (by exact Nat.le_of_ble_eq_true rfl) (by rfl)) ?_
  refine c_call (vs := [.agg #[i64 (n), .slice ga gs.length gc, .slice oa ol.length oc]]) call43 rfl (own_ok n gs ol ga oa gc oc hgc hoc w38 (hGs.ext H40.chg) (hOl.ext H40.chg)) ?_
  rintro _ w41 ⟨⟨ng43, no44, kg45, cg46, spg47, ko48, co49, spo50, rfl, rfl, rfl, hSg51, hSo52, HN53⟩, hE54⟩
  rw [← hg1] at hSg51 HN53
  rw [← hl1] at hSo52 HN53
  rw [← hg1, ← hl1]
  have H55 := (H40.join HN53).as (L' := [(ko48, sob EI 3 l1 spo50), (kg45, sob EG 99 g1 spg47), (some b31, .cells #[i64 (n), .slice ga gs.length gc, .slice oa ol.length oc] 70 (0, 0))]) rfl
  refine d_store (k := 2) (v := .agg #[i64 (n), .slice (ownA kg45) g1.length cg46, .slice (ownA ko48) l1.length co49]) (cs' := #[i64 (n), .slice (ownA kg45) g1.length cg46, .slice (ownA ko48) l1.length co49]) H55 rfl rfl rfl siz70 (by rfl) (by intro u hu; simp [Value.cells] at hu; first | (subst hu; rfl) | (rcases hu with rfl | rfl | rfl <;> rfl)) (by exact Nat.le_of_ble_eq_true rfl) (by rfl) ?_
  intro w56 H57 hC58
  have H57' := H57.as (L' := [(ko48, sob EI 3 l1 spo50), (kg45, sob EG 99 g1 spg47), (some b31, .cells #[i64 (n), .slice (ownA kg45) g1.length cg46, .slice (ownA ko48) l1.length co49] 70 (0, 0))]) rfl
  clear H57
  refine wend ?_
  refine seqAny ?_
  refine drawP (m := 13) [0, 0, 0, 6, 0, 0, 62, 127, 255, 511, 511, 1023, 4095] [1, 3, 4, 6, 7] (fun bs vs w' => match bs, vs with | [false, false, false, false, false], [_, _, _, _, _] => Hp No w w' [(ko48, sob EI 3 l1 spo50), (kg45, sob EG 99 g1 spg47), (some b31, .cells #[i64 (n), .slice (ownA kg45) g1.length cg46, .slice (ownA ko48) l1.length co49] 70 (0, 0))] | [true, false, false, false, false], [v1, _, _, _, _] => ∃ (b60 : Nat), v1 = .slice (ownA (some b60)) 0 0 ∧ Sl ELb (some b60) ([] : List (BitVec 64 × BitVec 64)) 0 ([]) ∧ Hp No w w' [((some b60), sob ELb 38 ([] : List (BitVec 64 × BitVec 64)) ([])), (ko48, sob EI 3 l1 spo50), (kg45, sob EG 99 g1 spg47), (some b31, .cells #[i64 (n), .slice (ownA kg45) g1.length cg46, .slice (ownA ko48) l1.length co49] 70 (0, 0))] | [true, true, false, false, false], [v1, v3, _, _, _] => ∃ (b60 : Nat) (key66 : Option Nat) (c67 : Nat) (sp68 : List Value), v1 = .slice (ownA (some b60)) 0 0 ∧ v3 = .slice (ownA key66) (0 + ls.length) c67 ∧ Sl ELb key66 ls c67 sp68 ∧ Hp No w w' [(key66, sob ELb 38 ls sp68), (ko48, sob EI 3 l1 spo50), (kg45, sob EG 99 g1 spg47), (some b31, .cells #[i64 (n), .slice (ownA kg45) g1.length cg46, .slice (ownA ko48) l1.length co49] 70 (0, 0))] | [false, false, true, false, false], [_, _, v4, _, _] => ∃ (b77 : Nat), v4 = .slice (ownA (some b77)) 0 0 ∧ Sl ELb (some b77) ([] : List (BitVec 64 × BitVec 64)) 0 ([]) ∧ Hp No w w' [((some b77), sob ELb 38 ([] : List (BitVec 64 × BitVec 64)) ([])), (ko48, sob EI 3 l1 spo50), (kg45, sob EG 99 g1 spg47), (some b31, .cells #[i64 (n), .slice (ownA kg45) g1.length cg46, .slice (ownA ko48) l1.length co49] 70 (0, 0))] | [true, false, true, false, false], [v1, _, v4, _, _] => ∃ (b60 : Nat) (b83 : Nat), v1 = .slice (ownA (some b60)) 0 0 ∧ v4 = .slice (ownA (some b83)) 0 0 ∧ Sl ELb (some b83) ([] : List (BitVec 64 × BitVec 64)) 0 ([]) ∧ Sl ELb (some b60) ([] : List (BitVec 64 × BitVec 64)) 0 ([]) ∧ Hp No w w' [((some b83), sob ELb 38 ([] : List (BitVec 64 × BitVec 64)) ([])), ((some b60), sob ELb 38 ([] : List (BitVec 64 × BitVec 64)) ([])), (ko48, sob EI 3 l1 spo50), (kg45, sob EG 99 g1 spg47), (some b31, .cells #[i64 (n), .slice (ownA kg45) g1.length cg46, .slice (ownA ko48) l1.length co49] 70 (0, 0))] | [true, true, true, false, false], [v1, v3, v4, _, _] => ∃ (b60 : Nat) (key66 : Option Nat) (c67 : Nat) (sp68 : List Value) (b89 : Nat), v1 = .slice (ownA (some b60)) 0 0 ∧ v3 = .slice (ownA key66) (0 + ls.length) c67 ∧ v4 = .slice (ownA (some b89)) 0 0 ∧ Sl ELb (some b89) ([] : List (BitVec 64 × BitVec 64)) 0 ([]) ∧ Sl ELb key66 ls c67 sp68 ∧ Hp No w w' [((some b89), sob ELb 38 ([] : List (BitVec 64 × BitVec 64)) ([])), (key66, sob ELb 38 ls sp68), (ko48, sob EI 3 l1 spo50), (kg45, sob EG 99 g1 spg47), (some b31, .cells #[i64 (n), .slice (ownA kg45) g1.length cg46, .slice (ownA ko48) l1.length co49] 70 (0, 0))] | [true, true, true, true, false], [v1, v3, v4, v6, _] => ∃ (b60 : Nat) (key66 : Option Nat) (c67 : Nat) (sp68 : List Value) (b89 : Nat) (key95 : Option Nat) (c96 : Nat) (sp97 : List Value), v1 = .slice (ownA (some b60)) 0 0 ∧ v3 = .slice (ownA key66) (0 + ls.length) c67 ∧ v4 = .slice (ownA (some b89)) 0 0 ∧ v6 = .slice (ownA key95) (0 + tb.length) c96 ∧ Sl ELb key95 tb c96 sp97 ∧ Sl ELb key66 ls c67 sp68 ∧ Hp No w w' [(key95, sob ELb 38 tb sp97), (key66, sob ELb 38 ls sp68), (ko48, sob EI 3 l1 spo50), (kg45, sob EG 99 g1 spg47), (some b31, .cells #[i64 (n), .slice (ownA kg45) g1.length cg46, .slice (ownA ko48) l1.length co49] 70 (0, 0))] | [true, true, true, true, true], [v1, v3, v4, v6, v7] => ∃ (b60 : Nat) (key66 : Option Nat) (c67 : Nat) (sp68 : List Value) (b89 : Nat) (key95 : Option Nat) (c96 : Nat) (sp97 : List Value) (lo114 : Nat) (T112 : TypeId) (x113 : Value), v1 = .slice (ownA (some b60)) 0 0 ∧ v3 = .slice (ownA key66) (0 + ls.length) c67 ∧ v4 = .slice (ownA (some b89)) 0 0 ∧ v6 = .slice (ownA key95) (0 + tb.length) c96 ∧ v7 = .tuple #[.slice none 0 0, .iface T112 (x113)] ∧ Sl ELb key95 tb c96 sp97 ∧ Sl ELb key66 ls c67 sp68 ∧ Er lo114 w' 90 1 (.iface T112 x113) ∧ b31 < lo114 ∧ Hp No w w' [(key95, sob ELb 38 tb sp97), (key66, sob ELb 38 ls sp68), (ko48, sob EI 3 l1 spo50), (kg45, sob EG 99 g1 spg47), (some b31, .cells #[i64 (n), .slice (ownA kg45) g1.length cg46, .slice (ownA ko48) l1.length co49] 70 (0, 0))] | _, _ => False) mixed (by kernel_rfl) (by kernel_rfl) H57'.drew ?_
  refine WalkP.look rfl (fun _ => .agg #[i64 (n), .slice (ownA kg45) g1.length cg46, .slice (ownA ko48) l1.length co49]) (fun _ _ _ => rfl) (fun L r uw hAn hDn hF => ?_) ?_
  · skip
    have b7 : L 7 = false := hDn 7 (by decide) rfl
    rcases Bool.eq_false_or_eq_true (L 1) with b1 | b1
    · skip
      rcases Bool.eq_false_or_eq_true (L 3) with b3 | b3
      · skip
        rcases Bool.eq_false_or_eq_true (L 4) with b4 | b4
        · skip
          rcases Bool.eq_false_or_eq_true (L 6) with b6 | b6
          · skip
            have hb : List.map L [1, 3, 4, 6, 7] = [true, true, true, true, false] := by simp only [List.map_cons, List.map_nil, b1, b3, b4, b6, b7]
            rw [hb] at hF
            obtain ⟨b60, key66, c67, sp68, b89, key95, c96, sp97, e1, e3, e4, e6, hS103, hS74, HH⟩ := hF
            exact Gives.run rfl (r_loadA (cs' := #[i64 (n), .slice (ownA kg45) g1.length cg46, .slice (ownA ko48) l1.length co49]) agg70 siz70 (HH.get (k := 4) rfl) (off := 0) rfl (by exact Nat.le_of_ble_eq_true rfl) (by rfl)) ⟨rfl, rfl⟩
          · skip
            have hb : List.map L [1, 3, 4, 6, 7] = [true, true, true, false, false] := by simp only [List.map_cons, List.map_nil, b1, b3, b4, b6, b7]
            rw [hb] at hF
            obtain ⟨b60, key66, c67, sp68, b89, e1, e3, e4, hS90, hS74, HH⟩ := hF
            exact Gives.run rfl (r_loadA (cs' := #[i64 (n), .slice (ownA kg45) g1.length cg46, .slice (ownA ko48) l1.length co49]) agg70 siz70 (HH.get (k := 4) rfl) (off := 0) rfl (by exact Nat.le_of_ble_eq_true rfl) (by rfl)) ⟨rfl, rfl⟩
        · skip
          rcases Bool.eq_false_or_eq_true (L 6) with b6 | b6
          · skip
            have hb : List.map L [1, 3, 4, 6, 7] = [true, true, false, true, false] := by simp only [List.map_cons, List.map_nil, b1, b3, b4, b6, b7]
            rw [hb] at hF
            exact False.elim hF
          · skip
            have hb : List.map L [1, 3, 4, 6, 7] = [true, true, false, false, false] := by simp only [List.map_cons, List.map_nil, b1, b3, b4, b6, b7]
            rw [hb] at hF
            obtain ⟨b60, key66, c67, sp68, e1, e3, hS74, HH⟩ := hF
            exact Gives.run rfl (r_loadA (cs' := #[i64 (n), .slice (ownA kg45) g1.length cg46, .slice (ownA ko48) l1.length co49]) agg70 siz70 (HH.get (k := 3) rfl) (off := 0) rfl (by exact Nat.le_of_ble_eq_true rfl) (by rfl)) ⟨rfl, rfl⟩
      · skip
        rcases Bool.eq_false_or_eq_true (L 4) with b4 | b4
        · skip
          rcases Bool.eq_false_or_eq_true (L 6) with b6 | b6
          · skip
            have hb : List.map L [1, 3, 4, 6, 7] = [true, false, true, true, false] := by simp only [List.map_cons, List.map_nil, b1, b3, b4, b6, b7]
            rw [hb] at hF
            exact False.elim hF
          · skip
            have hb : List.map L [1, 3, 4, 6, 7] = [true, false, true, false, false] := by simp only [List.map_cons, List.map_nil, b1, b3, b4, b6, b7]
            rw [hb] at hF
            obtain ⟨b60, b83, e1, e4, hS84, hS61, HH⟩ := hF
            exact Gives.run rfl (r_loadA (cs' := #[i64 (n), .slice (ownA kg45) g1.length cg46, .slice (ownA ko48) l1.length co49]) agg70 siz70 (HH.get (k := 4) rfl) (off := 0) rfl (by exact Nat.le_of_ble_eq_true rfl) (by rfl)) ⟨rfl, rfl⟩
        · skip
          rcases Bool.eq_false_or_eq_true (L 6) with b6 | b6
          · skip
            have hb : List.map L [1, 3, 4, 6, 7] = [true, false, false, true, false] := by simp only [List.map_cons, List.map_nil, b1, b3, b4, b6, b7]
            rw [hb] at hF
            exact False.elim hF
          · skip
            have hb : List.map L [1, 3, 4, 6, 7] = [true, false, false, false, false] := by simp only [List.map_cons, List.map_nil, b1, b3, b4, b6, b7]
            rw [hb] at hF
            obtain ⟨b60, e1, hS61, HH⟩ := hF
            exact Gives.run rfl (r_loadA (cs' := #[i64 (n), .slice (ownA kg45) g1.length cg46, .slice (ownA ko48) l1.length co49]) agg70 siz70 (HH.get (k := 3) rfl) (off := 0) rfl (by exact Nat.le_of_ble_eq_true rfl) (by rfl)) ⟨rfl, rfl⟩
    · skip
      rcases Bool.eq_false_or_eq_true (L 3) with b3 | b3
      · skip
        rcases Bool.eq_false_or_eq_true (L 4) with b4 | b4
        · skip
          rcases Bool.eq_false_or_eq_true (L 6) with b6 | b6
          · skip
            have hb : List.map L [1, 3, 4, 6, 7] = [false, true, true, true, false] := by simp only [List.map_cons, List.map_nil, b1, b3, b4, b6, b7]
            rw [hb] at hF
            exact False.elim hF
          · skip
            have hb : List.map L [1, 3, 4, 6, 7] = [false, true, true, false, false] := by simp only [List.map_cons, List.map_nil, b1, b3, b4, b6, b7]
            rw [hb] at hF
            exact False.elim hF
        · skip
          rcases Bool.eq_false_or_eq_true (L 6) with b6 | b6
          · skip
            have hb : List.map L [1, 3, 4, 6, 7] = [false, true, false, true, false] := by simp only [List.map_cons, List.map_nil, b1, b3, b4, b6, b7]
            rw [hb] at hF
            exact False.elim hF
          · skip
            have hb : List.map L [1, 3, 4, 6, 7] = [false, true, false, false, false] := by simp only [List.map_cons, List.map_nil, b1, b3, b4, b6, b7]
            rw [hb] at hF
            exact False.elim hF
      · skip
        rcases Bool.eq_false_or_eq_true (L 4) with b4 | b4
        · skip
          rcases Bool.eq_false_or_eq_true (L 6) with b6 | b6
          · skip
            have hb : List.map L [1, 3, 4, 6, 7] = [false, false, true, true, false] := by simp only [List.map_cons, List.map_nil, b1, b3, b4, b6, b7]
            rw [hb] at hF
            exact False.elim hF
          · skip
            have hb : List.map L [1, 3, 4, 6, 7] = [false, false, true, false, false] := by simp only [List.map_cons, List.map_nil, b1, b3, b4, b6, b7]
            rw [hb] at hF
            obtain ⟨b77, e4, hS78, HH⟩ := hF
            exact Gives.run rfl (r_loadA (cs' := #[i64 (n), .slice (ownA kg45) g1.length cg46, .slice (ownA ko48) l1.length co49]) agg70 siz70 (HH.get (k := 3) rfl) (off := 0) rfl (by exact Nat.le_of_ble_eq_true rfl) (by rfl)) ⟨rfl, rfl⟩
        · skip
          rcases Bool.eq_false_or_eq_true (L 6) with b6 | b6
          · skip
            have hb : List.map L [1, 3, 4, 6, 7] = [false, false, false, true, false] := by simp only [List.map_cons, List.map_nil, b1, b3, b4, b6, b7]
            rw [hb] at hF
            exact False.elim hF
          · skip
            have hb : List.map L [1, 3, 4, 6, 7] = [false, false, false, false, false] := by simp only [List.map_cons, List.map_nil, b1, b3, b4, b6, b7]
            rw [hb] at hF
            have HH := hF
            exact Gives.run rfl (r_loadA (cs' := #[i64 (n), .slice (ownA kg45) g1.length cg46, .slice (ownA ko48) l1.length co49]) agg70 siz70 (HH.get (k := 2) rfl) (off := 0) rfl (by exact Nat.le_of_ble_eq_true rfl) (by rfl)) ⟨rfl, rfl⟩
  refine WalkP.eff 0 rfl (fun L r uw hLn hAn hDn hF => ?_) ?_
  · skip
    have b1 : L 1 = false := hLn
    have b3 : L 3 = false := hDn 3 (by decide) rfl
    have b6 : L 6 = false := hDn 6 (by decide) rfl
    have b7 : L 7 = false := hDn 7 (by decide) rfl
    rcases Bool.eq_false_or_eq_true (L 4) with b4 | b4
    · skip
      have hb : List.map L [1, 3, 4, 6, 7] = [false, false, true, false, false] := by simp only [List.map_cons, List.map_nil, b1, b3, b4, b6, b7]
      rw [hb] at hF ⊢
      obtain ⟨b77, e4, hS78, H117⟩ := hF
      dsimp only
      refine Gives.ofW (d := 31) rfl rfl (fun Q' hK => ?_)
      refine q_buildSlice (E := ELb) (l := ([] : List (BitVec 64 × BitVec 64))) H117 sli92 zer38 (Nat.le_of_ble_eq_true rfl) (ps := []) rfl (by exact fillAll rfl rfl) rfl ?_
      intro b118 w120 hS119 H121 hE122
      exact hK _ _ (show ∃ (b60 : Nat) (b83 : Nat), (_ : Value) = .slice (ownA (some b60)) 0 0 ∧ r 4 = .slice (ownA (some b83)) 0 0 ∧ Sl ELb (some b83) ([] : List (BitVec 64 × BitVec 64)) 0 ([]) ∧ Sl ELb (some b60) ([] : List (BitVec 64 × BitVec 64)) 0 ([]) ∧ Hp No w w120 [((some b83), sob ELb 38 ([] : List (BitVec 64 × BitVec 64)) ([])), ((some b60), sob ELb 38 ([] : List (BitVec 64 × BitVec 64)) ([])), (ko48, sob EI 3 l1 spo50), (kg45, sob EG 99 g1 spg47), (some b31, .cells #[i64 (n), .slice (ownA kg45) g1.length cg46, .slice (ownA ko48) l1.length co49] 70 (0, 0))] from ⟨b118, b77, rfl, e4, hS78, hS119, (((((H121.pull (k := 4) rfl).pull (k := 4) rfl).pull (k := 4) rfl).pull (k := 3) rfl).pull (k := 4) rfl)⟩)
    · skip
      have hb : List.map L [1, 3, 4, 6, 7] = [false, false, false, false, false] := by simp only [List.map_cons, List.map_nil, b1, b3, b4, b6, b7]
      rw [hb] at hF ⊢
      have H123 := hF
      dsimp only
      refine Gives.ofW (d := 31) rfl rfl (fun Q' hK => ?_)
      refine q_buildSlice (E := ELb) (l := ([] : List (BitVec 64 × BitVec 64))) H123 sli92 zer38 (Nat.le_of_ble_eq_true rfl) (ps := []) rfl (by exact fillAll rfl rfl) rfl ?_
      intro b124 w126 hS125 H127 hE128
      exact hK _ _ (show ∃ (b60 : Nat), (_ : Value) = .slice (ownA (some b60)) 0 0 ∧ Sl ELb (some b60) ([] : List (BitVec 64 × BitVec 64)) 0 ([]) ∧ Hp No w w126 [((some b60), sob ELb 38 ([] : List (BitVec 64 × BitVec 64)) ([])), (ko48, sob EI 3 l1 spo50), (kg45, sob EG 99 g1 spg47), (some b31, .cells #[i64 (n), .slice (ownA kg45) g1.length cg46, .slice (ownA ko48) l1.length co49] 70 (0, 0))] from ⟨b124, rfl, hS125, ((((H127.pull (k := 3) rfl).pull (k := 3) rfl).pull (k := 3) rfl).pull (k := 3) rfl)⟩)
  refine WalkP.look rfl (fun _ => .slice lsa ls.length lsc) (fun _ _ _ => rfl) (fun L r uw _ _ _ => Gives.run rfl (r_move (v := .slice lsa ls.length lsc) rfl) ⟨rfl, rfl⟩) ?_
  refine WalkP.eff 1 rfl (fun L r uw hLn hAn hDn hF => ?_) ?_
  · skip
    have b1 : L 1 = true := hAn 1 (by decide) rfl
    have b3 : L 3 = false := hLn
    have b6 : L 6 = false := hDn 6 (by decide) rfl
    have b7 : L 7 = false := hDn 7 (by decide) rfl
    rcases Bool.eq_false_or_eq_true (L 4) with b4 | b4
    · skip
      have hb : List.map L [1, 3, 4, 6, 7] = [true, false, true, false, false] := by simp only [List.map_cons, List.map_nil, b1, b3, b4, b6, b7]
      rw [hb] at hF ⊢
      obtain ⟨b60, b83, e1, e4, hS84, hS61, H129⟩ := hF
      dsimp only
      rw [e1]
      refine Gives.ofW (d := 33) rfl rfl (fun Q' hK => ?_)
      refine q_append (E := ELb) (k := 1) (l := ([] : List (BitVec 64 × BitVec 64))) (l2 := ls) H129 rfl hS61 sli92 zer38 rfl byt38 (hLs.ext H129.chg) rfl (by rfl) rfl (by rfl) (by omega) ?_
      intro key130 c131 sp132 w134 hS133 hne136 H135
      have H135' := H135.as (L' := [((some b83), sob ELb 38 ([] : List (BitVec 64 × BitVec 64)) ([])), (key130, sob ELb 38 (([] : List (BitVec 64 × BitVec 64)) ++ ls) sp132), (ko48, sob EI 3 l1 spo50), (kg45, sob EG 99 g1 spg47), (some b31, .cells #[i64 (n), .slice (ownA kg45) g1.length cg46, .slice (ownA ko48) l1.length co49] 70 (0, 0))]) rfl
      clear H135
      have e137 : ([] : List (BitVec 64 × BitVec 64)) ++ ls = ls := by rw [List.nil_append]
      have hS138 := hS133
      rw [e137] at hS138
      have H139 := H135'.as (L' := [((some b83), sob ELb 38 ([] : List (BitVec 64 × BitVec 64)) ([])), (key130, sob ELb 38 ls sp132), (ko48, sob EI 3 l1 spo50), (kg45, sob EG 99 g1 spg47), (some b31, .cells #[i64 (n), .slice (ownA kg45) g1.length cg46, .slice (ownA ko48) l1.length co49] 70 (0, 0))]) (by rw [e137])
      exact hK _ _ (show ∃ (b60 : Nat) (key66 : Option Nat) (c67 : Nat) (sp68 : List Value) (b89 : Nat), r 1 = .slice (ownA (some b60)) 0 0 ∧ (_ : Value) = .slice (ownA key66) (0 + ls.length) c67 ∧ r 4 = .slice (ownA (some b89)) 0 0 ∧ Sl ELb (some b89) ([] : List (BitVec 64 × BitVec 64)) 0 ([]) ∧ Sl ELb key66 ls c67 sp68 ∧ Hp No w w134 [((some b89), sob ELb 38 ([] : List (BitVec 64 × BitVec 64)) ([])), (key66, sob ELb 38 ls sp68), (ko48, sob EI 3 l1 spo50), (kg45, sob EG 99 g1 spg47), (some b31, .cells #[i64 (n), .slice (ownA kg45) g1.length cg46, .slice (ownA ko48) l1.length co49] 70 (0, 0))] from ⟨b60, key130, c131, sp132, b83, e1, rfl, e4, hS84, hS138, (((((H139.pull (k := 4) rfl).pull (k := 4) rfl).pull (k := 4) rfl).pull (k := 4) rfl).pull (k := 4) rfl)⟩)
    · skip
      have hb : List.map L [1, 3, 4, 6, 7] = [true, false, false, false, false] := by simp only [List.map_cons, List.map_nil, b1, b3, b4, b6, b7]
      rw [hb] at hF ⊢
      obtain ⟨b60, e1, hS61, H140⟩ := hF
      dsimp only
      rw [e1]
      refine Gives.ofW (d := 33) rfl rfl (fun Q' hK => ?_)
      refine q_append (E := ELb) (k := 0) (l := ([] : List (BitVec 64 × BitVec 64))) (l2 := ls) H140 rfl hS61 sli92 zer38 rfl byt38 (hLs.ext H140.chg) rfl (by rfl) rfl (by rfl) (by omega) ?_
      intro key141 c142 sp143 w145 hS144 hne147 H146
      have H146' := H146.as (L' := [(key141, sob ELb 38 (([] : List (BitVec 64 × BitVec 64)) ++ ls) sp143), (ko48, sob EI 3 l1 spo50), (kg45, sob EG 99 g1 spg47), (some b31, .cells #[i64 (n), .slice (ownA kg45) g1.length cg46, .slice (ownA ko48) l1.length co49] 70 (0, 0))]) rfl
      clear H146
      have e148 : ([] : List (BitVec 64 × BitVec 64)) ++ ls = ls := by rw [List.nil_append]
      have hS149 := hS144
      rw [e148] at hS149
      have H150 := H146'.as (L' := [(key141, sob ELb 38 ls sp143), (ko48, sob EI 3 l1 spo50), (kg45, sob EG 99 g1 spg47), (some b31, .cells #[i64 (n), .slice (ownA kg45) g1.length cg46, .slice (ownA ko48) l1.length co49] 70 (0, 0))]) (by rw [e148])
      exact hK _ _ (show ∃ (b60 : Nat) (key66 : Option Nat) (c67 : Nat) (sp68 : List Value), r 1 = .slice (ownA (some b60)) 0 0 ∧ (_ : Value) = .slice (ownA key66) (0 + ls.length) c67 ∧ Sl ELb key66 ls c67 sp68 ∧ Hp No w w145 [(key66, sob ELb 38 ls sp68), (ko48, sob EI 3 l1 spo50), (kg45, sob EG 99 g1 spg47), (some b31, .cells #[i64 (n), .slice (ownA kg45) g1.length cg46, .slice (ownA ko48) l1.length co49] 70 (0, 0))] from ⟨b60, key141, c142, sp143, e1, rfl, hS149, ((((H150.pull (k := 3) rfl).pull (k := 3) rfl).pull (k := 3) rfl).pull (k := 3) rfl)⟩)
  refine WalkP.eff 2 rfl (fun L r uw hLn hAn hDn hF => ?_) ?_
  · skip
    have b4 : L 4 = false := hLn
    have b6 : L 6 = false := hDn 6 (by decide) rfl
    have b7 : L 7 = false := hDn 7 (by decide) rfl
    rcases Bool.eq_false_or_eq_true (L 1) with b1 | b1
    · skip
      rcases Bool.eq_false_or_eq_true (L 3) with b3 | b3
      · skip
        have hb : List.map L [1, 3, 4, 6, 7] = [true, true, false, false, false] := by simp only [List.map_cons, List.map_nil, b1, b3, b4, b6, b7]
        rw [hb] at hF ⊢
        obtain ⟨b60, key66, c67, sp68, e1, e3, hS74, H151⟩ := hF
        dsimp only
        rw [e1, e3]
        refine Gives.ofW (d := 34) rfl rfl (fun Q' hK => ?_)
        refine q_buildSlice (E := ELb) (l := ([] : List (BitVec 64 × BitVec 64))) H151 sli92 zer38 (Nat.le_of_ble_eq_true rfl) (ps := []) rfl (by exact fillAll rfl rfl) rfl ?_
        intro b152 w154 hS153 H155 hE156
        exact hK _ _ (show ∃ (b60 : Nat) (key66 : Option Nat) (c67 : Nat) (sp68 : List Value) (b89 : Nat), r 1 = .slice (ownA (some b60)) 0 0 ∧ r 3 = .slice (ownA key66) (0 + ls.length) c67 ∧ (_ : Value) = .slice (ownA (some b89)) 0 0 ∧ Sl ELb (some b89) ([] : List (BitVec 64 × BitVec 64)) 0 ([]) ∧ Sl ELb key66 ls c67 sp68 ∧ Hp No w w154 [((some b89), sob ELb 38 ([] : List (BitVec 64 × BitVec 64)) ([])), (key66, sob ELb 38 ls sp68), (ko48, sob EI 3 l1 spo50), (kg45, sob EG 99 g1 spg47), (some b31, .cells #[i64 (n), .slice (ownA kg45) g1.length cg46, .slice (ownA ko48) l1.length co49] 70 (0, 0))] from ⟨b60, key66, c67, sp68, b152, e1, e3, rfl, hS153, hS74, (((((H155.pull (k := 4) rfl).pull (k := 4) rfl).pull (k := 4) rfl).pull (k := 4) rfl).pull (k := 4) rfl)⟩)
      · skip
        have hb : List.map L [1, 3, 4, 6, 7] = [true, false, false, false, false] := by simp only [List.map_cons, List.map_nil, b1, b3, b4, b6, b7]
        rw [hb] at hF ⊢
        obtain ⟨b60, e1, hS61, H157⟩ := hF
        dsimp only
        rw [e1]
        refine Gives.ofW (d := 34) rfl rfl (fun Q' hK => ?_)
        refine q_buildSlice (E := ELb) (l := ([] : List (BitVec 64 × BitVec 64))) H157 sli92 zer38 (Nat.le_of_ble_eq_true rfl) (ps := []) rfl (by exact fillAll rfl rfl) rfl ?_
        intro b158 w160 hS159 H161 hE162
        exact hK _ _ (show ∃ (b60 : Nat) (b83 : Nat), r 1 = .slice (ownA (some b60)) 0 0 ∧ (_ : Value) = .slice (ownA (some b83)) 0 0 ∧ Sl ELb (some b83) ([] : List (BitVec 64 × BitVec 64)) 0 ([]) ∧ Sl ELb (some b60) ([] : List (BitVec 64 × BitVec 64)) 0 ([]) ∧ Hp No w w160 [((some b83), sob ELb 38 ([] : List (BitVec 64 × BitVec 64)) ([])), ((some b60), sob ELb 38 ([] : List (BitVec 64 × BitVec 64)) ([])), (ko48, sob EI 3 l1 spo50), (kg45, sob EG 99 g1 spg47), (some b31, .cells #[i64 (n), .slice (ownA kg45) g1.length cg46, .slice (ownA ko48) l1.length co49] 70 (0, 0))] from ⟨b60, b158, e1, rfl, hS159, hS61, (((((H161.pull (k := 4) rfl).pull (k := 4) rfl).pull (k := 4) rfl).pull (k := 4) rfl).pull (k := 4) rfl)⟩)
    · skip
      rcases Bool.eq_false_or_eq_true (L 3) with b3 | b3
      · skip
        have hb : List.map L [1, 3, 4, 6, 7] = [false, true, false, false, false] := by simp only [List.map_cons, List.map_nil, b1, b3, b4, b6, b7]
        rw [hb] at hF
        exact False.elim hF
      · skip
        have hb : List.map L [1, 3, 4, 6, 7] = [false, false, false, false, false] := by simp only [List.map_cons, List.map_nil, b1, b3, b4, b6, b7]
        rw [hb] at hF ⊢
        have H163 := hF
        dsimp only
        refine Gives.ofW (d := 34) rfl rfl (fun Q' hK => ?_)
        refine q_buildSlice (E := ELb) (l := ([] : List (BitVec 64 × BitVec 64))) H163 sli92 zer38 (Nat.le_of_ble_eq_true rfl) (ps := []) rfl (by exact fillAll rfl rfl) rfl ?_
        intro b164 w166 hS165 H167 hE168
        exact hK _ _ (show ∃ (b77 : Nat), (_ : Value) = .slice (ownA (some b77)) 0 0 ∧ Sl ELb (some b77) ([] : List (BitVec 64 × BitVec 64)) 0 ([]) ∧ Hp No w w166 [((some b77), sob ELb 38 ([] : List (BitVec 64 × BitVec 64)) ([])), (ko48, sob EI 3 l1 spo50), (kg45, sob EG 99 g1 spg47), (some b31, .cells #[i64 (n), .slice (ownA kg45) g1.length cg46, .slice (ownA ko48) l1.length co49] 70 (0, 0))] from ⟨b164, rfl, hS165, ((((H167.pull (k := 3) rfl).pull (k := 3) rfl).pull (k := 3) rfl).pull (k := 3) rfl)⟩)
  refine WalkP.look rfl (fun _ => .slice tsa tb.length tsc) (fun _ _ _ => rfl) (fun L r uw _ _ _ => Gives.run rfl (r_move (v := .slice tsa tb.length tsc) rfl) ⟨rfl, rfl⟩) ?_
  refine WalkP.eff 3 rfl (fun L r uw hLn hAn hDn hF => ?_) ?_
  · skip
    have b1 : L 1 = true := hAn 1 (by decide) rfl
    have b3 : L 3 = true := hAn 3 (by decide) rfl
    have b4 : L 4 = true := hAn 4 (by decide) rfl
    have b6 : L 6 = false := hLn
    have b7 : L 7 = false := hDn 7 (by decide) rfl
    have hb : List.map L [1, 3, 4, 6, 7] = [true, true, true, false, false] := by simp only [List.map_cons, List.map_nil, b1, b3, b4, b6, b7]
    rw [hb] at hF ⊢
    obtain ⟨b60, key66, c67, sp68, b89, e1, e3, e4, hS90, hS74, H169⟩ := hF
    dsimp only
    rw [e1, e3, e4]
    refine Gives.ofW (d := 36) rfl rfl (fun Q' hK => ?_)
    refine q_append (E := ELb) (k := 0) (l := ([] : List (BitVec 64 × BitVec 64))) (l2 := tb) H169 rfl hS90 sli92 zer38 rfl byt38 (hTb.ext H169.chg) rfl (by rfl) rfl (by rfl) (by omega) ?_
    intro key170 c171 sp172 w174 hS173 hne176 H175
    have H175' := H175.as (L' := [(key170, sob ELb 38 (([] : List (BitVec 64 × BitVec 64)) ++ tb) sp172), (key66, sob ELb 38 ls sp68), (ko48, sob EI 3 l1 spo50), (kg45, sob EG 99 g1 spg47), (some b31, .cells #[i64 (n), .slice (ownA kg45) g1.length cg46, .slice (ownA ko48) l1.length co49] 70 (0, 0))]) rfl
    clear H175
    have e177 : ([] : List (BitVec 64 × BitVec 64)) ++ tb = tb := by rw [List.nil_append]
    have hS178 := hS173
    rw [e177] at hS178
    have H179 := H175'.as (L' := [(key170, sob ELb 38 tb sp172), (key66, sob ELb 38 ls sp68), (ko48, sob EI 3 l1 spo50), (kg45, sob EG 99 g1 spg47), (some b31, .cells #[i64 (n), .slice (ownA kg45) g1.length cg46, .slice (ownA ko48) l1.length co49] 70 (0, 0))]) (by rw [e177])
    exact hK _ _ (show ∃ (b60 : Nat) (key66 : Option Nat) (c67 : Nat) (sp68 : List Value) (b89 : Nat) (key95 : Option Nat) (c96 : Nat) (sp97 : List Value), r 1 = .slice (ownA (some b60)) 0 0 ∧ r 3 = .slice (ownA key66) (0 + ls.length) c67 ∧ r 4 = .slice (ownA (some b89)) 0 0 ∧ (_ : Value) = .slice (ownA key95) (0 + tb.length) c96 ∧ Sl ELb key95 tb c96 sp97 ∧ Sl ELb key66 ls c67 sp68 ∧ Hp No w w174 [(key95, sob ELb 38 tb sp97), (key66, sob ELb 38 ls sp68), (ko48, sob EI 3 l1 spo50), (kg45, sob EG 99 g1 spg47), (some b31, .cells #[i64 (n), .slice (ownA kg45) g1.length cg46, .slice (ownA ko48) l1.length co49] 70 (0, 0))] from ⟨b60, key66, c67, sp68, b89, key170, c171, sp172, e1, e3, e4, rfl, hS178, hS74, (((((H179.pull (k := 4) rfl).pull (k := 4) rfl).pull (k := 4) rfl).pull (k := 4) rfl).pull (k := 4) rfl)⟩)
  refine WalkP.eff 4 rfl (fun L r uw hLn hAn hDn hF => ?_) ?_
  · skip
    have b1 : L 1 = true := hAn 1 (by decide) rfl
    have b3 : L 3 = true := hAn 3 (by decide) rfl
    have b4 : L 4 = true := hAn 4 (by decide) rfl
    have b6 : L 6 = true := hAn 6 (by decide) rfl
    have b7 : L 7 = false := hLn
    have hb : List.map L [1, 3, 4, 6, 7] = [true, true, true, true, false] := by simp only [List.map_cons, List.map_nil, b1, b3, b4, b6, b7]
    rw [hb] at hF ⊢
    obtain ⟨b60, key66, c67, sp68, b89, key95, c96, sp97, e1, e3, e4, e6, hS103, hS74, H180⟩ := hF
    dsimp only
    rw [e1, e3, e4, e6]
    refine Gives.ofW (d := 37) rfl rfl (fun Q' hK => ?_)
    have := H180.lt (List.mem_of_getElem? (i := 4) rfl) rfl
    refine c_call (vs := [.agg #[i64 (n), .slice (ownA kg45) g1.length cg46, .slice (ownA ko48) l1.length co49], .slice (ownA key66) (0 + ls.length) c67, .slice (ownA key95) (0 + tb.length) c96, u64 (5#64)]) call46 rfl (eval_badL n g1 l1 (ownA kg45) (ownA ko48) cg46 co49 ls tb (ownA key66) (ownA key95) c67 c96 (5#64) (0 + ls.length) (0 + tb.length) (by exact Nat.zero_add _) (by exact Nat.zero_add _) uw (Chg.gl H180.chg (fun x => x) hG) (H180.rd (k := 3) rfl hSg51) (H180.rd (k := 2) rfl hSo52) (by first | omega | exact Nat.le_of_ble_eq_true rfl) (by first | omega | exact Nat.le_of_ble_eq_true rfl) (H180.rd (k := 1) rfl hS74) (H180.rd (k := 0) rfl hS103) hg) ?_
    rintro _ w181 ⟨⟨v183, rfl, hEr184⟩, hE185⟩
    have H186 := H180.ext hE185
    obtain ⟨T187, x188, rfl⟩ := hEr184.iface
    obtain ⟨lo189, hlo190⟩ : ∃ lo, lo = uw.heap.size := ⟨_, rfl⟩
    rw [← hlo190] at hEr184
    have hlt191 : b31 < lo189 := by omega
    exact hK _ _ (show ∃ (b60 : Nat) (key66 : Option Nat) (c67 : Nat) (sp68 : List Value) (b89 : Nat) (key95 : Option Nat) (c96 : Nat) (sp97 : List Value) (lo114 : Nat) (T112 : TypeId) (x113 : Value), r 1 = .slice (ownA (some b60)) 0 0 ∧ r 3 = .slice (ownA key66) (0 + ls.length) c67 ∧ r 4 = .slice (ownA (some b89)) 0 0 ∧ r 6 = .slice (ownA key95) (0 + tb.length) c96 ∧ (_ : Value) = .tuple #[.slice none 0 0, .iface T112 (x113)] ∧ Sl ELb key95 tb c96 sp97 ∧ Sl ELb key66 ls c67 sp68 ∧ Er lo114 w181 90 1 (.iface T112 x113) ∧ b31 < lo114 ∧ Hp No w w181 [(key95, sob ELb 38 tb sp97), (key66, sob ELb 38 ls sp68), (ko48, sob EI 3 l1 spo50), (kg45, sob EG 99 g1 spg47), (some b31, .cells #[i64 (n), .slice (ownA kg45) g1.length cg46, .slice (ownA ko48) l1.length co49] 70 (0, 0))] from ⟨b60, key66, c67, sp68, b89, key95, c96, sp97, lo189, T187, x188, e1, e3, e4, e6, rfl, hS103, hS74, hEr184, hlt191, (((((H186.pull (k := 4) rfl).pull (k := 4) rfl).pull (k := 4) rfl).pull (k := 4) rfl).pull (k := 4) rfl)⟩)
  refine WalkP.look rfl (fun r => r 7) (fun r r' h => h 7 (by decide) rfl) (fun L r uw _ _ _ => Gives.run rfl (r_move rfl) ⟨rfl, rfl⟩) ?_
  refine WalkP.look rfl (fun r => proj (r 7) 0) (fun r r' h => by rw [h 7 (by decide) rfl]) (fun L r uw hAn hDn hF => ?_) ?_
  · skip
    have b1 : L 1 = true := hAn 1 (by decide) rfl
    have b3 : L 3 = true := hAn 3 (by decide) rfl
    have b4 : L 4 = true := hAn 4 (by decide) rfl
    have b6 : L 6 = true := hAn 6 (by decide) rfl
    have b7 : L 7 = true := hAn 7 (by decide) rfl
    have hb : List.map L [1, 3, 4, 6, 7] = [true, true, true, true, true] := by simp only [List.map_cons, List.map_nil, b1, b3, b4, b6, b7]
    rw [hb] at hF
    obtain ⟨b60, key66, c67, sp68, b89, key95, c96, sp97, lo114, T112, x113, e1, e3, e4, e6, e7, hS103, hS74, hEr109, hlt116, HH⟩ := hF
    dsimp only
    rw [e7]
    exact Gives.run rfl (r_extract (vs := #[.slice none 0 0, .iface T112 (x113)]) rfl rfl) ⟨rfl, rfl⟩
  refine WalkP.look rfl (fun r => proj (r 7) 1) (fun r r' h => by rw [h 7 (by decide) rfl]) (fun L r uw hAn hDn hF => ?_) ?_
  · skip
    have b1 : L 1 = true := hAn 1 (by decide) rfl
    have b3 : L 3 = true := hAn 3 (by decide) rfl
    have b4 : L 4 = true := hAn 4 (by decide) rfl
    have b6 : L 6 = true := hAn 6 (by decide) rfl
    have b7 : L 7 = true := hAn 7 (by decide) rfl
    have hb : List.map L [1, 3, 4, 6, 7] = [true, true, true, true, true] := by simp only [List.map_cons, List.map_nil, b1, b3, b4, b6, b7]
    rw [hb] at hF
    obtain ⟨b60, key66, c67, sp68, b89, key95, c96, sp97, lo114, T112, x113, e1, e3, e4, e6, e7, hS103, hS74, hEr109, hlt116, HH⟩ := hF
    dsimp only
    rw [e7]
    exact Gives.run rfl (r_extract (vs := #[.slice none 0 0, .iface T112 (x113)]) rfl rfl) ⟨rfl, rfl⟩
  refine WalkP.look rfl (fun r => proj (r 7) 0) (fun r r' h => by rw [h 7 (by decide) rfl]) (fun L r uw _ _ _ => Gives.run rfl (r_assign rfl) ⟨rfl, rfl⟩) ?_
  refine WalkP.look rfl (fun r => proj (r 7) 1) (fun r r' h => by rw [h 7 (by decide) rfl]) (fun L r uw _ _ _ => Gives.run rfl (r_assign rfl) ⟨rfl, rfl⟩) ?_
  refine WalkP.nil ?_
  intro r192 w193 hF
  obtain ⟨b60, key66, c67, sp68, b89, key95, c96, sp97, lo114, T112, x113, e1, e3, e4, e6, e7, hS103, hS74, hEr109, hlt116, H194⟩ := hF
  dsimp only
  rw [e1, e3, e4, e6, e7]
  refine wnil ?_
  refine thenNormal ?_
  refine seqAny ?_
  refine blockAny ?_
  refine seqRegion ?_
  refine sq (r_loadA (cs' := #[i64 (n), .slice (ownA kg45) g1.length cg46, .slice (ownA ko48) l1.length co49]) agg70 siz70 (H194.get (k := 4) rfl) (off := 0) rfl (by exact Nat.le_of_ble_eq_true rfl) (by rfl)) ?_
  have := H194.lt (List.mem_of_getElem? (i := 4) rfl) rfl
  refine c_call (vs := [.agg #[i64 (n), .slice (ownA kg45) g1.length cg46, .slice (ownA ko48) l1.length co49]]) call31 rfl (check_bad n g1 l1 (ownA kg45) (ownA ko48) cg46 co49 w193 (Chg.gl H194.chg (fun x => x) hG) (H194.rd (k := 3) rfl hSg51) (H194.rd (k := 2) rfl hSo52) (by omega) (by omega) hg) ?_
  rintro v197 w195 ⟨hEr198, hE199⟩
  have H200 := H194.ext hE199
  obtain ⟨T201, x202, rfl⟩ := hEr198.iface
  refine sq (r_neqIN isI27 rfl rfl) ?_
  refine sq (r_assign (v := .bool (true)) rfl) ?_
  refine wend ?_
  refine condTrue rfl ?_
  refine seqRegion ?_
  refine sq (r_move (v := .slice none 0 0) rfl) ?_
  refine sq (r_lenS sli92 (a := none) (m := 0) (c := 0) rfl) ?_
  refine sq ((r_eqlI (a := (0 : Nat)) (b := (0 : Int)) rfl rfl).as (v' := .bool (true)) (by rfl)) ?_
  refine sq (r_move (v := .bool (true)) rfl) ?_
  refine sqAny (v := .iface T112 (x113)) (w' := w195) (wantedSome (d' := 47) (b := true) rfl rfl rfl) (r_move (v := .iface T112 (x113)) rfl) ?_
  refine caAny (wantedSome (d' := 47) (b := true) rfl rfl rfl) (Enters.callL (vs := [.iface T112 (x113)]) call26 rfl) (code_ok 90 1 lo114 (.iface T112 (x113)) w195 (Chg.gl H200.chg (fun x => x) hG) ((hEr109.ext hE199))) ?_
  rintro _ w203 ⟨rfl, hE204⟩
  have H205 := H200.ext hE204
  refine sqAny (v := .bool (true)) (w' := w203) (wantedSome (d' := 47) (b := true) rfl rfl rfl) ((r_eqlI (a := 90) (b := (90 : Int)) rfl rfl).as (v' := .bool (true)) (by rfl)) ?_
  refine sq (r_pickT (u := .bool (true)) rfl rfl) ?_
  refine sq (r_assign (v := .bool (true)) rfl) ?_
  refine wend ?_
  refine retAny ?_
  refine blockRet ?_
  refine thenRet ?_
  refine retG (rs := [.tmp 6]) (vs := [.bool (true)]) rfl ⟨⟨rfl, rfl⟩, trivial⟩ ?_
  exact ⟨_, rfl, rfl, H205.chg⟩
set_option maxHeartbeats 1000000 in
theorem gevals_num (n : Int) (gs : List Gt) (ol : List Int) (ga oa : Option Addr) (gc oc : Nat) (ls tb : List Lb) (lsa tsa : Option Addr) (lsc tsc : Nat) (hgc : gs.length ≤ gc) (hoc : ol.length ≤ oc) (w : World) (hG : Gl w) (hGs : Rd EG w ga gs) (hOl : Rd EI w oa ol) (hLs : Rd ELb w lsa ls) (hTb : Rd ELb w tsa tb) (h1s : gs.length ≤ 60) (h2s : n ≤ 200) (h3s : ls.length ≤ 300) (h4s : tb.length ≤ 300) (hg : IsC n (gs.take 4200) (ol.take 80)) (hm : (ls.length : Int) ≠ n) : Calls Tryd.prog 12 [.agg #[i64 (n), .slice ga gs.length gc, .slice oa ol.length oc], .slice lsa ls.length lsc, .slice tsa tb.length tsc].toArray w (Ret fun v w' => v = .bool true ∧ Ext w w') := by
  obtain ⟨g1, hg1⟩ : ∃ g1, g1 = gs.take 4200 := ⟨_, rfl⟩
  obtain ⟨l1, hl1⟩ : ∃ l1, l1 = ol.take 80 := ⟨_, rfl⟩
  have hgl1 : g1.length ≤ 60 := by rw [hg1, List.length_take]; omega
  have hll1 : l1.length ≤ 80 := by rw [hl1, List.length_take]; omega
  rw [← hg1, ← hl1] at hg
  have han := andsS_le g1 g1.length
  have H := Hp.start No w
  refine enter (n := 91) Tryd.func12 rfl rfl (Nat.le_of_ble_eq_true rfl) ?_
  refine seqRegion ?_
  refine q_box (v := .agg #[i64 (n), .slice ga gs.length gc, .slice oa ol.length oc]) (o := .cells #[i64 (n), .slice ga gs.length gc, .slice oa ol.length oc] 70 (0, 0)) H rfl (by rfl) ?_
  intro b31 w32 hb31 H33 hE34
  refine sq (r_assign (v := .bool (false)) rfl) ?_
  refine wend ?_
  refine seqAny ?_
  refine seqRegion ?_
  refine c_call (vs := []) call41 rfl (gawake_ok w32 (Chg.gl H33.chg (fun x => x) hG)) ?_
  rintro _ w35 ⟨rfl, hE36⟩
  have H37 := H33.ext hE36
  refine sq (r_notT rfl) ?_
  refine sq (r_move (v := .bool (false)) rfl) ?_
  refine sqAny (v := .agg #[i64 (n), .slice ga gs.length gc, .slice oa ol.length oc]) (w' := w35) (wantedSome (d' := 11) (b := false) rfl rfl rfl) (r_loadA (cs' := #[i64 (n), .slice ga gs.length gc, .slice oa ol.length oc]) agg70 siz70 (H37.get (k := 0) rfl) (off := 0) rfl (by exact Nat.le_of_ble_eq_true rfl) (by rfl)) ?_
  refine caAny (wantedSome (d' := 11) (b := false) rfl rfl rfl) (Enters.callL (vs := [.agg #[i64 (n), .slice ga gs.length gc, .slice oa ol.length oc]]) call42 rfl) (small_yes n gs ol ga oa gc oc w35 h1s h2s) ?_
  rintro _ w38 ⟨rfl, hE39⟩
  have H40 := H37.ext hE39
  refine sqAny (v := .bool (false)) (w' := w38) (wantedSome (d' := 11) (b := false) rfl rfl rfl) (r_notT rfl) ?_
  refine sq (r_pickF (v := .bool (false)) rfl rfl) ?_
  refine sq (r_move (v := .bool (false)) rfl) ?_
  refine sqAny (v := .slice lsa ls.length lsc) (w' := w38) (wantedSome (d' := 16) (b := false) rfl rfl rfl) (r_move (v := .slice lsa ls.length lsc) rfl) ?_
  refine sqAny (v := i64 ((ls.length : Nat))) (w' := w38) (wantedSome (d' := 16) (b := false) rfl rfl rfl) (r_lenS sli92 (a := lsa) (m := ls.length) (c := lsc) rfl) ?_
  refine sqAny (v := .bool (false)) (w' := w38) (wantedSome (d' := 16) (b := false) rfl rfl rfl) ((r_gtrI (a := (ls.length : Nat)) (b := (300 : Int)) rfl rfl).as (v' := .bool (false)) (by exact congrArg Value.bool (decide_eq_false (by omega)))) ?_
  refine sq (r_pickF (v := .bool (false)) rfl rfl) ?_
  refine sq (r_move (v := .bool (false)) rfl) ?_
  refine sqAny (v := .slice tsa tb.length tsc) (w' := w38) (wantedSome (d' := 21) (b := false) rfl rfl rfl) (r_move (v := .slice tsa tb.length tsc) rfl) ?_
  refine sqAny (v := i64 ((tb.length : Nat))) (w' := w38) (wantedSome (d' := 21) (b := false) rfl rfl rfl) (r_lenS sli92 (a := tsa) (m := tb.length) (c := tsc) rfl) ?_
  refine sqAny (v := .bool (false)) (w' := w38) (wantedSome (d' := 21) (b := false) rfl rfl rfl) ((r_gtrI (a := (tb.length : Nat)) (b := (300 : Int)) rfl rfl).as (v' := .bool (false)) (by exact congrArg Value.bool (decide_eq_false (by omega)))) ?_
  refine sq (r_pickF (v := .bool (false)) rfl rfl) ?_
  refine wend ?_
  refine condFalse rfl ?_
  refine skipAny ?_
  refine thenNormal ?_
  refine seqRegion ?_
  refine sq (r_loadA (cs' := #[i64 (n), .slice ga gs.length gc, .slice oa ol.length oc]) agg70 siz70 (H40.get (k := 0) rfl) (off := 0) rfl (by exact Nat.le_of_ble_eq_true rfl) (by rfl)) ?_
  refine c_call (vs := [.agg #[i64 (n), .slice ga gs.length gc, .slice oa ol.length oc]]) call43 rfl (own_ok n gs ol ga oa gc oc hgc hoc w38 (hGs.ext H40.chg) (hOl.ext H40.chg)) ?_
  rintro _ w41 ⟨⟨ng43, no44, kg45, cg46, spg47, ko48, co49, spo50, rfl, rfl, rfl, hSg51, hSo52, HN53⟩, hE54⟩
  rw [← hg1] at hSg51 HN53
  rw [← hl1] at hSo52 HN53
  rw [← hg1, ← hl1]
  have H55 := (H40.join HN53).as (L' := [(ko48, sob EI 3 l1 spo50), (kg45, sob EG 99 g1 spg47), (some b31, .cells #[i64 (n), .slice ga gs.length gc, .slice oa ol.length oc] 70 (0, 0))]) rfl
  refine d_store (k := 2) (v := .agg #[i64 (n), .slice (ownA kg45) g1.length cg46, .slice (ownA ko48) l1.length co49]) (cs' := #[i64 (n), .slice (ownA kg45) g1.length cg46, .slice (ownA ko48) l1.length co49]) H55 rfl rfl rfl siz70 (by rfl) (by intro u hu; simp [Value.cells] at hu; first | (subst hu; rfl) | (rcases hu with rfl | rfl | rfl <;> rfl)) (by exact Nat.le_of_ble_eq_true rfl) (by rfl) ?_
  intro w56 H57 hC58
  have H57' := H57.as (L' := [(ko48, sob EI 3 l1 spo50), (kg45, sob EG 99 g1 spg47), (some b31, .cells #[i64 (n), .slice (ownA kg45) g1.length cg46, .slice (ownA ko48) l1.length co49] 70 (0, 0))]) rfl
  clear H57
  refine wend ?_
  refine seqAny ?_
  refine drawP (m := 13) [0, 0, 0, 6, 0, 0, 62, 127, 255, 511, 511, 1023, 4095] [1, 3, 4, 6, 7] (fun bs vs w' => match bs, vs with | [false, false, false, false, false], [_, _, _, _, _] => Hp No w w' [(ko48, sob EI 3 l1 spo50), (kg45, sob EG 99 g1 spg47), (some b31, .cells #[i64 (n), .slice (ownA kg45) g1.length cg46, .slice (ownA ko48) l1.length co49] 70 (0, 0))] | [true, false, false, false, false], [v1, _, _, _, _] => ∃ (b60 : Nat), v1 = .slice (ownA (some b60)) 0 0 ∧ Sl ELb (some b60) ([] : List (BitVec 64 × BitVec 64)) 0 ([]) ∧ Hp No w w' [((some b60), sob ELb 38 ([] : List (BitVec 64 × BitVec 64)) ([])), (ko48, sob EI 3 l1 spo50), (kg45, sob EG 99 g1 spg47), (some b31, .cells #[i64 (n), .slice (ownA kg45) g1.length cg46, .slice (ownA ko48) l1.length co49] 70 (0, 0))] | [true, true, false, false, false], [v1, v3, _, _, _] => ∃ (b60 : Nat) (key66 : Option Nat) (c67 : Nat) (sp68 : List Value), v1 = .slice (ownA (some b60)) 0 0 ∧ v3 = .slice (ownA key66) (0 + ls.length) c67 ∧ Sl ELb key66 ls c67 sp68 ∧ Hp No w w' [(key66, sob ELb 38 ls sp68), (ko48, sob EI 3 l1 spo50), (kg45, sob EG 99 g1 spg47), (some b31, .cells #[i64 (n), .slice (ownA kg45) g1.length cg46, .slice (ownA ko48) l1.length co49] 70 (0, 0))] | [false, false, true, false, false], [_, _, v4, _, _] => ∃ (b77 : Nat), v4 = .slice (ownA (some b77)) 0 0 ∧ Sl ELb (some b77) ([] : List (BitVec 64 × BitVec 64)) 0 ([]) ∧ Hp No w w' [((some b77), sob ELb 38 ([] : List (BitVec 64 × BitVec 64)) ([])), (ko48, sob EI 3 l1 spo50), (kg45, sob EG 99 g1 spg47), (some b31, .cells #[i64 (n), .slice (ownA kg45) g1.length cg46, .slice (ownA ko48) l1.length co49] 70 (0, 0))] | [true, false, true, false, false], [v1, _, v4, _, _] => ∃ (b60 : Nat) (b83 : Nat), v1 = .slice (ownA (some b60)) 0 0 ∧ v4 = .slice (ownA (some b83)) 0 0 ∧ Sl ELb (some b83) ([] : List (BitVec 64 × BitVec 64)) 0 ([]) ∧ Sl ELb (some b60) ([] : List (BitVec 64 × BitVec 64)) 0 ([]) ∧ Hp No w w' [((some b83), sob ELb 38 ([] : List (BitVec 64 × BitVec 64)) ([])), ((some b60), sob ELb 38 ([] : List (BitVec 64 × BitVec 64)) ([])), (ko48, sob EI 3 l1 spo50), (kg45, sob EG 99 g1 spg47), (some b31, .cells #[i64 (n), .slice (ownA kg45) g1.length cg46, .slice (ownA ko48) l1.length co49] 70 (0, 0))] | [true, true, true, false, false], [v1, v3, v4, _, _] => ∃ (b60 : Nat) (key66 : Option Nat) (c67 : Nat) (sp68 : List Value) (b89 : Nat), v1 = .slice (ownA (some b60)) 0 0 ∧ v3 = .slice (ownA key66) (0 + ls.length) c67 ∧ v4 = .slice (ownA (some b89)) 0 0 ∧ Sl ELb (some b89) ([] : List (BitVec 64 × BitVec 64)) 0 ([]) ∧ Sl ELb key66 ls c67 sp68 ∧ Hp No w w' [((some b89), sob ELb 38 ([] : List (BitVec 64 × BitVec 64)) ([])), (key66, sob ELb 38 ls sp68), (ko48, sob EI 3 l1 spo50), (kg45, sob EG 99 g1 spg47), (some b31, .cells #[i64 (n), .slice (ownA kg45) g1.length cg46, .slice (ownA ko48) l1.length co49] 70 (0, 0))] | [true, true, true, true, false], [v1, v3, v4, v6, _] => ∃ (b60 : Nat) (key66 : Option Nat) (c67 : Nat) (sp68 : List Value) (b89 : Nat) (key95 : Option Nat) (c96 : Nat) (sp97 : List Value), v1 = .slice (ownA (some b60)) 0 0 ∧ v3 = .slice (ownA key66) (0 + ls.length) c67 ∧ v4 = .slice (ownA (some b89)) 0 0 ∧ v6 = .slice (ownA key95) (0 + tb.length) c96 ∧ Sl ELb key95 tb c96 sp97 ∧ Sl ELb key66 ls c67 sp68 ∧ Hp No w w' [(key95, sob ELb 38 tb sp97), (key66, sob ELb 38 ls sp68), (ko48, sob EI 3 l1 spo50), (kg45, sob EG 99 g1 spg47), (some b31, .cells #[i64 (n), .slice (ownA kg45) g1.length cg46, .slice (ownA ko48) l1.length co49] 70 (0, 0))] | [true, true, true, true, true], [v1, v3, v4, v6, v7] => ∃ (b60 : Nat) (key66 : Option Nat) (c67 : Nat) (sp68 : List Value) (b89 : Nat) (key95 : Option Nat) (c96 : Nat) (sp97 : List Value) (lo114 : Nat) (T112 : TypeId) (x113 : Value), v1 = .slice (ownA (some b60)) 0 0 ∧ v3 = .slice (ownA key66) (0 + ls.length) c67 ∧ v4 = .slice (ownA (some b89)) 0 0 ∧ v6 = .slice (ownA key95) (0 + tb.length) c96 ∧ v7 = .tuple #[.slice none 0 0, .iface T112 (x113)] ∧ Sl ELb key95 tb c96 sp97 ∧ Sl ELb key66 ls c67 sp68 ∧ Er lo114 w' 1 1 (.iface T112 x113) ∧ b31 < lo114 ∧ Hp No w w' [(key95, sob ELb 38 tb sp97), (key66, sob ELb 38 ls sp68), (ko48, sob EI 3 l1 spo50), (kg45, sob EG 99 g1 spg47), (some b31, .cells #[i64 (n), .slice (ownA kg45) g1.length cg46, .slice (ownA ko48) l1.length co49] 70 (0, 0))] | _, _ => False) mixed (by kernel_rfl) (by kernel_rfl) H57'.drew ?_
  refine WalkP.look rfl (fun _ => .agg #[i64 (n), .slice (ownA kg45) g1.length cg46, .slice (ownA ko48) l1.length co49]) (fun _ _ _ => rfl) (fun L r uw hAn hDn hF => ?_) ?_
  · skip
    have b7 : L 7 = false := hDn 7 (by decide) rfl
    rcases Bool.eq_false_or_eq_true (L 1) with b1 | b1
    · skip
      rcases Bool.eq_false_or_eq_true (L 3) with b3 | b3
      · skip
        rcases Bool.eq_false_or_eq_true (L 4) with b4 | b4
        · skip
          rcases Bool.eq_false_or_eq_true (L 6) with b6 | b6
          · skip
            have hb : List.map L [1, 3, 4, 6, 7] = [true, true, true, true, false] := by simp only [List.map_cons, List.map_nil, b1, b3, b4, b6, b7]
            rw [hb] at hF
            obtain ⟨b60, key66, c67, sp68, b89, key95, c96, sp97, e1, e3, e4, e6, hS103, hS74, HH⟩ := hF
            exact Gives.run rfl (r_loadA (cs' := #[i64 (n), .slice (ownA kg45) g1.length cg46, .slice (ownA ko48) l1.length co49]) agg70 siz70 (HH.get (k := 4) rfl) (off := 0) rfl (by exact Nat.le_of_ble_eq_true rfl) (by rfl)) ⟨rfl, rfl⟩
          · skip
            have hb : List.map L [1, 3, 4, 6, 7] = [true, true, true, false, false] := by simp only [List.map_cons, List.map_nil, b1, b3, b4, b6, b7]
            rw [hb] at hF
            obtain ⟨b60, key66, c67, sp68, b89, e1, e3, e4, hS90, hS74, HH⟩ := hF
            exact Gives.run rfl (r_loadA (cs' := #[i64 (n), .slice (ownA kg45) g1.length cg46, .slice (ownA ko48) l1.length co49]) agg70 siz70 (HH.get (k := 4) rfl) (off := 0) rfl (by exact Nat.le_of_ble_eq_true rfl) (by rfl)) ⟨rfl, rfl⟩
        · skip
          rcases Bool.eq_false_or_eq_true (L 6) with b6 | b6
          · skip
            have hb : List.map L [1, 3, 4, 6, 7] = [true, true, false, true, false] := by simp only [List.map_cons, List.map_nil, b1, b3, b4, b6, b7]
            rw [hb] at hF
            exact False.elim hF
          · skip
            have hb : List.map L [1, 3, 4, 6, 7] = [true, true, false, false, false] := by simp only [List.map_cons, List.map_nil, b1, b3, b4, b6, b7]
            rw [hb] at hF
            obtain ⟨b60, key66, c67, sp68, e1, e3, hS74, HH⟩ := hF
            exact Gives.run rfl (r_loadA (cs' := #[i64 (n), .slice (ownA kg45) g1.length cg46, .slice (ownA ko48) l1.length co49]) agg70 siz70 (HH.get (k := 3) rfl) (off := 0) rfl (by exact Nat.le_of_ble_eq_true rfl) (by rfl)) ⟨rfl, rfl⟩
      · skip
        rcases Bool.eq_false_or_eq_true (L 4) with b4 | b4
        · skip
          rcases Bool.eq_false_or_eq_true (L 6) with b6 | b6
          · skip
            have hb : List.map L [1, 3, 4, 6, 7] = [true, false, true, true, false] := by simp only [List.map_cons, List.map_nil, b1, b3, b4, b6, b7]
            rw [hb] at hF
            exact False.elim hF
          · skip
            have hb : List.map L [1, 3, 4, 6, 7] = [true, false, true, false, false] := by simp only [List.map_cons, List.map_nil, b1, b3, b4, b6, b7]
            rw [hb] at hF
            obtain ⟨b60, b83, e1, e4, hS84, hS61, HH⟩ := hF
            exact Gives.run rfl (r_loadA (cs' := #[i64 (n), .slice (ownA kg45) g1.length cg46, .slice (ownA ko48) l1.length co49]) agg70 siz70 (HH.get (k := 4) rfl) (off := 0) rfl (by exact Nat.le_of_ble_eq_true rfl) (by rfl)) ⟨rfl, rfl⟩
        · skip
          rcases Bool.eq_false_or_eq_true (L 6) with b6 | b6
          · skip
            have hb : List.map L [1, 3, 4, 6, 7] = [true, false, false, true, false] := by simp only [List.map_cons, List.map_nil, b1, b3, b4, b6, b7]
            rw [hb] at hF
            exact False.elim hF
          · skip
            have hb : List.map L [1, 3, 4, 6, 7] = [true, false, false, false, false] := by simp only [List.map_cons, List.map_nil, b1, b3, b4, b6, b7]
            rw [hb] at hF
            obtain ⟨b60, e1, hS61, HH⟩ := hF
            exact Gives.run rfl (r_loadA (cs' := #[i64 (n), .slice (ownA kg45) g1.length cg46, .slice (ownA ko48) l1.length co49]) agg70 siz70 (HH.get (k := 3) rfl) (off := 0) rfl (by exact Nat.le_of_ble_eq_true rfl) (by rfl)) ⟨rfl, rfl⟩
    · skip
      rcases Bool.eq_false_or_eq_true (L 3) with b3 | b3
      · skip
        rcases Bool.eq_false_or_eq_true (L 4) with b4 | b4
        · skip
          rcases Bool.eq_false_or_eq_true (L 6) with b6 | b6
          · skip
            have hb : List.map L [1, 3, 4, 6, 7] = [false, true, true, true, false] := by simp only [List.map_cons, List.map_nil, b1, b3, b4, b6, b7]
            rw [hb] at hF
            exact False.elim hF
          · skip
            have hb : List.map L [1, 3, 4, 6, 7] = [false, true, true, false, false] := by simp only [List.map_cons, List.map_nil, b1, b3, b4, b6, b7]
            rw [hb] at hF
            exact False.elim hF
        · skip
          rcases Bool.eq_false_or_eq_true (L 6) with b6 | b6
          · skip
            have hb : List.map L [1, 3, 4, 6, 7] = [false, true, false, true, false] := by simp only [List.map_cons, List.map_nil, b1, b3, b4, b6, b7]
            rw [hb] at hF
            exact False.elim hF
          · skip
            have hb : List.map L [1, 3, 4, 6, 7] = [false, true, false, false, false] := by simp only [List.map_cons, List.map_nil, b1, b3, b4, b6, b7]
            rw [hb] at hF
            exact False.elim hF
      · skip
        rcases Bool.eq_false_or_eq_true (L 4) with b4 | b4
        · skip
          rcases Bool.eq_false_or_eq_true (L 6) with b6 | b6
          · skip
            have hb : List.map L [1, 3, 4, 6, 7] = [false, false, true, true, false] := by simp only [List.map_cons, List.map_nil, b1, b3, b4, b6, b7]
            rw [hb] at hF
            exact False.elim hF
          · skip
            have hb : List.map L [1, 3, 4, 6, 7] = [false, false, true, false, false] := by simp only [List.map_cons, List.map_nil, b1, b3, b4, b6, b7]
            rw [hb] at hF
            obtain ⟨b77, e4, hS78, HH⟩ := hF
            exact Gives.run rfl (r_loadA (cs' := #[i64 (n), .slice (ownA kg45) g1.length cg46, .slice (ownA ko48) l1.length co49]) agg70 siz70 (HH.get (k := 3) rfl) (off := 0) rfl (by exact Nat.le_of_ble_eq_true rfl) (by rfl)) ⟨rfl, rfl⟩
        · skip
          rcases Bool.eq_false_or_eq_true (L 6) with b6 | b6
          · skip
            have hb : List.map L [1, 3, 4, 6, 7] = [false, false, false, true, false] := by simp only [List.map_cons, List.map_nil, b1, b3, b4, b6, b7]
            rw [hb] at hF
            exact False.elim hF
          · skip
            have hb : List.map L [1, 3, 4, 6, 7] = [false, false, false, false, false] := by simp only [List.map_cons, List.map_nil, b1, b3, b4, b6, b7]
            rw [hb] at hF
            have HH := hF
            exact Gives.run rfl (r_loadA (cs' := #[i64 (n), .slice (ownA kg45) g1.length cg46, .slice (ownA ko48) l1.length co49]) agg70 siz70 (HH.get (k := 2) rfl) (off := 0) rfl (by exact Nat.le_of_ble_eq_true rfl) (by rfl)) ⟨rfl, rfl⟩
  refine WalkP.eff 0 rfl (fun L r uw hLn hAn hDn hF => ?_) ?_
  · skip
    have b1 : L 1 = false := hLn
    have b3 : L 3 = false := hDn 3 (by decide) rfl
    have b6 : L 6 = false := hDn 6 (by decide) rfl
    have b7 : L 7 = false := hDn 7 (by decide) rfl
    rcases Bool.eq_false_or_eq_true (L 4) with b4 | b4
    · skip
      have hb : List.map L [1, 3, 4, 6, 7] = [false, false, true, false, false] := by simp only [List.map_cons, List.map_nil, b1, b3, b4, b6, b7]
      rw [hb] at hF ⊢
      obtain ⟨b77, e4, hS78, H117⟩ := hF
      dsimp only
      refine Gives.ofW (d := 31) rfl rfl (fun Q' hK => ?_)
      refine q_buildSlice (E := ELb) (l := ([] : List (BitVec 64 × BitVec 64))) H117 sli92 zer38 (Nat.le_of_ble_eq_true rfl) (ps := []) rfl (by exact fillAll rfl rfl) rfl ?_
      intro b118 w120 hS119 H121 hE122
      exact hK _ _ (show ∃ (b60 : Nat) (b83 : Nat), (_ : Value) = .slice (ownA (some b60)) 0 0 ∧ r 4 = .slice (ownA (some b83)) 0 0 ∧ Sl ELb (some b83) ([] : List (BitVec 64 × BitVec 64)) 0 ([]) ∧ Sl ELb (some b60) ([] : List (BitVec 64 × BitVec 64)) 0 ([]) ∧ Hp No w w120 [((some b83), sob ELb 38 ([] : List (BitVec 64 × BitVec 64)) ([])), ((some b60), sob ELb 38 ([] : List (BitVec 64 × BitVec 64)) ([])), (ko48, sob EI 3 l1 spo50), (kg45, sob EG 99 g1 spg47), (some b31, .cells #[i64 (n), .slice (ownA kg45) g1.length cg46, .slice (ownA ko48) l1.length co49] 70 (0, 0))] from ⟨b118, b77, rfl, e4, hS78, hS119, (((((H121.pull (k := 4) rfl).pull (k := 4) rfl).pull (k := 4) rfl).pull (k := 3) rfl).pull (k := 4) rfl)⟩)
    · skip
      have hb : List.map L [1, 3, 4, 6, 7] = [false, false, false, false, false] := by simp only [List.map_cons, List.map_nil, b1, b3, b4, b6, b7]
      rw [hb] at hF ⊢
      have H123 := hF
      dsimp only
      refine Gives.ofW (d := 31) rfl rfl (fun Q' hK => ?_)
      refine q_buildSlice (E := ELb) (l := ([] : List (BitVec 64 × BitVec 64))) H123 sli92 zer38 (Nat.le_of_ble_eq_true rfl) (ps := []) rfl (by exact fillAll rfl rfl) rfl ?_
      intro b124 w126 hS125 H127 hE128
      exact hK _ _ (show ∃ (b60 : Nat), (_ : Value) = .slice (ownA (some b60)) 0 0 ∧ Sl ELb (some b60) ([] : List (BitVec 64 × BitVec 64)) 0 ([]) ∧ Hp No w w126 [((some b60), sob ELb 38 ([] : List (BitVec 64 × BitVec 64)) ([])), (ko48, sob EI 3 l1 spo50), (kg45, sob EG 99 g1 spg47), (some b31, .cells #[i64 (n), .slice (ownA kg45) g1.length cg46, .slice (ownA ko48) l1.length co49] 70 (0, 0))] from ⟨b124, rfl, hS125, ((((H127.pull (k := 3) rfl).pull (k := 3) rfl).pull (k := 3) rfl).pull (k := 3) rfl)⟩)
  refine WalkP.look rfl (fun _ => .slice lsa ls.length lsc) (fun _ _ _ => rfl) (fun L r uw _ _ _ => Gives.run rfl (r_move (v := .slice lsa ls.length lsc) rfl) ⟨rfl, rfl⟩) ?_
  refine WalkP.eff 1 rfl (fun L r uw hLn hAn hDn hF => ?_) ?_
  · skip
    have b1 : L 1 = true := hAn 1 (by decide) rfl
    have b3 : L 3 = false := hLn
    have b6 : L 6 = false := hDn 6 (by decide) rfl
    have b7 : L 7 = false := hDn 7 (by decide) rfl
    rcases Bool.eq_false_or_eq_true (L 4) with b4 | b4
    · skip
      have hb : List.map L [1, 3, 4, 6, 7] = [true, false, true, false, false] := by simp only [List.map_cons, List.map_nil, b1, b3, b4, b6, b7]
      rw [hb] at hF ⊢
      obtain ⟨b60, b83, e1, e4, hS84, hS61, H129⟩ := hF
      dsimp only
      rw [e1]
      refine Gives.ofW (d := 33) rfl rfl (fun Q' hK => ?_)
      refine q_append (E := ELb) (k := 1) (l := ([] : List (BitVec 64 × BitVec 64))) (l2 := ls) H129 rfl hS61 sli92 zer38 rfl byt38 (hLs.ext H129.chg) rfl (by rfl) rfl (by rfl) (by omega) ?_
      intro key130 c131 sp132 w134 hS133 hne136 H135
      have H135' := H135.as (L' := [((some b83), sob ELb 38 ([] : List (BitVec 64 × BitVec 64)) ([])), (key130, sob ELb 38 (([] : List (BitVec 64 × BitVec 64)) ++ ls) sp132), (ko48, sob EI 3 l1 spo50), (kg45, sob EG 99 g1 spg47), (some b31, .cells #[i64 (n), .slice (ownA kg45) g1.length cg46, .slice (ownA ko48) l1.length co49] 70 (0, 0))]) rfl
      clear H135
      have e137 : ([] : List (BitVec 64 × BitVec 64)) ++ ls = ls := by rw [List.nil_append]
      have hS138 := hS133
      rw [e137] at hS138
      have H139 := H135'.as (L' := [((some b83), sob ELb 38 ([] : List (BitVec 64 × BitVec 64)) ([])), (key130, sob ELb 38 ls sp132), (ko48, sob EI 3 l1 spo50), (kg45, sob EG 99 g1 spg47), (some b31, .cells #[i64 (n), .slice (ownA kg45) g1.length cg46, .slice (ownA ko48) l1.length co49] 70 (0, 0))]) (by rw [e137])
      exact hK _ _ (show ∃ (b60 : Nat) (key66 : Option Nat) (c67 : Nat) (sp68 : List Value) (b89 : Nat), r 1 = .slice (ownA (some b60)) 0 0 ∧ (_ : Value) = .slice (ownA key66) (0 + ls.length) c67 ∧ r 4 = .slice (ownA (some b89)) 0 0 ∧ Sl ELb (some b89) ([] : List (BitVec 64 × BitVec 64)) 0 ([]) ∧ Sl ELb key66 ls c67 sp68 ∧ Hp No w w134 [((some b89), sob ELb 38 ([] : List (BitVec 64 × BitVec 64)) ([])), (key66, sob ELb 38 ls sp68), (ko48, sob EI 3 l1 spo50), (kg45, sob EG 99 g1 spg47), (some b31, .cells #[i64 (n), .slice (ownA kg45) g1.length cg46, .slice (ownA ko48) l1.length co49] 70 (0, 0))] from ⟨b60, key130, c131, sp132, b83, e1, rfl, e4, hS84, hS138, (((((H139.pull (k := 4) rfl).pull (k := 4) rfl).pull (k := 4) rfl).pull (k := 4) rfl).pull (k := 4) rfl)⟩)
    · skip
      have hb : List.map L [1, 3, 4, 6, 7] = [true, false, false, false, false] := by simp only [List.map_cons, List.map_nil, b1, b3, b4, b6, b7]
      rw [hb] at hF ⊢
      obtain ⟨b60, e1, hS61, H140⟩ := hF
      dsimp only
      rw [e1]
      refine Gives.ofW (d := 33) rfl rfl (fun Q' hK => ?_)
      refine q_append (E := ELb) (k := 0) (l := ([] : List (BitVec 64 × BitVec 64))) (l2 := ls) H140 rfl hS61 sli92 zer38 rfl byt38 (hLs.ext H140.chg) rfl (by rfl) rfl (by rfl) (by omega) ?_
      intro key141 c142 sp143 w145 hS144 hne147 H146
      have H146' := H146.as (L' := [(key141, sob ELb 38 (([] : List (BitVec 64 × BitVec 64)) ++ ls) sp143), (ko48, sob EI 3 l1 spo50), (kg45, sob EG 99 g1 spg47), (some b31, .cells #[i64 (n), .slice (ownA kg45) g1.length cg46, .slice (ownA ko48) l1.length co49] 70 (0, 0))]) rfl
      clear H146
      have e148 : ([] : List (BitVec 64 × BitVec 64)) ++ ls = ls := by rw [List.nil_append]
      have hS149 := hS144
      rw [e148] at hS149
      have H150 := H146'.as (L' := [(key141, sob ELb 38 ls sp143), (ko48, sob EI 3 l1 spo50), (kg45, sob EG 99 g1 spg47), (some b31, .cells #[i64 (n), .slice (ownA kg45) g1.length cg46, .slice (ownA ko48) l1.length co49] 70 (0, 0))]) (by rw [e148])
      exact hK _ _ (show ∃ (b60 : Nat) (key66 : Option Nat) (c67 : Nat) (sp68 : List Value), r 1 = .slice (ownA (some b60)) 0 0 ∧ (_ : Value) = .slice (ownA key66) (0 + ls.length) c67 ∧ Sl ELb key66 ls c67 sp68 ∧ Hp No w w145 [(key66, sob ELb 38 ls sp68), (ko48, sob EI 3 l1 spo50), (kg45, sob EG 99 g1 spg47), (some b31, .cells #[i64 (n), .slice (ownA kg45) g1.length cg46, .slice (ownA ko48) l1.length co49] 70 (0, 0))] from ⟨b60, key141, c142, sp143, e1, rfl, hS149, ((((H150.pull (k := 3) rfl).pull (k := 3) rfl).pull (k := 3) rfl).pull (k := 3) rfl)⟩)
  refine WalkP.eff 2 rfl (fun L r uw hLn hAn hDn hF => ?_) ?_
  · skip
    have b4 : L 4 = false := hLn
    have b6 : L 6 = false := hDn 6 (by decide) rfl
    have b7 : L 7 = false := hDn 7 (by decide) rfl
    rcases Bool.eq_false_or_eq_true (L 1) with b1 | b1
    · skip
      rcases Bool.eq_false_or_eq_true (L 3) with b3 | b3
      · skip
        have hb : List.map L [1, 3, 4, 6, 7] = [true, true, false, false, false] := by simp only [List.map_cons, List.map_nil, b1, b3, b4, b6, b7]
        rw [hb] at hF ⊢
        obtain ⟨b60, key66, c67, sp68, e1, e3, hS74, H151⟩ := hF
        dsimp only
        rw [e1, e3]
        refine Gives.ofW (d := 34) rfl rfl (fun Q' hK => ?_)
        refine q_buildSlice (E := ELb) (l := ([] : List (BitVec 64 × BitVec 64))) H151 sli92 zer38 (Nat.le_of_ble_eq_true rfl) (ps := []) rfl (by exact fillAll rfl rfl) rfl ?_
        intro b152 w154 hS153 H155 hE156
        exact hK _ _ (show ∃ (b60 : Nat) (key66 : Option Nat) (c67 : Nat) (sp68 : List Value) (b89 : Nat), r 1 = .slice (ownA (some b60)) 0 0 ∧ r 3 = .slice (ownA key66) (0 + ls.length) c67 ∧ (_ : Value) = .slice (ownA (some b89)) 0 0 ∧ Sl ELb (some b89) ([] : List (BitVec 64 × BitVec 64)) 0 ([]) ∧ Sl ELb key66 ls c67 sp68 ∧ Hp No w w154 [((some b89), sob ELb 38 ([] : List (BitVec 64 × BitVec 64)) ([])), (key66, sob ELb 38 ls sp68), (ko48, sob EI 3 l1 spo50), (kg45, sob EG 99 g1 spg47), (some b31, .cells #[i64 (n), .slice (ownA kg45) g1.length cg46, .slice (ownA ko48) l1.length co49] 70 (0, 0))] from ⟨b60, key66, c67, sp68, b152, e1, e3, rfl, hS153, hS74, (((((H155.pull (k := 4) rfl).pull (k := 4) rfl).pull (k := 4) rfl).pull (k := 4) rfl).pull (k := 4) rfl)⟩)
      · skip
        have hb : List.map L [1, 3, 4, 6, 7] = [true, false, false, false, false] := by simp only [List.map_cons, List.map_nil, b1, b3, b4, b6, b7]
        rw [hb] at hF ⊢
        obtain ⟨b60, e1, hS61, H157⟩ := hF
        dsimp only
        rw [e1]
        refine Gives.ofW (d := 34) rfl rfl (fun Q' hK => ?_)
        refine q_buildSlice (E := ELb) (l := ([] : List (BitVec 64 × BitVec 64))) H157 sli92 zer38 (Nat.le_of_ble_eq_true rfl) (ps := []) rfl (by exact fillAll rfl rfl) rfl ?_
        intro b158 w160 hS159 H161 hE162
        exact hK _ _ (show ∃ (b60 : Nat) (b83 : Nat), r 1 = .slice (ownA (some b60)) 0 0 ∧ (_ : Value) = .slice (ownA (some b83)) 0 0 ∧ Sl ELb (some b83) ([] : List (BitVec 64 × BitVec 64)) 0 ([]) ∧ Sl ELb (some b60) ([] : List (BitVec 64 × BitVec 64)) 0 ([]) ∧ Hp No w w160 [((some b83), sob ELb 38 ([] : List (BitVec 64 × BitVec 64)) ([])), ((some b60), sob ELb 38 ([] : List (BitVec 64 × BitVec 64)) ([])), (ko48, sob EI 3 l1 spo50), (kg45, sob EG 99 g1 spg47), (some b31, .cells #[i64 (n), .slice (ownA kg45) g1.length cg46, .slice (ownA ko48) l1.length co49] 70 (0, 0))] from ⟨b60, b158, e1, rfl, hS159, hS61, (((((H161.pull (k := 4) rfl).pull (k := 4) rfl).pull (k := 4) rfl).pull (k := 4) rfl).pull (k := 4) rfl)⟩)
    · skip
      rcases Bool.eq_false_or_eq_true (L 3) with b3 | b3
      · skip
        have hb : List.map L [1, 3, 4, 6, 7] = [false, true, false, false, false] := by simp only [List.map_cons, List.map_nil, b1, b3, b4, b6, b7]
        rw [hb] at hF
        exact False.elim hF
      · skip
        have hb : List.map L [1, 3, 4, 6, 7] = [false, false, false, false, false] := by simp only [List.map_cons, List.map_nil, b1, b3, b4, b6, b7]
        rw [hb] at hF ⊢
        have H163 := hF
        dsimp only
        refine Gives.ofW (d := 34) rfl rfl (fun Q' hK => ?_)
        refine q_buildSlice (E := ELb) (l := ([] : List (BitVec 64 × BitVec 64))) H163 sli92 zer38 (Nat.le_of_ble_eq_true rfl) (ps := []) rfl (by exact fillAll rfl rfl) rfl ?_
        intro b164 w166 hS165 H167 hE168
        exact hK _ _ (show ∃ (b77 : Nat), (_ : Value) = .slice (ownA (some b77)) 0 0 ∧ Sl ELb (some b77) ([] : List (BitVec 64 × BitVec 64)) 0 ([]) ∧ Hp No w w166 [((some b77), sob ELb 38 ([] : List (BitVec 64 × BitVec 64)) ([])), (ko48, sob EI 3 l1 spo50), (kg45, sob EG 99 g1 spg47), (some b31, .cells #[i64 (n), .slice (ownA kg45) g1.length cg46, .slice (ownA ko48) l1.length co49] 70 (0, 0))] from ⟨b164, rfl, hS165, ((((H167.pull (k := 3) rfl).pull (k := 3) rfl).pull (k := 3) rfl).pull (k := 3) rfl)⟩)
  refine WalkP.look rfl (fun _ => .slice tsa tb.length tsc) (fun _ _ _ => rfl) (fun L r uw _ _ _ => Gives.run rfl (r_move (v := .slice tsa tb.length tsc) rfl) ⟨rfl, rfl⟩) ?_
  refine WalkP.eff 3 rfl (fun L r uw hLn hAn hDn hF => ?_) ?_
  · skip
    have b1 : L 1 = true := hAn 1 (by decide) rfl
    have b3 : L 3 = true := hAn 3 (by decide) rfl
    have b4 : L 4 = true := hAn 4 (by decide) rfl
    have b6 : L 6 = false := hLn
    have b7 : L 7 = false := hDn 7 (by decide) rfl
    have hb : List.map L [1, 3, 4, 6, 7] = [true, true, true, false, false] := by simp only [List.map_cons, List.map_nil, b1, b3, b4, b6, b7]
    rw [hb] at hF ⊢
    obtain ⟨b60, key66, c67, sp68, b89, e1, e3, e4, hS90, hS74, H169⟩ := hF
    dsimp only
    rw [e1, e3, e4]
    refine Gives.ofW (d := 36) rfl rfl (fun Q' hK => ?_)
    refine q_append (E := ELb) (k := 0) (l := ([] : List (BitVec 64 × BitVec 64))) (l2 := tb) H169 rfl hS90 sli92 zer38 rfl byt38 (hTb.ext H169.chg) rfl (by rfl) rfl (by rfl) (by omega) ?_
    intro key170 c171 sp172 w174 hS173 hne176 H175
    have H175' := H175.as (L' := [(key170, sob ELb 38 (([] : List (BitVec 64 × BitVec 64)) ++ tb) sp172), (key66, sob ELb 38 ls sp68), (ko48, sob EI 3 l1 spo50), (kg45, sob EG 99 g1 spg47), (some b31, .cells #[i64 (n), .slice (ownA kg45) g1.length cg46, .slice (ownA ko48) l1.length co49] 70 (0, 0))]) rfl
    clear H175
    have e177 : ([] : List (BitVec 64 × BitVec 64)) ++ tb = tb := by rw [List.nil_append]
    have hS178 := hS173
    rw [e177] at hS178
    have H179 := H175'.as (L' := [(key170, sob ELb 38 tb sp172), (key66, sob ELb 38 ls sp68), (ko48, sob EI 3 l1 spo50), (kg45, sob EG 99 g1 spg47), (some b31, .cells #[i64 (n), .slice (ownA kg45) g1.length cg46, .slice (ownA ko48) l1.length co49] 70 (0, 0))]) (by rw [e177])
    exact hK _ _ (show ∃ (b60 : Nat) (key66 : Option Nat) (c67 : Nat) (sp68 : List Value) (b89 : Nat) (key95 : Option Nat) (c96 : Nat) (sp97 : List Value), r 1 = .slice (ownA (some b60)) 0 0 ∧ r 3 = .slice (ownA key66) (0 + ls.length) c67 ∧ r 4 = .slice (ownA (some b89)) 0 0 ∧ (_ : Value) = .slice (ownA key95) (0 + tb.length) c96 ∧ Sl ELb key95 tb c96 sp97 ∧ Sl ELb key66 ls c67 sp68 ∧ Hp No w w174 [(key95, sob ELb 38 tb sp97), (key66, sob ELb 38 ls sp68), (ko48, sob EI 3 l1 spo50), (kg45, sob EG 99 g1 spg47), (some b31, .cells #[i64 (n), .slice (ownA kg45) g1.length cg46, .slice (ownA ko48) l1.length co49] 70 (0, 0))] from ⟨b60, key66, c67, sp68, b89, key170, c171, sp172, e1, e3, e4, rfl, hS178, hS74, (((((H179.pull (k := 4) rfl).pull (k := 4) rfl).pull (k := 4) rfl).pull (k := 4) rfl).pull (k := 4) rfl)⟩)
  refine WalkP.eff 4 rfl (fun L r uw hLn hAn hDn hF => ?_) ?_
  · skip
    have b1 : L 1 = true := hAn 1 (by decide) rfl
    have b3 : L 3 = true := hAn 3 (by decide) rfl
    have b4 : L 4 = true := hAn 4 (by decide) rfl
    have b6 : L 6 = true := hAn 6 (by decide) rfl
    have b7 : L 7 = false := hLn
    have hb : List.map L [1, 3, 4, 6, 7] = [true, true, true, true, false] := by simp only [List.map_cons, List.map_nil, b1, b3, b4, b6, b7]
    rw [hb] at hF ⊢
    obtain ⟨b60, key66, c67, sp68, b89, key95, c96, sp97, e1, e3, e4, e6, hS103, hS74, H180⟩ := hF
    dsimp only
    rw [e1, e3, e4, e6]
    refine Gives.ofW (d := 37) rfl rfl (fun Q' hK => ?_)
    have := H180.lt (List.mem_of_getElem? (i := 4) rfl) rfl
    refine c_call (vs := [.agg #[i64 (n), .slice (ownA kg45) g1.length cg46, .slice (ownA ko48) l1.length co49], .slice (ownA key66) (0 + ls.length) c67, .slice (ownA key95) (0 + tb.length) c96, u64 (5#64)]) call46 rfl (eval_numL n g1 l1 (ownA kg45) (ownA ko48) cg46 co49 ls tb (ownA key66) (ownA key95) c67 c96 (5#64) (0 + ls.length) (0 + tb.length) (by exact Nat.zero_add _) (by exact Nat.zero_add _) uw (Chg.gl H180.chg (fun x => x) hG) (H180.rd (k := 3) rfl hSg51) (H180.rd (k := 2) rfl hSo52) (by first | omega | exact Nat.le_of_ble_eq_true rfl) (by first | omega | exact Nat.le_of_ble_eq_true rfl) (H180.rd (k := 1) rfl hS74) (H180.rd (k := 0) rfl hS103) hg hm) ?_
    rintro _ w181 ⟨⟨v183, rfl, hEr184⟩, hE185⟩
    have H186 := H180.ext hE185
    obtain ⟨T187, x188, rfl⟩ := hEr184.iface
    obtain ⟨lo189, hlo190⟩ : ∃ lo, lo = uw.heap.size := ⟨_, rfl⟩
    rw [← hlo190] at hEr184
    have hlt191 : b31 < lo189 := by omega
    exact hK _ _ (show ∃ (b60 : Nat) (key66 : Option Nat) (c67 : Nat) (sp68 : List Value) (b89 : Nat) (key95 : Option Nat) (c96 : Nat) (sp97 : List Value) (lo114 : Nat) (T112 : TypeId) (x113 : Value), r 1 = .slice (ownA (some b60)) 0 0 ∧ r 3 = .slice (ownA key66) (0 + ls.length) c67 ∧ r 4 = .slice (ownA (some b89)) 0 0 ∧ r 6 = .slice (ownA key95) (0 + tb.length) c96 ∧ (_ : Value) = .tuple #[.slice none 0 0, .iface T112 (x113)] ∧ Sl ELb key95 tb c96 sp97 ∧ Sl ELb key66 ls c67 sp68 ∧ Er lo114 w181 1 1 (.iface T112 x113) ∧ b31 < lo114 ∧ Hp No w w181 [(key95, sob ELb 38 tb sp97), (key66, sob ELb 38 ls sp68), (ko48, sob EI 3 l1 spo50), (kg45, sob EG 99 g1 spg47), (some b31, .cells #[i64 (n), .slice (ownA kg45) g1.length cg46, .slice (ownA ko48) l1.length co49] 70 (0, 0))] from ⟨b60, key66, c67, sp68, b89, key95, c96, sp97, lo189, T187, x188, e1, e3, e4, e6, rfl, hS103, hS74, hEr184, hlt191, (((((H186.pull (k := 4) rfl).pull (k := 4) rfl).pull (k := 4) rfl).pull (k := 4) rfl).pull (k := 4) rfl)⟩)
  refine WalkP.look rfl (fun r => r 7) (fun r r' h => h 7 (by decide) rfl) (fun L r uw _ _ _ => Gives.run rfl (r_move rfl) ⟨rfl, rfl⟩) ?_
  refine WalkP.look rfl (fun r => proj (r 7) 0) (fun r r' h => by rw [h 7 (by decide) rfl]) (fun L r uw hAn hDn hF => ?_) ?_
  · skip
    have b1 : L 1 = true := hAn 1 (by decide) rfl
    have b3 : L 3 = true := hAn 3 (by decide) rfl
    have b4 : L 4 = true := hAn 4 (by decide) rfl
    have b6 : L 6 = true := hAn 6 (by decide) rfl
    have b7 : L 7 = true := hAn 7 (by decide) rfl
    have hb : List.map L [1, 3, 4, 6, 7] = [true, true, true, true, true] := by simp only [List.map_cons, List.map_nil, b1, b3, b4, b6, b7]
    rw [hb] at hF
    obtain ⟨b60, key66, c67, sp68, b89, key95, c96, sp97, lo114, T112, x113, e1, e3, e4, e6, e7, hS103, hS74, hEr109, hlt116, HH⟩ := hF
    dsimp only
    rw [e7]
    exact Gives.run rfl (r_extract (vs := #[.slice none 0 0, .iface T112 (x113)]) rfl rfl) ⟨rfl, rfl⟩
  refine WalkP.look rfl (fun r => proj (r 7) 1) (fun r r' h => by rw [h 7 (by decide) rfl]) (fun L r uw hAn hDn hF => ?_) ?_
  · skip
    have b1 : L 1 = true := hAn 1 (by decide) rfl
    have b3 : L 3 = true := hAn 3 (by decide) rfl
    have b4 : L 4 = true := hAn 4 (by decide) rfl
    have b6 : L 6 = true := hAn 6 (by decide) rfl
    have b7 : L 7 = true := hAn 7 (by decide) rfl
    have hb : List.map L [1, 3, 4, 6, 7] = [true, true, true, true, true] := by simp only [List.map_cons, List.map_nil, b1, b3, b4, b6, b7]
    rw [hb] at hF
    obtain ⟨b60, key66, c67, sp68, b89, key95, c96, sp97, lo114, T112, x113, e1, e3, e4, e6, e7, hS103, hS74, hEr109, hlt116, HH⟩ := hF
    dsimp only
    rw [e7]
    exact Gives.run rfl (r_extract (vs := #[.slice none 0 0, .iface T112 (x113)]) rfl rfl) ⟨rfl, rfl⟩
  refine WalkP.look rfl (fun r => proj (r 7) 0) (fun r r' h => by rw [h 7 (by decide) rfl]) (fun L r uw _ _ _ => Gives.run rfl (r_assign rfl) ⟨rfl, rfl⟩) ?_
  refine WalkP.look rfl (fun r => proj (r 7) 1) (fun r r' h => by rw [h 7 (by decide) rfl]) (fun L r uw _ _ _ => Gives.run rfl (r_assign rfl) ⟨rfl, rfl⟩) ?_
  refine WalkP.nil ?_
  intro r192 w193 hF
  obtain ⟨b60, key66, c67, sp68, b89, key95, c96, sp97, lo114, T112, x113, e1, e3, e4, e6, e7, hS103, hS74, hEr109, hlt116, H194⟩ := hF
  dsimp only
  rw [e1, e3, e4, e6, e7]
  refine wnil ?_
  refine thenNormal ?_
  refine seqAny ?_
  refine blockAny ?_
  refine seqRegion ?_
  refine sq (r_loadA (cs' := #[i64 (n), .slice (ownA kg45) g1.length cg46, .slice (ownA ko48) l1.length co49]) agg70 siz70 (H194.get (k := 4) rfl) (off := 0) rfl (by exact Nat.le_of_ble_eq_true rfl) (by rfl)) ?_
  refine c_call (vs := [.agg #[i64 (n), .slice (ownA kg45) g1.length cg46, .slice (ownA ko48) l1.length co49]]) call31 rfl (check_good n g1 l1 (ownA kg45) (ownA ko48) cg46 co49 w193 (Chg.gl H194.chg (fun x => x) hG) (H194.rd (k := 3) rfl hSg51) (H194.rd (k := 2) rfl hSo52) (by omega) (by omega) hg) ?_
  rintro _ w195 ⟨rfl, hE196⟩
  have H197 := H194.ext hE196
  refine sq (r_neqNN isI27 rfl rfl) ?_
  refine sq (r_assign (v := .bool (false)) rfl) ?_
  refine wend ?_
  refine condFalse rfl ?_
  refine seqRegion ?_
  refine sq (r_move (v := .slice lsa ls.length lsc) rfl) ?_
  refine sq (r_lenS sli92 (a := lsa) (m := ls.length) (c := lsc) rfl) ?_
  refine sq (r_fieldAddr (off' := 0) fld70_0 (by decide) (b := b31) (off := 0) rfl (by omega)) ?_
  refine sq (r_loadC (v := i64 (n)) one3 (H197.get (k := 4) rfl) (off := 0) rfl (by rfl)) ?_
  refine sq ((r_neqI (a := (ls.length : Nat)) (b := n) rfl rfl).as (v' := .bool (true)) (by exact congrArg Value.bool (decide_eq_true (by omega)))) ?_
  refine sq (r_assign (v := .bool (true)) rfl) ?_
  refine wend ?_
  refine condTrue rfl ?_
  refine seqRegion ?_
  refine sq (r_move (v := .slice none 0 0) rfl) ?_
  refine sq (r_lenS sli92 (a := none) (m := 0) (c := 0) rfl) ?_
  refine sq ((r_eqlI (a := (0 : Nat)) (b := (0 : Int)) rfl rfl).as (v' := .bool (true)) (by rfl)) ?_
  refine sq (r_move (v := .bool (true)) rfl) ?_
  refine sqAny (v := .iface T112 (x113)) (w' := w195) (wantedSome (d' := 61) (b := true) rfl rfl rfl) (r_move (v := .iface T112 (x113)) rfl) ?_
  refine caAny (wantedSome (d' := 61) (b := true) rfl rfl rfl) (Enters.callL (vs := [.iface T112 (x113)]) call26 rfl) (code_ok 1 1 lo114 (.iface T112 (x113)) w195 (Chg.gl H197.chg (fun x => x) hG) ((hEr109.ext hE196))) ?_
  rintro _ w198 ⟨rfl, hE199⟩
  have H200 := H197.ext hE199
  refine sqAny (v := .bool (true)) (w' := w198) (wantedSome (d' := 61) (b := true) rfl rfl rfl) ((r_eqlI (a := 1) (b := (1 : Int)) rfl rfl).as (v' := .bool (true)) (by rfl)) ?_
  refine sq (r_pickT (u := .bool (true)) rfl rfl) ?_
  refine sq (r_assign (v := .bool (true)) rfl) ?_
  refine wend ?_
  refine retAny ?_
  refine blockRet ?_
  refine thenRet ?_
  refine retG (rs := [.tmp 6]) (vs := [.bool (true)]) rfl ⟨⟨rfl, rfl⟩, trivial⟩ ?_
  exact ⟨_, rfl, rfl, H200.chg⟩
set_option maxHeartbeats 1000000 in
theorem gevals_tab (n : Int) (gs : List Gt) (ol : List Int) (ga oa : Option Addr) (gc oc : Nat) (ls tb : List Lb) (lsa tsa : Option Addr) (lsc tsc : Nat) (hgc : gs.length ≤ gc) (hoc : ol.length ≤ oc) (w : World) (hG : Gl w) (hGs : Rd EG w ga gs) (hOl : Rd EI w oa ol) (hLs : Rd ELb w lsa ls) (hTb : Rd ELb w tsa tb) (h1s : gs.length ≤ 60) (h2s : n ≤ 200) (h3s : ls.length ≤ 300) (h4s : tb.length ≤ 300) (hg : IsC n (gs.take 4200) (ol.take 80)) (hm : (ls.length : Int) = n) (hc : tb.length ≠ 2 * andsS (gs.take 4200) (gs.take 4200).length) : Calls Tryd.prog 12 [.agg #[i64 (n), .slice ga gs.length gc, .slice oa ol.length oc], .slice lsa ls.length lsc, .slice tsa tb.length tsc].toArray w (Ret fun v w' => v = .bool true ∧ Ext w w') := by
  obtain ⟨g1, hg1⟩ : ∃ g1, g1 = gs.take 4200 := ⟨_, rfl⟩
  obtain ⟨l1, hl1⟩ : ∃ l1, l1 = ol.take 80 := ⟨_, rfl⟩
  have hgl1 : g1.length ≤ 60 := by rw [hg1, List.length_take]; omega
  have hll1 : l1.length ≤ 80 := by rw [hl1, List.length_take]; omega
  rw [← hg1, ← hl1] at hg
  rw [← hg1] at hc
  have han := andsS_le g1 g1.length
  have H := Hp.start No w
  refine enter (n := 91) Tryd.func12 rfl rfl (Nat.le_of_ble_eq_true rfl) ?_
  refine seqRegion ?_
  refine q_box (v := .agg #[i64 (n), .slice ga gs.length gc, .slice oa ol.length oc]) (o := .cells #[i64 (n), .slice ga gs.length gc, .slice oa ol.length oc] 70 (0, 0)) H rfl (by rfl) ?_
  intro b31 w32 hb31 H33 hE34
  refine sq (r_assign (v := .bool (false)) rfl) ?_
  refine wend ?_
  refine seqAny ?_
  refine seqRegion ?_
  refine c_call (vs := []) call41 rfl (gawake_ok w32 (Chg.gl H33.chg (fun x => x) hG)) ?_
  rintro _ w35 ⟨rfl, hE36⟩
  have H37 := H33.ext hE36
  refine sq (r_notT rfl) ?_
  refine sq (r_move (v := .bool (false)) rfl) ?_
  refine sqAny (v := .agg #[i64 (n), .slice ga gs.length gc, .slice oa ol.length oc]) (w' := w35) (wantedSome (d' := 11) (b := false) rfl rfl rfl) (r_loadA (cs' := #[i64 (n), .slice ga gs.length gc, .slice oa ol.length oc]) agg70 siz70 (H37.get (k := 0) rfl) (off := 0) rfl (by exact Nat.le_of_ble_eq_true rfl) (by rfl)) ?_
  refine caAny (wantedSome (d' := 11) (b := false) rfl rfl rfl) (Enters.callL (vs := [.agg #[i64 (n), .slice ga gs.length gc, .slice oa ol.length oc]]) call42 rfl) (small_yes n gs ol ga oa gc oc w35 h1s h2s) ?_
  rintro _ w38 ⟨rfl, hE39⟩
  have H40 := H37.ext hE39
  refine sqAny (v := .bool (false)) (w' := w38) (wantedSome (d' := 11) (b := false) rfl rfl rfl) (r_notT rfl) ?_
  refine sq (r_pickF (v := .bool (false)) rfl rfl) ?_
  refine sq (r_move (v := .bool (false)) rfl) ?_
  refine sqAny (v := .slice lsa ls.length lsc) (w' := w38) (wantedSome (d' := 16) (b := false) rfl rfl rfl) (r_move (v := .slice lsa ls.length lsc) rfl) ?_
  refine sqAny (v := i64 ((ls.length : Nat))) (w' := w38) (wantedSome (d' := 16) (b := false) rfl rfl rfl) (r_lenS sli92 (a := lsa) (m := ls.length) (c := lsc) rfl) ?_
  refine sqAny (v := .bool (false)) (w' := w38) (wantedSome (d' := 16) (b := false) rfl rfl rfl) ((r_gtrI (a := (ls.length : Nat)) (b := (300 : Int)) rfl rfl).as (v' := .bool (false)) (by exact congrArg Value.bool (decide_eq_false (by omega)))) ?_
  refine sq (r_pickF (v := .bool (false)) rfl rfl) ?_
  refine sq (r_move (v := .bool (false)) rfl) ?_
  refine sqAny (v := .slice tsa tb.length tsc) (w' := w38) (wantedSome (d' := 21) (b := false) rfl rfl rfl) (r_move (v := .slice tsa tb.length tsc) rfl) ?_
  refine sqAny (v := i64 ((tb.length : Nat))) (w' := w38) (wantedSome (d' := 21) (b := false) rfl rfl rfl) (r_lenS sli92 (a := tsa) (m := tb.length) (c := tsc) rfl) ?_
  refine sqAny (v := .bool (false)) (w' := w38) (wantedSome (d' := 21) (b := false) rfl rfl rfl) ((r_gtrI (a := (tb.length : Nat)) (b := (300 : Int)) rfl rfl).as (v' := .bool (false)) (by exact congrArg Value.bool (decide_eq_false (by omega)))) ?_
  refine sq (r_pickF (v := .bool (false)) rfl rfl) ?_
  refine wend ?_
  refine condFalse rfl ?_
  refine skipAny ?_
  refine thenNormal ?_
  refine seqRegion ?_
  refine sq (r_loadA (cs' := #[i64 (n), .slice ga gs.length gc, .slice oa ol.length oc]) agg70 siz70 (H40.get (k := 0) rfl) (off := 0) rfl (by exact Nat.le_of_ble_eq_true rfl) (by rfl)) ?_
  refine c_call (vs := [.agg #[i64 (n), .slice ga gs.length gc, .slice oa ol.length oc]]) call43 rfl (own_ok n gs ol ga oa gc oc hgc hoc w38 (hGs.ext H40.chg) (hOl.ext H40.chg)) ?_
  rintro _ w41 ⟨⟨ng43, no44, kg45, cg46, spg47, ko48, co49, spo50, rfl, rfl, rfl, hSg51, hSo52, HN53⟩, hE54⟩
  rw [← hg1] at hSg51 HN53
  rw [← hl1] at hSo52 HN53
  rw [← hg1, ← hl1]
  have H55 := (H40.join HN53).as (L' := [(ko48, sob EI 3 l1 spo50), (kg45, sob EG 99 g1 spg47), (some b31, .cells #[i64 (n), .slice ga gs.length gc, .slice oa ol.length oc] 70 (0, 0))]) rfl
  refine d_store (k := 2) (v := .agg #[i64 (n), .slice (ownA kg45) g1.length cg46, .slice (ownA ko48) l1.length co49]) (cs' := #[i64 (n), .slice (ownA kg45) g1.length cg46, .slice (ownA ko48) l1.length co49]) H55 rfl rfl rfl siz70 (by rfl) (by intro u hu; simp [Value.cells] at hu; first | (subst hu; rfl) | (rcases hu with rfl | rfl | rfl <;> rfl)) (by exact Nat.le_of_ble_eq_true rfl) (by rfl) ?_
  intro w56 H57 hC58
  have H57' := H57.as (L' := [(ko48, sob EI 3 l1 spo50), (kg45, sob EG 99 g1 spg47), (some b31, .cells #[i64 (n), .slice (ownA kg45) g1.length cg46, .slice (ownA ko48) l1.length co49] 70 (0, 0))]) rfl
  clear H57
  refine wend ?_
  refine seqAny ?_
  refine drawP (m := 13) [0, 0, 0, 6, 0, 0, 62, 127, 255, 511, 511, 1023, 4095] [1, 3, 4, 6, 7] (fun bs vs w' => match bs, vs with | [false, false, false, false, false], [_, _, _, _, _] => Hp No w w' [(ko48, sob EI 3 l1 spo50), (kg45, sob EG 99 g1 spg47), (some b31, .cells #[i64 (n), .slice (ownA kg45) g1.length cg46, .slice (ownA ko48) l1.length co49] 70 (0, 0))] | [true, false, false, false, false], [v1, _, _, _, _] => ∃ (b60 : Nat), v1 = .slice (ownA (some b60)) 0 0 ∧ Sl ELb (some b60) ([] : List (BitVec 64 × BitVec 64)) 0 ([]) ∧ Hp No w w' [((some b60), sob ELb 38 ([] : List (BitVec 64 × BitVec 64)) ([])), (ko48, sob EI 3 l1 spo50), (kg45, sob EG 99 g1 spg47), (some b31, .cells #[i64 (n), .slice (ownA kg45) g1.length cg46, .slice (ownA ko48) l1.length co49] 70 (0, 0))] | [true, true, false, false, false], [v1, v3, _, _, _] => ∃ (b60 : Nat) (key66 : Option Nat) (c67 : Nat) (sp68 : List Value), v1 = .slice (ownA (some b60)) 0 0 ∧ v3 = .slice (ownA key66) (0 + ls.length) c67 ∧ Sl ELb key66 ls c67 sp68 ∧ Hp No w w' [(key66, sob ELb 38 ls sp68), (ko48, sob EI 3 l1 spo50), (kg45, sob EG 99 g1 spg47), (some b31, .cells #[i64 (n), .slice (ownA kg45) g1.length cg46, .slice (ownA ko48) l1.length co49] 70 (0, 0))] | [false, false, true, false, false], [_, _, v4, _, _] => ∃ (b77 : Nat), v4 = .slice (ownA (some b77)) 0 0 ∧ Sl ELb (some b77) ([] : List (BitVec 64 × BitVec 64)) 0 ([]) ∧ Hp No w w' [((some b77), sob ELb 38 ([] : List (BitVec 64 × BitVec 64)) ([])), (ko48, sob EI 3 l1 spo50), (kg45, sob EG 99 g1 spg47), (some b31, .cells #[i64 (n), .slice (ownA kg45) g1.length cg46, .slice (ownA ko48) l1.length co49] 70 (0, 0))] | [true, false, true, false, false], [v1, _, v4, _, _] => ∃ (b60 : Nat) (b83 : Nat), v1 = .slice (ownA (some b60)) 0 0 ∧ v4 = .slice (ownA (some b83)) 0 0 ∧ Sl ELb (some b83) ([] : List (BitVec 64 × BitVec 64)) 0 ([]) ∧ Sl ELb (some b60) ([] : List (BitVec 64 × BitVec 64)) 0 ([]) ∧ Hp No w w' [((some b83), sob ELb 38 ([] : List (BitVec 64 × BitVec 64)) ([])), ((some b60), sob ELb 38 ([] : List (BitVec 64 × BitVec 64)) ([])), (ko48, sob EI 3 l1 spo50), (kg45, sob EG 99 g1 spg47), (some b31, .cells #[i64 (n), .slice (ownA kg45) g1.length cg46, .slice (ownA ko48) l1.length co49] 70 (0, 0))] | [true, true, true, false, false], [v1, v3, v4, _, _] => ∃ (b60 : Nat) (key66 : Option Nat) (c67 : Nat) (sp68 : List Value) (b89 : Nat), v1 = .slice (ownA (some b60)) 0 0 ∧ v3 = .slice (ownA key66) (0 + ls.length) c67 ∧ v4 = .slice (ownA (some b89)) 0 0 ∧ Sl ELb (some b89) ([] : List (BitVec 64 × BitVec 64)) 0 ([]) ∧ Sl ELb key66 ls c67 sp68 ∧ Hp No w w' [((some b89), sob ELb 38 ([] : List (BitVec 64 × BitVec 64)) ([])), (key66, sob ELb 38 ls sp68), (ko48, sob EI 3 l1 spo50), (kg45, sob EG 99 g1 spg47), (some b31, .cells #[i64 (n), .slice (ownA kg45) g1.length cg46, .slice (ownA ko48) l1.length co49] 70 (0, 0))] | [true, true, true, true, false], [v1, v3, v4, v6, _] => ∃ (b60 : Nat) (key66 : Option Nat) (c67 : Nat) (sp68 : List Value) (b89 : Nat) (key95 : Option Nat) (c96 : Nat) (sp97 : List Value), v1 = .slice (ownA (some b60)) 0 0 ∧ v3 = .slice (ownA key66) (0 + ls.length) c67 ∧ v4 = .slice (ownA (some b89)) 0 0 ∧ v6 = .slice (ownA key95) (0 + tb.length) c96 ∧ Sl ELb key95 tb c96 sp97 ∧ Sl ELb key66 ls c67 sp68 ∧ Hp No w w' [(key95, sob ELb 38 tb sp97), (key66, sob ELb 38 ls sp68), (ko48, sob EI 3 l1 spo50), (kg45, sob EG 99 g1 spg47), (some b31, .cells #[i64 (n), .slice (ownA kg45) g1.length cg46, .slice (ownA ko48) l1.length co49] 70 (0, 0))] | [true, true, true, true, true], [v1, v3, v4, v6, v7] => ∃ (b60 : Nat) (key66 : Option Nat) (c67 : Nat) (sp68 : List Value) (b89 : Nat) (key95 : Option Nat) (c96 : Nat) (sp97 : List Value) (lo114 : Nat) (T112 : TypeId) (x113 : Value), v1 = .slice (ownA (some b60)) 0 0 ∧ v3 = .slice (ownA key66) (0 + ls.length) c67 ∧ v4 = .slice (ownA (some b89)) 0 0 ∧ v6 = .slice (ownA key95) (0 + tb.length) c96 ∧ v7 = .tuple #[.slice none 0 0, .iface T112 (x113)] ∧ Sl ELb key95 tb c96 sp97 ∧ Sl ELb key66 ls c67 sp68 ∧ Er lo114 w' 100 1 (.iface T112 x113) ∧ b31 < lo114 ∧ Hp No w w' [(key95, sob ELb 38 tb sp97), (key66, sob ELb 38 ls sp68), (ko48, sob EI 3 l1 spo50), (kg45, sob EG 99 g1 spg47), (some b31, .cells #[i64 (n), .slice (ownA kg45) g1.length cg46, .slice (ownA ko48) l1.length co49] 70 (0, 0))] | _, _ => False) mixed (by kernel_rfl) (by kernel_rfl) H57'.drew ?_
  refine WalkP.look rfl (fun _ => .agg #[i64 (n), .slice (ownA kg45) g1.length cg46, .slice (ownA ko48) l1.length co49]) (fun _ _ _ => rfl) (fun L r uw hAn hDn hF => ?_) ?_
  · skip
    have b7 : L 7 = false := hDn 7 (by decide) rfl
    rcases Bool.eq_false_or_eq_true (L 1) with b1 | b1
    · skip
      rcases Bool.eq_false_or_eq_true (L 3) with b3 | b3
      · skip
        rcases Bool.eq_false_or_eq_true (L 4) with b4 | b4
        · skip
          rcases Bool.eq_false_or_eq_true (L 6) with b6 | b6
          · skip
            have hb : List.map L [1, 3, 4, 6, 7] = [true, true, true, true, false] := by simp only [List.map_cons, List.map_nil, b1, b3, b4, b6, b7]
            rw [hb] at hF
            obtain ⟨b60, key66, c67, sp68, b89, key95, c96, sp97, e1, e3, e4, e6, hS103, hS74, HH⟩ := hF
            exact Gives.run rfl (r_loadA (cs' := #[i64 (n), .slice (ownA kg45) g1.length cg46, .slice (ownA ko48) l1.length co49]) agg70 siz70 (HH.get (k := 4) rfl) (off := 0) rfl (by exact Nat.le_of_ble_eq_true rfl) (by rfl)) ⟨rfl, rfl⟩
          · skip
            have hb : List.map L [1, 3, 4, 6, 7] = [true, true, true, false, false] := by simp only [List.map_cons, List.map_nil, b1, b3, b4, b6, b7]
            rw [hb] at hF
            obtain ⟨b60, key66, c67, sp68, b89, e1, e3, e4, hS90, hS74, HH⟩ := hF
            exact Gives.run rfl (r_loadA (cs' := #[i64 (n), .slice (ownA kg45) g1.length cg46, .slice (ownA ko48) l1.length co49]) agg70 siz70 (HH.get (k := 4) rfl) (off := 0) rfl (by exact Nat.le_of_ble_eq_true rfl) (by rfl)) ⟨rfl, rfl⟩
        · skip
          rcases Bool.eq_false_or_eq_true (L 6) with b6 | b6
          · skip
            have hb : List.map L [1, 3, 4, 6, 7] = [true, true, false, true, false] := by simp only [List.map_cons, List.map_nil, b1, b3, b4, b6, b7]
            rw [hb] at hF
            exact False.elim hF
          · skip
            have hb : List.map L [1, 3, 4, 6, 7] = [true, true, false, false, false] := by simp only [List.map_cons, List.map_nil, b1, b3, b4, b6, b7]
            rw [hb] at hF
            obtain ⟨b60, key66, c67, sp68, e1, e3, hS74, HH⟩ := hF
            exact Gives.run rfl (r_loadA (cs' := #[i64 (n), .slice (ownA kg45) g1.length cg46, .slice (ownA ko48) l1.length co49]) agg70 siz70 (HH.get (k := 3) rfl) (off := 0) rfl (by exact Nat.le_of_ble_eq_true rfl) (by rfl)) ⟨rfl, rfl⟩
      · skip
        rcases Bool.eq_false_or_eq_true (L 4) with b4 | b4
        · skip
          rcases Bool.eq_false_or_eq_true (L 6) with b6 | b6
          · skip
            have hb : List.map L [1, 3, 4, 6, 7] = [true, false, true, true, false] := by simp only [List.map_cons, List.map_nil, b1, b3, b4, b6, b7]
            rw [hb] at hF
            exact False.elim hF
          · skip
            have hb : List.map L [1, 3, 4, 6, 7] = [true, false, true, false, false] := by simp only [List.map_cons, List.map_nil, b1, b3, b4, b6, b7]
            rw [hb] at hF
            obtain ⟨b60, b83, e1, e4, hS84, hS61, HH⟩ := hF
            exact Gives.run rfl (r_loadA (cs' := #[i64 (n), .slice (ownA kg45) g1.length cg46, .slice (ownA ko48) l1.length co49]) agg70 siz70 (HH.get (k := 4) rfl) (off := 0) rfl (by exact Nat.le_of_ble_eq_true rfl) (by rfl)) ⟨rfl, rfl⟩
        · skip
          rcases Bool.eq_false_or_eq_true (L 6) with b6 | b6
          · skip
            have hb : List.map L [1, 3, 4, 6, 7] = [true, false, false, true, false] := by simp only [List.map_cons, List.map_nil, b1, b3, b4, b6, b7]
            rw [hb] at hF
            exact False.elim hF
          · skip
            have hb : List.map L [1, 3, 4, 6, 7] = [true, false, false, false, false] := by simp only [List.map_cons, List.map_nil, b1, b3, b4, b6, b7]
            rw [hb] at hF
            obtain ⟨b60, e1, hS61, HH⟩ := hF
            exact Gives.run rfl (r_loadA (cs' := #[i64 (n), .slice (ownA kg45) g1.length cg46, .slice (ownA ko48) l1.length co49]) agg70 siz70 (HH.get (k := 3) rfl) (off := 0) rfl (by exact Nat.le_of_ble_eq_true rfl) (by rfl)) ⟨rfl, rfl⟩
    · skip
      rcases Bool.eq_false_or_eq_true (L 3) with b3 | b3
      · skip
        rcases Bool.eq_false_or_eq_true (L 4) with b4 | b4
        · skip
          rcases Bool.eq_false_or_eq_true (L 6) with b6 | b6
          · skip
            have hb : List.map L [1, 3, 4, 6, 7] = [false, true, true, true, false] := by simp only [List.map_cons, List.map_nil, b1, b3, b4, b6, b7]
            rw [hb] at hF
            exact False.elim hF
          · skip
            have hb : List.map L [1, 3, 4, 6, 7] = [false, true, true, false, false] := by simp only [List.map_cons, List.map_nil, b1, b3, b4, b6, b7]
            rw [hb] at hF
            exact False.elim hF
        · skip
          rcases Bool.eq_false_or_eq_true (L 6) with b6 | b6
          · skip
            have hb : List.map L [1, 3, 4, 6, 7] = [false, true, false, true, false] := by simp only [List.map_cons, List.map_nil, b1, b3, b4, b6, b7]
            rw [hb] at hF
            exact False.elim hF
          · skip
            have hb : List.map L [1, 3, 4, 6, 7] = [false, true, false, false, false] := by simp only [List.map_cons, List.map_nil, b1, b3, b4, b6, b7]
            rw [hb] at hF
            exact False.elim hF
      · skip
        rcases Bool.eq_false_or_eq_true (L 4) with b4 | b4
        · skip
          rcases Bool.eq_false_or_eq_true (L 6) with b6 | b6
          · skip
            have hb : List.map L [1, 3, 4, 6, 7] = [false, false, true, true, false] := by simp only [List.map_cons, List.map_nil, b1, b3, b4, b6, b7]
            rw [hb] at hF
            exact False.elim hF
          · skip
            have hb : List.map L [1, 3, 4, 6, 7] = [false, false, true, false, false] := by simp only [List.map_cons, List.map_nil, b1, b3, b4, b6, b7]
            rw [hb] at hF
            obtain ⟨b77, e4, hS78, HH⟩ := hF
            exact Gives.run rfl (r_loadA (cs' := #[i64 (n), .slice (ownA kg45) g1.length cg46, .slice (ownA ko48) l1.length co49]) agg70 siz70 (HH.get (k := 3) rfl) (off := 0) rfl (by exact Nat.le_of_ble_eq_true rfl) (by rfl)) ⟨rfl, rfl⟩
        · skip
          rcases Bool.eq_false_or_eq_true (L 6) with b6 | b6
          · skip
            have hb : List.map L [1, 3, 4, 6, 7] = [false, false, false, true, false] := by simp only [List.map_cons, List.map_nil, b1, b3, b4, b6, b7]
            rw [hb] at hF
            exact False.elim hF
          · skip
            have hb : List.map L [1, 3, 4, 6, 7] = [false, false, false, false, false] := by simp only [List.map_cons, List.map_nil, b1, b3, b4, b6, b7]
            rw [hb] at hF
            have HH := hF
            exact Gives.run rfl (r_loadA (cs' := #[i64 (n), .slice (ownA kg45) g1.length cg46, .slice (ownA ko48) l1.length co49]) agg70 siz70 (HH.get (k := 2) rfl) (off := 0) rfl (by exact Nat.le_of_ble_eq_true rfl) (by rfl)) ⟨rfl, rfl⟩
  refine WalkP.eff 0 rfl (fun L r uw hLn hAn hDn hF => ?_) ?_
  · skip
    have b1 : L 1 = false := hLn
    have b3 : L 3 = false := hDn 3 (by decide) rfl
    have b6 : L 6 = false := hDn 6 (by decide) rfl
    have b7 : L 7 = false := hDn 7 (by decide) rfl
    rcases Bool.eq_false_or_eq_true (L 4) with b4 | b4
    · skip
      have hb : List.map L [1, 3, 4, 6, 7] = [false, false, true, false, false] := by simp only [List.map_cons, List.map_nil, b1, b3, b4, b6, b7]
      rw [hb] at hF ⊢
      obtain ⟨b77, e4, hS78, H117⟩ := hF
      dsimp only
      refine Gives.ofW (d := 31) rfl rfl (fun Q' hK => ?_)
      refine q_buildSlice (E := ELb) (l := ([] : List (BitVec 64 × BitVec 64))) H117 sli92 zer38 (Nat.le_of_ble_eq_true rfl) (ps := []) rfl (by exact fillAll rfl rfl) rfl ?_
      intro b118 w120 hS119 H121 hE122
      exact hK _ _ (show ∃ (b60 : Nat) (b83 : Nat), (_ : Value) = .slice (ownA (some b60)) 0 0 ∧ r 4 = .slice (ownA (some b83)) 0 0 ∧ Sl ELb (some b83) ([] : List (BitVec 64 × BitVec 64)) 0 ([]) ∧ Sl ELb (some b60) ([] : List (BitVec 64 × BitVec 64)) 0 ([]) ∧ Hp No w w120 [((some b83), sob ELb 38 ([] : List (BitVec 64 × BitVec 64)) ([])), ((some b60), sob ELb 38 ([] : List (BitVec 64 × BitVec 64)) ([])), (ko48, sob EI 3 l1 spo50), (kg45, sob EG 99 g1 spg47), (some b31, .cells #[i64 (n), .slice (ownA kg45) g1.length cg46, .slice (ownA ko48) l1.length co49] 70 (0, 0))] from ⟨b118, b77, rfl, e4, hS78, hS119, (((((H121.pull (k := 4) rfl).pull (k := 4) rfl).pull (k := 4) rfl).pull (k := 3) rfl).pull (k := 4) rfl)⟩)
    · skip
      have hb : List.map L [1, 3, 4, 6, 7] = [false, false, false, false, false] := by simp only [List.map_cons, List.map_nil, b1, b3, b4, b6, b7]
      rw [hb] at hF ⊢
      have H123 := hF
      dsimp only
      refine Gives.ofW (d := 31) rfl rfl (fun Q' hK => ?_)
      refine q_buildSlice (E := ELb) (l := ([] : List (BitVec 64 × BitVec 64))) H123 sli92 zer38 (Nat.le_of_ble_eq_true rfl) (ps := []) rfl (by exact fillAll rfl rfl) rfl ?_
      intro b124 w126 hS125 H127 hE128
      exact hK _ _ (show ∃ (b60 : Nat), (_ : Value) = .slice (ownA (some b60)) 0 0 ∧ Sl ELb (some b60) ([] : List (BitVec 64 × BitVec 64)) 0 ([]) ∧ Hp No w w126 [((some b60), sob ELb 38 ([] : List (BitVec 64 × BitVec 64)) ([])), (ko48, sob EI 3 l1 spo50), (kg45, sob EG 99 g1 spg47), (some b31, .cells #[i64 (n), .slice (ownA kg45) g1.length cg46, .slice (ownA ko48) l1.length co49] 70 (0, 0))] from ⟨b124, rfl, hS125, ((((H127.pull (k := 3) rfl).pull (k := 3) rfl).pull (k := 3) rfl).pull (k := 3) rfl)⟩)
  refine WalkP.look rfl (fun _ => .slice lsa ls.length lsc) (fun _ _ _ => rfl) (fun L r uw _ _ _ => Gives.run rfl (r_move (v := .slice lsa ls.length lsc) rfl) ⟨rfl, rfl⟩) ?_
  refine WalkP.eff 1 rfl (fun L r uw hLn hAn hDn hF => ?_) ?_
  · skip
    have b1 : L 1 = true := hAn 1 (by decide) rfl
    have b3 : L 3 = false := hLn
    have b6 : L 6 = false := hDn 6 (by decide) rfl
    have b7 : L 7 = false := hDn 7 (by decide) rfl
    rcases Bool.eq_false_or_eq_true (L 4) with b4 | b4
    · skip
      have hb : List.map L [1, 3, 4, 6, 7] = [true, false, true, false, false] := by simp only [List.map_cons, List.map_nil, b1, b3, b4, b6, b7]
      rw [hb] at hF ⊢
      obtain ⟨b60, b83, e1, e4, hS84, hS61, H129⟩ := hF
      dsimp only
      rw [e1]
      refine Gives.ofW (d := 33) rfl rfl (fun Q' hK => ?_)
      refine q_append (E := ELb) (k := 1) (l := ([] : List (BitVec 64 × BitVec 64))) (l2 := ls) H129 rfl hS61 sli92 zer38 rfl byt38 (hLs.ext H129.chg) rfl (by rfl) rfl (by rfl) (by omega) ?_
      intro key130 c131 sp132 w134 hS133 hne136 H135
      have H135' := H135.as (L' := [((some b83), sob ELb 38 ([] : List (BitVec 64 × BitVec 64)) ([])), (key130, sob ELb 38 (([] : List (BitVec 64 × BitVec 64)) ++ ls) sp132), (ko48, sob EI 3 l1 spo50), (kg45, sob EG 99 g1 spg47), (some b31, .cells #[i64 (n), .slice (ownA kg45) g1.length cg46, .slice (ownA ko48) l1.length co49] 70 (0, 0))]) rfl
      clear H135
      have e137 : ([] : List (BitVec 64 × BitVec 64)) ++ ls = ls := by rw [List.nil_append]
      have hS138 := hS133
      rw [e137] at hS138
      have H139 := H135'.as (L' := [((some b83), sob ELb 38 ([] : List (BitVec 64 × BitVec 64)) ([])), (key130, sob ELb 38 ls sp132), (ko48, sob EI 3 l1 spo50), (kg45, sob EG 99 g1 spg47), (some b31, .cells #[i64 (n), .slice (ownA kg45) g1.length cg46, .slice (ownA ko48) l1.length co49] 70 (0, 0))]) (by rw [e137])
      exact hK _ _ (show ∃ (b60 : Nat) (key66 : Option Nat) (c67 : Nat) (sp68 : List Value) (b89 : Nat), r 1 = .slice (ownA (some b60)) 0 0 ∧ (_ : Value) = .slice (ownA key66) (0 + ls.length) c67 ∧ r 4 = .slice (ownA (some b89)) 0 0 ∧ Sl ELb (some b89) ([] : List (BitVec 64 × BitVec 64)) 0 ([]) ∧ Sl ELb key66 ls c67 sp68 ∧ Hp No w w134 [((some b89), sob ELb 38 ([] : List (BitVec 64 × BitVec 64)) ([])), (key66, sob ELb 38 ls sp68), (ko48, sob EI 3 l1 spo50), (kg45, sob EG 99 g1 spg47), (some b31, .cells #[i64 (n), .slice (ownA kg45) g1.length cg46, .slice (ownA ko48) l1.length co49] 70 (0, 0))] from ⟨b60, key130, c131, sp132, b83, e1, rfl, e4, hS84, hS138, (((((H139.pull (k := 4) rfl).pull (k := 4) rfl).pull (k := 4) rfl).pull (k := 4) rfl).pull (k := 4) rfl)⟩)
    · skip
      have hb : List.map L [1, 3, 4, 6, 7] = [true, false, false, false, false] := by simp only [List.map_cons, List.map_nil, b1, b3, b4, b6, b7]
      rw [hb] at hF ⊢
      obtain ⟨b60, e1, hS61, H140⟩ := hF
      dsimp only
      rw [e1]
      refine Gives.ofW (d := 33) rfl rfl (fun Q' hK => ?_)
      refine q_append (E := ELb) (k := 0) (l := ([] : List (BitVec 64 × BitVec 64))) (l2 := ls) H140 rfl hS61 sli92 zer38 rfl byt38 (hLs.ext H140.chg) rfl (by rfl) rfl (by rfl) (by omega) ?_
      intro key141 c142 sp143 w145 hS144 hne147 H146
      have H146' := H146.as (L' := [(key141, sob ELb 38 (([] : List (BitVec 64 × BitVec 64)) ++ ls) sp143), (ko48, sob EI 3 l1 spo50), (kg45, sob EG 99 g1 spg47), (some b31, .cells #[i64 (n), .slice (ownA kg45) g1.length cg46, .slice (ownA ko48) l1.length co49] 70 (0, 0))]) rfl
      clear H146
      have e148 : ([] : List (BitVec 64 × BitVec 64)) ++ ls = ls := by rw [List.nil_append]
      have hS149 := hS144
      rw [e148] at hS149
      have H150 := H146'.as (L' := [(key141, sob ELb 38 ls sp143), (ko48, sob EI 3 l1 spo50), (kg45, sob EG 99 g1 spg47), (some b31, .cells #[i64 (n), .slice (ownA kg45) g1.length cg46, .slice (ownA ko48) l1.length co49] 70 (0, 0))]) (by rw [e148])
      exact hK _ _ (show ∃ (b60 : Nat) (key66 : Option Nat) (c67 : Nat) (sp68 : List Value), r 1 = .slice (ownA (some b60)) 0 0 ∧ (_ : Value) = .slice (ownA key66) (0 + ls.length) c67 ∧ Sl ELb key66 ls c67 sp68 ∧ Hp No w w145 [(key66, sob ELb 38 ls sp68), (ko48, sob EI 3 l1 spo50), (kg45, sob EG 99 g1 spg47), (some b31, .cells #[i64 (n), .slice (ownA kg45) g1.length cg46, .slice (ownA ko48) l1.length co49] 70 (0, 0))] from ⟨b60, key141, c142, sp143, e1, rfl, hS149, ((((H150.pull (k := 3) rfl).pull (k := 3) rfl).pull (k := 3) rfl).pull (k := 3) rfl)⟩)
  refine WalkP.eff 2 rfl (fun L r uw hLn hAn hDn hF => ?_) ?_
  · skip
    have b4 : L 4 = false := hLn
    have b6 : L 6 = false := hDn 6 (by decide) rfl
    have b7 : L 7 = false := hDn 7 (by decide) rfl
    rcases Bool.eq_false_or_eq_true (L 1) with b1 | b1
    · skip
      rcases Bool.eq_false_or_eq_true (L 3) with b3 | b3
      · skip
        have hb : List.map L [1, 3, 4, 6, 7] = [true, true, false, false, false] := by simp only [List.map_cons, List.map_nil, b1, b3, b4, b6, b7]
        rw [hb] at hF ⊢
        obtain ⟨b60, key66, c67, sp68, e1, e3, hS74, H151⟩ := hF
        dsimp only
        rw [e1, e3]
        refine Gives.ofW (d := 34) rfl rfl (fun Q' hK => ?_)
        refine q_buildSlice (E := ELb) (l := ([] : List (BitVec 64 × BitVec 64))) H151 sli92 zer38 (Nat.le_of_ble_eq_true rfl) (ps := []) rfl (by exact fillAll rfl rfl) rfl ?_
        intro b152 w154 hS153 H155 hE156
        exact hK _ _ (show ∃ (b60 : Nat) (key66 : Option Nat) (c67 : Nat) (sp68 : List Value) (b89 : Nat), r 1 = .slice (ownA (some b60)) 0 0 ∧ r 3 = .slice (ownA key66) (0 + ls.length) c67 ∧ (_ : Value) = .slice (ownA (some b89)) 0 0 ∧ Sl ELb (some b89) ([] : List (BitVec 64 × BitVec 64)) 0 ([]) ∧ Sl ELb key66 ls c67 sp68 ∧ Hp No w w154 [((some b89), sob ELb 38 ([] : List (BitVec 64 × BitVec 64)) ([])), (key66, sob ELb 38 ls sp68), (ko48, sob EI 3 l1 spo50), (kg45, sob EG 99 g1 spg47), (some b31, .cells #[i64 (n), .slice (ownA kg45) g1.length cg46, .slice (ownA ko48) l1.length co49] 70 (0, 0))] from ⟨b60, key66, c67, sp68, b152, e1, e3, rfl, hS153, hS74, (((((H155.pull (k := 4) rfl).pull (k := 4) rfl).pull (k := 4) rfl).pull (k := 4) rfl).pull (k := 4) rfl)⟩)
      · skip
        have hb : List.map L [1, 3, 4, 6, 7] = [true, false, false, false, false] := by simp only [List.map_cons, List.map_nil, b1, b3, b4, b6, b7]
        rw [hb] at hF ⊢
        obtain ⟨b60, e1, hS61, H157⟩ := hF
        dsimp only
        rw [e1]
        refine Gives.ofW (d := 34) rfl rfl (fun Q' hK => ?_)
        refine q_buildSlice (E := ELb) (l := ([] : List (BitVec 64 × BitVec 64))) H157 sli92 zer38 (Nat.le_of_ble_eq_true rfl) (ps := []) rfl (by exact fillAll rfl rfl) rfl ?_
        intro b158 w160 hS159 H161 hE162
        exact hK _ _ (show ∃ (b60 : Nat) (b83 : Nat), r 1 = .slice (ownA (some b60)) 0 0 ∧ (_ : Value) = .slice (ownA (some b83)) 0 0 ∧ Sl ELb (some b83) ([] : List (BitVec 64 × BitVec 64)) 0 ([]) ∧ Sl ELb (some b60) ([] : List (BitVec 64 × BitVec 64)) 0 ([]) ∧ Hp No w w160 [((some b83), sob ELb 38 ([] : List (BitVec 64 × BitVec 64)) ([])), ((some b60), sob ELb 38 ([] : List (BitVec 64 × BitVec 64)) ([])), (ko48, sob EI 3 l1 spo50), (kg45, sob EG 99 g1 spg47), (some b31, .cells #[i64 (n), .slice (ownA kg45) g1.length cg46, .slice (ownA ko48) l1.length co49] 70 (0, 0))] from ⟨b60, b158, e1, rfl, hS159, hS61, (((((H161.pull (k := 4) rfl).pull (k := 4) rfl).pull (k := 4) rfl).pull (k := 4) rfl).pull (k := 4) rfl)⟩)
    · skip
      rcases Bool.eq_false_or_eq_true (L 3) with b3 | b3
      · skip
        have hb : List.map L [1, 3, 4, 6, 7] = [false, true, false, false, false] := by simp only [List.map_cons, List.map_nil, b1, b3, b4, b6, b7]
        rw [hb] at hF
        exact False.elim hF
      · skip
        have hb : List.map L [1, 3, 4, 6, 7] = [false, false, false, false, false] := by simp only [List.map_cons, List.map_nil, b1, b3, b4, b6, b7]
        rw [hb] at hF ⊢
        have H163 := hF
        dsimp only
        refine Gives.ofW (d := 34) rfl rfl (fun Q' hK => ?_)
        refine q_buildSlice (E := ELb) (l := ([] : List (BitVec 64 × BitVec 64))) H163 sli92 zer38 (Nat.le_of_ble_eq_true rfl) (ps := []) rfl (by exact fillAll rfl rfl) rfl ?_
        intro b164 w166 hS165 H167 hE168
        exact hK _ _ (show ∃ (b77 : Nat), (_ : Value) = .slice (ownA (some b77)) 0 0 ∧ Sl ELb (some b77) ([] : List (BitVec 64 × BitVec 64)) 0 ([]) ∧ Hp No w w166 [((some b77), sob ELb 38 ([] : List (BitVec 64 × BitVec 64)) ([])), (ko48, sob EI 3 l1 spo50), (kg45, sob EG 99 g1 spg47), (some b31, .cells #[i64 (n), .slice (ownA kg45) g1.length cg46, .slice (ownA ko48) l1.length co49] 70 (0, 0))] from ⟨b164, rfl, hS165, ((((H167.pull (k := 3) rfl).pull (k := 3) rfl).pull (k := 3) rfl).pull (k := 3) rfl)⟩)
  refine WalkP.look rfl (fun _ => .slice tsa tb.length tsc) (fun _ _ _ => rfl) (fun L r uw _ _ _ => Gives.run rfl (r_move (v := .slice tsa tb.length tsc) rfl) ⟨rfl, rfl⟩) ?_
  refine WalkP.eff 3 rfl (fun L r uw hLn hAn hDn hF => ?_) ?_
  · skip
    have b1 : L 1 = true := hAn 1 (by decide) rfl
    have b3 : L 3 = true := hAn 3 (by decide) rfl
    have b4 : L 4 = true := hAn 4 (by decide) rfl
    have b6 : L 6 = false := hLn
    have b7 : L 7 = false := hDn 7 (by decide) rfl
    have hb : List.map L [1, 3, 4, 6, 7] = [true, true, true, false, false] := by simp only [List.map_cons, List.map_nil, b1, b3, b4, b6, b7]
    rw [hb] at hF ⊢
    obtain ⟨b60, key66, c67, sp68, b89, e1, e3, e4, hS90, hS74, H169⟩ := hF
    dsimp only
    rw [e1, e3, e4]
    refine Gives.ofW (d := 36) rfl rfl (fun Q' hK => ?_)
    refine q_append (E := ELb) (k := 0) (l := ([] : List (BitVec 64 × BitVec 64))) (l2 := tb) H169 rfl hS90 sli92 zer38 rfl byt38 (hTb.ext H169.chg) rfl (by rfl) rfl (by rfl) (by omega) ?_
    intro key170 c171 sp172 w174 hS173 hne176 H175
    have H175' := H175.as (L' := [(key170, sob ELb 38 (([] : List (BitVec 64 × BitVec 64)) ++ tb) sp172), (key66, sob ELb 38 ls sp68), (ko48, sob EI 3 l1 spo50), (kg45, sob EG 99 g1 spg47), (some b31, .cells #[i64 (n), .slice (ownA kg45) g1.length cg46, .slice (ownA ko48) l1.length co49] 70 (0, 0))]) rfl
    clear H175
    have e177 : ([] : List (BitVec 64 × BitVec 64)) ++ tb = tb := by rw [List.nil_append]
    have hS178 := hS173
    rw [e177] at hS178
    have H179 := H175'.as (L' := [(key170, sob ELb 38 tb sp172), (key66, sob ELb 38 ls sp68), (ko48, sob EI 3 l1 spo50), (kg45, sob EG 99 g1 spg47), (some b31, .cells #[i64 (n), .slice (ownA kg45) g1.length cg46, .slice (ownA ko48) l1.length co49] 70 (0, 0))]) (by rw [e177])
    exact hK _ _ (show ∃ (b60 : Nat) (key66 : Option Nat) (c67 : Nat) (sp68 : List Value) (b89 : Nat) (key95 : Option Nat) (c96 : Nat) (sp97 : List Value), r 1 = .slice (ownA (some b60)) 0 0 ∧ r 3 = .slice (ownA key66) (0 + ls.length) c67 ∧ r 4 = .slice (ownA (some b89)) 0 0 ∧ (_ : Value) = .slice (ownA key95) (0 + tb.length) c96 ∧ Sl ELb key95 tb c96 sp97 ∧ Sl ELb key66 ls c67 sp68 ∧ Hp No w w174 [(key95, sob ELb 38 tb sp97), (key66, sob ELb 38 ls sp68), (ko48, sob EI 3 l1 spo50), (kg45, sob EG 99 g1 spg47), (some b31, .cells #[i64 (n), .slice (ownA kg45) g1.length cg46, .slice (ownA ko48) l1.length co49] 70 (0, 0))] from ⟨b60, key66, c67, sp68, b89, key170, c171, sp172, e1, e3, e4, rfl, hS178, hS74, (((((H179.pull (k := 4) rfl).pull (k := 4) rfl).pull (k := 4) rfl).pull (k := 4) rfl).pull (k := 4) rfl)⟩)
  refine WalkP.eff 4 rfl (fun L r uw hLn hAn hDn hF => ?_) ?_
  · skip
    have b1 : L 1 = true := hAn 1 (by decide) rfl
    have b3 : L 3 = true := hAn 3 (by decide) rfl
    have b4 : L 4 = true := hAn 4 (by decide) rfl
    have b6 : L 6 = true := hAn 6 (by decide) rfl
    have b7 : L 7 = false := hLn
    have hb : List.map L [1, 3, 4, 6, 7] = [true, true, true, true, false] := by simp only [List.map_cons, List.map_nil, b1, b3, b4, b6, b7]
    rw [hb] at hF ⊢
    obtain ⟨b60, key66, c67, sp68, b89, key95, c96, sp97, e1, e3, e4, e6, hS103, hS74, H180⟩ := hF
    dsimp only
    rw [e1, e3, e4, e6]
    refine Gives.ofW (d := 37) rfl rfl (fun Q' hK => ?_)
    have := H180.lt (List.mem_of_getElem? (i := 4) rfl) rfl
    refine c_call (vs := [.agg #[i64 (n), .slice (ownA kg45) g1.length cg46, .slice (ownA ko48) l1.length co49], .slice (ownA key66) (0 + ls.length) c67, .slice (ownA key95) (0 + tb.length) c96, u64 (5#64)]) call46 rfl (eval_tabL n g1 l1 (ownA kg45) (ownA ko48) cg46 co49 ls tb (ownA key66) (ownA key95) c67 c96 (5#64) (0 + ls.length) (0 + tb.length) (by exact Nat.zero_add _) (by exact Nat.zero_add _) uw (Chg.gl H180.chg (fun x => x) hG) (H180.rd (k := 3) rfl hSg51) (H180.rd (k := 2) rfl hSo52) (by first | omega | exact Nat.le_of_ble_eq_true rfl) (by first | omega | exact Nat.le_of_ble_eq_true rfl) (H180.rd (k := 1) rfl hS74) (H180.rd (k := 0) rfl hS103) hg hm hc) ?_
    rintro _ w181 ⟨⟨v183, rfl, hEr184⟩, hE185⟩
    have H186 := H180.ext hE185
    obtain ⟨T187, x188, rfl⟩ := hEr184.iface
    obtain ⟨lo189, hlo190⟩ : ∃ lo, lo = uw.heap.size := ⟨_, rfl⟩
    rw [← hlo190] at hEr184
    have hlt191 : b31 < lo189 := by omega
    exact hK _ _ (show ∃ (b60 : Nat) (key66 : Option Nat) (c67 : Nat) (sp68 : List Value) (b89 : Nat) (key95 : Option Nat) (c96 : Nat) (sp97 : List Value) (lo114 : Nat) (T112 : TypeId) (x113 : Value), r 1 = .slice (ownA (some b60)) 0 0 ∧ r 3 = .slice (ownA key66) (0 + ls.length) c67 ∧ r 4 = .slice (ownA (some b89)) 0 0 ∧ r 6 = .slice (ownA key95) (0 + tb.length) c96 ∧ (_ : Value) = .tuple #[.slice none 0 0, .iface T112 (x113)] ∧ Sl ELb key95 tb c96 sp97 ∧ Sl ELb key66 ls c67 sp68 ∧ Er lo114 w181 100 1 (.iface T112 x113) ∧ b31 < lo114 ∧ Hp No w w181 [(key95, sob ELb 38 tb sp97), (key66, sob ELb 38 ls sp68), (ko48, sob EI 3 l1 spo50), (kg45, sob EG 99 g1 spg47), (some b31, .cells #[i64 (n), .slice (ownA kg45) g1.length cg46, .slice (ownA ko48) l1.length co49] 70 (0, 0))] from ⟨b60, key66, c67, sp68, b89, key95, c96, sp97, lo189, T187, x188, e1, e3, e4, e6, rfl, hS103, hS74, hEr184, hlt191, (((((H186.pull (k := 4) rfl).pull (k := 4) rfl).pull (k := 4) rfl).pull (k := 4) rfl).pull (k := 4) rfl)⟩)
  refine WalkP.look rfl (fun r => r 7) (fun r r' h => h 7 (by decide) rfl) (fun L r uw _ _ _ => Gives.run rfl (r_move rfl) ⟨rfl, rfl⟩) ?_
  refine WalkP.look rfl (fun r => proj (r 7) 0) (fun r r' h => by rw [h 7 (by decide) rfl]) (fun L r uw hAn hDn hF => ?_) ?_
  · skip
    have b1 : L 1 = true := hAn 1 (by decide) rfl
    have b3 : L 3 = true := hAn 3 (by decide) rfl
    have b4 : L 4 = true := hAn 4 (by decide) rfl
    have b6 : L 6 = true := hAn 6 (by decide) rfl
    have b7 : L 7 = true := hAn 7 (by decide) rfl
    have hb : List.map L [1, 3, 4, 6, 7] = [true, true, true, true, true] := by simp only [List.map_cons, List.map_nil, b1, b3, b4, b6, b7]
    rw [hb] at hF
    obtain ⟨b60, key66, c67, sp68, b89, key95, c96, sp97, lo114, T112, x113, e1, e3, e4, e6, e7, hS103, hS74, hEr109, hlt116, HH⟩ := hF
    dsimp only
    rw [e7]
    exact Gives.run rfl (r_extract (vs := #[.slice none 0 0, .iface T112 (x113)]) rfl rfl) ⟨rfl, rfl⟩
  refine WalkP.look rfl (fun r => proj (r 7) 1) (fun r r' h => by rw [h 7 (by decide) rfl]) (fun L r uw hAn hDn hF => ?_) ?_
  · skip
    have b1 : L 1 = true := hAn 1 (by decide) rfl
    have b3 : L 3 = true := hAn 3 (by decide) rfl
    have b4 : L 4 = true := hAn 4 (by decide) rfl
    have b6 : L 6 = true := hAn 6 (by decide) rfl
    have b7 : L 7 = true := hAn 7 (by decide) rfl
    have hb : List.map L [1, 3, 4, 6, 7] = [true, true, true, true, true] := by simp only [List.map_cons, List.map_nil, b1, b3, b4, b6, b7]
    rw [hb] at hF
    obtain ⟨b60, key66, c67, sp68, b89, key95, c96, sp97, lo114, T112, x113, e1, e3, e4, e6, e7, hS103, hS74, hEr109, hlt116, HH⟩ := hF
    dsimp only
    rw [e7]
    exact Gives.run rfl (r_extract (vs := #[.slice none 0 0, .iface T112 (x113)]) rfl rfl) ⟨rfl, rfl⟩
  refine WalkP.look rfl (fun r => proj (r 7) 0) (fun r r' h => by rw [h 7 (by decide) rfl]) (fun L r uw _ _ _ => Gives.run rfl (r_assign rfl) ⟨rfl, rfl⟩) ?_
  refine WalkP.look rfl (fun r => proj (r 7) 1) (fun r r' h => by rw [h 7 (by decide) rfl]) (fun L r uw _ _ _ => Gives.run rfl (r_assign rfl) ⟨rfl, rfl⟩) ?_
  refine WalkP.nil ?_
  intro r192 w193 hF
  obtain ⟨b60, key66, c67, sp68, b89, key95, c96, sp97, lo114, T112, x113, e1, e3, e4, e6, e7, hS103, hS74, hEr109, hlt116, H194⟩ := hF
  dsimp only
  rw [e1, e3, e4, e6, e7]
  refine wnil ?_
  refine thenNormal ?_
  refine seqAny ?_
  refine blockAny ?_
  refine seqRegion ?_
  refine sq (r_loadA (cs' := #[i64 (n), .slice (ownA kg45) g1.length cg46, .slice (ownA ko48) l1.length co49]) agg70 siz70 (H194.get (k := 4) rfl) (off := 0) rfl (by exact Nat.le_of_ble_eq_true rfl) (by rfl)) ?_
  refine c_call (vs := [.agg #[i64 (n), .slice (ownA kg45) g1.length cg46, .slice (ownA ko48) l1.length co49]]) call31 rfl (check_good n g1 l1 (ownA kg45) (ownA ko48) cg46 co49 w193 (Chg.gl H194.chg (fun x => x) hG) (H194.rd (k := 3) rfl hSg51) (H194.rd (k := 2) rfl hSo52) (by omega) (by omega) hg) ?_
  rintro _ w195 ⟨rfl, hE196⟩
  have H197 := H194.ext hE196
  refine sq (r_neqNN isI27 rfl rfl) ?_
  refine sq (r_assign (v := .bool (false)) rfl) ?_
  refine wend ?_
  refine condFalse rfl ?_
  refine seqRegion ?_
  refine sq (r_move (v := .slice lsa ls.length lsc) rfl) ?_
  refine sq (r_lenS sli92 (a := lsa) (m := ls.length) (c := lsc) rfl) ?_
  refine sq (r_fieldAddr (off' := 0) fld70_0 (by decide) (b := b31) (off := 0) rfl (by omega)) ?_
  refine sq (r_loadC (v := i64 (n)) one3 (H197.get (k := 4) rfl) (off := 0) rfl (by rfl)) ?_
  refine sq ((r_neqI (a := (ls.length : Nat)) (b := n) rfl rfl).as (v' := .bool (false)) (by exact congrArg Value.bool (decide_eq_false (by omega)))) ?_
  refine sq (r_assign (v := .bool (false)) rfl) ?_
  refine wend ?_
  refine condFalse rfl ?_
  refine seqRegion ?_
  refine sq (r_move (v := .slice tsa tb.length tsc) rfl) ?_
  refine sq (r_lenS sli92 (a := tsa) (m := tb.length) (c := tsc) rfl) ?_
  refine sq (r_loadA (cs' := #[i64 (n), .slice (ownA kg45) g1.length cg46, .slice (ownA ko48) l1.length co49]) agg70 siz70 (H197.get (k := 4) rfl) (off := 0) rfl (by exact Nat.le_of_ble_eq_true rfl) (by rfl)) ?_
  refine c_call (vs := [.agg #[i64 (n), .slice (ownA kg45) g1.length cg46, .slice (ownA ko48) l1.length co49]]) call32 rfl (ands_ok n g1 l1 (ownA kg45) (ownA ko48) cg46 co49 w195 (H197.rd (k := 3) rfl hSg51) (by omega)) ?_
  rintro _ w198 ⟨rfl, hE199⟩
  have H200 := H197.ext hE199
  refine sq ((r_mulI (a := (2 : Int)) (b := (andsS g1 g1.length : Nat)) rfl rfl (by omega)).as (v' := i64 (((2 * andsS g1 g1.length) : Nat))) (by rfl)) ?_
  refine sq ((r_neqI (a := (tb.length : Nat)) (b := ((2 * andsS g1 g1.length) : Nat)) rfl rfl).as (v' := .bool (true)) (by exact congrArg Value.bool (decide_eq_true (by omega)))) ?_
  refine sq (r_assign (v := .bool (true)) rfl) ?_
  refine wend ?_
  refine condTrue rfl ?_
  refine seqRegion ?_
  refine sq (r_move (v := .slice none 0 0) rfl) ?_
  refine sq (r_lenS sli92 (a := none) (m := 0) (c := 0) rfl) ?_
  refine sq ((r_eqlI (a := (0 : Nat)) (b := (0 : Int)) rfl rfl).as (v' := .bool (true)) (by rfl)) ?_
  refine sq (r_move (v := .bool (true)) rfl) ?_
  refine sqAny (v := .iface T112 (x113)) (w' := w198) (wantedSome (d' := 76) (b := true) rfl rfl rfl) (r_move (v := .iface T112 (x113)) rfl) ?_
  refine caAny (wantedSome (d' := 76) (b := true) rfl rfl rfl) (Enters.callL (vs := [.iface T112 (x113)]) call26 rfl) (code_ok 100 1 lo114 (.iface T112 (x113)) w198 (Chg.gl H200.chg (fun x => x) hG) (((hEr109.ext hE196).ext hE199))) ?_
  rintro _ w201 ⟨rfl, hE202⟩
  have H203 := H200.ext hE202
  refine sqAny (v := .bool (true)) (w' := w201) (wantedSome (d' := 76) (b := true) rfl rfl rfl) ((r_eqlI (a := 100) (b := (100 : Int)) rfl rfl).as (v' := .bool (true)) (by rfl)) ?_
  refine sq (r_pickT (u := .bool (true)) rfl rfl) ?_
  refine sq (r_assign (v := .bool (true)) rfl) ?_
  refine wend ?_
  refine retAny ?_
  refine blockRet ?_
  refine thenRet ?_
  refine retG (rs := [.tmp 6]) (vs := [.bool (true)]) rfl ⟨⟨rfl, rfl⟩, trivial⟩ ?_
  exact ⟨_, rfl, rfl, H203.chg⟩
set_option maxHeartbeats 1000000 in
theorem gevals_ok (n : Int) (gs : List Gt) (ol : List Int) (ga oa : Option Addr) (gc oc : Nat) (ls tb : List Lb) (lsa tsa : Option Addr) (lsc tsc : Nat) (hgc : gs.length ≤ gc) (hoc : ol.length ≤ oc) (w : World) (hG : Gl w) (hGs : Rd EG w ga gs) (hOl : Rd EI w oa ol) (hLs : Rd ELb w lsa ls) (hTb : Rd ELb w tsa tb) (h1s : gs.length ≤ 60) (h2s : n ≤ 200) (h3s : ls.length ≤ 300) (h4s : tb.length ≤ 300) (hg : IsC n (gs.take 4200) (ol.take 80)) (hm : (ls.length : Int) = n) (hc : tb.length = 2 * andsS (gs.take 4200) (gs.take 4200).length) : Calls Tryd.prog 12 [.agg #[i64 (n), .slice ga gs.length gc, .slice oa ol.length oc], .slice lsa ls.length lsc, .slice tsa tb.length tsc].toArray w (Ret fun v w' => v = .bool true ∧ Ext w w') := by
  obtain ⟨g1, hg1⟩ : ∃ g1, g1 = gs.take 4200 := ⟨_, rfl⟩
  obtain ⟨l1, hl1⟩ : ∃ l1, l1 = ol.take 80 := ⟨_, rfl⟩
  have hgl1 : g1.length ≤ 60 := by rw [hg1, List.length_take]; omega
  have hll1 : l1.length ≤ 80 := by rw [hl1, List.length_take]; omega
  rw [← hg1, ← hl1] at hg
  rw [← hg1] at hc
  have han := andsS_le g1 g1.length
  have H := Hp.start No w
  refine enter (n := 91) Tryd.func12 rfl rfl (Nat.le_of_ble_eq_true rfl) ?_
  refine seqRegion ?_
  refine q_box (v := .agg #[i64 (n), .slice ga gs.length gc, .slice oa ol.length oc]) (o := .cells #[i64 (n), .slice ga gs.length gc, .slice oa ol.length oc] 70 (0, 0)) H rfl (by rfl) ?_
  intro b31 w32 hb31 H33 hE34
  refine sq (r_assign (v := .bool (false)) rfl) ?_
  refine wend ?_
  refine seqAny ?_
  refine seqRegion ?_
  refine c_call (vs := []) call41 rfl (gawake_ok w32 (Chg.gl H33.chg (fun x => x) hG)) ?_
  rintro _ w35 ⟨rfl, hE36⟩
  have H37 := H33.ext hE36
  refine sq (r_notT rfl) ?_
  refine sq (r_move (v := .bool (false)) rfl) ?_
  refine sqAny (v := .agg #[i64 (n), .slice ga gs.length gc, .slice oa ol.length oc]) (w' := w35) (wantedSome (d' := 11) (b := false) rfl rfl rfl) (r_loadA (cs' := #[i64 (n), .slice ga gs.length gc, .slice oa ol.length oc]) agg70 siz70 (H37.get (k := 0) rfl) (off := 0) rfl (by exact Nat.le_of_ble_eq_true rfl) (by rfl)) ?_
  refine caAny (wantedSome (d' := 11) (b := false) rfl rfl rfl) (Enters.callL (vs := [.agg #[i64 (n), .slice ga gs.length gc, .slice oa ol.length oc]]) call42 rfl) (small_yes n gs ol ga oa gc oc w35 h1s h2s) ?_
  rintro _ w38 ⟨rfl, hE39⟩
  have H40 := H37.ext hE39
  refine sqAny (v := .bool (false)) (w' := w38) (wantedSome (d' := 11) (b := false) rfl rfl rfl) (r_notT rfl) ?_
  refine sq (r_pickF (v := .bool (false)) rfl rfl) ?_
  refine sq (r_move (v := .bool (false)) rfl) ?_
  refine sqAny (v := .slice lsa ls.length lsc) (w' := w38) (wantedSome (d' := 16) (b := false) rfl rfl rfl) (r_move (v := .slice lsa ls.length lsc) rfl) ?_
  refine sqAny (v := i64 ((ls.length : Nat))) (w' := w38) (wantedSome (d' := 16) (b := false) rfl rfl rfl) (r_lenS sli92 (a := lsa) (m := ls.length) (c := lsc) rfl) ?_
  refine sqAny (v := .bool (false)) (w' := w38) (wantedSome (d' := 16) (b := false) rfl rfl rfl) ((r_gtrI (a := (ls.length : Nat)) (b := (300 : Int)) rfl rfl).as (v' := .bool (false)) (by exact congrArg Value.bool (decide_eq_false (by omega)))) ?_
  refine sq (r_pickF (v := .bool (false)) rfl rfl) ?_
  refine sq (r_move (v := .bool (false)) rfl) ?_
  refine sqAny (v := .slice tsa tb.length tsc) (w' := w38) (wantedSome (d' := 21) (b := false) rfl rfl rfl) (r_move (v := .slice tsa tb.length tsc) rfl) ?_
  refine sqAny (v := i64 ((tb.length : Nat))) (w' := w38) (wantedSome (d' := 21) (b := false) rfl rfl rfl) (r_lenS sli92 (a := tsa) (m := tb.length) (c := tsc) rfl) ?_
  refine sqAny (v := .bool (false)) (w' := w38) (wantedSome (d' := 21) (b := false) rfl rfl rfl) ((r_gtrI (a := (tb.length : Nat)) (b := (300 : Int)) rfl rfl).as (v' := .bool (false)) (by exact congrArg Value.bool (decide_eq_false (by omega)))) ?_
  refine sq (r_pickF (v := .bool (false)) rfl rfl) ?_
  refine wend ?_
  refine condFalse rfl ?_
  refine skipAny ?_
  refine thenNormal ?_
  refine seqRegion ?_
  refine sq (r_loadA (cs' := #[i64 (n), .slice ga gs.length gc, .slice oa ol.length oc]) agg70 siz70 (H40.get (k := 0) rfl) (off := 0) rfl (by exact Nat.le_of_ble_eq_true rfl) (by rfl)) ?_
  refine c_call (vs := [.agg #[i64 (n), .slice ga gs.length gc, .slice oa ol.length oc]]) call43 rfl (own_ok n gs ol ga oa gc oc hgc hoc w38 (hGs.ext H40.chg) (hOl.ext H40.chg)) ?_
  rintro _ w41 ⟨⟨ng43, no44, kg45, cg46, spg47, ko48, co49, spo50, rfl, rfl, rfl, hSg51, hSo52, HN53⟩, hE54⟩
  rw [← hg1] at hSg51 HN53
  rw [← hl1] at hSo52 HN53
  rw [← hg1, ← hl1]
  have H55 := (H40.join HN53).as (L' := [(ko48, sob EI 3 l1 spo50), (kg45, sob EG 99 g1 spg47), (some b31, .cells #[i64 (n), .slice ga gs.length gc, .slice oa ol.length oc] 70 (0, 0))]) rfl
  refine d_store (k := 2) (v := .agg #[i64 (n), .slice (ownA kg45) g1.length cg46, .slice (ownA ko48) l1.length co49]) (cs' := #[i64 (n), .slice (ownA kg45) g1.length cg46, .slice (ownA ko48) l1.length co49]) H55 rfl rfl rfl siz70 (by rfl) (by intro u hu; simp [Value.cells] at hu; first | (subst hu; rfl) | (rcases hu with rfl | rfl | rfl <;> rfl)) (by exact Nat.le_of_ble_eq_true rfl) (by rfl) ?_
  intro w56 H57 hC58
  have H57' := H57.as (L' := [(ko48, sob EI 3 l1 spo50), (kg45, sob EG 99 g1 spg47), (some b31, .cells #[i64 (n), .slice (ownA kg45) g1.length cg46, .slice (ownA ko48) l1.length co49] 70 (0, 0))]) rfl
  clear H57
  refine wend ?_
  refine seqAny ?_
  refine drawP (m := 13) [0, 0, 0, 6, 0, 0, 62, 127, 255, 511, 511, 1023, 4095] [1, 3, 4, 6, 7] (fun bs vs w' => match bs, vs with | [false, false, false, false, false], [_, _, _, _, _] => Hp No w w' [(ko48, sob EI 3 l1 spo50), (kg45, sob EG 99 g1 spg47), (some b31, .cells #[i64 (n), .slice (ownA kg45) g1.length cg46, .slice (ownA ko48) l1.length co49] 70 (0, 0))] | [true, false, false, false, false], [v1, _, _, _, _] => ∃ (b60 : Nat), v1 = .slice (ownA (some b60)) 0 0 ∧ Sl ELb (some b60) ([] : List (BitVec 64 × BitVec 64)) 0 ([]) ∧ Hp No w w' [((some b60), sob ELb 38 ([] : List (BitVec 64 × BitVec 64)) ([])), (ko48, sob EI 3 l1 spo50), (kg45, sob EG 99 g1 spg47), (some b31, .cells #[i64 (n), .slice (ownA kg45) g1.length cg46, .slice (ownA ko48) l1.length co49] 70 (0, 0))] | [true, true, false, false, false], [v1, v3, _, _, _] => ∃ (b60 : Nat) (key66 : Option Nat) (c67 : Nat) (sp68 : List Value), v1 = .slice (ownA (some b60)) 0 0 ∧ v3 = .slice (ownA key66) (0 + ls.length) c67 ∧ Sl ELb key66 ls c67 sp68 ∧ Hp No w w' [(key66, sob ELb 38 ls sp68), (ko48, sob EI 3 l1 spo50), (kg45, sob EG 99 g1 spg47), (some b31, .cells #[i64 (n), .slice (ownA kg45) g1.length cg46, .slice (ownA ko48) l1.length co49] 70 (0, 0))] | [false, false, true, false, false], [_, _, v4, _, _] => ∃ (b77 : Nat), v4 = .slice (ownA (some b77)) 0 0 ∧ Sl ELb (some b77) ([] : List (BitVec 64 × BitVec 64)) 0 ([]) ∧ Hp No w w' [((some b77), sob ELb 38 ([] : List (BitVec 64 × BitVec 64)) ([])), (ko48, sob EI 3 l1 spo50), (kg45, sob EG 99 g1 spg47), (some b31, .cells #[i64 (n), .slice (ownA kg45) g1.length cg46, .slice (ownA ko48) l1.length co49] 70 (0, 0))] | [true, false, true, false, false], [v1, _, v4, _, _] => ∃ (b60 : Nat) (b83 : Nat), v1 = .slice (ownA (some b60)) 0 0 ∧ v4 = .slice (ownA (some b83)) 0 0 ∧ Sl ELb (some b83) ([] : List (BitVec 64 × BitVec 64)) 0 ([]) ∧ Sl ELb (some b60) ([] : List (BitVec 64 × BitVec 64)) 0 ([]) ∧ Hp No w w' [((some b83), sob ELb 38 ([] : List (BitVec 64 × BitVec 64)) ([])), ((some b60), sob ELb 38 ([] : List (BitVec 64 × BitVec 64)) ([])), (ko48, sob EI 3 l1 spo50), (kg45, sob EG 99 g1 spg47), (some b31, .cells #[i64 (n), .slice (ownA kg45) g1.length cg46, .slice (ownA ko48) l1.length co49] 70 (0, 0))] | [true, true, true, false, false], [v1, v3, v4, _, _] => ∃ (b60 : Nat) (key66 : Option Nat) (c67 : Nat) (sp68 : List Value) (b89 : Nat), v1 = .slice (ownA (some b60)) 0 0 ∧ v3 = .slice (ownA key66) (0 + ls.length) c67 ∧ v4 = .slice (ownA (some b89)) 0 0 ∧ Sl ELb (some b89) ([] : List (BitVec 64 × BitVec 64)) 0 ([]) ∧ Sl ELb key66 ls c67 sp68 ∧ Hp No w w' [((some b89), sob ELb 38 ([] : List (BitVec 64 × BitVec 64)) ([])), (key66, sob ELb 38 ls sp68), (ko48, sob EI 3 l1 spo50), (kg45, sob EG 99 g1 spg47), (some b31, .cells #[i64 (n), .slice (ownA kg45) g1.length cg46, .slice (ownA ko48) l1.length co49] 70 (0, 0))] | [true, true, true, true, false], [v1, v3, v4, v6, _] => ∃ (b60 : Nat) (key66 : Option Nat) (c67 : Nat) (sp68 : List Value) (b89 : Nat) (key95 : Option Nat) (c96 : Nat) (sp97 : List Value), v1 = .slice (ownA (some b60)) 0 0 ∧ v3 = .slice (ownA key66) (0 + ls.length) c67 ∧ v4 = .slice (ownA (some b89)) 0 0 ∧ v6 = .slice (ownA key95) (0 + tb.length) c96 ∧ Sl ELb key95 tb c96 sp97 ∧ Sl ELb key66 ls c67 sp68 ∧ Hp No w w' [(key95, sob ELb 38 tb sp97), (key66, sob ELb 38 ls sp68), (ko48, sob EI 3 l1 spo50), (kg45, sob EG 99 g1 spg47), (some b31, .cells #[i64 (n), .slice (ownA kg45) g1.length cg46, .slice (ownA ko48) l1.length co49] 70 (0, 0))] | [true, true, true, true, true], [v1, v3, v4, v6, v7] => ∃ (b60 : Nat) (key66 : Option Nat) (c67 : Nat) (sp68 : List Value) (b89 : Nat) (key95 : Option Nat) (c96 : Nat) (sp97 : List Value) (k108 : Option Nat) (c109 : Nat) (z110 : List Value), v1 = .slice (ownA (some b60)) 0 0 ∧ v3 = .slice (ownA key66) (0 + ls.length) c67 ∧ v4 = .slice (ownA (some b89)) 0 0 ∧ v6 = .slice (ownA key95) (0 + tb.length) c96 ∧ v7 = .tuple #[.slice (ownA k108) l1.length c109, .nilIface] ∧ Sl ELb k108 (oL (eS lhash (5#64) g1 tb ls g1.length).1 l1 l1.length) c109 z110 ∧ Sl ELb key95 tb c96 sp97 ∧ Sl ELb key66 ls c67 sp68 ∧ Hp No w w' [(k108, sob ELb 38 (oL (eS lhash (5#64) g1 tb ls g1.length).1 l1 l1.length) z110), (key95, sob ELb 38 tb sp97), (key66, sob ELb 38 ls sp68), (ko48, sob EI 3 l1 spo50), (kg45, sob EG 99 g1 spg47), (some b31, .cells #[i64 (n), .slice (ownA kg45) g1.length cg46, .slice (ownA ko48) l1.length co49] 70 (0, 0))] | _, _ => False) mixed (by kernel_rfl) (by kernel_rfl) H57'.drew ?_
  refine WalkP.look rfl (fun _ => .agg #[i64 (n), .slice (ownA kg45) g1.length cg46, .slice (ownA ko48) l1.length co49]) (fun _ _ _ => rfl) (fun L r uw hAn hDn hF => ?_) ?_
  · skip
    have b7 : L 7 = false := hDn 7 (by decide) rfl
    rcases Bool.eq_false_or_eq_true (L 1) with b1 | b1
    · skip
      rcases Bool.eq_false_or_eq_true (L 3) with b3 | b3
      · skip
        rcases Bool.eq_false_or_eq_true (L 4) with b4 | b4
        · skip
          rcases Bool.eq_false_or_eq_true (L 6) with b6 | b6
          · skip
            have hb : List.map L [1, 3, 4, 6, 7] = [true, true, true, true, false] := by simp only [List.map_cons, List.map_nil, b1, b3, b4, b6, b7]
            rw [hb] at hF
            obtain ⟨b60, key66, c67, sp68, b89, key95, c96, sp97, e1, e3, e4, e6, hS103, hS74, HH⟩ := hF
            exact Gives.run rfl (r_loadA (cs' := #[i64 (n), .slice (ownA kg45) g1.length cg46, .slice (ownA ko48) l1.length co49]) agg70 siz70 (HH.get (k := 4) rfl) (off := 0) rfl (by exact Nat.le_of_ble_eq_true rfl) (by rfl)) ⟨rfl, rfl⟩
          · skip
            have hb : List.map L [1, 3, 4, 6, 7] = [true, true, true, false, false] := by simp only [List.map_cons, List.map_nil, b1, b3, b4, b6, b7]
            rw [hb] at hF
            obtain ⟨b60, key66, c67, sp68, b89, e1, e3, e4, hS90, hS74, HH⟩ := hF
            exact Gives.run rfl (r_loadA (cs' := #[i64 (n), .slice (ownA kg45) g1.length cg46, .slice (ownA ko48) l1.length co49]) agg70 siz70 (HH.get (k := 4) rfl) (off := 0) rfl (by exact Nat.le_of_ble_eq_true rfl) (by rfl)) ⟨rfl, rfl⟩
        · skip
          rcases Bool.eq_false_or_eq_true (L 6) with b6 | b6
          · skip
            have hb : List.map L [1, 3, 4, 6, 7] = [true, true, false, true, false] := by simp only [List.map_cons, List.map_nil, b1, b3, b4, b6, b7]
            rw [hb] at hF
            exact False.elim hF
          · skip
            have hb : List.map L [1, 3, 4, 6, 7] = [true, true, false, false, false] := by simp only [List.map_cons, List.map_nil, b1, b3, b4, b6, b7]
            rw [hb] at hF
            obtain ⟨b60, key66, c67, sp68, e1, e3, hS74, HH⟩ := hF
            exact Gives.run rfl (r_loadA (cs' := #[i64 (n), .slice (ownA kg45) g1.length cg46, .slice (ownA ko48) l1.length co49]) agg70 siz70 (HH.get (k := 3) rfl) (off := 0) rfl (by exact Nat.le_of_ble_eq_true rfl) (by rfl)) ⟨rfl, rfl⟩
      · skip
        rcases Bool.eq_false_or_eq_true (L 4) with b4 | b4
        · skip
          rcases Bool.eq_false_or_eq_true (L 6) with b6 | b6
          · skip
            have hb : List.map L [1, 3, 4, 6, 7] = [true, false, true, true, false] := by simp only [List.map_cons, List.map_nil, b1, b3, b4, b6, b7]
            rw [hb] at hF
            exact False.elim hF
          · skip
            have hb : List.map L [1, 3, 4, 6, 7] = [true, false, true, false, false] := by simp only [List.map_cons, List.map_nil, b1, b3, b4, b6, b7]
            rw [hb] at hF
            obtain ⟨b60, b83, e1, e4, hS84, hS61, HH⟩ := hF
            exact Gives.run rfl (r_loadA (cs' := #[i64 (n), .slice (ownA kg45) g1.length cg46, .slice (ownA ko48) l1.length co49]) agg70 siz70 (HH.get (k := 4) rfl) (off := 0) rfl (by exact Nat.le_of_ble_eq_true rfl) (by rfl)) ⟨rfl, rfl⟩
        · skip
          rcases Bool.eq_false_or_eq_true (L 6) with b6 | b6
          · skip
            have hb : List.map L [1, 3, 4, 6, 7] = [true, false, false, true, false] := by simp only [List.map_cons, List.map_nil, b1, b3, b4, b6, b7]
            rw [hb] at hF
            exact False.elim hF
          · skip
            have hb : List.map L [1, 3, 4, 6, 7] = [true, false, false, false, false] := by simp only [List.map_cons, List.map_nil, b1, b3, b4, b6, b7]
            rw [hb] at hF
            obtain ⟨b60, e1, hS61, HH⟩ := hF
            exact Gives.run rfl (r_loadA (cs' := #[i64 (n), .slice (ownA kg45) g1.length cg46, .slice (ownA ko48) l1.length co49]) agg70 siz70 (HH.get (k := 3) rfl) (off := 0) rfl (by exact Nat.le_of_ble_eq_true rfl) (by rfl)) ⟨rfl, rfl⟩
    · skip
      rcases Bool.eq_false_or_eq_true (L 3) with b3 | b3
      · skip
        rcases Bool.eq_false_or_eq_true (L 4) with b4 | b4
        · skip
          rcases Bool.eq_false_or_eq_true (L 6) with b6 | b6
          · skip
            have hb : List.map L [1, 3, 4, 6, 7] = [false, true, true, true, false] := by simp only [List.map_cons, List.map_nil, b1, b3, b4, b6, b7]
            rw [hb] at hF
            exact False.elim hF
          · skip
            have hb : List.map L [1, 3, 4, 6, 7] = [false, true, true, false, false] := by simp only [List.map_cons, List.map_nil, b1, b3, b4, b6, b7]
            rw [hb] at hF
            exact False.elim hF
        · skip
          rcases Bool.eq_false_or_eq_true (L 6) with b6 | b6
          · skip
            have hb : List.map L [1, 3, 4, 6, 7] = [false, true, false, true, false] := by simp only [List.map_cons, List.map_nil, b1, b3, b4, b6, b7]
            rw [hb] at hF
            exact False.elim hF
          · skip
            have hb : List.map L [1, 3, 4, 6, 7] = [false, true, false, false, false] := by simp only [List.map_cons, List.map_nil, b1, b3, b4, b6, b7]
            rw [hb] at hF
            exact False.elim hF
      · skip
        rcases Bool.eq_false_or_eq_true (L 4) with b4 | b4
        · skip
          rcases Bool.eq_false_or_eq_true (L 6) with b6 | b6
          · skip
            have hb : List.map L [1, 3, 4, 6, 7] = [false, false, true, true, false] := by simp only [List.map_cons, List.map_nil, b1, b3, b4, b6, b7]
            rw [hb] at hF
            exact False.elim hF
          · skip
            have hb : List.map L [1, 3, 4, 6, 7] = [false, false, true, false, false] := by simp only [List.map_cons, List.map_nil, b1, b3, b4, b6, b7]
            rw [hb] at hF
            obtain ⟨b77, e4, hS78, HH⟩ := hF
            exact Gives.run rfl (r_loadA (cs' := #[i64 (n), .slice (ownA kg45) g1.length cg46, .slice (ownA ko48) l1.length co49]) agg70 siz70 (HH.get (k := 3) rfl) (off := 0) rfl (by exact Nat.le_of_ble_eq_true rfl) (by rfl)) ⟨rfl, rfl⟩
        · skip
          rcases Bool.eq_false_or_eq_true (L 6) with b6 | b6
          · skip
            have hb : List.map L [1, 3, 4, 6, 7] = [false, false, false, true, false] := by simp only [List.map_cons, List.map_nil, b1, b3, b4, b6, b7]
            rw [hb] at hF
            exact False.elim hF
          · skip
            have hb : List.map L [1, 3, 4, 6, 7] = [false, false, false, false, false] := by simp only [List.map_cons, List.map_nil, b1, b3, b4, b6, b7]
            rw [hb] at hF
            have HH := hF
            exact Gives.run rfl (r_loadA (cs' := #[i64 (n), .slice (ownA kg45) g1.length cg46, .slice (ownA ko48) l1.length co49]) agg70 siz70 (HH.get (k := 2) rfl) (off := 0) rfl (by exact Nat.le_of_ble_eq_true rfl) (by rfl)) ⟨rfl, rfl⟩
  refine WalkP.eff 0 rfl (fun L r uw hLn hAn hDn hF => ?_) ?_
  · skip
    have b1 : L 1 = false := hLn
    have b3 : L 3 = false := hDn 3 (by decide) rfl
    have b6 : L 6 = false := hDn 6 (by decide) rfl
    have b7 : L 7 = false := hDn 7 (by decide) rfl
    rcases Bool.eq_false_or_eq_true (L 4) with b4 | b4
    · skip
      have hb : List.map L [1, 3, 4, 6, 7] = [false, false, true, false, false] := by simp only [List.map_cons, List.map_nil, b1, b3, b4, b6, b7]
      rw [hb] at hF ⊢
      obtain ⟨b77, e4, hS78, H114⟩ := hF
      dsimp only
      refine Gives.ofW (d := 31) rfl rfl (fun Q' hK => ?_)
      refine q_buildSlice (E := ELb) (l := ([] : List (BitVec 64 × BitVec 64))) H114 sli92 zer38 (Nat.le_of_ble_eq_true rfl) (ps := []) rfl (by exact fillAll rfl rfl) rfl ?_
      intro b115 w117 hS116 H118 hE119
      exact hK _ _ (show ∃ (b60 : Nat) (b83 : Nat), (_ : Value) = .slice (ownA (some b60)) 0 0 ∧ r 4 = .slice (ownA (some b83)) 0 0 ∧ Sl ELb (some b83) ([] : List (BitVec 64 × BitVec 64)) 0 ([]) ∧ Sl ELb (some b60) ([] : List (BitVec 64 × BitVec 64)) 0 ([]) ∧ Hp No w w117 [((some b83), sob ELb 38 ([] : List (BitVec 64 × BitVec 64)) ([])), ((some b60), sob ELb 38 ([] : List (BitVec 64 × BitVec 64)) ([])), (ko48, sob EI 3 l1 spo50), (kg45, sob EG 99 g1 spg47), (some b31, .cells #[i64 (n), .slice (ownA kg45) g1.length cg46, .slice (ownA ko48) l1.length co49] 70 (0, 0))] from ⟨b115, b77, rfl, e4, hS78, hS116, (((((H118.pull (k := 4) rfl).pull (k := 4) rfl).pull (k := 4) rfl).pull (k := 3) rfl).pull (k := 4) rfl)⟩)
    · skip
      have hb : List.map L [1, 3, 4, 6, 7] = [false, false, false, false, false] := by simp only [List.map_cons, List.map_nil, b1, b3, b4, b6, b7]
      rw [hb] at hF ⊢
      have H120 := hF
      dsimp only
      refine Gives.ofW (d := 31) rfl rfl (fun Q' hK => ?_)
      refine q_buildSlice (E := ELb) (l := ([] : List (BitVec 64 × BitVec 64))) H120 sli92 zer38 (Nat.le_of_ble_eq_true rfl) (ps := []) rfl (by exact fillAll rfl rfl) rfl ?_
      intro b121 w123 hS122 H124 hE125
      exact hK _ _ (show ∃ (b60 : Nat), (_ : Value) = .slice (ownA (some b60)) 0 0 ∧ Sl ELb (some b60) ([] : List (BitVec 64 × BitVec 64)) 0 ([]) ∧ Hp No w w123 [((some b60), sob ELb 38 ([] : List (BitVec 64 × BitVec 64)) ([])), (ko48, sob EI 3 l1 spo50), (kg45, sob EG 99 g1 spg47), (some b31, .cells #[i64 (n), .slice (ownA kg45) g1.length cg46, .slice (ownA ko48) l1.length co49] 70 (0, 0))] from ⟨b121, rfl, hS122, ((((H124.pull (k := 3) rfl).pull (k := 3) rfl).pull (k := 3) rfl).pull (k := 3) rfl)⟩)
  refine WalkP.look rfl (fun _ => .slice lsa ls.length lsc) (fun _ _ _ => rfl) (fun L r uw _ _ _ => Gives.run rfl (r_move (v := .slice lsa ls.length lsc) rfl) ⟨rfl, rfl⟩) ?_
  refine WalkP.eff 1 rfl (fun L r uw hLn hAn hDn hF => ?_) ?_
  · skip
    have b1 : L 1 = true := hAn 1 (by decide) rfl
    have b3 : L 3 = false := hLn
    have b6 : L 6 = false := hDn 6 (by decide) rfl
    have b7 : L 7 = false := hDn 7 (by decide) rfl
    rcases Bool.eq_false_or_eq_true (L 4) with b4 | b4
    · skip
      have hb : List.map L [1, 3, 4, 6, 7] = [true, false, true, false, false] := by simp only [List.map_cons, List.map_nil, b1, b3, b4, b6, b7]
      rw [hb] at hF ⊢
      obtain ⟨b60, b83, e1, e4, hS84, hS61, H126⟩ := hF
      dsimp only
      rw [e1]
      refine Gives.ofW (d := 33) rfl rfl (fun Q' hK => ?_)
      refine q_append (E := ELb) (k := 1) (l := ([] : List (BitVec 64 × BitVec 64))) (l2 := ls) H126 rfl hS61 sli92 zer38 rfl byt38 (hLs.ext H126.chg) rfl (by rfl) rfl (by rfl) (by omega) ?_
      intro key127 c128 sp129 w131 hS130 hne133 H132
      have H132' := H132.as (L' := [((some b83), sob ELb 38 ([] : List (BitVec 64 × BitVec 64)) ([])), (key127, sob ELb 38 (([] : List (BitVec 64 × BitVec 64)) ++ ls) sp129), (ko48, sob EI 3 l1 spo50), (kg45, sob EG 99 g1 spg47), (some b31, .cells #[i64 (n), .slice (ownA kg45) g1.length cg46, .slice (ownA ko48) l1.length co49] 70 (0, 0))]) rfl
      clear H132
      have e134 : ([] : List (BitVec 64 × BitVec 64)) ++ ls = ls := by rw [List.nil_append]
      have hS135 := hS130
      rw [e134] at hS135
      have H136 := H132'.as (L' := [((some b83), sob ELb 38 ([] : List (BitVec 64 × BitVec 64)) ([])), (key127, sob ELb 38 ls sp129), (ko48, sob EI 3 l1 spo50), (kg45, sob EG 99 g1 spg47), (some b31, .cells #[i64 (n), .slice (ownA kg45) g1.length cg46, .slice (ownA ko48) l1.length co49] 70 (0, 0))]) (by rw [e134])
      exact hK _ _ (show ∃ (b60 : Nat) (key66 : Option Nat) (c67 : Nat) (sp68 : List Value) (b89 : Nat), r 1 = .slice (ownA (some b60)) 0 0 ∧ (_ : Value) = .slice (ownA key66) (0 + ls.length) c67 ∧ r 4 = .slice (ownA (some b89)) 0 0 ∧ Sl ELb (some b89) ([] : List (BitVec 64 × BitVec 64)) 0 ([]) ∧ Sl ELb key66 ls c67 sp68 ∧ Hp No w w131 [((some b89), sob ELb 38 ([] : List (BitVec 64 × BitVec 64)) ([])), (key66, sob ELb 38 ls sp68), (ko48, sob EI 3 l1 spo50), (kg45, sob EG 99 g1 spg47), (some b31, .cells #[i64 (n), .slice (ownA kg45) g1.length cg46, .slice (ownA ko48) l1.length co49] 70 (0, 0))] from ⟨b60, key127, c128, sp129, b83, e1, rfl, e4, hS84, hS135, (((((H136.pull (k := 4) rfl).pull (k := 4) rfl).pull (k := 4) rfl).pull (k := 4) rfl).pull (k := 4) rfl)⟩)
    · skip
      have hb : List.map L [1, 3, 4, 6, 7] = [true, false, false, false, false] := by simp only [List.map_cons, List.map_nil, b1, b3, b4, b6, b7]
      rw [hb] at hF ⊢
      obtain ⟨b60, e1, hS61, H137⟩ := hF
      dsimp only
      rw [e1]
      refine Gives.ofW (d := 33) rfl rfl (fun Q' hK => ?_)
      refine q_append (E := ELb) (k := 0) (l := ([] : List (BitVec 64 × BitVec 64))) (l2 := ls) H137 rfl hS61 sli92 zer38 rfl byt38 (hLs.ext H137.chg) rfl (by rfl) rfl (by rfl) (by omega) ?_
      intro key138 c139 sp140 w142 hS141 hne144 H143
      have H143' := H143.as (L' := [(key138, sob ELb 38 (([] : List (BitVec 64 × BitVec 64)) ++ ls) sp140), (ko48, sob EI 3 l1 spo50), (kg45, sob EG 99 g1 spg47), (some b31, .cells #[i64 (n), .slice (ownA kg45) g1.length cg46, .slice (ownA ko48) l1.length co49] 70 (0, 0))]) rfl
      clear H143
      have e145 : ([] : List (BitVec 64 × BitVec 64)) ++ ls = ls := by rw [List.nil_append]
      have hS146 := hS141
      rw [e145] at hS146
      have H147 := H143'.as (L' := [(key138, sob ELb 38 ls sp140), (ko48, sob EI 3 l1 spo50), (kg45, sob EG 99 g1 spg47), (some b31, .cells #[i64 (n), .slice (ownA kg45) g1.length cg46, .slice (ownA ko48) l1.length co49] 70 (0, 0))]) (by rw [e145])
      exact hK _ _ (show ∃ (b60 : Nat) (key66 : Option Nat) (c67 : Nat) (sp68 : List Value), r 1 = .slice (ownA (some b60)) 0 0 ∧ (_ : Value) = .slice (ownA key66) (0 + ls.length) c67 ∧ Sl ELb key66 ls c67 sp68 ∧ Hp No w w142 [(key66, sob ELb 38 ls sp68), (ko48, sob EI 3 l1 spo50), (kg45, sob EG 99 g1 spg47), (some b31, .cells #[i64 (n), .slice (ownA kg45) g1.length cg46, .slice (ownA ko48) l1.length co49] 70 (0, 0))] from ⟨b60, key138, c139, sp140, e1, rfl, hS146, ((((H147.pull (k := 3) rfl).pull (k := 3) rfl).pull (k := 3) rfl).pull (k := 3) rfl)⟩)
  refine WalkP.eff 2 rfl (fun L r uw hLn hAn hDn hF => ?_) ?_
  · skip
    have b4 : L 4 = false := hLn
    have b6 : L 6 = false := hDn 6 (by decide) rfl
    have b7 : L 7 = false := hDn 7 (by decide) rfl
    rcases Bool.eq_false_or_eq_true (L 1) with b1 | b1
    · skip
      rcases Bool.eq_false_or_eq_true (L 3) with b3 | b3
      · skip
        have hb : List.map L [1, 3, 4, 6, 7] = [true, true, false, false, false] := by simp only [List.map_cons, List.map_nil, b1, b3, b4, b6, b7]
        rw [hb] at hF ⊢
        obtain ⟨b60, key66, c67, sp68, e1, e3, hS74, H148⟩ := hF
        dsimp only
        rw [e1, e3]
        refine Gives.ofW (d := 34) rfl rfl (fun Q' hK => ?_)
        refine q_buildSlice (E := ELb) (l := ([] : List (BitVec 64 × BitVec 64))) H148 sli92 zer38 (Nat.le_of_ble_eq_true rfl) (ps := []) rfl (by exact fillAll rfl rfl) rfl ?_
        intro b149 w151 hS150 H152 hE153
        exact hK _ _ (show ∃ (b60 : Nat) (key66 : Option Nat) (c67 : Nat) (sp68 : List Value) (b89 : Nat), r 1 = .slice (ownA (some b60)) 0 0 ∧ r 3 = .slice (ownA key66) (0 + ls.length) c67 ∧ (_ : Value) = .slice (ownA (some b89)) 0 0 ∧ Sl ELb (some b89) ([] : List (BitVec 64 × BitVec 64)) 0 ([]) ∧ Sl ELb key66 ls c67 sp68 ∧ Hp No w w151 [((some b89), sob ELb 38 ([] : List (BitVec 64 × BitVec 64)) ([])), (key66, sob ELb 38 ls sp68), (ko48, sob EI 3 l1 spo50), (kg45, sob EG 99 g1 spg47), (some b31, .cells #[i64 (n), .slice (ownA kg45) g1.length cg46, .slice (ownA ko48) l1.length co49] 70 (0, 0))] from ⟨b60, key66, c67, sp68, b149, e1, e3, rfl, hS150, hS74, (((((H152.pull (k := 4) rfl).pull (k := 4) rfl).pull (k := 4) rfl).pull (k := 4) rfl).pull (k := 4) rfl)⟩)
      · skip
        have hb : List.map L [1, 3, 4, 6, 7] = [true, false, false, false, false] := by simp only [List.map_cons, List.map_nil, b1, b3, b4, b6, b7]
        rw [hb] at hF ⊢
        obtain ⟨b60, e1, hS61, H154⟩ := hF
        dsimp only
        rw [e1]
        refine Gives.ofW (d := 34) rfl rfl (fun Q' hK => ?_)
        refine q_buildSlice (E := ELb) (l := ([] : List (BitVec 64 × BitVec 64))) H154 sli92 zer38 (Nat.le_of_ble_eq_true rfl) (ps := []) rfl (by exact fillAll rfl rfl) rfl ?_
        intro b155 w157 hS156 H158 hE159
        exact hK _ _ (show ∃ (b60 : Nat) (b83 : Nat), r 1 = .slice (ownA (some b60)) 0 0 ∧ (_ : Value) = .slice (ownA (some b83)) 0 0 ∧ Sl ELb (some b83) ([] : List (BitVec 64 × BitVec 64)) 0 ([]) ∧ Sl ELb (some b60) ([] : List (BitVec 64 × BitVec 64)) 0 ([]) ∧ Hp No w w157 [((some b83), sob ELb 38 ([] : List (BitVec 64 × BitVec 64)) ([])), ((some b60), sob ELb 38 ([] : List (BitVec 64 × BitVec 64)) ([])), (ko48, sob EI 3 l1 spo50), (kg45, sob EG 99 g1 spg47), (some b31, .cells #[i64 (n), .slice (ownA kg45) g1.length cg46, .slice (ownA ko48) l1.length co49] 70 (0, 0))] from ⟨b60, b155, e1, rfl, hS156, hS61, (((((H158.pull (k := 4) rfl).pull (k := 4) rfl).pull (k := 4) rfl).pull (k := 4) rfl).pull (k := 4) rfl)⟩)
    · skip
      rcases Bool.eq_false_or_eq_true (L 3) with b3 | b3
      · skip
        have hb : List.map L [1, 3, 4, 6, 7] = [false, true, false, false, false] := by simp only [List.map_cons, List.map_nil, b1, b3, b4, b6, b7]
        rw [hb] at hF
        exact False.elim hF
      · skip
        have hb : List.map L [1, 3, 4, 6, 7] = [false, false, false, false, false] := by simp only [List.map_cons, List.map_nil, b1, b3, b4, b6, b7]
        rw [hb] at hF ⊢
        have H160 := hF
        dsimp only
        refine Gives.ofW (d := 34) rfl rfl (fun Q' hK => ?_)
        refine q_buildSlice (E := ELb) (l := ([] : List (BitVec 64 × BitVec 64))) H160 sli92 zer38 (Nat.le_of_ble_eq_true rfl) (ps := []) rfl (by exact fillAll rfl rfl) rfl ?_
        intro b161 w163 hS162 H164 hE165
        exact hK _ _ (show ∃ (b77 : Nat), (_ : Value) = .slice (ownA (some b77)) 0 0 ∧ Sl ELb (some b77) ([] : List (BitVec 64 × BitVec 64)) 0 ([]) ∧ Hp No w w163 [((some b77), sob ELb 38 ([] : List (BitVec 64 × BitVec 64)) ([])), (ko48, sob EI 3 l1 spo50), (kg45, sob EG 99 g1 spg47), (some b31, .cells #[i64 (n), .slice (ownA kg45) g1.length cg46, .slice (ownA ko48) l1.length co49] 70 (0, 0))] from ⟨b161, rfl, hS162, ((((H164.pull (k := 3) rfl).pull (k := 3) rfl).pull (k := 3) rfl).pull (k := 3) rfl)⟩)
  refine WalkP.look rfl (fun _ => .slice tsa tb.length tsc) (fun _ _ _ => rfl) (fun L r uw _ _ _ => Gives.run rfl (r_move (v := .slice tsa tb.length tsc) rfl) ⟨rfl, rfl⟩) ?_
  refine WalkP.eff 3 rfl (fun L r uw hLn hAn hDn hF => ?_) ?_
  · skip
    have b1 : L 1 = true := hAn 1 (by decide) rfl
    have b3 : L 3 = true := hAn 3 (by decide) rfl
    have b4 : L 4 = true := hAn 4 (by decide) rfl
    have b6 : L 6 = false := hLn
    have b7 : L 7 = false := hDn 7 (by decide) rfl
    have hb : List.map L [1, 3, 4, 6, 7] = [true, true, true, false, false] := by simp only [List.map_cons, List.map_nil, b1, b3, b4, b6, b7]
    rw [hb] at hF ⊢
    obtain ⟨b60, key66, c67, sp68, b89, e1, e3, e4, hS90, hS74, H166⟩ := hF
    dsimp only
    rw [e1, e3, e4]
    refine Gives.ofW (d := 36) rfl rfl (fun Q' hK => ?_)
    refine q_append (E := ELb) (k := 0) (l := ([] : List (BitVec 64 × BitVec 64))) (l2 := tb) H166 rfl hS90 sli92 zer38 rfl byt38 (hTb.ext H166.chg) rfl (by rfl) rfl (by rfl) (by omega) ?_
    intro key167 c168 sp169 w171 hS170 hne173 H172
    have H172' := H172.as (L' := [(key167, sob ELb 38 (([] : List (BitVec 64 × BitVec 64)) ++ tb) sp169), (key66, sob ELb 38 ls sp68), (ko48, sob EI 3 l1 spo50), (kg45, sob EG 99 g1 spg47), (some b31, .cells #[i64 (n), .slice (ownA kg45) g1.length cg46, .slice (ownA ko48) l1.length co49] 70 (0, 0))]) rfl
    clear H172
    have e174 : ([] : List (BitVec 64 × BitVec 64)) ++ tb = tb := by rw [List.nil_append]
    have hS175 := hS170
    rw [e174] at hS175
    have H176 := H172'.as (L' := [(key167, sob ELb 38 tb sp169), (key66, sob ELb 38 ls sp68), (ko48, sob EI 3 l1 spo50), (kg45, sob EG 99 g1 spg47), (some b31, .cells #[i64 (n), .slice (ownA kg45) g1.length cg46, .slice (ownA ko48) l1.length co49] 70 (0, 0))]) (by rw [e174])
    exact hK _ _ (show ∃ (b60 : Nat) (key66 : Option Nat) (c67 : Nat) (sp68 : List Value) (b89 : Nat) (key95 : Option Nat) (c96 : Nat) (sp97 : List Value), r 1 = .slice (ownA (some b60)) 0 0 ∧ r 3 = .slice (ownA key66) (0 + ls.length) c67 ∧ r 4 = .slice (ownA (some b89)) 0 0 ∧ (_ : Value) = .slice (ownA key95) (0 + tb.length) c96 ∧ Sl ELb key95 tb c96 sp97 ∧ Sl ELb key66 ls c67 sp68 ∧ Hp No w w171 [(key95, sob ELb 38 tb sp97), (key66, sob ELb 38 ls sp68), (ko48, sob EI 3 l1 spo50), (kg45, sob EG 99 g1 spg47), (some b31, .cells #[i64 (n), .slice (ownA kg45) g1.length cg46, .slice (ownA ko48) l1.length co49] 70 (0, 0))] from ⟨b60, key66, c67, sp68, b89, key167, c168, sp169, e1, e3, e4, rfl, hS175, hS74, (((((H176.pull (k := 4) rfl).pull (k := 4) rfl).pull (k := 4) rfl).pull (k := 4) rfl).pull (k := 4) rfl)⟩)
  refine WalkP.eff 4 rfl (fun L r uw hLn hAn hDn hF => ?_) ?_
  · skip
    have b1 : L 1 = true := hAn 1 (by decide) rfl
    have b3 : L 3 = true := hAn 3 (by decide) rfl
    have b4 : L 4 = true := hAn 4 (by decide) rfl
    have b6 : L 6 = true := hAn 6 (by decide) rfl
    have b7 : L 7 = false := hLn
    have hb : List.map L [1, 3, 4, 6, 7] = [true, true, true, true, false] := by simp only [List.map_cons, List.map_nil, b1, b3, b4, b6, b7]
    rw [hb] at hF ⊢
    obtain ⟨b60, key66, c67, sp68, b89, key95, c96, sp97, e1, e3, e4, e6, hS103, hS74, H177⟩ := hF
    dsimp only
    rw [e1, e3, e4, e6]
    refine Gives.ofW (d := 37) rfl rfl (fun Q' hK => ?_)
    refine c_call (vs := [.agg #[i64 (n), .slice (ownA kg45) g1.length cg46, .slice (ownA ko48) l1.length co49], .slice (ownA key66) (0 + ls.length) c67, .slice (ownA key95) (0 + tb.length) c96, u64 (5#64)]) call46 rfl (eval_okL n g1 l1 (ownA kg45) (ownA ko48) cg46 co49 ls tb (ownA key66) (ownA key95) c67 c96 (5#64) (0 + ls.length) (0 + tb.length) (by exact Nat.zero_add _) (by exact Nat.zero_add _) uw (Chg.gl H177.chg (fun x => x) hG) (H177.rd (k := 3) rfl hSg51) (H177.rd (k := 2) rfl hSo52) (by first | omega | exact Nat.le_of_ble_eq_true rfl) (by first | omega | exact Nat.le_of_ble_eq_true rfl) (H177.rd (k := 1) rfl hS74) (H177.rd (k := 0) rfl hS103) hg hm hc) ?_
    rintro _ w178 ⟨k180, c181, z182, rfl, hS183, HN184⟩
    have H185 := (H177.join HN184).as (L' := [(k180, sob ELb 38 (oL (eS lhash (5#64) g1 tb ls g1.length).1 l1 l1.length) z182), (key95, sob ELb 38 tb sp97), (key66, sob ELb 38 ls sp68), (ko48, sob EI 3 l1 spo50), (kg45, sob EG 99 g1 spg47), (some b31, .cells #[i64 (n), .slice (ownA kg45) g1.length cg46, .slice (ownA ko48) l1.length co49] 70 (0, 0))]) rfl
    exact hK _ _ (show ∃ (b60 : Nat) (key66 : Option Nat) (c67 : Nat) (sp68 : List Value) (b89 : Nat) (key95 : Option Nat) (c96 : Nat) (sp97 : List Value) (k108 : Option Nat) (c109 : Nat) (z110 : List Value), r 1 = .slice (ownA (some b60)) 0 0 ∧ r 3 = .slice (ownA key66) (0 + ls.length) c67 ∧ r 4 = .slice (ownA (some b89)) 0 0 ∧ r 6 = .slice (ownA key95) (0 + tb.length) c96 ∧ (_ : Value) = .tuple #[.slice (ownA k108) l1.length c109, .nilIface] ∧ Sl ELb k108 (oL (eS lhash (5#64) g1 tb ls g1.length).1 l1 l1.length) c109 z110 ∧ Sl ELb key95 tb c96 sp97 ∧ Sl ELb key66 ls c67 sp68 ∧ Hp No w w178 [(k108, sob ELb 38 (oL (eS lhash (5#64) g1 tb ls g1.length).1 l1 l1.length) z110), (key95, sob ELb 38 tb sp97), (key66, sob ELb 38 ls sp68), (ko48, sob EI 3 l1 spo50), (kg45, sob EG 99 g1 spg47), (some b31, .cells #[i64 (n), .slice (ownA kg45) g1.length cg46, .slice (ownA ko48) l1.length co49] 70 (0, 0))] from ⟨b60, key66, c67, sp68, b89, key95, c96, sp97, k180, c181, z182, e1, e3, e4, e6, rfl, hS183, hS103, hS74, ((((((H185.pull (k := 5) rfl).pull (k := 5) rfl).pull (k := 5) rfl).pull (k := 5) rfl).pull (k := 5) rfl).pull (k := 5) rfl)⟩)
  refine WalkP.look rfl (fun r => r 7) (fun r r' h => h 7 (by decide) rfl) (fun L r uw _ _ _ => Gives.run rfl (r_move rfl) ⟨rfl, rfl⟩) ?_
  refine WalkP.look rfl (fun r => proj (r 7) 0) (fun r r' h => by rw [h 7 (by decide) rfl]) (fun L r uw hAn hDn hF => ?_) ?_
  · skip
    have b1 : L 1 = true := hAn 1 (by decide) rfl
    have b3 : L 3 = true := hAn 3 (by decide) rfl
    have b4 : L 4 = true := hAn 4 (by decide) rfl
    have b6 : L 6 = true := hAn 6 (by decide) rfl
    have b7 : L 7 = true := hAn 7 (by decide) rfl
    have hb : List.map L [1, 3, 4, 6, 7] = [true, true, true, true, true] := by simp only [List.map_cons, List.map_nil, b1, b3, b4, b6, b7]
    rw [hb] at hF
    obtain ⟨b60, key66, c67, sp68, b89, key95, c96, sp97, k108, c109, z110, e1, e3, e4, e6, e7, hS111, hS103, hS74, HH⟩ := hF
    dsimp only
    rw [e7]
    exact Gives.run rfl (r_extract (vs := #[.slice (ownA k108) l1.length c109, .nilIface]) rfl rfl) ⟨rfl, rfl⟩
  refine WalkP.look rfl (fun r => proj (r 7) 1) (fun r r' h => by rw [h 7 (by decide) rfl]) (fun L r uw hAn hDn hF => ?_) ?_
  · skip
    have b1 : L 1 = true := hAn 1 (by decide) rfl
    have b3 : L 3 = true := hAn 3 (by decide) rfl
    have b4 : L 4 = true := hAn 4 (by decide) rfl
    have b6 : L 6 = true := hAn 6 (by decide) rfl
    have b7 : L 7 = true := hAn 7 (by decide) rfl
    have hb : List.map L [1, 3, 4, 6, 7] = [true, true, true, true, true] := by simp only [List.map_cons, List.map_nil, b1, b3, b4, b6, b7]
    rw [hb] at hF
    obtain ⟨b60, key66, c67, sp68, b89, key95, c96, sp97, k108, c109, z110, e1, e3, e4, e6, e7, hS111, hS103, hS74, HH⟩ := hF
    dsimp only
    rw [e7]
    exact Gives.run rfl (r_extract (vs := #[.slice (ownA k108) l1.length c109, .nilIface]) rfl rfl) ⟨rfl, rfl⟩
  refine WalkP.look rfl (fun r => proj (r 7) 0) (fun r r' h => by rw [h 7 (by decide) rfl]) (fun L r uw _ _ _ => Gives.run rfl (r_assign rfl) ⟨rfl, rfl⟩) ?_
  refine WalkP.look rfl (fun r => proj (r 7) 1) (fun r r' h => by rw [h 7 (by decide) rfl]) (fun L r uw _ _ _ => Gives.run rfl (r_assign rfl) ⟨rfl, rfl⟩) ?_
  refine WalkP.nil ?_
  intro r186 w187 hF
  obtain ⟨b60, key66, c67, sp68, b89, key95, c96, sp97, k108, c109, z110, e1, e3, e4, e6, e7, hS111, hS103, hS74, H188⟩ := hF
  dsimp only
  rw [e1, e3, e4, e6, e7]
  refine wnil ?_
  refine thenNormal ?_
  refine seqAny ?_
  refine blockAny ?_
  refine seqRegion ?_
  refine sq (r_loadA (cs' := #[i64 (n), .slice (ownA kg45) g1.length cg46, .slice (ownA ko48) l1.length co49]) agg70 siz70 (H188.get (k := 5) rfl) (off := 0) rfl (by exact Nat.le_of_ble_eq_true rfl) (by rfl)) ?_
  refine c_call (vs := [.agg #[i64 (n), .slice (ownA kg45) g1.length cg46, .slice (ownA ko48) l1.length co49]]) call31 rfl (check_good n g1 l1 (ownA kg45) (ownA ko48) cg46 co49 w187 (Chg.gl H188.chg (fun x => x) hG) (H188.rd (k := 4) rfl hSg51) (H188.rd (k := 3) rfl hSo52) (by omega) (by omega) hg) ?_
  rintro _ w189 ⟨rfl, hE190⟩
  have H191 := H188.ext hE190
  refine sq (r_neqNN isI27 rfl rfl) ?_
  refine sq (r_assign (v := .bool (false)) rfl) ?_
  refine wend ?_
  refine condFalse rfl ?_
  refine seqRegion ?_
  refine sq (r_move (v := .slice lsa ls.length lsc) rfl) ?_
  refine sq (r_lenS sli92 (a := lsa) (m := ls.length) (c := lsc) rfl) ?_
  refine sq (r_fieldAddr (off' := 0) fld70_0 (by decide) (b := b31) (off := 0) rfl (by omega)) ?_
  refine sq (r_loadC (v := i64 (n)) one3 (H191.get (k := 5) rfl) (off := 0) rfl (by rfl)) ?_
  refine sq ((r_neqI (a := (ls.length : Nat)) (b := n) rfl rfl).as (v' := .bool (false)) (by exact congrArg Value.bool (decide_eq_false (by omega)))) ?_
  refine sq (r_assign (v := .bool (false)) rfl) ?_
  refine wend ?_
  refine condFalse rfl ?_
  refine seqRegion ?_
  refine sq (r_move (v := .slice tsa tb.length tsc) rfl) ?_
  refine sq (r_lenS sli92 (a := tsa) (m := tb.length) (c := tsc) rfl) ?_
  refine sq (r_loadA (cs' := #[i64 (n), .slice (ownA kg45) g1.length cg46, .slice (ownA ko48) l1.length co49]) agg70 siz70 (H191.get (k := 5) rfl) (off := 0) rfl (by exact Nat.le_of_ble_eq_true rfl) (by rfl)) ?_
  refine c_call (vs := [.agg #[i64 (n), .slice (ownA kg45) g1.length cg46, .slice (ownA ko48) l1.length co49]]) call32 rfl (ands_ok n g1 l1 (ownA kg45) (ownA ko48) cg46 co49 w189 (H191.rd (k := 4) rfl hSg51) (by omega)) ?_
  rintro _ w192 ⟨rfl, hE193⟩
  have H194 := H191.ext hE193
  refine sq ((r_mulI (a := (2 : Int)) (b := (andsS g1 g1.length : Nat)) rfl rfl (by omega)).as (v' := i64 (((2 * andsS g1 g1.length) : Nat))) (by rfl)) ?_
  refine sq ((r_neqI (a := (tb.length : Nat)) (b := ((2 * andsS g1 g1.length) : Nat)) rfl rfl).as (v' := .bool (false)) (by exact congrArg Value.bool (decide_eq_false (by omega)))) ?_
  refine sq (r_assign (v := .bool (false)) rfl) ?_
  refine wend ?_
  refine condFalse rfl ?_
  refine skipAny ?_
  refine blockNormal ?_
  refine thenNormal ?_
  refine seqRegion ?_
  refine sq (r_move (v := .nilIface) rfl) ?_
  refine sq (r_eqlNN isI27 rfl rfl) ?_
  refine sq (r_move (v := .bool (true)) rfl) ?_
  refine sqAny (v := .slice (ownA k108) l1.length c109) (w' := w192) (wantedSome (d' := 83) (b := true) rfl rfl rfl) (r_move (v := .slice (ownA k108) l1.length c109) rfl) ?_
  refine sqAny (v := i64 ((l1.length : Nat))) (w' := w192) (wantedSome (d' := 83) (b := true) rfl rfl rfl) (r_lenS sli92 (a := ownA k108) (m := l1.length) (c := c109) rfl) ?_
  refine sqAny (v := .pointer (some ⟨b31, 2, none⟩)) (w' := w192) (wantedSome (d' := 83) (b := true) rfl rfl rfl) (r_fieldAddr (off' := 2) fld70_2 (by decide) (b := b31) (off := 0) rfl (by omega)) ?_
  refine sqAny (v := .slice (ownA ko48) l1.length co49) (w' := w192) (wantedSome (d' := 83) (b := true) rfl rfl rfl) (r_loadC (v := .slice (ownA ko48) l1.length co49) one60 (H194.get (k := 5) rfl) (off := 2) rfl (by rfl)) ?_
  refine sqAny (v := i64 ((l1.length : Nat))) (w' := w192) (wantedSome (d' := 83) (b := true) rfl rfl rfl) (r_lenS sli60 (a := ownA ko48) (m := l1.length) (c := co49) rfl) ?_
  refine sqAny (v := .bool (true)) (w' := w192) (wantedSome (d' := 83) (b := true) rfl rfl rfl) ((r_eqlI (a := (l1.length : Nat)) (b := (l1.length : Nat)) rfl rfl).as (v' := .bool (true)) (by simp)) ?_
  refine sq (r_pickT (u := .bool (true)) rfl rfl) ?_
  refine sq (r_assign (v := .bool (true)) rfl) ?_
  refine wend ?_
  refine retAny ?_
  refine retG (rs := [.tmp 6]) (vs := [.bool (true)]) rfl ⟨⟨rfl, rfl⟩, trivial⟩ ?_
  exact ⟨_, rfl, rfl, H194.chg⟩
theorem gevals_big1 (n : Int) (gs : List Gt) (ol : List Int) (ga oa : Option Addr) (gc oc : Nat) (ls tb : List Lb) (lsa tsa : Option Addr) (lsc tsc : Nat) (hgc : gs.length ≤ gc) (hoc : ol.length ≤ oc) (w : World) (hG : Gl w) (hGs : Rd EG w ga gs) (hOl : Rd EI w oa ol) (hLs : Rd ELb w lsa ls) (hTb : Rd ELb w tsa tb) (h1s : ¬ gs.length ≤ 60) : Calls Tryd.prog 12 [.agg #[i64 (n), .slice ga gs.length gc, .slice oa ol.length oc], .slice lsa ls.length lsc, .slice tsa tb.length tsc].toArray w (Ret fun v w' => v = .bool true ∧ Ext w w') := by
  have H := Hp.start No w
  refine enter (n := 91) Tryd.func12 rfl rfl (Nat.le_of_ble_eq_true rfl) ?_
  refine seqRegion ?_
  refine q_box (v := .agg #[i64 (n), .slice ga gs.length gc, .slice oa ol.length oc]) (o := .cells #[i64 (n), .slice ga gs.length gc, .slice oa ol.length oc] 70 (0, 0)) H rfl (by rfl) ?_
  intro b1 w2 hb1 H3 hE4
  refine sq (r_assign (v := .bool (false)) rfl) ?_
  refine wend ?_
  refine seqAny ?_
  refine seqRegion ?_
  refine c_call (vs := []) call41 rfl (gawake_ok w2 (Chg.gl H3.chg (fun x => x) hG)) ?_
  rintro _ w5 ⟨rfl, hE6⟩
  have H7 := H3.ext hE6
  refine sq (r_notT rfl) ?_
  refine sq (r_move (v := .bool (false)) rfl) ?_
  refine sqAny (v := .agg #[i64 (n), .slice ga gs.length gc, .slice oa ol.length oc]) (w' := w5) (wantedSome (d' := 11) (b := false) rfl rfl rfl) (r_loadA (cs' := #[i64 (n), .slice ga gs.length gc, .slice oa ol.length oc]) agg70 siz70 (H7.get (k := 0) rfl) (off := 0) rfl (by exact Nat.le_of_ble_eq_true rfl) (by rfl)) ?_
  refine caAny (wantedSome (d' := 11) (b := false) rfl rfl rfl) (Enters.callL (vs := [.agg #[i64 (n), .slice ga gs.length gc, .slice oa ol.length oc]]) call42 rfl) (small_no1 n gs ol ga oa gc oc w5 h1s) ?_
  rintro _ w8 ⟨rfl, hE9⟩
  have H10 := H7.ext hE9
  refine sqAny (v := .bool (true)) (w' := w8) (wantedSome (d' := 11) (b := false) rfl rfl rfl) (r_notF rfl) ?_
  refine sq (r_pickF (v := .bool (true)) rfl rfl) ?_
  refine sq (r_move (v := .bool (true)) rfl) ?_
  refine skAny (wantedSome (d' := 16) (b := true) rfl rfl rfl) ?_
  refine skAny (wantedSome (d' := 16) (b := true) rfl rfl rfl) ?_
  refine skAny (wantedSome (d' := 16) (b := true) rfl rfl rfl) ?_
  refine sq (r_pickT (u := .bool (true)) rfl rfl) ?_
  refine sq (r_move (v := .bool (true)) rfl) ?_
  refine skAny (wantedSome (d' := 21) (b := true) rfl rfl rfl) ?_
  refine skAny (wantedSome (d' := 21) (b := true) rfl rfl rfl) ?_
  refine skAny (wantedSome (d' := 21) (b := true) rfl rfl rfl) ?_
  refine sq (r_pickT (u := .bool (true)) rfl rfl) ?_
  refine wend ?_
  refine condTrue rfl ?_
  refine seqRegion ?_
  refine c_call (vs := []) call41 rfl (gawake_ok w8 (Chg.gl H10.chg (fun x => x) hG)) ?_
  rintro _ w11 ⟨rfl, hE12⟩
  have H13 := H10.ext hE12
  refine sq (r_assign (v := .bool (true)) rfl) ?_
  refine wend ?_
  refine retAny ?_
  refine thenRet ?_
  refine retG (rs := [.tmp 6]) (vs := [.bool (true)]) rfl ⟨⟨rfl, rfl⟩, trivial⟩ ?_
  exact ⟨_, rfl, rfl, H13.chg⟩
theorem gevals_big2 (n : Int) (gs : List Gt) (ol : List Int) (ga oa : Option Addr) (gc oc : Nat) (ls tb : List Lb) (lsa tsa : Option Addr) (lsc tsc : Nat) (hgc : gs.length ≤ gc) (hoc : ol.length ≤ oc) (w : World) (hG : Gl w) (hGs : Rd EG w ga gs) (hOl : Rd EI w oa ol) (hLs : Rd ELb w lsa ls) (hTb : Rd ELb w tsa tb) (h1s : gs.length ≤ 60) (h2s : ¬ n ≤ 200) : Calls Tryd.prog 12 [.agg #[i64 (n), .slice ga gs.length gc, .slice oa ol.length oc], .slice lsa ls.length lsc, .slice tsa tb.length tsc].toArray w (Ret fun v w' => v = .bool true ∧ Ext w w') := by
  have H := Hp.start No w
  refine enter (n := 91) Tryd.func12 rfl rfl (Nat.le_of_ble_eq_true rfl) ?_
  refine seqRegion ?_
  refine q_box (v := .agg #[i64 (n), .slice ga gs.length gc, .slice oa ol.length oc]) (o := .cells #[i64 (n), .slice ga gs.length gc, .slice oa ol.length oc] 70 (0, 0)) H rfl (by rfl) ?_
  intro b1 w2 hb1 H3 hE4
  refine sq (r_assign (v := .bool (false)) rfl) ?_
  refine wend ?_
  refine seqAny ?_
  refine seqRegion ?_
  refine c_call (vs := []) call41 rfl (gawake_ok w2 (Chg.gl H3.chg (fun x => x) hG)) ?_
  rintro _ w5 ⟨rfl, hE6⟩
  have H7 := H3.ext hE6
  refine sq (r_notT rfl) ?_
  refine sq (r_move (v := .bool (false)) rfl) ?_
  refine sqAny (v := .agg #[i64 (n), .slice ga gs.length gc, .slice oa ol.length oc]) (w' := w5) (wantedSome (d' := 11) (b := false) rfl rfl rfl) (r_loadA (cs' := #[i64 (n), .slice ga gs.length gc, .slice oa ol.length oc]) agg70 siz70 (H7.get (k := 0) rfl) (off := 0) rfl (by exact Nat.le_of_ble_eq_true rfl) (by rfl)) ?_
  refine caAny (wantedSome (d' := 11) (b := false) rfl rfl rfl) (Enters.callL (vs := [.agg #[i64 (n), .slice ga gs.length gc, .slice oa ol.length oc]]) call42 rfl) (small_no2 n gs ol ga oa gc oc w5 h1s h2s) ?_
  rintro _ w8 ⟨rfl, hE9⟩
  have H10 := H7.ext hE9
  refine sqAny (v := .bool (true)) (w' := w8) (wantedSome (d' := 11) (b := false) rfl rfl rfl) (r_notF rfl) ?_
  refine sq (r_pickF (v := .bool (true)) rfl rfl) ?_
  refine sq (r_move (v := .bool (true)) rfl) ?_
  refine skAny (wantedSome (d' := 16) (b := true) rfl rfl rfl) ?_
  refine skAny (wantedSome (d' := 16) (b := true) rfl rfl rfl) ?_
  refine skAny (wantedSome (d' := 16) (b := true) rfl rfl rfl) ?_
  refine sq (r_pickT (u := .bool (true)) rfl rfl) ?_
  refine sq (r_move (v := .bool (true)) rfl) ?_
  refine skAny (wantedSome (d' := 21) (b := true) rfl rfl rfl) ?_
  refine skAny (wantedSome (d' := 21) (b := true) rfl rfl rfl) ?_
  refine skAny (wantedSome (d' := 21) (b := true) rfl rfl rfl) ?_
  refine sq (r_pickT (u := .bool (true)) rfl rfl) ?_
  refine wend ?_
  refine condTrue rfl ?_
  refine seqRegion ?_
  refine c_call (vs := []) call41 rfl (gawake_ok w8 (Chg.gl H10.chg (fun x => x) hG)) ?_
  rintro _ w11 ⟨rfl, hE12⟩
  have H13 := H10.ext hE12
  refine sq (r_assign (v := .bool (true)) rfl) ?_
  refine wend ?_
  refine retAny ?_
  refine thenRet ?_
  refine retG (rs := [.tmp 6]) (vs := [.bool (true)]) rfl ⟨⟨rfl, rfl⟩, trivial⟩ ?_
  exact ⟨_, rfl, rfl, H13.chg⟩
theorem gevals_big3 (n : Int) (gs : List Gt) (ol : List Int) (ga oa : Option Addr) (gc oc : Nat) (ls tb : List Lb) (lsa tsa : Option Addr) (lsc tsc : Nat) (hgc : gs.length ≤ gc) (hoc : ol.length ≤ oc) (w : World) (hG : Gl w) (hGs : Rd EG w ga gs) (hOl : Rd EI w oa ol) (hLs : Rd ELb w lsa ls) (hTb : Rd ELb w tsa tb) (h1s : gs.length ≤ 60) (h2s : n ≤ 200) (h3s : ¬ ls.length ≤ 300) : Calls Tryd.prog 12 [.agg #[i64 (n), .slice ga gs.length gc, .slice oa ol.length oc], .slice lsa ls.length lsc, .slice tsa tb.length tsc].toArray w (Ret fun v w' => v = .bool true ∧ Ext w w') := by
  have H := Hp.start No w
  refine enter (n := 91) Tryd.func12 rfl rfl (Nat.le_of_ble_eq_true rfl) ?_
  refine seqRegion ?_
  refine q_box (v := .agg #[i64 (n), .slice ga gs.length gc, .slice oa ol.length oc]) (o := .cells #[i64 (n), .slice ga gs.length gc, .slice oa ol.length oc] 70 (0, 0)) H rfl (by rfl) ?_
  intro b1 w2 hb1 H3 hE4
  refine sq (r_assign (v := .bool (false)) rfl) ?_
  refine wend ?_
  refine seqAny ?_
  refine seqRegion ?_
  refine c_call (vs := []) call41 rfl (gawake_ok w2 (Chg.gl H3.chg (fun x => x) hG)) ?_
  rintro _ w5 ⟨rfl, hE6⟩
  have H7 := H3.ext hE6
  refine sq (r_notT rfl) ?_
  refine sq (r_move (v := .bool (false)) rfl) ?_
  refine sqAny (v := .agg #[i64 (n), .slice ga gs.length gc, .slice oa ol.length oc]) (w' := w5) (wantedSome (d' := 11) (b := false) rfl rfl rfl) (r_loadA (cs' := #[i64 (n), .slice ga gs.length gc, .slice oa ol.length oc]) agg70 siz70 (H7.get (k := 0) rfl) (off := 0) rfl (by exact Nat.le_of_ble_eq_true rfl) (by rfl)) ?_
  refine caAny (wantedSome (d' := 11) (b := false) rfl rfl rfl) (Enters.callL (vs := [.agg #[i64 (n), .slice ga gs.length gc, .slice oa ol.length oc]]) call42 rfl) (small_yes n gs ol ga oa gc oc w5 h1s h2s) ?_
  rintro _ w8 ⟨rfl, hE9⟩
  have H10 := H7.ext hE9
  refine sqAny (v := .bool (false)) (w' := w8) (wantedSome (d' := 11) (b := false) rfl rfl rfl) (r_notT rfl) ?_
  refine sq (r_pickF (v := .bool (false)) rfl rfl) ?_
  refine sq (r_move (v := .bool (false)) rfl) ?_
  refine sqAny (v := .slice lsa ls.length lsc) (w' := w8) (wantedSome (d' := 16) (b := false) rfl rfl rfl) (r_move (v := .slice lsa ls.length lsc) rfl) ?_
  refine sqAny (v := i64 ((ls.length : Nat))) (w' := w8) (wantedSome (d' := 16) (b := false) rfl rfl rfl) (r_lenS sli92 (a := lsa) (m := ls.length) (c := lsc) rfl) ?_
  refine sqAny (v := .bool (true)) (w' := w8) (wantedSome (d' := 16) (b := false) rfl rfl rfl) ((r_gtrI (a := (ls.length : Nat)) (b := (300 : Int)) rfl rfl).as (v' := .bool (true)) (by exact congrArg Value.bool (decide_eq_true (by omega)))) ?_
  refine sq (r_pickF (v := .bool (true)) rfl rfl) ?_
  refine sq (r_move (v := .bool (true)) rfl) ?_
  refine skAny (wantedSome (d' := 21) (b := true) rfl rfl rfl) ?_
  refine skAny (wantedSome (d' := 21) (b := true) rfl rfl rfl) ?_
  refine skAny (wantedSome (d' := 21) (b := true) rfl rfl rfl) ?_
  refine sq (r_pickT (u := .bool (true)) rfl rfl) ?_
  refine wend ?_
  refine condTrue rfl ?_
  refine seqRegion ?_
  refine c_call (vs := []) call41 rfl (gawake_ok w8 (Chg.gl H10.chg (fun x => x) hG)) ?_
  rintro _ w11 ⟨rfl, hE12⟩
  have H13 := H10.ext hE12
  refine sq (r_assign (v := .bool (true)) rfl) ?_
  refine wend ?_
  refine retAny ?_
  refine thenRet ?_
  refine retG (rs := [.tmp 6]) (vs := [.bool (true)]) rfl ⟨⟨rfl, rfl⟩, trivial⟩ ?_
  exact ⟨_, rfl, rfl, H13.chg⟩
theorem gevals_big4 (n : Int) (gs : List Gt) (ol : List Int) (ga oa : Option Addr) (gc oc : Nat) (ls tb : List Lb) (lsa tsa : Option Addr) (lsc tsc : Nat) (hgc : gs.length ≤ gc) (hoc : ol.length ≤ oc) (w : World) (hG : Gl w) (hGs : Rd EG w ga gs) (hOl : Rd EI w oa ol) (hLs : Rd ELb w lsa ls) (hTb : Rd ELb w tsa tb) (h1s : gs.length ≤ 60) (h2s : n ≤ 200) (h3s : ls.length ≤ 300) (h4s : ¬ tb.length ≤ 300) : Calls Tryd.prog 12 [.agg #[i64 (n), .slice ga gs.length gc, .slice oa ol.length oc], .slice lsa ls.length lsc, .slice tsa tb.length tsc].toArray w (Ret fun v w' => v = .bool true ∧ Ext w w') := by
  have H := Hp.start No w
  refine enter (n := 91) Tryd.func12 rfl rfl (Nat.le_of_ble_eq_true rfl) ?_
  refine seqRegion ?_
  refine q_box (v := .agg #[i64 (n), .slice ga gs.length gc, .slice oa ol.length oc]) (o := .cells #[i64 (n), .slice ga gs.length gc, .slice oa ol.length oc] 70 (0, 0)) H rfl (by rfl) ?_
  intro b1 w2 hb1 H3 hE4
  refine sq (r_assign (v := .bool (false)) rfl) ?_
  refine wend ?_
  refine seqAny ?_
  refine seqRegion ?_
  refine c_call (vs := []) call41 rfl (gawake_ok w2 (Chg.gl H3.chg (fun x => x) hG)) ?_
  rintro _ w5 ⟨rfl, hE6⟩
  have H7 := H3.ext hE6
  refine sq (r_notT rfl) ?_
  refine sq (r_move (v := .bool (false)) rfl) ?_
  refine sqAny (v := .agg #[i64 (n), .slice ga gs.length gc, .slice oa ol.length oc]) (w' := w5) (wantedSome (d' := 11) (b := false) rfl rfl rfl) (r_loadA (cs' := #[i64 (n), .slice ga gs.length gc, .slice oa ol.length oc]) agg70 siz70 (H7.get (k := 0) rfl) (off := 0) rfl (by exact Nat.le_of_ble_eq_true rfl) (by rfl)) ?_
  refine caAny (wantedSome (d' := 11) (b := false) rfl rfl rfl) (Enters.callL (vs := [.agg #[i64 (n), .slice ga gs.length gc, .slice oa ol.length oc]]) call42 rfl) (small_yes n gs ol ga oa gc oc w5 h1s h2s) ?_
  rintro _ w8 ⟨rfl, hE9⟩
  have H10 := H7.ext hE9
  refine sqAny (v := .bool (false)) (w' := w8) (wantedSome (d' := 11) (b := false) rfl rfl rfl) (r_notT rfl) ?_
  refine sq (r_pickF (v := .bool (false)) rfl rfl) ?_
  refine sq (r_move (v := .bool (false)) rfl) ?_
  refine sqAny (v := .slice lsa ls.length lsc) (w' := w8) (wantedSome (d' := 16) (b := false) rfl rfl rfl) (r_move (v := .slice lsa ls.length lsc) rfl) ?_
  refine sqAny (v := i64 ((ls.length : Nat))) (w' := w8) (wantedSome (d' := 16) (b := false) rfl rfl rfl) (r_lenS sli92 (a := lsa) (m := ls.length) (c := lsc) rfl) ?_
  refine sqAny (v := .bool (false)) (w' := w8) (wantedSome (d' := 16) (b := false) rfl rfl rfl) ((r_gtrI (a := (ls.length : Nat)) (b := (300 : Int)) rfl rfl).as (v' := .bool (false)) (by exact congrArg Value.bool (decide_eq_false (by omega)))) ?_
  refine sq (r_pickF (v := .bool (false)) rfl rfl) ?_
  refine sq (r_move (v := .bool (false)) rfl) ?_
  refine sqAny (v := .slice tsa tb.length tsc) (w' := w8) (wantedSome (d' := 21) (b := false) rfl rfl rfl) (r_move (v := .slice tsa tb.length tsc) rfl) ?_
  refine sqAny (v := i64 ((tb.length : Nat))) (w' := w8) (wantedSome (d' := 21) (b := false) rfl rfl rfl) (r_lenS sli92 (a := tsa) (m := tb.length) (c := tsc) rfl) ?_
  refine sqAny (v := .bool (true)) (w' := w8) (wantedSome (d' := 21) (b := false) rfl rfl rfl) ((r_gtrI (a := (tb.length : Nat)) (b := (300 : Int)) rfl rfl).as (v' := .bool (true)) (by exact congrArg Value.bool (decide_eq_true (by omega)))) ?_
  refine sq (r_pickF (v := .bool (true)) rfl rfl) ?_
  refine wend ?_
  refine condTrue rfl ?_
  refine seqRegion ?_
  refine c_call (vs := []) call41 rfl (gawake_ok w8 (Chg.gl H10.chg (fun x => x) hG)) ?_
  rintro _ w11 ⟨rfl, hE12⟩
  have H13 := H10.ext hE12
  refine sq (r_assign (v := .bool (true)) rfl) ?_
  refine wend ?_
  refine retAny ?_
  refine thenRet ?_
  refine retG (rs := [.tmp 6]) (vs := [.bool (true)]) rfl ⟨⟨rfl, rfl⟩, trivial⟩ ?_
  exact ⟨_, rfl, rfl, H13.chg⟩
theorem gevals_all (n : Int) (gs : List Gt) (ol : List Int) (ga oa : Option Addr) (gc oc : Nat) (ls tb : List Lb) (lsa tsa : Option Addr) (lsc tsc : Nat) (hgc : gs.length ≤ gc) (hoc : ol.length ≤ oc) (w : World) (hG : Gl w) (hGs : Rd EG w ga gs) (hOl : Rd EI w oa ol) (hLs : Rd ELb w lsa ls) (hTb : Rd ELb w tsa tb) : Calls Tryd.prog 12 [.agg #[i64 (n), .slice ga gs.length gc, .slice oa ol.length oc], .slice lsa ls.length lsc, .slice tsa tb.length tsc].toArray w (Ret fun v w' => v = .bool true ∧ Ext w w') := by
  by_cases h1s : gs.length ≤ 60
  · by_cases h2s : n ≤ 200
    · by_cases h3s : ls.length ≤ 300
      · by_cases h4s : tb.length ≤ 300
        · by_cases hg : IsC n (gs.take 4200) (ol.take 80)
          · by_cases hm : (ls.length : Int) = n
            · by_cases hc : tb.length = 2 * andsS (gs.take 4200) (gs.take 4200).length
              · exact gevals_ok n gs ol ga oa gc oc ls tb lsa tsa lsc tsc hgc hoc w hG hGs hOl hLs hTb h1s h2s h3s h4s hg hm hc
              · exact gevals_tab n gs ol ga oa gc oc ls tb lsa tsa lsc tsc hgc hoc w hG hGs hOl hLs hTb h1s h2s h3s h4s hg hm hc
            · exact gevals_num n gs ol ga oa gc oc ls tb lsa tsa lsc tsc hgc hoc w hG hGs hOl hLs hTb h1s h2s h3s h4s hg hm
          · exact gevals_bad n gs ol ga oa gc oc ls tb lsa tsa lsc tsc hgc hoc w hG hGs hOl hLs hTb h1s h2s h3s h4s hg
        · exact gevals_big4 n gs ol ga oa gc oc ls tb lsa tsa lsc tsc hgc hoc w hG hGs hOl hLs hTb h1s h2s h3s h4s
      · exact gevals_big3 n gs ol ga oa gc oc ls tb lsa tsa lsc tsc hgc hoc w hG hGs hOl hLs hTb h1s h2s h3s
    · exact gevals_big2 n gs ol ga oa gc oc ls tb lsa tsa lsc tsc hgc hoc w hG hGs hOl hLs hTb h1s h2s
  · exact gevals_big1 n gs ol ga oa gc oc ls tb lsa tsa lsc tsc hgc hoc w hG hGs hOl hLs hTb h1s
end Go.Proofs.YteofdmdpaejgaaaDoor.Gb
