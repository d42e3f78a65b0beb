/- What the claim has need of: Garb5, Garb6, Garb7, Garb8, Garb9. -/
import Derived.Test.YteofdmdpaejgaaaDoorGr5
namespace Go.Proofs.YteofdmdpaejgaaaDoor.Gb
open Go Go.Proofs.YteofdmdpaejgaaaDoor.Vc Go.Proofs.YteofdmdpaejgaaaDoor.Er Go.Proofs.YteofdmdpaejgaaaDoor.Circ
set_option linter.unusedVariables false
theorem fld94_1 : fld Tryd.prog 94 1 = some (2, 1, 92) := by kernel_rfl
theorem gty38 : Tryd.prog.eqGuardType Tryd.prog.depth 38 = false := by kernel_rfl
theorem one32 : isOne Tryd.prog 32 = true := by kernel_rfl
theorem one92 : isOne Tryd.prog 92 = true := by kernel_rfl
theorem und38 : Tryd.prog.underlying 38 = some (.array 2 32) := by kernel_rfl
theorem label_ok (z δ : Lb) (b : Bool) (w : World) : Calls Tryd.prog 48 [.agg (cel E64 [(z).1, (z).2]).toArray, .agg (cel E64 [(δ).1, (δ).2]).toArray, .bool (b)].toArray w (Ret fun v w' => v = .agg (cel E64 [(lx z (lw b δ)).1, (lx z (lw b δ)).2]).toArray ∧ Ext w w') := by
  have H := Hp.start No w
  refine enter (n := 12) Tryd.func48 rfl rfl (Nat.le_of_ble_eq_true rfl) ?_
  refine seqRegion ?_
  refine q_box (v := .agg (cel E64 [(z).1, (z).2]).toArray) (o := .cells (cel E64 ([(z).1, (z).2])).toArray 38 (0, 0)) H rfl (by rfl) ?_
  intro b31 w32 hb31 H33 hE34
  refine q_box (v := .agg (cel E64 [(δ).1, (δ).2]).toArray) (o := .cells (cel E64 ([(δ).1, (δ).2])).toArray 38 (0, 0)) H33 rfl (by rfl) ?_
  intro b35 w36 hb35 H37 hE38
  refine q_alloc (o := .cells (cel E64 ([0#64, 0#64])).toArray 38 (0, 0)) H37 zer38 (by kernel_rfl) ?_
  intro b39 w40 hb39 H41 hE42
  refine wend ?_
  refine seqAny ?_
  refine drawE (m := 6) [0, 0, 0, 6, 15, 31] [5] (fun bs vs w' => match bs, vs with | [false], [_] => Hp No w w' [(some b39, .cells (cel E64 ([0#64, 0#64])).toArray 38 (0, 0)), (some b35, .cells (cel E64 ([(δ).1, (δ).2])).toArray 38 (0, 0)), (some b31, .cells (cel E64 ([(z).1, (z).2])).toArray 38 (0, 0))] | [true], [_] => Hp No w w' [(some b39, .cells (cel E64 ([(lx z (lw b δ)).1, (lx z (lw b δ)).2])).toArray 38 (0, 0)), (some b35, .cells (cel E64 ([(δ).1, (δ).2])).toArray 38 (0, 0)), (some b31, .cells (cel E64 ([(z).1, (z).2])).toArray 38 (0, 0))] | _, _ => False) mixed (by kernel_rfl) (by kernel_rfl) H41.drew ?_
  refine WalkE.look rfl (fun _ => .agg (cel E64 ([(z).1, (z).2])).toArray) (fun _ _ _ => rfl) (fun L r uw0 uw hAn hDn hF hEx => ?_) ?_
  · skip
    have b5 : L 5 = false := hDn 5 (by decide) rfl
    have hb : List.map L [5] = [false] := by simp only [List.map_cons, List.map_nil, b5]
    rw [hb] at hF
    have HH := hF
    replace HH := HH.ext hEx
    exact Gives.run rfl (r_loadA (cs' := (cel E64 ([(z).1, (z).2])).toArray) agg38 siz38 (HH.get (k := 2) rfl) (off := 0) rfl (by exact Nat.le_of_ble_eq_true rfl) (by exact ext_all rfl)) ⟨rfl, rfl⟩
  refine WalkE.look rfl (fun _ => .bool (b)) (fun _ _ _ => rfl) (fun L r _ uw _ _ _ _ => Gives.run rfl (r_move (v := .bool (b)) rfl) ⟨rfl, rfl⟩) ?_
  refine WalkE.look rfl (fun _ => .agg (cel E64 ([(δ).1, (δ).2])).toArray) (fun _ _ _ => rfl) (fun L r uw0 uw hAn hDn hF hEx => ?_) ?_
  · skip
    have b5 : L 5 = false := hDn 5 (by decide) rfl
    have hb : List.map L [5] = [false] := by simp only [List.map_cons, List.map_nil, b5]
    rw [hb] at hF
    have HH := hF
    replace HH := HH.ext hEx
    exact Gives.run rfl (r_loadA (cs' := (cel E64 ([(δ).1, (δ).2])).toArray) agg38 siz38 (HH.get (k := 1) rfl) (off := 0) rfl (by exact Nat.le_of_ble_eq_true rfl) (by exact ext_all rfl)) ⟨rfl, rfl⟩
  refine WalkE.call rfl (fun _ => .agg (cel E64 [(lw b δ).1, (lw b δ).2]).toArray) (fun _ _ _ => rfl) (fun L r uw0 uw hAn hDn hF hEx => ?_) ?_
  · skip
    have b5 : L 5 = false := hDn 5 (by decide) rfl
    have hb : List.map L [5] = [false] := by simp only [List.map_cons, List.map_nil, b5]
    rw [hb] at hF
    have HH := hF
    replace HH := HH.ext hEx
    exact Gives.call rfl (Enters.callL (vs := [.bool (b), .agg (cel E64 ([(δ).1, (δ).2])).toArray]) call89 rfl) (lw_ok b δ uw)
  refine WalkE.call rfl (fun _ => .agg (cel E64 [(lx z (lw b δ)).1, (lx z (lw b δ)).2]).toArray) (fun _ _ _ => rfl) (fun L r uw0 uw hAn hDn hF hEx => ?_) ?_
  · skip
    have b5 : L 5 = false := hDn 5 (by decide) rfl
    have hb : List.map L [5] = [false] := by simp only [List.map_cons, List.map_nil, b5]
    rw [hb] at hF
    have HH := hF
    replace HH := HH.ext hEx
    exact Gives.call rfl (Enters.callL (vs := [.agg (cel E64 ([(z).1, (z).2])).toArray, .agg (cel E64 [(lw b δ).1, (lw b δ).2]).toArray]) call86 rfl) (lxor_ok z (lw b δ) uw)
  refine WalkE.eff 0 rfl (fun L r uw0 uw hLn hAn hDn hF hEx => ?_) ?_
  · skip
    have b5 : L 5 = false := hLn
    have hb : List.map L [5] = [false] := by simp only [List.map_cons, List.map_nil, b5]
    rw [hb] at hF ⊢
    have H47 := hF
    replace H47 := H47.ext hEx
    dsimp only
    refine Gives.ofW0 rfl (fun Q' hK => ?_)
    refine d_store (k := 0) (v := .agg (cel E64 [(lx z (lw b δ)).1, (lx z (lw b δ)).2]).toArray) (cs' := (cel E64 ([(lx z (lw b δ)).1, (lx z (lw b δ)).2])).toArray) H47 rfl rfl rfl siz38 (by exact celSize (by first | rfl | (show _ * 1 = _; omega))) (by exact celOne _) (by rw [List.size_toArray, cel_length]; show _ ≤ _ * 1; first | omega | (simp only [List.length_set]; omega) | exact Nat.le_of_ble_eq_true rfl | (simp <;> omega)) (by exact putAll (by first | rfl | omega | (simp <;> omega))) ?_
    intro w48 H49 hC50
    have H49' := H49.as (L' := [(some b39, .cells (cel E64 ([(lx z (lw b δ)).1, (lx z (lw b δ)).2])).toArray 38 (0, 0)), (some b35, .cells (cel E64 ([(δ).1, (δ).2])).toArray 38 (0, 0)), (some b31, .cells (cel E64 ([(z).1, (z).2])).toArray 38 (0, 0))]) rfl
    clear H49
    exact hK _ (fun _ => (show Hp No w w48 [(some b39, .cells (cel E64 ([(lx z (lw b δ)).1, (lx z (lw b δ)).2])).toArray 38 (0, 0)), (some b35, .cells (cel E64 ([(δ).1, (δ).2])).toArray 38 (0, 0)), (some b31, .cells (cel E64 ([(z).1, (z).2])).toArray 38 (0, 0))] from (((H49'.pull (k := 2) rfl).pull (k := 2) rfl).pull (k := 2) rfl)))
  refine WalkE.nil ?_
  intro r51 uw0 w52 hF hEx
  have H53 := hF
  replace H53 := H53.ext hEx
  dsimp only
  refine wnil ?_
  refine thenNormal ?_
  refine retAny ?_
  refine retG (rs := [.cell 6 38]) (vs := [.agg (cel E64 ([(lx z (lw b δ)).1, (lx z (lw b δ)).2])).toArray]) rfl ⟨r_loadA (cs' := (cel E64 ([(lx z (lw b δ)).1, (lx z (lw b δ)).2])).toArray) agg38 siz38 (H53.get (k := 0) rfl) (off := 0) rfl (by exact Nat.le_of_ble_eq_true rfl) (by exact ext_all rfl), trivial⟩ ?_
  exact ⟨_, rfl, rfl, H53.chg⟩
theorem colours_ok (l : List Lb) (a0 : Option Addr) (n0 c0 : Nat) (hn0 : n0 = l.length) (hl : l.length ≤ 140737488355328) (w : World) (hL : Rd ELb w a0 l) : Calls Tryd.prog 51 [.slice a0 n0 c0].toArray w (Ret fun v w' => v = u64 (colS l (min l.length 64)) ∧ Ext w w') := by
  subst hn0
  have H := Hp.start No w
  refine enter (n := 23) Tryd.func51 rfl rfl (Nat.le_of_ble_eq_true rfl) ?_
  refine seqRegion ?_
  refine sq (r_assign (v := u64 (0#64)) rfl) ?_
  refine wend ?_
  refine seqRegion ?_
  refine sq (r_assign (v := u64 (0#64)) rfl) ?_
  refine wend ?_
  refine seqAny ?_
  refine seqRegion ?_
  refine sq (r_move (v := .slice a0 l.length c0) rfl) ?_
  refine sq (r_lenS sli92 (a := a0) (m := l.length) (c := c0) rfl) ?_
  refine sq ((r_minI (a := (l.length : Nat)) (b := (64 : Int)) rfl rfl).as (v' := i64 (((min l.length 64) : Nat))) (by exact congrArg i64 (by omega))) ?_
  refine sq (r_move (v := i64 ((0 : Int))) rfl) ?_
  refine wend ?_
  refine blockAny ?_
  refine loopAny (σ := Nat) (fun q => [(0, .slice a0 l.length c0), (3, u64 (colS l q)), (7, i64 (((min l.length 64) : Nat))), (8, i64 ((q : Nat)))]) (fun q w' => q ≤ min l.length 64 ∧ Hp No w w' []) (fun q => min l.length 64 - q) (0) ?_ ?_ ?_
  · exact ⟨rfl, rfl, rfl, rfl, trivial⟩
  · exact ⟨Nat.zero_le _, H⟩
  rintro q ρ w1 ⟨hq, HL⟩
  refine seqRegion ?_
  refine sq (r_lssI (a := (q : Nat)) (b := ((min l.length 64) : Nat)) rfl rfl) ?_
  refine wend ?_
  refine seqAny ?_
  refine condProp (((q : Nat) : Int) < ((min l.length 64) : Nat)) rfl (fun c9 => ?_) (fun c9 => ?_)
  · skip
    refine skipAny ?_
    refine thenNormal ?_
    refine seqAny ?_
    refine blockAny ?_
    refine seqRegion ?_
    refine sq (r_move (v := i64 ((q : Nat))) rfl) ?_
    refine sq (r_assign (v := i64 ((q : Nat))) rfl) ?_
    refine wend ?_
    refine oneRegion ?_
    refine sq (r_move (v := u64 (colS l q)) rfl) ?_
    refine sq (r_move (v := .slice a0 l.length c0) rfl) ?_
    refine sq (r_move (v := i64 ((q : Nat))) rfl) ?_
    refine sq (r_idxS (E := ELb) (l := l) (j := q) sli92 (hL.ext HL.chg) rfl rfl (by first | rfl | omega | (simp; omega)) (by rfl) (by omega)) ?_
    refine sq (r_indexAS (E := ELb) (l := l) (j := 0) arr38 (hL.ext HL.chg) (by omega) rfl rfl (by first | rfl | omega) (by omega) rfl) ?_
    refine sq (r_ldP (E := ELb) (l := l) (j := q) (o := 0) (v := (l.getD q lb0)) (u := u64 ((l.getD q lb0).1)) one32 (hL.ext HL.chg) (at_getD (by omega)) rfl rfl rfl) ?_
    refine sq (r_and64 (a := (l.getD q lb0).1) (b := 1#64) rfl rfl) ?_
    refine sq (r_move (v := i64 ((q : Nat))) rfl) ?_
    refine sq (r_shl64 (a := ((l.getD q lb0).1) &&& (1#64)) (c := q) rfl rfl) ?_
    refine sq (r_or64 (a := colS l q) (b := (((l.getD q lb0).1) &&& (1#64)) <<< (q : Nat)) rfl rfl) ?_
    refine sq (r_assign (v := u64 ((colS l q) ||| ((((l.getD q lb0).1) &&& (1#64)) <<< (q : Nat)))) rfl) ?_
    refine wnil ?_
    refine blockNormal ?_
    refine thenNormal ?_
    refine oneRegion ?_
    refine sq (r_addI (a := (q : Nat)) (b := (1 : Int)) rfl rfl (by omega)) ?_
    refine sq (r_move (v := i64 ((q : Nat) + (1 : Int))) rfl) ?_
    refine wnil ?_
    refine thenNormal ?_
    exact ⟨q + 1, _, rfl, ⟨rfl, congrArg u64 (by rw [colS]), rfl, rfl, trivial⟩, ⟨by omega, HL⟩, by show min l.length 64 - (q + 1) < min l.length 64 - q; omega⟩
  · skip
    obtain rfl : q = min l.length 64 := by omega
    refine exitAny ?_
    refine thenExit ?_
    refine thenExit ?_
    refine blockHere ?_
    refine thenNormal ?_
    refine seqRegion ?_
    refine sq (r_move (v := u64 (colS l (min l.length 64))) rfl) ?_
    refine sq (r_assign (v := u64 (colS l (min l.length 64))) rfl) ?_
    refine wend ?_
    refine retAny ?_
    refine retG (rs := [.tmp 2]) (vs := [u64 (colS l (min l.length 64))]) rfl ⟨⟨rfl, rfl⟩, trivial⟩ ?_
    exact ⟨_, rfl, rfl, HL.chg⟩
theorem small_yes (n : Int) (gs : List Gt) (ol : List Int) (ga oa : Option Addr) (gc oc : Nat) (w : World) (h1 : gs.length ≤ 60) (h2 : n ≤ 200) : Calls Tryd.prog 42 [.agg #[i64 (n), .slice ga gs.length gc, .slice oa ol.length oc]].toArray w (Ret fun v w' => v = .bool true ∧ Ext w w') := by
  have H := Hp.start No w
  refine enter (n := 12) Tryd.func42 rfl rfl (Nat.le_of_ble_eq_true rfl) ?_
  refine seqRegion ?_
  refine q_box (v := .agg #[i64 (n), .slice ga gs.length gc, .slice oa ol.length oc]) (o := .cells #[i64 (n), .slice ga gs.length gc, .slice oa ol.length oc] 70 (0, 0)) H rfl (by rfl) ?_
  intro b1 w2 hb1 H3 hE4
  refine sq (r_assign (v := .bool (false)) rfl) ?_
  refine wend ?_
  refine seqRegion ?_
  refine sq (r_fieldAddr (off' := 1) fld70_1 (by decide) (b := b1) (off := 0) rfl (by omega)) ?_
  refine sq (r_loadC (v := .slice ga gs.length gc) one68 (H3.get (k := 0) rfl) (off := 1) rfl (by rfl)) ?_
  refine sq (r_lenS sli68 (a := ga) (m := gs.length) (c := gc) rfl) ?_
  refine sq ((r_leqI (a := (gs.length : Nat)) (b := (60 : Int)) rfl rfl).as (v' := .bool (true)) (by exact congrArg Value.bool (decide_eq_true (by omega)))) ?_
  refine sq (r_move (v := .bool (true)) rfl) ?_
  refine sqAny (v := .pointer (some ⟨b1, 0, none⟩)) (w' := w2) (wantedSome (d' := 7) (b := true) rfl rfl rfl) (r_fieldAddr (off' := 0) fld70_0 (by decide) (b := b1) (off := 0) rfl (by omega)) ?_
  refine sqAny (v := i64 (n)) (w' := w2) (wantedSome (d' := 7) (b := true) rfl rfl rfl) (r_loadC (v := i64 (n)) one3 (H3.get (k := 0) rfl) (off := 0) rfl (by rfl)) ?_
  refine sqAny (v := .bool (true)) (w' := w2) (wantedSome (d' := 7) (b := true) rfl rfl rfl) ((r_leqI (a := n) (b := (200 : Int)) rfl rfl).as (v' := .bool (true)) (by exact congrArg Value.bool (decide_eq_true (by omega)))) ?_
  refine sq (r_pickT (u := .bool (true)) rfl rfl) ?_
  refine sq (r_assign (v := .bool (true)) rfl) ?_
  refine wend ?_
  refine retAny ?_
  refine retG (rs := [.tmp 2]) (vs := [.bool (true)]) rfl ⟨⟨rfl, rfl⟩, trivial⟩ ?_
  exact ⟨_, rfl, rfl, H3.chg⟩
theorem small_no2 (n : Int) (gs : List Gt) (ol : List Int) (ga oa : Option Addr) (gc oc : Nat) (w : World) (h1 : gs.length ≤ 60) (h2 : ¬ n ≤ 200) : Calls Tryd.prog 42 [.agg #[i64 (n), .slice ga gs.length gc, .slice oa ol.length oc]].toArray w (Ret fun v w' => v = .bool false ∧ Ext w w') := by
  have H := Hp.start No w
  refine enter (n := 12) Tryd.func42 rfl rfl (Nat.le_of_ble_eq_true rfl) ?_
  refine seqRegion ?_
  refine q_box (v := .agg #[i64 (n), .slice ga gs.length gc, .slice oa ol.length oc]) (o := .cells #[i64 (n), .slice ga gs.length gc, .slice oa ol.length oc] 70 (0, 0)) H rfl (by rfl) ?_
  intro b1 w2 hb1 H3 hE4
  refine sq (r_assign (v := .bool (false)) rfl) ?_
  refine wend ?_
  refine seqRegion ?_
  refine sq (r_fieldAddr (off' := 1) fld70_1 (by decide) (b := b1) (off := 0) rfl (by omega)) ?_
  refine sq (r_loadC (v := .slice ga gs.length gc) one68 (H3.get (k := 0) rfl) (off := 1) rfl (by rfl)) ?_
  refine sq (r_lenS sli68 (a := ga) (m := gs.length) (c := gc) rfl) ?_
  refine sq ((r_leqI (a := (gs.length : Nat)) (b := (60 : Int)) rfl rfl).as (v' := .bool (true)) (by exact congrArg Value.bool (decide_eq_true (by omega)))) ?_
  refine sq (r_move (v := .bool (true)) rfl) ?_
  refine sqAny (v := .pointer (some ⟨b1, 0, none⟩)) (w' := w2) (wantedSome (d' := 7) (b := true) rfl rfl rfl) (r_fieldAddr (off' := 0) fld70_0 (by decide) (b := b1) (off := 0) rfl (by omega)) ?_
  refine sqAny (v := i64 (n)) (w' := w2) (wantedSome (d' := 7) (b := true) rfl rfl rfl) (r_loadC (v := i64 (n)) one3 (H3.get (k := 0) rfl) (off := 0) rfl (by rfl)) ?_
  refine sqAny (v := .bool (false)) (w' := w2) (wantedSome (d' := 7) (b := true) rfl rfl rfl) ((r_leqI (a := n) (b := (200 : Int)) rfl rfl).as (v' := .bool (false)) (by exact congrArg Value.bool (decide_eq_false (by omega)))) ?_
  refine sq (r_pickT (u := .bool (false)) rfl rfl) ?_
  refine sq (r_assign (v := .bool (false)) rfl) ?_
  refine wend ?_
  refine retAny ?_
  refine retG (rs := [.tmp 2]) (vs := [.bool (false)]) rfl ⟨⟨rfl, rfl⟩, trivial⟩ ?_
  exact ⟨_, rfl, rfl, H3.chg⟩
theorem small_no1 (n : Int) (gs : List Gt) (ol : List Int) (ga oa : Option Addr) (gc oc : Nat) (w : World) (h1 : ¬ gs.length ≤ 60) : Calls Tryd.prog 42 [.agg #[i64 (n), .slice ga gs.length gc, .slice oa ol.length oc]].toArray w (Ret fun v w' => v = .bool false ∧ Ext w w') := by
  have H := Hp.start No w
  refine enter (n := 12) Tryd.func42 rfl rfl (Nat.le_of_ble_eq_true rfl) ?_
  refine seqRegion ?_
  refine q_box (v := .agg #[i64 (n), .slice ga gs.length gc, .slice oa ol.length oc]) (o := .cells #[i64 (n), .slice ga gs.length gc, .slice oa ol.length oc] 70 (0, 0)) H rfl (by rfl) ?_
  intro b1 w2 hb1 H3 hE4
  refine sq (r_assign (v := .bool (false)) rfl) ?_
  refine wend ?_
  refine seqRegion ?_
  refine sq (r_fieldAddr (off' := 1) fld70_1 (by decide) (b := b1) (off := 0) rfl (by omega)) ?_
  refine sq (r_loadC (v := .slice ga gs.length gc) one68 (H3.get (k := 0) rfl) (off := 1) rfl (by rfl)) ?_
  refine sq (r_lenS sli68 (a := ga) (m := gs.length) (c := gc) rfl) ?_
  refine sq ((r_leqI (a := (gs.length : Nat)) (b := (60 : Int)) rfl rfl).as (v' := .bool (false)) (by exact congrArg Value.bool (decide_eq_false (by omega)))) ?_
  refine sq (r_move (v := .bool (false)) rfl) ?_
  refine skAny (wantedSome (d' := 7) (b := false) rfl rfl rfl) ?_
  refine skAny (wantedSome (d' := 7) (b := false) rfl rfl rfl) ?_
  refine skAny (wantedSome (d' := 7) (b := false) rfl rfl rfl) ?_
  refine sq (r_pickF (v := .bool (false)) rfl rfl) ?_
  refine sq (r_assign (v := .bool (false)) rfl) ?_
  refine wend ?_
  refine retAny ?_
  refine retG (rs := [.tmp 2]) (vs := [.bool (false)]) rfl ⟨⟨rfl, rfl⟩, trivial⟩ ?_
  exact ⟨_, rfl, rfl, H3.chg⟩
theorem zeros_ok (δ : Lb) (zs : List Lb) (za : Option Addr) (zc : Nat) (hzc : zs.length ≤ zc) (first : BitVec 64) (n : Int) (hn : n ≤ 200) (w : World) (hZ : Rd ELb w za zs) : Calls Tryd.prog 44 [.agg #[u64 (δ.1), u64 (δ.2), .slice za zs.length zc, u64 (first)], i64 (n)].toArray w (Ret fun v w' => SlRes ELb 38 (zerosS zs n.toNat) w v w' ∧ Ext w w') := by
  obtain ⟨m0, hm0⟩ : ∃ m, m = min zs.length n.toNat := ⟨_, rfl⟩
  obtain ⟨z0, hz0⟩ : ∃ l, l = zs.take m0 := ⟨_, rfl⟩
  have hzl : z0.length = m0 := by rw [hz0, List.length_take]; omega
  have H := Hp.start No w
  refine enter (n := 36) Tryd.func44 rfl rfl (Nat.le_of_ble_eq_true rfl) ?_
  refine seqRegion ?_
  refine q_box (v := .agg #[u64 (δ.1), u64 (δ.2), .slice za zs.length zc, u64 (first)]) (o := .cells #[u64 (δ.1), u64 (δ.2), .slice za zs.length zc, u64 (first)] 94 (0, 0)) H rfl (by rfl) ?_
  intro b1 w2 hb1 H3 hE4
  refine sq (r_assign (v := .slice none 0 0) rfl) ?_
  refine wend ?_
  refine seqRegion ?_
  refine q_buildSlice (E := ELb) (l := ([] : List (BitVec 64 × BitVec 64))) H3 sli92 zer38 (Nat.le_of_ble_eq_true rfl) (ps := []) rfl (by exact fillAll rfl rfl) rfl ?_
  intro b5 w7 hS6 H8 hE9
  refine sq (r_fieldAddr (off' := 2) fld94_1 (by decide) (b := b1) (off := 0) rfl (by omega)) ?_
  refine sq (r_loadC (v := .slice za zs.length zc) one92 (H8.get (k := 1) rfl) (off := 2) rfl (by rfl)) ?_
  refine sq (r_fieldAddr (off' := 2) fld94_1 (by decide) (b := b1) (off := 0) rfl (by omega)) ?_
  refine sq (r_loadC (v := .slice za zs.length zc) one92 (H8.get (k := 1) rfl) (off := 2) rfl (by rfl)) ?_
  refine sq (r_lenS sli92 (a := za) (m := zs.length) (c := zc) rfl) ?_
  refine sq (r_move (v := i64 (n)) rfl) ?_
  refine sq (r_maxI (a := n) (b := (0 : Int)) rfl rfl) ?_
  refine sq ((r_minI (a := (zs.length : Nat)) (b := max n (0 : Int)) rfl rfl).as (v' := i64 ((m0 : Nat))) (by exact congrArg i64 (by omega))) ?_
  refine sq ((r_sliceS (l := 0) (h := m0) sli92 rfl (.inr ⟨rfl, rfl⟩) (.inl ⟨_, _, _, rfl, rfl, by first | rfl | omega | (simp; omega)⟩) (by omega) (by omega)).as (v' := .slice (if zc = 0 then za else adr za (0 * 2)) m0 (zc - 0)) (by first | rfl | (congr 1; omega) | (simp; omega) | simp)) ?_
  refine q_append (E := ELb) (k := 0) (l := ([] : List (BitVec 64 × BitVec 64))) (l2 := (zs.drop 0).take (m0)) H8 rfl hS6 sli92 zer38 rfl byt38 (Rd.sub (hZ.ext H8.chg) 0 (m0) (m := zc) (fun e => by first | exact absurd e (by omega) | (rw [show m0 = 0 by omega]; rfl))) rfl (by rfl) rfl (by first | rfl | omega | (simp; omega) | (simp at *; omega)) (by omega) ?_
  intro key10 c11 sp12 w14 hS13 hne16 H15
  have H15' := H15.as (L' := [(key10, sob ELb 38 (([] : List (BitVec 64 × BitVec 64)) ++ ((zs.drop 0).take (m0))) sp12), (some b1, .cells #[u64 (δ.1), u64 (δ.2), .slice za zs.length zc, u64 (first)] 94 (0, 0))]) rfl
  clear H15
  have e17 : ([] : List (BitVec 64 × BitVec 64)) ++ ((zs.drop 0).take (m0)) = z0 := by rw [List.nil_append, List.drop_zero, hz0]
  have hS18 := hS13
  rw [e17] at hS18
  have H19 := H15'.as (L' := [(key10, sob ELb 38 z0 sp12), (some b1, .cells #[u64 (δ.1), u64 (δ.2), .slice za zs.length zc, u64 (first)] 94 (0, 0))]) (by rw [e17])
  refine sq (r_assign (v := .slice (ownA key10) (0 + m0) c11) rfl) ?_
  refine wend ?_
  refine seqAny ?_
  refine seqRegion ?_
  refine sq (r_move (v := .slice (ownA key10) (0 + m0) c11) rfl) ?_
  refine sq (r_lenS sli92 (a := ownA key10) (m := 0 + m0) (c := c11) rfl) ?_
  refine sq (r_assign (v := i64 ((0 + m0 : Nat))) rfl) ?_
  refine wend ?_
  refine blockAny ?_
  refine loopAny (σ := Nat × Option Nat × Nat × List Value) (fun (i, key, c, sp) => [(1, i64 (n)), (5, .slice (ownA key) (m0 + i) c), (6, i64 (((m0 + i) : Nat)))]) (fun (i, key, c, sp) w' => (i ≤ n.toNat - m0 ∧ Sl ELb key (zS z0 i) c sp) ∧ Hp No w w' [(key, sob ELb 38 (zS z0 i) sp)]) (fun (i, key, c, sp) => n.toNat - m0 - i) ((0, key10, c11, sp12)) ?_ ?_ ?_
  · exact ⟨rfl, congrArg (fun q => Value.slice _ q _) (by omega), congrArg i64 (by omega), trivial⟩
  · exact ⟨⟨Nat.zero_le _, hS18⟩, (H19.dropk 1)⟩
  rintro ⟨i, key, c, sp⟩ ρ w20 ⟨⟨hi, hS⟩, HL⟩
  have hwl := zS_len z0 i
  refine seqAny ?_
  refine seqRegion ?_
  refine sq (r_move (v := i64 (((m0 + i) : Nat))) rfl) ?_
  refine sq (r_move (v := i64 (n)) rfl) ?_
  refine sq (r_lssI (a := ((m0 + i) : Nat)) (b := n) rfl rfl) ?_
  refine wend ?_
  refine condProp ((((m0 + i) : Nat) : Int) < n) rfl (fun c22 => ?_) (fun c22 => ?_)
  · skip
    refine skipAny ?_
    refine thenNormal ?_
    refine seqAny ?_
    refine blockAny ?_
    refine oneRegion ?_
    refine sq (r_move (v := .slice (ownA key) (m0 + i) c) rfl) ?_
    refine sq (r_move (v := i64 (((m0 + i) : Nat))) rfl) ?_
    refine sq (r_Ito64 und3 und32 (a := ((m0 + i) : Nat)) rfl) ?_
    refine sq (r_mul64 (a := BitVec.ofInt 64 ((m0 + i) : Nat)) (b := 77#64) rfl rfl) ?_
    refine sq (r_move (v := i64 (((m0 + i) : Nat))) rfl) ?_
    refine sq (r_Ito64 und3 und32 (a := ((m0 + i) : Nat)) rfl) ?_
    refine sq (r_mul64 (a := BitVec.ofInt 64 ((m0 + i) : Nat)) (b := 1000003#64) rfl rfl) ?_
    refine sq (r_buildA (cs' := (cel E64 [(BitVec.ofInt 64 ((m0 + i) : Nat)) * (77#64), (BitVec.ofInt 64 ((m0 + i) : Nat)) * (1000003#64)]).toArray) (ps := [(0, u64 ((BitVec.ofInt 64 ((m0 + i) : Nat)) * (77#64))), (1, u64 ((BitVec.ofInt 64 ((m0 + i) : Nat)) * (1000003#64)))]) zer38 arr38 rfl (by rfl)) ?_
    refine q_buildSlice (E := ELb) (l := ([((BitVec.ofInt 64 ((m0 + i) : Nat)) * (77#64), (BitVec.ofInt 64 ((m0 + i) : Nat)) * (1000003#64))] : List (BitVec 64 × BitVec 64))) HL sli92 zer38 (Nat.le_of_ble_eq_true rfl) (ps := [(0, .agg (cel E64 [(BitVec.ofInt 64 ((m0 + i) : Nat)) * (77#64), (BitVec.ofInt 64 ((m0 + i) : Nat)) * (1000003#64)]).toArray)]) rfl (by exact fillAll rfl rfl) rfl ?_
    intro b22 w24 hS23 H25 hE26
    refine q_append (E := ELb) (k := 1) (l := zS z0 i) (l2 := ([((BitVec.ofInt 64 ((m0 + i) : Nat)) * (77#64), (BitVec.ofInt 64 ((m0 + i) : Nat)) * (1000003#64))] : List (BitVec 64 × BitVec 64))) H25 rfl hS sli92 zer38 rfl byt38 (H25.rd (k := 0) rfl hS23) rfl (by rw [zS_len, hzl]) rfl (by rfl) (by omega) ?_
    intro key27 c28 sp29 w31 hS30 hne33 H32
    have H32' := H32.as (L' := [((some b22), sob ELb 38 ([((BitVec.ofInt 64 ((m0 + i) : Nat)) * (77#64), (BitVec.ofInt 64 ((m0 + i) : Nat)) * (1000003#64))] : List (BitVec 64 × BitVec 64)) ([])), (key27, sob ELb 38 ((zS z0 i) ++ ([((BitVec.ofInt 64 ((m0 + i) : Nat)) * (77#64), (BitVec.ofInt 64 ((m0 + i) : Nat)) * (1000003#64))] : List (BitVec 64 × BitVec 64))) sp29)]) rfl
    clear H32
    have e34 : (zS z0 i) ++ ([((BitVec.ofInt 64 ((m0 + i) : Nat)) * (77#64), (BitVec.ofInt 64 ((m0 + i) : Nat)) * (1000003#64))] : List (BitVec 64 × BitVec 64)) = zS z0 (i + 1) := by rw [zS, zmk, hzl]
    have hS35 := hS30
    rw [e34] at hS35
    have H36 := H32'.as (L' := [((some b22), sob ELb 38 ([((BitVec.ofInt 64 ((m0 + i) : Nat)) * (77#64), (BitVec.ofInt 64 ((m0 + i) : Nat)) * (1000003#64))] : List (BitVec 64 × BitVec 64)) ([])), (key27, sob ELb 38 (zS z0 (i + 1)) sp29)]) (by rw [e34])
    refine sq (r_assign (v := .slice (ownA key27) ((m0 + i) + 1) c28) rfl) ?_
    refine wnil ?_
    refine blockNormal ?_
    refine thenNormal ?_
    refine oneRegion ?_
    refine sq (r_move (v := i64 (((m0 + i) : Nat))) rfl) ?_
    refine sq ((r_addI (a := ((m0 + i) : Nat)) (b := (1 : Int)) rfl rfl (by omega)).as (v' := i64 (((m0 + (i + 1)) : Nat))) (by exact congrArg i64 (by omega))) ?_
    refine sq (r_assign (v := i64 (((m0 + (i + 1)) : Nat))) rfl) ?_
    refine wnil ?_
    refine thenNormal ?_
    exact ⟨(i + 1, key27, c28, sp29), _, rfl, ⟨rfl, rfl, rfl, trivial⟩, ⟨⟨by omega, hS35⟩, (H36.dropk 0)⟩, by show n.toNat - m0 - (i + 1) < n.toNat - m0 - i; omega⟩
  · skip
    obtain rfl : i = n.toNat - m0 := by omega
    refine exitAny ?_
    refine thenExit ?_
    refine thenExit ?_
    refine blockHere ?_
    refine thenNormal ?_
    refine seqRegion ?_
    refine sq (r_move (v := .slice (ownA key) (m0 + (n.toNat - m0)) c) rfl) ?_
    refine sq (r_assign (v := .slice (ownA key) (m0 + (n.toNat - m0)) c) rfl) ?_
    refine wend ?_
    refine retAny ?_
    refine retG (rs := [.tmp 4]) (vs := [.slice (ownA key) (m0 + (n.toNat - m0)) c]) rfl ⟨⟨rfl, rfl⟩, trivial⟩ ?_
    rw [show zerosS zs n.toNat = zS z0 (n.toNat - m0) from by rw [zerosS, hz0, hm0]]
    exact ⟨_, rfl, HL.resN (k := 0) rfl hS (by rw [zS_len]; omega), HL.chg⟩
end Go.Proofs.YteofdmdpaejgaaaDoor.Gb
namespace Go.Proofs.YteofdmdpaejgaaaDoor.Gb
open Go Go.Proofs.YteofdmdpaejgaaaDoor.Vc Go.Proofs.YteofdmdpaejgaaaDoor.Er Go.Proofs.YteofdmdpaejgaaaDoor.Circ
set_option linter.unusedVariables false
theorem call24 : callable Tryd.prog 24 = true := by kernel_rfl
theorem call45 : callable Tryd.prog 45 = true := by kernel_rfl
theorem call46 : callable Tryd.prog 46 = true := by kernel_rfl
theorem call48 : callable Tryd.prog 48 = true := by kernel_rfl
theorem pls70 : pls Tryd.prog 70 = some #[(0, 1), (1, 1), (2, 1)] := by kernel_rfl
theorem pls99 : pls Tryd.prog 99 = some #[(0, 1), (1, 1), (2, 1)] := by kernel_rfl
theorem zer3 : zer Tryd.prog 3 = some (.int .i64 0) := by kernel_rfl
theorem zer70 : zer Tryd.prog 70 = some (.agg #[.int .i64 0, .slice none 0 0, .slice none 0 0]) := by kernel_rfl
set_option maxHeartbeats 1000000 in
theorem gawake_ok (w : World) (hG : Gl w) : Calls Tryd.prog 41 [].toArray w (Ret fun v w' => v = .bool true ∧ Ext w w') := by
  have H := Hp.start No w
  refine enter (n := 75) Tryd.func41 rfl rfl (Nat.le_of_ble_eq_true rfl) ?_
  refine seqRegion ?_
  refine sq (r_assign (v := .bool (false)) rfl) ?_
  refine wend ?_
  refine seqRegion ?_
  refine sq (r_build (cs' := #[i64 ((2 : Int)), i64 ((0 : Int)), i64 ((1 : Int))]) (ps := [(0, i64 ((2 : Int))), (1, i64 ((0 : Int))), (2, i64 ((1 : Int)))]) zer99 pls99 rfl (by rfl)) ?_
  refine q_buildSlice (E := EG) (l := ([⟨(2 : Int), (0 : Int), (1 : Int)⟩] : List Gt)) H sli68 zer99 (Nat.le_of_ble_eq_true rfl) (ps := [(0, .agg #[i64 ((2 : Int)), i64 ((0 : Int)), i64 ((1 : Int))])]) rfl (by exact fillAll rfl rfl) rfl ?_
  intro b1 w3 hS2 H4 hE5
  refine q_buildSlice (E := EI) (l := [(2 : Int)]) H4 sli60 zer3 (Nat.le_of_ble_eq_true rfl) (ps := [(0, i64 ((2 : Int)))]) rfl (by exact fillAll rfl rfl) rfl ?_
  intro b6 w8 hS7 H9 hE10
  refine sq (r_build (cs' := #[i64 ((2 : Int)), .slice (ownA (some b1)) 1 1, .slice (ownA (some b6)) 1 1]) (ps := [(0, i64 ((2 : Int))), (1, .slice (ownA (some b1)) 1 1), (2, .slice (ownA (some b6)) 1 1)]) zer70 pls70 rfl (by rfl)) ?_
  refine q_alloc (o := .cells #[i64 ((0 : Int)), .slice none 0 0, .slice none 0 0] 70 (0, 0)) H9 zer70 (by kernel_rfl) ?_
  intro b11 w12 hb11 H13 hE14
  refine d_store (k := 0) (v := .agg #[i64 ((2 : Int)), .slice (ownA (some b1)) 1 1, .slice (ownA (some b6)) 1 1]) (cs' := #[i64 ((2 : Int)), .slice (ownA (some b1)) 1 1, .slice (ownA (some b6)) 1 1]) H13 rfl rfl rfl siz70 (by rfl) (by intro u hu; simp [Value.cells] at hu; first | (subst hu; rfl) | (rcases hu with rfl | rfl | rfl <;> rfl)) (by exact Nat.le_of_ble_eq_true rfl) (by rfl) ?_
  intro w15 H16 hC17
  have H16' := H16.as (L' := [(some b11, .cells #[i64 ((2 : Int)), .slice (ownA (some b1)) 1 1, .slice (ownA (some b6)) 1 1] 70 (0, 0)), ((some b6), sob EI 3 ([(2 : Int)]) ([])), ((some b1), sob EG 99 ([⟨(2 : Int), (0 : Int), (1 : Int)⟩] : List Gt) ([]))]) rfl
  clear H16
  refine wend ?_
  refine seqRegion ?_
  refine sq (r_buildA (cs' := (cel E64 [1#64, 0#64]).toArray) (ps := [(0, u64 (1#64)), (1, u64 (0#64))]) zer38 arr38 rfl (by rfl)) ?_
  refine q_alloc (o := .cells (cel E64 ([0#64, 0#64])).toArray 38 (0, 0)) H16' zer38 (by kernel_rfl) ?_
  intro b18 w19 hb18 H20 hE21
  refine d_store (k := 0) (v := .agg (cel E64 [1#64, 0#64]).toArray) (cs' := (cel E64 ([1#64, 0#64])).toArray) H20 rfl rfl rfl siz38 (by exact celSize (by first | rfl | (show _ * 1 = _; omega))) (by exact celOne _) (by rw [List.size_toArray, cel_length]; show _ ≤ _ * 1; first | omega | (simp only [List.length_set]; omega) | exact Nat.le_of_ble_eq_true rfl | (simp <;> omega)) (by exact putAll (by first | rfl | omega | (simp <;> omega))) ?_
  intro w22 H23 hC24
  have H23' := H23.as (L' := [(some b18, .cells (cel E64 ([1#64, 0#64])).toArray 38 (0, 0)), (some b11, .cells #[i64 ((2 : Int)), .slice (ownA (some b1)) 1 1, .slice (ownA (some b6)) 1 1] 70 (0, 0)), ((some b6), sob EI 3 ([(2 : Int)]) ([])), ((some b1), sob EG 99 ([⟨(2 : Int), (0 : Int), (1 : Int)⟩] : List Gt) ([]))]) rfl
  clear H23
  refine wend ?_
  refine seqAny ?_
  refine drawC (m := 11) [0, 0, 0, 7, 15, 31, 31, 31, 63, 383, 1023] [2, 3] (fun q vs w' => match q, vs with | 0, [] => Ext w22 w' ∧ Hp No w w' [(some b18, .cells (cel E64 ([1#64, 0#64])).toArray 38 (0, 0)), (some b11, .cells #[i64 ((2 : Int)), .slice (ownA (some b1)) 1 1, .slice (ownA (some b6)) 1 1] 70 (0, 0)), ((some b6), sob EI 3 ([(2 : Int)]) ([])), ((some b1), sob EG 99 ([⟨(2 : Int), (0 : Int), (1 : Int)⟩] : List Gt) ([]))] | 1, [v0] => ∃ (b28 : Nat), v0 = .slice (ownA (some b28)) 2 2 ∧ Sl ELb (some b28) (List.replicate 2 lb0) 2 (cel ELb (List.replicate (2 - 2) lb0)) ∧ Ext w22 w' ∧ Hp No w w' [((some b28), sob ELb 38 (List.replicate 2 lb0) (cel ELb (List.replicate (2 - 2) lb0))), (some b18, .cells (cel E64 ([1#64, 0#64])).toArray 38 (0, 0)), (some b11, .cells #[i64 ((2 : Int)), .slice (ownA (some b1)) 1 1, .slice (ownA (some b6)) 1 1] 70 (0, 0)), ((some b6), sob EI 3 ([(2 : Int)]) ([])), ((some b1), sob EG 99 ([⟨(2 : Int), (0 : Int), (1 : Int)⟩] : List Gt) ([]))] | 2, [v0, v1] => ∃ (b28 : Nat) (k38 : Option Nat) (c39 : Nat) (z40 : List Value) (k41 : Option Nat) (c42 : Nat) (z43 : List Value), v0 = .slice (ownA (some b28)) 2 2 ∧ v1 = .tuple #[.slice (ownA k38) (((gS lhash (1#64, 0#64) (0#64) ([⟨(2 : Int), (0 : Int), (1 : Int)⟩] : List Gt) (List.replicate 2 lb0) 1).2).length) c39, .slice (ownA k41) ((oL (gS lhash (1#64, 0#64) (0#64) ([⟨(2 : Int), (0 : Int), (1 : Int)⟩] : List Gt) (List.replicate 2 lb0) 1).1 ([(2 : Int)]) 1).length) c42, .nilIface] ∧ Sl ELb k38 ((gS lhash (1#64, 0#64) (0#64) ([⟨(2 : Int), (0 : Int), (1 : Int)⟩] : List Gt) (List.replicate 2 lb0) 1).2) c39 z40 ∧ Sl ELb k41 (oL (gS lhash (1#64, 0#64) (0#64) ([⟨(2 : Int), (0 : Int), (1 : Int)⟩] : List Gt) (List.replicate 2 lb0) 1).1 ([(2 : Int)]) 1) c42 z43 ∧ Sl ELb (some b28) (List.replicate 2 lb0) 2 (cel ELb (List.replicate (2 - 2) lb0)) ∧ Ext w22 w' ∧ Hp No w w' [(k38, sob ELb 38 ((gS lhash (1#64, 0#64) (0#64) ([⟨(2 : Int), (0 : Int), (1 : Int)⟩] : List Gt) (List.replicate 2 lb0) 1).2) z40), (k41, sob ELb 38 (oL (gS lhash (1#64, 0#64) (0#64) ([⟨(2 : Int), (0 : Int), (1 : Int)⟩] : List Gt) (List.replicate 2 lb0) 1).1 ([(2 : Int)]) 1) z43), ((some b28), sob ELb 38 (List.replicate 2 lb0) (cel ELb (List.replicate (2 - 2) lb0))), (some b18, .cells (cel E64 ([1#64, 0#64])).toArray 38 (0, 0)), (some b11, .cells #[i64 ((2 : Int)), .slice (ownA (some b1)) 1 1, .slice (ownA (some b6)) 1 1] 70 (0, 0)), ((some b6), sob EI 3 ([(2 : Int)]) ([])), ((some b1), sob EG 99 ([⟨(2 : Int), (0 : Int), (1 : Int)⟩] : List Gt) ([]))] | _, _ => False) mixed (by kernel_rfl) (by kernel_rfl) ⟨Ext.drew _, H23'.drew⟩ ?_
  refine WalkC.look rfl (fun _ => .agg #[i64 ((2 : Int)), .slice (ownA (some b1)) 1 1, .slice (ownA (some b6)) 1 1]) (fun _ _ _ => rfl) (fun q r uw hlo hhi hle hF => ?_) ?_
  · skip
    have h1 : 0 ≤ q := Nat.zero_le _
    have h2 : q ≤ 1 := hhi 1 3 rfl rfl
    rcases (show q = 0 ∨ q = 1 by omega) with rfl | rfl
    · skip
      obtain ⟨hX, HH⟩ := hF
      exact Gives.run rfl (r_loadA (cs' := #[i64 ((2 : Int)), .slice (ownA (some b1)) 1 1, .slice (ownA (some b6)) 1 1]) agg70 siz70 (HH.get (k := 1) rfl) (off := 0) rfl (by exact Nat.le_of_ble_eq_true rfl) (by rfl)) ⟨rfl, rfl⟩
    · skip
      obtain ⟨b28, e2, hS29, hX, HH⟩ := hF
      exact Gives.run rfl (r_loadA (cs' := #[i64 ((2 : Int)), .slice (ownA (some b1)) 1 1, .slice (ownA (some b6)) 1 1]) agg70 siz70 (HH.get (k := 2) rfl) (off := 0) rfl (by exact Nat.le_of_ble_eq_true rfl) (by rfl)) ⟨rfl, rfl⟩
  refine WalkC.look rfl (fun _ => .agg (cel E64 ([1#64, 0#64])).toArray) (fun _ _ _ => rfl) (fun q r uw hlo hhi hle hF => ?_) ?_
  · skip
    have h1 : 0 ≤ q := Nat.zero_le _
    have h2 : q ≤ 1 := hhi 1 3 rfl rfl
    rcases (show q = 0 ∨ q = 1 by omega) with rfl | rfl
    · skip
      obtain ⟨hX, HH⟩ := hF
      exact Gives.run rfl (r_loadA (cs' := (cel E64 ([1#64, 0#64])).toArray) agg38 siz38 (HH.get (k := 0) rfl) (off := 0) rfl (by exact Nat.le_of_ble_eq_true rfl) (by exact ext_all rfl)) ⟨rfl, rfl⟩
    · skip
      obtain ⟨b28, e2, hS29, hX, HH⟩ := hF
      exact Gives.run rfl (r_loadA (cs' := (cel E64 ([1#64, 0#64])).toArray) agg38 siz38 (HH.get (k := 1) rfl) (off := 0) rfl (by exact Nat.le_of_ble_eq_true rfl) (by exact ext_all rfl)) ⟨rfl, rfl⟩
  refine WalkC.eff 0 rfl (fun r uw25 hF27 => ?_) ?_
  · skip
    obtain ⟨hX, H26⟩ := hF27
    dsimp only [List.take, List.map, List.cons_append, List.nil_append]
    refine Gives.ofW (d := 19) rfl rfl (fun Q' hK => ?_)
    refine q_makeSlice (E := ELb) (m := 2) (c := 2) (z0 := lb0) H26 sli92 zer38 rfl byt38 rfl rfl (by first | rfl | omega | (simp; omega)) (by first | rfl | omega | (simp; omega)) (by omega) (by omega) ?_
    intro b28 w30 hS29 H31 hE32
    exact hK _ _ ⟨b28, rfl, hS29, (hX.trans hE32), H31⟩
  refine WalkC.eff 1 rfl (fun r uw33 hF35 => ?_) ?_
  · skip
    obtain ⟨b28, e2, hS29, hX, H34⟩ := hF35
    dsimp only [List.take, List.map, List.cons_append, List.nil_append]
    rw [e2]
    refine Gives.ofW (d := 20) rfl rfl (fun Q' hK => ?_)
    refine c_call (vs := [.agg #[i64 ((2 : Int)), .slice (ownA (some b1)) 1 1, .slice (ownA (some b6)) 1 1], .agg (cel E64 ([1#64, 0#64])).toArray, .slice (ownA (some b28)) 2 2, u64 (0#64)]) call45 rfl (garble_ok (2 : Int) ([⟨(2 : Int), (0 : Int), (1 : Int)⟩] : List Gt) ([(2 : Int)]) (ownA (some b1)) (ownA (some b6)) 1 1 (1#64, 0#64) (List.replicate 2 lb0) (ownA (some b28)) 2 (0#64) uw33 (Chg.gl H34.chg (fun x => x) hG) (H34.rd (k := 4) rfl hS2) (H34.rd (k := 3) rfl hS7) (by first | omega | exact Nat.le_of_ble_eq_true rfl) (by first | omega | exact Nat.le_of_ble_eq_true rfl) (H34.rd (k := 0) rfl hS29) aw_is rfl rfl) ?_
    rintro _ w36 ⟨k38, c39, z40, k41, c42, z43, rfl, hS44, hS45, HN46⟩
    have H47 := (H34.join HN46).as (L' := [(k38, sob ELb 38 ((gS lhash (1#64, 0#64) (0#64) ([⟨(2 : Int), (0 : Int), (1 : Int)⟩] : List Gt) (List.replicate 2 lb0) 1).2) z40), (k41, sob ELb 38 (oL (gS lhash (1#64, 0#64) (0#64) ([⟨(2 : Int), (0 : Int), (1 : Int)⟩] : List Gt) (List.replicate 2 lb0) 1).1 ([(2 : Int)]) 1) z43), ((some b28), sob ELb 38 (List.replicate 2 lb0) (cel ELb (List.replicate (2 - 2) lb0))), (some b18, .cells (cel E64 ([1#64, 0#64])).toArray 38 (0, 0)), (some b11, .cells #[i64 ((2 : Int)), .slice (ownA (some b1)) 1 1, .slice (ownA (some b6)) 1 1] 70 (0, 0)), ((some b6), sob EI 3 ([(2 : Int)]) ([])), ((some b1), sob EG 99 ([⟨(2 : Int), (0 : Int), (1 : Int)⟩] : List Gt) ([]))]) rfl
    exact hK _ _ ⟨b28, k38, c39, z40, k41, c42, z43, rfl, rfl, hS44, hS45, hS29, (hX.trans HN46.chg), H47⟩
  refine WalkC.look rfl (fun r => r 3) (fun r r' h => h 3 (by decide) rfl) (fun q r uw _ _ _ _ => Gives.run rfl (r_move rfl) ⟨rfl, rfl⟩) ?_
  refine WalkC.look rfl (fun r => proj (r 3) 0) (fun r r' h => by rw [h 3 (by decide) rfl]) (fun q r uw hlo hhi hle hF => ?_) ?_
  · skip
    have h1 : 2 ≤ q := hlo 1 3 rfl rfl
    have h2 : q ≤ 2 := hle
    rcases (show q = 2 by omega) with rfl
    · skip
      obtain ⟨b28, k38, c39, z40, k41, c42, z43, e2, e3, hS44, hS45, hS29, hX, HH⟩ := hF
      dsimp only
      rw [e3]
      exact Gives.run rfl (r_extract (vs := #[.slice (ownA k38) (((gS lhash (1#64, 0#64) (0#64) ([⟨(2 : Int), (0 : Int), (1 : Int)⟩] : List Gt) (List.replicate 2 lb0) 1).2).length) c39, .slice (ownA k41) ((oL (gS lhash (1#64, 0#64) (0#64) ([⟨(2 : Int), (0 : Int), (1 : Int)⟩] : List Gt) (List.replicate 2 lb0) 1).1 ([(2 : Int)]) 1).length) c42, .nilIface]) rfl rfl) ⟨rfl, rfl⟩
  refine WalkC.look rfl (fun r => proj (r 3) 1) (fun r r' h => by rw [h 3 (by decide) rfl]) (fun q r uw hlo hhi hle hF => ?_) ?_
  · skip
    have h1 : 2 ≤ q := hlo 1 3 rfl rfl
    have h2 : q ≤ 2 := hle
    rcases (show q = 2 by omega) with rfl
    · skip
      obtain ⟨b28, k38, c39, z40, k41, c42, z43, e2, e3, hS44, hS45, hS29, hX, HH⟩ := hF
      dsimp only
      rw [e3]
      exact Gives.run rfl (r_extract (vs := #[.slice (ownA k38) (((gS lhash (1#64, 0#64) (0#64) ([⟨(2 : Int), (0 : Int), (1 : Int)⟩] : List Gt) (List.replicate 2 lb0) 1).2).length) c39, .slice (ownA k41) ((oL (gS lhash (1#64, 0#64) (0#64) ([⟨(2 : Int), (0 : Int), (1 : Int)⟩] : List Gt) (List.replicate 2 lb0) 1).1 ([(2 : Int)]) 1).length) c42, .nilIface]) rfl rfl) ⟨rfl, rfl⟩
  refine WalkC.look rfl (fun r => proj (r 3) 2) (fun r r' h => by rw [h 3 (by decide) rfl]) (fun q r uw hlo hhi hle hF => ?_) ?_
  · skip
    have h1 : 2 ≤ q := hlo 1 3 rfl rfl
    have h2 : q ≤ 2 := hle
    rcases (show q = 2 by omega) with rfl
    · skip
      obtain ⟨b28, k38, c39, z40, k41, c42, z43, e2, e3, hS44, hS45, hS29, hX, HH⟩ := hF
      dsimp only
      rw [e3]
      exact Gives.run rfl (r_extract (vs := #[.slice (ownA k38) (((gS lhash (1#64, 0#64) (0#64) ([⟨(2 : Int), (0 : Int), (1 : Int)⟩] : List Gt) (List.replicate 2 lb0) 1).2).length) c39, .slice (ownA k41) ((oL (gS lhash (1#64, 0#64) (0#64) ([⟨(2 : Int), (0 : Int), (1 : Int)⟩] : List Gt) (List.replicate 2 lb0) 1).1 ([(2 : Int)]) 1).length) c42, .nilIface]) rfl rfl) ⟨rfl, rfl⟩
  refine WalkC.look rfl (fun r => proj (r 3) 0) (fun r r' h => by rw [h 3 (by decide) rfl]) (fun q r uw _ _ _ _ => Gives.run rfl (r_assign rfl) ⟨rfl, rfl⟩) ?_
  refine WalkC.look rfl (fun r => proj (r 3) 1) (fun r r' h => by rw [h 3 (by decide) rfl]) (fun q r uw _ _ _ _ => Gives.run rfl (r_assign rfl) ⟨rfl, rfl⟩) ?_
  refine WalkC.look rfl (fun r => proj (r 3) 2) (fun r r' h => by rw [h 3 (by decide) rfl]) (fun q r uw _ _ _ _ => Gives.run rfl (r_assign rfl) ⟨rfl, rfl⟩) ?_
  refine WalkC.nil ?_
  intro r48 w49 hF51
  obtain ⟨b28, k38, c39, z40, k41, c42, z43, e2, e3, hS44, hS45, hS29, hX, H50⟩ := hF51
  dsimp only
  rw [e2, e3]
  refine wnil ?_
  refine thenNormal ?_
  refine seqAny ?_
  refine seqRegion ?_
  refine sq (r_move (v := .nilIface) rfl) ?_
  refine sq (r_neqNN isI27 rfl rfl) ?_
  refine sq (r_move (v := .bool (false)) rfl) ?_
  refine sqAny (v := .slice (ownA k38) (((gS lhash (1#64, 0#64) (0#64) ([⟨(2 : Int), (0 : Int), (1 : Int)⟩] : List Gt) (List.replicate 2 lb0) 1).2).length) c39) (w' := w49) (wantedSome (d' := 26) (b := false) rfl rfl rfl) (r_move (v := .slice (ownA k38) (((gS lhash (1#64, 0#64) (0#64) ([⟨(2 : Int), (0 : Int), (1 : Int)⟩] : List Gt) (List.replicate 2 lb0) 1).2).length) c39) rfl) ?_
  refine sqAny (v := i64 ((((gS lhash (1#64, 0#64) (0#64) ([⟨(2 : Int), (0 : Int), (1 : Int)⟩] : List Gt) (List.replicate 2 lb0) 1).2).length : Nat))) (w' := w49) (wantedSome (d' := 26) (b := false) rfl rfl rfl) (r_lenS sli92 (a := ownA k38) (m := ((gS lhash (1#64, 0#64) (0#64) ([⟨(2 : Int), (0 : Int), (1 : Int)⟩] : List Gt) (List.replicate 2 lb0) 1).2).length) (c := c39) rfl) ?_
  refine sqAny (v := .bool (false)) (w' := w49) (wantedSome (d' := 26) (b := false) rfl rfl rfl) ((r_neqI (a := (((gS lhash (1#64, 0#64) (0#64) ([⟨(2 : Int), (0 : Int), (1 : Int)⟩] : List Gt) (List.replicate 2 lb0) 1).2).length : Nat)) (b := (2 : Int)) rfl rfl).as (v' := .bool (false)) (by rfl)) ?_
  refine sq (r_pickF (v := .bool (false)) rfl rfl) ?_
  refine sq (r_move (v := .bool (false)) rfl) ?_
  refine sqAny (v := .slice (ownA k41) ((oL (gS lhash (1#64, 0#64) (0#64) ([⟨(2 : Int), (0 : Int), (1 : Int)⟩] : List Gt) (List.replicate 2 lb0) 1).1 ([(2 : Int)]) 1).length) c42) (w' := w49) (wantedSome (d' := 31) (b := false) rfl rfl rfl) (r_move (v := .slice (ownA k41) ((oL (gS lhash (1#64, 0#64) (0#64) ([⟨(2 : Int), (0 : Int), (1 : Int)⟩] : List Gt) (List.replicate 2 lb0) 1).1 ([(2 : Int)]) 1).length) c42) rfl) ?_
  refine sqAny (v := i64 (((oL (gS lhash (1#64, 0#64) (0#64) ([⟨(2 : Int), (0 : Int), (1 : Int)⟩] : List Gt) (List.replicate 2 lb0) 1).1 ([(2 : Int)]) 1).length : Nat))) (w' := w49) (wantedSome (d' := 31) (b := false) rfl rfl rfl) (r_lenS sli92 (a := ownA k41) (m := (oL (gS lhash (1#64, 0#64) (0#64) ([⟨(2 : Int), (0 : Int), (1 : Int)⟩] : List Gt) (List.replicate 2 lb0) 1).1 ([(2 : Int)]) 1).length) (c := c42) rfl) ?_
  refine sqAny (v := .bool (false)) (w' := w49) (wantedSome (d' := 31) (b := false) rfl rfl rfl) ((r_neqI (a := ((oL (gS lhash (1#64, 0#64) (0#64) ([⟨(2 : Int), (0 : Int), (1 : Int)⟩] : List Gt) (List.replicate 2 lb0) 1).1 ([(2 : Int)]) 1).length : Nat)) (b := (1 : Int)) rfl rfl).as (v' := .bool (false)) (by rfl)) ?_
  refine sq (r_pickF (v := .bool (false)) rfl rfl) ?_
  refine wend ?_
  refine condFalse rfl ?_
  refine skipAny ?_
  refine thenNormal ?_
  refine seqRegion ?_
  refine sq (r_loadA (cs' := #[i64 ((2 : Int)), .slice (ownA (some b1)) 1 1, .slice (ownA (some b6)) 1 1]) agg70 siz70 (H50.get (k := 4) rfl) (off := 0) rfl (by exact Nat.le_of_ble_eq_true rfl) (by rfl)) ?_
  refine sq (r_loadA (cs' := (cel E64 ([1#64, 0#64])).toArray) agg38 siz38 (H50.get (k := 3) rfl) (off := 0) rfl (by exact Nat.le_of_ble_eq_true rfl) (by exact ext_all rfl)) ?_
  refine sq (r_loadA (cs' := (cel E64 ([1#64, 0#64])).toArray) agg38 siz38 (H50.get (k := 3) rfl) (off := 0) rfl (by exact Nat.le_of_ble_eq_true rfl) (by exact ext_all rfl)) ?_
  refine q_buildSlice (E := ELb) (l := ([(1#64, 0#64), (1#64, 0#64)] : List (BitVec 64 × BitVec 64))) H50 sli92 zer38 (Nat.le_of_ble_eq_true rfl) (ps := [(0, .agg (cel E64 ([1#64, 0#64])).toArray), (1, .agg (cel E64 ([1#64, 0#64])).toArray)]) rfl (by exact fillAll rfl rfl) rfl ?_
  intro b52 w54 hS53 H55 hE56
  refine sq (r_move (v := .slice (ownA k38) (((gS lhash (1#64, 0#64) (0#64) ([⟨(2 : Int), (0 : Int), (1 : Int)⟩] : List Gt) (List.replicate 2 lb0) 1).2).length) c39) rfl) ?_
  refine c_call (vs := [.agg #[i64 ((2 : Int)), .slice (ownA (some b1)) 1 1, .slice (ownA (some b6)) 1 1], .slice (ownA (some b52)) 2 2, .slice (ownA k38) (((gS lhash (1#64, 0#64) (0#64) ([⟨(2 : Int), (0 : Int), (1 : Int)⟩] : List Gt) (List.replicate 2 lb0) 1).2).length) c39, u64 (0#64)]) call46 rfl (eval_ok (2 : Int) ([⟨(2 : Int), (0 : Int), (1 : Int)⟩] : List Gt) ([(2 : Int)]) (ownA (some b1)) (ownA (some b6)) 1 1 ([(1#64, 0#64), (1#64, 0#64)] : List (BitVec 64 × BitVec 64)) ((gS lhash (1#64, 0#64) (0#64) ([⟨(2 : Int), (0 : Int), (1 : Int)⟩] : List Gt) (List.replicate 2 lb0) 1).2) (ownA (some b52)) (ownA k38) 2 c39 (0#64) w54 (Chg.gl H55.chg (fun x => x) hG) (H55.rd (k := 7) rfl hS2) (H55.rd (k := 6) rfl hS7) (by first | omega | exact Nat.le_of_ble_eq_true rfl) (by first | omega | exact Nat.le_of_ble_eq_true rfl) (H55.rd (k := 0) rfl hS53) (H55.rd (k := 1) rfl hS44) aw_is rfl rfl) ?_
  rintro _ w57 ⟨k59, c60, z61, rfl, hS62, HN63⟩
  have H64 := (H55.join HN63).as (L' := [(k59, sob ELb 38 (oL (eS lhash (0#64) ([⟨(2 : Int), (0 : Int), (1 : Int)⟩] : List Gt) ((gS lhash (1#64, 0#64) (0#64) ([⟨(2 : Int), (0 : Int), (1 : Int)⟩] : List Gt) (List.replicate 2 lb0) 1).2) ([(1#64, 0#64), (1#64, 0#64)] : List (BitVec 64 × BitVec 64)) 1).1 ([(2 : Int)]) 1) z61), ((some b52), sob ELb 38 ([(1#64, 0#64), (1#64, 0#64)] : List (BitVec 64 × BitVec 64)) ([])), (k38, sob ELb 38 ((gS lhash (1#64, 0#64) (0#64) ([⟨(2 : Int), (0 : Int), (1 : Int)⟩] : List Gt) (List.replicate 2 lb0) 1).2) z40), (k41, sob ELb 38 (oL (gS lhash (1#64, 0#64) (0#64) ([⟨(2 : Int), (0 : Int), (1 : Int)⟩] : List Gt) (List.replicate 2 lb0) 1).1 ([(2 : Int)]) 1) z43), ((some b28), sob ELb 38 (List.replicate 2 lb0) (cel ELb (List.replicate (2 - 2) lb0))), (some b18, .cells (cel E64 ([1#64, 0#64])).toArray 38 (0, 0)), (some b11, .cells #[i64 ((2 : Int)), .slice (ownA (some b1)) 1 1, .slice (ownA (some b6)) 1 1] 70 (0, 0)), ((some b6), sob EI 3 ([(2 : Int)]) ([])), ((some b1), sob EG 99 ([⟨(2 : Int), (0 : Int), (1 : Int)⟩] : List Gt) ([]))]) rfl
  refine sq (r_move (v := .tuple #[.slice (ownA k59) 1 c60, .nilIface]) rfl) ?_
  refine sq (r_extract (vs := #[.slice (ownA k59) 1 c60, .nilIface]) rfl rfl) ?_
  refine sq (r_extract (vs := #[.slice (ownA k59) 1 c60, .nilIface]) rfl rfl) ?_
  refine sq (r_assign (v := .slice (ownA k59) 1 c60) rfl) ?_
  refine sq (r_assign (v := .nilIface) rfl) ?_
  refine wend ?_
  refine seqAny ?_
  refine drawC (m := 11) [0, 0, 0, 7, 15, 31, 31, 31, 63, 383, 1023] [2, 3] (fun q vs w' => match q, vs with | 0, [] => Ext w57 w' ∧ Hp No w w' [(k59, sob ELb 38 (oL (eS lhash (0#64) ([⟨(2 : Int), (0 : Int), (1 : Int)⟩] : List Gt) ((gS lhash (1#64, 0#64) (0#64) ([⟨(2 : Int), (0 : Int), (1 : Int)⟩] : List Gt) (List.replicate 2 lb0) 1).2) ([(1#64, 0#64), (1#64, 0#64)] : List (BitVec 64 × BitVec 64)) 1).1 ([(2 : Int)]) 1) z61), ((some b52), sob ELb 38 ([(1#64, 0#64), (1#64, 0#64)] : List (BitVec 64 × BitVec 64)) ([])), (k38, sob ELb 38 ((gS lhash (1#64, 0#64) (0#64) ([⟨(2 : Int), (0 : Int), (1 : Int)⟩] : List Gt) (List.replicate 2 lb0) 1).2) z40), (k41, sob ELb 38 (oL (gS lhash (1#64, 0#64) (0#64) ([⟨(2 : Int), (0 : Int), (1 : Int)⟩] : List Gt) (List.replicate 2 lb0) 1).1 ([(2 : Int)]) 1) z43), ((some b28), sob ELb 38 (List.replicate 2 lb0) (cel ELb (List.replicate (2 - 2) lb0))), (some b18, .cells (cel E64 ([1#64, 0#64])).toArray 38 (0, 0)), (some b11, .cells #[i64 ((2 : Int)), .slice (ownA (some b1)) 1 1, .slice (ownA (some b6)) 1 1] 70 (0, 0)), ((some b6), sob EI 3 ([(2 : Int)]) ([])), ((some b1), sob EG 99 ([⟨(2 : Int), (0 : Int), (1 : Int)⟩] : List Gt) ([]))] | 1, [v0] => ∃ (b68 : Nat), v0 = .slice (ownA (some b68)) 2 2 ∧ Sl ELb (some b68) (List.replicate 2 lb0) 2 (cel ELb (List.replicate (2 - 2) lb0)) ∧ Ext w57 w' ∧ Hp No w w' [((some b68), sob ELb 38 (List.replicate 2 lb0) (cel ELb (List.replicate (2 - 2) lb0))), (k59, sob ELb 38 (oL (eS lhash (0#64) ([⟨(2 : Int), (0 : Int), (1 : Int)⟩] : List Gt) ((gS lhash (1#64, 0#64) (0#64) ([⟨(2 : Int), (0 : Int), (1 : Int)⟩] : List Gt) (List.replicate 2 lb0) 1).2) ([(1#64, 0#64), (1#64, 0#64)] : List (BitVec 64 × BitVec 64)) 1).1 ([(2 : Int)]) 1) z61), ((some b52), sob ELb 38 ([(1#64, 0#64), (1#64, 0#64)] : List (BitVec 64 × BitVec 64)) ([])), (k38, sob ELb 38 ((gS lhash (1#64, 0#64) (0#64) ([⟨(2 : Int), (0 : Int), (1 : Int)⟩] : List Gt) (List.replicate 2 lb0) 1).2) z40), (k41, sob ELb 38 (oL (gS lhash (1#64, 0#64) (0#64) ([⟨(2 : Int), (0 : Int), (1 : Int)⟩] : List Gt) (List.replicate 2 lb0) 1).1 ([(2 : Int)]) 1) z43), ((some b28), sob ELb 38 (List.replicate 2 lb0) (cel ELb (List.replicate (2 - 2) lb0))), (some b18, .cells (cel E64 ([1#64, 0#64])).toArray 38 (0, 0)), (some b11, .cells #[i64 ((2 : Int)), .slice (ownA (some b1)) 1 1, .slice (ownA (some b6)) 1 1] 70 (0, 0)), ((some b6), sob EI 3 ([(2 : Int)]) ([])), ((some b1), sob EG 99 ([⟨(2 : Int), (0 : Int), (1 : Int)⟩] : List Gt) ([]))] | 2, [v0, v1] => ∃ (b68 : Nat) (lo84 : Nat) (T82 : TypeId) (x83 : Value), v0 = .slice (ownA (some b68)) 2 2 ∧ v1 = .tuple #[.slice none 0 0, .slice none 0 0, .iface T82 (x83)] ∧ Sl ELb (some b68) (List.replicate 2 lb0) 2 (cel ELb (List.replicate (2 - 2) lb0)) ∧ Er lo84 w' 100 1 (.iface T82 x83) ∧ b18 < lo84 ∧ b11 < lo84 ∧ Ext w57 w' ∧ Hp No w w' [((some b68), sob ELb 38 (List.replicate 2 lb0) (cel ELb (List.replicate (2 - 2) lb0))), (k59, sob ELb 38 (oL (eS lhash (0#64) ([⟨(2 : Int), (0 : Int), (1 : Int)⟩] : List Gt) ((gS lhash (1#64, 0#64) (0#64) ([⟨(2 : Int), (0 : Int), (1 : Int)⟩] : List Gt) (List.replicate 2 lb0) 1).2) ([(1#64, 0#64), (1#64, 0#64)] : List (BitVec 64 × BitVec 64)) 1).1 ([(2 : Int)]) 1) z61), ((some b52), sob ELb 38 ([(1#64, 0#64), (1#64, 0#64)] : List (BitVec 64 × BitVec 64)) ([])), (k38, sob ELb 38 ((gS lhash (1#64, 0#64) (0#64) ([⟨(2 : Int), (0 : Int), (1 : Int)⟩] : List Gt) (List.replicate 2 lb0) 1).2) z40), (k41, sob ELb 38 (oL (gS lhash (1#64, 0#64) (0#64) ([⟨(2 : Int), (0 : Int), (1 : Int)⟩] : List Gt) (List.replicate 2 lb0) 1).1 ([(2 : Int)]) 1) z43), ((some b28), sob ELb 38 (List.replicate 2 lb0) (cel ELb (List.replicate (2 - 2) lb0))), (some b18, .cells (cel E64 ([1#64, 0#64])).toArray 38 (0, 0)), (some b11, .cells #[i64 ((2 : Int)), .slice (ownA (some b1)) 1 1, .slice (ownA (some b6)) 1 1] 70 (0, 0)), ((some b6), sob EI 3 ([(2 : Int)]) ([])), ((some b1), sob EG 99 ([⟨(2 : Int), (0 : Int), (1 : Int)⟩] : List Gt) ([]))] | _, _ => False) mixed (by kernel_rfl) (by kernel_rfl) ⟨Ext.drew _, H64.drew⟩ ?_
  refine WalkC.look rfl (fun _ => .agg #[i64 ((2 : Int)), .slice (ownA (some b1)) 1 1, .slice (ownA (some b6)) 1 1]) (fun _ _ _ => rfl) (fun q r uw hlo hhi hle hF => ?_) ?_
  · skip
    have h1 : 0 ≤ q := Nat.zero_le _
    have h2 : q ≤ 1 := hhi 1 3 rfl rfl
    rcases (show q = 0 ∨ q = 1 by omega) with rfl | rfl
    · skip
      obtain ⟨hX, HH⟩ := hF
      exact Gives.run rfl (r_loadA (cs' := #[i64 ((2 : Int)), .slice (ownA (some b1)) 1 1, .slice (ownA (some b6)) 1 1]) agg70 siz70 (HH.get (k := 6) rfl) (off := 0) rfl (by exact Nat.le_of_ble_eq_true rfl) (by rfl)) ⟨rfl, rfl⟩
    · skip
      obtain ⟨b68, e2, hS69, hX, HH⟩ := hF
      exact Gives.run rfl (r_loadA (cs' := #[i64 ((2 : Int)), .slice (ownA (some b1)) 1 1, .slice (ownA (some b6)) 1 1]) agg70 siz70 (HH.get (k := 7) rfl) (off := 0) rfl (by exact Nat.le_of_ble_eq_true rfl) (by rfl)) ⟨rfl, rfl⟩
  refine WalkC.look rfl (fun _ => .agg (cel E64 [2#64, 0#64]).toArray) (fun _ _ _ => rfl) (fun q r uw _ _ _ _ => Gives.run rfl (r_buildA (cs' := (cel E64 [2#64, 0#64]).toArray) (ps := [(0, u64 (2#64)), (1, u64 (0#64))]) zer38 arr38 rfl (by rfl)) ⟨rfl, rfl⟩) ?_
  refine WalkC.eff 0 rfl (fun r uw65 hF67 => ?_) ?_
  · skip
    obtain ⟨hX, H66⟩ := hF67
    dsimp only [List.take, List.map, List.cons_append, List.nil_append]
    refine Gives.ofW (d := 48) rfl rfl (fun Q' hK => ?_)
    refine q_makeSlice (E := ELb) (m := 2) (c := 2) (z0 := lb0) H66 sli92 zer38 rfl byt38 rfl rfl (by first | rfl | omega | (simp; omega)) (by first | rfl | omega | (simp; omega)) (by omega) (by omega) ?_
    intro b68 w70 hS69 H71 hE72
    exact hK _ _ ⟨b68, rfl, hS69, (hX.trans hE72), H71⟩
  refine WalkC.eff 1 rfl (fun r uw73 hF75 => ?_) ?_
  · skip
    obtain ⟨b68, e2, hS69, hX, H74⟩ := hF75
    dsimp only [List.take, List.map, List.cons_append, List.nil_append]
    rw [e2]
    refine Gives.ofW (d := 49) rfl rfl (fun Q' hK => ?_)
    have := H74.lt (List.mem_of_getElem? (i := 6) rfl) rfl
    have := H74.lt (List.mem_of_getElem? (i := 7) rfl) rfl
    refine c_call (vs := [.agg #[i64 ((2 : Int)), .slice (ownA (some b1)) 1 1, .slice (ownA (some b6)) 1 1], .agg (cel E64 [2#64, 0#64]).toArray, .slice (ownA (some b68)) 2 2, u64 (0#64)]) call45 rfl (garble_delta (2 : Int) ([⟨(2 : Int), (0 : Int), (1 : Int)⟩] : List Gt) ([(2 : Int)]) (ownA (some b1)) (ownA (some b6)) 1 1 (2#64, 0#64) (List.replicate 2 lb0) (ownA (some b68)) 2 (0#64) uw73 (Chg.gl H74.chg (fun x => x) hG) (H74.rd (k := 9) rfl hS2) (H74.rd (k := 8) rfl hS7) (by first | omega | exact Nat.le_of_ble_eq_true rfl) (by first | omega | exact Nat.le_of_ble_eq_true rfl) (H74.rd (k := 0) rfl hS69) aw_is rfl rfl) ?_
    rintro _ w76 ⟨⟨v78, rfl, hEr79⟩, hE80⟩
    have H81 := H74.ext hE80
    obtain ⟨T82, x83, rfl⟩ := hEr79.iface
    obtain ⟨lo84, hlo85⟩ : ∃ lo, lo = uw73.heap.size := ⟨_, rfl⟩
    rw [← hlo85] at hEr79
    have hlt86 : b18 < lo84 := by omega
    have hlt87 : b11 < lo84 := by omega
    exact hK _ _ ⟨b68, lo84, T82, x83, rfl, rfl, hS69, hEr79, hlt86, hlt87, (hX.trans hE80), H81⟩
  refine WalkC.look rfl (fun r => r 3) (fun r r' h => h 3 (by decide) rfl) (fun q r uw _ _ _ _ => Gives.run rfl (r_move rfl) ⟨rfl, rfl⟩) ?_
  refine WalkC.look rfl (fun r => proj (r 3) 0) (fun r r' h => by rw [h 3 (by decide) rfl]) (fun q r uw hlo hhi hle hF => ?_) ?_
  · skip
    have h1 : 2 ≤ q := hlo 1 3 rfl rfl
    have h2 : q ≤ 2 := hle
    rcases (show q = 2 by omega) with rfl
    · skip
      obtain ⟨b68, lo84, T82, x83, e2, e3, hS69, hEr79, hlt86, hlt87, hX, HH⟩ := hF
      dsimp only
      rw [e3]
      exact Gives.run rfl (r_extract (vs := #[.slice none 0 0, .slice none 0 0, .iface T82 (x83)]) rfl rfl) ⟨rfl, rfl⟩
  refine WalkC.look rfl (fun r => proj (r 3) 1) (fun r r' h => by rw [h 3 (by decide) rfl]) (fun q r uw hlo hhi hle hF => ?_) ?_
  · skip
    have h1 : 2 ≤ q := hlo 1 3 rfl rfl
    have h2 : q ≤ 2 := hle
    rcases (show q = 2 by omega) with rfl
    · skip
      obtain ⟨b68, lo84, T82, x83, e2, e3, hS69, hEr79, hlt86, hlt87, hX, HH⟩ := hF
      dsimp only
      rw [e3]
      exact Gives.run rfl (r_extract (vs := #[.slice none 0 0, .slice none 0 0, .iface T82 (x83)]) rfl rfl) ⟨rfl, rfl⟩
  refine WalkC.look rfl (fun r => proj (r 3) 2) (fun r r' h => by rw [h 3 (by decide) rfl]) (fun q r uw hlo hhi hle hF => ?_) ?_
  · skip
    have h1 : 2 ≤ q := hlo 1 3 rfl rfl
    have h2 : q ≤ 2 := hle
    rcases (show q = 2 by omega) with rfl
    · skip
      obtain ⟨b68, lo84, T82, x83, e2, e3, hS69, hEr79, hlt86, hlt87, hX, HH⟩ := hF
      dsimp only
      rw [e3]
      exact Gives.run rfl (r_extract (vs := #[.slice none 0 0, .slice none 0 0, .iface T82 (x83)]) rfl rfl) ⟨rfl, rfl⟩
  refine WalkC.look rfl (fun r => proj (r 3) 0) (fun r r' h => by rw [h 3 (by decide) rfl]) (fun q r uw _ _ _ _ => Gives.run rfl (r_assign rfl) ⟨rfl, rfl⟩) ?_
  refine WalkC.look rfl (fun r => proj (r 3) 1) (fun r r' h => by rw [h 3 (by decide) rfl]) (fun q r uw _ _ _ _ => Gives.run rfl (r_assign rfl) ⟨rfl, rfl⟩) ?_
  refine WalkC.look rfl (fun r => proj (r 3) 2) (fun r r' h => by rw [h 3 (by decide) rfl]) (fun q r uw _ _ _ _ => Gives.run rfl (r_assign rfl) ⟨rfl, rfl⟩) ?_
  refine WalkC.nil ?_
  intro r88 w89 hF91
  obtain ⟨b68, lo84, T82, x83, e2, e3, hS69, hEr79, hlt86, hlt87, hX, H90⟩ := hF91
  dsimp only
  rw [e2, e3]
  refine wnil ?_
  refine thenNormal ?_
  refine seqAny ?_
  refine drawAny (K := [none, none, none, none, none, none, none, none, none, none, none, none, none, none, none, none, none, none, none, none, none, none, none]) [0, 1, 3, 7, 15, 31, 63, 127, 255, 511, 1023, 255, 2303, 6399, 255, 30975, 65535, 131071, 262143, 524287, 1048575, 2097151, 4194303] (fun w' => Ext w89 w') (fun w' w'' => Ext w' w'') mixed (by kernel_rfl) (Ext.drew _) (fun _ _ h h' => h.trans h') ?_ ?_
  · exact relNone (by decide)
  refine ⟨.nilIface, fun _ uw92 hC93 _ => Gives.run rfl (r_move (v := .nilIface) rfl) ⟨rfl, Chg.refl _ _⟩, ?_⟩
  refine ⟨.bool (true), fun _ uw94 hC95 _ => Gives.run rfl (r_eqlNN isI27 rfl rfl) ⟨rfl, Chg.refl _ _⟩, ?_⟩
  refine ⟨.bool (true), fun _ uw96 hC97 _ => Gives.run rfl (r_move (v := .bool (true)) rfl) ⟨rfl, Chg.refl _ _⟩, ?_⟩
  refine ⟨.slice (ownA k59) 1 c60, fun _ uw98 hC99 _ => Gives.runW (wantedSome (d' := 55) (b := true) rfl rfl rfl) (r_move (v := .slice (ownA k59) 1 c60) rfl) ⟨rfl, Chg.refl _ _⟩, ?_⟩
  refine ⟨i64 ((1 : Nat)), fun _ uw100 hC101 _ => Gives.runW (wantedSome (d' := 55) (b := true) rfl rfl rfl) (r_lenS sli92 (a := ownA k59) (m := 1) (c := c60) rfl) ⟨rfl, Chg.refl _ _⟩, ?_⟩
  refine ⟨.bool (true), fun _ uw102 hC103 _ => Gives.runW (wantedSome (d' := 55) (b := true) rfl rfl rfl) ((r_eqlI (a := (1 : Nat)) (b := (1 : Int)) rfl rfl).as (v' := .bool (true)) (by rfl)) ⟨rfl, Chg.refl _ _⟩, ?_⟩
  refine ⟨.bool (true), fun _ uw104 hC105 _ => Gives.run rfl (r_pickT (u := .bool (true)) rfl rfl) ⟨rfl, Chg.refl _ _⟩, ?_⟩
  refine ⟨.bool (true), fun _ uw106 hC107 _ => Gives.run rfl (r_move (v := .bool (true)) rfl) ⟨rfl, Chg.refl _ _⟩, ?_⟩
  refine ⟨.slice (ownA k59) 1 c60, fun _ uw108 hC109 _ => Gives.runW (wantedSome (d' := 60) (b := true) rfl rfl rfl) (r_move (v := .slice (ownA k59) 1 c60) rfl) ⟨rfl, Chg.refl _ _⟩, ?_⟩
  refine ⟨.pointer (adr (ownA k59) (0 * 2)), fun _ uw110 hC111 _ => Gives.runW (wantedSome (d' := 60) (b := true) rfl rfl rfl) (r_idxS (E := ELb) (l := oL (eS lhash (0#64) ([⟨(2 : Int), (0 : Int), (1 : Int)⟩] : List Gt) ((gS lhash (1#64, 0#64) (0#64) ([⟨(2 : Int), (0 : Int), (1 : Int)⟩] : List Gt) (List.replicate 2 lb0) 1).2) ([(1#64, 0#64), (1#64, 0#64)] : List (BitVec 64 × BitVec 64)) 1).1 ([(2 : Int)]) 1) (j := 0) sli92 ((H90.ext hC111).rd (k := 1) rfl hS62) rfl rfl (by first | rfl | omega | (simp; omega)) (by exact (oL_len _ _ _).symm) (by rw [oL_len]; decide)) ⟨rfl, Chg.refl _ _⟩, ?_⟩
  refine ⟨.agg (cel E64 [((oL (eS lhash (0#64) ([⟨(2 : Int), (0 : Int), (1 : Int)⟩] : List Gt) ((gS lhash (1#64, 0#64) (0#64) ([⟨(2 : Int), (0 : Int), (1 : Int)⟩] : List Gt) (List.replicate 2 lb0) 1).2) ([(1#64, 0#64), (1#64, 0#64)] : List (BitVec 64 × BitVec 64)) 1).1 ([(2 : Int)]) 1).getD 0 lb0).1, ((oL (eS lhash (0#64) ([⟨(2 : Int), (0 : Int), (1 : Int)⟩] : List Gt) ((gS lhash (1#64, 0#64) (0#64) ([⟨(2 : Int), (0 : Int), (1 : Int)⟩] : List Gt) (List.replicate 2 lb0) 1).2) ([(1#64, 0#64), (1#64, 0#64)] : List (BitVec 64 × BitVec 64)) 1).1 ([(2 : Int)]) 1).getD 0 lb0).2]).toArray, fun _ uw112 hC113 _ => Gives.runW (wantedSome (d' := 60) (b := true) rfl rfl rfl) ((r_ldS (E := ELb) (l := oL (eS lhash (0#64) ([⟨(2 : Int), (0 : Int), (1 : Int)⟩] : List Gt) ((gS lhash (1#64, 0#64) (0#64) ([⟨(2 : Int), (0 : Int), (1 : Int)⟩] : List Gt) (List.replicate 2 lb0) 1).2) ([(1#64, 0#64), (1#64, 0#64)] : List (BitVec 64 × BitVec 64)) 1).1 ([(2 : Int)]) 1) (j := 0) (v := (oL (eS lhash (0#64) ([⟨(2 : Int), (0 : Int), (1 : Int)⟩] : List Gt) ((gS lhash (1#64, 0#64) (0#64) ([⟨(2 : Int), (0 : Int), (1 : Int)⟩] : List Gt) (List.replicate 2 lb0) 1).2) ([(1#64, 0#64), (1#64, 0#64)] : List (BitVec 64 × BitVec 64)) 1).1 ([(2 : Int)]) 1).getD 0 lb0) fits38 ((H90.ext hC113).rd (k := 1) rfl hS62) rfl rfl (at_getD (by rw [oL_len]; decide))).as (v' := .agg (cel E64 [((oL (eS lhash (0#64) ([⟨(2 : Int), (0 : Int), (1 : Int)⟩] : List Gt) ((gS lhash (1#64, 0#64) (0#64) ([⟨(2 : Int), (0 : Int), (1 : Int)⟩] : List Gt) (List.replicate 2 lb0) 1).2) ([(1#64, 0#64), (1#64, 0#64)] : List (BitVec 64 × BitVec 64)) 1).1 ([(2 : Int)]) 1).getD 0 lb0).1, ((oL (eS lhash (0#64) ([⟨(2 : Int), (0 : Int), (1 : Int)⟩] : List Gt) ((gS lhash (1#64, 0#64) (0#64) ([⟨(2 : Int), (0 : Int), (1 : Int)⟩] : List Gt) (List.replicate 2 lb0) 1).2) ([(1#64, 0#64), (1#64, 0#64)] : List (BitVec 64 × BitVec 64)) 1).1 ([(2 : Int)]) 1).getD 0 lb0).2]).toArray) rfl) ⟨rfl, Chg.refl _ _⟩, ?_⟩
  refine ⟨.slice (ownA k41) ((oL (gS lhash (1#64, 0#64) (0#64) ([⟨(2 : Int), (0 : Int), (1 : Int)⟩] : List Gt) (List.replicate 2 lb0) 1).1 ([(2 : Int)]) 1).length) c42, fun _ uw114 hC115 _ => Gives.runW (wantedSome (d' := 60) (b := true) rfl rfl rfl) (r_move (v := .slice (ownA k41) ((oL (gS lhash (1#64, 0#64) (0#64) ([⟨(2 : Int), (0 : Int), (1 : Int)⟩] : List Gt) (List.replicate 2 lb0) 1).1 ([(2 : Int)]) 1).length) c42) rfl) ⟨rfl, Chg.refl _ _⟩, ?_⟩
  refine ⟨.pointer (adr (ownA k41) (0 * 2)), fun _ uw116 hC117 _ => Gives.runW (wantedSome (d' := 60) (b := true) rfl rfl rfl) (r_idxS (E := ELb) (l := oL (gS lhash (1#64, 0#64) (0#64) ([⟨(2 : Int), (0 : Int), (1 : Int)⟩] : List Gt) (List.replicate 2 lb0) 1).1 ([(2 : Int)]) 1) (j := 0) sli92 ((H90.ext hC117).rd (k := 4) rfl hS45) rfl rfl (by first | rfl | omega | (simp; omega)) (by first | rfl | omega | (simp; omega) | (simp at *; omega)) (by rw [oL_len]; decide)) ⟨rfl, Chg.refl _ _⟩, ?_⟩
  refine ⟨.agg (cel E64 [((oL (gS lhash (1#64, 0#64) (0#64) ([⟨(2 : Int), (0 : Int), (1 : Int)⟩] : List Gt) (List.replicate 2 lb0) 1).1 ([(2 : Int)]) 1).getD 0 lb0).1, ((oL (gS lhash (1#64, 0#64) (0#64) ([⟨(2 : Int), (0 : Int), (1 : Int)⟩] : List Gt) (List.replicate 2 lb0) 1).1 ([(2 : Int)]) 1).getD 0 lb0).2]).toArray, fun _ uw118 hC119 _ => Gives.runW (wantedSome (d' := 60) (b := true) rfl rfl rfl) ((r_ldS (E := ELb) (l := oL (gS lhash (1#64, 0#64) (0#64) ([⟨(2 : Int), (0 : Int), (1 : Int)⟩] : List Gt) (List.replicate 2 lb0) 1).1 ([(2 : Int)]) 1) (j := 0) (v := (oL (gS lhash (1#64, 0#64) (0#64) ([⟨(2 : Int), (0 : Int), (1 : Int)⟩] : List Gt) (List.replicate 2 lb0) 1).1 ([(2 : Int)]) 1).getD 0 lb0) fits38 ((H90.ext hC119).rd (k := 4) rfl hS45) rfl rfl (at_getD (by rw [oL_len]; decide))).as (v' := .agg (cel E64 [((oL (gS lhash (1#64, 0#64) (0#64) ([⟨(2 : Int), (0 : Int), (1 : Int)⟩] : List Gt) (List.replicate 2 lb0) 1).1 ([(2 : Int)]) 1).getD 0 lb0).1, ((oL (gS lhash (1#64, 0#64) (0#64) ([⟨(2 : Int), (0 : Int), (1 : Int)⟩] : List Gt) (List.replicate 2 lb0) 1).1 ([(2 : Int)]) 1).getD 0 lb0).2]).toArray) rfl) ⟨rfl, Chg.refl _ _⟩, ?_⟩
  refine ⟨.agg (cel E64 ([1#64, 0#64])).toArray, fun _ uw120 hC121 _ => Gives.runW (wantedSome (d' := 60) (b := true) rfl rfl rfl) (r_loadA (cs' := (cel E64 ([1#64, 0#64])).toArray) agg38 siz38 ((H90.ext hC121).get (k := 6) rfl) (off := 0) rfl (by exact Nat.le_of_ble_eq_true rfl) (by exact ext_all rfl)) ⟨rfl, Chg.refl _ _⟩, ?_⟩
  refine ⟨.agg (cel E64 [(lx ((oL (gS lhash (1#64, 0#64) (0#64) ([⟨(2 : Int), (0 : Int), (1 : Int)⟩] : List Gt) (List.replicate 2 lb0) 1).1 ([(2 : Int)]) 1).getD 0 lb0) (lw true (1#64, 0#64))).1, (lx ((oL (gS lhash (1#64, 0#64) (0#64) ([⟨(2 : Int), (0 : Int), (1 : Int)⟩] : List Gt) (List.replicate 2 lb0) 1).1 ([(2 : Int)]) 1).getD 0 lb0) (lw true (1#64, 0#64))).2]).toArray, fun _ uw122 hC123 _ => Gives.callW (wantedSome (d' := 60) (b := true) rfl rfl rfl) (Enters.callL (vs := [.agg (cel E64 [((oL (gS lhash (1#64, 0#64) (0#64) ([⟨(2 : Int), (0 : Int), (1 : Int)⟩] : List Gt) (List.replicate 2 lb0) 1).1 ([(2 : Int)]) 1).getD 0 lb0).1, ((oL (gS lhash (1#64, 0#64) (0#64) ([⟨(2 : Int), (0 : Int), (1 : Int)⟩] : List Gt) (List.replicate 2 lb0) 1).1 ([(2 : Int)]) 1).getD 0 lb0).2]).toArray, .agg (cel E64 ([1#64, 0#64])).toArray, .bool (true)]) call48 rfl) (label_ok ((oL (gS lhash (1#64, 0#64) (0#64) ([⟨(2 : Int), (0 : Int), (1 : Int)⟩] : List Gt) (List.replicate 2 lb0) 1).1 ([(2 : Int)]) 1).getD 0 lb0) (1#64, 0#64) true uw122), ?_⟩
  refine ⟨.bool (true), fun _ uw124 hC125 _ => Gives.runW (wantedSome (d' := 60) (b := true) rfl rfl rfl) ((r_eqlA (E := E64) (l := [((oL (eS lhash (0#64) ([⟨(2 : Int), (0 : Int), (1 : Int)⟩] : List Gt) ((gS lhash (1#64, 0#64) (0#64) ([⟨(2 : Int), (0 : Int), (1 : Int)⟩] : List Gt) (List.replicate 2 lb0) 1).2) ([(1#64, 0#64), (1#64, 0#64)] : List (BitVec 64 × BitVec 64)) 1).1 ([(2 : Int)]) 1).getD 0 lb0).1, ((oL (eS lhash (0#64) ([⟨(2 : Int), (0 : Int), (1 : Int)⟩] : List Gt) ((gS lhash (1#64, 0#64) (0#64) ([⟨(2 : Int), (0 : Int), (1 : Int)⟩] : List Gt) (List.replicate 2 lb0) 1).2) ([(1#64, 0#64), (1#64, 0#64)] : List (BitVec 64 × BitVec 64)) 1).1 ([(2 : Int)]) 1).getD 0 lb0).2]) (l' := [(lx ((oL (gS lhash (1#64, 0#64) (0#64) ([⟨(2 : Int), (0 : Int), (1 : Int)⟩] : List Gt) (List.replicate 2 lb0) 1).1 ([(2 : Int)]) 1).getD 0 lb0) (lw true (1#64, 0#64))).1, (lx ((oL (gS lhash (1#64, 0#64) (0#64) ([⟨(2 : Int), (0 : Int), (1 : Int)⟩] : List Gt) (List.replicate 2 lb0) 1).1 ([(2 : Int)]) 1).getD 0 lb0) (lw true (1#64, 0#64))).2]) gty38 und38 fits32 (eqAt64 und32) (rfl) (rfl) rfl rfl).as (v' := .bool (true)) (by exact congrArg Value.bool (decide_eq_true (by rw [aw_right])))) ⟨rfl, Chg.refl _ _⟩, ?_⟩
  refine ⟨.bool (true), fun _ uw126 hC127 _ => Gives.run rfl (r_pickT (u := .bool (true)) rfl rfl) ⟨rfl, Chg.refl _ _⟩, ?_⟩
  refine ⟨.bool (true), fun _ uw128 hC129 _ => Gives.run rfl (r_move (v := .bool (true)) rfl) ⟨rfl, Chg.refl _ _⟩, ?_⟩
  refine ⟨.iface T82 (x83), fun _ uw130 hC131 _ => Gives.runW (wantedSome (d' := 71) (b := true) rfl rfl rfl) (r_move (v := .iface T82 (x83)) rfl) ⟨rfl, Chg.refl _ _⟩, ?_⟩
  refine ⟨.bool (true), fun _ uw132 hC133 _ => Gives.callW (wantedSome (d' := 71) (b := true) rfl rfl rfl) (Enters.callL (vs := [.iface T82 (x83), i64 ((100 : Int))]) call24 rfl) (is_ok 100 (100 : Int) 1 (.iface T82 (x83)) lo84 uw132 ((hEr79.ext hC133))), ?_⟩
  refine ⟨.bool (true), fun _ uw134 hC135 _ => Gives.run rfl (r_pickT (u := .bool (true)) rfl rfl) ⟨rfl, Chg.refl _ _⟩, ?_⟩
  refine ⟨.bool (true), fun _ uw136 hC137 _ => Gives.run rfl (r_assign (v := .bool (true)) rfl) ⟨rfl, Chg.refl _ _⟩, ?_⟩
  intro r141 w138 hE140 hF
  have H139 := H90.ext hE140
  refine wnil ?_
  refine thenNormal ?_
  refine retAny ?_
  refine retG (rs := [.tmp 0]) (vs := [.bool (true)]) rfl ⟨⟨rfl, rfl⟩, trivial⟩ ?_
  exact ⟨_, rfl, rfl, H139.chg⟩
end Go.Proofs.YteofdmdpaejgaaaDoor.Gb
namespace Go.Proofs.YteofdmdpaejgaaaDoor.Gb
open Go Go.Proofs.YteofdmdpaejgaaaDoor.Vc Go.Proofs.YteofdmdpaejgaaaDoor.Er Go.Proofs.YteofdmdpaejgaaaDoor.Circ
set_option linter.unusedVariables false
theorem agg94 : isAgg' Tryd.prog 94 = true := by kernel_rfl
theorem call41 : callable Tryd.prog 41 = true := by kernel_rfl
theorem call42 : callable Tryd.prog 42 = true := by kernel_rfl
theorem call43 : callable Tryd.prog 43 = true := by kernel_rfl
theorem call44 : callable Tryd.prog 44 = true := by kernel_rfl
theorem fld94_0 : fld Tryd.prog 94 0 = some (0, 2, 38) := by kernel_rfl
theorem fld94_2 : fld Tryd.prog 94 2 = some (3, 1, 32) := by kernel_rfl
theorem siz32 : siz Tryd.prog 32 = some 1 := by kernel_rfl
theorem siz94 : siz Tryd.prog 94 = some 4 := by kernel_rfl
end Go.Proofs.YteofdmdpaejgaaaDoor.Gb
namespace Go.Proofs.YteofdmdpaejgaaaDoor.Gb
open Go Go.Proofs.YteofdmdpaejgaaaDoor.Vc Go.Proofs.YteofdmdpaejgaaaDoor.Er Go.Proofs.YteofdmdpaejgaaaDoor.Circ
set_option linter.unusedVariables false
theorem call91 : callable Tryd.prog 91 = true := by kernel_rfl
theorem rlx_ok (a b : Lb) (w : World) : Calls Tryd.prog 50 [.agg (cel E64 [(a).1, (a).2]).toArray, .agg (cel E64 [(b).1, (b).2]).toArray].toArray w (Ret fun v w' => v = .agg (cel E64 [(lx a b).1, (lx a b).2]).toArray ∧ Ext w w') := by
  have H := Hp.start No w
  refine enter (n := 16) Tryd.func50 rfl rfl (Nat.le_of_ble_eq_true rfl) ?_
  refine seqRegion ?_
  refine q_box (v := .agg (cel E64 [(a).1, (a).2]).toArray) (o := .cells (cel E64 ([(a).1, (a).2])).toArray 38 (0, 0)) H rfl (by rfl) ?_
  intro b1 w2 hb1 H3 hE4
  refine q_box (v := .agg (cel E64 [(b).1, (b).2]).toArray) (o := .cells (cel E64 ([(b).1, (b).2])).toArray 38 (0, 0)) H3 rfl (by rfl) ?_
  intro b5 w6 hb5 H7 hE8
  refine q_alloc (o := .cells (cel E64 ([0#64, 0#64])).toArray 38 (0, 0)) H7 zer38 (by kernel_rfl) ?_
  intro b9 w10 hb9 H11 hE12
  refine wend ?_
  refine seqRegion ?_
  refine sq (r_indexA (off' := 0) (j := 0) arr38 (b := b1) (off := 0) rfl rfl (by first | rfl | omega | (simp; omega)) (by omega) (by omega)) ?_
  refine sq (r_ld1 (E := E64) (l := [(a).1, (a).2]) (j := 0) (a := (a).1) fits32 (H11.get (k := 2) rfl) (by rfl) rfl rfl) ?_
  refine sq (r_indexA (off' := 0) (j := 0) arr38 (b := b5) (off := 0) rfl rfl (by first | rfl | omega | (simp; omega)) (by omega) (by omega)) ?_
  refine sq (r_ld1 (E := E64) (l := [(b).1, (b).2]) (j := 0) (a := (b).1) fits32 (H11.get (k := 1) rfl) (by rfl) rfl rfl) ?_
  refine sq (r_xor64 (a := (a).1) (b := (b).1) rfl rfl) ?_
  refine sq (r_indexA (off' := 1) (j := 1) arr38 (b := b1) (off := 0) rfl rfl (by first | rfl | omega | (simp; omega)) (by omega) (by omega)) ?_
  refine sq (r_ld1 (E := E64) (l := [(a).1, (a).2]) (j := 1) (a := (a).2) fits32 (H11.get (k := 2) rfl) (by rfl) rfl rfl) ?_
  refine sq (r_indexA (off' := 1) (j := 1) arr38 (b := b5) (off := 0) rfl rfl (by first | rfl | omega | (simp; omega)) (by omega) (by omega)) ?_
  refine sq (r_ld1 (E := E64) (l := [(b).1, (b).2]) (j := 1) (a := (b).2) fits32 (H11.get (k := 1) rfl) (by rfl) rfl rfl) ?_
  refine sq (r_xor64 (a := (a).2) (b := (b).2) rfl rfl) ?_
  refine sq (r_buildA (cs' := (cel E64 [((a).1) ^^^ ((b).1), ((a).2) ^^^ ((b).2)]).toArray) (ps := [(0, u64 (((a).1) ^^^ ((b).1))), (1, u64 (((a).2) ^^^ ((b).2)))]) zer38 arr38 rfl (by rfl)) ?_
  refine d_store (k := 0) (v := .agg (cel E64 [((a).1) ^^^ ((b).1), ((a).2) ^^^ ((b).2)]).toArray) (cs' := (cel E64 ([((a).1) ^^^ ((b).1), ((a).2) ^^^ ((b).2)])).toArray) H11 rfl rfl rfl siz38 (by exact celSize (by first | rfl | (show _ * 1 = _; omega))) (by exact celOne _) (by rw [List.size_toArray, cel_length]; show _ ≤ _ * 1; first | omega | (simp only [List.length_set]; omega) | exact Nat.le_of_ble_eq_true rfl | (simp <;> omega)) (by exact putAll (by first | rfl | omega | (simp <;> omega))) ?_
  intro w13 H14 hC15
  have H14' := H14.as (L' := [(some b9, .cells (cel E64 ([((a).1) ^^^ ((b).1), ((a).2) ^^^ ((b).2)])).toArray 38 (0, 0)), (some b5, .cells (cel E64 ([(b).1, (b).2])).toArray 38 (0, 0)), (some b1, .cells (cel E64 ([(a).1, (a).2])).toArray 38 (0, 0))]) rfl
  clear H14
  refine wend ?_
  refine retAny ?_
  refine retG (rs := [.cell 4 38]) (vs := [.agg (cel E64 ([((a).1) ^^^ ((b).1), ((a).2) ^^^ ((b).2)])).toArray]) rfl ⟨r_loadA (cs' := (cel E64 ([((a).1) ^^^ ((b).1), ((a).2) ^^^ ((b).2)])).toArray) agg38 siz38 (H14'.get (k := 0) rfl) (off := 0) rfl (by exact Nat.le_of_ble_eq_true rfl) (by exact ext_all rfl), trivial⟩ ?_
  exact ⟨_, rfl, rfl, H14'.chg⟩
theorem rcolour_ok (a : Lb) (w : World) : Calls Tryd.prog 91 [.agg (cel E64 [(a).1, (a).2]).toArray].toArray w (Ret fun v w' => v = u64 (a.1 % 2#64) ∧ Ext w w') := by
  have H := Hp.start No w
  refine enter (n := 6) Tryd.func91 rfl rfl (Nat.le_of_ble_eq_true rfl) ?_
  refine seqRegion ?_
  refine q_box (v := .agg (cel E64 [(a).1, (a).2]).toArray) (o := .cells (cel E64 ([(a).1, (a).2])).toArray 38 (0, 0)) H rfl (by rfl) ?_
  intro b1 w2 hb1 H3 hE4
  refine sq (r_assign (v := u64 (0#64)) rfl) ?_
  refine wend ?_
  refine seqRegion ?_
  refine sq (r_indexA (off' := 0) (j := 0) arr38 (b := b1) (off := 0) rfl rfl (by first | rfl | omega | (simp; omega)) (by omega) (by omega)) ?_
  refine sq (r_ld1 (E := E64) (l := [(a).1, (a).2]) (j := 0) (a := (a).1) fits32 (H3.get (k := 0) rfl) (by rfl) rfl rfl) ?_
  refine sq (r_rem64 (a := (a).1) (b := 2#64) rfl rfl (by decide)) ?_
  refine sq (r_assign (v := u64 (((a).1) % (2#64))) rfl) ?_
  refine wend ?_
  refine retAny ?_
  refine retG (rs := [.tmp 2]) (vs := [u64 (((a).1) % (2#64))]) rfl ⟨⟨rfl, rfl⟩, trivial⟩ ?_
  exact ⟨_, rfl, rfl, H3.chg⟩
theorem rcolours_ok (l : List Lb) (a0 : Option Addr) (n0 c0 : Nat) (hn0 : n0 = l.length) (hl : l.length ≤ 140737488355328) (w : World) (hL : Rd ELb w a0 l) : Calls Tryd.prog 52 [.slice a0 n0 c0].toArray w (Ret fun v w' => v = u64 (rcolS l (min l.length 64)) ∧ Ext w w') := by
  subst hn0
  have H := Hp.start No w
  refine enter (n := 25) Tryd.func52 rfl rfl (Nat.le_of_ble_eq_true rfl) ?_
  refine seqRegion ?_
  refine sq (r_assign (v := u64 (0#64)) rfl) ?_
  refine wend ?_
  refine seqRegion ?_
  refine sq (r_assign (v := u64 (0#64)) rfl) ?_
  refine wend ?_
  refine seqAny ?_
  refine seqRegion ?_
  refine sq (r_assign (v := i64 ((0 : Int))) rfl) ?_
  refine wend ?_
  refine blockAny ?_
  refine loopAny (σ := Nat) (fun q => [(0, .slice a0 l.length c0), (3, u64 (rcolS l q)), (4, i64 ((q : Nat)))]) (fun q w' => q ≤ min l.length 64 ∧ Hp No w w' []) (fun q => min l.length 64 - q) (0) ?_ ?_ ?_
  · exact ⟨rfl, rfl, rfl, trivial⟩
  · exact ⟨Nat.zero_le _, H⟩
  rintro q ρ w1 ⟨hq, HL⟩
  rcases (show q < min l.length 64 ∨ (q = min l.length 64 ∧ q = l.length) ∨ (q = min l.length 64 ∧ q < l.length) by omega) with c3 | ⟨c3, c4⟩ | ⟨c3, c4⟩
  · skip
    refine seqAny ?_
    refine seqRegion ?_
    refine sq (r_move (v := i64 ((q : Nat))) rfl) ?_
    refine sq (r_move (v := .slice a0 l.length c0) rfl) ?_
    refine sq (r_lenS sli92 (a := a0) (m := l.length) (c := c0) rfl) ?_
    refine sq ((r_lssI (a := (q : Nat)) (b := (l.length : Nat)) rfl rfl).as (v' := .bool (true)) (by exact congrArg Value.bool (decide_eq_true (by omega)))) ?_
    refine sq (r_move (v := .bool (true)) rfl) ?_
    refine sqAny (v := i64 ((q : Nat))) (w' := w1) (wantedSome (d' := 9) (b := true) rfl rfl rfl) (r_move (v := i64 ((q : Nat))) rfl) ?_
    refine sqAny (v := .bool (true)) (w' := w1) (wantedSome (d' := 9) (b := true) rfl rfl rfl) ((r_lssI (a := (q : Nat)) (b := (64 : Int)) rfl rfl).as (v' := .bool (true)) (by exact congrArg Value.bool (decide_eq_true (by omega)))) ?_
    refine sq (r_pickT (u := .bool (true)) rfl rfl) ?_
    refine wend ?_
    refine condTrue rfl ?_
    refine skipAny ?_
    refine thenNormal ?_
    refine seqAny ?_
    refine blockAny ?_
    refine oneRegion ?_
    refine sq (r_move (v := u64 (rcolS l q)) rfl) ?_
    refine sq (r_move (v := .slice a0 l.length c0) rfl) ?_
    refine sq (r_move (v := i64 ((q : Nat))) rfl) ?_
    refine sq (r_idxS (E := ELb) (l := l) (j := q) sli92 (hL.ext HL.chg) rfl rfl (by first | rfl | omega | (simp; omega)) (by rfl) (by omega)) ?_
    refine sq ((r_ldS (E := ELb) (l := l) (j := q) (v := (l).getD q lb0) fits38 (hL.ext HL.chg) rfl rfl (at_getD (by omega))).as (v' := .agg (cel E64 [((l).getD q lb0).1, ((l).getD q lb0).2]).toArray) rfl) ?_
    refine c_call (vs := [.agg (cel E64 [((l).getD q lb0).1, ((l).getD q lb0).2]).toArray]) call91 rfl (rcolour_ok ((l).getD q lb0) w1) ?_
    rintro _ w3 ⟨rfl, hE4⟩
    have H5 := HL.ext hE4
    refine sq (r_move (v := i64 ((q : Nat))) rfl) ?_
    refine sq (r_shl64 (a := ((l).getD q lb0).1 % 2#64) (c := q) rfl rfl) ?_
    refine sq (r_add64 (a := rcolS l q) (b := (((l).getD q lb0).1 % 2#64) <<< (q : Nat)) rfl rfl) ?_
    refine sq (r_assign (v := u64 ((rcolS l q) + ((((l).getD q lb0).1 % 2#64) <<< (q : Nat)))) rfl) ?_
    refine wnil ?_
    refine blockNormal ?_
    refine thenNormal ?_
    refine oneRegion ?_
    refine sq (r_move (v := i64 ((q : Nat))) rfl) ?_
    refine sq (r_addI (a := (q : Nat)) (b := (1 : Int)) rfl rfl (by omega)) ?_
    refine sq (r_assign (v := i64 ((q : Nat) + (1 : Int))) rfl) ?_
    refine wnil ?_
    refine thenNormal ?_
    exact ⟨q + 1, _, rfl, ⟨rfl, congrArg u64 (by rw [rcolS]), rfl, trivial⟩, ⟨by omega, H5⟩, by show min l.length 64 - (q + 1) < min l.length 64 - q; omega⟩
  · skip
    rw [c3]
    rw [c3] at c4
    refine seqAny ?_
    refine seqRegion ?_
    refine sq (r_move (v := i64 (((min l.length 64) : Nat))) rfl) ?_
    refine sq (r_move (v := .slice a0 l.length c0) rfl) ?_
    refine sq (r_lenS sli92 (a := a0) (m := l.length) (c := c0) rfl) ?_
    refine sq ((r_lssI (a := ((min l.length 64) : Nat)) (b := (l.length : Nat)) rfl rfl).as (v' := .bool (false)) (by exact congrArg Value.bool (decide_eq_false (by omega)))) ?_
    refine sq (r_move (v := .bool (false)) rfl) ?_
    refine skAny (wantedSome (d' := 9) (b := false) rfl rfl rfl) ?_
    refine skAny (wantedSome (d' := 9) (b := false) rfl rfl rfl) ?_
    refine sq (r_pickF (v := .bool (false)) rfl rfl) ?_
    refine wend ?_
    refine condFalse rfl ?_
    refine exitAny ?_
    refine thenExit ?_
    refine thenExit ?_
    refine blockHere ?_
    refine thenNormal ?_
    refine seqRegion ?_
    refine sq (r_move (v := u64 (rcolS l (min l.length 64))) rfl) ?_
    refine sq (r_assign (v := u64 (rcolS l (min l.length 64))) rfl) ?_
    refine wend ?_
    refine retAny ?_
    refine retG (rs := [.tmp 2]) (vs := [u64 (rcolS l (min l.length 64))]) rfl ⟨⟨rfl, rfl⟩, trivial⟩ ?_
    exact ⟨_, rfl, rfl, HL.chg⟩
  · skip
    rw [c3]
    rw [c3] at c4
    refine seqAny ?_
    refine seqRegion ?_
    refine sq (r_move (v := i64 (((min l.length 64) : Nat))) rfl) ?_
    refine sq (r_move (v := .slice a0 l.length c0) rfl) ?_
    refine sq (r_lenS sli92 (a := a0) (m := l.length) (c := c0) rfl) ?_
    refine sq ((r_lssI (a := ((min l.length 64) : Nat)) (b := (l.length : Nat)) rfl rfl).as (v' := .bool (true)) (by exact congrArg Value.bool (decide_eq_true (by omega)))) ?_
    refine sq (r_move (v := .bool (true)) rfl) ?_
    refine sqAny (v := i64 (((min l.length 64) : Nat))) (w' := w1) (wantedSome (d' := 9) (b := true) rfl rfl rfl) (r_move (v := i64 (((min l.length 64) : Nat))) rfl) ?_
    refine sqAny (v := .bool (false)) (w' := w1) (wantedSome (d' := 9) (b := true) rfl rfl rfl) ((r_lssI (a := ((min l.length 64) : Nat)) (b := (64 : Int)) rfl rfl).as (v' := .bool (false)) (by exact congrArg Value.bool (decide_eq_false (by omega)))) ?_
    refine sq (r_pickT (u := .bool (false)) rfl rfl) ?_
    refine wend ?_
    refine condFalse rfl ?_
    refine exitAny ?_
    refine thenExit ?_
    refine thenExit ?_
    refine blockHere ?_
    refine thenNormal ?_
    refine seqRegion ?_
    refine sq (r_move (v := u64 (rcolS l (min l.length 64))) rfl) ?_
    refine sq (r_assign (v := u64 (rcolS l (min l.length 64))) rfl) ?_
    refine wend ?_
    refine retAny ?_
    refine retG (rs := [.tmp 2]) (vs := [u64 (rcolS l (min l.length 64))]) rfl ⟨⟨rfl, rfl⟩, trivial⟩ ?_
    exact ⟨_, rfl, rfl, HL.chg⟩
theorem eval_okL (n : Int) (gs : List Gt) (ol : List Int) (ga oa : Option Addr) (gc oc : Nat) (ls tb : List Lb) (lsa tsa : Option Addr) (lsc tsc : Nat) (first : BitVec 64) (m1 m2 : Nat) (hm1 : m1 = ls.length) (hm2 : m2 = tb.length) (w : World) (hG : Gl w) (hGs : Rd EG w ga gs) (hOl : Rd EI w oa ol) (hgl : gs.length ≤ 140737488355328) (hol : ol.length ≤ 140737488355328) (hLs : Rd ELb w lsa ls) (hTb : Rd ELb w tsa tb) (hg : IsC n gs ol) (hm : (ls.length : Int) = n) (hc : tb.length = 2 * andsS gs gs.length) : Calls Tryd.prog 46 [.agg #[i64 n, .slice ga gs.length gc, .slice oa ol.length oc], .slice lsa m1 lsc, .slice tsa m2 tsc, u64 first].toArray w (Ret fun v w' => ∃ (k1 : Option Nat) (c1 : Nat) (z1 : List Value), v = .tuple #[.slice (ownA k1) ol.length c1, .nilIface] ∧ Sl ELb k1 (oL (eS lhash first gs tb ls gs.length).1 ol ol.length) c1 z1 ∧ Hp No w w' [(k1, sob ELb 38 (oL (eS lhash first gs tb ls gs.length).1 ol ol.length) z1)]) := by
  subst hm1 hm2; exact eval_ok n gs ol ga oa gc oc ls tb lsa tsa lsc tsc first w hG hGs hOl hgl hol hLs hTb hg hm hc
theorem reval_okL (n : Int) (gs : List Gt) (ol : List Int) (ga oa : Option Addr) (gc oc : Nat) (inp : List Bool) (ia : Option Addr) (ic : Nat) (mi : Nat) (hmi : mi = inp.length) (w : World) (hGs : Rd EG w ga gs) (hOl : Rd EI w oa ol) (hIn : Rd EB w ia inp) (hg : IsC n gs ol) (hl0 : (inp.length : Int) = n) : Calls Tryd.prog 49 [.slice ga gs.length gc, .slice oa ol.length oc, .slice ia mi ic].toArray w (Ret fun v w' => SlRes EB 4 (evalS gs ol inp) w v w' ∧ Ext w w') := by
  subst hmi; exact reval_ok n gs ol ga oa gc oc inp ia ic w hGs hOl hIn hg hl0
end Go.Proofs.YteofdmdpaejgaaaDoor.Gb
namespace Go.Proofs.YteofdmdpaejgaaaDoor.Gb
open Go Go.Proofs.YteofdmdpaejgaaaDoor.Vc Go.Proofs.YteofdmdpaejgaaaDoor.Er Go.Proofs.YteofdmdpaejgaaaDoor.Circ
set_option linter.unusedVariables false
theorem byt4 : byt Tryd.prog 4 = some 1 := by kernel_rfl
theorem call35 : callable Tryd.prog 35 = true := by kernel_rfl
theorem call49 : callable Tryd.prog 49 = true := by kernel_rfl
theorem call50 : callable Tryd.prog 50 = true := by kernel_rfl
theorem call51 : callable Tryd.prog 51 = true := by kernel_rfl
theorem call52 : callable Tryd.prog 52 = true := by kernel_rfl
theorem fits4 : Fits Tryd.prog 4 EB := fitsB (by kernel_rfl) (by kernel_rfl)
theorem sli76 : sli Tryd.prog 76 = some (4, 1) := by kernel_rfl
theorem zer4 : zer Tryd.prog 4 = some (.bool false) := by kernel_rfl
set_option maxRecDepth 20000 in
set_option maxHeartbeats 2000000 in
theorem gright_good (n : Int) (gs : List Gt) (ol : List Int) (ga oa : Option Addr) (gc oc : Nat) (δ : Lb) (zs : List Lb) (za : Option Addr) (zc : Nat) (first : BitVec 64) (hgc : gs.length ≤ gc) (hoc : ol.length ≤ oc) (hzc : zs.length ≤ zc) (w : World) (hG : Gl w) (hGs : Rd EG w ga gs) (hOl : Rd EI w oa ol) (hZ : Rd ELb w za zs) (hzs : zs.length ≤ 140737488355328) (bits : List Bool) (ba : Option Addr) (bc : Nat) (hB : Rd EB w ba bits) (hbl : bits.length ≤ 140737488355328) (h1s : gs.length ≤ 60) (h2s : n ≤ 200) (hg : IsC n (gs.take 4200) (ol.take 80)) : Calls Tryd.prog 10 [.agg #[i64 (n), .slice ga gs.length gc, .slice oa ol.length oc], .agg #[u64 (δ.1), u64 (δ.2), .slice za zs.length zc, u64 (first)], .slice ba bits.length bc].toArray w (Ret fun v w' => v = .bool true ∧ Ext w w') := by
  obtain ⟨g1, hg1⟩ : ∃ g1, g1 = gs.take 4200 := ⟨_, rfl⟩
  obtain ⟨l1, hl1⟩ : ∃ l1, l1 = ol.take 80 := ⟨_, rfl⟩
  have hgl1 : g1.length ≤ 60 := by rw [hg1, List.length_take]; omega
  have hll1 : l1.length ≤ 80 := by rw [hl1, List.length_take]; omega
  rw [← hg1, ← hl1] at hg
  have H := Hp.start No w
  refine enter (n := 156) Tryd.func10 rfl rfl (Nat.le_of_ble_eq_true rfl) ?_
  refine seqRegion ?_
  refine q_box (v := .agg #[i64 (n), .slice ga gs.length gc, .slice oa ol.length oc]) (o := .cells #[i64 (n), .slice ga gs.length gc, .slice oa ol.length oc] 70 (0, 0)) H rfl (by rfl) ?_
  intro b1 w2 hb1 H3 hE4
  refine q_box (v := .agg #[u64 (δ.1), u64 (δ.2), .slice za zs.length zc, u64 (first)]) (o := .cells #[u64 (δ.1), u64 (δ.2), .slice za zs.length zc, u64 (first)] 94 (0, 0)) H3 rfl (by rfl) ?_
  intro b5 w6 hb5 H7 hE8
  refine sq (r_assign (v := .bool (false)) rfl) ?_
  refine wend ?_
  refine seqAny ?_
  refine seqRegion ?_
  refine c_call (vs := []) call41 rfl (gawake_ok w6 (Chg.gl H7.chg (fun x => x) hG)) ?_
  rintro _ w9 ⟨rfl, hE10⟩
  have H11 := H7.ext hE10
  refine sq (r_notT rfl) ?_
  refine sq (r_move (v := .bool (false)) rfl) ?_
  refine sqAny (v := .agg #[i64 (n), .slice ga gs.length gc, .slice oa ol.length oc]) (w' := w9) (wantedSome (d' := 21) (b := false) rfl rfl rfl) (r_loadA (cs' := #[i64 (n), .slice ga gs.length gc, .slice oa ol.length oc]) agg70 siz70 (H11.get (k := 1) rfl) (off := 0) rfl (by exact Nat.le_of_ble_eq_true rfl) (by rfl)) ?_
  refine caAny (wantedSome (d' := 21) (b := false) rfl rfl rfl) (Enters.callL (vs := [.agg #[i64 (n), .slice ga gs.length gc, .slice oa ol.length oc]]) call42 rfl) (small_yes n gs ol ga oa gc oc w9 h1s h2s) ?_
  rintro _ w12 ⟨rfl, hE13⟩
  have H14 := H11.ext hE13
  refine sqAny (v := .bool (false)) (w' := w12) (wantedSome (d' := 21) (b := false) rfl rfl rfl) (r_notT rfl) ?_
  refine sq (r_pickF (v := .bool (false)) rfl rfl) ?_
  refine wend ?_
  refine condFalse rfl ?_
  refine skipAny ?_
  refine thenNormal ?_
  refine seqRegion ?_
  refine sq (r_loadA (cs' := #[i64 (n), .slice ga gs.length gc, .slice oa ol.length oc]) agg70 siz70 (H14.get (k := 1) rfl) (off := 0) rfl (by exact Nat.le_of_ble_eq_true rfl) (by rfl)) ?_
  refine c_call (vs := [.agg #[i64 (n), .slice ga gs.length gc, .slice oa ol.length oc]]) call43 rfl (own_ok n gs ol ga oa gc oc hgc hoc w12 (hGs.ext H14.chg) (hOl.ext H14.chg)) ?_
  rintro _ w15 ⟨⟨ng17, no18, kg19, cg20, spg21, ko22, co23, spo24, rfl, rfl, rfl, hSg25, hSo26, HN27⟩, hE28⟩
  rw [← hg1] at hSg25 HN27
  rw [← hl1] at hSo26 HN27
  rw [← hg1, ← hl1]
  have H29 := (H14.join HN27).as (L' := [(ko22, sob EI 3 l1 spo24), (kg19, sob EG 99 g1 spg21), (some b5, .cells #[u64 (δ.1), u64 (δ.2), .slice za zs.length zc, u64 (first)] 94 (0, 0)), (some b1, .cells #[i64 (n), .slice ga gs.length gc, .slice oa ol.length oc] 70 (0, 0))]) rfl
  refine d_store (k := 3) (v := .agg #[i64 (n), .slice (ownA kg19) g1.length cg20, .slice (ownA ko22) l1.length co23]) (cs' := #[i64 (n), .slice (ownA kg19) g1.length cg20, .slice (ownA ko22) l1.length co23]) H29 rfl rfl rfl siz70 (by rfl) (by intro u hu; simp [Value.cells] at hu; first | (subst hu; rfl) | (rcases hu with rfl | rfl | rfl <;> rfl)) (by exact Nat.le_of_ble_eq_true rfl) (by rfl) ?_
  intro w30 H31 hC32
  have H31' := H31.as (L' := [(ko22, sob EI 3 l1 spo24), (kg19, sob EG 99 g1 spg21), (some b5, .cells #[u64 (δ.1), u64 (δ.2), .slice za zs.length zc, u64 (first)] 94 (0, 0)), (some b1, .cells #[i64 (n), .slice (ownA kg19) g1.length cg20, .slice (ownA ko22) l1.length co23] 70 (0, 0))]) rfl
  clear H31
  have hlo := hg.lo
  refine wend ?_
  refine seqRegion ?_
  refine sq (r_fieldAddr (off' := 0) fld94_0 (by decide) (b := b5) (off := 0) rfl (by omega)) ?_
  refine sq (r_indexA (off' := 0) (j := 0) arr38 (b := b5) (off := 0) rfl rfl (by first | rfl | omega | (simp; omega)) (by omega) (by omega)) ?_
  refine sq (r_loadC (v := u64 (δ.1)) one32 (H31'.get (k := 2) rfl) (off := 0) rfl (by rfl)) ?_
  refine sq (r_or64 (a := δ.1) (b := 1#64) rfl rfl) ?_
  refine sq (r_fieldAddr (off' := 0) fld94_0 (by decide) (b := b5) (off := 0) rfl (by omega)) ?_
  refine sq (r_indexA (off' := 0) (j := 0) arr38 (b := b5) (off := 0) rfl rfl (by first | rfl | omega | (simp; omega)) (by omega) (by omega)) ?_
  refine d_store (k := 2) (v := u64 (δ.1 ||| (1#64))) (cs' := #[u64 (δ.1 ||| (1#64)), u64 (δ.2), .slice za zs.length zc, u64 (first)]) H31' rfl rfl rfl siz32 (by rfl) (by exact E64.one _) (by exact Nat.le_of_ble_eq_true rfl) (by rfl) ?_
  intro w33 H34 hC35
  have H34' := H34.as (L' := [(ko22, sob EI 3 l1 spo24), (kg19, sob EG 99 g1 spg21), (some b5, .cells #[u64 (δ.1 ||| (1#64)), u64 (δ.2), .slice za zs.length zc, u64 (first)] 94 (0, 0)), (some b1, .cells #[i64 (n), .slice (ownA kg19) g1.length cg20, .slice (ownA ko22) l1.length co23] 70 (0, 0))]) rfl
  clear H34
  refine wend ?_
  refine seqRegion ?_
  refine sq (r_loadA (cs' := #[u64 (δ.1 ||| (1#64)), u64 (δ.2), .slice za zs.length zc, u64 (first)]) agg94 siz94 (H34'.get (k := 2) rfl) (off := 0) rfl (by exact Nat.le_of_ble_eq_true rfl) (by rfl)) ?_
  refine sq (r_fieldAddr (off' := 0) fld70_0 (by decide) (b := b1) (off := 0) rfl (by omega)) ?_
  refine sq (r_loadC (v := i64 (n)) one3 (H34'.get (k := 3) rfl) (off := 0) rfl (by rfl)) ?_
  refine c_call (vs := [.agg #[u64 (δ.1 ||| (1#64)), u64 (δ.2), .slice za zs.length zc, u64 (first)], i64 (n)]) call44 rfl (zeros_ok (δ.1 ||| (1#64), δ.2) zs za zc hzc first n h2s w33 (hZ.ext H34'.chg)) ?_
  rintro _ w36 ⟨⟨key38, c39, sp40, rfl, hS41, hk42⟩, hE43⟩
  obtain ⟨z, hz⟩ : ∃ x, x = zerosS zs n.toNat := ⟨_, rfl⟩
  have hzl : z.length = n.toNat := by rw [hz, zerosS_len]
  rw [← hz] at hS41 hk42 ⊢
  have H44 := H34'.add hE43 hk42
  refine sq (r_assign (v := .slice (ownA key38) z.length c39) rfl) ?_
  refine wend ?_
  refine seqRegion ?_
  refine sq (r_loadA (cs' := #[i64 (n), .slice (ownA kg19) g1.length cg20, .slice (ownA ko22) l1.length co23]) agg70 siz70 (H44.get (k := 4) rfl) (off := 0) rfl (by exact Nat.le_of_ble_eq_true rfl) (by rfl)) ?_
  refine sq (r_fieldAddr (off' := 0) fld94_0 (by decide) (b := b5) (off := 0) rfl (by omega)) ?_
  refine sq (r_loadA (cs' := (cel E64 [δ.1 ||| (1#64), δ.2]).toArray) agg38 siz38 (H44.get (k := 3) rfl) (off := 0) rfl (by exact Nat.le_of_ble_eq_true rfl) (by rfl)) ?_
  refine sq (r_move (v := .slice (ownA key38) z.length c39) rfl) ?_
  refine sq (r_fieldAddr (off' := 3) fld94_2 (by decide) (b := b5) (off := 0) rfl (by omega)) ?_
  refine sq (r_loadC (v := u64 (first)) one32 (H44.get (k := 3) rfl) (off := 3) rfl (by rfl)) ?_
  refine c_call (vs := [.agg #[i64 (n), .slice (ownA kg19) g1.length cg20, .slice (ownA ko22) l1.length co23], .agg (cel E64 [δ.1 ||| (1#64), δ.2]).toArray, .slice (ownA key38) z.length c39, u64 (first)]) call45 rfl (garble_ok n g1 l1 (ownA kg19) (ownA ko22) cg20 co23 (δ.1 ||| (1#64), δ.2) z (ownA key38) c39 first w36 (Chg.gl H44.chg (fun x => x) hG) (H44.rd (k := 2) rfl hSg25) (H44.rd (k := 1) rfl hSo26) (by first | omega | exact Nat.le_of_ble_eq_true rfl) (by first | omega | exact Nat.le_of_ble_eq_true rfl) (H44.rd (k := 0) rfl hS41) hg (by omega) (col_or _ _)) ?_
  rintro _ w45 ⟨k47, c48, z49, k50, c51, z52, rfl, hS53, hS54, HN55⟩
  obtain ⟨tb, htb⟩ : ∃ x, x = (gS lhash (δ.1 ||| (1#64), δ.2) first g1 z g1.length).2 := ⟨_, rfl⟩
  obtain ⟨ot, hot⟩ : ∃ x, x = oL (gS lhash (δ.1 ||| (1#64), δ.2) first g1 z g1.length).1 l1 l1.length := ⟨_, rfl⟩
  rw [← htb] at hS53 HN55 ⊢
  rw [← hot] at hS54 HN55 ⊢
  have H56 := (H44.join HN55).as (L' := [(k47, sob ELb 38 tb z49), (k50, sob ELb 38 ot z52), (key38, sob ELb 38 z sp40), (ko22, sob EI 3 l1 spo24), (kg19, sob EG 99 g1 spg21), (some b5, .cells #[u64 (δ.1 ||| (1#64)), u64 (δ.2), .slice za zs.length zc, u64 (first)] 94 (0, 0)), (some b1, .cells #[i64 (n), .slice (ownA kg19) g1.length cg20, .slice (ownA ko22) l1.length co23] 70 (0, 0))]) rfl
  refine sq (r_move (v := .tuple #[.slice (ownA k47) tb.length c48, .slice (ownA k50) ot.length c51, .nilIface]) rfl) ?_
  refine sq (r_extract (vs := #[.slice (ownA k47) tb.length c48, .slice (ownA k50) ot.length c51, .nilIface]) rfl rfl) ?_
  refine sq (r_extract (vs := #[.slice (ownA k47) tb.length c48, .slice (ownA k50) ot.length c51, .nilIface]) rfl rfl) ?_
  refine sq (r_extract (vs := #[.slice (ownA k47) tb.length c48, .slice (ownA k50) ot.length c51, .nilIface]) rfl rfl) ?_
  refine sq (r_assign (v := .slice (ownA k47) tb.length c48) rfl) ?_
  refine sq (r_assign (v := .slice (ownA k50) ot.length c51) rfl) ?_
  refine sq (r_assign (v := .nilIface) rfl) ?_
  have hzn : n = ((z.length : Nat) : Int) := by omega
  have hgz : IsC ((z.length : Nat) : Int) g1 l1 := hzn ▸ hg
  have htbl : tb.length = 2 * andsS g1 g1.length := by rw [htb]; exact gS_ands (fun i hi => by have := hg.gok i hi; unfold gokP at this; omega) _ (Nat.le_refl _)
  have hot1 : ot.length = l1.length := by rw [hot, oL_len]
  refine wend ?_
  refine seqAny ?_
  refine seqRegion ?_
  refine sq (r_move (v := .nilIface) rfl) ?_
  refine sq (r_neqNN isI27 rfl rfl) ?_
  refine wend ?_
  refine condFalse rfl ?_
  refine skipAny ?_
  refine thenNormal ?_
  refine seqRegion ?_
  refine sq (r_fieldAddr (off' := 0) fld70_0 (by decide) (b := b1) (off := 0) rfl (by omega)) ?_
  refine sq ((r_loadC (v := i64 (n)) one3 (H56.get (k := 6) rfl) (off := 0) rfl (by rfl)).as (v' := i64 ((z.length : Nat))) (by exact congrArg i64 (by omega))) ?_
  refine q_makeSlice (E := EB) (m := z.length) (c := z.length) (z0 := false) H56 sli76 zer4 rfl byt4 rfl rfl (by first | rfl | omega | (simp; omega)) (by first | rfl | omega | (simp; omega)) (by omega) (by omega) ?_
  intro b57 w59 hS58 H60 hE61
  refine sq (r_assign (v := .slice (ownA (some b57)) z.length z.length) rfl) ?_
  refine wend ?_
  refine seqRegion ?_
  refine sq (r_move (v := .slice (ownA (some b57)) z.length z.length) rfl) ?_
  refine sq (r_move (v := .slice ba bits.length bc) rfl) ?_
  refine q_copy (E := EB) (k := 0) (l := List.replicate z.length false) (l2 := bits) H60 rfl hS58 rfl sli76 (hB.ext H60.chg) rfl (by simp) rfl (by rfl) ?_
  intro w63 hS62 H64
  have H64' := H64.as (L' := [((some b57), sob EB 4 (cpl (List.replicate z.length false) bits) (cel EB (List.replicate (z.length - z.length) false))), (k47, sob ELb 38 tb z49), (k50, sob ELb 38 ot z52), (key38, sob ELb 38 z sp40), (ko22, sob EI 3 l1 spo24), (kg19, sob EG 99 g1 spg21), (some b5, .cells #[u64 (δ.1 ||| (1#64)), u64 (δ.2), .slice za zs.length zc, u64 (first)] 94 (0, 0)), (some b1, .cells #[i64 (n), .slice (ownA kg19) g1.length cg20, .slice (ownA ko22) l1.length co23] 70 (0, 0))]) rfl
  clear H64
  obtain ⟨inp, hinp⟩ : ∃ x, x = cpl (List.replicate z.length false) bits := ⟨_, rfl⟩
  rw [← hinp] at H64' hS62
  have hil : inp.length = z.length := by rw [hinp, cpl_len, List.length_replicate]
  refine wend ?_
  refine seqRegion ?_
  refine sq (r_assign (v := .slice none 0 0) rfl) ?_
  have H65 := H64'.nil (sob ELb 38 [] [])
  refine wend ?_
  refine seqAny ?_
  refine seqRegion ?_
  refine sq (r_move (v := .slice (ownA (some b57)) z.length z.length) rfl) ?_
  refine sq (r_lenS sli76 (a := ownA (some b57)) (m := z.length) (c := z.length) rfl) ?_
  refine sq (r_move (v := i64 ((0 : Int))) rfl) ?_
  refine wend ?_
  refine blockAny ?_
  refine loopAny (σ := Nat × Option Nat × Nat × List Value) (fun (i, k3, c3, z3) => [(3, .pointer (some ⟨b1, 0, none⟩)), (4, .pointer (some ⟨b5, 0, none⟩)), (7, .slice (ownA key38) z.length c39), (8, .slice (ownA k47) tb.length c48), (9, .slice (ownA k50) ot.length c51), (11, .slice (ownA (some b57)) z.length z.length), (12, .slice (ownA k3) i c3), (62, i64 ((z.length : Nat))), (63, i64 ((i : Nat)))]) (fun (i, k3, c3, z3) w' => (i ≤ z.length ∧ Sl ELb k3 (lbS z inp (δ.1 ||| 1#64, δ.2) i) c3 z3) ∧ Hp No w w' [(k3, sob ELb 38 (lbS z inp (δ.1 ||| 1#64, δ.2) i) z3), ((some b57), sob EB 4 inp (cel EB (List.replicate (z.length - z.length) false))), (k47, sob ELb 38 tb z49), (k50, sob ELb 38 ot z52), (key38, sob ELb 38 z sp40), (ko22, sob EI 3 l1 spo24), (kg19, sob EG 99 g1 spg21), (some b5, .cells #[u64 (δ.1 ||| (1#64)), u64 (δ.2), .slice za zs.length zc, u64 (first)] 94 (0, 0)), (some b1, .cells #[i64 (n), .slice (ownA kg19) g1.length cg20, .slice (ownA ko22) l1.length co23] 70 (0, 0))]) (fun (i, k3, c3, z3) => z.length - i) ((0, none, 0, [])) ?_ ?_ ?_
  · exact ⟨rfl, rfl, rfl, rfl, rfl, rfl, rfl, rfl, rfl, trivial⟩
  · exact ⟨⟨Nat.zero_le _, Sl.none⟩, H65⟩
  rintro ⟨i, k3, c3, z3⟩ ρ w66 ⟨⟨hi, h3⟩, HL⟩
  have hsl := lbS_len z inp (δ.1 ||| 1#64, δ.2) i
  refine seqRegion ?_
  refine sq (r_lssI (a := (i : Nat)) (b := (z.length : Nat)) rfl rfl) ?_
  refine wend ?_
  refine seqAny ?_
  refine condProp (((i : Nat) : Int) < (z.length : Nat)) rfl (fun c64 => ?_) (fun c64 => ?_)
  · skip
    refine skipAny ?_
    refine thenNormal ?_
    refine seqAny ?_
    refine blockAny ?_
    refine seqRegion ?_
    refine sq (r_move (v := i64 ((i : Nat))) rfl) ?_
    refine sq (r_assign (v := i64 ((i : Nat))) rfl) ?_
    refine wend ?_
    refine drawE (m := 15) [0, 0, 0, 6, 14, 0, 32, 0, 0, 384, 896, 2046, 4094, 8191, 16383] [12, 13] (fun bs vs w' => match bs, vs with | [false, false], [_, _] => Hp No w w' [(k3, sob ELb 38 (lbS z inp (δ.1 ||| 1#64, δ.2) i) z3), ((some b57), sob EB 4 inp (cel EB (List.replicate (z.length - z.length) false))), (k47, sob ELb 38 tb z49), (k50, sob ELb 38 ot z52), (key38, sob ELb 38 z sp40), (ko22, sob EI 3 l1 spo24), (kg19, sob EG 99 g1 spg21), (some b5, .cells #[u64 (δ.1 ||| (1#64)), u64 (δ.2), .slice za zs.length zc, u64 (first)] 94 (0, 0)), (some b1, .cells #[i64 (n), .slice (ownA kg19) g1.length cg20, .slice (ownA ko22) l1.length co23] 70 (0, 0))] | [true, false], [v12, _] => ∃ (b69 : Nat), v12 = .slice (ownA (some b69)) 1 1 ∧ Sl ELb (some b69) ([lx ((z).getD i lb0) (lw ((inp).getD i false) (δ.1 ||| (1#64), δ.2))] : List (BitVec 64 × BitVec 64)) 1 ([]) ∧ Hp No w w' [((some b69), sob ELb 38 ([lx ((z).getD i lb0) (lw ((inp).getD i false) (δ.1 ||| (1#64), δ.2))] : List (BitVec 64 × BitVec 64)) ([])), (k3, sob ELb 38 (lbS z inp (δ.1 ||| 1#64, δ.2) i) z3), ((some b57), sob EB 4 inp (cel EB (List.replicate (z.length - z.length) false))), (k47, sob ELb 38 tb z49), (k50, sob ELb 38 ot z52), (key38, sob ELb 38 z sp40), (ko22, sob EI 3 l1 spo24), (kg19, sob EG 99 g1 spg21), (some b5, .cells #[u64 (δ.1 ||| (1#64)), u64 (δ.2), .slice za zs.length zc, u64 (first)] 94 (0, 0)), (some b1, .cells #[i64 (n), .slice (ownA kg19) g1.length cg20, .slice (ownA ko22) l1.length co23] 70 (0, 0))] | [true, true], [v12, v13] => ∃ (b69 : Nat) (key75 : Option Nat) (c76 : Nat) (sp77 : List Value), v12 = .slice (ownA (some b69)) 1 1 ∧ v13 = .slice (ownA key75) (i + 1) c76 ∧ Sl ELb (some b69) ([lx ((z).getD i lb0) (lw ((inp).getD i false) (δ.1 ||| (1#64), δ.2))] : List (BitVec 64 × BitVec 64)) 1 ([]) ∧ Sl ELb key75 (lbS z inp (δ.1 ||| 1#64, δ.2) (i + 1)) c76 sp77 ∧ Hp No w w' [((some b69), sob ELb 38 ([lx ((z).getD i lb0) (lw ((inp).getD i false) (δ.1 ||| (1#64), δ.2))] : List (BitVec 64 × BitVec 64)) ([])), (key75, sob ELb 38 (lbS z inp (δ.1 ||| 1#64, δ.2) (i + 1)) sp77), ((some b57), sob EB 4 inp (cel EB (List.replicate (z.length - z.length) false))), (k47, sob ELb 38 tb z49), (k50, sob ELb 38 ot z52), (key38, sob ELb 38 z sp40), (ko22, sob EI 3 l1 spo24), (kg19, sob EG 99 g1 spg21), (some b5, .cells #[u64 (δ.1 ||| (1#64)), u64 (δ.2), .slice za zs.length zc, u64 (first)] 94 (0, 0)), (some b1, .cells #[i64 (n), .slice (ownA kg19) g1.length cg20, .slice (ownA ko22) l1.length co23] 70 (0, 0))] | _, _ => False) mixed (by kernel_rfl) (by kernel_rfl) HL.drew ?_
    refine WalkE.look rfl (fun _ => .slice (ownA k3) i c3) (fun _ _ _ => rfl) (fun L r _ uw _ _ _ _ => Gives.run rfl (r_move (v := .slice (ownA k3) i c3) rfl) ⟨rfl, rfl⟩) ?_
    refine WalkE.look rfl (fun _ => .slice (ownA key38) z.length c39) (fun _ _ _ => rfl) (fun L r _ uw _ _ _ _ => Gives.run rfl (r_move (v := .slice (ownA key38) z.length c39) rfl) ⟨rfl, rfl⟩) ?_
    refine WalkE.look rfl (fun _ => i64 ((i : Nat))) (fun _ _ _ => rfl) (fun L r _ uw _ _ _ _ => Gives.run rfl (r_move (v := i64 ((i : Nat))) rfl) ⟨rfl, rfl⟩) ?_
    refine WalkE.look rfl (fun _ => .pointer (adr (ownA key38) (i * 2))) (fun _ _ _ => rfl) (fun L r uw0 uw hAn hDn hF hEx => ?_) ?_
    · skip
      have b12 : L 12 = false := hDn 12 (by decide) rfl
      have b13 : L 13 = false := hDn 13 (by decide) rfl
      have hb : List.map L [12, 13] = [false, false] := by simp only [List.map_cons, List.map_nil, b12, b13]
      rw [hb] at hF
      have HH := hF
      replace HH := HH.ext hEx
      exact Gives.run rfl (r_idxS (E := ELb) (l := z) (j := i) sli92 (HH.rd (k := 4) rfl hS41) rfl rfl (by first | rfl | omega | (simp; omega)) (by rfl) (by omega)) ⟨rfl, rfl⟩
    refine WalkE.look rfl (fun _ => .agg (cel E64 [((z).getD i lb0).1, ((z).getD i lb0).2]).toArray) (fun _ _ _ => rfl) (fun L r uw0 uw hAn hDn hF hEx => ?_) ?_
    · skip
      have b12 : L 12 = false := hDn 12 (by decide) rfl
      have b13 : L 13 = false := hDn 13 (by decide) rfl
      have hb : List.map L [12, 13] = [false, false] := by simp only [List.map_cons, List.map_nil, b12, b13]
      rw [hb] at hF
      have HH := hF
      replace HH := HH.ext hEx
      exact Gives.run rfl ((r_ldS (E := ELb) (l := z) (j := i) (v := (z).getD i lb0) fits38 (HH.rd (k := 4) rfl hS41) rfl rfl (at_getD (by omega))).as (v' := .agg (cel E64 [((z).getD i lb0).1, ((z).getD i lb0).2]).toArray) rfl) ⟨rfl, rfl⟩
    refine WalkE.look rfl (fun _ => .pointer (some ⟨b5, 0, none⟩)) (fun _ _ _ => rfl) (fun L r _ uw _ _ _ _ => Gives.run rfl (r_fieldAddr (off' := 0) fld94_0 (by decide) (b := b5) (off := 0) rfl (by omega)) ⟨rfl, rfl⟩) ?_
    refine WalkE.look rfl (fun _ => .agg (cel E64 [δ.1 ||| (1#64), δ.2]).toArray) (fun _ _ _ => rfl) (fun L r uw0 uw hAn hDn hF hEx => ?_) ?_
    · skip
      have b12 : L 12 = false := hDn 12 (by decide) rfl
      have b13 : L 13 = false := hDn 13 (by decide) rfl
      have hb : List.map L [12, 13] = [false, false] := by simp only [List.map_cons, List.map_nil, b12, b13]
      rw [hb] at hF
      have HH := hF
      replace HH := HH.ext hEx
      exact Gives.run rfl (r_loadA (cs' := (cel E64 [δ.1 ||| (1#64), δ.2]).toArray) agg38 siz38 (HH.get (k := 7) rfl) (off := 0) rfl (by exact Nat.le_of_ble_eq_true rfl) (by rfl)) ⟨rfl, rfl⟩
    refine WalkE.look rfl (fun _ => .slice (ownA (some b57)) z.length z.length) (fun _ _ _ => rfl) (fun L r _ uw _ _ _ _ => Gives.run rfl (r_move (v := .slice (ownA (some b57)) z.length z.length) rfl) ⟨rfl, rfl⟩) ?_
    refine WalkE.look rfl (fun _ => i64 ((i : Nat))) (fun _ _ _ => rfl) (fun L r _ uw _ _ _ _ => Gives.run rfl (r_move (v := i64 ((i : Nat))) rfl) ⟨rfl, rfl⟩) ?_
    refine WalkE.look rfl (fun _ => .pointer (adr (ownA (some b57)) (i * 1))) (fun _ _ _ => rfl) (fun L r uw0 uw hAn hDn hF hEx => ?_) ?_
    · skip
      have b12 : L 12 = false := hDn 12 (by decide) rfl
      have b13 : L 13 = false := hDn 13 (by decide) rfl
      have hb : List.map L [12, 13] = [false, false] := by simp only [List.map_cons, List.map_nil, b12, b13]
      rw [hb] at hF
      have HH := hF
      replace HH := HH.ext hEx
      exact Gives.run rfl (r_idxS (E := EB) (l := inp) (j := i) sli76 (HH.rd (k := 1) rfl hS62) rfl rfl (by first | rfl | omega | (simp; omega)) (by exact hil.symm) (by omega)) ⟨rfl, rfl⟩
    refine WalkE.look rfl (fun _ => .bool ((inp).getD i false)) (fun _ _ _ => rfl) (fun L r uw0 uw hAn hDn hF hEx => ?_) ?_
    · skip
      have b12 : L 12 = false := hDn 12 (by decide) rfl
      have b13 : L 13 = false := hDn 13 (by decide) rfl
      have hb : List.map L [12, 13] = [false, false] := by simp only [List.map_cons, List.map_nil, b12, b13]
      rw [hb] at hF
      have HH := hF
      replace HH := HH.ext hEx
      exact Gives.run rfl (r_ldS (E := EB) (l := inp) (j := i) (v := (inp).getD i false) fits4 (HH.rd (k := 1) rfl hS62) rfl rfl (at_getD (by omega))) ⟨rfl, rfl⟩
    refine WalkE.call rfl (fun _ => .agg (cel E64 [(lx ((z).getD i lb0) (lw ((inp).getD i false) (δ.1 ||| (1#64), δ.2))).1, (lx ((z).getD i lb0) (lw ((inp).getD i false) (δ.1 ||| (1#64), δ.2))).2]).toArray) (fun _ _ _ => rfl) (fun L r uw0 uw hAn hDn hF hEx => ?_) ?_
    · skip
      have b12 : L 12 = false := hDn 12 (by decide) rfl
      have b13 : L 13 = false := hDn 13 (by decide) rfl
      have hb : List.map L [12, 13] = [false, false] := by simp only [List.map_cons, List.map_nil, b12, b13]
      rw [hb] at hF
      have HH := hF
      replace HH := HH.ext hEx
      exact Gives.call rfl (Enters.callL (vs := [.agg (cel E64 [((z).getD i lb0).1, ((z).getD i lb0).2]).toArray, .agg (cel E64 [δ.1 ||| (1#64), δ.2]).toArray, .bool ((inp).getD i false)]) call48 rfl) (label_ok ((z).getD i lb0) (δ.1 ||| (1#64), δ.2) ((inp).getD i false) uw)
    refine WalkE.eff 0 rfl (fun L r uw0 uw hLn hAn hDn hF hEx => ?_) ?_
    · skip
      have b12 : L 12 = false := hLn
      have b13 : L 13 = false := hDn 13 (by decide) rfl
      have hb : List.map L [12, 13] = [false, false] := by simp only [List.map_cons, List.map_nil, b12, b13]
      rw [hb] at hF ⊢
      have H85 := hF
      replace H85 := H85.ext hEx
      dsimp only
      refine Gives.ofW (d := 78) rfl rfl (fun Q' hK => ?_)
      refine q_buildSlice (E := ELb) (l := ([lx ((z).getD i lb0) (lw ((inp).getD i false) (δ.1 ||| (1#64), δ.2))] : List (BitVec 64 × BitVec 64))) H85 sli92 zer38 (Nat.le_of_ble_eq_true rfl) (ps := [(0, .agg (cel E64 [(lx ((z).getD i lb0) (lw ((inp).getD i false) (δ.1 ||| (1#64), δ.2))).1, (lx ((z).getD i lb0) (lw ((inp).getD i false) (δ.1 ||| (1#64), δ.2))).2]).toArray)]) rfl (by exact fillAll rfl rfl) rfl ?_
      intro b86 w88 hS87 H89 hE90
      exact hK _ _ (show ∃ (b69 : Nat), (_ : Value) = .slice (ownA (some b69)) 1 1 ∧ Sl ELb (some b69) ([lx ((z).getD i lb0) (lw ((inp).getD i false) (δ.1 ||| (1#64), δ.2))] : List (BitVec 64 × BitVec 64)) 1 ([]) ∧ Hp No w w88 [((some b69), sob ELb 38 ([lx ((z).getD i lb0) (lw ((inp).getD i false) (δ.1 ||| (1#64), δ.2))] : List (BitVec 64 × BitVec 64)) ([])), (k3, sob ELb 38 (lbS z inp (δ.1 ||| 1#64, δ.2) i) z3), ((some b57), sob EB 4 inp (cel EB (List.replicate (z.length - z.length) false))), (k47, sob ELb 38 tb z49), (k50, sob ELb 38 ot z52), (key38, sob ELb 38 z sp40), (ko22, sob EI 3 l1 spo24), (kg19, sob EG 99 g1 spg21), (some b5, .cells #[u64 (δ.1 ||| (1#64)), u64 (δ.2), .slice za zs.length zc, u64 (first)] 94 (0, 0)), (some b1, .cells #[i64 (n), .slice (ownA kg19) g1.length cg20, .slice (ownA ko22) l1.length co23] 70 (0, 0))] from ⟨b86, rfl, hS87, ((((((((((H89.pull (k := 9) rfl).pull (k := 9) rfl).pull (k := 9) rfl).pull (k := 9) rfl).pull (k := 9) rfl).pull (k := 9) rfl).pull (k := 9) rfl).pull (k := 9) rfl).pull (k := 9) rfl).pull (k := 9) rfl)⟩)
    refine WalkE.eff 1 rfl (fun L r uw0 uw hLn hAn hDn hF hEx => ?_) ?_
    · skip
      have b12 : L 12 = true := hAn 12 (by decide) rfl
      have b13 : L 13 = false := hLn
      have hb : List.map L [12, 13] = [true, false] := by simp only [List.map_cons, List.map_nil, b12, b13]
      rw [hb] at hF ⊢
      obtain ⟨b69, e12, hS70, H91⟩ := hF
      replace H91 := H91.ext hEx
      dsimp only
      rw [e12]
      refine Gives.ofW (d := 79) rfl rfl (fun Q' hK => ?_)
      refine q_append (E := ELb) (k := 1) (l := lbS z inp (δ.1 ||| 1#64, δ.2) i) (l2 := ([lx ((z).getD i lb0) (lw ((inp).getD i false) (δ.1 ||| (1#64), δ.2))] : List (BitVec 64 × BitVec 64))) H91 rfl h3 sli92 zer38 rfl byt38 (H91.rd (k := 0) rfl hS70) rfl (by rw [lbS_len]) rfl (by rfl) (by omega) ?_
      intro key92 c93 sp94 w96 hS95 hne98 H97
      have H97' := H97.as (L' := [((some b69), sob ELb 38 ([lx ((z).getD i lb0) (lw ((inp).getD i false) (δ.1 ||| (1#64), δ.2))] : List (BitVec 64 × BitVec 64)) ([])), (key92, sob ELb 38 ((lbS z inp (δ.1 ||| 1#64, δ.2) i) ++ ([lx ((z).getD i lb0) (lw ((inp).getD i false) (δ.1 ||| (1#64), δ.2))] : List (BitVec 64 × BitVec 64))) sp94), ((some b57), sob EB 4 inp (cel EB (List.replicate (z.length - z.length) false))), (k47, sob ELb 38 tb z49), (k50, sob ELb 38 ot z52), (key38, sob ELb 38 z sp40), (ko22, sob EI 3 l1 spo24), (kg19, sob EG 99 g1 spg21), (some b5, .cells #[u64 (δ.1 ||| (1#64)), u64 (δ.2), .slice za zs.length zc, u64 (first)] 94 (0, 0)), (some b1, .cells #[i64 (n), .slice (ownA kg19) g1.length cg20, .slice (ownA ko22) l1.length co23] 70 (0, 0))]) rfl
      clear H97
      have e99 : (lbS z inp (δ.1 ||| 1#64, δ.2) i) ++ ([lx ((z).getD i lb0) (lw ((inp).getD i false) (δ.1 ||| (1#64), δ.2))] : List (BitVec 64 × BitVec 64)) = lbS z inp (δ.1 ||| 1#64, δ.2) (i + 1) := by rw [lbS]
      have hS100 := hS95
      rw [e99] at hS100
      have H101 := H97'.as (L' := [((some b69), sob ELb 38 ([lx ((z).getD i lb0) (lw ((inp).getD i false) (δ.1 ||| (1#64), δ.2))] : List (BitVec 64 × BitVec 64)) ([])), (key92, sob ELb 38 (lbS z inp (δ.1 ||| 1#64, δ.2) (i + 1)) sp94), ((some b57), sob EB 4 inp (cel EB (List.replicate (z.length - z.length) false))), (k47, sob ELb 38 tb z49), (k50, sob ELb 38 ot z52), (key38, sob ELb 38 z sp40), (ko22, sob EI 3 l1 spo24), (kg19, sob EG 99 g1 spg21), (some b5, .cells #[u64 (δ.1 ||| (1#64)), u64 (δ.2), .slice za zs.length zc, u64 (first)] 94 (0, 0)), (some b1, .cells #[i64 (n), .slice (ownA kg19) g1.length cg20, .slice (ownA ko22) l1.length co23] 70 (0, 0))]) (by rw [e99])
      exact hK _ _ (show ∃ (b69 : Nat) (key75 : Option Nat) (c76 : Nat) (sp77 : List Value), r 12 = .slice (ownA (some b69)) 1 1 ∧ (_ : Value) = .slice (ownA key75) (i + 1) c76 ∧ Sl ELb (some b69) ([lx ((z).getD i lb0) (lw ((inp).getD i false) (δ.1 ||| (1#64), δ.2))] : List (BitVec 64 × BitVec 64)) 1 ([]) ∧ Sl ELb key75 (lbS z inp (δ.1 ||| 1#64, δ.2) (i + 1)) c76 sp77 ∧ Hp No w w96 [((some b69), sob ELb 38 ([lx ((z).getD i lb0) (lw ((inp).getD i false) (δ.1 ||| (1#64), δ.2))] : List (BitVec 64 × BitVec 64)) ([])), (key75, sob ELb 38 (lbS z inp (δ.1 ||| 1#64, δ.2) (i + 1)) sp77), ((some b57), sob EB 4 inp (cel EB (List.replicate (z.length - z.length) false))), (k47, sob ELb 38 tb z49), (k50, sob ELb 38 ot z52), (key38, sob ELb 38 z sp40), (ko22, sob EI 3 l1 spo24), (kg19, sob EG 99 g1 spg21), (some b5, .cells #[u64 (δ.1 ||| (1#64)), u64 (δ.2), .slice za zs.length zc, u64 (first)] 94 (0, 0)), (some b1, .cells #[i64 (n), .slice (ownA kg19) g1.length cg20, .slice (ownA ko22) l1.length co23] 70 (0, 0))] from ⟨b69, key92, c93, sp94, e12, rfl, hS70, hS100, ((((((((((H101.pull (k := 9) rfl).pull (k := 9) rfl).pull (k := 9) rfl).pull (k := 9) rfl).pull (k := 9) rfl).pull (k := 9) rfl).pull (k := 9) rfl).pull (k := 9) rfl).pull (k := 9) rfl).pull (k := 9) rfl)⟩)
    refine WalkE.look rfl (fun r => r 13) (fun r r' h => h 13 (by decide) rfl) (fun L r _ uw _ _ _ _ => Gives.run rfl (r_assign rfl) ⟨rfl, rfl⟩) ?_
    refine WalkE.nil ?_
    intro r102 uw0 w103 hF hEx
    obtain ⟨b69, key75, c76, sp77, e12, e13, hS70, hS83, H104⟩ := hF
    replace H104 := H104.ext hEx
    dsimp only
    rw [e12, e13]
    refine wnil ?_
    refine blockNormal ?_
    refine thenNormal ?_
    refine oneRegion ?_
    refine sq (r_addI (a := (i : Nat)) (b := (1 : Int)) rfl rfl (by omega)) ?_
    refine sq (r_move (v := i64 ((i : Nat) + (1 : Int))) rfl) ?_
    refine wnil ?_
    refine thenNormal ?_
    exact ⟨(i + 1, key75, c76, sp77), _, rfl, ⟨rfl, rfl, rfl, rfl, rfl, rfl, rfl, rfl, rfl, trivial⟩, ⟨⟨by omega, hS83⟩, (H104.dropk 0)⟩, by show z.length - (i + 1) < z.length - i; omega⟩
  · skip
    obtain rfl : i = z.length := by omega
    obtain ⟨ls, hls⟩ : ∃ x, x = lbS z inp (δ.1 ||| 1#64, δ.2) z.length := ⟨_, rfl⟩
    rw [← hls] at HL h3
    have hlz : ls.length = z.length := by rw [hls, lbS_len]
    refine exitAny ?_
    refine thenExit ?_
    refine thenExit ?_
    refine blockHere ?_
    refine thenNormal ?_
    refine seqRegion ?_
    refine sq (r_loadA (cs' := #[i64 (n), .slice (ownA kg19) g1.length cg20, .slice (ownA ko22) l1.length co23]) agg70 siz70 (HL.get (k := 8) rfl) (off := 0) rfl (by exact Nat.le_of_ble_eq_true rfl) (by rfl)) ?_
    refine sq (r_move (v := .slice (ownA k3) z.length c3) rfl) ?_
    refine sq (r_move (v := .slice (ownA k47) tb.length c48) rfl) ?_
    refine sq (r_fieldAddr (off' := 3) fld94_2 (by decide) (b := b5) (off := 0) rfl (by omega)) ?_
    refine sq (r_loadC (v := u64 (first)) one32 (HL.get (k := 7) rfl) (off := 3) rfl (by rfl)) ?_
    refine c_call (vs := [.agg #[i64 (n), .slice (ownA kg19) g1.length cg20, .slice (ownA ko22) l1.length co23], .slice (ownA k3) z.length c3, .slice (ownA k47) tb.length c48, u64 (first)]) call46 rfl (eval_okL n g1 l1 (ownA kg19) (ownA ko22) cg20 co23 ls tb (ownA k3) (ownA k47) c3 c48 first z.length tb.length (by exact hlz.symm) (by first | rfl | omega | (simp; omega) | (simp at *; omega)) w66 (Chg.gl HL.chg (fun x => x) hG) (HL.rd (k := 6) rfl hSg25) (HL.rd (k := 5) rfl hSo26) (by first | omega | exact Nat.le_of_ble_eq_true rfl) (by first | omega | exact Nat.le_of_ble_eq_true rfl) (HL.rd (k := 0) rfl h3) (HL.rd (k := 2) rfl hS53) hg (by omega) htbl) ?_
    rintro _ w105 ⟨k107, c108, z109, rfl, hS110, HN111⟩
    have H112 := (HL.join HN111).as (L' := [(k107, sob ELb 38 (oL (eS lhash first g1 tb ls g1.length).1 l1 l1.length) z109), (k3, sob ELb 38 ls z3), ((some b57), sob EB 4 inp (cel EB (List.replicate (z.length - z.length) false))), (k47, sob ELb 38 tb z49), (k50, sob ELb 38 ot z52), (key38, sob ELb 38 z sp40), (ko22, sob EI 3 l1 spo24), (kg19, sob EG 99 g1 spg21), (some b5, .cells #[u64 (δ.1 ||| (1#64)), u64 (δ.2), .slice za zs.length zc, u64 (first)] 94 (0, 0)), (some b1, .cells #[i64 (n), .slice (ownA kg19) g1.length cg20, .slice (ownA ko22) l1.length co23] 70 (0, 0))]) rfl
    refine sq (r_move (v := .tuple #[.slice (ownA k107) l1.length c108, .nilIface]) rfl) ?_
    refine sq (r_extract (vs := #[.slice (ownA k107) l1.length c108, .nilIface]) rfl rfl) ?_
    refine sq (r_extract (vs := #[.slice (ownA k107) l1.length c108, .nilIface]) rfl rfl) ?_
    refine sq (r_assign (v := .slice (ownA k107) l1.length c108) rfl) ?_
    refine sq (r_assign (v := .nilIface) rfl) ?_
    obtain ⟨el, hel⟩ : ∃ x, x = oL (eS lhash first g1 tb ls g1.length).1 l1 l1.length := ⟨_, rfl⟩
    rw [← hel] at H112 hS110
    have hell : el.length = l1.length := by rw [hel, oL_len]
    refine wend ?_
    refine seqAny ?_
    refine drawC (m := 7) [0, 1, 0, 4, 0, 31, 63] [1, 5] (fun q vs w' => match q, vs with | 0, [] => Ext w105 w' ∧ Hp No w w' [(k107, sob ELb 38 el z109), (k3, sob ELb 38 ls z3), ((some b57), sob EB 4 inp (cel EB (List.replicate (z.length - z.length) false))), (k47, sob ELb 38 tb z49), (k50, sob ELb 38 ot z52), (key38, sob ELb 38 z sp40), (ko22, sob EI 3 l1 spo24), (kg19, sob EG 99 g1 spg21), (some b5, .cells #[u64 (δ.1 ||| (1#64)), u64 (δ.2), .slice za zs.length zc, u64 (first)] 94 (0, 0)), (some b1, .cells #[i64 (n), .slice (ownA kg19) g1.length cg20, .slice (ownA ko22) l1.length co23] 70 (0, 0))] | 1, [v0] => ∃ (key118 : Option Nat) (c119 : Nat) (sp120 : List Value), v0 = .slice (ownA key118) g1.length c119 ∧ Sl EG key118 g1 c119 sp120 ∧ Ext w105 w' ∧ Hp No w w' [(key118, sob EG 85 g1 sp120), (k107, sob ELb 38 el z109), (k3, sob ELb 38 ls z3), ((some b57), sob EB 4 inp (cel EB (List.replicate (z.length - z.length) false))), (k47, sob ELb 38 tb z49), (k50, sob ELb 38 ot z52), (key38, sob ELb 38 z sp40), (ko22, sob EI 3 l1 spo24), (kg19, sob EG 99 g1 spg21), (some b5, .cells #[u64 (δ.1 ||| (1#64)), u64 (δ.2), .slice za zs.length zc, u64 (first)] 94 (0, 0)), (some b1, .cells #[i64 (n), .slice (ownA kg19) g1.length cg20, .slice (ownA ko22) l1.length co23] 70 (0, 0))] | 2, [v0, v1] => ∃ (key118 : Option Nat) (c119 : Nat) (sp120 : List Value) (key130 : Option Nat) (c131 : Nat) (sp132 : List Value), v0 = .slice (ownA key118) g1.length c119 ∧ v1 = .slice (ownA key130) l1.length c131 ∧ Sl EB key130 (evalS g1 l1 inp) c131 sp132 ∧ Sl EG key118 g1 c119 sp120 ∧ Ext w105 w' ∧ Hp No w w' [(key130, sob EB 4 (evalS g1 l1 inp) sp132), (key118, sob EG 85 g1 sp120), (k107, sob ELb 38 el z109), (k3, sob ELb 38 ls z3), ((some b57), sob EB 4 inp (cel EB (List.replicate (z.length - z.length) false))), (k47, sob ELb 38 tb z49), (k50, sob ELb 38 ot z52), (key38, sob ELb 38 z sp40), (ko22, sob EI 3 l1 spo24), (kg19, sob EG 99 g1 spg21), (some b5, .cells #[u64 (δ.1 ||| (1#64)), u64 (δ.2), .slice za zs.length zc, u64 (first)] 94 (0, 0)), (some b1, .cells #[i64 (n), .slice (ownA kg19) g1.length cg20, .slice (ownA ko22) l1.length co23] 70 (0, 0))] | _, _ => False) mixed (by kernel_rfl) (by kernel_rfl) ⟨Ext.drew _, H112.drew⟩ ?_
    refine WalkC.look rfl (fun _ => .agg #[i64 (n), .slice (ownA kg19) g1.length cg20, .slice (ownA ko22) l1.length co23]) (fun _ _ _ => rfl) (fun q r uw hlo hhi hle hF => ?_) ?_
    · skip
      have h1 : 0 ≤ q := Nat.zero_le _
      have h2 : q ≤ 0 := hhi 0 1 rfl rfl
      rcases (show q = 0 by omega) with rfl
      · skip
        obtain ⟨hX, HH⟩ := hF
        exact Gives.run rfl (r_loadA (cs' := #[i64 (n), .slice (ownA kg19) g1.length cg20, .slice (ownA ko22) l1.length co23]) agg70 siz70 (HH.get (k := 9) rfl) (off := 0) rfl (by exact Nat.le_of_ble_eq_true rfl) (by rfl)) ⟨rfl, rfl⟩
    refine WalkC.eff 0 rfl (fun r uw113 hF115 => ?_) ?_
    · skip
      obtain ⟨hX, H114⟩ := hF115
      dsimp only [List.take, List.map, List.cons_append, List.nil_append]
      refine Gives.ofW (d := 91) rfl rfl (fun Q' hK => ?_)
      refine c_call (vs := [.agg #[i64 (n), .slice (ownA kg19) g1.length cg20, .slice (ownA ko22) l1.length co23]]) call35 rfl (gates_ok n g1 l1 (ownA kg19) (ownA ko22) cg20 co23 uw113 (H114.rd (k := 7) rfl hSg25) (by omega)) ?_
      rintro _ w116 ⟨⟨key118, c119, sp120, rfl, hS121, hk122⟩, hE123⟩
      rw [show g1.length = g1.length from rfl]
      have H124 := H114.add hE123 hk122
      exact hK _ _ ⟨key118, c119, sp120, rfl, hS121, (hX.trans hE123), H124⟩
    refine WalkC.look rfl (fun _ => .pointer (some ⟨b1, 2, none⟩)) (fun _ _ _ => rfl) (fun q r uw _ _ _ _ => Gives.run rfl (r_fieldAddr (off' := 2) fld70_2 (by decide) (b := b1) (off := 0) rfl (by omega)) ⟨rfl, rfl⟩) ?_
    refine WalkC.look rfl (fun _ => .slice (ownA ko22) l1.length co23) (fun _ _ _ => rfl) (fun q r uw hlo hhi hle hF => ?_) ?_
    · skip
      have h1 : 0 ≤ q := Nat.zero_le _
      have h2 : q ≤ 1 := hhi 1 5 rfl rfl
      rcases (show q = 0 ∨ q = 1 by omega) with rfl | rfl
      · skip
        obtain ⟨hX, HH⟩ := hF
        exact Gives.run rfl (r_loadC (v := .slice (ownA ko22) l1.length co23) one60 (HH.get (k := 9) rfl) (off := 2) rfl (by rfl)) ⟨rfl, rfl⟩
      · skip
        obtain ⟨key118, c119, sp120, e1, hS121, hX, HH⟩ := hF
        exact Gives.run rfl (r_loadC (v := .slice (ownA ko22) l1.length co23) one60 (HH.get (k := 10) rfl) (off := 2) rfl (by rfl)) ⟨rfl, rfl⟩
    refine WalkC.look rfl (fun _ => .slice (ownA (some b57)) z.length z.length) (fun _ _ _ => rfl) (fun q r uw _ _ _ _ => Gives.run rfl (r_move (v := .slice (ownA (some b57)) z.length z.length) rfl) ⟨rfl, rfl⟩) ?_
    refine WalkC.eff 1 rfl (fun r uw125 hF127 => ?_) ?_
    · skip
      obtain ⟨key118, c119, sp120, e1, hS121, hX, H126⟩ := hF127
      dsimp only [List.take, List.map, List.cons_append, List.nil_append]
      rw [e1]
      refine Gives.ofW (d := 95) rfl rfl (fun Q' hK => ?_)
      refine c_call (vs := [.slice (ownA key118) g1.length c119, .slice (ownA ko22) l1.length co23, .slice (ownA (some b57)) z.length z.length]) call49 rfl (reval_okL n g1 l1 (ownA key118) (ownA ko22) c119 co23 inp (ownA (some b57)) z.length z.length (by exact hil.symm) uw125 (H126.rd (k := 0) rfl hS121) (H126.rd (k := 7) rfl hSo26) (H126.rd (k := 3) rfl hS62) hg (by omega)) ?_
      rintro _ w128 ⟨⟨key130, c131, sp132, rfl, hS133, hk134⟩, hE135⟩
      rw [show (evalS g1 l1 inp).length = l1.length from evalS_len _ _ _]
      have H136 := H126.add hE135 hk134
      exact hK _ _ ⟨key118, c119, sp120, key130, c131, sp132, rfl, rfl, hS133, hS121, (hX.trans hE135), H136⟩
    refine WalkC.look rfl (fun r => r 5) (fun r r' h => h 5 (by decide) rfl) (fun q r uw _ _ _ _ => Gives.run rfl (r_assign rfl) ⟨rfl, rfl⟩) ?_
    refine WalkC.nil ?_
    intro r137 w138 hF140
    obtain ⟨key118, c119, sp120, key130, c131, sp132, e1, e5, hS133, hS121, hX, H139⟩ := hF140
    dsimp only
    rw [e1, e5]
    obtain ⟨wt, hwt⟩ : ∃ x, x = evalS g1 l1 inp := ⟨_, rfl⟩
    rw [← hwt] at H139 hS133
    have hwtl : wt.length = l1.length := by rw [hwt, evalS_len]
    have hright : ∀ q, q < l1.length → el.getD q lb0 = lx (ot.getD q lb0) (lw (wt.getD q false) (δ.1 ||| 1#64, δ.2)) := by
      rw [hel, htb, hot, hwt]
      exact fun q hq => outs_right (col_or _ _) hlz hil hgz (fun j hj => by rw [hls]; exact lbS_at _ _ _ _ _ hj) q hq
    refine wnil ?_
    refine thenNormal ?_
    refine seqAny ?_
    refine seqRegion ?_
    refine sq (r_move (v := .nilIface) rfl) ?_
    refine sq (r_neqNN isI27 rfl rfl) ?_
    refine sq (r_move (v := .bool (false)) rfl) ?_
    refine sqAny (v := .slice (ownA k107) l1.length c108) (w' := w138) (wantedSome (d' := 98) (b := false) rfl rfl rfl) (r_move (v := .slice (ownA k107) l1.length c108) rfl) ?_
    refine sqAny (v := i64 ((l1.length : Nat))) (w' := w138) (wantedSome (d' := 98) (b := false) rfl rfl rfl) (r_lenS sli92 (a := ownA k107) (m := l1.length) (c := c108) rfl) ?_
    refine sqAny (v := .slice (ownA key130) l1.length c131) (w' := w138) (wantedSome (d' := 98) (b := false) rfl rfl rfl) (r_move (v := .slice (ownA key130) l1.length c131) rfl) ?_
    refine sqAny (v := i64 ((l1.length : Nat))) (w' := w138) (wantedSome (d' := 98) (b := false) rfl rfl rfl) (r_lenS sli76 (a := ownA key130) (m := l1.length) (c := c131) rfl) ?_
    refine sqAny (v := .bool (false)) (w' := w138) (wantedSome (d' := 98) (b := false) rfl rfl rfl) ((r_neqI (a := (l1.length : Nat)) (b := (l1.length : Nat)) rfl rfl).as (v' := .bool (false)) (by simp)) ?_
    refine sq (r_pickF (v := .bool (false)) rfl rfl) ?_
    refine sq (r_move (v := .bool (false)) rfl) ?_
    refine sqAny (v := .slice (ownA k50) ot.length c51) (w' := w138) (wantedSome (d' := 105) (b := false) rfl rfl rfl) (r_move (v := .slice (ownA k50) ot.length c51) rfl) ?_
    refine sqAny (v := i64 ((ot.length : Nat))) (w' := w138) (wantedSome (d' := 105) (b := false) rfl rfl rfl) (r_lenS sli92 (a := ownA k50) (m := ot.length) (c := c51) rfl) ?_
    refine sqAny (v := .slice (ownA key130) l1.length c131) (w' := w138) (wantedSome (d' := 105) (b := false) rfl rfl rfl) (r_move (v := .slice (ownA key130) l1.length c131) rfl) ?_
    refine sqAny (v := i64 ((l1.length : Nat))) (w' := w138) (wantedSome (d' := 105) (b := false) rfl rfl rfl) (r_lenS sli76 (a := ownA key130) (m := l1.length) (c := c131) rfl) ?_
    refine sqAny (v := .bool (false)) (w' := w138) (wantedSome (d' := 105) (b := false) rfl rfl rfl) ((r_neqI (a := (ot.length : Nat)) (b := (l1.length : Nat)) rfl rfl).as (v' := .bool (false)) (by exact congrArg Value.bool (decide_eq_false (by omega)))) ?_
    refine sq (r_pickF (v := .bool (false)) rfl rfl) ?_
    refine wend ?_
    refine condFalse rfl ?_
    refine skipAny ?_
    refine thenNormal ?_
    refine seqAny ?_
    refine seqRegion ?_
    refine sq (r_move (v := .slice (ownA k107) l1.length c108) rfl) ?_
    refine sq (r_lenS sli92 (a := ownA k107) (m := l1.length) (c := c108) rfl) ?_
    refine sq (r_move (v := i64 ((0 : Int))) rfl) ?_
    refine wend ?_
    refine blockAny ?_
    refine loopAny (σ := Nat) (fun q => [(4, .pointer (some ⟨b5, 0, none⟩)), (9, .slice (ownA k50) ot.length c51), (14, .slice (ownA k107) l1.length c108), (16, .slice (ownA key130) l1.length c131), (113, i64 ((l1.length : Nat))), (114, i64 ((q : Nat)))]) (fun q w' => q ≤ l1.length ∧ Hp No w w' [(key130, sob EB 4 wt sp132), (key118, sob EG 85 g1 sp120), (k107, sob ELb 38 el z109), (k3, sob ELb 38 ls z3), ((some b57), sob EB 4 inp (cel EB (List.replicate (z.length - z.length) false))), (k47, sob ELb 38 tb z49), (k50, sob ELb 38 ot z52), (key38, sob ELb 38 z sp40), (ko22, sob EI 3 l1 spo24), (kg19, sob EG 99 g1 spg21), (some b5, .cells #[u64 (δ.1 ||| (1#64)), u64 (δ.2), .slice za zs.length zc, u64 (first)] 94 (0, 0)), (some b1, .cells #[i64 (n), .slice (ownA kg19) g1.length cg20, .slice (ownA ko22) l1.length co23] 70 (0, 0))]) (fun q => l1.length - q) (0) ?_ ?_ ?_
    · exact ⟨rfl, rfl, rfl, rfl, rfl, rfl, trivial⟩
    · exact ⟨by omega, H139⟩
    rintro q ρ w141 ⟨hq, HL2⟩
    refine seqRegion ?_
    refine sq (r_lssI (a := (q : Nat)) (b := (l1.length : Nat)) rfl rfl) ?_
    refine wend ?_
    refine seqAny ?_
    refine condProp (((q : Nat) : Int) < (l1.length : Nat)) rfl (fun c115 => ?_) (fun c115 => ?_)
    · skip
      refine skipAny ?_
      refine thenNormal ?_
      refine seqAny ?_
      refine blockAny ?_
      refine seqRegion ?_
      refine sq (r_move (v := i64 ((q : Nat))) rfl) ?_
      refine sq (r_assign (v := i64 ((q : Nat))) rfl) ?_
      refine wend ?_
      refine seqRegion ?_
      refine sq (r_move (v := .slice (ownA k50) ot.length c51) rfl) ?_
      refine sq (r_move (v := i64 ((q : Nat))) rfl) ?_
      refine sq (r_idxS (E := ELb) (l := ot) (j := q) sli92 (HL2.rd (k := 6) rfl hS54) rfl rfl (by first | rfl | omega | (simp; omega)) (by first | rfl | omega | (simp; omega) | (simp at *; omega)) (by omega)) ?_
      refine sq ((r_ldS (E := ELb) (l := ot) (j := q) (v := (ot).getD q lb0) fits38 (HL2.rd (k := 6) rfl hS54) rfl rfl (at_getD (by omega))).as (v' := .agg (cel E64 [((ot).getD q lb0).1, ((ot).getD q lb0).2]).toArray) rfl) ?_
      refine q_alloc (o := .cells (cel E64 ([0#64, 0#64])).toArray 38 (0, 0)) HL2 zer38 (by kernel_rfl) ?_
      intro b143 w144 hb143 H145 hE146
      refine d_store (k := 0) (v := .agg (cel E64 [((ot).getD q lb0).1, ((ot).getD q lb0).2]).toArray) (cs' := (cel E64 ([((ot).getD q lb0).1, ((ot).getD q lb0).2])).toArray) H145 rfl rfl rfl siz38 (by exact celSize (by first | rfl | (show _ * 1 = _; omega))) (by exact celOne _) (by rw [List.size_toArray, cel_length]; show _ ≤ _ * 1; first | omega | (simp only [List.length_set]; omega) | exact Nat.le_of_ble_eq_true rfl | (simp <;> omega)) (by exact putAll (by first | rfl | omega | (simp <;> omega))) ?_
      intro w147 H148 hC149
      have H148' := H148.as (L' := [(some b143, .cells (cel E64 ([((ot).getD q lb0).1, ((ot).getD q lb0).2])).toArray 38 (0, 0)), (key130, sob EB 4 wt sp132), (key118, sob EG 85 g1 sp120), (k107, sob ELb 38 el z109), (k3, sob ELb 38 ls z3), ((some b57), sob EB 4 inp (cel EB (List.replicate (z.length - z.length) false))), (k47, sob ELb 38 tb z49), (k50, sob ELb 38 ot z52), (key38, sob ELb 38 z sp40), (ko22, sob EI 3 l1 spo24), (kg19, sob EG 99 g1 spg21), (some b5, .cells #[u64 (δ.1 ||| (1#64)), u64 (δ.2), .slice za zs.length zc, u64 (first)] 94 (0, 0)), (some b1, .cells #[i64 (n), .slice (ownA kg19) g1.length cg20, .slice (ownA ko22) l1.length co23] 70 (0, 0))]) rfl
      clear H148
      refine wend ?_
      refine seqAny ?_
      refine seqRegion ?_
      refine sq (r_move (v := .slice (ownA key130) l1.length c131) rfl) ?_
      refine sq (r_move (v := i64 ((q : Nat))) rfl) ?_
      refine sq (r_idxS (E := EB) (l := wt) (j := q) sli76 (H148'.rd (k := 1) rfl hS133) rfl rfl (by first | rfl | omega | (simp; omega)) (by exact hwtl.symm) (by omega)) ?_
      refine sq (r_ldS (E := EB) (l := wt) (j := q) (v := (wt).getD q false) fits4 (H148'.rd (k := 1) rfl hS133) rfl rfl (at_getD (by omega))) ?_
      refine wend ?_
      refine condBool ((wt).getD q false) rfl (fun c124 => ?_) (fun c124 => ?_)
      · skip
        have hx := hright q (by omega)
        rw [c124, lw_true] at hx
        refine oneRegion ?_
        refine sq (r_loadA (cs' := (cel E64 ([((ot).getD q lb0).1, ((ot).getD q lb0).2])).toArray) agg38 siz38 (H148'.get (k := 0) rfl) (off := 0) rfl (by exact Nat.le_of_ble_eq_true rfl) (by exact ext_all rfl)) ?_
        refine sq (r_fieldAddr (off' := 0) fld94_0 (by decide) (b := b5) (off := 0) rfl (by omega)) ?_
        refine sq (r_loadA (cs' := (cel E64 [δ.1 ||| (1#64), δ.2]).toArray) agg38 siz38 (H148'.get (k := 11) rfl) (off := 0) rfl (by exact Nat.le_of_ble_eq_true rfl) (by rfl)) ?_
        refine c_call (vs := [.agg (cel E64 ([((ot).getD q lb0).1, ((ot).getD q lb0).2])).toArray, .agg (cel E64 [δ.1 ||| (1#64), δ.2]).toArray]) call50 rfl (rlx_ok ((ot).getD q lb0) (δ.1 ||| (1#64), δ.2) w147) ?_
        rintro _ w150 ⟨rfl, hE151⟩
        have H152 := H148'.ext hE151
        refine d_store (k := 0) (v := .agg (cel E64 [(lx ((ot).getD q lb0) (δ.1 ||| (1#64), δ.2)).1, (lx ((ot).getD q lb0) (δ.1 ||| (1#64), δ.2)).2]).toArray) (cs' := (cel E64 ([(lx ((ot).getD q lb0) (δ.1 ||| (1#64), δ.2)).1, (lx ((ot).getD q lb0) (δ.1 ||| (1#64), δ.2)).2])).toArray) H152 rfl rfl rfl siz38 (by exact celSize (by first | rfl | (show _ * 1 = _; omega))) (by exact celOne _) (by rw [List.size_toArray, cel_length]; show _ ≤ _ * 1; first | omega | (simp only [List.length_set]; omega) | exact Nat.le_of_ble_eq_true rfl | (simp <;> omega)) (by exact putAll (by first | rfl | omega | (simp <;> omega))) ?_
        intro w153 H154 hC155
        have H154' := H154.as (L' := [(some b143, .cells (cel E64 ([(lx ((ot).getD q lb0) (δ.1 ||| (1#64), δ.2)).1, (lx ((ot).getD q lb0) (δ.1 ||| (1#64), δ.2)).2])).toArray 38 (0, 0)), (key130, sob EB 4 wt sp132), (key118, sob EG 85 g1 sp120), (k107, sob ELb 38 el z109), (k3, sob ELb 38 ls z3), ((some b57), sob EB 4 inp (cel EB (List.replicate (z.length - z.length) false))), (k47, sob ELb 38 tb z49), (k50, sob ELb 38 ot z52), (key38, sob ELb 38 z sp40), (ko22, sob EI 3 l1 spo24), (kg19, sob EG 99 g1 spg21), (some b5, .cells #[u64 (δ.1 ||| (1#64)), u64 (δ.2), .slice za zs.length zc, u64 (first)] 94 (0, 0)), (some b1, .cells #[i64 (n), .slice (ownA kg19) g1.length cg20, .slice (ownA ko22) l1.length co23] 70 (0, 0))]) rfl
        clear H154
        refine wnil ?_
        refine thenNormal ?_
        refine seqAny ?_
        refine drawAny (K := [none, none, none, none, none, none, none, none, none, none, none, none, none, none, none, none, none, none, none, none, none]) [0, 0, 3, 7, 0, 31, 63, 127, 127, 511, 1023, 127, 2175, 127, 127, 24703, 57471, 131071, 127, 524287, 1048575] (fun w' => Ext w153 w') (fun w' w'' => Ext w' w'') mixed (by kernel_rfl) (Ext.drew _) (fun _ _ h h' => h.trans h') ?_ ?_
        · exact relNone (by decide)
        refine ⟨.slice (ownA k107) l1.length c108, fun _ uw156 hC157 _ => Gives.run rfl (r_move (v := .slice (ownA k107) l1.length c108) rfl) ⟨rfl, Chg.refl _ _⟩, ?_⟩
        refine ⟨i64 ((q : Nat)), fun _ uw158 hC159 _ => Gives.run rfl (r_move (v := i64 ((q : Nat))) rfl) ⟨rfl, Chg.refl _ _⟩, ?_⟩
        refine ⟨.pointer (adr (ownA k107) (q * 2)), fun _ uw160 hC161 _ => Gives.run rfl (r_idxS (E := ELb) (l := el) (j := q) sli92 ((H154'.ext hC161).rd (k := 3) rfl hS110) rfl rfl (by first | rfl | omega | (simp; omega)) (by exact hell.symm) (by omega)) ⟨rfl, Chg.refl _ _⟩, ?_⟩
        refine ⟨.agg (cel E64 [((el).getD q lb0).1, ((el).getD q lb0).2]).toArray, fun _ uw162 hC163 _ => Gives.run rfl ((r_ldS (E := ELb) (l := el) (j := q) (v := (el).getD q lb0) fits38 ((H154'.ext hC163).rd (k := 3) rfl hS110) rfl rfl (at_getD (by omega))).as (v' := .agg (cel E64 [((el).getD q lb0).1, ((el).getD q lb0).2]).toArray) rfl) ⟨rfl, Chg.refl _ _⟩, ?_⟩
        refine ⟨.agg (cel E64 ([(lx ((ot).getD q lb0) (δ.1 ||| (1#64), δ.2)).1, (lx ((ot).getD q lb0) (δ.1 ||| (1#64), δ.2)).2])).toArray, fun _ uw164 hC165 _ => Gives.run rfl (r_loadA (cs' := (cel E64 ([(lx ((ot).getD q lb0) (δ.1 ||| (1#64), δ.2)).1, (lx ((ot).getD q lb0) (δ.1 ||| (1#64), δ.2)).2])).toArray) agg38 siz38 ((H154'.ext hC165).get (k := 0) rfl) (off := 0) rfl (by exact Nat.le_of_ble_eq_true rfl) (by exact ext_all rfl)) ⟨rfl, Chg.refl _ _⟩, ?_⟩
        refine ⟨.bool (false), fun _ uw166 hC167 _ => Gives.run rfl ((r_neqA (E := E64) (l := [((el).getD q lb0).1, ((el).getD q lb0).2]) (l' := [(lx ((ot).getD q lb0) (δ.1 ||| (1#64), δ.2)).1, (lx ((ot).getD q lb0) (δ.1 ||| (1#64), δ.2)).2]) gty38 und38 fits32 (eqAt64 und32) (rfl) (rfl) rfl rfl).as (v' := .bool (false)) (by rw [hx]; simp)) ⟨rfl, Chg.refl _ _⟩, ?_⟩
        refine ⟨.bool (false), fun _ uw168 hC169 _ => Gives.run rfl (r_move (v := .bool (false)) rfl) ⟨rfl, Chg.refl _ _⟩, ?_⟩
        refine ⟨.slice (ownA k50) ot.length c51, fun _ uw170 hC171 _ => Gives.runW (wantedSome (d' := 135) (b := false) rfl rfl rfl) (r_move (v := .slice (ownA k50) ot.length c51) rfl) ⟨rfl, Chg.refl _ _⟩, ?_⟩
        refine ⟨i64 ((q : Nat)), fun _ uw172 hC173 _ => Gives.runW (wantedSome (d' := 135) (b := false) rfl rfl rfl) (r_move (v := i64 ((q : Nat))) rfl) ⟨rfl, Chg.refl _ _⟩, ?_⟩
        refine ⟨.pointer (adr (ownA k50) (q * 2)), fun _ uw174 hC175 _ => Gives.runW (wantedSome (d' := 135) (b := false) rfl rfl rfl) (r_idxS (E := ELb) (l := ot) (j := q) sli92 ((H154'.ext hC175).rd (k := 7) rfl hS54) rfl rfl (by first | rfl | omega | (simp; omega)) (by first | rfl | omega | (simp; omega) | (simp at *; omega)) (by omega)) ⟨rfl, Chg.refl _ _⟩, ?_⟩
        refine ⟨.agg (cel E64 [((ot).getD q lb0).1, ((ot).getD q lb0).2]).toArray, fun _ uw176 hC177 _ => Gives.runW (wantedSome (d' := 135) (b := false) rfl rfl rfl) ((r_ldS (E := ELb) (l := ot) (j := q) (v := (ot).getD q lb0) fits38 ((H154'.ext hC177).rd (k := 7) rfl hS54) rfl rfl (at_getD (by omega))).as (v' := .agg (cel E64 [((ot).getD q lb0).1, ((ot).getD q lb0).2]).toArray) rfl) ⟨rfl, Chg.refl _ _⟩, ?_⟩
        refine ⟨.pointer (some ⟨b5, 0, none⟩), fun _ uw178 hC179 _ => Gives.runW (wantedSome (d' := 135) (b := false) rfl rfl rfl) (r_fieldAddr (off' := 0) fld94_0 (by decide) (b := b5) (off := 0) rfl (by omega)) ⟨rfl, Chg.refl _ _⟩, ?_⟩
        refine ⟨.agg (cel E64 [δ.1 ||| (1#64), δ.2]).toArray, fun _ uw180 hC181 _ => Gives.runW (wantedSome (d' := 135) (b := false) rfl rfl rfl) (r_loadA (cs' := (cel E64 [δ.1 ||| (1#64), δ.2]).toArray) agg38 siz38 ((H154'.ext hC181).get (k := 11) rfl) (off := 0) rfl (by exact Nat.le_of_ble_eq_true rfl) (by rfl)) ⟨rfl, Chg.refl _ _⟩, ?_⟩
        refine ⟨.slice (ownA key130) l1.length c131, fun _ uw182 hC183 _ => Gives.runW (wantedSome (d' := 135) (b := false) rfl rfl rfl) (r_move (v := .slice (ownA key130) l1.length c131) rfl) ⟨rfl, Chg.refl _ _⟩, ?_⟩
        refine ⟨i64 ((q : Nat)), fun _ uw184 hC185 _ => Gives.runW (wantedSome (d' := 135) (b := false) rfl rfl rfl) (r_move (v := i64 ((q : Nat))) rfl) ⟨rfl, Chg.refl _ _⟩, ?_⟩
        refine ⟨.pointer (adr (ownA key130) (q * 1)), fun _ uw186 hC187 _ => Gives.runW (wantedSome (d' := 135) (b := false) rfl rfl rfl) (r_idxS (E := EB) (l := wt) (j := q) sli76 ((H154'.ext hC187).rd (k := 1) rfl hS133) rfl rfl (by first | rfl | omega | (simp; omega)) (by exact hwtl.symm) (by omega)) ⟨rfl, Chg.refl _ _⟩, ?_⟩
        refine ⟨.bool ((wt).getD q false), fun _ uw188 hC189 _ => Gives.runW (wantedSome (d' := 135) (b := false) rfl rfl rfl) (r_ldS (E := EB) (l := wt) (j := q) (v := (wt).getD q false) fits4 ((H154'.ext hC189).rd (k := 1) rfl hS133) rfl rfl (at_getD (by omega))) ⟨rfl, Chg.refl _ _⟩, ?_⟩
        refine ⟨.agg (cel E64 [(lx ((ot).getD q lb0) (lw ((wt).getD q false) (δ.1 ||| (1#64), δ.2))).1, (lx ((ot).getD q lb0) (lw ((wt).getD q false) (δ.1 ||| (1#64), δ.2))).2]).toArray, fun _ uw190 hC191 _ => Gives.callW (wantedSome (d' := 135) (b := false) rfl rfl rfl) (Enters.callL (vs := [.agg (cel E64 [((ot).getD q lb0).1, ((ot).getD q lb0).2]).toArray, .agg (cel E64 [δ.1 ||| (1#64), δ.2]).toArray, .bool ((wt).getD q false)]) call48 rfl) (label_ok ((ot).getD q lb0) (δ.1 ||| (1#64), δ.2) ((wt).getD q false) uw190), ?_⟩
        refine ⟨.agg (cel E64 ([(lx ((ot).getD q lb0) (δ.1 ||| (1#64), δ.2)).1, (lx ((ot).getD q lb0) (δ.1 ||| (1#64), δ.2)).2])).toArray, fun _ uw192 hC193 _ => Gives.runW (wantedSome (d' := 135) (b := false) rfl rfl rfl) (r_loadA (cs' := (cel E64 ([(lx ((ot).getD q lb0) (δ.1 ||| (1#64), δ.2)).1, (lx ((ot).getD q lb0) (δ.1 ||| (1#64), δ.2)).2])).toArray) agg38 siz38 ((H154'.ext hC193).get (k := 0) rfl) (off := 0) rfl (by exact Nat.le_of_ble_eq_true rfl) (by exact ext_all rfl)) ⟨rfl, Chg.refl _ _⟩, ?_⟩
        refine ⟨.bool (false), fun _ uw194 hC195 _ => Gives.runW (wantedSome (d' := 135) (b := false) rfl rfl rfl) ((r_neqA (E := E64) (l := [(lx ((ot).getD q lb0) (lw ((wt).getD q false) (δ.1 ||| (1#64), δ.2))).1, (lx ((ot).getD q lb0) (lw ((wt).getD q false) (δ.1 ||| (1#64), δ.2))).2]) (l' := [(lx ((ot).getD q lb0) (δ.1 ||| (1#64), δ.2)).1, (lx ((ot).getD q lb0) (δ.1 ||| (1#64), δ.2)).2]) gty38 und38 fits32 (eqAt64 und32) (rfl) (rfl) rfl rfl).as (v' := .bool (false)) (by rw [c124, lw_true]; simp)) ⟨rfl, Chg.refl _ _⟩, ?_⟩
        refine ⟨.bool (false), fun _ uw196 hC197 _ => Gives.run rfl (r_pickF (v := .bool (false)) rfl rfl) ⟨rfl, Chg.refl _ _⟩, ?_⟩
        intro r201 w198 hE200 hF
        have H199 := H154'.ext hE200
        refine wnil ?_
        refine thenNormal ?_
        refine condFalse rfl ?_
        refine skipAny ?_
        refine blockNormal ?_
        refine thenNormal ?_
        refine oneRegion ?_
        refine sq (r_addI (a := (q : Nat)) (b := (1 : Int)) rfl rfl (by omega)) ?_
        refine sq (r_move (v := i64 ((q : Nat) + (1 : Int))) rfl) ?_
        refine wnil ?_
        refine thenNormal ?_
        exact ⟨q + 1, _, rfl, ⟨rfl, rfl, rfl, rfl, rfl, rfl, trivial⟩, ⟨by omega, (H199.dropk 0)⟩, by show l1.length - (q + 1) < l1.length - q; omega⟩
      · skip
        have hx := hright q (by omega)
        rw [c124, lw_false, lx_zero_r] at hx
        refine skipAny ?_
        refine thenNormal ?_
        refine seqAny ?_
        refine drawAny (K := [none, none, none, none, none, none, none, none, none, none, none, none, none, none, none, none, none, none, none, none, none]) [0, 0, 3, 7, 0, 31, 63, 127, 127, 511, 1023, 127, 2175, 127, 127, 24703, 57471, 131071, 127, 524287, 1048575] (fun w' => Ext w147 w') (fun w' w'' => Ext w' w'') mixed (by kernel_rfl) (Ext.drew _) (fun _ _ h h' => h.trans h') ?_ ?_
        · exact relNone (by decide)
        refine ⟨.slice (ownA k107) l1.length c108, fun _ uw202 hC203 _ => Gives.run rfl (r_move (v := .slice (ownA k107) l1.length c108) rfl) ⟨rfl, Chg.refl _ _⟩, ?_⟩
        refine ⟨i64 ((q : Nat)), fun _ uw204 hC205 _ => Gives.run rfl (r_move (v := i64 ((q : Nat))) rfl) ⟨rfl, Chg.refl _ _⟩, ?_⟩
        refine ⟨.pointer (adr (ownA k107) (q * 2)), fun _ uw206 hC207 _ => Gives.run rfl (r_idxS (E := ELb) (l := el) (j := q) sli92 ((H148'.ext hC207).rd (k := 3) rfl hS110) rfl rfl (by first | rfl | omega | (simp; omega)) (by exact hell.symm) (by omega)) ⟨rfl, Chg.refl _ _⟩, ?_⟩
        refine ⟨.agg (cel E64 [((el).getD q lb0).1, ((el).getD q lb0).2]).toArray, fun _ uw208 hC209 _ => Gives.run rfl ((r_ldS (E := ELb) (l := el) (j := q) (v := (el).getD q lb0) fits38 ((H148'.ext hC209).rd (k := 3) rfl hS110) rfl rfl (at_getD (by omega))).as (v' := .agg (cel E64 [((el).getD q lb0).1, ((el).getD q lb0).2]).toArray) rfl) ⟨rfl, Chg.refl _ _⟩, ?_⟩
        refine ⟨.agg (cel E64 ([((ot).getD q lb0).1, ((ot).getD q lb0).2])).toArray, fun _ uw210 hC211 _ => Gives.run rfl (r_loadA (cs' := (cel E64 ([((ot).getD q lb0).1, ((ot).getD q lb0).2])).toArray) agg38 siz38 ((H148'.ext hC211).get (k := 0) rfl) (off := 0) rfl (by exact Nat.le_of_ble_eq_true rfl) (by exact ext_all rfl)) ⟨rfl, Chg.refl _ _⟩, ?_⟩
        refine ⟨.bool (false), fun _ uw212 hC213 _ => Gives.run rfl ((r_neqA (E := E64) (l := [((el).getD q lb0).1, ((el).getD q lb0).2]) (l' := [((ot).getD q lb0).1, ((ot).getD q lb0).2]) gty38 und38 fits32 (eqAt64 und32) (rfl) (rfl) rfl rfl).as (v' := .bool (false)) (by rw [hx]; simp)) ⟨rfl, Chg.refl _ _⟩, ?_⟩
        refine ⟨.bool (false), fun _ uw214 hC215 _ => Gives.run rfl (r_move (v := .bool (false)) rfl) ⟨rfl, Chg.refl _ _⟩, ?_⟩
        refine ⟨.slice (ownA k50) ot.length c51, fun _ uw216 hC217 _ => Gives.runW (wantedSome (d' := 135) (b := false) rfl rfl rfl) (r_move (v := .slice (ownA k50) ot.length c51) rfl) ⟨rfl, Chg.refl _ _⟩, ?_⟩
        refine ⟨i64 ((q : Nat)), fun _ uw218 hC219 _ => Gives.runW (wantedSome (d' := 135) (b := false) rfl rfl rfl) (r_move (v := i64 ((q : Nat))) rfl) ⟨rfl, Chg.refl _ _⟩, ?_⟩
        refine ⟨.pointer (adr (ownA k50) (q * 2)), fun _ uw220 hC221 _ => Gives.runW (wantedSome (d' := 135) (b := false) rfl rfl rfl) (r_idxS (E := ELb) (l := ot) (j := q) sli92 ((H148'.ext hC221).rd (k := 7) rfl hS54) rfl rfl (by first | rfl | omega | (simp; omega)) (by first | rfl | omega | (simp; omega) | (simp at *; omega)) (by omega)) ⟨rfl, Chg.refl _ _⟩, ?_⟩
        refine ⟨.agg (cel E64 [((ot).getD q lb0).1, ((ot).getD q lb0).2]).toArray, fun _ uw222 hC223 _ => Gives.runW (wantedSome (d' := 135) (b := false) rfl rfl rfl) ((r_ldS (E := ELb) (l := ot) (j := q) (v := (ot).getD q lb0) fits38 ((H148'.ext hC223).rd (k := 7) rfl hS54) rfl rfl (at_getD (by omega))).as (v' := .agg (cel E64 [((ot).getD q lb0).1, ((ot).getD q lb0).2]).toArray) rfl) ⟨rfl, Chg.refl _ _⟩, ?_⟩
        refine ⟨.pointer (some ⟨b5, 0, none⟩), fun _ uw224 hC225 _ => Gives.runW (wantedSome (d' := 135) (b := false) rfl rfl rfl) (r_fieldAddr (off' := 0) fld94_0 (by decide) (b := b5) (off := 0) rfl (by omega)) ⟨rfl, Chg.refl _ _⟩, ?_⟩
        refine ⟨.agg (cel E64 [δ.1 ||| (1#64), δ.2]).toArray, fun _ uw226 hC227 _ => Gives.runW (wantedSome (d' := 135) (b := false) rfl rfl rfl) (r_loadA (cs' := (cel E64 [δ.1 ||| (1#64), δ.2]).toArray) agg38 siz38 ((H148'.ext hC227).get (k := 11) rfl) (off := 0) rfl (by exact Nat.le_of_ble_eq_true rfl) (by rfl)) ⟨rfl, Chg.refl _ _⟩, ?_⟩
        refine ⟨.slice (ownA key130) l1.length c131, fun _ uw228 hC229 _ => Gives.runW (wantedSome (d' := 135) (b := false) rfl rfl rfl) (r_move (v := .slice (ownA key130) l1.length c131) rfl) ⟨rfl, Chg.refl _ _⟩, ?_⟩
        refine ⟨i64 ((q : Nat)), fun _ uw230 hC231 _ => Gives.runW (wantedSome (d' := 135) (b := false) rfl rfl rfl) (r_move (v := i64 ((q : Nat))) rfl) ⟨rfl, Chg.refl _ _⟩, ?_⟩
        refine ⟨.pointer (adr (ownA key130) (q * 1)), fun _ uw232 hC233 _ => Gives.runW (wantedSome (d' := 135) (b := false) rfl rfl rfl) (r_idxS (E := EB) (l := wt) (j := q) sli76 ((H148'.ext hC233).rd (k := 1) rfl hS133) rfl rfl (by first | rfl | omega | (simp; omega)) (by exact hwtl.symm) (by omega)) ⟨rfl, Chg.refl _ _⟩, ?_⟩
        refine ⟨.bool ((wt).getD q false), fun _ uw234 hC235 _ => Gives.runW (wantedSome (d' := 135) (b := false) rfl rfl rfl) (r_ldS (E := EB) (l := wt) (j := q) (v := (wt).getD q false) fits4 ((H148'.ext hC235).rd (k := 1) rfl hS133) rfl rfl (at_getD (by omega))) ⟨rfl, Chg.refl _ _⟩, ?_⟩
        refine ⟨.agg (cel E64 [(lx ((ot).getD q lb0) (lw ((wt).getD q false) (δ.1 ||| (1#64), δ.2))).1, (lx ((ot).getD q lb0) (lw ((wt).getD q false) (δ.1 ||| (1#64), δ.2))).2]).toArray, fun _ uw236 hC237 _ => Gives.callW (wantedSome (d' := 135) (b := false) rfl rfl rfl) (Enters.callL (vs := [.agg (cel E64 [((ot).getD q lb0).1, ((ot).getD q lb0).2]).toArray, .agg (cel E64 [δ.1 ||| (1#64), δ.2]).toArray, .bool ((wt).getD q false)]) call48 rfl) (label_ok ((ot).getD q lb0) (δ.1 ||| (1#64), δ.2) ((wt).getD q false) uw236), ?_⟩
        refine ⟨.agg (cel E64 ([((ot).getD q lb0).1, ((ot).getD q lb0).2])).toArray, fun _ uw238 hC239 _ => Gives.runW (wantedSome (d' := 135) (b := false) rfl rfl rfl) (r_loadA (cs' := (cel E64 ([((ot).getD q lb0).1, ((ot).getD q lb0).2])).toArray) agg38 siz38 ((H148'.ext hC239).get (k := 0) rfl) (off := 0) rfl (by exact Nat.le_of_ble_eq_true rfl) (by exact ext_all rfl)) ⟨rfl, Chg.refl _ _⟩, ?_⟩
        refine ⟨.bool (false), fun _ uw240 hC241 _ => Gives.runW (wantedSome (d' := 135) (b := false) rfl rfl rfl) ((r_neqA (E := E64) (l := [(lx ((ot).getD q lb0) (lw ((wt).getD q false) (δ.1 ||| (1#64), δ.2))).1, (lx ((ot).getD q lb0) (lw ((wt).getD q false) (δ.1 ||| (1#64), δ.2))).2]) (l' := [((ot).getD q lb0).1, ((ot).getD q lb0).2]) gty38 und38 fits32 (eqAt64 und32) (rfl) (rfl) rfl rfl).as (v' := .bool (false)) (by rw [c124, lw_false, lx_zero_r]; simp)) ⟨rfl, Chg.refl _ _⟩, ?_⟩
        refine ⟨.bool (false), fun _ uw242 hC243 _ => Gives.run rfl (r_pickF (v := .bool (false)) rfl rfl) ⟨rfl, Chg.refl _ _⟩, ?_⟩
        intro r247 w244 hE246 hF
        have H245 := H148'.ext hE246
        refine wnil ?_
        refine thenNormal ?_
        refine condFalse rfl ?_
        refine skipAny ?_
        refine blockNormal ?_
        refine thenNormal ?_
        refine oneRegion ?_
        refine sq (r_addI (a := (q : Nat)) (b := (1 : Int)) rfl rfl (by omega)) ?_
        refine sq (r_move (v := i64 ((q : Nat) + (1 : Int))) rfl) ?_
        refine wnil ?_
        refine thenNormal ?_
        exact ⟨q + 1, _, rfl, ⟨rfl, rfl, rfl, rfl, rfl, rfl, trivial⟩, ⟨by omega, (H245.dropk 0)⟩, by show l1.length - (q + 1) < l1.length - q; omega⟩
    · skip
      refine exitAny ?_
      refine thenExit ?_
      refine thenExit ?_
      refine blockHere ?_
      refine thenNormal ?_
      refine seqRegion ?_
      refine sq (r_move (v := .slice (ownA k107) l1.length c108) rfl) ?_
      refine c_call (vs := [.slice (ownA k107) l1.length c108]) call51 rfl (colours_ok el (ownA k107) l1.length c108 (by exact hell.symm) (by omega) w141 (HL2.rd (k := 2) rfl hS110)) ?_
      rintro _ w248 ⟨rfl, hE249⟩
      have H250 := HL2.ext hE249
      refine sq (r_move (v := .slice (ownA k107) l1.length c108) rfl) ?_
      refine c_call (vs := [.slice (ownA k107) l1.length c108]) call52 rfl (rcolours_ok el (ownA k107) l1.length c108 (by exact hell.symm) (by omega) w248 (H250.rd (k := 2) rfl hS110)) ?_
      rintro _ w251 ⟨rfl, hE252⟩
      have H253 := H250.ext hE252
      refine sq ((r_eql64 (a := colS el (min el.length 64)) (b := rcolS el (min el.length 64)) rfl rfl).as (v' := .bool (true)) (by rw [rcol_eq]; simp)) ?_
      refine sq (r_assign (v := .bool (true)) rfl) ?_
      refine wend ?_
      refine retAny ?_
      refine retG (rs := [.tmp 6]) (vs := [.bool (true)]) rfl ⟨⟨rfl, rfl⟩, trivial⟩ ?_
      exact ⟨_, rfl, rfl, H253.chg⟩
set_option maxHeartbeats 1000000 in
theorem gright_bad (n : Int) (gs : List Gt) (ol : List Int) (ga oa : Option Addr) (gc oc : Nat) (δ : Lb) (zs : List Lb) (za : Option Addr) (zc : Nat) (first : BitVec 64) (hgc : gs.length ≤ gc) (hoc : ol.length ≤ oc) (hzc : zs.length ≤ zc) (w : World) (hG : Gl w) (hGs : Rd EG w ga gs) (hOl : Rd EI w oa ol) (hZ : Rd ELb w za zs) (hzs : zs.length ≤ 140737488355328) (bits : List Bool) (ba : Option Addr) (bc : Nat) (hB : Rd EB w ba bits) (hbl : bits.length ≤ 140737488355328) (h1s : gs.length ≤ 60) (h2s : n ≤ 200) (hg : ¬ IsC n (gs.take 4200) (ol.take 80)) : Calls Tryd.prog 10 [.agg #[i64 (n), .slice ga gs.length gc, .slice oa ol.length oc], .agg #[u64 (δ.1), u64 (δ.2), .slice za zs.length zc, u64 (first)], .slice ba bits.length bc].toArray w (Ret fun v w' => v = .bool true ∧ Ext w w') := by
  obtain ⟨g1, hg1⟩ : ∃ g1, g1 = gs.take 4200 := ⟨_, rfl⟩
  obtain ⟨l1, hl1⟩ : ∃ l1, l1 = ol.take 80 := ⟨_, rfl⟩
  have hgl1 : g1.length ≤ 60 := by rw [hg1, List.length_take]; omega
  have hll1 : l1.length ≤ 80 := by rw [hl1, List.length_take]; omega
  rw [← hg1, ← hl1] at hg
  have H := Hp.start No w
  refine enter (n := 156) Tryd.func10 rfl rfl (Nat.le_of_ble_eq_true rfl) ?_
  refine seqRegion ?_
  refine q_box (v := .agg #[i64 (n), .slice ga gs.length gc, .slice oa ol.length oc]) (o := .cells #[i64 (n), .slice ga gs.length gc, .slice oa ol.length oc] 70 (0, 0)) H rfl (by rfl) ?_
  intro b1 w2 hb1 H3 hE4
  refine q_box (v := .agg #[u64 (δ.1), u64 (δ.2), .slice za zs.length zc, u64 (first)]) (o := .cells #[u64 (δ.1), u64 (δ.2), .slice za zs.length zc, u64 (first)] 94 (0, 0)) H3 rfl (by rfl) ?_
  intro b5 w6 hb5 H7 hE8
  refine sq (r_assign (v := .bool (false)) rfl) ?_
  refine wend ?_
  refine seqAny ?_
  refine seqRegion ?_
  refine c_call (vs := []) call41 rfl (gawake_ok w6 (Chg.gl H7.chg (fun x => x) hG)) ?_
  rintro _ w9 ⟨rfl, hE10⟩
  have H11 := H7.ext hE10
  refine sq (r_notT rfl) ?_
  refine sq (r_move (v := .bool (false)) rfl) ?_
  refine sqAny (v := .agg #[i64 (n), .slice ga gs.length gc, .slice oa ol.length oc]) (w' := w9) (wantedSome (d' := 21) (b := false) rfl rfl rfl) (r_loadA (cs' := #[i64 (n), .slice ga gs.length gc, .slice oa ol.length oc]) agg70 siz70 (H11.get (k := 1) rfl) (off := 0) rfl (by exact Nat.le_of_ble_eq_true rfl) (by rfl)) ?_
  refine caAny (wantedSome (d' := 21) (b := false) rfl rfl rfl) (Enters.callL (vs := [.agg #[i64 (n), .slice ga gs.length gc, .slice oa ol.length oc]]) call42 rfl) (small_yes n gs ol ga oa gc oc w9 h1s h2s) ?_
  rintro _ w12 ⟨rfl, hE13⟩
  have H14 := H11.ext hE13
  refine sqAny (v := .bool (false)) (w' := w12) (wantedSome (d' := 21) (b := false) rfl rfl rfl) (r_notT rfl) ?_
  refine sq (r_pickF (v := .bool (false)) rfl rfl) ?_
  refine wend ?_
  refine condFalse rfl ?_
  refine skipAny ?_
  refine thenNormal ?_
  refine seqRegion ?_
  refine sq (r_loadA (cs' := #[i64 (n), .slice ga gs.length gc, .slice oa ol.length oc]) agg70 siz70 (H14.get (k := 1) rfl) (off := 0) rfl (by exact Nat.le_of_ble_eq_true rfl) (by rfl)) ?_
  refine c_call (vs := [.agg #[i64 (n), .slice ga gs.length gc, .slice oa ol.length oc]]) call43 rfl (own_ok n gs ol ga oa gc oc hgc hoc w12 (hGs.ext H14.chg) (hOl.ext H14.chg)) ?_
  rintro _ w15 ⟨⟨ng17, no18, kg19, cg20, spg21, ko22, co23, spo24, rfl, rfl, rfl, hSg25, hSo26, HN27⟩, hE28⟩
  rw [← hg1] at hSg25 HN27
  rw [← hl1] at hSo26 HN27
  rw [← hg1, ← hl1]
  have H29 := (H14.join HN27).as (L' := [(ko22, sob EI 3 l1 spo24), (kg19, sob EG 99 g1 spg21), (some b5, .cells #[u64 (δ.1), u64 (δ.2), .slice za zs.length zc, u64 (first)] 94 (0, 0)), (some b1, .cells #[i64 (n), .slice ga gs.length gc, .slice oa ol.length oc] 70 (0, 0))]) rfl
  refine d_store (k := 3) (v := .agg #[i64 (n), .slice (ownA kg19) g1.length cg20, .slice (ownA ko22) l1.length co23]) (cs' := #[i64 (n), .slice (ownA kg19) g1.length cg20, .slice (ownA ko22) l1.length co23]) H29 rfl rfl rfl siz70 (by rfl) (by intro u hu; simp [Value.cells] at hu; first | (subst hu; rfl) | (rcases hu with rfl | rfl | rfl <;> rfl)) (by exact Nat.le_of_ble_eq_true rfl) (by rfl) ?_
  intro w30 H31 hC32
  have H31' := H31.as (L' := [(ko22, sob EI 3 l1 spo24), (kg19, sob EG 99 g1 spg21), (some b5, .cells #[u64 (δ.1), u64 (δ.2), .slice za zs.length zc, u64 (first)] 94 (0, 0)), (some b1, .cells #[i64 (n), .slice (ownA kg19) g1.length cg20, .slice (ownA ko22) l1.length co23] 70 (0, 0))]) rfl
  clear H31
  refine wend ?_
  refine seqRegion ?_
  refine sq (r_fieldAddr (off' := 0) fld94_0 (by decide) (b := b5) (off := 0) rfl (by omega)) ?_
  refine sq (r_indexA (off' := 0) (j := 0) arr38 (b := b5) (off := 0) rfl rfl (by first | rfl | omega | (simp; omega)) (by omega) (by omega)) ?_
  refine sq (r_loadC (v := u64 (δ.1)) one32 (H31'.get (k := 2) rfl) (off := 0) rfl (by rfl)) ?_
  refine sq (r_or64 (a := δ.1) (b := 1#64) rfl rfl) ?_
  refine sq (r_fieldAddr (off' := 0) fld94_0 (by decide) (b := b5) (off := 0) rfl (by omega)) ?_
  refine sq (r_indexA (off' := 0) (j := 0) arr38 (b := b5) (off := 0) rfl rfl (by first | rfl | omega | (simp; omega)) (by omega) (by omega)) ?_
  refine d_store (k := 2) (v := u64 (δ.1 ||| (1#64))) (cs' := #[u64 (δ.1 ||| (1#64)), u64 (δ.2), .slice za zs.length zc, u64 (first)]) H31' rfl rfl rfl siz32 (by rfl) (by exact E64.one _) (by exact Nat.le_of_ble_eq_true rfl) (by rfl) ?_
  intro w33 H34 hC35
  have H34' := H34.as (L' := [(ko22, sob EI 3 l1 spo24), (kg19, sob EG 99 g1 spg21), (some b5, .cells #[u64 (δ.1 ||| (1#64)), u64 (δ.2), .slice za zs.length zc, u64 (first)] 94 (0, 0)), (some b1, .cells #[i64 (n), .slice (ownA kg19) g1.length cg20, .slice (ownA ko22) l1.length co23] 70 (0, 0))]) rfl
  clear H34
  refine wend ?_
  refine seqRegion ?_
  refine sq (r_loadA (cs' := #[u64 (δ.1 ||| (1#64)), u64 (δ.2), .slice za zs.length zc, u64 (first)]) agg94 siz94 (H34'.get (k := 2) rfl) (off := 0) rfl (by exact Nat.le_of_ble_eq_true rfl) (by rfl)) ?_
  refine sq (r_fieldAddr (off' := 0) fld70_0 (by decide) (b := b1) (off := 0) rfl (by omega)) ?_
  refine sq (r_loadC (v := i64 (n)) one3 (H34'.get (k := 3) rfl) (off := 0) rfl (by rfl)) ?_
  refine c_call (vs := [.agg #[u64 (δ.1 ||| (1#64)), u64 (δ.2), .slice za zs.length zc, u64 (first)], i64 (n)]) call44 rfl (zeros_ok (δ.1 ||| (1#64), δ.2) zs za zc hzc first n h2s w33 (hZ.ext H34'.chg)) ?_
  rintro _ w36 ⟨⟨key38, c39, sp40, rfl, hS41, hk42⟩, hE43⟩
  obtain ⟨z, hz⟩ : ∃ x, x = zerosS zs n.toNat := ⟨_, rfl⟩
  have hzl : z.length = n.toNat := by rw [hz, zerosS_len]
  rw [← hz] at hS41 hk42 ⊢
  have H44 := H34'.add hE43 hk42
  refine sq (r_assign (v := .slice (ownA key38) z.length c39) rfl) ?_
  refine wend ?_
  refine seqRegion ?_
  refine sq (r_loadA (cs' := #[i64 (n), .slice (ownA kg19) g1.length cg20, .slice (ownA ko22) l1.length co23]) agg70 siz70 (H44.get (k := 4) rfl) (off := 0) rfl (by exact Nat.le_of_ble_eq_true rfl) (by rfl)) ?_
  refine sq (r_fieldAddr (off' := 0) fld94_0 (by decide) (b := b5) (off := 0) rfl (by omega)) ?_
  refine sq (r_loadA (cs' := (cel E64 [δ.1 ||| (1#64), δ.2]).toArray) agg38 siz38 (H44.get (k := 3) rfl) (off := 0) rfl (by exact Nat.le_of_ble_eq_true rfl) (by rfl)) ?_
  refine sq (r_move (v := .slice (ownA key38) z.length c39) rfl) ?_
  refine sq (r_fieldAddr (off' := 3) fld94_2 (by decide) (b := b5) (off := 0) rfl (by omega)) ?_
  refine sq (r_loadC (v := u64 (first)) one32 (H44.get (k := 3) rfl) (off := 3) rfl (by rfl)) ?_
  have := H44.lt (List.mem_of_getElem? (i := 3) rfl) rfl
  have := H44.lt (List.mem_of_getElem? (i := 4) rfl) rfl
  refine c_call (vs := [.agg #[i64 (n), .slice (ownA kg19) g1.length cg20, .slice (ownA ko22) l1.length co23], .agg (cel E64 [δ.1 ||| (1#64), δ.2]).toArray, .slice (ownA key38) z.length c39, u64 (first)]) call45 rfl (garble_bad n g1 l1 (ownA kg19) (ownA ko22) cg20 co23 (δ.1 ||| (1#64), δ.2) z (ownA key38) c39 first w36 (Chg.gl H44.chg (fun x => x) hG) (H44.rd (k := 2) rfl hSg25) (H44.rd (k := 1) rfl hSo26) (by first | omega | exact Nat.le_of_ble_eq_true rfl) (by first | omega | exact Nat.le_of_ble_eq_true rfl) (H44.rd (k := 0) rfl hS41) hg) ?_
  rintro _ w45 ⟨⟨v47, rfl, hEr48⟩, hE49⟩
  have H50 := H44.ext hE49
  obtain ⟨T51, x52, rfl⟩ := hEr48.iface
  refine sq (r_move (v := .tuple #[.slice none 0 0, .slice none 0 0, .iface T51 (x52)]) rfl) ?_
  refine sq (r_extract (vs := #[.slice none 0 0, .slice none 0 0, .iface T51 (x52)]) rfl rfl) ?_
  refine sq (r_extract (vs := #[.slice none 0 0, .slice none 0 0, .iface T51 (x52)]) rfl rfl) ?_
  refine sq (r_extract (vs := #[.slice none 0 0, .slice none 0 0, .iface T51 (x52)]) rfl rfl) ?_
  refine sq (r_assign (v := .slice none 0 0) rfl) ?_
  refine sq (r_assign (v := .slice none 0 0) rfl) ?_
  refine sq (r_assign (v := .iface T51 (x52)) rfl) ?_
  refine wend ?_
  refine seqAny ?_
  refine seqRegion ?_
  refine sq (r_move (v := .iface T51 (x52)) rfl) ?_
  refine sq (r_neqIN isI27 rfl rfl) ?_
  refine wend ?_
  refine condTrue rfl ?_
  refine seqRegion ?_
  refine sq (r_loadA (cs' := #[i64 (n), .slice (ownA kg19) g1.length cg20, .slice (ownA ko22) l1.length co23]) agg70 siz70 (H50.get (k := 4) rfl) (off := 0) rfl (by exact Nat.le_of_ble_eq_true rfl) (by rfl)) ?_
  have := H50.lt (List.mem_of_getElem? (i := 3) rfl) rfl
  have := H50.lt (List.mem_of_getElem? (i := 4) rfl) rfl
  refine c_call (vs := [.agg #[i64 (n), .slice (ownA kg19) g1.length cg20, .slice (ownA ko22) l1.length co23]]) call31 rfl (check_bad n g1 l1 (ownA kg19) (ownA ko22) cg20 co23 w45 (Chg.gl H50.chg (fun x => x) hG) (H50.rd (k := 2) rfl hSg25) (H50.rd (k := 1) rfl hSo26) (by omega) (by omega) hg) ?_
  rintro v55 w53 ⟨hEr56, hE57⟩
  have H58 := H50.ext hE57
  obtain ⟨T59, x60, rfl⟩ := hEr56.iface
  refine sq (r_neqIN isI27 rfl rfl) ?_
  refine sq (r_assign (v := .bool (true)) rfl) ?_
  refine wend ?_
  refine retAny ?_
  refine thenRet ?_
  refine retG (rs := [.tmp 6]) (vs := [.bool (true)]) rfl ⟨⟨rfl, rfl⟩, trivial⟩ ?_
  exact ⟨_, rfl, rfl, H58.chg⟩
theorem gright_big1 (n : Int) (gs : List Gt) (ol : List Int) (ga oa : Option Addr) (gc oc : Nat) (δ : Lb) (zs : List Lb) (za : Option Addr) (zc : Nat) (first : BitVec 64) (hgc : gs.length ≤ gc) (hoc : ol.length ≤ oc) (hzc : zs.length ≤ zc) (w : World) (hG : Gl w) (hGs : Rd EG w ga gs) (hOl : Rd EI w oa ol) (hZ : Rd ELb w za zs) (hzs : zs.length ≤ 140737488355328) (bits : List Bool) (ba : Option Addr) (bc : Nat) (hB : Rd EB w ba bits) (hbl : bits.length ≤ 140737488355328) (h1s : ¬ gs.length ≤ 60) : Calls Tryd.prog 10 [.agg #[i64 (n), .slice ga gs.length gc, .slice oa ol.length oc], .agg #[u64 (δ.1), u64 (δ.2), .slice za zs.length zc, u64 (first)], .slice ba bits.length bc].toArray w (Ret fun v w' => v = .bool true ∧ Ext w w') := by
  have H := Hp.start No w
  refine enter (n := 156) Tryd.func10 rfl rfl (Nat.le_of_ble_eq_true rfl) ?_
  refine seqRegion ?_
  refine q_box (v := .agg #[i64 (n), .slice ga gs.length gc, .slice oa ol.length oc]) (o := .cells #[i64 (n), .slice ga gs.length gc, .slice oa ol.length oc] 70 (0, 0)) H rfl (by rfl) ?_
  intro b1 w2 hb1 H3 hE4
  refine q_box (v := .agg #[u64 (δ.1), u64 (δ.2), .slice za zs.length zc, u64 (first)]) (o := .cells #[u64 (δ.1), u64 (δ.2), .slice za zs.length zc, u64 (first)] 94 (0, 0)) H3 rfl (by rfl) ?_
  intro b5 w6 hb5 H7 hE8
  refine sq (r_assign (v := .bool (false)) rfl) ?_
  refine wend ?_
  refine seqAny ?_
  refine seqRegion ?_
  refine c_call (vs := []) call41 rfl (gawake_ok w6 (Chg.gl H7.chg (fun x => x) hG)) ?_
  rintro _ w9 ⟨rfl, hE10⟩
  have H11 := H7.ext hE10
  refine sq (r_notT rfl) ?_
  refine sq (r_move (v := .bool (false)) rfl) ?_
  refine sqAny (v := .agg #[i64 (n), .slice ga gs.length gc, .slice oa ol.length oc]) (w' := w9) (wantedSome (d' := 21) (b := false) rfl rfl rfl) (r_loadA (cs' := #[i64 (n), .slice ga gs.length gc, .slice oa ol.length oc]) agg70 siz70 (H11.get (k := 1) rfl) (off := 0) rfl (by exact Nat.le_of_ble_eq_true rfl) (by rfl)) ?_
  refine caAny (wantedSome (d' := 21) (b := false) rfl rfl rfl) (Enters.callL (vs := [.agg #[i64 (n), .slice ga gs.length gc, .slice oa ol.length oc]]) call42 rfl) (small_no1 n gs ol ga oa gc oc w9 h1s) ?_
  rintro _ w12 ⟨rfl, hE13⟩
  have H14 := H11.ext hE13
  refine sqAny (v := .bool (true)) (w' := w12) (wantedSome (d' := 21) (b := false) rfl rfl rfl) (r_notF rfl) ?_
  refine sq (r_pickF (v := .bool (true)) rfl rfl) ?_
  refine wend ?_
  refine condTrue rfl ?_
  refine seqRegion ?_
  refine c_call (vs := []) call41 rfl (gawake_ok w12 (Chg.gl H14.chg (fun x => x) hG)) ?_
  rintro _ w15 ⟨rfl, hE16⟩
  have H17 := H14.ext hE16
  refine sq (r_assign (v := .bool (true)) rfl) ?_
  refine wend ?_
  refine retAny ?_
  refine thenRet ?_
  refine retG (rs := [.tmp 6]) (vs := [.bool (true)]) rfl ⟨⟨rfl, rfl⟩, trivial⟩ ?_
  exact ⟨_, rfl, rfl, H17.chg⟩
theorem gright_big2 (n : Int) (gs : List Gt) (ol : List Int) (ga oa : Option Addr) (gc oc : Nat) (δ : Lb) (zs : List Lb) (za : Option Addr) (zc : Nat) (first : BitVec 64) (hgc : gs.length ≤ gc) (hoc : ol.length ≤ oc) (hzc : zs.length ≤ zc) (w : World) (hG : Gl w) (hGs : Rd EG w ga gs) (hOl : Rd EI w oa ol) (hZ : Rd ELb w za zs) (hzs : zs.length ≤ 140737488355328) (bits : List Bool) (ba : Option Addr) (bc : Nat) (hB : Rd EB w ba bits) (hbl : bits.length ≤ 140737488355328) (h1s : gs.length ≤ 60) (h2s : ¬ n ≤ 200) : Calls Tryd.prog 10 [.agg #[i64 (n), .slice ga gs.length gc, .slice oa ol.length oc], .agg #[u64 (δ.1), u64 (δ.2), .slice za zs.length zc, u64 (first)], .slice ba bits.length bc].toArray w (Ret fun v w' => v = .bool true ∧ Ext w w') := by
  have H := Hp.start No w
  refine enter (n := 156) Tryd.func10 rfl rfl (Nat.le_of_ble_eq_true rfl) ?_
  refine seqRegion ?_
  refine q_box (v := .agg #[i64 (n), .slice ga gs.length gc, .slice oa ol.length oc]) (o := .cells #[i64 (n), .slice ga gs.length gc, .slice oa ol.length oc] 70 (0, 0)) H rfl (by rfl) ?_
  intro b1 w2 hb1 H3 hE4
  refine q_box (v := .agg #[u64 (δ.1), u64 (δ.2), .slice za zs.length zc, u64 (first)]) (o := .cells #[u64 (δ.1), u64 (δ.2), .slice za zs.length zc, u64 (first)] 94 (0, 0)) H3 rfl (by rfl) ?_
  intro b5 w6 hb5 H7 hE8
  refine sq (r_assign (v := .bool (false)) rfl) ?_
  refine wend ?_
  refine seqAny ?_
  refine seqRegion ?_
  refine c_call (vs := []) call41 rfl (gawake_ok w6 (Chg.gl H7.chg (fun x => x) hG)) ?_
  rintro _ w9 ⟨rfl, hE10⟩
  have H11 := H7.ext hE10
  refine sq (r_notT rfl) ?_
  refine sq (r_move (v := .bool (false)) rfl) ?_
  refine sqAny (v := .agg #[i64 (n), .slice ga gs.length gc, .slice oa ol.length oc]) (w' := w9) (wantedSome (d' := 21) (b := false) rfl rfl rfl) (r_loadA (cs' := #[i64 (n), .slice ga gs.length gc, .slice oa ol.length oc]) agg70 siz70 (H11.get (k := 1) rfl) (off := 0) rfl (by exact Nat.le_of_ble_eq_true rfl) (by rfl)) ?_
  refine caAny (wantedSome (d' := 21) (b := false) rfl rfl rfl) (Enters.callL (vs := [.agg #[i64 (n), .slice ga gs.length gc, .slice oa ol.length oc]]) call42 rfl) (small_no2 n gs ol ga oa gc oc w9 h1s h2s) ?_
  rintro _ w12 ⟨rfl, hE13⟩
  have H14 := H11.ext hE13
  refine sqAny (v := .bool (true)) (w' := w12) (wantedSome (d' := 21) (b := false) rfl rfl rfl) (r_notF rfl) ?_
  refine sq (r_pickF (v := .bool (true)) rfl rfl) ?_
  refine wend ?_
  refine condTrue rfl ?_
  refine seqRegion ?_
  refine c_call (vs := []) call41 rfl (gawake_ok w12 (Chg.gl H14.chg (fun x => x) hG)) ?_
  rintro _ w15 ⟨rfl, hE16⟩
  have H17 := H14.ext hE16
  refine sq (r_assign (v := .bool (true)) rfl) ?_
  refine wend ?_
  refine retAny ?_
  refine thenRet ?_
  refine retG (rs := [.tmp 6]) (vs := [.bool (true)]) rfl ⟨⟨rfl, rfl⟩, trivial⟩ ?_
  exact ⟨_, rfl, rfl, H17.chg⟩
theorem gright_ok (n : Int) (gs : List Gt) (ol : List Int) (ga oa : Option Addr) (gc oc : Nat) (δ : Lb) (zs : List Lb) (za : Option Addr) (zc : Nat) (first : BitVec 64) (hgc : gs.length ≤ gc) (hoc : ol.length ≤ oc) (hzc : zs.length ≤ zc) (w : World) (hG : Gl w) (hGs : Rd EG w ga gs) (hOl : Rd EI w oa ol) (hZ : Rd ELb w za zs) (hzs : zs.length ≤ 140737488355328) (bits : List Bool) (ba : Option Addr) (bc : Nat) (hB : Rd EB w ba bits) (hbl : bits.length ≤ 140737488355328) : Calls Tryd.prog 10 [.agg #[i64 (n), .slice ga gs.length gc, .slice oa ol.length oc], .agg #[u64 (δ.1), u64 (δ.2), .slice za zs.length zc, u64 (first)], .slice ba bits.length bc].toArray w (Ret fun v w' => v = .bool true ∧ Ext w w') := by
  by_cases h1s : gs.length ≤ 60
  · by_cases h2s : n ≤ 200
    · by_cases hg : IsC n (gs.take 4200) (ol.take 80)
      · exact gright_good n gs ol ga oa gc oc δ zs za zc first hgc hoc hzc w hG hGs hOl hZ hzs bits ba bc hB hbl h1s h2s hg
      · exact gright_bad n gs ol ga oa gc oc δ zs za zc first hgc hoc hzc w hG hGs hOl hZ hzs bits ba bc hB hbl h1s h2s hg
    · exact gright_big2 n gs ol ga oa gc oc δ zs za zc first hgc hoc hzc w hG hGs hOl hZ hzs bits ba bc hB hbl h1s h2s
  · exact gright_big1 n gs ol ga oa gc oc δ zs za zc first hgc hoc hzc w hG hGs hOl hZ hzs bits ba bc hB hbl h1s
end Go.Proofs.YteofdmdpaejgaaaDoor.Gb
