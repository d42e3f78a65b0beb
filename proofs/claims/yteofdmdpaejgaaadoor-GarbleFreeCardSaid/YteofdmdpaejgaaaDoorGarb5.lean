/- The walks of the garbled circuits. -/
import Derived.Test.YteofdmdpaejgaaaDoorGarb4
import Derived.Test.YteofdmdpaejgaaaDoorGarbLaw
namespace Go.Proofs.YteofdmdpaejgaaaDoor.Gb
open Go Go.Proofs.YteofdmdpaejgaaaDoor.Vc Go.Proofs.YteofdmdpaejgaaaDoor.Er Go.Proofs.YteofdmdpaejgaaaDoor.Circ
set_option linter.unusedVariables false
theorem fld94_1 : fld Tryd.prog 94 1 = some (2, 1, 92) := by kernel_rfl
theorem gty38 : Tryd.prog.eqGuardType Tryd.prog.depth 38 = false := by kernel_rfl
theorem one32 : isOne Tryd.prog 32 = true := by kernel_rfl
theorem one92 : isOne Tryd.prog 92 = true := by kernel_rfl
theorem und38 : Tryd.prog.underlying 38 = some (.array 2 32) := by kernel_rfl
theorem label_ok (z δ : Lb) (b : Bool) (w : World) : Calls Tryd.prog 48 [.agg (cel E64 [(z).1, (z).2]).toArray, .agg (cel E64 [(δ).1, (δ).2]).toArray, .bool (b)].toArray w (Ret fun v w' => v = .agg (cel E64 [(lx z (lw b δ)).1, (lx z (lw b δ)).2]).toArray ∧ Ext w w') := by
  have H := Hp.start No w
  refine enter (n := 12) Tryd.func48 rfl rfl (Nat.le_of_ble_eq_true rfl) ?_
  refine seqRegion ?_
  refine q_box (v := .agg (cel E64 [(z).1, (z).2]).toArray) (o := .cells (cel E64 ([(z).1, (z).2])).toArray 38 (0, 0)) H rfl (by rfl) ?_
  intro b31 w32 hb31 H33 hE34
  refine q_box (v := .agg (cel E64 [(δ).1, (δ).2]).toArray) (o := .cells (cel E64 ([(δ).1, (δ).2])).toArray 38 (0, 0)) H33 rfl (by rfl) ?_
  intro b35 w36 hb35 H37 hE38
  refine q_alloc (o := .cells (cel E64 ([0#64, 0#64])).toArray 38 (0, 0)) H37 zer38 (by kernel_rfl) ?_
  intro b39 w40 hb39 H41 hE42
  refine wend ?_
  refine seqAny ?_
  refine drawE (m := 6) [0, 0, 0, 6, 15, 31] [5] (fun bs vs w' => match bs, vs with | [false], [_] => Hp No w w' [(some b39, .cells (cel E64 ([0#64, 0#64])).toArray 38 (0, 0)), (some b35, .cells (cel E64 ([(δ).1, (δ).2])).toArray 38 (0, 0)), (some b31, .cells (cel E64 ([(z).1, (z).2])).toArray 38 (0, 0))] | [true], [_] => Hp No w w' [(some b39, .cells (cel E64 ([(lx z (lw b δ)).1, (lx z (lw b δ)).2])).toArray 38 (0, 0)), (some b35, .cells (cel E64 ([(δ).1, (δ).2])).toArray 38 (0, 0)), (some b31, .cells (cel E64 ([(z).1, (z).2])).toArray 38 (0, 0))] | _, _ => False) mixed (by kernel_rfl) (by kernel_rfl) H41.drew ?_
  refine WalkE.look rfl (fun _ => .agg (cel E64 ([(z).1, (z).2])).toArray) (fun _ _ _ => rfl) (fun L r uw0 uw hAn hDn hF hEx => ?_) ?_
  · skip
    have b5 : L 5 = false := hDn 5 (by decide) rfl
    have hb : List.map L [5] = [false] := by simp only [List.map_cons, List.map_nil, b5]
    rw [hb] at hF
    have HH := hF
    replace HH := HH.ext hEx
    exact Gives.run rfl (r_loadA (cs' := (cel E64 ([(z).1, (z).2])).toArray) agg38 siz38 (HH.get (k := 2) rfl) (off := 0) rfl (by exact Nat.le_of_ble_eq_true rfl) (by exact ext_all rfl)) ⟨rfl, rfl⟩
  refine WalkE.look rfl (fun _ => .bool (b)) (fun _ _ _ => rfl) (fun L r _ uw _ _ _ _ => Gives.run rfl (r_move (v := .bool (b)) rfl) ⟨rfl, rfl⟩) ?_
  refine WalkE.look rfl (fun _ => .agg (cel E64 ([(δ).1, (δ).2])).toArray) (fun _ _ _ => rfl) (fun L r uw0 uw hAn hDn hF hEx => ?_) ?_
  · skip
    have b5 : L 5 = false := hDn 5 (by decide) rfl
    have hb : List.map L [5] = [false] := by simp only [List.map_cons, List.map_nil, b5]
    rw [hb] at hF
    have HH := hF
    replace HH := HH.ext hEx
    exact Gives.run rfl (r_loadA (cs' := (cel E64 ([(δ).1, (δ).2])).toArray) agg38 siz38 (HH.get (k := 1) rfl) (off := 0) rfl (by exact Nat.le_of_ble_eq_true rfl) (by exact ext_all rfl)) ⟨rfl, rfl⟩
  refine WalkE.call rfl (fun _ => .agg (cel E64 [(lw b δ).1, (lw b δ).2]).toArray) (fun _ _ _ => rfl) (fun L r uw0 uw hAn hDn hF hEx => ?_) ?_
  · skip
    have b5 : L 5 = false := hDn 5 (by decide) rfl
    have hb : List.map L [5] = [false] := by simp only [List.map_cons, List.map_nil, b5]
    rw [hb] at hF
    have HH := hF
    replace HH := HH.ext hEx
    exact Gives.call rfl (Enters.callL (vs := [.bool (b), .agg (cel E64 ([(δ).1, (δ).2])).toArray]) call89 rfl) (lw_ok b δ uw)
  refine WalkE.call rfl (fun _ => .agg (cel E64 [(lx z (lw b δ)).1, (lx z (lw b δ)).2]).toArray) (fun _ _ _ => rfl) (fun L r uw0 uw hAn hDn hF hEx => ?_) ?_
  · skip
    have b5 : L 5 = false := hDn 5 (by decide) rfl
    have hb : List.map L [5] = [false] := by simp only [List.map_cons, List.map_nil, b5]
    rw [hb] at hF
    have HH := hF
    replace HH := HH.ext hEx
    exact Gives.call rfl (Enters.callL (vs := [.agg (cel E64 ([(z).1, (z).2])).toArray, .agg (cel E64 [(lw b δ).1, (lw b δ).2]).toArray]) call86 rfl) (lxor_ok z (lw b δ) uw)
  refine WalkE.eff 0 rfl (fun L r uw0 uw hLn hAn hDn hF hEx => ?_) ?_
  · skip
    have b5 : L 5 = false := hLn
    have hb : List.map L [5] = [false] := by simp only [List.map_cons, List.map_nil, b5]
    rw [hb] at hF ⊢
    have H47 := hF
    replace H47 := H47.ext hEx
    dsimp only
    refine Gives.ofW0 rfl (fun Q' hK => ?_)
    refine d_store (k := 0) (v := .agg (cel E64 [(lx z (lw b δ)).1, (lx z (lw b δ)).2]).toArray) (cs' := (cel E64 ([(lx z (lw b δ)).1, (lx z (lw b δ)).2])).toArray) H47 rfl rfl rfl siz38 (by exact celSize (by first | rfl | (show _ * 1 = _; omega))) (by exact celOne _) (by rw [List.size_toArray, cel_length]; show _ ≤ _ * 1; first | omega | (simp only [List.length_set]; omega) | exact Nat.le_of_ble_eq_true rfl | (simp <;> omega)) (by exact putAll (by first | rfl | omega | (simp <;> omega))) ?_
    intro w48 H49 hC50
    have H49' := H49.as (L' := [(some b39, .cells (cel E64 ([(lx z (lw b δ)).1, (lx z (lw b δ)).2])).toArray 38 (0, 0)), (some b35, .cells (cel E64 ([(δ).1, (δ).2])).toArray 38 (0, 0)), (some b31, .cells (cel E64 ([(z).1, (z).2])).toArray 38 (0, 0))]) rfl
    clear H49
    exact hK _ (fun _ => (show Hp No w w48 [(some b39, .cells (cel E64 ([(lx z (lw b δ)).1, (lx z (lw b δ)).2])).toArray 38 (0, 0)), (some b35, .cells (cel E64 ([(δ).1, (δ).2])).toArray 38 (0, 0)), (some b31, .cells (cel E64 ([(z).1, (z).2])).toArray 38 (0, 0))] from (((H49'.pull (k := 2) rfl).pull (k := 2) rfl).pull (k := 2) rfl)))
  refine WalkE.nil ?_
  intro r51 uw0 w52 hF hEx
  have H53 := hF
  replace H53 := H53.ext hEx
  dsimp only
  refine wnil ?_
  refine thenNormal ?_
  refine retAny ?_
  refine retG (rs := [.cell 6 38]) (vs := [.agg (cel E64 ([(lx z (lw b δ)).1, (lx z (lw b δ)).2])).toArray]) rfl ⟨r_loadA (cs' := (cel E64 ([(lx z (lw b δ)).1, (lx z (lw b δ)).2])).toArray) agg38 siz38 (H53.get (k := 0) rfl) (off := 0) rfl (by exact Nat.le_of_ble_eq_true rfl) (by exact ext_all rfl), trivial⟩ ?_
  exact ⟨_, rfl, rfl, H53.chg⟩

theorem colours_ok (l : List Lb) (a0 : Option Addr) (n0 c0 : Nat) (hn0 : n0 = l.length) (hl : l.length ≤ 140737488355328) (w : World) (hL : Rd ELb w a0 l) : Calls Tryd.prog 51 [.slice a0 n0 c0].toArray w (Ret fun v w' => v = u64 (colS l (min l.length 64)) ∧ Ext w w') := by
  subst hn0
  have H := Hp.start No w
  refine enter (n := 23) Tryd.func51 rfl rfl (Nat.le_of_ble_eq_true rfl) ?_
  refine seqRegion ?_
  refine sq (r_assign (v := u64 (0#64)) rfl) ?_
  refine wend ?_
  refine seqRegion ?_
  refine sq (r_assign (v := u64 (0#64)) rfl) ?_
  refine wend ?_
  refine seqAny ?_
  refine seqRegion ?_
  refine sq (r_move (v := .slice a0 l.length c0) rfl) ?_
  refine sq (r_lenS sli92 (a := a0) (m := l.length) (c := c0) rfl) ?_
  refine sq ((r_minI (a := (l.length : Nat)) (b := (64 : Int)) rfl rfl).as (v' := i64 (((min l.length 64) : Nat))) (by exact congrArg i64 (by omega))) ?_
  refine sq (r_move (v := i64 ((0 : Int))) rfl) ?_
  refine wend ?_
  refine blockAny ?_
  refine loopAny (σ := Nat) (fun q => [(0, .slice a0 l.length c0), (3, u64 (colS l q)), (7, i64 (((min l.length 64) : Nat))), (8, i64 ((q : Nat)))]) (fun q w' => q ≤ min l.length 64 ∧ Hp No w w' []) (fun q => min l.length 64 - q) (0) ?_ ?_ ?_
  · exact ⟨rfl, rfl, rfl, rfl, trivial⟩
  · exact ⟨Nat.zero_le _, H⟩
  rintro q ρ w1 ⟨hq, HL⟩
  refine seqRegion ?_
  refine sq (r_lssI (a := (q : Nat)) (b := ((min l.length 64) : Nat)) rfl rfl) ?_
  refine wend ?_
  refine seqAny ?_
  refine condProp (((q : Nat) : Int) < ((min l.length 64) : Nat)) rfl (fun c9 => ?_) (fun c9 => ?_)
  · skip
    refine skipAny ?_
    refine thenNormal ?_
    refine seqAny ?_
    refine blockAny ?_
    refine seqRegion ?_
    refine sq (r_move (v := i64 ((q : Nat))) rfl) ?_
    refine sq (r_assign (v := i64 ((q : Nat))) rfl) ?_
    refine wend ?_
    refine oneRegion ?_
    refine sq (r_move (v := u64 (colS l q)) rfl) ?_
    refine sq (r_move (v := .slice a0 l.length c0) rfl) ?_
    refine sq (r_move (v := i64 ((q : Nat))) rfl) ?_
    refine sq (r_idxS (E := ELb) (l := l) (j := q) sli92 (hL.ext HL.chg) rfl rfl (by first | rfl | omega | (simp; omega)) (by rfl) (by omega)) ?_
    refine sq (r_indexAS (E := ELb) (l := l) (j := 0) arr38 (hL.ext HL.chg) (by omega) rfl rfl (by first | rfl | omega) (by omega) rfl) ?_
    refine sq (r_ldP (E := ELb) (l := l) (j := q) (o := 0) (v := (l.getD q lb0)) (u := u64 ((l.getD q lb0).1)) one32 (hL.ext HL.chg) (at_getD (by omega)) rfl rfl rfl) ?_
    refine sq (r_and64 (a := (l.getD q lb0).1) (b := 1#64) rfl rfl) ?_
    refine sq (r_move (v := i64 ((q : Nat))) rfl) ?_
    refine sq (r_shl64 (a := ((l.getD q lb0).1) &&& (1#64)) (c := q) rfl rfl) ?_
    refine sq (r_or64 (a := colS l q) (b := (((l.getD q lb0).1) &&& (1#64)) <<< (q : Nat)) rfl rfl) ?_
    refine sq (r_assign (v := u64 ((colS l q) ||| ((((l.getD q lb0).1) &&& (1#64)) <<< (q : Nat)))) rfl) ?_
    refine wnil ?_
    refine blockNormal ?_
    refine thenNormal ?_
    refine oneRegion ?_
    refine sq (r_addI (a := (q : Nat)) (b := (1 : Int)) rfl rfl (by omega)) ?_
    refine sq (r_move (v := i64 ((q : Nat) + (1 : Int))) rfl) ?_
    refine wnil ?_
    refine thenNormal ?_
    exact ⟨q + 1, _, rfl, ⟨rfl, congrArg u64 (by rw [colS]), rfl, rfl, trivial⟩, ⟨by omega, HL⟩, by show min l.length 64 - (q + 1) < min l.length 64 - q; omega⟩
  · skip
    obtain rfl : q = min l.length 64 := by omega
    refine exitAny ?_
    refine thenExit ?_
    refine thenExit ?_
    refine blockHere ?_
    refine thenNormal ?_
    refine seqRegion ?_
    refine sq (r_move (v := u64 (colS l (min l.length 64))) rfl) ?_
    refine sq (r_assign (v := u64 (colS l (min l.length 64))) rfl) ?_
    refine wend ?_
    refine retAny ?_
    refine retG (rs := [.tmp 2]) (vs := [u64 (colS l (min l.length 64))]) rfl ⟨⟨rfl, rfl⟩, trivial⟩ ?_
    exact ⟨_, rfl, rfl, HL.chg⟩

theorem same_ok (l : List Lb) (a1 a2 : Option Addr) (n1 n2 c1 c2 : Nat) (hn1 : n1 = l.length) (hn2 : n2 = l.length) (w : World) (h1 : Rd ELb w a1 l) (h2 : Rd ELb w a2 l) (hl : l.length ≤ 140737488355328) : Calls Tryd.prog 47 [.slice a1 n1 c1, .slice a2 n2 c2].toArray w (Ret fun v w' => v = .bool true ∧ Ext w w') := by
  subst hn1 hn2
  have H := Hp.start No w
  refine enter (n := 26) Tryd.func47 rfl rfl (Nat.le_of_ble_eq_true rfl) ?_
  refine seqRegion ?_
  refine sq (r_assign (v := .bool (false)) rfl) ?_
  refine wend ?_
  refine seqAny ?_
  refine seqRegion ?_
  refine sq (r_move (v := .slice a1 l.length c1) rfl) ?_
  refine sq (r_lenS sli92 (a := a1) (m := l.length) (c := c1) rfl) ?_
  refine sq (r_move (v := .slice a2 l.length c2) rfl) ?_
  refine sq (r_lenS sli92 (a := a2) (m := l.length) (c := c2) rfl) ?_
  refine sq ((r_neqI (a := (l.length : Nat)) (b := (l.length : Nat)) rfl rfl).as (v' := .bool (false)) (by simp)) ?_
  refine wend ?_
  refine condFalse rfl ?_
  refine skipAny ?_
  refine thenNormal ?_
  refine seqAny ?_
  refine seqRegion ?_
  refine sq (r_move (v := .slice a1 l.length c1) rfl) ?_
  refine sq (r_lenS sli92 (a := a1) (m := l.length) (c := c1) rfl) ?_
  refine sq (r_move (v := i64 ((0 : Int))) rfl) ?_
  refine wend ?_
  refine blockAny ?_
  refine loopAny (σ := Nat) (fun q => [(0, .slice a1 l.length c1), (1, .slice a2 l.length c2), (12, i64 ((l.length : Nat))), (13, i64 ((q : Nat)))]) (fun q w' => q ≤ l.length ∧ Hp No w w' []) (fun q => l.length - q) (0) ?_ ?_ ?_
  · exact ⟨rfl, rfl, rfl, rfl, trivial⟩
  · exact ⟨Nat.zero_le _, H⟩
  rintro q ρ w1 ⟨hq, HL⟩
  refine seqRegion ?_
  refine sq (r_lssI (a := (q : Nat)) (b := (l.length : Nat)) rfl rfl) ?_
  refine wend ?_
  refine seqAny ?_
  refine condProp (((q : Nat) : Int) < (l.length : Nat)) rfl (fun c14 => ?_) (fun c14 => ?_)
  · skip
    refine skipAny ?_
    refine thenNormal ?_
    refine seqAny ?_
    refine blockAny ?_
    refine seqRegion ?_
    refine sq (r_move (v := i64 ((q : Nat))) rfl) ?_
    refine sq (r_assign (v := i64 ((q : Nat))) rfl) ?_
    refine wend ?_
    refine seqAny ?_
    refine drawAny (K := [none, none, none, none, none, none, none, none, none]) [0, 0, 3, 7, 0, 0, 48, 112, 255] (fun w' => Ext w1 w') (fun w' w'' => Ext w' w'') mixed (by kernel_rfl) (Ext.drew _) (fun _ _ h h' => h.trans h') ?_ ?_
    · exact relNone (by decide)
    refine ⟨.slice a1 l.length c1, fun _ uw3 hC4 _ => Gives.run rfl (r_move (v := .slice a1 l.length c1) rfl) ⟨rfl, Chg.refl _ _⟩, ?_⟩
    refine ⟨i64 ((q : Nat)), fun _ uw5 hC6 _ => Gives.run rfl (r_move (v := i64 ((q : Nat))) rfl) ⟨rfl, Chg.refl _ _⟩, ?_⟩
    refine ⟨.pointer (adr a1 (q * 2)), fun _ uw7 hC8 _ => Gives.run rfl (r_idxS (E := ELb) (l := l) (j := q) sli92 (h1.ext (HL.ext hC8).chg) rfl rfl (by first | rfl | omega | (simp; omega)) (by rfl) (by omega)) ⟨rfl, Chg.refl _ _⟩, ?_⟩
    refine ⟨.agg (cel E64 [((l).getD q lb0).1, ((l).getD q lb0).2]).toArray, fun _ uw9 hC10 _ => Gives.run rfl ((r_ldS (E := ELb) (l := l) (j := q) (v := (l).getD q lb0) fits38 (h1.ext (HL.ext hC10).chg) rfl rfl (at_getD (by omega))).as (v' := .agg (cel E64 [((l).getD q lb0).1, ((l).getD q lb0).2]).toArray) rfl) ⟨rfl, Chg.refl _ _⟩, ?_⟩
    refine ⟨.slice a2 l.length c2, fun _ uw11 hC12 _ => Gives.run rfl (r_move (v := .slice a2 l.length c2) rfl) ⟨rfl, Chg.refl _ _⟩, ?_⟩
    refine ⟨i64 ((q : Nat)), fun _ uw13 hC14 _ => Gives.run rfl (r_move (v := i64 ((q : Nat))) rfl) ⟨rfl, Chg.refl _ _⟩, ?_⟩
    refine ⟨.pointer (adr a2 (q * 2)), fun _ uw15 hC16 _ => Gives.run rfl (r_idxS (E := ELb) (l := l) (j := q) sli92 (h2.ext (HL.ext hC16).chg) rfl rfl (by first | rfl | omega | (simp; omega)) (by rfl) (by omega)) ⟨rfl, Chg.refl _ _⟩, ?_⟩
    refine ⟨.agg (cel E64 [((l).getD q lb0).1, ((l).getD q lb0).2]).toArray, fun _ uw17 hC18 _ => Gives.run rfl ((r_ldS (E := ELb) (l := l) (j := q) (v := (l).getD q lb0) fits38 (h2.ext (HL.ext hC18).chg) rfl rfl (at_getD (by omega))).as (v' := .agg (cel E64 [((l).getD q lb0).1, ((l).getD q lb0).2]).toArray) rfl) ⟨rfl, Chg.refl _ _⟩, ?_⟩
    refine ⟨.bool (false), fun _ uw19 hC20 _ => Gives.run rfl ((r_neqA (E := E64) (l := [((l).getD q lb0).1, ((l).getD q lb0).2]) (l' := [((l).getD q lb0).1, ((l).getD q lb0).2]) gty38 und38 fits32 (eqAt64 und32) (rfl) (rfl) rfl rfl).as (v' := .bool (false)) (by simp)) ⟨rfl, Chg.refl _ _⟩, ?_⟩
    intro r24 w21 hE23 hF
    have H22 := HL.ext hE23
    refine wnil ?_
    refine thenNormal ?_
    refine condFalse rfl ?_
    refine skipAny ?_
    refine blockNormal ?_
    refine thenNormal ?_
    refine oneRegion ?_
    refine sq (r_addI (a := (q : Nat)) (b := (1 : Int)) rfl rfl (by omega)) ?_
    refine sq (r_move (v := i64 ((q : Nat) + (1 : Int))) rfl) ?_
    refine wnil ?_
    refine thenNormal ?_
    exact ⟨q + 1, _, rfl, ⟨rfl, rfl, rfl, rfl, trivial⟩, ⟨by omega, H22⟩, by show l.length - (q + 1) < l.length - q; omega⟩
  · skip
    refine exitAny ?_
    refine thenExit ?_
    refine thenExit ?_
    refine blockHere ?_
    refine thenNormal ?_
    refine seqRegion ?_
    refine sq (r_assign (v := .bool (true)) rfl) ?_
    refine wend ?_
    refine retAny ?_
    refine retG (rs := [.tmp 4]) (vs := [.bool (true)]) rfl ⟨⟨rfl, rfl⟩, trivial⟩ ?_
    exact ⟨_, rfl, rfl, HL.chg⟩

theorem small_yes (n : Int) (gs : List Gt) (ol : List Int) (ga oa : Option Addr) (gc oc : Nat) (w : World) (h1 : gs.length ≤ 60) (h2 : n ≤ 200) : Calls Tryd.prog 42 [.agg #[i64 (n), .slice ga gs.length gc, .slice oa ol.length oc]].toArray w (Ret fun v w' => v = .bool true ∧ Ext w w') := by
  have H := Hp.start No w
  refine enter (n := 12) Tryd.func42 rfl rfl (Nat.le_of_ble_eq_true rfl) ?_
  refine seqRegion ?_
  refine q_box (v := .agg #[i64 (n), .slice ga gs.length gc, .slice oa ol.length oc]) (o := .cells #[i64 (n), .slice ga gs.length gc, .slice oa ol.length oc] 70 (0, 0)) H rfl (by rfl) ?_
  intro b1 w2 hb1 H3 hE4
  refine sq (r_assign (v := .bool (false)) rfl) ?_
  refine wend ?_
  refine seqRegion ?_
  refine sq (r_fieldAddr (off' := 1) fld70_1 (by decide) (b := b1) (off := 0) rfl (by omega)) ?_
  refine sq (r_loadC (v := .slice ga gs.length gc) one68 (H3.get (k := 0) rfl) (off := 1) rfl (by rfl)) ?_
  refine sq (r_lenS sli68 (a := ga) (m := gs.length) (c := gc) rfl) ?_
  refine sq ((r_leqI (a := (gs.length : Nat)) (b := (60 : Int)) rfl rfl).as (v' := .bool (true)) (by exact congrArg Value.bool (decide_eq_true (by omega)))) ?_
  refine sq (r_move (v := .bool (true)) rfl) ?_
  refine sqAny (v := .pointer (some ⟨b1, 0, none⟩)) (w' := w2) (wantedSome (d' := 7) (b := true) rfl rfl rfl) (r_fieldAddr (off' := 0) fld70_0 (by decide) (b := b1) (off := 0) rfl (by omega)) ?_
  refine sqAny (v := i64 (n)) (w' := w2) (wantedSome (d' := 7) (b := true) rfl rfl rfl) (r_loadC (v := i64 (n)) one3 (H3.get (k := 0) rfl) (off := 0) rfl (by rfl)) ?_
  refine sqAny (v := .bool (true)) (w' := w2) (wantedSome (d' := 7) (b := true) rfl rfl rfl) ((r_leqI (a := n) (b := (200 : Int)) rfl rfl).as (v' := .bool (true)) (by exact congrArg Value.bool (decide_eq_true (by omega)))) ?_
  refine sq (r_pickT (u := .bool (true)) rfl rfl) ?_
  refine sq (r_assign (v := .bool (true)) rfl) ?_
  refine wend ?_
  refine retAny ?_
  refine retG (rs := [.tmp 2]) (vs := [.bool (true)]) rfl ⟨⟨rfl, rfl⟩, trivial⟩ ?_
  exact ⟨_, rfl, rfl, H3.chg⟩

theorem small_no2 (n : Int) (gs : List Gt) (ol : List Int) (ga oa : Option Addr) (gc oc : Nat) (w : World) (h1 : gs.length ≤ 60) (h2 : ¬ n ≤ 200) : Calls Tryd.prog 42 [.agg #[i64 (n), .slice ga gs.length gc, .slice oa ol.length oc]].toArray w (Ret fun v w' => v = .bool false ∧ Ext w w') := by
  have H := Hp.start No w
  refine enter (n := 12) Tryd.func42 rfl rfl (Nat.le_of_ble_eq_true rfl) ?_
  refine seqRegion ?_
  refine q_box (v := .agg #[i64 (n), .slice ga gs.length gc, .slice oa ol.length oc]) (o := .cells #[i64 (n), .slice ga gs.length gc, .slice oa ol.length oc] 70 (0, 0)) H rfl (by rfl) ?_
  intro b1 w2 hb1 H3 hE4
  refine sq (r_assign (v := .bool (false)) rfl) ?_
  refine wend ?_
  refine seqRegion ?_
  refine sq (r_fieldAddr (off' := 1) fld70_1 (by decide) (b := b1) (off := 0) rfl (by omega)) ?_
  refine sq (r_loadC (v := .slice ga gs.length gc) one68 (H3.get (k := 0) rfl) (off := 1) rfl (by rfl)) ?_
  refine sq (r_lenS sli68 (a := ga) (m := gs.length) (c := gc) rfl) ?_
  refine sq ((r_leqI (a := (gs.length : Nat)) (b := (60 : Int)) rfl rfl).as (v' := .bool (true)) (by exact congrArg Value.bool (decide_eq_true (by omega)))) ?_
  refine sq (r_move (v := .bool (true)) rfl) ?_
  refine sqAny (v := .pointer (some ⟨b1, 0, none⟩)) (w' := w2) (wantedSome (d' := 7) (b := true) rfl rfl rfl) (r_fieldAddr (off' := 0) fld70_0 (by decide) (b := b1) (off := 0) rfl (by omega)) ?_
  refine sqAny (v := i64 (n)) (w' := w2) (wantedSome (d' := 7) (b := true) rfl rfl rfl) (r_loadC (v := i64 (n)) one3 (H3.get (k := 0) rfl) (off := 0) rfl (by rfl)) ?_
  refine sqAny (v := .bool (false)) (w' := w2) (wantedSome (d' := 7) (b := true) rfl rfl rfl) ((r_leqI (a := n) (b := (200 : Int)) rfl rfl).as (v' := .bool (false)) (by exact congrArg Value.bool (decide_eq_false (by omega)))) ?_
  refine sq (r_pickT (u := .bool (false)) rfl rfl) ?_
  refine sq (r_assign (v := .bool (false)) rfl) ?_
  refine wend ?_
  refine retAny ?_
  refine retG (rs := [.tmp 2]) (vs := [.bool (false)]) rfl ⟨⟨rfl, rfl⟩, trivial⟩ ?_
  exact ⟨_, rfl, rfl, H3.chg⟩

theorem small_no1 (n : Int) (gs : List Gt) (ol : List Int) (ga oa : Option Addr) (gc oc : Nat) (w : World) (h1 : ¬ gs.length ≤ 60) : Calls Tryd.prog 42 [.agg #[i64 (n), .slice ga gs.length gc, .slice oa ol.length oc]].toArray w (Ret fun v w' => v = .bool false ∧ Ext w w') := by
  have H := Hp.start No w
  refine enter (n := 12) Tryd.func42 rfl rfl (Nat.le_of_ble_eq_true rfl) ?_
  refine seqRegion ?_
  refine q_box (v := .agg #[i64 (n), .slice ga gs.length gc, .slice oa ol.length oc]) (o := .cells #[i64 (n), .slice ga gs.length gc, .slice oa ol.length oc] 70 (0, 0)) H rfl (by rfl) ?_
  intro b1 w2 hb1 H3 hE4
  refine sq (r_assign (v := .bool (false)) rfl) ?_
  refine wend ?_
  refine seqRegion ?_
  refine sq (r_fieldAddr (off' := 1) fld70_1 (by decide) (b := b1) (off := 0) rfl (by omega)) ?_
  refine sq (r_loadC (v := .slice ga gs.length gc) one68 (H3.get (k := 0) rfl) (off := 1) rfl (by rfl)) ?_
  refine sq (r_lenS sli68 (a := ga) (m := gs.length) (c := gc) rfl) ?_
  refine sq ((r_leqI (a := (gs.length : Nat)) (b := (60 : Int)) rfl rfl).as (v' := .bool (false)) (by exact congrArg Value.bool (decide_eq_false (by omega)))) ?_
  refine sq (r_move (v := .bool (false)) rfl) ?_
  refine skAny (wantedSome (d' := 7) (b := false) rfl rfl rfl) ?_
  refine skAny (wantedSome (d' := 7) (b := false) rfl rfl rfl) ?_
  refine skAny (wantedSome (d' := 7) (b := false) rfl rfl rfl) ?_
  refine sq (r_pickF (v := .bool (false)) rfl rfl) ?_
  refine sq (r_assign (v := .bool (false)) rfl) ?_
  refine wend ?_
  refine retAny ?_
  refine retG (rs := [.tmp 2]) (vs := [.bool (false)]) rfl ⟨⟨rfl, rfl⟩, trivial⟩ ?_
  exact ⟨_, rfl, rfl, H3.chg⟩

theorem zeros_ok (δ : Lb) (zs : List Lb) (za : Option Addr) (zc : Nat) (hzc : zs.length ≤ zc) (first : BitVec 64) (n : Int) (hn : n ≤ 200) (w : World) (hZ : Rd ELb w za zs) : Calls Tryd.prog 44 [.agg #[u64 (δ.1), u64 (δ.2), .slice za zs.length zc, u64 (first)], i64 (n)].toArray w (Ret fun v w' => SlRes ELb 38 (zerosS zs n.toNat) w v w' ∧ Ext w w') := by
  obtain ⟨m0, hm0⟩ : ∃ m, m = min zs.length n.toNat := ⟨_, rfl⟩
  obtain ⟨z0, hz0⟩ : ∃ l, l = zs.take m0 := ⟨_, rfl⟩
  have hzl : z0.length = m0 := by rw [hz0, List.length_take]; omega
  have H := Hp.start No w
  refine enter (n := 36) Tryd.func44 rfl rfl (Nat.le_of_ble_eq_true rfl) ?_
  refine seqRegion ?_
  refine q_box (v := .agg #[u64 (δ.1), u64 (δ.2), .slice za zs.length zc, u64 (first)]) (o := .cells #[u64 (δ.1), u64 (δ.2), .slice za zs.length zc, u64 (first)] 94 (0, 0)) H rfl (by rfl) ?_
  intro b1 w2 hb1 H3 hE4
  refine sq (r_assign (v := .slice none 0 0) rfl) ?_
  refine wend ?_
  refine seqRegion ?_
  refine q_buildSlice (E := ELb) (l := ([] : List (BitVec 64 × BitVec 64))) H3 sli92 zer38 (Nat.le_of_ble_eq_true rfl) (ps := []) rfl (by exact fillAll rfl rfl) rfl ?_
  intro b5 w7 hS6 H8 hE9
  refine sq (r_fieldAddr (off' := 2) fld94_1 (by decide) (b := b1) (off := 0) rfl (by omega)) ?_
  refine sq (r_loadC (v := .slice za zs.length zc) one92 (H8.get (k := 1) rfl) (off := 2) rfl (by rfl)) ?_
  refine sq (r_fieldAddr (off' := 2) fld94_1 (by decide) (b := b1) (off := 0) rfl (by omega)) ?_
  refine sq (r_loadC (v := .slice za zs.length zc) one92 (H8.get (k := 1) rfl) (off := 2) rfl (by rfl)) ?_
  refine sq (r_lenS sli92 (a := za) (m := zs.length) (c := zc) rfl) ?_
  refine sq (r_move (v := i64 (n)) rfl) ?_
  refine sq (r_maxI (a := n) (b := (0 : Int)) rfl rfl) ?_
  refine sq ((r_minI (a := (zs.length : Nat)) (b := max n (0 : Int)) rfl rfl).as (v' := i64 ((m0 : Nat))) (by exact congrArg i64 (by omega))) ?_
  refine sq ((r_sliceS (l := 0) (h := m0) sli92 rfl (.inr ⟨rfl, rfl⟩) (.inl ⟨_, _, _, rfl, rfl, by first | rfl | omega | (simp; omega)⟩) (by omega) (by omega)).as (v' := .slice (if zc = 0 then za else adr za (0 * 2)) m0 (zc - 0)) (by first | rfl | (congr 1; omega) | (simp; omega) | simp)) ?_
  refine q_append (E := ELb) (k := 0) (l := ([] : List (BitVec 64 × BitVec 64))) (l2 := (zs.drop 0).take (m0)) H8 rfl hS6 sli92 zer38 rfl byt38 (Rd.sub (hZ.ext H8.chg) 0 (m0) (m := zc) (fun e => by first | exact absurd e (by omega) | (rw [show m0 = 0 by omega]; rfl))) rfl (by rfl) rfl (by first | rfl | omega | (simp; omega) | (simp at *; omega)) (by omega) ?_
  intro key10 c11 sp12 w14 hS13 hne16 H15
  have H15' := H15.as (L' := [(key10, sob ELb 38 (([] : List (BitVec 64 × BitVec 64)) ++ ((zs.drop 0).take (m0))) sp12), (some b1, .cells #[u64 (δ.1), u64 (δ.2), .slice za zs.length zc, u64 (first)] 94 (0, 0))]) rfl
  clear H15
  have e17 : ([] : List (BitVec 64 × BitVec 64)) ++ ((zs.drop 0).take (m0)) = z0 := by rw [List.nil_append, List.drop_zero, hz0]
  have hS18 := hS13
  rw [e17] at hS18
  have H19 := H15'.as (L' := [(key10, sob ELb 38 z0 sp12), (some b1, .cells #[u64 (δ.1), u64 (δ.2), .slice za zs.length zc, u64 (first)] 94 (0, 0))]) (by rw [e17])
  refine sq (r_assign (v := .slice (ownA key10) (0 + m0) c11) rfl) ?_
  refine wend ?_
  refine seqAny ?_
  refine seqRegion ?_
  refine sq (r_move (v := .slice (ownA key10) (0 + m0) c11) rfl) ?_
  refine sq (r_lenS sli92 (a := ownA key10) (m := 0 + m0) (c := c11) rfl) ?_
  refine sq (r_assign (v := i64 ((0 + m0 : Nat))) rfl) ?_
  refine wend ?_
  refine blockAny ?_
  refine loopAny (σ := Nat × Option Nat × Nat × List Value) (fun (i, key, c, sp) => [(1, i64 (n)), (5, .slice (ownA key) (m0 + i) c), (6, i64 (((m0 + i) : Nat)))]) (fun (i, key, c, sp) w' => (i ≤ n.toNat - m0 ∧ Sl ELb key (zS z0 i) c sp) ∧ Hp No w w' [(key, sob ELb 38 (zS z0 i) sp)]) (fun (i, key, c, sp) => n.toNat - m0 - i) ((0, key10, c11, sp12)) ?_ ?_ ?_
  · exact ⟨rfl, congrArg (fun q => Value.slice _ q _) (by omega), congrArg i64 (by omega), trivial⟩
  · exact ⟨⟨Nat.zero_le _, hS18⟩, (H19.dropk 1)⟩
  rintro ⟨i, key, c, sp⟩ ρ w20 ⟨⟨hi, hS⟩, HL⟩
  have hwl := zS_len z0 i
  refine seqAny ?_
  refine seqRegion ?_
  refine sq (r_move (v := i64 (((m0 + i) : Nat))) rfl) ?_
  refine sq (r_move (v := i64 (n)) rfl) ?_
  refine sq (r_lssI (a := ((m0 + i) : Nat)) (b := n) rfl rfl) ?_
  refine wend ?_
  refine condProp ((((m0 + i) : Nat) : Int) < n) rfl (fun c22 => ?_) (fun c22 => ?_)
  · skip
    refine skipAny ?_
    refine thenNormal ?_
    refine seqAny ?_
    refine blockAny ?_
    refine oneRegion ?_
    refine sq (r_move (v := .slice (ownA key) (m0 + i) c) rfl) ?_
    refine sq (r_move (v := i64 (((m0 + i) : Nat))) rfl) ?_
    refine sq (r_Ito64 und3 und32 (a := ((m0 + i) : Nat)) rfl) ?_
    refine sq (r_mul64 (a := BitVec.ofInt 64 ((m0 + i) : Nat)) (b := 77#64) rfl rfl) ?_
    refine sq (r_move (v := i64 (((m0 + i) : Nat))) rfl) ?_
    refine sq (r_Ito64 und3 und32 (a := ((m0 + i) : Nat)) rfl) ?_
    refine sq (r_mul64 (a := BitVec.ofInt 64 ((m0 + i) : Nat)) (b := 1000003#64) rfl rfl) ?_
    refine sq (r_buildA (cs' := (cel E64 [(BitVec.ofInt 64 ((m0 + i) : Nat)) * (77#64), (BitVec.ofInt 64 ((m0 + i) : Nat)) * (1000003#64)]).toArray) (ps := [(0, u64 ((BitVec.ofInt 64 ((m0 + i) : Nat)) * (77#64))), (1, u64 ((BitVec.ofInt 64 ((m0 + i) : Nat)) * (1000003#64)))]) zer38 arr38 rfl (by rfl)) ?_
    refine q_buildSlice (E := ELb) (l := ([((BitVec.ofInt 64 ((m0 + i) : Nat)) * (77#64), (BitVec.ofInt 64 ((m0 + i) : Nat)) * (1000003#64))] : List (BitVec 64 × BitVec 64))) HL sli92 zer38 (Nat.le_of_ble_eq_true rfl) (ps := [(0, .agg (cel E64 [(BitVec.ofInt 64 ((m0 + i) : Nat)) * (77#64), (BitVec.ofInt 64 ((m0 + i) : Nat)) * (1000003#64)]).toArray)]) rfl (by exact fillAll rfl rfl) rfl ?_
    intro b22 w24 hS23 H25 hE26
    refine q_append (E := ELb) (k := 1) (l := zS z0 i) (l2 := ([((BitVec.ofInt 64 ((m0 + i) : Nat)) * (77#64), (BitVec.ofInt 64 ((m0 + i) : Nat)) * (1000003#64))] : List (BitVec 64 × BitVec 64))) H25 rfl hS sli92 zer38 rfl byt38 (H25.rd (k := 0) rfl hS23) rfl (by rw [zS_len, hzl]) rfl (by rfl) (by omega) ?_
    intro key27 c28 sp29 w31 hS30 hne33 H32
    have H32' := H32.as (L' := [((some b22), sob ELb 38 ([((BitVec.ofInt 64 ((m0 + i) : Nat)) * (77#64), (BitVec.ofInt 64 ((m0 + i) : Nat)) * (1000003#64))] : List (BitVec 64 × BitVec 64)) ([])), (key27, sob ELb 38 ((zS z0 i) ++ ([((BitVec.ofInt 64 ((m0 + i) : Nat)) * (77#64), (BitVec.ofInt 64 ((m0 + i) : Nat)) * (1000003#64))] : List (BitVec 64 × BitVec 64))) sp29)]) rfl
    clear H32
    have e34 : (zS z0 i) ++ ([((BitVec.ofInt 64 ((m0 + i) : Nat)) * (77#64), (BitVec.ofInt 64 ((m0 + i) : Nat)) * (1000003#64))] : List (BitVec 64 × BitVec 64)) = zS z0 (i + 1) := by rw [zS, zmk, hzl]
    have hS35 := hS30
    rw [e34] at hS35
    have H36 := H32'.as (L' := [((some b22), sob ELb 38 ([((BitVec.ofInt 64 ((m0 + i) : Nat)) * (77#64), (BitVec.ofInt 64 ((m0 + i) : Nat)) * (1000003#64))] : List (BitVec 64 × BitVec 64)) ([])), (key27, sob ELb 38 (zS z0 (i + 1)) sp29)]) (by rw [e34])
    refine sq (r_assign (v := .slice (ownA key27) ((m0 + i) + 1) c28) rfl) ?_
    refine wnil ?_
    refine blockNormal ?_
    refine thenNormal ?_
    refine oneRegion ?_
    refine sq (r_move (v := i64 (((m0 + i) : Nat))) rfl) ?_
    refine sq ((r_addI (a := ((m0 + i) : Nat)) (b := (1 : Int)) rfl rfl (by omega)).as (v' := i64 (((m0 + (i + 1)) : Nat))) (by exact congrArg i64 (by omega))) ?_
    refine sq (r_assign (v := i64 (((m0 + (i + 1)) : Nat))) rfl) ?_
    refine wnil ?_
    refine thenNormal ?_
    exact ⟨(i + 1, key27, c28, sp29), _, rfl, ⟨rfl, rfl, rfl, trivial⟩, ⟨⟨by omega, hS35⟩, (H36.dropk 0)⟩, by show n.toNat - m0 - (i + 1) < n.toNat - m0 - i; omega⟩
  · skip
    obtain rfl : i = n.toNat - m0 := by omega
    refine exitAny ?_
    refine thenExit ?_
    refine thenExit ?_
    refine blockHere ?_
    refine thenNormal ?_
    refine seqRegion ?_
    refine sq (r_move (v := .slice (ownA key) (m0 + (n.toNat - m0)) c) rfl) ?_
    refine sq (r_assign (v := .slice (ownA key) (m0 + (n.toNat - m0)) c) rfl) ?_
    refine wend ?_
    refine retAny ?_
    refine retG (rs := [.tmp 4]) (vs := [.slice (ownA key) (m0 + (n.toNat - m0)) c]) rfl ⟨⟨rfl, rfl⟩, trivial⟩ ?_
    rw [show zerosS zs n.toNat = zS z0 (n.toNat - m0) from by rw [zerosS, hz0, hm0]]
    exact ⟨_, rfl, HL.resN (k := 0) rfl hS (by rw [zS_len]; omega), HL.chg⟩
end Go.Proofs.YteofdmdpaejgaaaDoor.Gb
