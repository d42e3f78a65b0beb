/- The walks of the stocks. -/
import Derived.Test.YteofdmdpaejgaaaDoorCorr7
import Derived.Test.YteofdmdpaejgaaaDoorVcPoset
namespace Go.Proofs.YteofdmdpaejgaaaDoor.Co
open Go Go.Proofs.YteofdmdpaejgaaaDoor.Vc Go.Proofs.YteofdmdpaejgaaaDoor.Er
set_option linter.unusedVariables false
theorem agg61 : isAgg' Tryd.prog 61 = true := by kernel_rfl
theorem arr61 : arr Tryd.prog 61 = some (2, 3) := by kernel_rfl
theorem call23 : callable Tryd.prog 23 = true := by kernel_rfl
theorem pls54 : pls Tryd.prog 54 = some #[(0, 1), (1, 1), (2, 1)] := by kernel_rfl
theorem siz61 : siz Tryd.prog 61 = some 6 := by kernel_rfl
theorem zer54 : zer Tryd.prog 54 = some (.agg #[.slice none 0 0, .slice none 0 0, .slice none 0 0]) := by kernel_rfl
theorem zer61 : zer Tryd.prog 61 = some (.agg (List.replicate 6 (.slice none 0 0)).toArray) := by kernel_rfl
set_option maxRecDepth 20000 in
set_option maxHeartbeats 2000000 in
theorem rdeal_ok (ws : List (BitVec 64)) (wa : Option Addr) (wc : Nat) (n1 n2 n3 : Nat) (hn1 : n1 ≤ 65536) (hn2 : n2 ≤ 65536) (hn3 : n3 ≤ 65536) (w : World) (hW : Rd E64 w wa ws) (hlen : ws.length ≤ 140737488355328) (hfit : 5 * (n1 + n2 + n3) ≤ ws.length) : Calls Tryd.prog 25 [.slice wa ws.length wc, i64 ((n1 : Nat)), i64 ((n2 : Nat)), i64 ((n3 : Nat))].toArray w (Ret fun v w' => ∃ (kyta : Option Nat) (ccta : Nat) (zzta : List Value) (kyba : Option Nat) (ccba : Nat) (zzba : List Value) (kyoa : Option Nat) (ccoa : Nat) (zzoa : List Value) (kytb : Option Nat) (cctb : Nat) (zztb : List Value) (kybb : Option Nat) (ccbb : Nat) (zzbb : List Value) (kyob : Option Nat) (ccob : Nat) (zzob : List Value), v = .tuple #[.agg #[.slice (ownA kyta) (rowsOf (trA ws) 0 n1).length ccta, .slice (ownA kyba) (rowsOf (trA ws) (5 * n1) n2).length ccba, .slice (ownA kyoa) (rowsOf (otA ws) (5 * (n1 + n2)) n3).length ccoa, .slice (ownA kytb) (rowsOf (trB ws) 0 n1).length cctb, .slice (ownA kybb) (rowsOf (biB ws) (5 * n1) n2).length ccbb, .slice (ownA kyob) (rowsOf (otB ws) (5 * (n1 + n2)) n3).length ccob], i64 (0 : Int)] ∧ Sl ETr kyta (rowsOf (trA ws) 0 n1) ccta zzta ∧ Sl ETr kyba (rowsOf (trA ws) (5 * n1) n2) ccba zzba ∧ Sl EOt kyoa (rowsOf (otA ws) (5 * (n1 + n2)) n3) ccoa zzoa ∧ Sl ETr kytb (rowsOf (trB ws) 0 n1) cctb zztb ∧ Sl ETr kybb (rowsOf (biB ws) (5 * n1) n2) ccbb zzbb ∧ Sl EOt kyob (rowsOf (otB ws) (5 * (n1 + n2)) n3) ccob zzob ∧ Hp No w w' [(kyta, sob ETr 34 (rowsOf (trA ws) 0 n1) zzta), (kyba, sob ETr 34 (rowsOf (trA ws) (5 * n1) n2) zzba), (kyoa, sob EOt 41 (rowsOf (otA ws) (5 * (n1 + n2)) n3) zzoa), (kytb, sob ETr 34 (rowsOf (trB ws) 0 n1) zztb), (kybb, sob ETr 34 (rowsOf (biB ws) (5 * n1) n2) zzbb), (kyob, sob EOt 41 (rowsOf (otB ws) (5 * (n1 + n2)) n3) zzob)]) := by
  have H := Hp.start No w
  refine enter (n := 276) Tryd.func25 rfl rfl (Nat.le_of_ble_eq_true rfl) ?_
  refine seqRegion ?_
  refine q_alloc (o := .cells #[.slice none 0 0, .slice none 0 0, .slice none 0 0, .slice none 0 0, .slice none 0 0, .slice none 0 0] 61 (0, 0)) H zer61 (by kernel_rfl) ?_
  intro b1 w2 hb1 H3 hE4
  refine sq (r_assign (v := i64 ((0 : Int))) rfl) ?_
  refine wend ?_
  refine seqRegion ?_
  refine sq (r_buildA (cs' := #[.slice none 0 0, .slice none 0 0, .slice none 0 0, .slice none 0 0, .slice none 0 0, .slice none 0 0]) (ps := []) zer61 arr61 rfl (by rfl)) ?_
  refine q_alloc (o := .cells #[.slice none 0 0, .slice none 0 0, .slice none 0 0, .slice none 0 0, .slice none 0 0, .slice none 0 0] 61 (0, 0)) H3 zer61 (by kernel_rfl) ?_
  intro b5 w6 hb5 H7 hE8
  refine d_store (k := 0) (v := .agg #[.slice none 0 0, .slice none 0 0, .slice none 0 0, .slice none 0 0, .slice none 0 0, .slice none 0 0]) (cs' := #[.slice none 0 0, .slice none 0 0, .slice none 0 0, .slice none 0 0, .slice none 0 0, .slice none 0 0]) H7 rfl rfl rfl siz61 (by rfl) (by intro u hu; simp [Value.cells] at hu; first | (subst hu; rfl) | (rcases hu with rfl | rfl | rfl | rfl | rfl | rfl <;> rfl)) (by exact Nat.le_of_ble_eq_true rfl) (by rfl) ?_
  intro w9 H10 hC11
  have H10' := H10.as (L' := [(some b5, .cells #[.slice none 0 0, .slice none 0 0, .slice none 0 0, .slice none 0 0, .slice none 0 0, .slice none 0 0] 61 (0, 0)), (some b1, .cells #[.slice none 0 0, .slice none 0 0, .slice none 0 0, .slice none 0 0, .slice none 0 0, .slice none 0 0] 61 (0, 0))]) rfl
  clear H10
  refine wend ?_
  refine seqAny ?_
  refine seqRegion ?_
  refine sq (r_move (v := i64 ((n1 : Nat))) rfl) ?_
  refine sq ((r_lssI (a := (n1 : Nat)) (b := (0 : Int)) rfl rfl).as (v' := .bool (false)) (by exact congrArg Value.bool (decide_eq_false (by omega)))) ?_
  refine sq (r_move (v := .bool (false)) rfl) ?_
  refine sqAny (v := i64 ((n1 : Nat))) (w' := w9) (wantedSome (d' := 24) (b := false) rfl rfl rfl) (r_move (v := i64 ((n1 : Nat))) rfl) ?_
  refine sqAny (v := .bool (false)) (w' := w9) (wantedSome (d' := 24) (b := false) rfl rfl rfl) ((r_gtrI (a := (n1 : Nat)) (b := (65536 : Int)) rfl rfl).as (v' := .bool (false)) (by exact congrArg Value.bool (decide_eq_false (by omega)))) ?_
  refine sq (r_pickF (v := .bool (false)) rfl rfl) ?_
  refine sq (r_move (v := .bool (false)) rfl) ?_
  refine sqAny (v := i64 ((n2 : Nat))) (w' := w9) (wantedSome (d' := 28) (b := false) rfl rfl rfl) (r_move (v := i64 ((n2 : Nat))) rfl) ?_
  refine sqAny (v := .bool (false)) (w' := w9) (wantedSome (d' := 28) (b := false) rfl rfl rfl) ((r_lssI (a := (n2 : Nat)) (b := (0 : Int)) rfl rfl).as (v' := .bool (false)) (by exact congrArg Value.bool (decide_eq_false (by omega)))) ?_
  refine sq (r_pickF (v := .bool (false)) rfl rfl) ?_
  refine sq (r_move (v := .bool (false)) rfl) ?_
  refine sqAny (v := i64 ((n2 : Nat))) (w' := w9) (wantedSome (d' := 32) (b := false) rfl rfl rfl) (r_move (v := i64 ((n2 : Nat))) rfl) ?_
  refine sqAny (v := .bool (false)) (w' := w9) (wantedSome (d' := 32) (b := false) rfl rfl rfl) ((r_gtrI (a := (n2 : Nat)) (b := (65536 : Int)) rfl rfl).as (v' := .bool (false)) (by exact congrArg Value.bool (decide_eq_false (by omega)))) ?_
  refine sq (r_pickF (v := .bool (false)) rfl rfl) ?_
  refine sq (r_move (v := .bool (false)) rfl) ?_
  refine sqAny (v := i64 ((n3 : Nat))) (w' := w9) (wantedSome (d' := 36) (b := false) rfl rfl rfl) (r_move (v := i64 ((n3 : Nat))) rfl) ?_
  refine sqAny (v := .bool (false)) (w' := w9) (wantedSome (d' := 36) (b := false) rfl rfl rfl) ((r_lssI (a := (n3 : Nat)) (b := (0 : Int)) rfl rfl).as (v' := .bool (false)) (by exact congrArg Value.bool (decide_eq_false (by omega)))) ?_
  refine sq (r_pickF (v := .bool (false)) rfl rfl) ?_
  refine sq (r_move (v := .bool (false)) rfl) ?_
  refine sqAny (v := i64 ((n3 : Nat))) (w' := w9) (wantedSome (d' := 40) (b := false) rfl rfl rfl) (r_move (v := i64 ((n3 : Nat))) rfl) ?_
  refine sqAny (v := .bool (false)) (w' := w9) (wantedSome (d' := 40) (b := false) rfl rfl rfl) ((r_gtrI (a := (n3 : Nat)) (b := (65536 : Int)) rfl rfl).as (v' := .bool (false)) (by exact congrArg Value.bool (decide_eq_false (by omega)))) ?_
  refine sq (r_pickF (v := .bool (false)) rfl rfl) ?_
  refine wend ?_
  refine condFalse rfl ?_
  refine skipAny ?_
  refine thenNormal ?_
  refine seqAny ?_
  refine seqRegion ?_
  refine sq (r_move (v := .slice wa ws.length wc) rfl) ?_
  refine sq (r_lenS sli22 (a := wa) (m := ws.length) (c := wc) rfl) ?_
  refine sq (r_move (v := i64 ((n1 : Nat))) rfl) ?_
  refine sq (r_move (v := i64 ((n2 : Nat))) rfl) ?_
  refine sq (r_addI (a := (n1 : Nat)) (b := (n2 : Nat)) rfl rfl (by omega)) ?_
  refine sq (r_move (v := i64 ((n3 : Nat))) rfl) ?_
  refine sq (r_addI (a := (n1 : Nat) + (n2 : Nat)) (b := (n3 : Nat)) rfl rfl (by omega)) ?_
  refine sq (r_mulI (a := (5 : Int)) (b := ((n1 : Nat) + (n2 : Nat)) + (n3 : Nat)) rfl rfl (by omega)) ?_
  refine sq ((r_lssI (a := (ws.length : Nat)) (b := (5 : Int) * (((n1 : Nat) + (n2 : Nat)) + (n3 : Nat))) rfl rfl).as (v' := .bool (false)) (by exact congrArg Value.bool (decide_eq_false (by omega)))) ?_
  refine wend ?_
  refine condFalse rfl ?_
  refine skipAny ?_
  refine thenNormal ?_
  refine seqRegion ?_
  refine sq (r_assign (v := i64 ((0 : Int))) rfl) ?_
  refine wend ?_
  refine seqAny ?_
  refine seqRegion ?_
  refine sq (r_assign (v := i64 ((0 : Int))) rfl) ?_
  refine wend ?_
  refine blockAny ?_
  refine loopAny (σ := Nat × Option Nat × Nat × List Value × Option Nat × Nat × List Value) (fun (zi, kyta, ccta, zzta, kytb, cctb, zztb) => [(0, .slice wa ws.length wc), (1, i64 ((n1 : Nat))), (2, i64 ((n2 : Nat))), (3, i64 ((n3 : Nat))), (8, .pointer (some ⟨b1, 0, none⟩)), (9, i64 ((0 : Int))), (10, .pointer (some ⟨b5, 0, none⟩)), (11, i64 ((0 + 5 * zi : Nat))), (12, i64 ((zi : Nat)))]) (fun (zi, kyta, ccta, zzta, kytb, cctb, zztb) w' => (zi ≤ n1 ∧ Sl ETr kyta (rowsOf (trA ws) 0 zi) ccta zzta ∧ Sl ETr kytb (rowsOf (trB ws) 0 zi) cctb zztb) ∧ Hp No w w' [(some b5, .cells #[.slice (ownA kyta) zi ccta, .slice none 0 0, .slice none 0 0, .slice (ownA kytb) zi cctb, .slice none 0 0, .slice none 0 0] 61 (0, 0)), (kyta, sob ETr 34 (rowsOf (trA ws) 0 zi) zzta), (kytb, sob ETr 34 (rowsOf (trB ws) 0 zi) zztb), (some b1, .cells #[.slice none 0 0, .slice none 0 0, .slice none 0 0, .slice none 0 0, .slice none 0 0, .slice none 0 0] 61 (0, 0))]) (fun (zi, kyta, ccta, zzta, kytb, cctb, zztb) => n1 - zi) ((0, none, 0, [], none, 0, [])) ?_ ?_ ?_
  · exact ⟨rfl, rfl, rfl, rfl, rfl, rfl, rfl, congrArg i64 (by omega), rfl, trivial⟩
  · exact ⟨⟨Nat.zero_le _, Sl.none, Sl.none⟩, (((H10'.nil (sob ETr 34 [] [])).nil (sob ETr 34 [] [])).pick 4 [2, 1, 0, 3] (by decide) (by decide))⟩
  rintro ⟨zi, kyta, ccta, zzta, kytb, cctb, zztb⟩ ρ w12 ⟨⟨hzi, hkyta, hkytb⟩, HL0⟩
  refine seqAny ?_
  refine seqRegion ?_
  refine sq (r_move (v := i64 ((zi : Nat))) rfl) ?_
  refine sq (r_move (v := i64 ((n1 : Nat))) rfl) ?_
  refine sq (r_lssI (a := (zi : Nat)) (b := (n1 : Nat)) rfl rfl) ?_
  refine wend ?_
  refine condProp (((zi : Nat) : Int) < (n1 : Nat)) rfl (fun c57 => ?_) (fun c57 => ?_)
  · skip
    refine skipAny ?_
    refine thenNormal ?_
    refine seqAny ?_
    refine blockAny ?_
    refine seqAny ?_
    refine drawAny (K := [none, none, none, none, none, none, none, none, none, none, none, none, none, none, none, none, none, none, none, none, none, none, none]) [0, 0, 3, 7, 0, 0, 32, 112, 240, 511, 0, 0, 2048, 7168, 15360, 0, 0, 65536, 229376, 491520, 1047552, 1023, 4194303] (fun w' => Ext w12 w') (fun w' w'' => Ext w' w'') mixed (by kernel_rfl) (Ext.drew _) (fun _ _ h h' => h.trans h') ?_ ?_
    · exact relNone (by decide)
    refine ⟨.slice wa ws.length wc, fun _ uw14 hC15 _ => Gives.run rfl (r_move (v := .slice wa ws.length wc) rfl) ⟨rfl, Chg.refl _ _⟩, ?_⟩
    refine ⟨i64 ((0 + 5 * zi : Nat)), fun _ uw16 hC17 _ => Gives.run rfl (r_move (v := i64 ((0 + 5 * zi : Nat))) rfl) ⟨rfl, Chg.refl _ _⟩, ?_⟩
    refine ⟨.pointer (adr wa ((0 + 5 * zi) * 1)), fun _ uw18 hC19 _ => Gives.run rfl (r_idxS (E := E64) (l := ws) (j := 0 + 5 * zi) sli22 (hW.ext (HL0.ext hC19).chg) rfl rfl (by first | rfl | omega | (simp; omega)) (by rfl) (by omega)) ⟨rfl, Chg.refl _ _⟩, ?_⟩
    refine ⟨u64 ((ws).getD (0 + 5 * zi) 0#64), fun _ uw20 hC21 _ => Gives.run rfl (r_ldS (E := E64) (l := ws) (j := 0 + 5 * zi) (v := (ws).getD (0 + 5 * zi) 0#64) fits32 (hW.ext (HL0.ext hC21).chg) rfl rfl (at_getD (by omega))) ⟨rfl, Chg.refl _ _⟩, ?_⟩
    refine ⟨.slice wa ws.length wc, fun _ uw22 hC23 _ => Gives.run rfl (r_move (v := .slice wa ws.length wc) rfl) ⟨rfl, Chg.refl _ _⟩, ?_⟩
    refine ⟨i64 ((0 + 5 * zi : Nat)), fun _ uw24 hC25 _ => Gives.run rfl (r_move (v := i64 ((0 + 5 * zi : Nat))) rfl) ⟨rfl, Chg.refl _ _⟩, ?_⟩
    refine ⟨i64 ((0 + 5 * zi : Nat) + (1 : Int)), fun _ uw26 hC27 _ => Gives.run rfl (r_addI (a := (0 + 5 * zi : Nat)) (b := (1 : Int)) rfl rfl (by omega)) ⟨rfl, Chg.refl _ _⟩, ?_⟩
    refine ⟨.pointer (adr wa (((0 + 5 * zi) + 1) * 1)), fun _ uw28 hC29 _ => Gives.run rfl (r_idxS (E := E64) (l := ws) (j := (0 + 5 * zi) + 1) sli22 (hW.ext (HL0.ext hC29).chg) rfl rfl (by first | rfl | omega | (simp; omega)) (by rfl) (by omega)) ⟨rfl, Chg.refl _ _⟩, ?_⟩
    refine ⟨u64 ((ws).getD ((0 + 5 * zi) + 1) 0#64), fun _ uw30 hC31 _ => Gives.run rfl (r_ldS (E := E64) (l := ws) (j := (0 + 5 * zi) + 1) (v := (ws).getD ((0 + 5 * zi) + 1) 0#64) fits32 (hW.ext (HL0.ext hC31).chg) rfl rfl (at_getD (by omega))) ⟨rfl, Chg.refl _ _⟩, ?_⟩
    refine ⟨u64 (((ws).getD (0 + 5 * zi) 0#64) + ((ws).getD ((0 + 5 * zi) + 1) 0#64)), fun _ uw32 hC33 _ => Gives.run rfl (r_add64 (a := (ws).getD (0 + 5 * zi) 0#64) (b := (ws).getD ((0 + 5 * zi) + 1) 0#64) rfl rfl) ⟨rfl, Chg.refl _ _⟩, ?_⟩
    refine ⟨.slice wa ws.length wc, fun _ uw34 hC35 _ => Gives.run rfl (r_move (v := .slice wa ws.length wc) rfl) ⟨rfl, Chg.refl _ _⟩, ?_⟩
    refine ⟨i64 ((0 + 5 * zi : Nat)), fun _ uw36 hC37 _ => Gives.run rfl (r_move (v := i64 ((0 + 5 * zi : Nat))) rfl) ⟨rfl, Chg.refl _ _⟩, ?_⟩
    refine ⟨i64 ((0 + 5 * zi : Nat) + (2 : Int)), fun _ uw38 hC39 _ => Gives.run rfl (r_addI (a := (0 + 5 * zi : Nat)) (b := (2 : Int)) rfl rfl (by omega)) ⟨rfl, Chg.refl _ _⟩, ?_⟩
    refine ⟨.pointer (adr wa (((0 + 5 * zi) + 2) * 1)), fun _ uw40 hC41 _ => Gives.run rfl (r_idxS (E := E64) (l := ws) (j := (0 + 5 * zi) + 2) sli22 (hW.ext (HL0.ext hC41).chg) rfl rfl (by first | rfl | omega | (simp; omega)) (by rfl) (by omega)) ⟨rfl, Chg.refl _ _⟩, ?_⟩
    refine ⟨u64 ((ws).getD ((0 + 5 * zi) + 2) 0#64), fun _ uw42 hC43 _ => Gives.run rfl (r_ldS (E := E64) (l := ws) (j := (0 + 5 * zi) + 2) (v := (ws).getD ((0 + 5 * zi) + 2) 0#64) fits32 (hW.ext (HL0.ext hC43).chg) rfl rfl (at_getD (by omega))) ⟨rfl, Chg.refl _ _⟩, ?_⟩
    refine ⟨.slice wa ws.length wc, fun _ uw44 hC45 _ => Gives.run rfl (r_move (v := .slice wa ws.length wc) rfl) ⟨rfl, Chg.refl _ _⟩, ?_⟩
    refine ⟨i64 ((0 + 5 * zi : Nat)), fun _ uw46 hC47 _ => Gives.run rfl (r_move (v := i64 ((0 + 5 * zi : Nat))) rfl) ⟨rfl, Chg.refl _ _⟩, ?_⟩
    refine ⟨i64 ((0 + 5 * zi : Nat) + (3 : Int)), fun _ uw48 hC49 _ => Gives.run rfl (r_addI (a := (0 + 5 * zi : Nat)) (b := (3 : Int)) rfl rfl (by omega)) ⟨rfl, Chg.refl _ _⟩, ?_⟩
    refine ⟨.pointer (adr wa (((0 + 5 * zi) + 3) * 1)), fun _ uw50 hC51 _ => Gives.run rfl (r_idxS (E := E64) (l := ws) (j := (0 + 5 * zi) + 3) sli22 (hW.ext (HL0.ext hC51).chg) rfl rfl (by first | rfl | omega | (simp; omega)) (by rfl) (by omega)) ⟨rfl, Chg.refl _ _⟩, ?_⟩
    refine ⟨u64 ((ws).getD ((0 + 5 * zi) + 3) 0#64), fun _ uw52 hC53 _ => Gives.run rfl (r_ldS (E := E64) (l := ws) (j := (0 + 5 * zi) + 3) (v := (ws).getD ((0 + 5 * zi) + 3) 0#64) fits32 (hW.ext (HL0.ext hC53).chg) rfl rfl (at_getD (by omega))) ⟨rfl, Chg.refl _ _⟩, ?_⟩
    refine ⟨u64 (((ws).getD ((0 + 5 * zi) + 2) 0#64) + ((ws).getD ((0 + 5 * zi) + 3) 0#64)), fun _ uw54 hC55 _ => Gives.run rfl (r_add64 (a := (ws).getD ((0 + 5 * zi) + 2) 0#64) (b := (ws).getD ((0 + 5 * zi) + 3) 0#64) rfl rfl) ⟨rfl, Chg.refl _ _⟩, ?_⟩
    refine ⟨u64 (((ws).getD (0 + 5 * zi) 0#64) + ((ws).getD ((0 + 5 * zi) + 1) 0#64)), fun _ uw56 hC57 _ => Gives.run rfl (r_assign (v := u64 (((ws).getD (0 + 5 * zi) 0#64) + ((ws).getD ((0 + 5 * zi) + 1) 0#64))) rfl) ⟨rfl, Chg.refl _ _⟩, ?_⟩
    refine ⟨u64 (((ws).getD ((0 + 5 * zi) + 2) 0#64) + ((ws).getD ((0 + 5 * zi) + 3) 0#64)), fun _ uw58 hC59 _ => Gives.run rfl (r_assign (v := u64 (((ws).getD ((0 + 5 * zi) + 2) 0#64) + ((ws).getD ((0 + 5 * zi) + 3) 0#64))) rfl) ⟨rfl, Chg.refl _ _⟩, ?_⟩
    intro r63 w60 hE62 hF
    have H61 := HL0.ext hE62
    refine wnil ?_
    refine thenNormal ?_
    refine seqAny ?_
    refine drawC (m := 23) [0, 1, 3, 0, 0, 24, 56, 0, 0, 256, 896, 1920, 0, 0, 8192, 28672, 61440, 131064, 262136, 524287, 1048575, 2097151, 4194303] [18, 19, 22] (fun q vs w' => match q, vs with | 0, [] => Hp No w w' [(some b5, .cells #[.slice (ownA kyta) zi ccta, .slice none 0 0, .slice none 0 0, .slice (ownA kytb) zi cctb, .slice none 0 0, .slice none 0 0] 61 (0, 0)), (kyta, sob ETr 34 (rowsOf (trA ws) 0 zi) zzta), (kytb, sob ETr 34 (rowsOf (trB ws) 0 zi) zztb), (some b1, .cells #[.slice none 0 0, .slice none 0 0, .slice none 0 0, .slice none 0 0, .slice none 0 0, .slice none 0 0] 61 (0, 0))] | 1, [v0] => ∃ (b67 : Nat), v0 = .slice (ownA (some b67)) 1 1 ∧ Sl ETr (some b67) ([⟨(ws).getD (0 + 5 * zi) 0#64, (ws).getD ((0 + 5 * zi) + 2) 0#64, (ws).getD ((0 + 5 * zi) + 4) 0#64⟩] : List Tr) 1 ([]) ∧ Hp No w w' [((some b67), sob ETr 34 ([⟨(ws).getD (0 + 5 * zi) 0#64, (ws).getD ((0 + 5 * zi) + 2) 0#64, (ws).getD ((0 + 5 * zi) + 4) 0#64⟩] : List Tr) ([])), (some b5, .cells #[.slice (ownA kyta) zi ccta, .slice none 0 0, .slice none 0 0, .slice (ownA kytb) zi cctb, .slice none 0 0, .slice none 0 0] 61 (0, 0)), (kyta, sob ETr 34 (rowsOf (trA ws) 0 zi) zzta), (kytb, sob ETr 34 (rowsOf (trB ws) 0 zi) zztb), (some b1, .cells #[.slice none 0 0, .slice none 0 0, .slice none 0 0, .slice none 0 0, .slice none 0 0, .slice none 0 0] 61 (0, 0))] | 2, [v0, v1] => ∃ (b67 : Nat) (key75 : Option Nat) (c76 : Nat) (sp77 : List Value), v0 = .slice (ownA (some b67)) 1 1 ∧ v1 = .slice (ownA key75) (zi + 1) c76 ∧ Sl ETr (some b67) ([⟨(ws).getD (0 + 5 * zi) 0#64, (ws).getD ((0 + 5 * zi) + 2) 0#64, (ws).getD ((0 + 5 * zi) + 4) 0#64⟩] : List Tr) 1 ([]) ∧ Sl ETr key75 (rowsOf (trA ws) 0 (zi + 1)) c76 sp77 ∧ Hp No w w' [((some b67), sob ETr 34 ([⟨(ws).getD (0 + 5 * zi) 0#64, (ws).getD ((0 + 5 * zi) + 2) 0#64, (ws).getD ((0 + 5 * zi) + 4) 0#64⟩] : List Tr) ([])), (some b5, .cells #[.slice (ownA kyta) zi ccta, .slice none 0 0, .slice none 0 0, .slice (ownA kytb) zi cctb, .slice none 0 0, .slice none 0 0] 61 (0, 0)), (key75, sob ETr 34 (rowsOf (trA ws) 0 (zi + 1)) sp77), (kytb, sob ETr 34 (rowsOf (trB ws) 0 zi) zztb), (some b1, .cells #[.slice none 0 0, .slice none 0 0, .slice none 0 0, .slice none 0 0, .slice none 0 0, .slice none 0 0] 61 (0, 0))] | 3, [v0, v1, _] => ∃ (b67 : Nat) (key75 : Option Nat) (c76 : Nat) (sp77 : List Value), v0 = .slice (ownA (some b67)) 1 1 ∧ v1 = .slice (ownA key75) (zi + 1) c76 ∧ True ∧ Sl ETr (some b67) ([⟨(ws).getD (0 + 5 * zi) 0#64, (ws).getD ((0 + 5 * zi) + 2) 0#64, (ws).getD ((0 + 5 * zi) + 4) 0#64⟩] : List Tr) 1 ([]) ∧ Sl ETr key75 (rowsOf (trA ws) 0 (zi + 1)) c76 sp77 ∧ Hp No w w' [((some b67), sob ETr 34 ([⟨(ws).getD (0 + 5 * zi) 0#64, (ws).getD ((0 + 5 * zi) + 2) 0#64, (ws).getD ((0 + 5 * zi) + 4) 0#64⟩] : List Tr) ([])), (some b5, .cells #[.slice (ownA key75) (zi + 1) c76, .slice none 0 0, .slice none 0 0, .slice (ownA kytb) zi cctb, .slice none 0 0, .slice none 0 0] 61 (0, 0)), (key75, sob ETr 34 (rowsOf (trA ws) 0 (zi + 1)) sp77), (kytb, sob ETr 34 (rowsOf (trB ws) 0 zi) zztb), (some b1, .cells #[.slice none 0 0, .slice none 0 0, .slice none 0 0, .slice none 0 0, .slice none 0 0, .slice none 0 0] 61 (0, 0))] | _, _ => False) mixed (by kernel_rfl) (by kernel_rfl) H61.drew ?_
    refine WalkC.look rfl (fun _ => .pointer (some ⟨b5, 0, none⟩)) (fun _ _ _ => rfl) (fun q r uw _ _ _ _ => Gives.run rfl (r_indexA (off' := 0) (j := 0) arr61 (b := b5) (off := 0) rfl rfl (by first | rfl | omega | (simp; omega)) (by omega) (by omega)) ⟨rfl, rfl⟩) ?_
    refine WalkC.look rfl (fun _ => .pointer (some ⟨b5, 0, none⟩)) (fun _ _ _ => rfl) (fun q r uw _ _ _ _ => Gives.run rfl (r_fieldAddr (off' := 0) fld54_0 (by decide) (b := b5) (off := 0) rfl (by omega)) ⟨rfl, rfl⟩) ?_
    refine WalkC.look rfl (fun _ => .slice (ownA kyta) zi ccta) (fun _ _ _ => rfl) (fun q r uw hlo hhi hle hF => ?_) ?_
    · skip
      have h1 : 0 ≤ q := Nat.zero_le _
      have h2 : q ≤ 1 := hhi 1 19 rfl rfl
      rcases (show q = 0 ∨ q = 1 by omega) with rfl | rfl
      · skip
        have HH := hF
        exact Gives.run rfl (r_loadC (v := .slice (ownA kyta) zi ccta) one49 (HH.get (k := 0) rfl) (off := 0) rfl (by rfl)) ⟨rfl, rfl⟩
      · skip
        obtain ⟨b67, e18, hS68, HH⟩ := hF
        exact Gives.run rfl (r_loadC (v := .slice (ownA kyta) zi ccta) one49 (HH.get (k := 1) rfl) (off := 0) rfl (by rfl)) ⟨rfl, rfl⟩
    refine WalkC.look rfl (fun _ => .slice wa ws.length wc) (fun _ _ _ => rfl) (fun q r uw _ _ _ _ => Gives.run rfl (r_move (v := .slice wa ws.length wc) rfl) ⟨rfl, rfl⟩) ?_
    refine WalkC.look rfl (fun _ => i64 ((0 + 5 * zi : Nat))) (fun _ _ _ => rfl) (fun q r uw _ _ _ _ => Gives.run rfl (r_move (v := i64 ((0 + 5 * zi : Nat))) rfl) ⟨rfl, rfl⟩) ?_
    refine WalkC.look rfl (fun _ => .pointer (adr wa ((0 + 5 * zi) * 1))) (fun _ _ _ => rfl) (fun q r uw hlo hhi hle hF => ?_) ?_
    · skip
      have h1 : 0 ≤ q := Nat.zero_le _
      have h2 : q ≤ 0 := hhi 0 18 rfl rfl
      rcases (show q = 0 by omega) with rfl
      · skip
        have HH := hF
        exact Gives.run rfl (r_idxS (E := E64) (l := ws) (j := 0 + 5 * zi) sli22 (hW.ext HH.chg) rfl rfl (by first | rfl | omega | (simp; omega)) (by rfl) (by omega)) ⟨rfl, rfl⟩
    refine WalkC.look rfl (fun _ => u64 ((ws).getD (0 + 5 * zi) 0#64)) (fun _ _ _ => rfl) (fun q r uw hlo hhi hle hF => ?_) ?_
    · skip
      have h1 : 0 ≤ q := Nat.zero_le _
      have h2 : q ≤ 0 := hhi 0 18 rfl rfl
      rcases (show q = 0 by omega) with rfl
      · skip
        have HH := hF
        exact Gives.run rfl (r_ldS (E := E64) (l := ws) (j := 0 + 5 * zi) (v := (ws).getD (0 + 5 * zi) 0#64) fits32 (hW.ext HH.chg) rfl rfl (at_getD (by omega))) ⟨rfl, rfl⟩
    refine WalkC.look rfl (fun _ => .slice wa ws.length wc) (fun _ _ _ => rfl) (fun q r uw _ _ _ _ => Gives.run rfl (r_move (v := .slice wa ws.length wc) rfl) ⟨rfl, rfl⟩) ?_
    refine WalkC.look rfl (fun _ => i64 ((0 + 5 * zi : Nat))) (fun _ _ _ => rfl) (fun q r uw _ _ _ _ => Gives.run rfl (r_move (v := i64 ((0 + 5 * zi : Nat))) rfl) ⟨rfl, rfl⟩) ?_
    refine WalkC.look rfl (fun _ => i64 ((0 + 5 * zi : Nat) + (2 : Int))) (fun _ _ _ => rfl) (fun q r uw _ _ _ _ => Gives.run rfl (r_addI (a := (0 + 5 * zi : Nat)) (b := (2 : Int)) rfl rfl (by omega)) ⟨rfl, rfl⟩) ?_
    refine WalkC.look rfl (fun _ => .pointer (adr wa (((0 + 5 * zi) + 2) * 1))) (fun _ _ _ => rfl) (fun q r uw hlo hhi hle hF => ?_) ?_
    · skip
      have h1 : 0 ≤ q := Nat.zero_le _
      have h2 : q ≤ 0 := hhi 0 18 rfl rfl
      rcases (show q = 0 by omega) with rfl
      · skip
        have HH := hF
        exact Gives.run rfl (r_idxS (E := E64) (l := ws) (j := (0 + 5 * zi) + 2) sli22 (hW.ext HH.chg) rfl rfl (by first | rfl | omega | (simp; omega)) (by rfl) (by omega)) ⟨rfl, rfl⟩
    refine WalkC.look rfl (fun _ => u64 ((ws).getD ((0 + 5 * zi) + 2) 0#64)) (fun _ _ _ => rfl) (fun q r uw hlo hhi hle hF => ?_) ?_
    · skip
      have h1 : 0 ≤ q := Nat.zero_le _
      have h2 : q ≤ 0 := hhi 0 18 rfl rfl
      rcases (show q = 0 by omega) with rfl
      · skip
        have HH := hF
        exact Gives.run rfl (r_ldS (E := E64) (l := ws) (j := (0 + 5 * zi) + 2) (v := (ws).getD ((0 + 5 * zi) + 2) 0#64) fits32 (hW.ext HH.chg) rfl rfl (at_getD (by omega))) ⟨rfl, rfl⟩
    refine WalkC.look rfl (fun _ => .slice wa ws.length wc) (fun _ _ _ => rfl) (fun q r uw _ _ _ _ => Gives.run rfl (r_move (v := .slice wa ws.length wc) rfl) ⟨rfl, rfl⟩) ?_
    refine WalkC.look rfl (fun _ => i64 ((0 + 5 * zi : Nat))) (fun _ _ _ => rfl) (fun q r uw _ _ _ _ => Gives.run rfl (r_move (v := i64 ((0 + 5 * zi : Nat))) rfl) ⟨rfl, rfl⟩) ?_
    refine WalkC.look rfl (fun _ => i64 ((0 + 5 * zi : Nat) + (4 : Int))) (fun _ _ _ => rfl) (fun q r uw _ _ _ _ => Gives.run rfl (r_addI (a := (0 + 5 * zi : Nat)) (b := (4 : Int)) rfl rfl (by omega)) ⟨rfl, rfl⟩) ?_
    refine WalkC.look rfl (fun _ => .pointer (adr wa (((0 + 5 * zi) + 4) * 1))) (fun _ _ _ => rfl) (fun q r uw hlo hhi hle hF => ?_) ?_
    · skip
      have h1 : 0 ≤ q := Nat.zero_le _
      have h2 : q ≤ 0 := hhi 0 18 rfl rfl
      rcases (show q = 0 by omega) with rfl
      · skip
        have HH := hF
        exact Gives.run rfl (r_idxS (E := E64) (l := ws) (j := (0 + 5 * zi) + 4) sli22 (hW.ext HH.chg) rfl rfl (by first | rfl | omega | (simp; omega)) (by rfl) (by omega)) ⟨rfl, rfl⟩
    refine WalkC.look rfl (fun _ => u64 ((ws).getD ((0 + 5 * zi) + 4) 0#64)) (fun _ _ _ => rfl) (fun q r uw hlo hhi hle hF => ?_) ?_
    · skip
      have h1 : 0 ≤ q := Nat.zero_le _
      have h2 : q ≤ 0 := hhi 0 18 rfl rfl
      rcases (show q = 0 by omega) with rfl
      · skip
        have HH := hF
        exact Gives.run rfl (r_ldS (E := E64) (l := ws) (j := (0 + 5 * zi) + 4) (v := (ws).getD ((0 + 5 * zi) + 4) 0#64) fits32 (hW.ext HH.chg) rfl rfl (at_getD (by omega))) ⟨rfl, rfl⟩
    refine WalkC.look rfl (fun _ => .agg #[u64 ((ws).getD (0 + 5 * zi) 0#64), u64 ((ws).getD ((0 + 5 * zi) + 2) 0#64), u64 ((ws).getD ((0 + 5 * zi) + 4) 0#64)]) (fun _ _ _ => rfl) (fun q r uw _ _ _ _ => Gives.run rfl (r_build (cs' := #[u64 ((ws).getD (0 + 5 * zi) 0#64), u64 ((ws).getD ((0 + 5 * zi) + 2) 0#64), u64 ((ws).getD ((0 + 5 * zi) + 4) 0#64)]) (ps := [(0, u64 ((ws).getD (0 + 5 * zi) 0#64)), (1, u64 ((ws).getD ((0 + 5 * zi) + 2) 0#64)), (2, u64 ((ws).getD ((0 + 5 * zi) + 4) 0#64))]) zer34 pls34 rfl (by rfl)) ⟨rfl, rfl⟩) ?_
    refine WalkC.eff 0 rfl (fun r uw64 hF66 => ?_) ?_
    · skip
      have H65 := hF66
      dsimp only [List.take, List.map, List.cons_append, List.nil_append]
      refine Gives.ofW (d := 99) rfl rfl (fun Q' hK => ?_)
      refine q_buildSlice (E := ETr) (l := ([⟨(ws).getD (0 + 5 * zi) 0#64, (ws).getD ((0 + 5 * zi) + 2) 0#64, (ws).getD ((0 + 5 * zi) + 4) 0#64⟩] : List Tr)) H65 sli49 zer34 (Nat.le_of_ble_eq_true rfl) (ps := [(0, .agg #[u64 ((ws).getD (0 + 5 * zi) 0#64), u64 ((ws).getD ((0 + 5 * zi) + 2) 0#64), u64 ((ws).getD ((0 + 5 * zi) + 4) 0#64)])]) rfl (by exact fillAll rfl rfl) rfl ?_
      intro b67 w69 hS68 H70 hE71
      exact hK _ _ ⟨b67, rfl, hS68, H70⟩
    refine WalkC.eff 1 rfl (fun r uw72 hF74 => ?_) ?_
    · skip
      obtain ⟨b67, e18, hS68, H73⟩ := hF74
      dsimp only [List.take, List.map, List.cons_append, List.nil_append]
      rw [e18]
      refine Gives.ofW (d := 100) rfl rfl (fun Q' hK => ?_)
      refine q_append (E := ETr) (k := 2) (l := rowsOf (trA ws) 0 zi) (l2 := ([⟨(ws).getD (0 + 5 * zi) 0#64, (ws).getD ((0 + 5 * zi) + 2) 0#64, (ws).getD ((0 + 5 * zi) + 4) 0#64⟩] : List Tr)) H73 rfl hkyta sli49 zer34 rfl byt34 (H73.rd (k := 0) rfl hS68) rfl (by rw [rowsOf_len]) rfl (by rfl) (by omega) ?_
      intro key75 c76 sp77 w79 hS78 hne81 H80
      have H80' := H80.as (L' := [((some b67), sob ETr 34 ([⟨(ws).getD (0 + 5 * zi) 0#64, (ws).getD ((0 + 5 * zi) + 2) 0#64, (ws).getD ((0 + 5 * zi) + 4) 0#64⟩] : List Tr) ([])), (some b5, .cells #[.slice (ownA kyta) zi ccta, .slice none 0 0, .slice none 0 0, .slice (ownA kytb) zi cctb, .slice none 0 0, .slice none 0 0] 61 (0, 0)), (key75, sob ETr 34 ((rowsOf (trA ws) 0 zi) ++ ([⟨(ws).getD (0 + 5 * zi) 0#64, (ws).getD ((0 + 5 * zi) + 2) 0#64, (ws).getD ((0 + 5 * zi) + 4) 0#64⟩] : List Tr)) sp77), (kytb, sob ETr 34 (rowsOf (trB ws) 0 zi) zztb), (some b1, .cells #[.slice none 0 0, .slice none 0 0, .slice none 0 0, .slice none 0 0, .slice none 0 0, .slice none 0 0] 61 (0, 0))]) rfl
      clear H80
      have e82 : (rowsOf (trA ws) 0 zi) ++ ([⟨(ws).getD (0 + 5 * zi) 0#64, (ws).getD ((0 + 5 * zi) + 2) 0#64, (ws).getD ((0 + 5 * zi) + 4) 0#64⟩] : List Tr) = rowsOf (trA ws) 0 (zi + 1) := by rw [rowsOf_succ]; rfl
      have hS83 := hS78
      rw [e82] at hS83
      have H84 := H80'.as (L' := [((some b67), sob ETr 34 ([⟨(ws).getD (0 + 5 * zi) 0#64, (ws).getD ((0 + 5 * zi) + 2) 0#64, (ws).getD ((0 + 5 * zi) + 4) 0#64⟩] : List Tr) ([])), (some b5, .cells #[.slice (ownA kyta) zi ccta, .slice none 0 0, .slice none 0 0, .slice (ownA kytb) zi cctb, .slice none 0 0, .slice none 0 0] 61 (0, 0)), (key75, sob ETr 34 (rowsOf (trA ws) 0 (zi + 1)) sp77), (kytb, sob ETr 34 (rowsOf (trB ws) 0 zi) zztb), (some b1, .cells #[.slice none 0 0, .slice none 0 0, .slice none 0 0, .slice none 0 0, .slice none 0 0, .slice none 0 0] 61 (0, 0))]) (by rw [e82])
      exact hK _ _ ⟨b67, key75, c76, sp77, rfl, rfl, hS68, hS83, H84⟩
    refine WalkC.look rfl (fun _ => .pointer (some ⟨b5, 0, none⟩)) (fun _ _ _ => rfl) (fun q r uw _ _ _ _ => Gives.run rfl (r_indexA (off' := 0) (j := 0) arr61 (b := b5) (off := 0) rfl rfl (by first | rfl | omega | (simp; omega)) (by omega) (by omega)) ⟨rfl, rfl⟩) ?_
    refine WalkC.look rfl (fun _ => .pointer (some ⟨b5, 0, none⟩)) (fun _ _ _ => rfl) (fun q r uw _ _ _ _ => Gives.run rfl (r_fieldAddr (off' := 0) fld54_0 (by decide) (b := b5) (off := 0) rfl (by omega)) ⟨rfl, rfl⟩) ?_
    refine WalkC.eff 2 rfl (fun r uw85 hF87 => ?_) ?_
    · skip
      obtain ⟨b67, key75, c76, sp77, e18, e19, hS68, hS83, H86⟩ := hF87
      dsimp only [List.take, List.map, List.cons_append, List.nil_append]
      rw [e18, e19]
      refine Gives.ofW0 rfl (fun Q' hK => ?_)
      refine d_store (k := 1) (v := .slice (ownA key75) (zi + 1) c76) (cs' := #[.slice (ownA key75) (zi + 1) c76, .slice none 0 0, .slice none 0 0, .slice (ownA kytb) zi cctb, .slice none 0 0, .slice none 0 0]) H86 rfl rfl rfl siz49 (by rfl) (by intro u hu; simp [Value.cells] at hu; first | (subst hu; rfl) | (rcases hu with rfl <;> rfl)) (by exact Nat.le_of_ble_eq_true rfl) (by rfl) ?_
      intro w88 H89 hC90
      have H89' := H89.as (L' := [((some b67), sob ETr 34 ([⟨(ws).getD (0 + 5 * zi) 0#64, (ws).getD ((0 + 5 * zi) + 2) 0#64, (ws).getD ((0 + 5 * zi) + 4) 0#64⟩] : List Tr) ([])), (some b5, .cells #[.slice (ownA key75) (zi + 1) c76, .slice none 0 0, .slice none 0 0, .slice (ownA kytb) zi cctb, .slice none 0 0, .slice none 0 0] 61 (0, 0)), (key75, sob ETr 34 (rowsOf (trA ws) 0 (zi + 1)) sp77), (kytb, sob ETr 34 (rowsOf (trB ws) 0 zi) zztb), (some b1, .cells #[.slice none 0 0, .slice none 0 0, .slice none 0 0, .slice none 0 0, .slice none 0 0, .slice none 0 0] 61 (0, 0))]) rfl
      clear H89
      exact hK _ (fun _ => ⟨b67, key75, c76, sp77, rfl, rfl, trivial, hS68, hS83, H89'⟩)
    refine WalkC.nil ?_
    intro r91 w92 hF94
    obtain ⟨b67, key75, c76, sp77, e18, e19, e22, hS68, hS83, H93⟩ := hF94
    dsimp only
    rw [e18, e19]
    refine wnil ?_
    refine thenNormal ?_
    refine seqAny ?_
    refine drawC (m := 28) [0, 1, 3, 0, 0, 16, 56, 120, 0, 0, 512, 1792, 3840, 0, 0, 24576, 0, 0, 131072, 458752, 983040, 2088960, 4194296, 8388600, 16777215, 33554431, 67108863, 134217727] [23, 24, 27] (fun q vs w' => match q, vs with | 0, [] => Hp No w w' [((some b67), sob ETr 34 ([⟨(ws).getD (0 + 5 * zi) 0#64, (ws).getD ((0 + 5 * zi) + 2) 0#64, (ws).getD ((0 + 5 * zi) + 4) 0#64⟩] : List Tr) ([])), (some b5, .cells #[.slice (ownA key75) (zi + 1) c76, .slice none 0 0, .slice none 0 0, .slice (ownA kytb) zi cctb, .slice none 0 0, .slice none 0 0] 61 (0, 0)), (key75, sob ETr 34 (rowsOf (trA ws) 0 (zi + 1)) sp77), (kytb, sob ETr 34 (rowsOf (trB ws) 0 zi) zztb), (some b1, .cells #[.slice none 0 0, .slice none 0 0, .slice none 0 0, .slice none 0 0, .slice none 0 0, .slice none 0 0] 61 (0, 0))] | 1, [v0] => ∃ (b98 : Nat), v0 = .slice (ownA (some b98)) 1 1 ∧ Sl ETr (some b98) ([⟨(ws).getD ((0 + 5 * zi) + 1) 0#64, (ws).getD ((0 + 5 * zi) + 3) 0#64, ((((ws).getD (0 + 5 * zi) 0#64) + ((ws).getD ((0 + 5 * zi) + 1) 0#64)) * (((ws).getD ((0 + 5 * zi) + 2) 0#64) + ((ws).getD ((0 + 5 * zi) + 3) 0#64))) - ((ws).getD ((0 + 5 * zi) + 4) 0#64)⟩] : List Tr) 1 ([]) ∧ Hp No w w' [((some b98), sob ETr 34 ([⟨(ws).getD ((0 + 5 * zi) + 1) 0#64, (ws).getD ((0 + 5 * zi) + 3) 0#64, ((((ws).getD (0 + 5 * zi) 0#64) + ((ws).getD ((0 + 5 * zi) + 1) 0#64)) * (((ws).getD ((0 + 5 * zi) + 2) 0#64) + ((ws).getD ((0 + 5 * zi) + 3) 0#64))) - ((ws).getD ((0 + 5 * zi) + 4) 0#64)⟩] : List Tr) ([])), ((some b67), sob ETr 34 ([⟨(ws).getD (0 + 5 * zi) 0#64, (ws).getD ((0 + 5 * zi) + 2) 0#64, (ws).getD ((0 + 5 * zi) + 4) 0#64⟩] : List Tr) ([])), (some b5, .cells #[.slice (ownA key75) (zi + 1) c76, .slice none 0 0, .slice none 0 0, .slice (ownA kytb) zi cctb, .slice none 0 0, .slice none 0 0] 61 (0, 0)), (key75, sob ETr 34 (rowsOf (trA ws) 0 (zi + 1)) sp77), (kytb, sob ETr 34 (rowsOf (trB ws) 0 zi) zztb), (some b1, .cells #[.slice none 0 0, .slice none 0 0, .slice none 0 0, .slice none 0 0, .slice none 0 0, .slice none 0 0] 61 (0, 0))] | 2, [v0, v1] => ∃ (b98 : Nat) (key106 : Option Nat) (c107 : Nat) (sp108 : List Value), v0 = .slice (ownA (some b98)) 1 1 ∧ v1 = .slice (ownA key106) (zi + 1) c107 ∧ Sl ETr (some b98) ([⟨(ws).getD ((0 + 5 * zi) + 1) 0#64, (ws).getD ((0 + 5 * zi) + 3) 0#64, ((((ws).getD (0 + 5 * zi) 0#64) + ((ws).getD ((0 + 5 * zi) + 1) 0#64)) * (((ws).getD ((0 + 5 * zi) + 2) 0#64) + ((ws).getD ((0 + 5 * zi) + 3) 0#64))) - ((ws).getD ((0 + 5 * zi) + 4) 0#64)⟩] : List Tr) 1 ([]) ∧ Sl ETr key106 (rowsOf (trB ws) 0 (zi + 1)) c107 sp108 ∧ Hp No w w' [((some b98), sob ETr 34 ([⟨(ws).getD ((0 + 5 * zi) + 1) 0#64, (ws).getD ((0 + 5 * zi) + 3) 0#64, ((((ws).getD (0 + 5 * zi) 0#64) + ((ws).getD ((0 + 5 * zi) + 1) 0#64)) * (((ws).getD ((0 + 5 * zi) + 2) 0#64) + ((ws).getD ((0 + 5 * zi) + 3) 0#64))) - ((ws).getD ((0 + 5 * zi) + 4) 0#64)⟩] : List Tr) ([])), ((some b67), sob ETr 34 ([⟨(ws).getD (0 + 5 * zi) 0#64, (ws).getD ((0 + 5 * zi) + 2) 0#64, (ws).getD ((0 + 5 * zi) + 4) 0#64⟩] : List Tr) ([])), (some b5, .cells #[.slice (ownA key75) (zi + 1) c76, .slice none 0 0, .slice none 0 0, .slice (ownA kytb) zi cctb, .slice none 0 0, .slice none 0 0] 61 (0, 0)), (key75, sob ETr 34 (rowsOf (trA ws) 0 (zi + 1)) sp77), (key106, sob ETr 34 (rowsOf (trB ws) 0 (zi + 1)) sp108), (some b1, .cells #[.slice none 0 0, .slice none 0 0, .slice none 0 0, .slice none 0 0, .slice none 0 0, .slice none 0 0] 61 (0, 0))] | 3, [v0, v1, _] => ∃ (b98 : Nat) (key106 : Option Nat) (c107 : Nat) (sp108 : List Value), v0 = .slice (ownA (some b98)) 1 1 ∧ v1 = .slice (ownA key106) (zi + 1) c107 ∧ True ∧ Sl ETr (some b98) ([⟨(ws).getD ((0 + 5 * zi) + 1) 0#64, (ws).getD ((0 + 5 * zi) + 3) 0#64, ((((ws).getD (0 + 5 * zi) 0#64) + ((ws).getD ((0 + 5 * zi) + 1) 0#64)) * (((ws).getD ((0 + 5 * zi) + 2) 0#64) + ((ws).getD ((0 + 5 * zi) + 3) 0#64))) - ((ws).getD ((0 + 5 * zi) + 4) 0#64)⟩] : List Tr) 1 ([]) ∧ Sl ETr key106 (rowsOf (trB ws) 0 (zi + 1)) c107 sp108 ∧ Hp No w w' [((some b98), sob ETr 34 ([⟨(ws).getD ((0 + 5 * zi) + 1) 0#64, (ws).getD ((0 + 5 * zi) + 3) 0#64, ((((ws).getD (0 + 5 * zi) 0#64) + ((ws).getD ((0 + 5 * zi) + 1) 0#64)) * (((ws).getD ((0 + 5 * zi) + 2) 0#64) + ((ws).getD ((0 + 5 * zi) + 3) 0#64))) - ((ws).getD ((0 + 5 * zi) + 4) 0#64)⟩] : List Tr) ([])), ((some b67), sob ETr 34 ([⟨(ws).getD (0 + 5 * zi) 0#64, (ws).getD ((0 + 5 * zi) + 2) 0#64, (ws).getD ((0 + 5 * zi) + 4) 0#64⟩] : List Tr) ([])), (some b5, .cells #[.slice (ownA key75) (zi + 1) c76, .slice none 0 0, .slice none 0 0, .slice (ownA key106) (zi + 1) c107, .slice none 0 0, .slice none 0 0] 61 (0, 0)), (key75, sob ETr 34 (rowsOf (trA ws) 0 (zi + 1)) sp77), (key106, sob ETr 34 (rowsOf (trB ws) 0 (zi + 1)) sp108), (some b1, .cells #[.slice none 0 0, .slice none 0 0, .slice none 0 0, .slice none 0 0, .slice none 0 0, .slice none 0 0] 61 (0, 0))] | _, _ => False) mixed (by kernel_rfl) (by kernel_rfl) H93.drew ?_
    refine WalkC.look rfl (fun _ => .pointer (some ⟨b5, 3, none⟩)) (fun _ _ _ => rfl) (fun q r uw _ _ _ _ => Gives.run rfl (r_indexA (off' := 3) (j := 1) arr61 (b := b5) (off := 0) rfl rfl (by first | rfl | omega | (simp; omega)) (by omega) (by omega)) ⟨rfl, rfl⟩) ?_
    refine WalkC.look rfl (fun _ => .pointer (some ⟨b5, 3, none⟩)) (fun _ _ _ => rfl) (fun q r uw _ _ _ _ => Gives.run rfl (r_fieldAddr (off' := 3) fld54_0 (by decide) (b := b5) (off := 3) rfl (by omega)) ⟨rfl, rfl⟩) ?_
    refine WalkC.look rfl (fun _ => .slice (ownA kytb) zi cctb) (fun _ _ _ => rfl) (fun q r uw hlo hhi hle hF => ?_) ?_
    · skip
      have h1 : 0 ≤ q := Nat.zero_le _
      have h2 : q ≤ 1 := hhi 1 24 rfl rfl
      rcases (show q = 0 ∨ q = 1 by omega) with rfl | rfl
      · skip
        have HH := hF
        exact Gives.run rfl (r_loadC (v := .slice (ownA kytb) zi cctb) one49 (HH.get (k := 1) rfl) (off := 3) rfl (by rfl)) ⟨rfl, rfl⟩
      · skip
        obtain ⟨b98, e23, hS99, HH⟩ := hF
        exact Gives.run rfl (r_loadC (v := .slice (ownA kytb) zi cctb) one49 (HH.get (k := 2) rfl) (off := 3) rfl (by rfl)) ⟨rfl, rfl⟩
    refine WalkC.look rfl (fun _ => .slice wa ws.length wc) (fun _ _ _ => rfl) (fun q r uw _ _ _ _ => Gives.run rfl (r_move (v := .slice wa ws.length wc) rfl) ⟨rfl, rfl⟩) ?_
    refine WalkC.look rfl (fun _ => i64 ((0 + 5 * zi : Nat))) (fun _ _ _ => rfl) (fun q r uw _ _ _ _ => Gives.run rfl (r_move (v := i64 ((0 + 5 * zi : Nat))) rfl) ⟨rfl, rfl⟩) ?_
    refine WalkC.look rfl (fun _ => i64 ((0 + 5 * zi : Nat) + (1 : Int))) (fun _ _ _ => rfl) (fun q r uw _ _ _ _ => Gives.run rfl (r_addI (a := (0 + 5 * zi : Nat)) (b := (1 : Int)) rfl rfl (by omega)) ⟨rfl, rfl⟩) ?_
    refine WalkC.look rfl (fun _ => .pointer (adr wa (((0 + 5 * zi) + 1) * 1))) (fun _ _ _ => rfl) (fun q r uw hlo hhi hle hF => ?_) ?_
    · skip
      have h1 : 0 ≤ q := Nat.zero_le _
      have h2 : q ≤ 0 := hhi 0 23 rfl rfl
      rcases (show q = 0 by omega) with rfl
      · skip
        have HH := hF
        exact Gives.run rfl (r_idxS (E := E64) (l := ws) (j := (0 + 5 * zi) + 1) sli22 (hW.ext HH.chg) rfl rfl (by first | rfl | omega | (simp; omega)) (by rfl) (by omega)) ⟨rfl, rfl⟩
    refine WalkC.look rfl (fun _ => u64 ((ws).getD ((0 + 5 * zi) + 1) 0#64)) (fun _ _ _ => rfl) (fun q r uw hlo hhi hle hF => ?_) ?_
    · skip
      have h1 : 0 ≤ q := Nat.zero_le _
      have h2 : q ≤ 0 := hhi 0 23 rfl rfl
      rcases (show q = 0 by omega) with rfl
      · skip
        have HH := hF
        exact Gives.run rfl (r_ldS (E := E64) (l := ws) (j := (0 + 5 * zi) + 1) (v := (ws).getD ((0 + 5 * zi) + 1) 0#64) fits32 (hW.ext HH.chg) rfl rfl (at_getD (by omega))) ⟨rfl, rfl⟩
    refine WalkC.look rfl (fun _ => .slice wa ws.length wc) (fun _ _ _ => rfl) (fun q r uw _ _ _ _ => Gives.run rfl (r_move (v := .slice wa ws.length wc) rfl) ⟨rfl, rfl⟩) ?_
    refine WalkC.look rfl (fun _ => i64 ((0 + 5 * zi : Nat))) (fun _ _ _ => rfl) (fun q r uw _ _ _ _ => Gives.run rfl (r_move (v := i64 ((0 + 5 * zi : Nat))) rfl) ⟨rfl, rfl⟩) ?_
    refine WalkC.look rfl (fun _ => i64 ((0 + 5 * zi : Nat) + (3 : Int))) (fun _ _ _ => rfl) (fun q r uw _ _ _ _ => Gives.run rfl (r_addI (a := (0 + 5 * zi : Nat)) (b := (3 : Int)) rfl rfl (by omega)) ⟨rfl, rfl⟩) ?_
    refine WalkC.look rfl (fun _ => .pointer (adr wa (((0 + 5 * zi) + 3) * 1))) (fun _ _ _ => rfl) (fun q r uw hlo hhi hle hF => ?_) ?_
    · skip
      have h1 : 0 ≤ q := Nat.zero_le _
      have h2 : q ≤ 0 := hhi 0 23 rfl rfl
      rcases (show q = 0 by omega) with rfl
      · skip
        have HH := hF
        exact Gives.run rfl (r_idxS (E := E64) (l := ws) (j := (0 + 5 * zi) + 3) sli22 (hW.ext HH.chg) rfl rfl (by first | rfl | omega | (simp; omega)) (by rfl) (by omega)) ⟨rfl, rfl⟩
    refine WalkC.look rfl (fun _ => u64 ((ws).getD ((0 + 5 * zi) + 3) 0#64)) (fun _ _ _ => rfl) (fun q r uw hlo hhi hle hF => ?_) ?_
    · skip
      have h1 : 0 ≤ q := Nat.zero_le _
      have h2 : q ≤ 0 := hhi 0 23 rfl rfl
      rcases (show q = 0 by omega) with rfl
      · skip
        have HH := hF
        exact Gives.run rfl (r_ldS (E := E64) (l := ws) (j := (0 + 5 * zi) + 3) (v := (ws).getD ((0 + 5 * zi) + 3) 0#64) fits32 (hW.ext HH.chg) rfl rfl (at_getD (by omega))) ⟨rfl, rfl⟩
    refine WalkC.look rfl (fun _ => u64 (((ws).getD (0 + 5 * zi) 0#64) + ((ws).getD ((0 + 5 * zi) + 1) 0#64))) (fun _ _ _ => rfl) (fun q r uw _ _ _ _ => Gives.run rfl (r_move (v := u64 (((ws).getD (0 + 5 * zi) 0#64) + ((ws).getD ((0 + 5 * zi) + 1) 0#64))) rfl) ⟨rfl, rfl⟩) ?_
    refine WalkC.look rfl (fun _ => u64 (((ws).getD ((0 + 5 * zi) + 2) 0#64) + ((ws).getD ((0 + 5 * zi) + 3) 0#64))) (fun _ _ _ => rfl) (fun q r uw _ _ _ _ => Gives.run rfl (r_move (v := u64 (((ws).getD ((0 + 5 * zi) + 2) 0#64) + ((ws).getD ((0 + 5 * zi) + 3) 0#64))) rfl) ⟨rfl, rfl⟩) ?_
    refine WalkC.look rfl (fun _ => u64 ((((ws).getD (0 + 5 * zi) 0#64) + ((ws).getD ((0 + 5 * zi) + 1) 0#64)) * (((ws).getD ((0 + 5 * zi) + 2) 0#64) + ((ws).getD ((0 + 5 * zi) + 3) 0#64)))) (fun _ _ _ => rfl) (fun q r uw _ _ _ _ => Gives.run rfl (r_mul64 (a := ((ws).getD (0 + 5 * zi) 0#64) + ((ws).getD ((0 + 5 * zi) + 1) 0#64)) (b := ((ws).getD ((0 + 5 * zi) + 2) 0#64) + ((ws).getD ((0 + 5 * zi) + 3) 0#64)) rfl rfl) ⟨rfl, rfl⟩) ?_
    refine WalkC.look rfl (fun _ => .slice wa ws.length wc) (fun _ _ _ => rfl) (fun q r uw _ _ _ _ => Gives.run rfl (r_move (v := .slice wa ws.length wc) rfl) ⟨rfl, rfl⟩) ?_
    refine WalkC.look rfl (fun _ => i64 ((0 + 5 * zi : Nat))) (fun _ _ _ => rfl) (fun q r uw _ _ _ _ => Gives.run rfl (r_move (v := i64 ((0 + 5 * zi : Nat))) rfl) ⟨rfl, rfl⟩) ?_
    refine WalkC.look rfl (fun _ => i64 ((0 + 5 * zi : Nat) + (4 : Int))) (fun _ _ _ => rfl) (fun q r uw _ _ _ _ => Gives.run rfl (r_addI (a := (0 + 5 * zi : Nat)) (b := (4 : Int)) rfl rfl (by omega)) ⟨rfl, rfl⟩) ?_
    refine WalkC.look rfl (fun _ => .pointer (adr wa (((0 + 5 * zi) + 4) * 1))) (fun _ _ _ => rfl) (fun q r uw hlo hhi hle hF => ?_) ?_
    · skip
      have h1 : 0 ≤ q := Nat.zero_le _
      have h2 : q ≤ 0 := hhi 0 23 rfl rfl
      rcases (show q = 0 by omega) with rfl
      · skip
        have HH := hF
        exact Gives.run rfl (r_idxS (E := E64) (l := ws) (j := (0 + 5 * zi) + 4) sli22 (hW.ext HH.chg) rfl rfl (by first | rfl | omega | (simp; omega)) (by rfl) (by omega)) ⟨rfl, rfl⟩
    refine WalkC.look rfl (fun _ => u64 ((ws).getD ((0 + 5 * zi) + 4) 0#64)) (fun _ _ _ => rfl) (fun q r uw hlo hhi hle hF => ?_) ?_
    · skip
      have h1 : 0 ≤ q := Nat.zero_le _
      have h2 : q ≤ 0 := hhi 0 23 rfl rfl
      rcases (show q = 0 by omega) with rfl
      · skip
        have HH := hF
        exact Gives.run rfl (r_ldS (E := E64) (l := ws) (j := (0 + 5 * zi) + 4) (v := (ws).getD ((0 + 5 * zi) + 4) 0#64) fits32 (hW.ext HH.chg) rfl rfl (at_getD (by omega))) ⟨rfl, rfl⟩
    refine WalkC.look rfl (fun _ => u64 (((((ws).getD (0 + 5 * zi) 0#64) + ((ws).getD ((0 + 5 * zi) + 1) 0#64)) * (((ws).getD ((0 + 5 * zi) + 2) 0#64) + ((ws).getD ((0 + 5 * zi) + 3) 0#64))) - ((ws).getD ((0 + 5 * zi) + 4) 0#64))) (fun _ _ _ => rfl) (fun q r uw _ _ _ _ => Gives.run rfl (r_sub64 (a := (((ws).getD (0 + 5 * zi) 0#64) + ((ws).getD ((0 + 5 * zi) + 1) 0#64)) * (((ws).getD ((0 + 5 * zi) + 2) 0#64) + ((ws).getD ((0 + 5 * zi) + 3) 0#64))) (b := (ws).getD ((0 + 5 * zi) + 4) 0#64) rfl rfl) ⟨rfl, rfl⟩) ?_
    refine WalkC.look rfl (fun _ => .agg #[u64 ((ws).getD ((0 + 5 * zi) + 1) 0#64), u64 ((ws).getD ((0 + 5 * zi) + 3) 0#64), u64 (((((ws).getD (0 + 5 * zi) 0#64) + ((ws).getD ((0 + 5 * zi) + 1) 0#64)) * (((ws).getD ((0 + 5 * zi) + 2) 0#64) + ((ws).getD ((0 + 5 * zi) + 3) 0#64))) - ((ws).getD ((0 + 5 * zi) + 4) 0#64))]) (fun _ _ _ => rfl) (fun q r uw _ _ _ _ => Gives.run rfl (r_build (cs' := #[u64 ((ws).getD ((0 + 5 * zi) + 1) 0#64), u64 ((ws).getD ((0 + 5 * zi) + 3) 0#64), u64 (((((ws).getD (0 + 5 * zi) 0#64) + ((ws).getD ((0 + 5 * zi) + 1) 0#64)) * (((ws).getD ((0 + 5 * zi) + 2) 0#64) + ((ws).getD ((0 + 5 * zi) + 3) 0#64))) - ((ws).getD ((0 + 5 * zi) + 4) 0#64))]) (ps := [(0, u64 ((ws).getD ((0 + 5 * zi) + 1) 0#64)), (1, u64 ((ws).getD ((0 + 5 * zi) + 3) 0#64)), (2, u64 (((((ws).getD (0 + 5 * zi) 0#64) + ((ws).getD ((0 + 5 * zi) + 1) 0#64)) * (((ws).getD ((0 + 5 * zi) + 2) 0#64) + ((ws).getD ((0 + 5 * zi) + 3) 0#64))) - ((ws).getD ((0 + 5 * zi) + 4) 0#64)))]) zer34 pls34 rfl (by rfl)) ⟨rfl, rfl⟩) ?_
    refine WalkC.eff 0 rfl (fun r uw95 hF97 => ?_) ?_
    · skip
      have H96 := hF97
      dsimp only [List.take, List.map, List.cons_append, List.nil_append]
      refine Gives.ofW (d := 126) rfl rfl (fun Q' hK => ?_)
      refine q_buildSlice (E := ETr) (l := ([⟨(ws).getD ((0 + 5 * zi) + 1) 0#64, (ws).getD ((0 + 5 * zi) + 3) 0#64, ((((ws).getD (0 + 5 * zi) 0#64) + ((ws).getD ((0 + 5 * zi) + 1) 0#64)) * (((ws).getD ((0 + 5 * zi) + 2) 0#64) + ((ws).getD ((0 + 5 * zi) + 3) 0#64))) - ((ws).getD ((0 + 5 * zi) + 4) 0#64)⟩] : List Tr)) H96 sli49 zer34 (Nat.le_of_ble_eq_true rfl) (ps := [(0, .agg #[u64 ((ws).getD ((0 + 5 * zi) + 1) 0#64), u64 ((ws).getD ((0 + 5 * zi) + 3) 0#64), u64 (((((ws).getD (0 + 5 * zi) 0#64) + ((ws).getD ((0 + 5 * zi) + 1) 0#64)) * (((ws).getD ((0 + 5 * zi) + 2) 0#64) + ((ws).getD ((0 + 5 * zi) + 3) 0#64))) - ((ws).getD ((0 + 5 * zi) + 4) 0#64))])]) rfl (by exact fillAll rfl rfl) rfl ?_
      intro b98 w100 hS99 H101 hE102
      exact hK _ _ ⟨b98, rfl, hS99, H101⟩
    refine WalkC.eff 1 rfl (fun r uw103 hF105 => ?_) ?_
    · skip
      obtain ⟨b98, e23, hS99, H104⟩ := hF105
      dsimp only [List.take, List.map, List.cons_append, List.nil_append]
      rw [e23]
      refine Gives.ofW (d := 127) rfl rfl (fun Q' hK => ?_)
      refine q_append (E := ETr) (k := 4) (l := rowsOf (trB ws) 0 zi) (l2 := ([⟨(ws).getD ((0 + 5 * zi) + 1) 0#64, (ws).getD ((0 + 5 * zi) + 3) 0#64, ((((ws).getD (0 + 5 * zi) 0#64) + ((ws).getD ((0 + 5 * zi) + 1) 0#64)) * (((ws).getD ((0 + 5 * zi) + 2) 0#64) + ((ws).getD ((0 + 5 * zi) + 3) 0#64))) - ((ws).getD ((0 + 5 * zi) + 4) 0#64)⟩] : List Tr)) H104 rfl hkytb sli49 zer34 rfl byt34 (H104.rd (k := 0) rfl hS99) rfl (by rw [rowsOf_len]) rfl (by rfl) (by omega) ?_
      intro key106 c107 sp108 w110 hS109 hne112 H111
      have H111' := H111.as (L' := [((some b98), sob ETr 34 ([⟨(ws).getD ((0 + 5 * zi) + 1) 0#64, (ws).getD ((0 + 5 * zi) + 3) 0#64, ((((ws).getD (0 + 5 * zi) 0#64) + ((ws).getD ((0 + 5 * zi) + 1) 0#64)) * (((ws).getD ((0 + 5 * zi) + 2) 0#64) + ((ws).getD ((0 + 5 * zi) + 3) 0#64))) - ((ws).getD ((0 + 5 * zi) + 4) 0#64)⟩] : List Tr) ([])), ((some b67), sob ETr 34 ([⟨(ws).getD (0 + 5 * zi) 0#64, (ws).getD ((0 + 5 * zi) + 2) 0#64, (ws).getD ((0 + 5 * zi) + 4) 0#64⟩] : List Tr) ([])), (some b5, .cells #[.slice (ownA key75) (zi + 1) c76, .slice none 0 0, .slice none 0 0, .slice (ownA kytb) zi cctb, .slice none 0 0, .slice none 0 0] 61 (0, 0)), (key75, sob ETr 34 (rowsOf (trA ws) 0 (zi + 1)) sp77), (key106, sob ETr 34 ((rowsOf (trB ws) 0 zi) ++ ([⟨(ws).getD ((0 + 5 * zi) + 1) 0#64, (ws).getD ((0 + 5 * zi) + 3) 0#64, ((((ws).getD (0 + 5 * zi) 0#64) + ((ws).getD ((0 + 5 * zi) + 1) 0#64)) * (((ws).getD ((0 + 5 * zi) + 2) 0#64) + ((ws).getD ((0 + 5 * zi) + 3) 0#64))) - ((ws).getD ((0 + 5 * zi) + 4) 0#64)⟩] : List Tr)) sp108), (some b1, .cells #[.slice none 0 0, .slice none 0 0, .slice none 0 0, .slice none 0 0, .slice none 0 0, .slice none 0 0] 61 (0, 0))]) rfl
      clear H111
      have e113 : (rowsOf (trB ws) 0 zi) ++ ([⟨(ws).getD ((0 + 5 * zi) + 1) 0#64, (ws).getD ((0 + 5 * zi) + 3) 0#64, ((((ws).getD (0 + 5 * zi) 0#64) + ((ws).getD ((0 + 5 * zi) + 1) 0#64)) * (((ws).getD ((0 + 5 * zi) + 2) 0#64) + ((ws).getD ((0 + 5 * zi) + 3) 0#64))) - ((ws).getD ((0 + 5 * zi) + 4) 0#64)⟩] : List Tr) = rowsOf (trB ws) 0 (zi + 1) := by rw [rowsOf_succ]; rfl
      have hS114 := hS109
      rw [e113] at hS114
      have H115 := H111'.as (L' := [((some b98), sob ETr 34 ([⟨(ws).getD ((0 + 5 * zi) + 1) 0#64, (ws).getD ((0 + 5 * zi) + 3) 0#64, ((((ws).getD (0 + 5 * zi) 0#64) + ((ws).getD ((0 + 5 * zi) + 1) 0#64)) * (((ws).getD ((0 + 5 * zi) + 2) 0#64) + ((ws).getD ((0 + 5 * zi) + 3) 0#64))) - ((ws).getD ((0 + 5 * zi) + 4) 0#64)⟩] : List Tr) ([])), ((some b67), sob ETr 34 ([⟨(ws).getD (0 + 5 * zi) 0#64, (ws).getD ((0 + 5 * zi) + 2) 0#64, (ws).getD ((0 + 5 * zi) + 4) 0#64⟩] : List Tr) ([])), (some b5, .cells #[.slice (ownA key75) (zi + 1) c76, .slice none 0 0, .slice none 0 0, .slice (ownA kytb) zi cctb, .slice none 0 0, .slice none 0 0] 61 (0, 0)), (key75, sob ETr 34 (rowsOf (trA ws) 0 (zi + 1)) sp77), (key106, sob ETr 34 (rowsOf (trB ws) 0 (zi + 1)) sp108), (some b1, .cells #[.slice none 0 0, .slice none 0 0, .slice none 0 0, .slice none 0 0, .slice none 0 0, .slice none 0 0] 61 (0, 0))]) (by rw [e113])
      exact hK _ _ ⟨b98, key106, c107, sp108, rfl, rfl, hS99, hS114, H115⟩
    refine WalkC.look rfl (fun _ => .pointer (some ⟨b5, 3, none⟩)) (fun _ _ _ => rfl) (fun q r uw _ _ _ _ => Gives.run rfl (r_indexA (off' := 3) (j := 1) arr61 (b := b5) (off := 0) rfl rfl (by first | rfl | omega | (simp; omega)) (by omega) (by omega)) ⟨rfl, rfl⟩) ?_
    refine WalkC.look rfl (fun _ => .pointer (some ⟨b5, 3, none⟩)) (fun _ _ _ => rfl) (fun q r uw _ _ _ _ => Gives.run rfl (r_fieldAddr (off' := 3) fld54_0 (by decide) (b := b5) (off := 3) rfl (by omega)) ⟨rfl, rfl⟩) ?_
    refine WalkC.eff 2 rfl (fun r uw116 hF118 => ?_) ?_
    · skip
      obtain ⟨b98, key106, c107, sp108, e23, e24, hS99, hS114, H117⟩ := hF118
      dsimp only [List.take, List.map, List.cons_append, List.nil_append]
      rw [e23, e24]
      refine Gives.ofW0 rfl (fun Q' hK => ?_)
      refine d_store (k := 2) (v := .slice (ownA key106) (zi + 1) c107) (cs' := #[.slice (ownA key75) (zi + 1) c76, .slice none 0 0, .slice none 0 0, .slice (ownA key106) (zi + 1) c107, .slice none 0 0, .slice none 0 0]) H117 rfl rfl rfl siz49 (by rfl) (by intro u hu; simp [Value.cells] at hu; first | (subst hu; rfl) | (rcases hu with rfl <;> rfl)) (by exact Nat.le_of_ble_eq_true rfl) (by rfl) ?_
      intro w119 H120 hC121
      have H120' := H120.as (L' := [((some b98), sob ETr 34 ([⟨(ws).getD ((0 + 5 * zi) + 1) 0#64, (ws).getD ((0 + 5 * zi) + 3) 0#64, ((((ws).getD (0 + 5 * zi) 0#64) + ((ws).getD ((0 + 5 * zi) + 1) 0#64)) * (((ws).getD ((0 + 5 * zi) + 2) 0#64) + ((ws).getD ((0 + 5 * zi) + 3) 0#64))) - ((ws).getD ((0 + 5 * zi) + 4) 0#64)⟩] : List Tr) ([])), ((some b67), sob ETr 34 ([⟨(ws).getD (0 + 5 * zi) 0#64, (ws).getD ((0 + 5 * zi) + 2) 0#64, (ws).getD ((0 + 5 * zi) + 4) 0#64⟩] : List Tr) ([])), (some b5, .cells #[.slice (ownA key75) (zi + 1) c76, .slice none 0 0, .slice none 0 0, .slice (ownA key106) (zi + 1) c107, .slice none 0 0, .slice none 0 0] 61 (0, 0)), (key75, sob ETr 34 (rowsOf (trA ws) 0 (zi + 1)) sp77), (key106, sob ETr 34 (rowsOf (trB ws) 0 (zi + 1)) sp108), (some b1, .cells #[.slice none 0 0, .slice none 0 0, .slice none 0 0, .slice none 0 0, .slice none 0 0, .slice none 0 0] 61 (0, 0))]) rfl
      clear H120
      exact hK _ (fun _ => ⟨b98, key106, c107, sp108, rfl, rfl, trivial, hS99, hS114, H120'⟩)
    refine WalkC.nil ?_
    intro r122 w123 hF125
    obtain ⟨b98, key106, c107, sp108, e23, e24, e27, hS99, hS114, H124⟩ := hF125
    dsimp only
    rw [e23, e24]
    refine wnil ?_
    refine thenNormal ?_
    refine oneRegion ?_
    refine sq (r_move (v := i64 ((0 + 5 * zi : Nat))) rfl) ?_
    refine sq (r_addI (a := (0 + 5 * zi : Nat)) (b := (5 : Int)) rfl rfl (by omega)) ?_
    refine sq (r_assign (v := i64 ((0 + 5 * zi : Nat) + (5 : Int))) rfl) ?_
    refine wnil ?_
    refine blockNormal ?_
    refine thenNormal ?_
    refine oneRegion ?_
    refine sq (r_move (v := i64 ((zi : Nat))) rfl) ?_
    refine sq (r_addI (a := (zi : Nat)) (b := (1 : Int)) rfl rfl (by omega)) ?_
    refine sq (r_assign (v := i64 ((zi : Nat) + (1 : Int))) rfl) ?_
    refine wnil ?_
    refine thenNormal ?_
    exact ⟨(zi + 1, key75, c76, sp77, key106, c107, sp108), _, rfl, ⟨rfl, rfl, rfl, rfl, rfl, rfl, rfl, congrArg i64 (by omega), rfl, trivial⟩, ⟨⟨by omega, hS83, hS114⟩, ((H124.dropk 1).dropk 0)⟩, by show n1 - (zi + 1) < n1 - zi; omega⟩
  · skip
    obtain rfl : n1 = zi := by omega
    refine exitAny ?_
    refine thenExit ?_
    refine thenExit ?_
    refine blockHere ?_
    refine thenNormal ?_
    refine seqAny ?_
    refine seqRegion ?_
    refine sq (r_assign (v := i64 ((0 : Int))) rfl) ?_
    refine wend ?_
    refine blockAny ?_
    refine loopAny (σ := Nat × Option Nat × Nat × List Value × Option Nat × Nat × List Value) (fun (zi, kyba, ccba, zzba, kybb, ccbb, zzbb) => [(0, .slice wa ws.length wc), (1, i64 ((n1 : Nat))), (2, i64 ((n2 : Nat))), (3, i64 ((n3 : Nat))), (8, .pointer (some ⟨b1, 0, none⟩)), (9, i64 ((0 : Int))), (10, .pointer (some ⟨b5, 0, none⟩)), (11, i64 ((5 * n1 + 5 * zi : Nat))), (15, i64 ((zi : Nat)))]) (fun (zi, kyba, ccba, zzba, kybb, ccbb, zzbb) w' => (zi ≤ n2 ∧ Sl ETr kyba (rowsOf (trA ws) (5 * n1) zi) ccba zzba ∧ Sl ETr kybb (rowsOf (biB ws) (5 * n1) zi) ccbb zzbb) ∧ Hp No w w' [(some b5, .cells #[.slice (ownA kyta) n1 ccta, .slice (ownA kyba) zi ccba, .slice none 0 0, .slice (ownA kytb) n1 cctb, .slice (ownA kybb) zi ccbb, .slice none 0 0] 61 (0, 0)), (kyta, sob ETr 34 (rowsOf (trA ws) 0 n1) zzta), (kytb, sob ETr 34 (rowsOf (trB ws) 0 n1) zztb), (kyba, sob ETr 34 (rowsOf (trA ws) (5 * n1) zi) zzba), (kybb, sob ETr 34 (rowsOf (biB ws) (5 * n1) zi) zzbb), (some b1, .cells #[.slice none 0 0, .slice none 0 0, .slice none 0 0, .slice none 0 0, .slice none 0 0, .slice none 0 0] 61 (0, 0))]) (fun (zi, kyba, ccba, zzba, kybb, ccbb, zzbb) => n2 - zi) ((0, none, 0, [], none, 0, [])) ?_ ?_ ?_
    · exact ⟨rfl, rfl, rfl, rfl, rfl, rfl, rfl, congrArg i64 (by omega), rfl, trivial⟩
    · exact ⟨⟨Nat.zero_le _, Sl.none, Sl.none⟩, (((HL0.nil (sob ETr 34 [] [])).nil (sob ETr 34 [] [])).pick 6 [2, 3, 4, 1, 0, 5] (by decide) (by decide))⟩
    rintro ⟨zi, kyba, ccba, zzba, kybb, ccbb, zzbb⟩ ρ w126 ⟨⟨hzi, hkyba, hkybb⟩, HL1⟩
    refine seqAny ?_
    refine seqRegion ?_
    refine sq (r_move (v := i64 ((zi : Nat))) rfl) ?_
    refine sq (r_move (v := i64 ((n2 : Nat))) rfl) ?_
    refine sq (r_lssI (a := (zi : Nat)) (b := (n2 : Nat)) rfl rfl) ?_
    refine wend ?_
    refine condProp (((zi : Nat) : Int) < (n2 : Nat)) rfl (fun c134 => ?_) (fun c134 => ?_)
    · skip
      refine skipAny ?_
      refine thenNormal ?_
      refine seqAny ?_
      refine blockAny ?_
      refine seqAny ?_
      refine drawAny (K := [none, none, none, none, none, none, none, none, none, none, none, none, none, none, none, none, none, none, none, none, none, none, none]) [0, 0, 3, 7, 0, 0, 32, 112, 240, 511, 0, 0, 2048, 7168, 15360, 0, 0, 65536, 229376, 491520, 1047552, 1023, 4194303] (fun w' => Ext w126 w') (fun w' w'' => Ext w' w'') mixed (by kernel_rfl) (Ext.drew _) (fun _ _ h h' => h.trans h') ?_ ?_
      · exact relNone (by decide)
      refine ⟨.slice wa ws.length wc, fun _ uw128 hC129 _ => Gives.run rfl (r_move (v := .slice wa ws.length wc) rfl) ⟨rfl, Chg.refl _ _⟩, ?_⟩
      refine ⟨i64 ((5 * n1 + 5 * zi : Nat)), fun _ uw130 hC131 _ => Gives.run rfl (r_move (v := i64 ((5 * n1 + 5 * zi : Nat))) rfl) ⟨rfl, Chg.refl _ _⟩, ?_⟩
      refine ⟨.pointer (adr wa ((5 * n1 + 5 * zi) * 1)), fun _ uw132 hC133 _ => Gives.run rfl (r_idxS (E := E64) (l := ws) (j := 5 * n1 + 5 * zi) sli22 (hW.ext (HL1.ext hC133).chg) rfl rfl (by first | rfl | omega | (simp; omega)) (by rfl) (by omega)) ⟨rfl, Chg.refl _ _⟩, ?_⟩
      refine ⟨u64 ((ws).getD (5 * n1 + 5 * zi) 0#64), fun _ uw134 hC135 _ => Gives.run rfl (r_ldS (E := E64) (l := ws) (j := 5 * n1 + 5 * zi) (v := (ws).getD (5 * n1 + 5 * zi) 0#64) fits32 (hW.ext (HL1.ext hC135).chg) rfl rfl (at_getD (by omega))) ⟨rfl, Chg.refl _ _⟩, ?_⟩
      refine ⟨.slice wa ws.length wc, fun _ uw136 hC137 _ => Gives.run rfl (r_move (v := .slice wa ws.length wc) rfl) ⟨rfl, Chg.refl _ _⟩, ?_⟩
      refine ⟨i64 ((5 * n1 + 5 * zi : Nat)), fun _ uw138 hC139 _ => Gives.run rfl (r_move (v := i64 ((5 * n1 + 5 * zi : Nat))) rfl) ⟨rfl, Chg.refl _ _⟩, ?_⟩
      refine ⟨i64 ((5 * n1 + 5 * zi : Nat) + (1 : Int)), fun _ uw140 hC141 _ => Gives.run rfl (r_addI (a := (5 * n1 + 5 * zi : Nat)) (b := (1 : Int)) rfl rfl (by omega)) ⟨rfl, Chg.refl _ _⟩, ?_⟩
      refine ⟨.pointer (adr wa (((5 * n1 + 5 * zi) + 1) * 1)), fun _ uw142 hC143 _ => Gives.run rfl (r_idxS (E := E64) (l := ws) (j := (5 * n1 + 5 * zi) + 1) sli22 (hW.ext (HL1.ext hC143).chg) rfl rfl (by first | rfl | omega | (simp; omega)) (by rfl) (by omega)) ⟨rfl, Chg.refl _ _⟩, ?_⟩
      refine ⟨u64 ((ws).getD ((5 * n1 + 5 * zi) + 1) 0#64), fun _ uw144 hC145 _ => Gives.run rfl (r_ldS (E := E64) (l := ws) (j := (5 * n1 + 5 * zi) + 1) (v := (ws).getD ((5 * n1 + 5 * zi) + 1) 0#64) fits32 (hW.ext (HL1.ext hC145).chg) rfl rfl (at_getD (by omega))) ⟨rfl, Chg.refl _ _⟩, ?_⟩
      refine ⟨u64 (((ws).getD (5 * n1 + 5 * zi) 0#64) ^^^ ((ws).getD ((5 * n1 + 5 * zi) + 1) 0#64)), fun _ uw146 hC147 _ => Gives.run rfl (r_xor64 (a := (ws).getD (5 * n1 + 5 * zi) 0#64) (b := (ws).getD ((5 * n1 + 5 * zi) + 1) 0#64) rfl rfl) ⟨rfl, Chg.refl _ _⟩, ?_⟩
      refine ⟨.slice wa ws.length wc, fun _ uw148 hC149 _ => Gives.run rfl (r_move (v := .slice wa ws.length wc) rfl) ⟨rfl, Chg.refl _ _⟩, ?_⟩
      refine ⟨i64 ((5 * n1 + 5 * zi : Nat)), fun _ uw150 hC151 _ => Gives.run rfl (r_move (v := i64 ((5 * n1 + 5 * zi : Nat))) rfl) ⟨rfl, Chg.refl _ _⟩, ?_⟩
      refine ⟨i64 ((5 * n1 + 5 * zi : Nat) + (2 : Int)), fun _ uw152 hC153 _ => Gives.run rfl (r_addI (a := (5 * n1 + 5 * zi : Nat)) (b := (2 : Int)) rfl rfl (by omega)) ⟨rfl, Chg.refl _ _⟩, ?_⟩
      refine ⟨.pointer (adr wa (((5 * n1 + 5 * zi) + 2) * 1)), fun _ uw154 hC155 _ => Gives.run rfl (r_idxS (E := E64) (l := ws) (j := (5 * n1 + 5 * zi) + 2) sli22 (hW.ext (HL1.ext hC155).chg) rfl rfl (by first | rfl | omega | (simp; omega)) (by rfl) (by omega)) ⟨rfl, Chg.refl _ _⟩, ?_⟩
      refine ⟨u64 ((ws).getD ((5 * n1 + 5 * zi) + 2) 0#64), fun _ uw156 hC157 _ => Gives.run rfl (r_ldS (E := E64) (l := ws) (j := (5 * n1 + 5 * zi) + 2) (v := (ws).getD ((5 * n1 + 5 * zi) + 2) 0#64) fits32 (hW.ext (HL1.ext hC157).chg) rfl rfl (at_getD (by omega))) ⟨rfl, Chg.refl _ _⟩, ?_⟩
      refine ⟨.slice wa ws.length wc, fun _ uw158 hC159 _ => Gives.run rfl (r_move (v := .slice wa ws.length wc) rfl) ⟨rfl, Chg.refl _ _⟩, ?_⟩
      refine ⟨i64 ((5 * n1 + 5 * zi : Nat)), fun _ uw160 hC161 _ => Gives.run rfl (r_move (v := i64 ((5 * n1 + 5 * zi : Nat))) rfl) ⟨rfl, Chg.refl _ _⟩, ?_⟩
      refine ⟨i64 ((5 * n1 + 5 * zi : Nat) + (3 : Int)), fun _ uw162 hC163 _ => Gives.run rfl (r_addI (a := (5 * n1 + 5 * zi : Nat)) (b := (3 : Int)) rfl rfl (by omega)) ⟨rfl, Chg.refl _ _⟩, ?_⟩
      refine ⟨.pointer (adr wa (((5 * n1 + 5 * zi) + 3) * 1)), fun _ uw164 hC165 _ => Gives.run rfl (r_idxS (E := E64) (l := ws) (j := (5 * n1 + 5 * zi) + 3) sli22 (hW.ext (HL1.ext hC165).chg) rfl rfl (by first | rfl | omega | (simp; omega)) (by rfl) (by omega)) ⟨rfl, Chg.refl _ _⟩, ?_⟩
      refine ⟨u64 ((ws).getD ((5 * n1 + 5 * zi) + 3) 0#64), fun _ uw166 hC167 _ => Gives.run rfl (r_ldS (E := E64) (l := ws) (j := (5 * n1 + 5 * zi) + 3) (v := (ws).getD ((5 * n1 + 5 * zi) + 3) 0#64) fits32 (hW.ext (HL1.ext hC167).chg) rfl rfl (at_getD (by omega))) ⟨rfl, Chg.refl _ _⟩, ?_⟩
      refine ⟨u64 (((ws).getD ((5 * n1 + 5 * zi) + 2) 0#64) ^^^ ((ws).getD ((5 * n1 + 5 * zi) + 3) 0#64)), fun _ uw168 hC169 _ => Gives.run rfl (r_xor64 (a := (ws).getD ((5 * n1 + 5 * zi) + 2) 0#64) (b := (ws).getD ((5 * n1 + 5 * zi) + 3) 0#64) rfl rfl) ⟨rfl, Chg.refl _ _⟩, ?_⟩
      refine ⟨u64 (((ws).getD (5 * n1 + 5 * zi) 0#64) ^^^ ((ws).getD ((5 * n1 + 5 * zi) + 1) 0#64)), fun _ uw170 hC171 _ => Gives.run rfl (r_assign (v := u64 (((ws).getD (5 * n1 + 5 * zi) 0#64) ^^^ ((ws).getD ((5 * n1 + 5 * zi) + 1) 0#64))) rfl) ⟨rfl, Chg.refl _ _⟩, ?_⟩
      refine ⟨u64 (((ws).getD ((5 * n1 + 5 * zi) + 2) 0#64) ^^^ ((ws).getD ((5 * n1 + 5 * zi) + 3) 0#64)), fun _ uw172 hC173 _ => Gives.run rfl (r_assign (v := u64 (((ws).getD ((5 * n1 + 5 * zi) + 2) 0#64) ^^^ ((ws).getD ((5 * n1 + 5 * zi) + 3) 0#64))) rfl) ⟨rfl, Chg.refl _ _⟩, ?_⟩
      intro r177 w174 hE176 hF
      have H175 := HL1.ext hE176
      refine wnil ?_
      refine thenNormal ?_
      refine seqAny ?_
      refine drawC (m := 23) [0, 1, 3, 0, 0, 24, 56, 0, 0, 256, 896, 1920, 0, 0, 8192, 28672, 61440, 131064, 262136, 524287, 1048575, 2097151, 4194303] [18, 19, 22] (fun q vs w' => match q, vs with | 0, [] => Hp No w w' [(some b5, .cells #[.slice (ownA kyta) n1 ccta, .slice (ownA kyba) zi ccba, .slice none 0 0, .slice (ownA kytb) n1 cctb, .slice (ownA kybb) zi ccbb, .slice none 0 0] 61 (0, 0)), (kyta, sob ETr 34 (rowsOf (trA ws) 0 n1) zzta), (kytb, sob ETr 34 (rowsOf (trB ws) 0 n1) zztb), (kyba, sob ETr 34 (rowsOf (trA ws) (5 * n1) zi) zzba), (kybb, sob ETr 34 (rowsOf (biB ws) (5 * n1) zi) zzbb), (some b1, .cells #[.slice none 0 0, .slice none 0 0, .slice none 0 0, .slice none 0 0, .slice none 0 0, .slice none 0 0] 61 (0, 0))] | 1, [v0] => ∃ (b181 : Nat), v0 = .slice (ownA (some b181)) 1 1 ∧ Sl ETr (some b181) ([⟨(ws).getD (5 * n1 + 5 * zi) 0#64, (ws).getD ((5 * n1 + 5 * zi) + 2) 0#64, (ws).getD ((5 * n1 + 5 * zi) + 4) 0#64⟩] : List Tr) 1 ([]) ∧ Hp No w w' [((some b181), sob ETr 34 ([⟨(ws).getD (5 * n1 + 5 * zi) 0#64, (ws).getD ((5 * n1 + 5 * zi) + 2) 0#64, (ws).getD ((5 * n1 + 5 * zi) + 4) 0#64⟩] : List Tr) ([])), (some b5, .cells #[.slice (ownA kyta) n1 ccta, .slice (ownA kyba) zi ccba, .slice none 0 0, .slice (ownA kytb) n1 cctb, .slice (ownA kybb) zi ccbb, .slice none 0 0] 61 (0, 0)), (kyta, sob ETr 34 (rowsOf (trA ws) 0 n1) zzta), (kytb, sob ETr 34 (rowsOf (trB ws) 0 n1) zztb), (kyba, sob ETr 34 (rowsOf (trA ws) (5 * n1) zi) zzba), (kybb, sob ETr 34 (rowsOf (biB ws) (5 * n1) zi) zzbb), (some b1, .cells #[.slice none 0 0, .slice none 0 0, .slice none 0 0, .slice none 0 0, .slice none 0 0, .slice none 0 0] 61 (0, 0))] | 2, [v0, v1] => ∃ (b181 : Nat) (key189 : Option Nat) (c190 : Nat) (sp191 : List Value), v0 = .slice (ownA (some b181)) 1 1 ∧ v1 = .slice (ownA key189) (zi + 1) c190 ∧ Sl ETr (some b181) ([⟨(ws).getD (5 * n1 + 5 * zi) 0#64, (ws).getD ((5 * n1 + 5 * zi) + 2) 0#64, (ws).getD ((5 * n1 + 5 * zi) + 4) 0#64⟩] : List Tr) 1 ([]) ∧ Sl ETr key189 (rowsOf (trA ws) (5 * n1) (zi + 1)) c190 sp191 ∧ Hp No w w' [((some b181), sob ETr 34 ([⟨(ws).getD (5 * n1 + 5 * zi) 0#64, (ws).getD ((5 * n1 + 5 * zi) + 2) 0#64, (ws).getD ((5 * n1 + 5 * zi) + 4) 0#64⟩] : List Tr) ([])), (some b5, .cells #[.slice (ownA kyta) n1 ccta, .slice (ownA kyba) zi ccba, .slice none 0 0, .slice (ownA kytb) n1 cctb, .slice (ownA kybb) zi ccbb, .slice none 0 0] 61 (0, 0)), (kyta, sob ETr 34 (rowsOf (trA ws) 0 n1) zzta), (kytb, sob ETr 34 (rowsOf (trB ws) 0 n1) zztb), (key189, sob ETr 34 (rowsOf (trA ws) (5 * n1) (zi + 1)) sp191), (kybb, sob ETr 34 (rowsOf (biB ws) (5 * n1) zi) zzbb), (some b1, .cells #[.slice none 0 0, .slice none 0 0, .slice none 0 0, .slice none 0 0, .slice none 0 0, .slice none 0 0] 61 (0, 0))] | 3, [v0, v1, _] => ∃ (b181 : Nat) (key189 : Option Nat) (c190 : Nat) (sp191 : List Value), v0 = .slice (ownA (some b181)) 1 1 ∧ v1 = .slice (ownA key189) (zi + 1) c190 ∧ True ∧ Sl ETr (some b181) ([⟨(ws).getD (5 * n1 + 5 * zi) 0#64, (ws).getD ((5 * n1 + 5 * zi) + 2) 0#64, (ws).getD ((5 * n1 + 5 * zi) + 4) 0#64⟩] : List Tr) 1 ([]) ∧ Sl ETr key189 (rowsOf (trA ws) (5 * n1) (zi + 1)) c190 sp191 ∧ Hp No w w' [((some b181), sob ETr 34 ([⟨(ws).getD (5 * n1 + 5 * zi) 0#64, (ws).getD ((5 * n1 + 5 * zi) + 2) 0#64, (ws).getD ((5 * n1 + 5 * zi) + 4) 0#64⟩] : List Tr) ([])), (some b5, .cells #[.slice (ownA kyta) n1 ccta, .slice (ownA key189) (zi + 1) c190, .slice none 0 0, .slice (ownA kytb) n1 cctb, .slice (ownA kybb) zi ccbb, .slice none 0 0] 61 (0, 0)), (kyta, sob ETr 34 (rowsOf (trA ws) 0 n1) zzta), (kytb, sob ETr 34 (rowsOf (trB ws) 0 n1) zztb), (key189, sob ETr 34 (rowsOf (trA ws) (5 * n1) (zi + 1)) sp191), (kybb, sob ETr 34 (rowsOf (biB ws) (5 * n1) zi) zzbb), (some b1, .cells #[.slice none 0 0, .slice none 0 0, .slice none 0 0, .slice none 0 0, .slice none 0 0, .slice none 0 0] 61 (0, 0))] | _, _ => False) mixed (by kernel_rfl) (by kernel_rfl) H175.drew ?_
      refine WalkC.look rfl (fun _ => .pointer (some ⟨b5, 0, none⟩)) (fun _ _ _ => rfl) (fun q r uw _ _ _ _ => Gives.run rfl (r_indexA (off' := 0) (j := 0) arr61 (b := b5) (off := 0) rfl rfl (by first | rfl | omega | (simp; omega)) (by omega) (by omega)) ⟨rfl, rfl⟩) ?_
      refine WalkC.look rfl (fun _ => .pointer (some ⟨b5, 1, none⟩)) (fun _ _ _ => rfl) (fun q r uw _ _ _ _ => Gives.run rfl (r_fieldAddr (off' := 1) fld54_1 (by decide) (b := b5) (off := 0) rfl (by omega)) ⟨rfl, rfl⟩) ?_
      refine WalkC.look rfl (fun _ => .slice (ownA kyba) zi ccba) (fun _ _ _ => rfl) (fun q r uw hlo hhi hle hF => ?_) ?_
      · skip
        have h1 : 0 ≤ q := Nat.zero_le _
        have h2 : q ≤ 1 := hhi 1 19 rfl rfl
        rcases (show q = 0 ∨ q = 1 by omega) with rfl | rfl
        · skip
          have HH := hF
          exact Gives.run rfl (r_loadC (v := .slice (ownA kyba) zi ccba) one49 (HH.get (k := 0) rfl) (off := 1) rfl (by rfl)) ⟨rfl, rfl⟩
        · skip
          obtain ⟨b181, e18, hS182, HH⟩ := hF
          exact Gives.run rfl (r_loadC (v := .slice (ownA kyba) zi ccba) one49 (HH.get (k := 1) rfl) (off := 1) rfl (by rfl)) ⟨rfl, rfl⟩
      refine WalkC.look rfl (fun _ => .slice wa ws.length wc) (fun _ _ _ => rfl) (fun q r uw _ _ _ _ => Gives.run rfl (r_move (v := .slice wa ws.length wc) rfl) ⟨rfl, rfl⟩) ?_
      refine WalkC.look rfl (fun _ => i64 ((5 * n1 + 5 * zi : Nat))) (fun _ _ _ => rfl) (fun q r uw _ _ _ _ => Gives.run rfl (r_move (v := i64 ((5 * n1 + 5 * zi : Nat))) rfl) ⟨rfl, rfl⟩) ?_
      refine WalkC.look rfl (fun _ => .pointer (adr wa ((5 * n1 + 5 * zi) * 1))) (fun _ _ _ => rfl) (fun q r uw hlo hhi hle hF => ?_) ?_
      · skip
        have h1 : 0 ≤ q := Nat.zero_le _
        have h2 : q ≤ 0 := hhi 0 18 rfl rfl
        rcases (show q = 0 by omega) with rfl
        · skip
          have HH := hF
          exact Gives.run rfl (r_idxS (E := E64) (l := ws) (j := 5 * n1 + 5 * zi) sli22 (hW.ext HH.chg) rfl rfl (by first | rfl | omega | (simp; omega)) (by rfl) (by omega)) ⟨rfl, rfl⟩
      refine WalkC.look rfl (fun _ => u64 ((ws).getD (5 * n1 + 5 * zi) 0#64)) (fun _ _ _ => rfl) (fun q r uw hlo hhi hle hF => ?_) ?_
      · skip
        have h1 : 0 ≤ q := Nat.zero_le _
        have h2 : q ≤ 0 := hhi 0 18 rfl rfl
        rcases (show q = 0 by omega) with rfl
        · skip
          have HH := hF
          exact Gives.run rfl (r_ldS (E := E64) (l := ws) (j := 5 * n1 + 5 * zi) (v := (ws).getD (5 * n1 + 5 * zi) 0#64) fits32 (hW.ext HH.chg) rfl rfl (at_getD (by omega))) ⟨rfl, rfl⟩
      refine WalkC.look rfl (fun _ => .slice wa ws.length wc) (fun _ _ _ => rfl) (fun q r uw _ _ _ _ => Gives.run rfl (r_move (v := .slice wa ws.length wc) rfl) ⟨rfl, rfl⟩) ?_
      refine WalkC.look rfl (fun _ => i64 ((5 * n1 + 5 * zi : Nat))) (fun _ _ _ => rfl) (fun q r uw _ _ _ _ => Gives.run rfl (r_move (v := i64 ((5 * n1 + 5 * zi : Nat))) rfl) ⟨rfl, rfl⟩) ?_
      refine WalkC.look rfl (fun _ => i64 ((5 * n1 + 5 * zi : Nat) + (2 : Int))) (fun _ _ _ => rfl) (fun q r uw _ _ _ _ => Gives.run rfl (r_addI (a := (5 * n1 + 5 * zi : Nat)) (b := (2 : Int)) rfl rfl (by omega)) ⟨rfl, rfl⟩) ?_
      refine WalkC.look rfl (fun _ => .pointer (adr wa (((5 * n1 + 5 * zi) + 2) * 1))) (fun _ _ _ => rfl) (fun q r uw hlo hhi hle hF => ?_) ?_
      · skip
        have h1 : 0 ≤ q := Nat.zero_le _
        have h2 : q ≤ 0 := hhi 0 18 rfl rfl
        rcases (show q = 0 by omega) with rfl
        · skip
          have HH := hF
          exact Gives.run rfl (r_idxS (E := E64) (l := ws) (j := (5 * n1 + 5 * zi) + 2) sli22 (hW.ext HH.chg) rfl rfl (by first | rfl | omega | (simp; omega)) (by rfl) (by omega)) ⟨rfl, rfl⟩
      refine WalkC.look rfl (fun _ => u64 ((ws).getD ((5 * n1 + 5 * zi) + 2) 0#64)) (fun _ _ _ => rfl) (fun q r uw hlo hhi hle hF => ?_) ?_
      · skip
        have h1 : 0 ≤ q := Nat.zero_le _
        have h2 : q ≤ 0 := hhi 0 18 rfl rfl
        rcases (show q = 0 by omega) with rfl
        · skip
          have HH := hF
          exact Gives.run rfl (r_ldS (E := E64) (l := ws) (j := (5 * n1 + 5 * zi) + 2) (v := (ws).getD ((5 * n1 + 5 * zi) + 2) 0#64) fits32 (hW.ext HH.chg) rfl rfl (at_getD (by omega))) ⟨rfl, rfl⟩
      refine WalkC.look rfl (fun _ => .slice wa ws.length wc) (fun _ _ _ => rfl) (fun q r uw _ _ _ _ => Gives.run rfl (r_move (v := .slice wa ws.length wc) rfl) ⟨rfl, rfl⟩) ?_
      refine WalkC.look rfl (fun _ => i64 ((5 * n1 + 5 * zi : Nat))) (fun _ _ _ => rfl) (fun q r uw _ _ _ _ => Gives.run rfl (r_move (v := i64 ((5 * n1 + 5 * zi : Nat))) rfl) ⟨rfl, rfl⟩) ?_
      refine WalkC.look rfl (fun _ => i64 ((5 * n1 + 5 * zi : Nat) + (4 : Int))) (fun _ _ _ => rfl) (fun q r uw _ _ _ _ => Gives.run rfl (r_addI (a := (5 * n1 + 5 * zi : Nat)) (b := (4 : Int)) rfl rfl (by omega)) ⟨rfl, rfl⟩) ?_
      refine WalkC.look rfl (fun _ => .pointer (adr wa (((5 * n1 + 5 * zi) + 4) * 1))) (fun _ _ _ => rfl) (fun q r uw hlo hhi hle hF => ?_) ?_
      · skip
        have h1 : 0 ≤ q := Nat.zero_le _
        have h2 : q ≤ 0 := hhi 0 18 rfl rfl
        rcases (show q = 0 by omega) with rfl
        · skip
          have HH := hF
          exact Gives.run rfl (r_idxS (E := E64) (l := ws) (j := (5 * n1 + 5 * zi) + 4) sli22 (hW.ext HH.chg) rfl rfl (by first | rfl | omega | (simp; omega)) (by rfl) (by omega)) ⟨rfl, rfl⟩
      refine WalkC.look rfl (fun _ => u64 ((ws).getD ((5 * n1 + 5 * zi) + 4) 0#64)) (fun _ _ _ => rfl) (fun q r uw hlo hhi hle hF => ?_) ?_
      · skip
        have h1 : 0 ≤ q := Nat.zero_le _
        have h2 : q ≤ 0 := hhi 0 18 rfl rfl
        rcases (show q = 0 by omega) with rfl
        · skip
          have HH := hF
          exact Gives.run rfl (r_ldS (E := E64) (l := ws) (j := (5 * n1 + 5 * zi) + 4) (v := (ws).getD ((5 * n1 + 5 * zi) + 4) 0#64) fits32 (hW.ext HH.chg) rfl rfl (at_getD (by omega))) ⟨rfl, rfl⟩
      refine WalkC.look rfl (fun _ => .agg #[u64 ((ws).getD (5 * n1 + 5 * zi) 0#64), u64 ((ws).getD ((5 * n1 + 5 * zi) + 2) 0#64), u64 ((ws).getD ((5 * n1 + 5 * zi) + 4) 0#64)]) (fun _ _ _ => rfl) (fun q r uw _ _ _ _ => Gives.run rfl (r_build (cs' := #[u64 ((ws).getD (5 * n1 + 5 * zi) 0#64), u64 ((ws).getD ((5 * n1 + 5 * zi) + 2) 0#64), u64 ((ws).getD ((5 * n1 + 5 * zi) + 4) 0#64)]) (ps := [(0, u64 ((ws).getD (5 * n1 + 5 * zi) 0#64)), (1, u64 ((ws).getD ((5 * n1 + 5 * zi) + 2) 0#64)), (2, u64 ((ws).getD ((5 * n1 + 5 * zi) + 4) 0#64))]) zer34 pls34 rfl (by rfl)) ⟨rfl, rfl⟩) ?_
      refine WalkC.eff 0 rfl (fun r uw178 hF180 => ?_) ?_
      · skip
        have H179 := hF180
        dsimp only [List.take, List.map, List.cons_append, List.nil_append]
        refine Gives.ofW (d := 176) rfl rfl (fun Q' hK => ?_)
        refine q_buildSlice (E := ETr) (l := ([⟨(ws).getD (5 * n1 + 5 * zi) 0#64, (ws).getD ((5 * n1 + 5 * zi) + 2) 0#64, (ws).getD ((5 * n1 + 5 * zi) + 4) 0#64⟩] : List Tr)) H179 sli49 zer34 (Nat.le_of_ble_eq_true rfl) (ps := [(0, .agg #[u64 ((ws).getD (5 * n1 + 5 * zi) 0#64), u64 ((ws).getD ((5 * n1 + 5 * zi) + 2) 0#64), u64 ((ws).getD ((5 * n1 + 5 * zi) + 4) 0#64)])]) rfl (by exact fillAll rfl rfl) rfl ?_
        intro b181 w183 hS182 H184 hE185
        exact hK _ _ ⟨b181, rfl, hS182, H184⟩
      refine WalkC.eff 1 rfl (fun r uw186 hF188 => ?_) ?_
      · skip
        obtain ⟨b181, e18, hS182, H187⟩ := hF188
        dsimp only [List.take, List.map, List.cons_append, List.nil_append]
        rw [e18]
        refine Gives.ofW (d := 177) rfl rfl (fun Q' hK => ?_)
        refine q_append (E := ETr) (k := 4) (l := rowsOf (trA ws) (5 * n1) zi) (l2 := ([⟨(ws).getD (5 * n1 + 5 * zi) 0#64, (ws).getD ((5 * n1 + 5 * zi) + 2) 0#64, (ws).getD ((5 * n1 + 5 * zi) + 4) 0#64⟩] : List Tr)) H187 rfl hkyba sli49 zer34 rfl byt34 (H187.rd (k := 0) rfl hS182) rfl (by rw [rowsOf_len]) rfl (by rfl) (by omega) ?_
        intro key189 c190 sp191 w193 hS192 hne195 H194
        have H194' := H194.as (L' := [((some b181), sob ETr 34 ([⟨(ws).getD (5 * n1 + 5 * zi) 0#64, (ws).getD ((5 * n1 + 5 * zi) + 2) 0#64, (ws).getD ((5 * n1 + 5 * zi) + 4) 0#64⟩] : List Tr) ([])), (some b5, .cells #[.slice (ownA kyta) n1 ccta, .slice (ownA kyba) zi ccba, .slice none 0 0, .slice (ownA kytb) n1 cctb, .slice (ownA kybb) zi ccbb, .slice none 0 0] 61 (0, 0)), (kyta, sob ETr 34 (rowsOf (trA ws) 0 n1) zzta), (kytb, sob ETr 34 (rowsOf (trB ws) 0 n1) zztb), (key189, sob ETr 34 ((rowsOf (trA ws) (5 * n1) zi) ++ ([⟨(ws).getD (5 * n1 + 5 * zi) 0#64, (ws).getD ((5 * n1 + 5 * zi) + 2) 0#64, (ws).getD ((5 * n1 + 5 * zi) + 4) 0#64⟩] : List Tr)) sp191), (kybb, sob ETr 34 (rowsOf (biB ws) (5 * n1) zi) zzbb), (some b1, .cells #[.slice none 0 0, .slice none 0 0, .slice none 0 0, .slice none 0 0, .slice none 0 0, .slice none 0 0] 61 (0, 0))]) rfl
        clear H194
        have e196 : (rowsOf (trA ws) (5 * n1) zi) ++ ([⟨(ws).getD (5 * n1 + 5 * zi) 0#64, (ws).getD ((5 * n1 + 5 * zi) + 2) 0#64, (ws).getD ((5 * n1 + 5 * zi) + 4) 0#64⟩] : List Tr) = rowsOf (trA ws) (5 * n1) (zi + 1) := by rw [rowsOf_succ]; rfl
        have hS197 := hS192
        rw [e196] at hS197
        have H198 := H194'.as (L' := [((some b181), sob ETr 34 ([⟨(ws).getD (5 * n1 + 5 * zi) 0#64, (ws).getD ((5 * n1 + 5 * zi) + 2) 0#64, (ws).getD ((5 * n1 + 5 * zi) + 4) 0#64⟩] : List Tr) ([])), (some b5, .cells #[.slice (ownA kyta) n1 ccta, .slice (ownA kyba) zi ccba, .slice none 0 0, .slice (ownA kytb) n1 cctb, .slice (ownA kybb) zi ccbb, .slice none 0 0] 61 (0, 0)), (kyta, sob ETr 34 (rowsOf (trA ws) 0 n1) zzta), (kytb, sob ETr 34 (rowsOf (trB ws) 0 n1) zztb), (key189, sob ETr 34 (rowsOf (trA ws) (5 * n1) (zi + 1)) sp191), (kybb, sob ETr 34 (rowsOf (biB ws) (5 * n1) zi) zzbb), (some b1, .cells #[.slice none 0 0, .slice none 0 0, .slice none 0 0, .slice none 0 0, .slice none 0 0, .slice none 0 0] 61 (0, 0))]) (by rw [e196])
        exact hK _ _ ⟨b181, key189, c190, sp191, rfl, rfl, hS182, hS197, H198⟩
      refine WalkC.look rfl (fun _ => .pointer (some ⟨b5, 0, none⟩)) (fun _ _ _ => rfl) (fun q r uw _ _ _ _ => Gives.run rfl (r_indexA (off' := 0) (j := 0) arr61 (b := b5) (off := 0) rfl rfl (by first | rfl | omega | (simp; omega)) (by omega) (by omega)) ⟨rfl, rfl⟩) ?_
      refine WalkC.look rfl (fun _ => .pointer (some ⟨b5, 1, none⟩)) (fun _ _ _ => rfl) (fun q r uw _ _ _ _ => Gives.run rfl (r_fieldAddr (off' := 1) fld54_1 (by decide) (b := b5) (off := 0) rfl (by omega)) ⟨rfl, rfl⟩) ?_
      refine WalkC.eff 2 rfl (fun r uw199 hF201 => ?_) ?_
      · skip
        obtain ⟨b181, key189, c190, sp191, e18, e19, hS182, hS197, H200⟩ := hF201
        dsimp only [List.take, List.map, List.cons_append, List.nil_append]
        rw [e18, e19]
        refine Gives.ofW0 rfl (fun Q' hK => ?_)
        refine d_store (k := 1) (v := .slice (ownA key189) (zi + 1) c190) (cs' := #[.slice (ownA kyta) n1 ccta, .slice (ownA key189) (zi + 1) c190, .slice none 0 0, .slice (ownA kytb) n1 cctb, .slice (ownA kybb) zi ccbb, .slice none 0 0]) H200 rfl rfl rfl siz49 (by rfl) (by intro u hu; simp [Value.cells] at hu; first | (subst hu; rfl) | (rcases hu with rfl <;> rfl)) (by exact Nat.le_of_ble_eq_true rfl) (by rfl) ?_
        intro w202 H203 hC204
        have H203' := H203.as (L' := [((some b181), sob ETr 34 ([⟨(ws).getD (5 * n1 + 5 * zi) 0#64, (ws).getD ((5 * n1 + 5 * zi) + 2) 0#64, (ws).getD ((5 * n1 + 5 * zi) + 4) 0#64⟩] : List Tr) ([])), (some b5, .cells #[.slice (ownA kyta) n1 ccta, .slice (ownA key189) (zi + 1) c190, .slice none 0 0, .slice (ownA kytb) n1 cctb, .slice (ownA kybb) zi ccbb, .slice none 0 0] 61 (0, 0)), (kyta, sob ETr 34 (rowsOf (trA ws) 0 n1) zzta), (kytb, sob ETr 34 (rowsOf (trB ws) 0 n1) zztb), (key189, sob ETr 34 (rowsOf (trA ws) (5 * n1) (zi + 1)) sp191), (kybb, sob ETr 34 (rowsOf (biB ws) (5 * n1) zi) zzbb), (some b1, .cells #[.slice none 0 0, .slice none 0 0, .slice none 0 0, .slice none 0 0, .slice none 0 0, .slice none 0 0] 61 (0, 0))]) rfl
        clear H203
        exact hK _ (fun _ => ⟨b181, key189, c190, sp191, rfl, rfl, trivial, hS182, hS197, H203'⟩)
      refine WalkC.nil ?_
      intro r205 w206 hF208
      obtain ⟨b181, key189, c190, sp191, e18, e19, e22, hS182, hS197, H207⟩ := hF208
      dsimp only
      rw [e18, e19]
      refine wnil ?_
      refine thenNormal ?_
      refine seqAny ?_
      refine drawC (m := 28) [0, 1, 3, 0, 0, 16, 56, 120, 0, 0, 512, 1792, 3840, 0, 0, 24576, 0, 0, 131072, 458752, 983040, 2088960, 4194296, 8388600, 16777215, 33554431, 67108863, 134217727] [23, 24, 27] (fun q vs w' => match q, vs with | 0, [] => Hp No w w' [((some b181), sob ETr 34 ([⟨(ws).getD (5 * n1 + 5 * zi) 0#64, (ws).getD ((5 * n1 + 5 * zi) + 2) 0#64, (ws).getD ((5 * n1 + 5 * zi) + 4) 0#64⟩] : List Tr) ([])), (some b5, .cells #[.slice (ownA kyta) n1 ccta, .slice (ownA key189) (zi + 1) c190, .slice none 0 0, .slice (ownA kytb) n1 cctb, .slice (ownA kybb) zi ccbb, .slice none 0 0] 61 (0, 0)), (kyta, sob ETr 34 (rowsOf (trA ws) 0 n1) zzta), (kytb, sob ETr 34 (rowsOf (trB ws) 0 n1) zztb), (key189, sob ETr 34 (rowsOf (trA ws) (5 * n1) (zi + 1)) sp191), (kybb, sob ETr 34 (rowsOf (biB ws) (5 * n1) zi) zzbb), (some b1, .cells #[.slice none 0 0, .slice none 0 0, .slice none 0 0, .slice none 0 0, .slice none 0 0, .slice none 0 0] 61 (0, 0))] | 1, [v0] => ∃ (b212 : Nat), v0 = .slice (ownA (some b212)) 1 1 ∧ Sl ETr (some b212) ([⟨(ws).getD ((5 * n1 + 5 * zi) + 1) 0#64, (ws).getD ((5 * n1 + 5 * zi) + 3) 0#64, ((((ws).getD (5 * n1 + 5 * zi) 0#64) ^^^ ((ws).getD ((5 * n1 + 5 * zi) + 1) 0#64)) &&& (((ws).getD ((5 * n1 + 5 * zi) + 2) 0#64) ^^^ ((ws).getD ((5 * n1 + 5 * zi) + 3) 0#64))) ^^^ ((ws).getD ((5 * n1 + 5 * zi) + 4) 0#64)⟩] : List Tr) 1 ([]) ∧ Hp No w w' [((some b212), sob ETr 34 ([⟨(ws).getD ((5 * n1 + 5 * zi) + 1) 0#64, (ws).getD ((5 * n1 + 5 * zi) + 3) 0#64, ((((ws).getD (5 * n1 + 5 * zi) 0#64) ^^^ ((ws).getD ((5 * n1 + 5 * zi) + 1) 0#64)) &&& (((ws).getD ((5 * n1 + 5 * zi) + 2) 0#64) ^^^ ((ws).getD ((5 * n1 + 5 * zi) + 3) 0#64))) ^^^ ((ws).getD ((5 * n1 + 5 * zi) + 4) 0#64)⟩] : List Tr) ([])), ((some b181), sob ETr 34 ([⟨(ws).getD (5 * n1 + 5 * zi) 0#64, (ws).getD ((5 * n1 + 5 * zi) + 2) 0#64, (ws).getD ((5 * n1 + 5 * zi) + 4) 0#64⟩] : List Tr) ([])), (some b5, .cells #[.slice (ownA kyta) n1 ccta, .slice (ownA key189) (zi + 1) c190, .slice none 0 0, .slice (ownA kytb) n1 cctb, .slice (ownA kybb) zi ccbb, .slice none 0 0] 61 (0, 0)), (kyta, sob ETr 34 (rowsOf (trA ws) 0 n1) zzta), (kytb, sob ETr 34 (rowsOf (trB ws) 0 n1) zztb), (key189, sob ETr 34 (rowsOf (trA ws) (5 * n1) (zi + 1)) sp191), (kybb, sob ETr 34 (rowsOf (biB ws) (5 * n1) zi) zzbb), (some b1, .cells #[.slice none 0 0, .slice none 0 0, .slice none 0 0, .slice none 0 0, .slice none 0 0, .slice none 0 0] 61 (0, 0))] | 2, [v0, v1] => ∃ (b212 : Nat) (key220 : Option Nat) (c221 : Nat) (sp222 : List Value), v0 = .slice (ownA (some b212)) 1 1 ∧ v1 = .slice (ownA key220) (zi + 1) c221 ∧ Sl ETr (some b212) ([⟨(ws).getD ((5 * n1 + 5 * zi) + 1) 0#64, (ws).getD ((5 * n1 + 5 * zi) + 3) 0#64, ((((ws).getD (5 * n1 + 5 * zi) 0#64) ^^^ ((ws).getD ((5 * n1 + 5 * zi) + 1) 0#64)) &&& (((ws).getD ((5 * n1 + 5 * zi) + 2) 0#64) ^^^ ((ws).getD ((5 * n1 + 5 * zi) + 3) 0#64))) ^^^ ((ws).getD ((5 * n1 + 5 * zi) + 4) 0#64)⟩] : List Tr) 1 ([]) ∧ Sl ETr key220 (rowsOf (biB ws) (5 * n1) (zi + 1)) c221 sp222 ∧ Hp No w w' [((some b212), sob ETr 34 ([⟨(ws).getD ((5 * n1 + 5 * zi) + 1) 0#64, (ws).getD ((5 * n1 + 5 * zi) + 3) 0#64, ((((ws).getD (5 * n1 + 5 * zi) 0#64) ^^^ ((ws).getD ((5 * n1 + 5 * zi) + 1) 0#64)) &&& (((ws).getD ((5 * n1 + 5 * zi) + 2) 0#64) ^^^ ((ws).getD ((5 * n1 + 5 * zi) + 3) 0#64))) ^^^ ((ws).getD ((5 * n1 + 5 * zi) + 4) 0#64)⟩] : List Tr) ([])), ((some b181), sob ETr 34 ([⟨(ws).getD (5 * n1 + 5 * zi) 0#64, (ws).getD ((5 * n1 + 5 * zi) + 2) 0#64, (ws).getD ((5 * n1 + 5 * zi) + 4) 0#64⟩] : List Tr) ([])), (some b5, .cells #[.slice (ownA kyta) n1 ccta, .slice (ownA key189) (zi + 1) c190, .slice none 0 0, .slice (ownA kytb) n1 cctb, .slice (ownA kybb) zi ccbb, .slice none 0 0] 61 (0, 0)), (kyta, sob ETr 34 (rowsOf (trA ws) 0 n1) zzta), (kytb, sob ETr 34 (rowsOf (trB ws) 0 n1) zztb), (key189, sob ETr 34 (rowsOf (trA ws) (5 * n1) (zi + 1)) sp191), (key220, sob ETr 34 (rowsOf (biB ws) (5 * n1) (zi + 1)) sp222), (some b1, .cells #[.slice none 0 0, .slice none 0 0, .slice none 0 0, .slice none 0 0, .slice none 0 0, .slice none 0 0] 61 (0, 0))] | 3, [v0, v1, _] => ∃ (b212 : Nat) (key220 : Option Nat) (c221 : Nat) (sp222 : List Value), v0 = .slice (ownA (some b212)) 1 1 ∧ v1 = .slice (ownA key220) (zi + 1) c221 ∧ True ∧ Sl ETr (some b212) ([⟨(ws).getD ((5 * n1 + 5 * zi) + 1) 0#64, (ws).getD ((5 * n1 + 5 * zi) + 3) 0#64, ((((ws).getD (5 * n1 + 5 * zi) 0#64) ^^^ ((ws).getD ((5 * n1 + 5 * zi) + 1) 0#64)) &&& (((ws).getD ((5 * n1 + 5 * zi) + 2) 0#64) ^^^ ((ws).getD ((5 * n1 + 5 * zi) + 3) 0#64))) ^^^ ((ws).getD ((5 * n1 + 5 * zi) + 4) 0#64)⟩] : List Tr) 1 ([]) ∧ Sl ETr key220 (rowsOf (biB ws) (5 * n1) (zi + 1)) c221 sp222 ∧ Hp No w w' [((some b212), sob ETr 34 ([⟨(ws).getD ((5 * n1 + 5 * zi) + 1) 0#64, (ws).getD ((5 * n1 + 5 * zi) + 3) 0#64, ((((ws).getD (5 * n1 + 5 * zi) 0#64) ^^^ ((ws).getD ((5 * n1 + 5 * zi) + 1) 0#64)) &&& (((ws).getD ((5 * n1 + 5 * zi) + 2) 0#64) ^^^ ((ws).getD ((5 * n1 + 5 * zi) + 3) 0#64))) ^^^ ((ws).getD ((5 * n1 + 5 * zi) + 4) 0#64)⟩] : List Tr) ([])), ((some b181), sob ETr 34 ([⟨(ws).getD (5 * n1 + 5 * zi) 0#64, (ws).getD ((5 * n1 + 5 * zi) + 2) 0#64, (ws).getD ((5 * n1 + 5 * zi) + 4) 0#64⟩] : List Tr) ([])), (some b5, .cells #[.slice (ownA kyta) n1 ccta, .slice (ownA key189) (zi + 1) c190, .slice none 0 0, .slice (ownA kytb) n1 cctb, .slice (ownA key220) (zi + 1) c221, .slice none 0 0] 61 (0, 0)), (kyta, sob ETr 34 (rowsOf (trA ws) 0 n1) zzta), (kytb, sob ETr 34 (rowsOf (trB ws) 0 n1) zztb), (key189, sob ETr 34 (rowsOf (trA ws) (5 * n1) (zi + 1)) sp191), (key220, sob ETr 34 (rowsOf (biB ws) (5 * n1) (zi + 1)) sp222), (some b1, .cells #[.slice none 0 0, .slice none 0 0, .slice none 0 0, .slice none 0 0, .slice none 0 0, .slice none 0 0] 61 (0, 0))] | _, _ => False) mixed (by kernel_rfl) (by kernel_rfl) H207.drew ?_
      refine WalkC.look rfl (fun _ => .pointer (some ⟨b5, 3, none⟩)) (fun _ _ _ => rfl) (fun q r uw _ _ _ _ => Gives.run rfl (r_indexA (off' := 3) (j := 1) arr61 (b := b5) (off := 0) rfl rfl (by first | rfl | omega | (simp; omega)) (by omega) (by omega)) ⟨rfl, rfl⟩) ?_
      refine WalkC.look rfl (fun _ => .pointer (some ⟨b5, 4, none⟩)) (fun _ _ _ => rfl) (fun q r uw _ _ _ _ => Gives.run rfl (r_fieldAddr (off' := 4) fld54_1 (by decide) (b := b5) (off := 3) rfl (by omega)) ⟨rfl, rfl⟩) ?_
      refine WalkC.look rfl (fun _ => .slice (ownA kybb) zi ccbb) (fun _ _ _ => rfl) (fun q r uw hlo hhi hle hF => ?_) ?_
      · skip
        have h1 : 0 ≤ q := Nat.zero_le _
        have h2 : q ≤ 1 := hhi 1 24 rfl rfl
        rcases (show q = 0 ∨ q = 1 by omega) with rfl | rfl
        · skip
          have HH := hF
          exact Gives.run rfl (r_loadC (v := .slice (ownA kybb) zi ccbb) one49 (HH.get (k := 1) rfl) (off := 4) rfl (by rfl)) ⟨rfl, rfl⟩
        · skip
          obtain ⟨b212, e23, hS213, HH⟩ := hF
          exact Gives.run rfl (r_loadC (v := .slice (ownA kybb) zi ccbb) one49 (HH.get (k := 2) rfl) (off := 4) rfl (by rfl)) ⟨rfl, rfl⟩
      refine WalkC.look rfl (fun _ => .slice wa ws.length wc) (fun _ _ _ => rfl) (fun q r uw _ _ _ _ => Gives.run rfl (r_move (v := .slice wa ws.length wc) rfl) ⟨rfl, rfl⟩) ?_
      refine WalkC.look rfl (fun _ => i64 ((5 * n1 + 5 * zi : Nat))) (fun _ _ _ => rfl) (fun q r uw _ _ _ _ => Gives.run rfl (r_move (v := i64 ((5 * n1 + 5 * zi : Nat))) rfl) ⟨rfl, rfl⟩) ?_
      refine WalkC.look rfl (fun _ => i64 ((5 * n1 + 5 * zi : Nat) + (1 : Int))) (fun _ _ _ => rfl) (fun q r uw _ _ _ _ => Gives.run rfl (r_addI (a := (5 * n1 + 5 * zi : Nat)) (b := (1 : Int)) rfl rfl (by omega)) ⟨rfl, rfl⟩) ?_
      refine WalkC.look rfl (fun _ => .pointer (adr wa (((5 * n1 + 5 * zi) + 1) * 1))) (fun _ _ _ => rfl) (fun q r uw hlo hhi hle hF => ?_) ?_
      · skip
        have h1 : 0 ≤ q := Nat.zero_le _
        have h2 : q ≤ 0 := hhi 0 23 rfl rfl
        rcases (show q = 0 by omega) with rfl
        · skip
          have HH := hF
          exact Gives.run rfl (r_idxS (E := E64) (l := ws) (j := (5 * n1 + 5 * zi) + 1) sli22 (hW.ext HH.chg) rfl rfl (by first | rfl | omega | (simp; omega)) (by rfl) (by omega)) ⟨rfl, rfl⟩
      refine WalkC.look rfl (fun _ => u64 ((ws).getD ((5 * n1 + 5 * zi) + 1) 0#64)) (fun _ _ _ => rfl) (fun q r uw hlo hhi hle hF => ?_) ?_
      · skip
        have h1 : 0 ≤ q := Nat.zero_le _
        have h2 : q ≤ 0 := hhi 0 23 rfl rfl
        rcases (show q = 0 by omega) with rfl
        · skip
          have HH := hF
          exact Gives.run rfl (r_ldS (E := E64) (l := ws) (j := (5 * n1 + 5 * zi) + 1) (v := (ws).getD ((5 * n1 + 5 * zi) + 1) 0#64) fits32 (hW.ext HH.chg) rfl rfl (at_getD (by omega))) ⟨rfl, rfl⟩
      refine WalkC.look rfl (fun _ => .slice wa ws.length wc) (fun _ _ _ => rfl) (fun q r uw _ _ _ _ => Gives.run rfl (r_move (v := .slice wa ws.length wc) rfl) ⟨rfl, rfl⟩) ?_
      refine WalkC.look rfl (fun _ => i64 ((5 * n1 + 5 * zi : Nat))) (fun _ _ _ => rfl) (fun q r uw _ _ _ _ => Gives.run rfl (r_move (v := i64 ((5 * n1 + 5 * zi : Nat))) rfl) ⟨rfl, rfl⟩) ?_
      refine WalkC.look rfl (fun _ => i64 ((5 * n1 + 5 * zi : Nat) + (3 : Int))) (fun _ _ _ => rfl) (fun q r uw _ _ _ _ => Gives.run rfl (r_addI (a := (5 * n1 + 5 * zi : Nat)) (b := (3 : Int)) rfl rfl (by omega)) ⟨rfl, rfl⟩) ?_
      refine WalkC.look rfl (fun _ => .pointer (adr wa (((5 * n1 + 5 * zi) + 3) * 1))) (fun _ _ _ => rfl) (fun q r uw hlo hhi hle hF => ?_) ?_
      · skip
        have h1 : 0 ≤ q := Nat.zero_le _
        have h2 : q ≤ 0 := hhi 0 23 rfl rfl
        rcases (show q = 0 by omega) with rfl
        · skip
          have HH := hF
          exact Gives.run rfl (r_idxS (E := E64) (l := ws) (j := (5 * n1 + 5 * zi) + 3) sli22 (hW.ext HH.chg) rfl rfl (by first | rfl | omega | (simp; omega)) (by rfl) (by omega)) ⟨rfl, rfl⟩
      refine WalkC.look rfl (fun _ => u64 ((ws).getD ((5 * n1 + 5 * zi) + 3) 0#64)) (fun _ _ _ => rfl) (fun q r uw hlo hhi hle hF => ?_) ?_
      · skip
        have h1 : 0 ≤ q := Nat.zero_le _
        have h2 : q ≤ 0 := hhi 0 23 rfl rfl
        rcases (show q = 0 by omega) with rfl
        · skip
          have HH := hF
          exact Gives.run rfl (r_ldS (E := E64) (l := ws) (j := (5 * n1 + 5 * zi) + 3) (v := (ws).getD ((5 * n1 + 5 * zi) + 3) 0#64) fits32 (hW.ext HH.chg) rfl rfl (at_getD (by omega))) ⟨rfl, rfl⟩
      refine WalkC.look rfl (fun _ => u64 (((ws).getD (5 * n1 + 5 * zi) 0#64) ^^^ ((ws).getD ((5 * n1 + 5 * zi) + 1) 0#64))) (fun _ _ _ => rfl) (fun q r uw _ _ _ _ => Gives.run rfl (r_move (v := u64 (((ws).getD (5 * n1 + 5 * zi) 0#64) ^^^ ((ws).getD ((5 * n1 + 5 * zi) + 1) 0#64))) rfl) ⟨rfl, rfl⟩) ?_
      refine WalkC.look rfl (fun _ => u64 (((ws).getD ((5 * n1 + 5 * zi) + 2) 0#64) ^^^ ((ws).getD ((5 * n1 + 5 * zi) + 3) 0#64))) (fun _ _ _ => rfl) (fun q r uw _ _ _ _ => Gives.run rfl (r_move (v := u64 (((ws).getD ((5 * n1 + 5 * zi) + 2) 0#64) ^^^ ((ws).getD ((5 * n1 + 5 * zi) + 3) 0#64))) rfl) ⟨rfl, rfl⟩) ?_
      refine WalkC.look rfl (fun _ => u64 ((((ws).getD (5 * n1 + 5 * zi) 0#64) ^^^ ((ws).getD ((5 * n1 + 5 * zi) + 1) 0#64)) &&& (((ws).getD ((5 * n1 + 5 * zi) + 2) 0#64) ^^^ ((ws).getD ((5 * n1 + 5 * zi) + 3) 0#64)))) (fun _ _ _ => rfl) (fun q r uw _ _ _ _ => Gives.run rfl (r_and64 (a := ((ws).getD (5 * n1 + 5 * zi) 0#64) ^^^ ((ws).getD ((5 * n1 + 5 * zi) + 1) 0#64)) (b := ((ws).getD ((5 * n1 + 5 * zi) + 2) 0#64) ^^^ ((ws).getD ((5 * n1 + 5 * zi) + 3) 0#64)) rfl rfl) ⟨rfl, rfl⟩) ?_
      refine WalkC.look rfl (fun _ => .slice wa ws.length wc) (fun _ _ _ => rfl) (fun q r uw _ _ _ _ => Gives.run rfl (r_move (v := .slice wa ws.length wc) rfl) ⟨rfl, rfl⟩) ?_
      refine WalkC.look rfl (fun _ => i64 ((5 * n1 + 5 * zi : Nat))) (fun _ _ _ => rfl) (fun q r uw _ _ _ _ => Gives.run rfl (r_move (v := i64 ((5 * n1 + 5 * zi : Nat))) rfl) ⟨rfl, rfl⟩) ?_
      refine WalkC.look rfl (fun _ => i64 ((5 * n1 + 5 * zi : Nat) + (4 : Int))) (fun _ _ _ => rfl) (fun q r uw _ _ _ _ => Gives.run rfl (r_addI (a := (5 * n1 + 5 * zi : Nat)) (b := (4 : Int)) rfl rfl (by omega)) ⟨rfl, rfl⟩) ?_
      refine WalkC.look rfl (fun _ => .pointer (adr wa (((5 * n1 + 5 * zi) + 4) * 1))) (fun _ _ _ => rfl) (fun q r uw hlo hhi hle hF => ?_) ?_
      · skip
        have h1 : 0 ≤ q := Nat.zero_le _
        have h2 : q ≤ 0 := hhi 0 23 rfl rfl
        rcases (show q = 0 by omega) with rfl
        · skip
          have HH := hF
          exact Gives.run rfl (r_idxS (E := E64) (l := ws) (j := (5 * n1 + 5 * zi) + 4) sli22 (hW.ext HH.chg) rfl rfl (by first | rfl | omega | (simp; omega)) (by rfl) (by omega)) ⟨rfl, rfl⟩
      refine WalkC.look rfl (fun _ => u64 ((ws).getD ((5 * n1 + 5 * zi) + 4) 0#64)) (fun _ _ _ => rfl) (fun q r uw hlo hhi hle hF => ?_) ?_
      · skip
        have h1 : 0 ≤ q := Nat.zero_le _
        have h2 : q ≤ 0 := hhi 0 23 rfl rfl
        rcases (show q = 0 by omega) with rfl
        · skip
          have HH := hF
          exact Gives.run rfl (r_ldS (E := E64) (l := ws) (j := (5 * n1 + 5 * zi) + 4) (v := (ws).getD ((5 * n1 + 5 * zi) + 4) 0#64) fits32 (hW.ext HH.chg) rfl rfl (at_getD (by omega))) ⟨rfl, rfl⟩
      refine WalkC.look rfl (fun _ => u64 (((((ws).getD (5 * n1 + 5 * zi) 0#64) ^^^ ((ws).getD ((5 * n1 + 5 * zi) + 1) 0#64)) &&& (((ws).getD ((5 * n1 + 5 * zi) + 2) 0#64) ^^^ ((ws).getD ((5 * n1 + 5 * zi) + 3) 0#64))) ^^^ ((ws).getD ((5 * n1 + 5 * zi) + 4) 0#64))) (fun _ _ _ => rfl) (fun q r uw _ _ _ _ => Gives.run rfl (r_xor64 (a := (((ws).getD (5 * n1 + 5 * zi) 0#64) ^^^ ((ws).getD ((5 * n1 + 5 * zi) + 1) 0#64)) &&& (((ws).getD ((5 * n1 + 5 * zi) + 2) 0#64) ^^^ ((ws).getD ((5 * n1 + 5 * zi) + 3) 0#64))) (b := (ws).getD ((5 * n1 + 5 * zi) + 4) 0#64) rfl rfl) ⟨rfl, rfl⟩) ?_
      refine WalkC.look rfl (fun _ => .agg #[u64 ((ws).getD ((5 * n1 + 5 * zi) + 1) 0#64), u64 ((ws).getD ((5 * n1 + 5 * zi) + 3) 0#64), u64 (((((ws).getD (5 * n1 + 5 * zi) 0#64) ^^^ ((ws).getD ((5 * n1 + 5 * zi) + 1) 0#64)) &&& (((ws).getD ((5 * n1 + 5 * zi) + 2) 0#64) ^^^ ((ws).getD ((5 * n1 + 5 * zi) + 3) 0#64))) ^^^ ((ws).getD ((5 * n1 + 5 * zi) + 4) 0#64))]) (fun _ _ _ => rfl) (fun q r uw _ _ _ _ => Gives.run rfl (r_build (cs' := #[u64 ((ws).getD ((5 * n1 + 5 * zi) + 1) 0#64), u64 ((ws).getD ((5 * n1 + 5 * zi) + 3) 0#64), u64 (((((ws).getD (5 * n1 + 5 * zi) 0#64) ^^^ ((ws).getD ((5 * n1 + 5 * zi) + 1) 0#64)) &&& (((ws).getD ((5 * n1 + 5 * zi) + 2) 0#64) ^^^ ((ws).getD ((5 * n1 + 5 * zi) + 3) 0#64))) ^^^ ((ws).getD ((5 * n1 + 5 * zi) + 4) 0#64))]) (ps := [(0, u64 ((ws).getD ((5 * n1 + 5 * zi) + 1) 0#64)), (1, u64 ((ws).getD ((5 * n1 + 5 * zi) + 3) 0#64)), (2, u64 (((((ws).getD (5 * n1 + 5 * zi) 0#64) ^^^ ((ws).getD ((5 * n1 + 5 * zi) + 1) 0#64)) &&& (((ws).getD ((5 * n1 + 5 * zi) + 2) 0#64) ^^^ ((ws).getD ((5 * n1 + 5 * zi) + 3) 0#64))) ^^^ ((ws).getD ((5 * n1 + 5 * zi) + 4) 0#64)))]) zer34 pls34 rfl (by rfl)) ⟨rfl, rfl⟩) ?_
      refine WalkC.eff 0 rfl (fun r uw209 hF211 => ?_) ?_
      · skip
        have H210 := hF211
        dsimp only [List.take, List.map, List.cons_append, List.nil_append]
        refine Gives.ofW (d := 203) rfl rfl (fun Q' hK => ?_)
        refine q_buildSlice (E := ETr) (l := ([⟨(ws).getD ((5 * n1 + 5 * zi) + 1) 0#64, (ws).getD ((5 * n1 + 5 * zi) + 3) 0#64, ((((ws).getD (5 * n1 + 5 * zi) 0#64) ^^^ ((ws).getD ((5 * n1 + 5 * zi) + 1) 0#64)) &&& (((ws).getD ((5 * n1 + 5 * zi) + 2) 0#64) ^^^ ((ws).getD ((5 * n1 + 5 * zi) + 3) 0#64))) ^^^ ((ws).getD ((5 * n1 + 5 * zi) + 4) 0#64)⟩] : List Tr)) H210 sli49 zer34 (Nat.le_of_ble_eq_true rfl) (ps := [(0, .agg #[u64 ((ws).getD ((5 * n1 + 5 * zi) + 1) 0#64), u64 ((ws).getD ((5 * n1 + 5 * zi) + 3) 0#64), u64 (((((ws).getD (5 * n1 + 5 * zi) 0#64) ^^^ ((ws).getD ((5 * n1 + 5 * zi) + 1) 0#64)) &&& (((ws).getD ((5 * n1 + 5 * zi) + 2) 0#64) ^^^ ((ws).getD ((5 * n1 + 5 * zi) + 3) 0#64))) ^^^ ((ws).getD ((5 * n1 + 5 * zi) + 4) 0#64))])]) rfl (by exact fillAll rfl rfl) rfl ?_
        intro b212 w214 hS213 H215 hE216
        exact hK _ _ ⟨b212, rfl, hS213, H215⟩
      refine WalkC.eff 1 rfl (fun r uw217 hF219 => ?_) ?_
      · skip
        obtain ⟨b212, e23, hS213, H218⟩ := hF219
        dsimp only [List.take, List.map, List.cons_append, List.nil_append]
        rw [e23]
        refine Gives.ofW (d := 204) rfl rfl (fun Q' hK => ?_)
        refine q_append (E := ETr) (k := 6) (l := rowsOf (biB ws) (5 * n1) zi) (l2 := ([⟨(ws).getD ((5 * n1 + 5 * zi) + 1) 0#64, (ws).getD ((5 * n1 + 5 * zi) + 3) 0#64, ((((ws).getD (5 * n1 + 5 * zi) 0#64) ^^^ ((ws).getD ((5 * n1 + 5 * zi) + 1) 0#64)) &&& (((ws).getD ((5 * n1 + 5 * zi) + 2) 0#64) ^^^ ((ws).getD ((5 * n1 + 5 * zi) + 3) 0#64))) ^^^ ((ws).getD ((5 * n1 + 5 * zi) + 4) 0#64)⟩] : List Tr)) H218 rfl hkybb sli49 zer34 rfl byt34 (H218.rd (k := 0) rfl hS213) rfl (by rw [rowsOf_len]) rfl (by rfl) (by omega) ?_
        intro key220 c221 sp222 w224 hS223 hne226 H225
        have H225' := H225.as (L' := [((some b212), sob ETr 34 ([⟨(ws).getD ((5 * n1 + 5 * zi) + 1) 0#64, (ws).getD ((5 * n1 + 5 * zi) + 3) 0#64, ((((ws).getD (5 * n1 + 5 * zi) 0#64) ^^^ ((ws).getD ((5 * n1 + 5 * zi) + 1) 0#64)) &&& (((ws).getD ((5 * n1 + 5 * zi) + 2) 0#64) ^^^ ((ws).getD ((5 * n1 + 5 * zi) + 3) 0#64))) ^^^ ((ws).getD ((5 * n1 + 5 * zi) + 4) 0#64)⟩] : List Tr) ([])), ((some b181), sob ETr 34 ([⟨(ws).getD (5 * n1 + 5 * zi) 0#64, (ws).getD ((5 * n1 + 5 * zi) + 2) 0#64, (ws).getD ((5 * n1 + 5 * zi) + 4) 0#64⟩] : List Tr) ([])), (some b5, .cells #[.slice (ownA kyta) n1 ccta, .slice (ownA key189) (zi + 1) c190, .slice none 0 0, .slice (ownA kytb) n1 cctb, .slice (ownA kybb) zi ccbb, .slice none 0 0] 61 (0, 0)), (kyta, sob ETr 34 (rowsOf (trA ws) 0 n1) zzta), (kytb, sob ETr 34 (rowsOf (trB ws) 0 n1) zztb), (key189, sob ETr 34 (rowsOf (trA ws) (5 * n1) (zi + 1)) sp191), (key220, sob ETr 34 ((rowsOf (biB ws) (5 * n1) zi) ++ ([⟨(ws).getD ((5 * n1 + 5 * zi) + 1) 0#64, (ws).getD ((5 * n1 + 5 * zi) + 3) 0#64, ((((ws).getD (5 * n1 + 5 * zi) 0#64) ^^^ ((ws).getD ((5 * n1 + 5 * zi) + 1) 0#64)) &&& (((ws).getD ((5 * n1 + 5 * zi) + 2) 0#64) ^^^ ((ws).getD ((5 * n1 + 5 * zi) + 3) 0#64))) ^^^ ((ws).getD ((5 * n1 + 5 * zi) + 4) 0#64)⟩] : List Tr)) sp222), (some b1, .cells #[.slice none 0 0, .slice none 0 0, .slice none 0 0, .slice none 0 0, .slice none 0 0, .slice none 0 0] 61 (0, 0))]) rfl
        clear H225
        have e227 : (rowsOf (biB ws) (5 * n1) zi) ++ ([⟨(ws).getD ((5 * n1 + 5 * zi) + 1) 0#64, (ws).getD ((5 * n1 + 5 * zi) + 3) 0#64, ((((ws).getD (5 * n1 + 5 * zi) 0#64) ^^^ ((ws).getD ((5 * n1 + 5 * zi) + 1) 0#64)) &&& (((ws).getD ((5 * n1 + 5 * zi) + 2) 0#64) ^^^ ((ws).getD ((5 * n1 + 5 * zi) + 3) 0#64))) ^^^ ((ws).getD ((5 * n1 + 5 * zi) + 4) 0#64)⟩] : List Tr) = rowsOf (biB ws) (5 * n1) (zi + 1) := by rw [rowsOf_succ]; rfl
        have hS228 := hS223
        rw [e227] at hS228
        have H229 := H225'.as (L' := [((some b212), sob ETr 34 ([⟨(ws).getD ((5 * n1 + 5 * zi) + 1) 0#64, (ws).getD ((5 * n1 + 5 * zi) + 3) 0#64, ((((ws).getD (5 * n1 + 5 * zi) 0#64) ^^^ ((ws).getD ((5 * n1 + 5 * zi) + 1) 0#64)) &&& (((ws).getD ((5 * n1 + 5 * zi) + 2) 0#64) ^^^ ((ws).getD ((5 * n1 + 5 * zi) + 3) 0#64))) ^^^ ((ws).getD ((5 * n1 + 5 * zi) + 4) 0#64)⟩] : List Tr) ([])), ((some b181), sob ETr 34 ([⟨(ws).getD (5 * n1 + 5 * zi) 0#64, (ws).getD ((5 * n1 + 5 * zi) + 2) 0#64, (ws).getD ((5 * n1 + 5 * zi) + 4) 0#64⟩] : List Tr) ([])), (some b5, .cells #[.slice (ownA kyta) n1 ccta, .slice (ownA key189) (zi + 1) c190, .slice none 0 0, .slice (ownA kytb) n1 cctb, .slice (ownA kybb) zi ccbb, .slice none 0 0] 61 (0, 0)), (kyta, sob ETr 34 (rowsOf (trA ws) 0 n1) zzta), (kytb, sob ETr 34 (rowsOf (trB ws) 0 n1) zztb), (key189, sob ETr 34 (rowsOf (trA ws) (5 * n1) (zi + 1)) sp191), (key220, sob ETr 34 (rowsOf (biB ws) (5 * n1) (zi + 1)) sp222), (some b1, .cells #[.slice none 0 0, .slice none 0 0, .slice none 0 0, .slice none 0 0, .slice none 0 0, .slice none 0 0] 61 (0, 0))]) (by rw [e227])
        exact hK _ _ ⟨b212, key220, c221, sp222, rfl, rfl, hS213, hS228, H229⟩
      refine WalkC.look rfl (fun _ => .pointer (some ⟨b5, 3, none⟩)) (fun _ _ _ => rfl) (fun q r uw _ _ _ _ => Gives.run rfl (r_indexA (off' := 3) (j := 1) arr61 (b := b5) (off := 0) rfl rfl (by first | rfl | omega | (simp; omega)) (by omega) (by omega)) ⟨rfl, rfl⟩) ?_
      refine WalkC.look rfl (fun _ => .pointer (some ⟨b5, 4, none⟩)) (fun _ _ _ => rfl) (fun q r uw _ _ _ _ => Gives.run rfl (r_fieldAddr (off' := 4) fld54_1 (by decide) (b := b5) (off := 3) rfl (by omega)) ⟨rfl, rfl⟩) ?_
      refine WalkC.eff 2 rfl (fun r uw230 hF232 => ?_) ?_
      · skip
        obtain ⟨b212, key220, c221, sp222, e23, e24, hS213, hS228, H231⟩ := hF232
        dsimp only [List.take, List.map, List.cons_append, List.nil_append]
        rw [e23, e24]
        refine Gives.ofW0 rfl (fun Q' hK => ?_)
        refine d_store (k := 2) (v := .slice (ownA key220) (zi + 1) c221) (cs' := #[.slice (ownA kyta) n1 ccta, .slice (ownA key189) (zi + 1) c190, .slice none 0 0, .slice (ownA kytb) n1 cctb, .slice (ownA key220) (zi + 1) c221, .slice none 0 0]) H231 rfl rfl rfl siz49 (by rfl) (by intro u hu; simp [Value.cells] at hu; first | (subst hu; rfl) | (rcases hu with rfl <;> rfl)) (by exact Nat.le_of_ble_eq_true rfl) (by rfl) ?_
        intro w233 H234 hC235
        have H234' := H234.as (L' := [((some b212), sob ETr 34 ([⟨(ws).getD ((5 * n1 + 5 * zi) + 1) 0#64, (ws).getD ((5 * n1 + 5 * zi) + 3) 0#64, ((((ws).getD (5 * n1 + 5 * zi) 0#64) ^^^ ((ws).getD ((5 * n1 + 5 * zi) + 1) 0#64)) &&& (((ws).getD ((5 * n1 + 5 * zi) + 2) 0#64) ^^^ ((ws).getD ((5 * n1 + 5 * zi) + 3) 0#64))) ^^^ ((ws).getD ((5 * n1 + 5 * zi) + 4) 0#64)⟩] : List Tr) ([])), ((some b181), sob ETr 34 ([⟨(ws).getD (5 * n1 + 5 * zi) 0#64, (ws).getD ((5 * n1 + 5 * zi) + 2) 0#64, (ws).getD ((5 * n1 + 5 * zi) + 4) 0#64⟩] : List Tr) ([])), (some b5, .cells #[.slice (ownA kyta) n1 ccta, .slice (ownA key189) (zi + 1) c190, .slice none 0 0, .slice (ownA kytb) n1 cctb, .slice (ownA key220) (zi + 1) c221, .slice none 0 0] 61 (0, 0)), (kyta, sob ETr 34 (rowsOf (trA ws) 0 n1) zzta), (kytb, sob ETr 34 (rowsOf (trB ws) 0 n1) zztb), (key189, sob ETr 34 (rowsOf (trA ws) (5 * n1) (zi + 1)) sp191), (key220, sob ETr 34 (rowsOf (biB ws) (5 * n1) (zi + 1)) sp222), (some b1, .cells #[.slice none 0 0, .slice none 0 0, .slice none 0 0, .slice none 0 0, .slice none 0 0, .slice none 0 0] 61 (0, 0))]) rfl
        clear H234
        exact hK _ (fun _ => ⟨b212, key220, c221, sp222, rfl, rfl, trivial, hS213, hS228, H234'⟩)
      refine WalkC.nil ?_
      intro r236 w237 hF239
      obtain ⟨b212, key220, c221, sp222, e23, e24, e27, hS213, hS228, H238⟩ := hF239
      dsimp only
      rw [e23, e24]
      refine wnil ?_
      refine thenNormal ?_
      refine oneRegion ?_
      refine sq (r_move (v := i64 ((5 * n1 + 5 * zi : Nat))) rfl) ?_
      refine sq (r_addI (a := (5 * n1 + 5 * zi : Nat)) (b := (5 : Int)) rfl rfl (by omega)) ?_
      refine sq (r_assign (v := i64 ((5 * n1 + 5 * zi : Nat) + (5 : Int))) rfl) ?_
      refine wnil ?_
      refine blockNormal ?_
      refine thenNormal ?_
      refine oneRegion ?_
      refine sq (r_move (v := i64 ((zi : Nat))) rfl) ?_
      refine sq (r_addI (a := (zi : Nat)) (b := (1 : Int)) rfl rfl (by omega)) ?_
      refine sq (r_assign (v := i64 ((zi : Nat) + (1 : Int))) rfl) ?_
      refine wnil ?_
      refine thenNormal ?_
      exact ⟨(zi + 1, key189, c190, sp191, key220, c221, sp222), _, rfl, ⟨rfl, rfl, rfl, rfl, rfl, rfl, rfl, congrArg i64 (by omega), rfl, trivial⟩, ⟨⟨by omega, hS197, hS228⟩, ((H238.dropk 1).dropk 0)⟩, by show n2 - (zi + 1) < n2 - zi; omega⟩
    · skip
      obtain rfl : n2 = zi := by omega
      refine exitAny ?_
      refine thenExit ?_
      refine thenExit ?_
      refine blockHere ?_
      refine thenNormal ?_
      refine seqAny ?_
      refine seqRegion ?_
      refine sq (r_assign (v := i64 ((0 : Int))) rfl) ?_
      refine wend ?_
      refine blockAny ?_
      refine loopAny (σ := Nat × Option Nat × Nat × List Value × Option Nat × Nat × List Value) (fun (zi, kyoa, ccoa, zzoa, kyob, ccob, zzob) => [(0, .slice wa ws.length wc), (1, i64 ((n1 : Nat))), (2, i64 ((n2 : Nat))), (3, i64 ((n3 : Nat))), (8, .pointer (some ⟨b1, 0, none⟩)), (9, i64 ((0 : Int))), (10, .pointer (some ⟨b5, 0, none⟩)), (11, i64 ((5 * (n1 + n2) + 5 * zi : Nat))), (18, i64 ((zi : Nat)))]) (fun (zi, kyoa, ccoa, zzoa, kyob, ccob, zzob) w' => (zi ≤ n3 ∧ Sl EOt kyoa (rowsOf (otA ws) (5 * (n1 + n2)) zi) ccoa zzoa ∧ Sl EOt kyob (rowsOf (otB ws) (5 * (n1 + n2)) zi) ccob zzob) ∧ Hp No w w' [(some b5, .cells #[.slice (ownA kyta) n1 ccta, .slice (ownA kyba) n2 ccba, .slice (ownA kyoa) zi ccoa, .slice (ownA kytb) n1 cctb, .slice (ownA kybb) n2 ccbb, .slice (ownA kyob) zi ccob] 61 (0, 0)), (kyta, sob ETr 34 (rowsOf (trA ws) 0 n1) zzta), (kytb, sob ETr 34 (rowsOf (trB ws) 0 n1) zztb), (kyba, sob ETr 34 (rowsOf (trA ws) (5 * n1) n2) zzba), (kybb, sob ETr 34 (rowsOf (biB ws) (5 * n1) n2) zzbb), (kyoa, sob EOt 41 (rowsOf (otA ws) (5 * (n1 + n2)) zi) zzoa), (kyob, sob EOt 41 (rowsOf (otB ws) (5 * (n1 + n2)) zi) zzob), (some b1, .cells #[.slice none 0 0, .slice none 0 0, .slice none 0 0, .slice none 0 0, .slice none 0 0, .slice none 0 0] 61 (0, 0))]) (fun (zi, kyoa, ccoa, zzoa, kyob, ccob, zzob) => n3 - zi) ((0, none, 0, [], none, 0, [])) ?_ ?_ ?_
      · exact ⟨rfl, rfl, rfl, rfl, rfl, rfl, rfl, congrArg i64 (by omega), rfl, trivial⟩
      · exact ⟨⟨Nat.zero_le _, Sl.none, Sl.none⟩, (((HL1.nil (sob EOt 41 [] [])).nil (sob EOt 41 [] [])).pick 8 [2, 3, 4, 5, 6, 1, 0, 7] (by decide) (by decide))⟩
      rintro ⟨zi, kyoa, ccoa, zzoa, kyob, ccob, zzob⟩ ρ w240 ⟨⟨hzi, hkyoa, hkyob⟩, HL2⟩
      refine seqAny ?_
      refine seqRegion ?_
      refine sq (r_move (v := i64 ((zi : Nat))) rfl) ?_
      refine sq (r_move (v := i64 ((n3 : Nat))) rfl) ?_
      refine sq (r_lssI (a := (zi : Nat)) (b := (n3 : Nat)) rfl rfl) ?_
      refine wend ?_
      refine condProp (((zi : Nat) : Int) < (n3 : Nat)) rfl (fun c211 => ?_) (fun c211 => ?_)
      · skip
        refine skipAny ?_
        refine thenNormal ?_
        refine seqAny ?_
        refine blockAny ?_
        refine seqAny ?_
        refine drawP (m := 25) [0, 0, 3, 7, 0, 0, 32, 112, 240, 511, 0, 0, 2048, 7168, 15360, 0, 0, 65536, 229376, 491520, 1047552, 0, 0, 6292479, 16777215] [21, 22, 23, 24] (fun bs vs w' => match bs, vs with | [false, false, false, false], [_, _, _, _] => Hp No w w' [(some b5, .cells #[.slice (ownA kyta) n1 ccta, .slice (ownA kyba) n2 ccba, .slice (ownA kyoa) zi ccoa, .slice (ownA kytb) n1 cctb, .slice (ownA kybb) n2 ccbb, .slice (ownA kyob) zi ccob] 61 (0, 0)), (kyta, sob ETr 34 (rowsOf (trA ws) 0 n1) zzta), (kytb, sob ETr 34 (rowsOf (trB ws) 0 n1) zztb), (kyba, sob ETr 34 (rowsOf (trA ws) (5 * n1) n2) zzba), (kybb, sob ETr 34 (rowsOf (biB ws) (5 * n1) n2) zzbb), (kyoa, sob EOt 41 (rowsOf (otA ws) (5 * (n1 + n2)) zi) zzoa), (kyob, sob EOt 41 (rowsOf (otB ws) (5 * (n1 + n2)) zi) zzob), (some b1, .cells #[.slice none 0 0, .slice none 0 0, .slice none 0 0, .slice none 0 0, .slice none 0 0, .slice none 0 0] 61 (0, 0))] | [true, false, false, false], [v21, _, _, _] => ∃ (b243 : Nat), v21 = .pointer (some ⟨b243, 0, none⟩) ∧ Hp No w w' [(some b243, .cells (cel E64 ([0#64, 0#64])).toArray 38 (0, 0)), (some b5, .cells #[.slice (ownA kyta) n1 ccta, .slice (ownA kyba) n2 ccba, .slice (ownA kyoa) zi ccoa, .slice (ownA kytb) n1 cctb, .slice (ownA kybb) n2 ccbb, .slice (ownA kyob) zi ccob] 61 (0, 0)), (kyta, sob ETr 34 (rowsOf (trA ws) 0 n1) zzta), (kytb, sob ETr 34 (rowsOf (trB ws) 0 n1) zztb), (kyba, sob ETr 34 (rowsOf (trA ws) (5 * n1) n2) zzba), (kybb, sob ETr 34 (rowsOf (biB ws) (5 * n1) n2) zzbb), (kyoa, sob EOt 41 (rowsOf (otA ws) (5 * (n1 + n2)) zi) zzoa), (kyob, sob EOt 41 (rowsOf (otB ws) (5 * (n1 + n2)) zi) zzob), (some b1, .cells #[.slice none 0 0, .slice none 0 0, .slice none 0 0, .slice none 0 0, .slice none 0 0, .slice none 0 0] 61 (0, 0))] | [false, true, false, false], [_, v22, _, _] => ∃ (b248 : Nat), v22 = .pointer (some ⟨b248, 0, none⟩) ∧ Hp No w w' [(some b248, .cells (cel E64 ([0#64, 0#64])).toArray 38 (0, 0)), (some b5, .cells #[.slice (ownA kyta) n1 ccta, .slice (ownA kyba) n2 ccba, .slice (ownA kyoa) zi ccoa, .slice (ownA kytb) n1 cctb, .slice (ownA kybb) n2 ccbb, .slice (ownA kyob) zi ccob] 61 (0, 0)), (kyta, sob ETr 34 (rowsOf (trA ws) 0 n1) zzta), (kytb, sob ETr 34 (rowsOf (trB ws) 0 n1) zztb), (kyba, sob ETr 34 (rowsOf (trA ws) (5 * n1) n2) zzba), (kybb, sob ETr 34 (rowsOf (biB ws) (5 * n1) n2) zzbb), (kyoa, sob EOt 41 (rowsOf (otA ws) (5 * (n1 + n2)) zi) zzoa), (kyob, sob EOt 41 (rowsOf (otB ws) (5 * (n1 + n2)) zi) zzob), (some b1, .cells #[.slice none 0 0, .slice none 0 0, .slice none 0 0, .slice none 0 0, .slice none 0 0, .slice none 0 0] 61 (0, 0))] | [true, true, false, false], [v21, v22, _, _] => ∃ (b243 : Nat) (b253 : Nat), v21 = .pointer (some ⟨b243, 0, none⟩) ∧ v22 = .pointer (some ⟨b253, 0, none⟩) ∧ Hp No w w' [(some b253, .cells (cel E64 ([0#64, 0#64])).toArray 38 (0, 0)), (some b243, .cells (cel E64 ([0#64, 0#64])).toArray 38 (0, 0)), (some b5, .cells #[.slice (ownA kyta) n1 ccta, .slice (ownA kyba) n2 ccba, .slice (ownA kyoa) zi ccoa, .slice (ownA kytb) n1 cctb, .slice (ownA kybb) n2 ccbb, .slice (ownA kyob) zi ccob] 61 (0, 0)), (kyta, sob ETr 34 (rowsOf (trA ws) 0 n1) zzta), (kytb, sob ETr 34 (rowsOf (trB ws) 0 n1) zztb), (kyba, sob ETr 34 (rowsOf (trA ws) (5 * n1) n2) zzba), (kybb, sob ETr 34 (rowsOf (biB ws) (5 * n1) n2) zzbb), (kyoa, sob EOt 41 (rowsOf (otA ws) (5 * (n1 + n2)) zi) zzoa), (kyob, sob EOt 41 (rowsOf (otB ws) (5 * (n1 + n2)) zi) zzob), (some b1, .cells #[.slice none 0 0, .slice none 0 0, .slice none 0 0, .slice none 0 0, .slice none 0 0, .slice none 0 0] 61 (0, 0))] | [true, true, true, false], [v21, v22, _, _] => ∃ (b243 : Nat) (b253 : Nat), v21 = .pointer (some ⟨b243, 0, none⟩) ∧ v22 = .pointer (some ⟨b253, 0, none⟩) ∧ Hp No w w' [(some b253, .cells (cel E64 ([0#64, 0#64])).toArray 38 (0, 0)), (some b243, .cells (cel E64 ([(ws).getD (5 * (n1 + n2) + 5 * zi) 0#64, (ws).getD ((5 * (n1 + n2) + 5 * zi) + 1) 0#64])).toArray 38 (0, 0)), (some b5, .cells #[.slice (ownA kyta) n1 ccta, .slice (ownA kyba) n2 ccba, .slice (ownA kyoa) zi ccoa, .slice (ownA kytb) n1 cctb, .slice (ownA kybb) n2 ccbb, .slice (ownA kyob) zi ccob] 61 (0, 0)), (kyta, sob ETr 34 (rowsOf (trA ws) 0 n1) zzta), (kytb, sob ETr 34 (rowsOf (trB ws) 0 n1) zztb), (kyba, sob ETr 34 (rowsOf (trA ws) (5 * n1) n2) zzba), (kybb, sob ETr 34 (rowsOf (biB ws) (5 * n1) n2) zzbb), (kyoa, sob EOt 41 (rowsOf (otA ws) (5 * (n1 + n2)) zi) zzoa), (kyob, sob EOt 41 (rowsOf (otB ws) (5 * (n1 + n2)) zi) zzob), (some b1, .cells #[.slice none 0 0, .slice none 0 0, .slice none 0 0, .slice none 0 0, .slice none 0 0, .slice none 0 0] 61 (0, 0))] | [true, true, true, true], [v21, v22, _, _] => ∃ (b243 : Nat) (b253 : Nat), v21 = .pointer (some ⟨b243, 0, none⟩) ∧ v22 = .pointer (some ⟨b253, 0, none⟩) ∧ Hp No w w' [(some b253, .cells (cel E64 ([(ws).getD ((5 * (n1 + n2) + 5 * zi) + 2) 0#64, (ws).getD ((5 * (n1 + n2) + 5 * zi) + 3) 0#64])).toArray 38 (0, 0)), (some b243, .cells (cel E64 ([(ws).getD (5 * (n1 + n2) + 5 * zi) 0#64, (ws).getD ((5 * (n1 + n2) + 5 * zi) + 1) 0#64])).toArray 38 (0, 0)), (some b5, .cells #[.slice (ownA kyta) n1 ccta, .slice (ownA kyba) n2 ccba, .slice (ownA kyoa) zi ccoa, .slice (ownA kytb) n1 cctb, .slice (ownA kybb) n2 ccbb, .slice (ownA kyob) zi ccob] 61 (0, 0)), (kyta, sob ETr 34 (rowsOf (trA ws) 0 n1) zzta), (kytb, sob ETr 34 (rowsOf (trB ws) 0 n1) zztb), (kyba, sob ETr 34 (rowsOf (trA ws) (5 * n1) n2) zzba), (kybb, sob ETr 34 (rowsOf (biB ws) (5 * n1) n2) zzbb), (kyoa, sob EOt 41 (rowsOf (otA ws) (5 * (n1 + n2)) zi) zzoa), (kyob, sob EOt 41 (rowsOf (otB ws) (5 * (n1 + n2)) zi) zzob), (some b1, .cells #[.slice none 0 0, .slice none 0 0, .slice none 0 0, .slice none 0 0, .slice none 0 0, .slice none 0 0] 61 (0, 0))] | _, _ => False) mixed (by kernel_rfl) (by kernel_rfl) HL2.drew ?_
        refine WalkP.look rfl (fun _ => .slice wa ws.length wc) (fun _ _ _ => rfl) (fun L r uw _ _ _ => Gives.run rfl (r_move (v := .slice wa ws.length wc) rfl) ⟨rfl, rfl⟩) ?_
        refine WalkP.look rfl (fun _ => i64 ((5 * (n1 + n2) + 5 * zi : Nat))) (fun _ _ _ => rfl) (fun L r uw _ _ _ => Gives.run rfl (r_move (v := i64 ((5 * (n1 + n2) + 5 * zi : Nat))) rfl) ⟨rfl, rfl⟩) ?_
        refine WalkP.look rfl (fun _ => .pointer (adr wa ((5 * (n1 + n2) + 5 * zi) * 1))) (fun _ _ _ => rfl) (fun L r uw hAn hDn hF => ?_) ?_
        · skip
          have b23 : L 23 = false := hDn 23 (by decide) rfl
          have b24 : L 24 = false := hDn 24 (by decide) rfl
          rcases Bool.eq_false_or_eq_true (L 21) with b21 | b21
          · skip
            rcases Bool.eq_false_or_eq_true (L 22) with b22 | b22
            · skip
              have hb : List.map L [21, 22, 23, 24] = [true, true, false, false] := by simp only [List.map_cons, List.map_nil, b21, b22, b23, b24]
              rw [hb] at hF
              obtain ⟨b243, b253, e21, e22, HH⟩ := hF
              exact Gives.run rfl (r_idxS (E := E64) (l := ws) (j := 5 * (n1 + n2) + 5 * zi) sli22 (hW.ext HH.chg) rfl rfl (by first | rfl | omega | (simp; omega)) (by rfl) (by omega)) ⟨rfl, rfl⟩
            · skip
              have hb : List.map L [21, 22, 23, 24] = [true, false, false, false] := by simp only [List.map_cons, List.map_nil, b21, b22, b23, b24]
              rw [hb] at hF
              obtain ⟨b243, e21, HH⟩ := hF
              exact Gives.run rfl (r_idxS (E := E64) (l := ws) (j := 5 * (n1 + n2) + 5 * zi) sli22 (hW.ext HH.chg) rfl rfl (by first | rfl | omega | (simp; omega)) (by rfl) (by omega)) ⟨rfl, rfl⟩
          · skip
            rcases Bool.eq_false_or_eq_true (L 22) with b22 | b22
            · skip
              have hb : List.map L [21, 22, 23, 24] = [false, true, false, false] := by simp only [List.map_cons, List.map_nil, b21, b22, b23, b24]
              rw [hb] at hF
              obtain ⟨b248, e22, HH⟩ := hF
              exact Gives.run rfl (r_idxS (E := E64) (l := ws) (j := 5 * (n1 + n2) + 5 * zi) sli22 (hW.ext HH.chg) rfl rfl (by first | rfl | omega | (simp; omega)) (by rfl) (by omega)) ⟨rfl, rfl⟩
            · skip
              have hb : List.map L [21, 22, 23, 24] = [false, false, false, false] := by simp only [List.map_cons, List.map_nil, b21, b22, b23, b24]
              rw [hb] at hF
              have HH := hF
              exact Gives.run rfl (r_idxS (E := E64) (l := ws) (j := 5 * (n1 + n2) + 5 * zi) sli22 (hW.ext HH.chg) rfl rfl (by first | rfl | omega | (simp; omega)) (by rfl) (by omega)) ⟨rfl, rfl⟩
        refine WalkP.look rfl (fun _ => u64 ((ws).getD (5 * (n1 + n2) + 5 * zi) 0#64)) (fun _ _ _ => rfl) (fun L r uw hAn hDn hF => ?_) ?_
        · skip
          have b23 : L 23 = false := hDn 23 (by decide) rfl
          have b24 : L 24 = false := hDn 24 (by decide) rfl
          rcases Bool.eq_false_or_eq_true (L 21) with b21 | b21
          · skip
            rcases Bool.eq_false_or_eq_true (L 22) with b22 | b22
            · skip
              have hb : List.map L [21, 22, 23, 24] = [true, true, false, false] := by simp only [List.map_cons, List.map_nil, b21, b22, b23, b24]
              rw [hb] at hF
              obtain ⟨b243, b253, e21, e22, HH⟩ := hF
              exact Gives.run rfl (r_ldS (E := E64) (l := ws) (j := 5 * (n1 + n2) + 5 * zi) (v := (ws).getD (5 * (n1 + n2) + 5 * zi) 0#64) fits32 (hW.ext HH.chg) rfl rfl (at_getD (by omega))) ⟨rfl, rfl⟩
            · skip
              have hb : List.map L [21, 22, 23, 24] = [true, false, false, false] := by simp only [List.map_cons, List.map_nil, b21, b22, b23, b24]
              rw [hb] at hF
              obtain ⟨b243, e21, HH⟩ := hF
              exact Gives.run rfl (r_ldS (E := E64) (l := ws) (j := 5 * (n1 + n2) + 5 * zi) (v := (ws).getD (5 * (n1 + n2) + 5 * zi) 0#64) fits32 (hW.ext HH.chg) rfl rfl (at_getD (by omega))) ⟨rfl, rfl⟩
          · skip
            rcases Bool.eq_false_or_eq_true (L 22) with b22 | b22
            · skip
              have hb : List.map L [21, 22, 23, 24] = [false, true, false, false] := by simp only [List.map_cons, List.map_nil, b21, b22, b23, b24]
              rw [hb] at hF
              obtain ⟨b248, e22, HH⟩ := hF
              exact Gives.run rfl (r_ldS (E := E64) (l := ws) (j := 5 * (n1 + n2) + 5 * zi) (v := (ws).getD (5 * (n1 + n2) + 5 * zi) 0#64) fits32 (hW.ext HH.chg) rfl rfl (at_getD (by omega))) ⟨rfl, rfl⟩
            · skip
              have hb : List.map L [21, 22, 23, 24] = [false, false, false, false] := by simp only [List.map_cons, List.map_nil, b21, b22, b23, b24]
              rw [hb] at hF
              have HH := hF
              exact Gives.run rfl (r_ldS (E := E64) (l := ws) (j := 5 * (n1 + n2) + 5 * zi) (v := (ws).getD (5 * (n1 + n2) + 5 * zi) 0#64) fits32 (hW.ext HH.chg) rfl rfl (at_getD (by omega))) ⟨rfl, rfl⟩
        refine WalkP.look rfl (fun _ => .slice wa ws.length wc) (fun _ _ _ => rfl) (fun L r uw _ _ _ => Gives.run rfl (r_move (v := .slice wa ws.length wc) rfl) ⟨rfl, rfl⟩) ?_
        refine WalkP.look rfl (fun _ => i64 ((5 * (n1 + n2) + 5 * zi : Nat))) (fun _ _ _ => rfl) (fun L r uw _ _ _ => Gives.run rfl (r_move (v := i64 ((5 * (n1 + n2) + 5 * zi : Nat))) rfl) ⟨rfl, rfl⟩) ?_
        refine WalkP.look rfl (fun _ => i64 ((5 * (n1 + n2) + 5 * zi : Nat) + (1 : Int))) (fun _ _ _ => rfl) (fun L r uw _ _ _ => Gives.run rfl (r_addI (a := (5 * (n1 + n2) + 5 * zi : Nat)) (b := (1 : Int)) rfl rfl (by omega)) ⟨rfl, rfl⟩) ?_
        refine WalkP.look rfl (fun _ => .pointer (adr wa (((5 * (n1 + n2) + 5 * zi) + 1) * 1))) (fun _ _ _ => rfl) (fun L r uw hAn hDn hF => ?_) ?_
        · skip
          have b23 : L 23 = false := hDn 23 (by decide) rfl
          have b24 : L 24 = false := hDn 24 (by decide) rfl
          rcases Bool.eq_false_or_eq_true (L 21) with b21 | b21
          · skip
            rcases Bool.eq_false_or_eq_true (L 22) with b22 | b22
            · skip
              have hb : List.map L [21, 22, 23, 24] = [true, true, false, false] := by simp only [List.map_cons, List.map_nil, b21, b22, b23, b24]
              rw [hb] at hF
              obtain ⟨b243, b253, e21, e22, HH⟩ := hF
              exact Gives.run rfl (r_idxS (E := E64) (l := ws) (j := (5 * (n1 + n2) + 5 * zi) + 1) sli22 (hW.ext HH.chg) rfl rfl (by first | rfl | omega | (simp; omega)) (by rfl) (by omega)) ⟨rfl, rfl⟩
            · skip
              have hb : List.map L [21, 22, 23, 24] = [true, false, false, false] := by simp only [List.map_cons, List.map_nil, b21, b22, b23, b24]
              rw [hb] at hF
              obtain ⟨b243, e21, HH⟩ := hF
              exact Gives.run rfl (r_idxS (E := E64) (l := ws) (j := (5 * (n1 + n2) + 5 * zi) + 1) sli22 (hW.ext HH.chg) rfl rfl (by first | rfl | omega | (simp; omega)) (by rfl) (by omega)) ⟨rfl, rfl⟩
          · skip
            rcases Bool.eq_false_or_eq_true (L 22) with b22 | b22
            · skip
              have hb : List.map L [21, 22, 23, 24] = [false, true, false, false] := by simp only [List.map_cons, List.map_nil, b21, b22, b23, b24]
              rw [hb] at hF
              obtain ⟨b248, e22, HH⟩ := hF
              exact Gives.run rfl (r_idxS (E := E64) (l := ws) (j := (5 * (n1 + n2) + 5 * zi) + 1) sli22 (hW.ext HH.chg) rfl rfl (by first | rfl | omega | (simp; omega)) (by rfl) (by omega)) ⟨rfl, rfl⟩
            · skip
              have hb : List.map L [21, 22, 23, 24] = [false, false, false, false] := by simp only [List.map_cons, List.map_nil, b21, b22, b23, b24]
              rw [hb] at hF
              have HH := hF
              exact Gives.run rfl (r_idxS (E := E64) (l := ws) (j := (5 * (n1 + n2) + 5 * zi) + 1) sli22 (hW.ext HH.chg) rfl rfl (by first | rfl | omega | (simp; omega)) (by rfl) (by omega)) ⟨rfl, rfl⟩
        refine WalkP.look rfl (fun _ => u64 ((ws).getD ((5 * (n1 + n2) + 5 * zi) + 1) 0#64)) (fun _ _ _ => rfl) (fun L r uw hAn hDn hF => ?_) ?_
        · skip
          have b23 : L 23 = false := hDn 23 (by decide) rfl
          have b24 : L 24 = false := hDn 24 (by decide) rfl
          rcases Bool.eq_false_or_eq_true (L 21) with b21 | b21
          · skip
            rcases Bool.eq_false_or_eq_true (L 22) with b22 | b22
            · skip
              have hb : List.map L [21, 22, 23, 24] = [true, true, false, false] := by simp only [List.map_cons, List.map_nil, b21, b22, b23, b24]
              rw [hb] at hF
              obtain ⟨b243, b253, e21, e22, HH⟩ := hF
              exact Gives.run rfl (r_ldS (E := E64) (l := ws) (j := (5 * (n1 + n2) + 5 * zi) + 1) (v := (ws).getD ((5 * (n1 + n2) + 5 * zi) + 1) 0#64) fits32 (hW.ext HH.chg) rfl rfl (at_getD (by omega))) ⟨rfl, rfl⟩
            · skip
              have hb : List.map L [21, 22, 23, 24] = [true, false, false, false] := by simp only [List.map_cons, List.map_nil, b21, b22, b23, b24]
              rw [hb] at hF
              obtain ⟨b243, e21, HH⟩ := hF
              exact Gives.run rfl (r_ldS (E := E64) (l := ws) (j := (5 * (n1 + n2) + 5 * zi) + 1) (v := (ws).getD ((5 * (n1 + n2) + 5 * zi) + 1) 0#64) fits32 (hW.ext HH.chg) rfl rfl (at_getD (by omega))) ⟨rfl, rfl⟩
          · skip
            rcases Bool.eq_false_or_eq_true (L 22) with b22 | b22
            · skip
              have hb : List.map L [21, 22, 23, 24] = [false, true, false, false] := by simp only [List.map_cons, List.map_nil, b21, b22, b23, b24]
              rw [hb] at hF
              obtain ⟨b248, e22, HH⟩ := hF
              exact Gives.run rfl (r_ldS (E := E64) (l := ws) (j := (5 * (n1 + n2) + 5 * zi) + 1) (v := (ws).getD ((5 * (n1 + n2) + 5 * zi) + 1) 0#64) fits32 (hW.ext HH.chg) rfl rfl (at_getD (by omega))) ⟨rfl, rfl⟩
            · skip
              have hb : List.map L [21, 22, 23, 24] = [false, false, false, false] := by simp only [List.map_cons, List.map_nil, b21, b22, b23, b24]
              rw [hb] at hF
              have HH := hF
              exact Gives.run rfl (r_ldS (E := E64) (l := ws) (j := (5 * (n1 + n2) + 5 * zi) + 1) (v := (ws).getD ((5 * (n1 + n2) + 5 * zi) + 1) 0#64) fits32 (hW.ext HH.chg) rfl rfl (at_getD (by omega))) ⟨rfl, rfl⟩
        refine WalkP.look rfl (fun _ => .agg (cel E64 [(ws).getD (5 * (n1 + n2) + 5 * zi) 0#64, (ws).getD ((5 * (n1 + n2) + 5 * zi) + 1) 0#64]).toArray) (fun _ _ _ => rfl) (fun L r uw _ _ _ => Gives.run rfl (r_buildA (cs' := (cel E64 [(ws).getD (5 * (n1 + n2) + 5 * zi) 0#64, (ws).getD ((5 * (n1 + n2) + 5 * zi) + 1) 0#64]).toArray) (ps := [(0, u64 ((ws).getD (5 * (n1 + n2) + 5 * zi) 0#64)), (1, u64 ((ws).getD ((5 * (n1 + n2) + 5 * zi) + 1) 0#64))]) zer38 arr38 rfl (by rfl)) ⟨rfl, rfl⟩) ?_
        refine WalkP.look rfl (fun _ => .slice wa ws.length wc) (fun _ _ _ => rfl) (fun L r uw _ _ _ => Gives.run rfl (r_move (v := .slice wa ws.length wc) rfl) ⟨rfl, rfl⟩) ?_
        refine WalkP.look rfl (fun _ => i64 ((5 * (n1 + n2) + 5 * zi : Nat))) (fun _ _ _ => rfl) (fun L r uw _ _ _ => Gives.run rfl (r_move (v := i64 ((5 * (n1 + n2) + 5 * zi : Nat))) rfl) ⟨rfl, rfl⟩) ?_
        refine WalkP.look rfl (fun _ => i64 ((5 * (n1 + n2) + 5 * zi : Nat) + (2 : Int))) (fun _ _ _ => rfl) (fun L r uw _ _ _ => Gives.run rfl (r_addI (a := (5 * (n1 + n2) + 5 * zi : Nat)) (b := (2 : Int)) rfl rfl (by omega)) ⟨rfl, rfl⟩) ?_
        refine WalkP.look rfl (fun _ => .pointer (adr wa (((5 * (n1 + n2) + 5 * zi) + 2) * 1))) (fun _ _ _ => rfl) (fun L r uw hAn hDn hF => ?_) ?_
        · skip
          have b24 : L 24 = false := hDn 24 (by decide) rfl
          rcases Bool.eq_false_or_eq_true (L 21) with b21 | b21
          · skip
            rcases Bool.eq_false_or_eq_true (L 22) with b22 | b22
            · skip
              rcases Bool.eq_false_or_eq_true (L 23) with b23 | b23
              · skip
                have hb : List.map L [21, 22, 23, 24] = [true, true, true, false] := by simp only [List.map_cons, List.map_nil, b21, b22, b23, b24]
                rw [hb] at hF
                obtain ⟨b243, b253, e21, e22, HH⟩ := hF
                exact Gives.run rfl (r_idxS (E := E64) (l := ws) (j := (5 * (n1 + n2) + 5 * zi) + 2) sli22 (hW.ext HH.chg) rfl rfl (by first | rfl | omega | (simp; omega)) (by rfl) (by omega)) ⟨rfl, rfl⟩
              · skip
                have hb : List.map L [21, 22, 23, 24] = [true, true, false, false] := by simp only [List.map_cons, List.map_nil, b21, b22, b23, b24]
                rw [hb] at hF
                obtain ⟨b243, b253, e21, e22, HH⟩ := hF
                exact Gives.run rfl (r_idxS (E := E64) (l := ws) (j := (5 * (n1 + n2) + 5 * zi) + 2) sli22 (hW.ext HH.chg) rfl rfl (by first | rfl | omega | (simp; omega)) (by rfl) (by omega)) ⟨rfl, rfl⟩
            · skip
              rcases Bool.eq_false_or_eq_true (L 23) with b23 | b23
              · skip
                have hb : List.map L [21, 22, 23, 24] = [true, false, true, false] := by simp only [List.map_cons, List.map_nil, b21, b22, b23, b24]
                rw [hb] at hF
                exact False.elim hF
              · skip
                have hb : List.map L [21, 22, 23, 24] = [true, false, false, false] := by simp only [List.map_cons, List.map_nil, b21, b22, b23, b24]
                rw [hb] at hF
                obtain ⟨b243, e21, HH⟩ := hF
                exact Gives.run rfl (r_idxS (E := E64) (l := ws) (j := (5 * (n1 + n2) + 5 * zi) + 2) sli22 (hW.ext HH.chg) rfl rfl (by first | rfl | omega | (simp; omega)) (by rfl) (by omega)) ⟨rfl, rfl⟩
          · skip
            rcases Bool.eq_false_or_eq_true (L 22) with b22 | b22
            · skip
              rcases Bool.eq_false_or_eq_true (L 23) with b23 | b23
              · skip
                have hb : List.map L [21, 22, 23, 24] = [false, true, true, false] := by simp only [List.map_cons, List.map_nil, b21, b22, b23, b24]
                rw [hb] at hF
                exact False.elim hF
              · skip
                have hb : List.map L [21, 22, 23, 24] = [false, true, false, false] := by simp only [List.map_cons, List.map_nil, b21, b22, b23, b24]
                rw [hb] at hF
                obtain ⟨b248, e22, HH⟩ := hF
                exact Gives.run rfl (r_idxS (E := E64) (l := ws) (j := (5 * (n1 + n2) + 5 * zi) + 2) sli22 (hW.ext HH.chg) rfl rfl (by first | rfl | omega | (simp; omega)) (by rfl) (by omega)) ⟨rfl, rfl⟩
            · skip
              rcases Bool.eq_false_or_eq_true (L 23) with b23 | b23
              · skip
                have hb : List.map L [21, 22, 23, 24] = [false, false, true, false] := by simp only [List.map_cons, List.map_nil, b21, b22, b23, b24]
                rw [hb] at hF
                exact False.elim hF
              · skip
                have hb : List.map L [21, 22, 23, 24] = [false, false, false, false] := by simp only [List.map_cons, List.map_nil, b21, b22, b23, b24]
                rw [hb] at hF
                have HH := hF
                exact Gives.run rfl (r_idxS (E := E64) (l := ws) (j := (5 * (n1 + n2) + 5 * zi) + 2) sli22 (hW.ext HH.chg) rfl rfl (by first | rfl | omega | (simp; omega)) (by rfl) (by omega)) ⟨rfl, rfl⟩
        refine WalkP.look rfl (fun _ => u64 ((ws).getD ((5 * (n1 + n2) + 5 * zi) + 2) 0#64)) (fun _ _ _ => rfl) (fun L r uw hAn hDn hF => ?_) ?_
        · skip
          have b24 : L 24 = false := hDn 24 (by decide) rfl
          rcases Bool.eq_false_or_eq_true (L 21) with b21 | b21
          · skip
            rcases Bool.eq_false_or_eq_true (L 22) with b22 | b22
            · skip
              rcases Bool.eq_false_or_eq_true (L 23) with b23 | b23
              · skip
                have hb : List.map L [21, 22, 23, 24] = [true, true, true, false] := by simp only [List.map_cons, List.map_nil, b21, b22, b23, b24]
                rw [hb] at hF
                obtain ⟨b243, b253, e21, e22, HH⟩ := hF
                exact Gives.run rfl (r_ldS (E := E64) (l := ws) (j := (5 * (n1 + n2) + 5 * zi) + 2) (v := (ws).getD ((5 * (n1 + n2) + 5 * zi) + 2) 0#64) fits32 (hW.ext HH.chg) rfl rfl (at_getD (by omega))) ⟨rfl, rfl⟩
              · skip
                have hb : List.map L [21, 22, 23, 24] = [true, true, false, false] := by simp only [List.map_cons, List.map_nil, b21, b22, b23, b24]
                rw [hb] at hF
                obtain ⟨b243, b253, e21, e22, HH⟩ := hF
                exact Gives.run rfl (r_ldS (E := E64) (l := ws) (j := (5 * (n1 + n2) + 5 * zi) + 2) (v := (ws).getD ((5 * (n1 + n2) + 5 * zi) + 2) 0#64) fits32 (hW.ext HH.chg) rfl rfl (at_getD (by omega))) ⟨rfl, rfl⟩
            · skip
              rcases Bool.eq_false_or_eq_true (L 23) with b23 | b23
              · skip
                have hb : List.map L [21, 22, 23, 24] = [true, false, true, false] := by simp only [List.map_cons, List.map_nil, b21, b22, b23, b24]
                rw [hb] at hF
                exact False.elim hF
              · skip
                have hb : List.map L [21, 22, 23, 24] = [true, false, false, false] := by simp only [List.map_cons, List.map_nil, b21, b22, b23, b24]
                rw [hb] at hF
                obtain ⟨b243, e21, HH⟩ := hF
                exact Gives.run rfl (r_ldS (E := E64) (l := ws) (j := (5 * (n1 + n2) + 5 * zi) + 2) (v := (ws).getD ((5 * (n1 + n2) + 5 * zi) + 2) 0#64) fits32 (hW.ext HH.chg) rfl rfl (at_getD (by omega))) ⟨rfl, rfl⟩
          · skip
            rcases Bool.eq_false_or_eq_true (L 22) with b22 | b22
            · skip
              rcases Bool.eq_false_or_eq_true (L 23) with b23 | b23
              · skip
                have hb : List.map L [21, 22, 23, 24] = [false, true, true, false] := by simp only [List.map_cons, List.map_nil, b21, b22, b23, b24]
                rw [hb] at hF
                exact False.elim hF
              · skip
                have hb : List.map L [21, 22, 23, 24] = [false, true, false, false] := by simp only [List.map_cons, List.map_nil, b21, b22, b23, b24]
                rw [hb] at hF
                obtain ⟨b248, e22, HH⟩ := hF
                exact Gives.run rfl (r_ldS (E := E64) (l := ws) (j := (5 * (n1 + n2) + 5 * zi) + 2) (v := (ws).getD ((5 * (n1 + n2) + 5 * zi) + 2) 0#64) fits32 (hW.ext HH.chg) rfl rfl (at_getD (by omega))) ⟨rfl, rfl⟩
            · skip
              rcases Bool.eq_false_or_eq_true (L 23) with b23 | b23
              · skip
                have hb : List.map L [21, 22, 23, 24] = [false, false, true, false] := by simp only [List.map_cons, List.map_nil, b21, b22, b23, b24]
                rw [hb] at hF
                exact False.elim hF
              · skip
                have hb : List.map L [21, 22, 23, 24] = [false, false, false, false] := by simp only [List.map_cons, List.map_nil, b21, b22, b23, b24]
                rw [hb] at hF
                have HH := hF
                exact Gives.run rfl (r_ldS (E := E64) (l := ws) (j := (5 * (n1 + n2) + 5 * zi) + 2) (v := (ws).getD ((5 * (n1 + n2) + 5 * zi) + 2) 0#64) fits32 (hW.ext HH.chg) rfl rfl (at_getD (by omega))) ⟨rfl, rfl⟩
        refine WalkP.look rfl (fun _ => .slice wa ws.length wc) (fun _ _ _ => rfl) (fun L r uw _ _ _ => Gives.run rfl (r_move (v := .slice wa ws.length wc) rfl) ⟨rfl, rfl⟩) ?_
        refine WalkP.look rfl (fun _ => i64 ((5 * (n1 + n2) + 5 * zi : Nat))) (fun _ _ _ => rfl) (fun L r uw _ _ _ => Gives.run rfl (r_move (v := i64 ((5 * (n1 + n2) + 5 * zi : Nat))) rfl) ⟨rfl, rfl⟩) ?_
        refine WalkP.look rfl (fun _ => i64 ((5 * (n1 + n2) + 5 * zi : Nat) + (3 : Int))) (fun _ _ _ => rfl) (fun L r uw _ _ _ => Gives.run rfl (r_addI (a := (5 * (n1 + n2) + 5 * zi : Nat)) (b := (3 : Int)) rfl rfl (by omega)) ⟨rfl, rfl⟩) ?_
        refine WalkP.look rfl (fun _ => .pointer (adr wa (((5 * (n1 + n2) + 5 * zi) + 3) * 1))) (fun _ _ _ => rfl) (fun L r uw hAn hDn hF => ?_) ?_
        · skip
          have b24 : L 24 = false := hDn 24 (by decide) rfl
          rcases Bool.eq_false_or_eq_true (L 21) with b21 | b21
          · skip
            rcases Bool.eq_false_or_eq_true (L 22) with b22 | b22
            · skip
              rcases Bool.eq_false_or_eq_true (L 23) with b23 | b23
              · skip
                have hb : List.map L [21, 22, 23, 24] = [true, true, true, false] := by simp only [List.map_cons, List.map_nil, b21, b22, b23, b24]
                rw [hb] at hF
                obtain ⟨b243, b253, e21, e22, HH⟩ := hF
                exact Gives.run rfl (r_idxS (E := E64) (l := ws) (j := (5 * (n1 + n2) + 5 * zi) + 3) sli22 (hW.ext HH.chg) rfl rfl (by first | rfl | omega | (simp; omega)) (by rfl) (by omega)) ⟨rfl, rfl⟩
              · skip
                have hb : List.map L [21, 22, 23, 24] = [true, true, false, false] := by simp only [List.map_cons, List.map_nil, b21, b22, b23, b24]
                rw [hb] at hF
                obtain ⟨b243, b253, e21, e22, HH⟩ := hF
                exact Gives.run rfl (r_idxS (E := E64) (l := ws) (j := (5 * (n1 + n2) + 5 * zi) + 3) sli22 (hW.ext HH.chg) rfl rfl (by first | rfl | omega | (simp; omega)) (by rfl) (by omega)) ⟨rfl, rfl⟩
            · skip
              rcases Bool.eq_false_or_eq_true (L 23) with b23 | b23
              · skip
                have hb : List.map L [21, 22, 23, 24] = [true, false, true, false] := by simp only [List.map_cons, List.map_nil, b21, b22, b23, b24]
                rw [hb] at hF
                exact False.elim hF
              · skip
                have hb : List.map L [21, 22, 23, 24] = [true, false, false, false] := by simp only [List.map_cons, List.map_nil, b21, b22, b23, b24]
                rw [hb] at hF
                obtain ⟨b243, e21, HH⟩ := hF
                exact Gives.run rfl (r_idxS (E := E64) (l := ws) (j := (5 * (n1 + n2) + 5 * zi) + 3) sli22 (hW.ext HH.chg) rfl rfl (by first | rfl | omega | (simp; omega)) (by rfl) (by omega)) ⟨rfl, rfl⟩
          · skip
            rcases Bool.eq_false_or_eq_true (L 22) with b22 | b22
            · skip
              rcases Bool.eq_false_or_eq_true (L 23) with b23 | b23
              · skip
                have hb : List.map L [21, 22, 23, 24] = [false, true, true, false] := by simp only [List.map_cons, List.map_nil, b21, b22, b23, b24]
                rw [hb] at hF
                exact False.elim hF
              · skip
                have hb : List.map L [21, 22, 23, 24] = [false, true, false, false] := by simp only [List.map_cons, List.map_nil, b21, b22, b23, b24]
                rw [hb] at hF
                obtain ⟨b248, e22, HH⟩ := hF
                exact Gives.run rfl (r_idxS (E := E64) (l := ws) (j := (5 * (n1 + n2) + 5 * zi) + 3) sli22 (hW.ext HH.chg) rfl rfl (by first | rfl | omega | (simp; omega)) (by rfl) (by omega)) ⟨rfl, rfl⟩
            · skip
              rcases Bool.eq_false_or_eq_true (L 23) with b23 | b23
              · skip
                have hb : List.map L [21, 22, 23, 24] = [false, false, true, false] := by simp only [List.map_cons, List.map_nil, b21, b22, b23, b24]
                rw [hb] at hF
                exact False.elim hF
              · skip
                have hb : List.map L [21, 22, 23, 24] = [false, false, false, false] := by simp only [List.map_cons, List.map_nil, b21, b22, b23, b24]
                rw [hb] at hF
                have HH := hF
                exact Gives.run rfl (r_idxS (E := E64) (l := ws) (j := (5 * (n1 + n2) + 5 * zi) + 3) sli22 (hW.ext HH.chg) rfl rfl (by first | rfl | omega | (simp; omega)) (by rfl) (by omega)) ⟨rfl, rfl⟩
        refine WalkP.look rfl (fun _ => u64 ((ws).getD ((5 * (n1 + n2) + 5 * zi) + 3) 0#64)) (fun _ _ _ => rfl) (fun L r uw hAn hDn hF => ?_) ?_
        · skip
          have b24 : L 24 = false := hDn 24 (by decide) rfl
          rcases Bool.eq_false_or_eq_true (L 21) with b21 | b21
          · skip
            rcases Bool.eq_false_or_eq_true (L 22) with b22 | b22
            · skip
              rcases Bool.eq_false_or_eq_true (L 23) with b23 | b23
              · skip
                have hb : List.map L [21, 22, 23, 24] = [true, true, true, false] := by simp only [List.map_cons, List.map_nil, b21, b22, b23, b24]
                rw [hb] at hF
                obtain ⟨b243, b253, e21, e22, HH⟩ := hF
                exact Gives.run rfl (r_ldS (E := E64) (l := ws) (j := (5 * (n1 + n2) + 5 * zi) + 3) (v := (ws).getD ((5 * (n1 + n2) + 5 * zi) + 3) 0#64) fits32 (hW.ext HH.chg) rfl rfl (at_getD (by omega))) ⟨rfl, rfl⟩
              · skip
                have hb : List.map L [21, 22, 23, 24] = [true, true, false, false] := by simp only [List.map_cons, List.map_nil, b21, b22, b23, b24]
                rw [hb] at hF
                obtain ⟨b243, b253, e21, e22, HH⟩ := hF
                exact Gives.run rfl (r_ldS (E := E64) (l := ws) (j := (5 * (n1 + n2) + 5 * zi) + 3) (v := (ws).getD ((5 * (n1 + n2) + 5 * zi) + 3) 0#64) fits32 (hW.ext HH.chg) rfl rfl (at_getD (by omega))) ⟨rfl, rfl⟩
            · skip
              rcases Bool.eq_false_or_eq_true (L 23) with b23 | b23
              · skip
                have hb : List.map L [21, 22, 23, 24] = [true, false, true, false] := by simp only [List.map_cons, List.map_nil, b21, b22, b23, b24]
                rw [hb] at hF
                exact False.elim hF
              · skip
                have hb : List.map L [21, 22, 23, 24] = [true, false, false, false] := by simp only [List.map_cons, List.map_nil, b21, b22, b23, b24]
                rw [hb] at hF
                obtain ⟨b243, e21, HH⟩ := hF
                exact Gives.run rfl (r_ldS (E := E64) (l := ws) (j := (5 * (n1 + n2) + 5 * zi) + 3) (v := (ws).getD ((5 * (n1 + n2) + 5 * zi) + 3) 0#64) fits32 (hW.ext HH.chg) rfl rfl (at_getD (by omega))) ⟨rfl, rfl⟩
          · skip
            rcases Bool.eq_false_or_eq_true (L 22) with b22 | b22
            · skip
              rcases Bool.eq_false_or_eq_true (L 23) with b23 | b23
              · skip
                have hb : List.map L [21, 22, 23, 24] = [false, true, true, false] := by simp only [List.map_cons, List.map_nil, b21, b22, b23, b24]
                rw [hb] at hF
                exact False.elim hF
              · skip
                have hb : List.map L [21, 22, 23, 24] = [false, true, false, false] := by simp only [List.map_cons, List.map_nil, b21, b22, b23, b24]
                rw [hb] at hF
                obtain ⟨b248, e22, HH⟩ := hF
                exact Gives.run rfl (r_ldS (E := E64) (l := ws) (j := (5 * (n1 + n2) + 5 * zi) + 3) (v := (ws).getD ((5 * (n1 + n2) + 5 * zi) + 3) 0#64) fits32 (hW.ext HH.chg) rfl rfl (at_getD (by omega))) ⟨rfl, rfl⟩
            · skip
              rcases Bool.eq_false_or_eq_true (L 23) with b23 | b23
              · skip
                have hb : List.map L [21, 22, 23, 24] = [false, false, true, false] := by simp only [List.map_cons, List.map_nil, b21, b22, b23, b24]
                rw [hb] at hF
                exact False.elim hF
              · skip
                have hb : List.map L [21, 22, 23, 24] = [false, false, false, false] := by simp only [List.map_cons, List.map_nil, b21, b22, b23, b24]
                rw [hb] at hF
                have HH := hF
                exact Gives.run rfl (r_ldS (E := E64) (l := ws) (j := (5 * (n1 + n2) + 5 * zi) + 3) (v := (ws).getD ((5 * (n1 + n2) + 5 * zi) + 3) 0#64) fits32 (hW.ext HH.chg) rfl rfl (at_getD (by omega))) ⟨rfl, rfl⟩
        refine WalkP.look rfl (fun _ => .agg (cel E64 [(ws).getD ((5 * (n1 + n2) + 5 * zi) + 2) 0#64, (ws).getD ((5 * (n1 + n2) + 5 * zi) + 3) 0#64]).toArray) (fun _ _ _ => rfl) (fun L r uw _ _ _ => Gives.run rfl (r_buildA (cs' := (cel E64 [(ws).getD ((5 * (n1 + n2) + 5 * zi) + 2) 0#64, (ws).getD ((5 * (n1 + n2) + 5 * zi) + 3) 0#64]).toArray) (ps := [(0, u64 ((ws).getD ((5 * (n1 + n2) + 5 * zi) + 2) 0#64)), (1, u64 ((ws).getD ((5 * (n1 + n2) + 5 * zi) + 3) 0#64))]) zer38 arr38 rfl (by rfl)) ⟨rfl, rfl⟩) ?_
        refine WalkP.eff 0 rfl (fun L r uw hLn hAn hDn hF => ?_) ?_
        · skip
          have b21 : L 21 = false := hLn
          have b23 : L 23 = false := hDn 23 (by decide) rfl
          have b24 : L 24 = false := hDn 24 (by decide) rfl
          rcases Bool.eq_false_or_eq_true (L 22) with b22 | b22
          · skip
            have hb : List.map L [21, 22, 23, 24] = [false, true, false, false] := by simp only [List.map_cons, List.map_nil, b21, b22, b23, b24]
            rw [hb] at hF ⊢
            obtain ⟨b248, e22, H265⟩ := hF
            dsimp only
            refine Gives.ofW (d := 19) rfl rfl (fun Q' hK => ?_)
            refine q_alloc (o := .cells (cel E64 ([0#64, 0#64])).toArray 38 (0, 0)) H265 zer38 (by kernel_rfl) ?_
            intro b266 w267 hb266 H268 hE269
            exact hK _ _ (show ∃ (b243 : Nat) (b253 : Nat), (_ : Value) = .pointer (some ⟨b243, 0, none⟩) ∧ r 22 = .pointer (some ⟨b253, 0, none⟩) ∧ Hp No w w267 [(some b253, .cells (cel E64 ([0#64, 0#64])).toArray 38 (0, 0)), (some b243, .cells (cel E64 ([0#64, 0#64])).toArray 38 (0, 0)), (some b5, .cells #[.slice (ownA kyta) n1 ccta, .slice (ownA kyba) n2 ccba, .slice (ownA kyoa) zi ccoa, .slice (ownA kytb) n1 cctb, .slice (ownA kybb) n2 ccbb, .slice (ownA kyob) zi ccob] 61 (0, 0)), (kyta, sob ETr 34 (rowsOf (trA ws) 0 n1) zzta), (kytb, sob ETr 34 (rowsOf (trB ws) 0 n1) zztb), (kyba, sob ETr 34 (rowsOf (trA ws) (5 * n1) n2) zzba), (kybb, sob ETr 34 (rowsOf (biB ws) (5 * n1) n2) zzbb), (kyoa, sob EOt 41 (rowsOf (otA ws) (5 * (n1 + n2)) zi) zzoa), (kyob, sob EOt 41 (rowsOf (otB ws) (5 * (n1 + n2)) zi) zzob), (some b1, .cells #[.slice none 0 0, .slice none 0 0, .slice none 0 0, .slice none 0 0, .slice none 0 0, .slice none 0 0] 61 (0, 0))] from ⟨b266, b248, rfl, e22, ((((((((((H268.pull (k := 9) rfl).pull (k := 9) rfl).pull (k := 9) rfl).pull (k := 9) rfl).pull (k := 9) rfl).pull (k := 9) rfl).pull (k := 9) rfl).pull (k := 9) rfl).pull (k := 8) rfl).pull (k := 9) rfl)⟩)
          · skip
            have hb : List.map L [21, 22, 23, 24] = [false, false, false, false] := by simp only [List.map_cons, List.map_nil, b21, b22, b23, b24]
            rw [hb] at hF ⊢
            have H270 := hF
            dsimp only
            refine Gives.ofW (d := 19) rfl rfl (fun Q' hK => ?_)
            refine q_alloc (o := .cells (cel E64 ([0#64, 0#64])).toArray 38 (0, 0)) H270 zer38 (by kernel_rfl) ?_
            intro b271 w272 hb271 H273 hE274
            exact hK _ _ (show ∃ (b243 : Nat), (_ : Value) = .pointer (some ⟨b243, 0, none⟩) ∧ Hp No w w272 [(some b243, .cells (cel E64 ([0#64, 0#64])).toArray 38 (0, 0)), (some b5, .cells #[.slice (ownA kyta) n1 ccta, .slice (ownA kyba) n2 ccba, .slice (ownA kyoa) zi ccoa, .slice (ownA kytb) n1 cctb, .slice (ownA kybb) n2 ccbb, .slice (ownA kyob) zi ccob] 61 (0, 0)), (kyta, sob ETr 34 (rowsOf (trA ws) 0 n1) zzta), (kytb, sob ETr 34 (rowsOf (trB ws) 0 n1) zztb), (kyba, sob ETr 34 (rowsOf (trA ws) (5 * n1) n2) zzba), (kybb, sob ETr 34 (rowsOf (biB ws) (5 * n1) n2) zzbb), (kyoa, sob EOt 41 (rowsOf (otA ws) (5 * (n1 + n2)) zi) zzoa), (kyob, sob EOt 41 (rowsOf (otB ws) (5 * (n1 + n2)) zi) zzob), (some b1, .cells #[.slice none 0 0, .slice none 0 0, .slice none 0 0, .slice none 0 0, .slice none 0 0, .slice none 0 0] 61 (0, 0))] from ⟨b271, rfl, (((((((((H273.pull (k := 8) rfl).pull (k := 8) rfl).pull (k := 8) rfl).pull (k := 8) rfl).pull (k := 8) rfl).pull (k := 8) rfl).pull (k := 8) rfl).pull (k := 8) rfl).pull (k := 8) rfl)⟩)
        refine WalkP.eff 1 rfl (fun L r uw hLn hAn hDn hF => ?_) ?_
        · skip
          have b22 : L 22 = false := hLn
          have b23 : L 23 = false := hDn 23 (by decide) rfl
          have b24 : L 24 = false := hDn 24 (by decide) rfl
          rcases Bool.eq_false_or_eq_true (L 21) with b21 | b21
          · skip
            have hb : List.map L [21, 22, 23, 24] = [true, false, false, false] := by simp only [List.map_cons, List.map_nil, b21, b22, b23, b24]
            rw [hb] at hF ⊢
            obtain ⟨b243, e21, H275⟩ := hF
            dsimp only
            rw [e21]
            refine Gives.ofW (d := 20) rfl rfl (fun Q' hK => ?_)
            refine q_alloc (o := .cells (cel E64 ([0#64, 0#64])).toArray 38 (0, 0)) H275 zer38 (by kernel_rfl) ?_
            intro b276 w277 hb276 H278 hE279
            exact hK _ _ (show ∃ (b243 : Nat) (b253 : Nat), r 21 = .pointer (some ⟨b243, 0, none⟩) ∧ (_ : Value) = .pointer (some ⟨b253, 0, none⟩) ∧ Hp No w w277 [(some b253, .cells (cel E64 ([0#64, 0#64])).toArray 38 (0, 0)), (some b243, .cells (cel E64 ([0#64, 0#64])).toArray 38 (0, 0)), (some b5, .cells #[.slice (ownA kyta) n1 ccta, .slice (ownA kyba) n2 ccba, .slice (ownA kyoa) zi ccoa, .slice (ownA kytb) n1 cctb, .slice (ownA kybb) n2 ccbb, .slice (ownA kyob) zi ccob] 61 (0, 0)), (kyta, sob ETr 34 (rowsOf (trA ws) 0 n1) zzta), (kytb, sob ETr 34 (rowsOf (trB ws) 0 n1) zztb), (kyba, sob ETr 34 (rowsOf (trA ws) (5 * n1) n2) zzba), (kybb, sob ETr 34 (rowsOf (biB ws) (5 * n1) n2) zzbb), (kyoa, sob EOt 41 (rowsOf (otA ws) (5 * (n1 + n2)) zi) zzoa), (kyob, sob EOt 41 (rowsOf (otB ws) (5 * (n1 + n2)) zi) zzob), (some b1, .cells #[.slice none 0 0, .slice none 0 0, .slice none 0 0, .slice none 0 0, .slice none 0 0, .slice none 0 0] 61 (0, 0))] from ⟨b243, b276, e21, rfl, ((((((((((H278.pull (k := 9) rfl).pull (k := 9) rfl).pull (k := 9) rfl).pull (k := 9) rfl).pull (k := 9) rfl).pull (k := 9) rfl).pull (k := 9) rfl).pull (k := 9) rfl).pull (k := 9) rfl).pull (k := 9) rfl)⟩)
          · skip
            have hb : List.map L [21, 22, 23, 24] = [false, false, false, false] := by simp only [List.map_cons, List.map_nil, b21, b22, b23, b24]
            rw [hb] at hF ⊢
            have H280 := hF
            dsimp only
            refine Gives.ofW (d := 20) rfl rfl (fun Q' hK => ?_)
            refine q_alloc (o := .cells (cel E64 ([0#64, 0#64])).toArray 38 (0, 0)) H280 zer38 (by kernel_rfl) ?_
            intro b281 w282 hb281 H283 hE284
            exact hK _ _ (show ∃ (b248 : Nat), (_ : Value) = .pointer (some ⟨b248, 0, none⟩) ∧ Hp No w w282 [(some b248, .cells (cel E64 ([0#64, 0#64])).toArray 38 (0, 0)), (some b5, .cells #[.slice (ownA kyta) n1 ccta, .slice (ownA kyba) n2 ccba, .slice (ownA kyoa) zi ccoa, .slice (ownA kytb) n1 cctb, .slice (ownA kybb) n2 ccbb, .slice (ownA kyob) zi ccob] 61 (0, 0)), (kyta, sob ETr 34 (rowsOf (trA ws) 0 n1) zzta), (kytb, sob ETr 34 (rowsOf (trB ws) 0 n1) zztb), (kyba, sob ETr 34 (rowsOf (trA ws) (5 * n1) n2) zzba), (kybb, sob ETr 34 (rowsOf (biB ws) (5 * n1) n2) zzbb), (kyoa, sob EOt 41 (rowsOf (otA ws) (5 * (n1 + n2)) zi) zzoa), (kyob, sob EOt 41 (rowsOf (otB ws) (5 * (n1 + n2)) zi) zzob), (some b1, .cells #[.slice none 0 0, .slice none 0 0, .slice none 0 0, .slice none 0 0, .slice none 0 0, .slice none 0 0] 61 (0, 0))] from ⟨b281, rfl, (((((((((H283.pull (k := 8) rfl).pull (k := 8) rfl).pull (k := 8) rfl).pull (k := 8) rfl).pull (k := 8) rfl).pull (k := 8) rfl).pull (k := 8) rfl).pull (k := 8) rfl).pull (k := 8) rfl)⟩)
        refine WalkP.eff 2 rfl (fun L r uw hLn hAn hDn hF => ?_) ?_
        · skip
          have b21 : L 21 = true := hAn 21 (by decide) rfl
          have b22 : L 22 = true := hAn 22 (by decide) rfl
          have b23 : L 23 = false := hLn
          have b24 : L 24 = false := hDn 24 (by decide) rfl
          have hb : List.map L [21, 22, 23, 24] = [true, true, false, false] := by simp only [List.map_cons, List.map_nil, b21, b22, b23, b24]
          rw [hb] at hF ⊢
          obtain ⟨b243, b253, e21, e22, H285⟩ := hF
          dsimp only
          rw [e21, e22]
          refine Gives.ofW0 rfl (fun Q' hK => ?_)
          refine d_store (k := 1) (v := .agg (cel E64 [(ws).getD (5 * (n1 + n2) + 5 * zi) 0#64, (ws).getD ((5 * (n1 + n2) + 5 * zi) + 1) 0#64]).toArray) (cs' := (cel E64 ([(ws).getD (5 * (n1 + n2) + 5 * zi) 0#64, (ws).getD ((5 * (n1 + n2) + 5 * zi) + 1) 0#64])).toArray) H285 rfl rfl rfl siz38 (by exact celSize (by first | rfl | (show _ * 1 = _; omega))) (by exact celOne _) (by rw [List.size_toArray, cel_length]; show _ ≤ _ * 1; first | omega | (simp only [List.length_set]; omega) | exact Nat.le_of_ble_eq_true rfl | (simp <;> omega)) (by exact putAll (by first | rfl | omega | (simp <;> omega))) ?_
          intro w286 H287 hC288
          have H287' := H287.as (L' := [(some b253, .cells (cel E64 ([0#64, 0#64])).toArray 38 (0, 0)), (some b243, .cells (cel E64 ([(ws).getD (5 * (n1 + n2) + 5 * zi) 0#64, (ws).getD ((5 * (n1 + n2) + 5 * zi) + 1) 0#64])).toArray 38 (0, 0)), (some b5, .cells #[.slice (ownA kyta) n1 ccta, .slice (ownA kyba) n2 ccba, .slice (ownA kyoa) zi ccoa, .slice (ownA kytb) n1 cctb, .slice (ownA kybb) n2 ccbb, .slice (ownA kyob) zi ccob] 61 (0, 0)), (kyta, sob ETr 34 (rowsOf (trA ws) 0 n1) zzta), (kytb, sob ETr 34 (rowsOf (trB ws) 0 n1) zztb), (kyba, sob ETr 34 (rowsOf (trA ws) (5 * n1) n2) zzba), (kybb, sob ETr 34 (rowsOf (biB ws) (5 * n1) n2) zzbb), (kyoa, sob EOt 41 (rowsOf (otA ws) (5 * (n1 + n2)) zi) zzoa), (kyob, sob EOt 41 (rowsOf (otB ws) (5 * (n1 + n2)) zi) zzob), (some b1, .cells #[.slice none 0 0, .slice none 0 0, .slice none 0 0, .slice none 0 0, .slice none 0 0, .slice none 0 0] 61 (0, 0))]) rfl
          clear H287
          exact hK _ (fun _ => (show ∃ (b243 : Nat) (b253 : Nat), r 21 = .pointer (some ⟨b243, 0, none⟩) ∧ r 22 = .pointer (some ⟨b253, 0, none⟩) ∧ Hp No w w286 [(some b253, .cells (cel E64 ([0#64, 0#64])).toArray 38 (0, 0)), (some b243, .cells (cel E64 ([(ws).getD (5 * (n1 + n2) + 5 * zi) 0#64, (ws).getD ((5 * (n1 + n2) + 5 * zi) + 1) 0#64])).toArray 38 (0, 0)), (some b5, .cells #[.slice (ownA kyta) n1 ccta, .slice (ownA kyba) n2 ccba, .slice (ownA kyoa) zi ccoa, .slice (ownA kytb) n1 cctb, .slice (ownA kybb) n2 ccbb, .slice (ownA kyob) zi ccob] 61 (0, 0)), (kyta, sob ETr 34 (rowsOf (trA ws) 0 n1) zzta), (kytb, sob ETr 34 (rowsOf (trB ws) 0 n1) zztb), (kyba, sob ETr 34 (rowsOf (trA ws) (5 * n1) n2) zzba), (kybb, sob ETr 34 (rowsOf (biB ws) (5 * n1) n2) zzbb), (kyoa, sob EOt 41 (rowsOf (otA ws) (5 * (n1 + n2)) zi) zzoa), (kyob, sob EOt 41 (rowsOf (otB ws) (5 * (n1 + n2)) zi) zzob), (some b1, .cells #[.slice none 0 0, .slice none 0 0, .slice none 0 0, .slice none 0 0, .slice none 0 0, .slice none 0 0] 61 (0, 0))] from ⟨b243, b253, e21, e22, ((((((((((H287'.pull (k := 9) rfl).pull (k := 9) rfl).pull (k := 9) rfl).pull (k := 9) rfl).pull (k := 9) rfl).pull (k := 9) rfl).pull (k := 9) rfl).pull (k := 9) rfl).pull (k := 9) rfl).pull (k := 9) rfl)⟩))
        refine WalkP.eff 3 rfl (fun L r uw hLn hAn hDn hF => ?_) ?_
        · skip
          have b21 : L 21 = true := hAn 21 (by decide) rfl
          have b22 : L 22 = true := hAn 22 (by decide) rfl
          have b23 : L 23 = true := hAn 23 (by decide) rfl
          have b24 : L 24 = false := hLn
          have hb : List.map L [21, 22, 23, 24] = [true, true, true, false] := by simp only [List.map_cons, List.map_nil, b21, b22, b23, b24]
          rw [hb] at hF ⊢
          obtain ⟨b243, b253, e21, e22, H289⟩ := hF
          dsimp only
          rw [e21, e22]
          refine Gives.ofW0 rfl (fun Q' hK => ?_)
          refine d_store (k := 0) (v := .agg (cel E64 [(ws).getD ((5 * (n1 + n2) + 5 * zi) + 2) 0#64, (ws).getD ((5 * (n1 + n2) + 5 * zi) + 3) 0#64]).toArray) (cs' := (cel E64 ([(ws).getD ((5 * (n1 + n2) + 5 * zi) + 2) 0#64, (ws).getD ((5 * (n1 + n2) + 5 * zi) + 3) 0#64])).toArray) H289 rfl rfl rfl siz38 (by exact celSize (by first | rfl | (show _ * 1 = _; omega))) (by exact celOne _) (by rw [List.size_toArray, cel_length]; show _ ≤ _ * 1; first | omega | (simp only [List.length_set]; omega) | exact Nat.le_of_ble_eq_true rfl | (simp <;> omega)) (by exact putAll (by first | rfl | omega | (simp <;> omega))) ?_
          intro w290 H291 hC292
          have H291' := H291.as (L' := [(some b253, .cells (cel E64 ([(ws).getD ((5 * (n1 + n2) + 5 * zi) + 2) 0#64, (ws).getD ((5 * (n1 + n2) + 5 * zi) + 3) 0#64])).toArray 38 (0, 0)), (some b243, .cells (cel E64 ([(ws).getD (5 * (n1 + n2) + 5 * zi) 0#64, (ws).getD ((5 * (n1 + n2) + 5 * zi) + 1) 0#64])).toArray 38 (0, 0)), (some b5, .cells #[.slice (ownA kyta) n1 ccta, .slice (ownA kyba) n2 ccba, .slice (ownA kyoa) zi ccoa, .slice (ownA kytb) n1 cctb, .slice (ownA kybb) n2 ccbb, .slice (ownA kyob) zi ccob] 61 (0, 0)), (kyta, sob ETr 34 (rowsOf (trA ws) 0 n1) zzta), (kytb, sob ETr 34 (rowsOf (trB ws) 0 n1) zztb), (kyba, sob ETr 34 (rowsOf (trA ws) (5 * n1) n2) zzba), (kybb, sob ETr 34 (rowsOf (biB ws) (5 * n1) n2) zzbb), (kyoa, sob EOt 41 (rowsOf (otA ws) (5 * (n1 + n2)) zi) zzoa), (kyob, sob EOt 41 (rowsOf (otB ws) (5 * (n1 + n2)) zi) zzob), (some b1, .cells #[.slice none 0 0, .slice none 0 0, .slice none 0 0, .slice none 0 0, .slice none 0 0, .slice none 0 0] 61 (0, 0))]) rfl
          clear H291
          exact hK _ (fun _ => (show ∃ (b243 : Nat) (b253 : Nat), r 21 = .pointer (some ⟨b243, 0, none⟩) ∧ r 22 = .pointer (some ⟨b253, 0, none⟩) ∧ Hp No w w290 [(some b253, .cells (cel E64 ([(ws).getD ((5 * (n1 + n2) + 5 * zi) + 2) 0#64, (ws).getD ((5 * (n1 + n2) + 5 * zi) + 3) 0#64])).toArray 38 (0, 0)), (some b243, .cells (cel E64 ([(ws).getD (5 * (n1 + n2) + 5 * zi) 0#64, (ws).getD ((5 * (n1 + n2) + 5 * zi) + 1) 0#64])).toArray 38 (0, 0)), (some b5, .cells #[.slice (ownA kyta) n1 ccta, .slice (ownA kyba) n2 ccba, .slice (ownA kyoa) zi ccoa, .slice (ownA kytb) n1 cctb, .slice (ownA kybb) n2 ccbb, .slice (ownA kyob) zi ccob] 61 (0, 0)), (kyta, sob ETr 34 (rowsOf (trA ws) 0 n1) zzta), (kytb, sob ETr 34 (rowsOf (trB ws) 0 n1) zztb), (kyba, sob ETr 34 (rowsOf (trA ws) (5 * n1) n2) zzba), (kybb, sob ETr 34 (rowsOf (biB ws) (5 * n1) n2) zzbb), (kyoa, sob EOt 41 (rowsOf (otA ws) (5 * (n1 + n2)) zi) zzoa), (kyob, sob EOt 41 (rowsOf (otB ws) (5 * (n1 + n2)) zi) zzob), (some b1, .cells #[.slice none 0 0, .slice none 0 0, .slice none 0 0, .slice none 0 0, .slice none 0 0, .slice none 0 0] 61 (0, 0))] from ⟨b243, b253, e21, e22, ((((((((((H291'.pull (k := 9) rfl).pull (k := 9) rfl).pull (k := 9) rfl).pull (k := 9) rfl).pull (k := 9) rfl).pull (k := 9) rfl).pull (k := 9) rfl).pull (k := 9) rfl).pull (k := 9) rfl).pull (k := 9) rfl)⟩))
        refine WalkP.nil ?_
        intro r293 w294 hF
        obtain ⟨b243, b253, e21, e22, H295⟩ := hF
        dsimp only
        rw [e21, e22]
        refine wnil ?_
        refine thenNormal ?_
        refine seqRegion ?_
        refine sq (r_indexA (off' := 0) (j := 0) arr61 (b := b5) (off := 0) rfl rfl (by first | rfl | omega | (simp; omega)) (by omega) (by omega)) ?_
        refine sq (r_fieldAddr (off' := 2) fld54_2 (by decide) (b := b5) (off := 0) rfl (by omega)) ?_
        refine sq (r_loadC (v := .slice (ownA kyoa) zi ccoa) one50 (H295.get (k := 2) rfl) (off := 2) rfl (by rfl)) ?_
        refine sq (r_loadA (cs' := (cel E64 ([(ws).getD (5 * (n1 + n2) + 5 * zi) 0#64, (ws).getD ((5 * (n1 + n2) + 5 * zi) + 1) 0#64])).toArray) agg38 siz38 (H295.get (k := 1) rfl) (off := 0) rfl (by exact Nat.le_of_ble_eq_true rfl) (by exact ext_all rfl)) ?_
        refine sq (r_loadA (cs' := (cel E64 ([(ws).getD ((5 * (n1 + n2) + 5 * zi) + 2) 0#64, (ws).getD ((5 * (n1 + n2) + 5 * zi) + 3) 0#64])).toArray) agg38 siz38 (H295.get (k := 0) rfl) (off := 0) rfl (by exact Nat.le_of_ble_eq_true rfl) (by exact ext_all rfl)) ?_
        refine sq (r_buildA (cs' := #[u64 ((ws).getD (5 * (n1 + n2) + 5 * zi) 0#64), u64 ((ws).getD ((5 * (n1 + n2) + 5 * zi) + 1) 0#64), u64 ((ws).getD ((5 * (n1 + n2) + 5 * zi) + 2) 0#64), u64 ((ws).getD ((5 * (n1 + n2) + 5 * zi) + 3) 0#64)]) (ps := [(0, .agg (cel E64 ([(ws).getD (5 * (n1 + n2) + 5 * zi) 0#64, (ws).getD ((5 * (n1 + n2) + 5 * zi) + 1) 0#64])).toArray), (1, .agg (cel E64 ([(ws).getD ((5 * (n1 + n2) + 5 * zi) + 2) 0#64, (ws).getD ((5 * (n1 + n2) + 5 * zi) + 3) 0#64])).toArray)]) zer39 arr39 rfl (by rfl)) ?_
        refine sq (r_build (cs' := #[u64 ((ws).getD (5 * (n1 + n2) + 5 * zi) 0#64), u64 ((ws).getD ((5 * (n1 + n2) + 5 * zi) + 1) 0#64), u64 ((ws).getD ((5 * (n1 + n2) + 5 * zi) + 2) 0#64), u64 ((ws).getD ((5 * (n1 + n2) + 5 * zi) + 3) 0#64), .bool (false)]) (ps := [(0, .agg #[u64 ((ws).getD (5 * (n1 + n2) + 5 * zi) 0#64), u64 ((ws).getD ((5 * (n1 + n2) + 5 * zi) + 1) 0#64), u64 ((ws).getD ((5 * (n1 + n2) + 5 * zi) + 2) 0#64), u64 ((ws).getD ((5 * (n1 + n2) + 5 * zi) + 3) 0#64)])]) zer41 pls41 rfl (by rfl)) ?_
        refine q_buildSlice (E := EOt) (l := ([⟨(ws).getD (5 * (n1 + n2) + 5 * zi) 0#64, (ws).getD ((5 * (n1 + n2) + 5 * zi) + 1) 0#64, (ws).getD ((5 * (n1 + n2) + 5 * zi) + 2) 0#64, (ws).getD ((5 * (n1 + n2) + 5 * zi) + 3) 0#64, false⟩] : List Ot)) H295 sli50 zer41 (Nat.le_of_ble_eq_true rfl) (ps := [(0, .agg #[u64 ((ws).getD (5 * (n1 + n2) + 5 * zi) 0#64), u64 ((ws).getD ((5 * (n1 + n2) + 5 * zi) + 1) 0#64), u64 ((ws).getD ((5 * (n1 + n2) + 5 * zi) + 2) 0#64), u64 ((ws).getD ((5 * (n1 + n2) + 5 * zi) + 3) 0#64), .bool (false)])]) rfl (by exact fillAll rfl rfl) rfl ?_
        intro b296 w298 hS297 H299 hE300
        refine q_append (E := EOt) (k := 8) (l := rowsOf (otA ws) (5 * (n1 + n2)) zi) (l2 := ([⟨(ws).getD (5 * (n1 + n2) + 5 * zi) 0#64, (ws).getD ((5 * (n1 + n2) + 5 * zi) + 1) 0#64, (ws).getD ((5 * (n1 + n2) + 5 * zi) + 2) 0#64, (ws).getD ((5 * (n1 + n2) + 5 * zi) + 3) 0#64, false⟩] : List Ot)) H299 rfl hkyoa sli50 zer41 rfl byt41 (H299.rd (k := 0) rfl hS297) rfl (by rw [rowsOf_len]) rfl (by rfl) (by omega) ?_
        intro key301 c302 sp303 w305 hS304 hne307 H306
        have H306' := H306.as (L' := [((some b296), sob EOt 41 ([⟨(ws).getD (5 * (n1 + n2) + 5 * zi) 0#64, (ws).getD ((5 * (n1 + n2) + 5 * zi) + 1) 0#64, (ws).getD ((5 * (n1 + n2) + 5 * zi) + 2) 0#64, (ws).getD ((5 * (n1 + n2) + 5 * zi) + 3) 0#64, false⟩] : List Ot) ([])), (some b253, .cells (cel E64 ([(ws).getD ((5 * (n1 + n2) + 5 * zi) + 2) 0#64, (ws).getD ((5 * (n1 + n2) + 5 * zi) + 3) 0#64])).toArray 38 (0, 0)), (some b243, .cells (cel E64 ([(ws).getD (5 * (n1 + n2) + 5 * zi) 0#64, (ws).getD ((5 * (n1 + n2) + 5 * zi) + 1) 0#64])).toArray 38 (0, 0)), (some b5, .cells #[.slice (ownA kyta) n1 ccta, .slice (ownA kyba) n2 ccba, .slice (ownA kyoa) zi ccoa, .slice (ownA kytb) n1 cctb, .slice (ownA kybb) n2 ccbb, .slice (ownA kyob) zi ccob] 61 (0, 0)), (kyta, sob ETr 34 (rowsOf (trA ws) 0 n1) zzta), (kytb, sob ETr 34 (rowsOf (trB ws) 0 n1) zztb), (kyba, sob ETr 34 (rowsOf (trA ws) (5 * n1) n2) zzba), (kybb, sob ETr 34 (rowsOf (biB ws) (5 * n1) n2) zzbb), (key301, sob EOt 41 ((rowsOf (otA ws) (5 * (n1 + n2)) zi) ++ ([⟨(ws).getD (5 * (n1 + n2) + 5 * zi) 0#64, (ws).getD ((5 * (n1 + n2) + 5 * zi) + 1) 0#64, (ws).getD ((5 * (n1 + n2) + 5 * zi) + 2) 0#64, (ws).getD ((5 * (n1 + n2) + 5 * zi) + 3) 0#64, false⟩] : List Ot)) sp303), (kyob, sob EOt 41 (rowsOf (otB ws) (5 * (n1 + n2)) zi) zzob), (some b1, .cells #[.slice none 0 0, .slice none 0 0, .slice none 0 0, .slice none 0 0, .slice none 0 0, .slice none 0 0] 61 (0, 0))]) rfl
        clear H306
        have e308 : (rowsOf (otA ws) (5 * (n1 + n2)) zi) ++ ([⟨(ws).getD (5 * (n1 + n2) + 5 * zi) 0#64, (ws).getD ((5 * (n1 + n2) + 5 * zi) + 1) 0#64, (ws).getD ((5 * (n1 + n2) + 5 * zi) + 2) 0#64, (ws).getD ((5 * (n1 + n2) + 5 * zi) + 3) 0#64, false⟩] : List Ot) = rowsOf (otA ws) (5 * (n1 + n2)) (zi + 1) := by rw [rowsOf_succ]; rfl
        have hS309 := hS304
        rw [e308] at hS309
        have H310 := H306'.as (L' := [((some b296), sob EOt 41 ([⟨(ws).getD (5 * (n1 + n2) + 5 * zi) 0#64, (ws).getD ((5 * (n1 + n2) + 5 * zi) + 1) 0#64, (ws).getD ((5 * (n1 + n2) + 5 * zi) + 2) 0#64, (ws).getD ((5 * (n1 + n2) + 5 * zi) + 3) 0#64, false⟩] : List Ot) ([])), (some b253, .cells (cel E64 ([(ws).getD ((5 * (n1 + n2) + 5 * zi) + 2) 0#64, (ws).getD ((5 * (n1 + n2) + 5 * zi) + 3) 0#64])).toArray 38 (0, 0)), (some b243, .cells (cel E64 ([(ws).getD (5 * (n1 + n2) + 5 * zi) 0#64, (ws).getD ((5 * (n1 + n2) + 5 * zi) + 1) 0#64])).toArray 38 (0, 0)), (some b5, .cells #[.slice (ownA kyta) n1 ccta, .slice (ownA kyba) n2 ccba, .slice (ownA kyoa) zi ccoa, .slice (ownA kytb) n1 cctb, .slice (ownA kybb) n2 ccbb, .slice (ownA kyob) zi ccob] 61 (0, 0)), (kyta, sob ETr 34 (rowsOf (trA ws) 0 n1) zzta), (kytb, sob ETr 34 (rowsOf (trB ws) 0 n1) zztb), (kyba, sob ETr 34 (rowsOf (trA ws) (5 * n1) n2) zzba), (kybb, sob ETr 34 (rowsOf (biB ws) (5 * n1) n2) zzbb), (key301, sob EOt 41 (rowsOf (otA ws) (5 * (n1 + n2)) (zi + 1)) sp303), (kyob, sob EOt 41 (rowsOf (otB ws) (5 * (n1 + n2)) zi) zzob), (some b1, .cells #[.slice none 0 0, .slice none 0 0, .slice none 0 0, .slice none 0 0, .slice none 0 0, .slice none 0 0] 61 (0, 0))]) (by rw [e308])
        refine sq (r_indexA (off' := 0) (j := 0) arr61 (b := b5) (off := 0) rfl rfl (by first | rfl | omega | (simp; omega)) (by omega) (by omega)) ?_
        refine sq (r_fieldAddr (off' := 2) fld54_2 (by decide) (b := b5) (off := 0) rfl (by omega)) ?_
        refine d_store (k := 3) (v := .slice (ownA key301) (zi + 1) c302) (cs' := #[.slice (ownA kyta) n1 ccta, .slice (ownA kyba) n2 ccba, .slice (ownA key301) (zi + 1) c302, .slice (ownA kytb) n1 cctb, .slice (ownA kybb) n2 ccbb, .slice (ownA kyob) zi ccob]) H310 rfl rfl rfl siz50 (by rfl) (by intro u hu; simp [Value.cells] at hu; first | (subst hu; rfl) | (rcases hu with rfl <;> rfl)) (by exact Nat.le_of_ble_eq_true rfl) (by rfl) ?_
        intro w311 H312 hC313
        have H312' := H312.as (L' := [((some b296), sob EOt 41 ([⟨(ws).getD (5 * (n1 + n2) + 5 * zi) 0#64, (ws).getD ((5 * (n1 + n2) + 5 * zi) + 1) 0#64, (ws).getD ((5 * (n1 + n2) + 5 * zi) + 2) 0#64, (ws).getD ((5 * (n1 + n2) + 5 * zi) + 3) 0#64, false⟩] : List Ot) ([])), (some b253, .cells (cel E64 ([(ws).getD ((5 * (n1 + n2) + 5 * zi) + 2) 0#64, (ws).getD ((5 * (n1 + n2) + 5 * zi) + 3) 0#64])).toArray 38 (0, 0)), (some b243, .cells (cel E64 ([(ws).getD (5 * (n1 + n2) + 5 * zi) 0#64, (ws).getD ((5 * (n1 + n2) + 5 * zi) + 1) 0#64])).toArray 38 (0, 0)), (some b5, .cells #[.slice (ownA kyta) n1 ccta, .slice (ownA kyba) n2 ccba, .slice (ownA key301) (zi + 1) c302, .slice (ownA kytb) n1 cctb, .slice (ownA kybb) n2 ccbb, .slice (ownA kyob) zi ccob] 61 (0, 0)), (kyta, sob ETr 34 (rowsOf (trA ws) 0 n1) zzta), (kytb, sob ETr 34 (rowsOf (trB ws) 0 n1) zztb), (kyba, sob ETr 34 (rowsOf (trA ws) (5 * n1) n2) zzba), (kybb, sob ETr 34 (rowsOf (biB ws) (5 * n1) n2) zzbb), (key301, sob EOt 41 (rowsOf (otA ws) (5 * (n1 + n2)) (zi + 1)) sp303), (kyob, sob EOt 41 (rowsOf (otB ws) (5 * (n1 + n2)) zi) zzob), (some b1, .cells #[.slice none 0 0, .slice none 0 0, .slice none 0 0, .slice none 0 0, .slice none 0 0, .slice none 0 0] 61 (0, 0))]) rfl
        clear H312
        refine wend ?_
        refine seqAny ?_
        refine seqRegion ?_
        refine sq (r_move (v := .slice wa ws.length wc) rfl) ?_
        refine sq (r_move (v := i64 ((5 * (n1 + n2) + 5 * zi : Nat))) rfl) ?_
        refine sq (r_addI (a := (5 * (n1 + n2) + 5 * zi : Nat)) (b := (4 : Int)) rfl rfl (by omega)) ?_
        refine sq (r_idxS (E := E64) (l := ws) (j := (5 * (n1 + n2) + 5 * zi) + 4) sli22 (hW.ext H312'.chg) rfl rfl (by first | rfl | omega | (simp; omega)) (by rfl) (by omega)) ?_
        refine sq (r_ldS (E := E64) (l := ws) (j := (5 * (n1 + n2) + 5 * zi) + 4) (v := (ws).getD ((5 * (n1 + n2) + 5 * zi) + 4) 0#64) fits32 (hW.ext H312'.chg) rfl rfl (at_getD (by omega))) ?_
        refine sq (r_rem64 (a := (ws).getD ((5 * (n1 + n2) + 5 * zi) + 4) 0#64) (b := 2#64) rfl rfl (by decide)) ?_
        refine sq (r_eql64 (a := ((ws).getD ((5 * (n1 + n2) + 5 * zi) + 4) 0#64) % (2#64)) (b := 1#64) rfl rfl) ?_
        refine wend ?_
        refine condProp ((((ws).getD ((5 * (n1 + n2) + 5 * zi) + 4) 0#64) % (2#64)) = (1#64)) rfl (fun c252 => ?_) (fun c252 => ?_)
        · skip
          refine oneRegion ?_
          refine sq (r_indexA (off' := 3) (j := 1) arr61 (b := b5) (off := 0) rfl rfl (by first | rfl | omega | (simp; omega)) (by omega) (by omega)) ?_
          refine sq (r_fieldAddr (off' := 5) fld54_2 (by decide) (b := b5) (off := 3) rfl (by omega)) ?_
          refine sq (r_loadC (v := .slice (ownA kyob) zi ccob) one50 (H312'.get (k := 3) rfl) (off := 5) rfl (by rfl)) ?_
          refine sq (r_loadA (cs' := (cel E64 ([(ws).getD ((5 * (n1 + n2) + 5 * zi) + 2) 0#64, (ws).getD ((5 * (n1 + n2) + 5 * zi) + 3) 0#64])).toArray) agg38 siz38 (H312'.get (k := 1) rfl) (off := 0) rfl (by exact Nat.le_of_ble_eq_true rfl) (by exact ext_all rfl)) ?_
          refine sq (r_buildA (cs' := #[u64 ((ws).getD ((5 * (n1 + n2) + 5 * zi) + 2) 0#64), u64 ((ws).getD ((5 * (n1 + n2) + 5 * zi) + 3) 0#64), u64 (0#64), u64 (0#64)]) (ps := [(0, .agg (cel E64 ([(ws).getD ((5 * (n1 + n2) + 5 * zi) + 2) 0#64, (ws).getD ((5 * (n1 + n2) + 5 * zi) + 3) 0#64])).toArray)]) zer39 arr39 rfl (by rfl)) ?_
          refine sq (r_build (cs' := #[u64 ((ws).getD ((5 * (n1 + n2) + 5 * zi) + 2) 0#64), u64 ((ws).getD ((5 * (n1 + n2) + 5 * zi) + 3) 0#64), u64 (0#64), u64 (0#64), .bool (true)]) (ps := [(0, .agg #[u64 ((ws).getD ((5 * (n1 + n2) + 5 * zi) + 2) 0#64), u64 ((ws).getD ((5 * (n1 + n2) + 5 * zi) + 3) 0#64), u64 (0#64), u64 (0#64)]), (1, .bool (true))]) zer41 pls41 rfl (by rfl)) ?_
          refine q_buildSlice (E := EOt) (l := ([⟨(ws).getD ((5 * (n1 + n2) + 5 * zi) + 2) 0#64, (ws).getD ((5 * (n1 + n2) + 5 * zi) + 3) 0#64, 0#64, 0#64, true⟩] : List Ot)) H312' sli50 zer41 (Nat.le_of_ble_eq_true rfl) (ps := [(0, .agg #[u64 ((ws).getD ((5 * (n1 + n2) + 5 * zi) + 2) 0#64), u64 ((ws).getD ((5 * (n1 + n2) + 5 * zi) + 3) 0#64), u64 (0#64), u64 (0#64), .bool (true)])]) rfl (by exact fillAll rfl rfl) rfl ?_
          intro b314 w316 hS315 H317 hE318
          refine q_append (E := EOt) (k := 10) (l := rowsOf (otB ws) (5 * (n1 + n2)) zi) (l2 := ([⟨(ws).getD ((5 * (n1 + n2) + 5 * zi) + 2) 0#64, (ws).getD ((5 * (n1 + n2) + 5 * zi) + 3) 0#64, 0#64, 0#64, true⟩] : List Ot)) H317 rfl hkyob sli50 zer41 rfl byt41 (H317.rd (k := 0) rfl hS315) rfl (by rw [rowsOf_len]) rfl (by rfl) (by omega) ?_
          intro key319 c320 sp321 w323 hS322 hne325 H324
          have H324' := H324.as (L' := [((some b314), sob EOt 41 ([⟨(ws).getD ((5 * (n1 + n2) + 5 * zi) + 2) 0#64, (ws).getD ((5 * (n1 + n2) + 5 * zi) + 3) 0#64, 0#64, 0#64, true⟩] : List Ot) ([])), ((some b296), sob EOt 41 ([⟨(ws).getD (5 * (n1 + n2) + 5 * zi) 0#64, (ws).getD ((5 * (n1 + n2) + 5 * zi) + 1) 0#64, (ws).getD ((5 * (n1 + n2) + 5 * zi) + 2) 0#64, (ws).getD ((5 * (n1 + n2) + 5 * zi) + 3) 0#64, false⟩] : List Ot) ([])), (some b253, .cells (cel E64 ([(ws).getD ((5 * (n1 + n2) + 5 * zi) + 2) 0#64, (ws).getD ((5 * (n1 + n2) + 5 * zi) + 3) 0#64])).toArray 38 (0, 0)), (some b243, .cells (cel E64 ([(ws).getD (5 * (n1 + n2) + 5 * zi) 0#64, (ws).getD ((5 * (n1 + n2) + 5 * zi) + 1) 0#64])).toArray 38 (0, 0)), (some b5, .cells #[.slice (ownA kyta) n1 ccta, .slice (ownA kyba) n2 ccba, .slice (ownA key301) (zi + 1) c302, .slice (ownA kytb) n1 cctb, .slice (ownA kybb) n2 ccbb, .slice (ownA kyob) zi ccob] 61 (0, 0)), (kyta, sob ETr 34 (rowsOf (trA ws) 0 n1) zzta), (kytb, sob ETr 34 (rowsOf (trB ws) 0 n1) zztb), (kyba, sob ETr 34 (rowsOf (trA ws) (5 * n1) n2) zzba), (kybb, sob ETr 34 (rowsOf (biB ws) (5 * n1) n2) zzbb), (key301, sob EOt 41 (rowsOf (otA ws) (5 * (n1 + n2)) (zi + 1)) sp303), (key319, sob EOt 41 ((rowsOf (otB ws) (5 * (n1 + n2)) zi) ++ ([⟨(ws).getD ((5 * (n1 + n2) + 5 * zi) + 2) 0#64, (ws).getD ((5 * (n1 + n2) + 5 * zi) + 3) 0#64, 0#64, 0#64, true⟩] : List Ot)) sp321), (some b1, .cells #[.slice none 0 0, .slice none 0 0, .slice none 0 0, .slice none 0 0, .slice none 0 0, .slice none 0 0] 61 (0, 0))]) rfl
          clear H324
          have e326 : (rowsOf (otB ws) (5 * (n1 + n2)) zi) ++ ([⟨(ws).getD ((5 * (n1 + n2) + 5 * zi) + 2) 0#64, (ws).getD ((5 * (n1 + n2) + 5 * zi) + 3) 0#64, 0#64, 0#64, true⟩] : List Ot) = rowsOf (otB ws) (5 * (n1 + n2)) (zi + 1) := by rw [rowsOf_succ, otB_t (by rw [odd_mod]; exact c252)]; rfl
          have hS327 := hS322
          rw [e326] at hS327
          have H328 := H324'.as (L' := [((some b314), sob EOt 41 ([⟨(ws).getD ((5 * (n1 + n2) + 5 * zi) + 2) 0#64, (ws).getD ((5 * (n1 + n2) + 5 * zi) + 3) 0#64, 0#64, 0#64, true⟩] : List Ot) ([])), ((some b296), sob EOt 41 ([⟨(ws).getD (5 * (n1 + n2) + 5 * zi) 0#64, (ws).getD ((5 * (n1 + n2) + 5 * zi) + 1) 0#64, (ws).getD ((5 * (n1 + n2) + 5 * zi) + 2) 0#64, (ws).getD ((5 * (n1 + n2) + 5 * zi) + 3) 0#64, false⟩] : List Ot) ([])), (some b253, .cells (cel E64 ([(ws).getD ((5 * (n1 + n2) + 5 * zi) + 2) 0#64, (ws).getD ((5 * (n1 + n2) + 5 * zi) + 3) 0#64])).toArray 38 (0, 0)), (some b243, .cells (cel E64 ([(ws).getD (5 * (n1 + n2) + 5 * zi) 0#64, (ws).getD ((5 * (n1 + n2) + 5 * zi) + 1) 0#64])).toArray 38 (0, 0)), (some b5, .cells #[.slice (ownA kyta) n1 ccta, .slice (ownA kyba) n2 ccba, .slice (ownA key301) (zi + 1) c302, .slice (ownA kytb) n1 cctb, .slice (ownA kybb) n2 ccbb, .slice (ownA kyob) zi ccob] 61 (0, 0)), (kyta, sob ETr 34 (rowsOf (trA ws) 0 n1) zzta), (kytb, sob ETr 34 (rowsOf (trB ws) 0 n1) zztb), (kyba, sob ETr 34 (rowsOf (trA ws) (5 * n1) n2) zzba), (kybb, sob ETr 34 (rowsOf (biB ws) (5 * n1) n2) zzbb), (key301, sob EOt 41 (rowsOf (otA ws) (5 * (n1 + n2)) (zi + 1)) sp303), (key319, sob EOt 41 (rowsOf (otB ws) (5 * (n1 + n2)) (zi + 1)) sp321), (some b1, .cells #[.slice none 0 0, .slice none 0 0, .slice none 0 0, .slice none 0 0, .slice none 0 0, .slice none 0 0] 61 (0, 0))]) (by rw [e326])
          refine sq (r_indexA (off' := 3) (j := 1) arr61 (b := b5) (off := 0) rfl rfl (by first | rfl | omega | (simp; omega)) (by omega) (by omega)) ?_
          refine sq (r_fieldAddr (off' := 5) fld54_2 (by decide) (b := b5) (off := 3) rfl (by omega)) ?_
          refine d_store (k := 4) (v := .slice (ownA key319) (zi + 1) c320) (cs' := #[.slice (ownA kyta) n1 ccta, .slice (ownA kyba) n2 ccba, .slice (ownA key301) (zi + 1) c302, .slice (ownA kytb) n1 cctb, .slice (ownA kybb) n2 ccbb, .slice (ownA key319) (zi + 1) c320]) H328 rfl rfl rfl siz50 (by rfl) (by intro u hu; simp [Value.cells] at hu; first | (subst hu; rfl) | (rcases hu with rfl <;> rfl)) (by exact Nat.le_of_ble_eq_true rfl) (by rfl) ?_
          intro w329 H330 hC331
          have H330' := H330.as (L' := [((some b314), sob EOt 41 ([⟨(ws).getD ((5 * (n1 + n2) + 5 * zi) + 2) 0#64, (ws).getD ((5 * (n1 + n2) + 5 * zi) + 3) 0#64, 0#64, 0#64, true⟩] : List Ot) ([])), ((some b296), sob EOt 41 ([⟨(ws).getD (5 * (n1 + n2) + 5 * zi) 0#64, (ws).getD ((5 * (n1 + n2) + 5 * zi) + 1) 0#64, (ws).getD ((5 * (n1 + n2) + 5 * zi) + 2) 0#64, (ws).getD ((5 * (n1 + n2) + 5 * zi) + 3) 0#64, false⟩] : List Ot) ([])), (some b253, .cells (cel E64 ([(ws).getD ((5 * (n1 + n2) + 5 * zi) + 2) 0#64, (ws).getD ((5 * (n1 + n2) + 5 * zi) + 3) 0#64])).toArray 38 (0, 0)), (some b243, .cells (cel E64 ([(ws).getD (5 * (n1 + n2) + 5 * zi) 0#64, (ws).getD ((5 * (n1 + n2) + 5 * zi) + 1) 0#64])).toArray 38 (0, 0)), (some b5, .cells #[.slice (ownA kyta) n1 ccta, .slice (ownA kyba) n2 ccba, .slice (ownA key301) (zi + 1) c302, .slice (ownA kytb) n1 cctb, .slice (ownA kybb) n2 ccbb, .slice (ownA key319) (zi + 1) c320] 61 (0, 0)), (kyta, sob ETr 34 (rowsOf (trA ws) 0 n1) zzta), (kytb, sob ETr 34 (rowsOf (trB ws) 0 n1) zztb), (kyba, sob ETr 34 (rowsOf (trA ws) (5 * n1) n2) zzba), (kybb, sob ETr 34 (rowsOf (biB ws) (5 * n1) n2) zzbb), (key301, sob EOt 41 (rowsOf (otA ws) (5 * (n1 + n2)) (zi + 1)) sp303), (key319, sob EOt 41 (rowsOf (otB ws) (5 * (n1 + n2)) (zi + 1)) sp321), (some b1, .cells #[.slice none 0 0, .slice none 0 0, .slice none 0 0, .slice none 0 0, .slice none 0 0, .slice none 0 0] 61 (0, 0))]) rfl
          clear H330
          refine wnil ?_
          refine thenNormal ?_
          refine oneRegion ?_
          refine sq (r_move (v := i64 ((5 * (n1 + n2) + 5 * zi : Nat))) rfl) ?_
          refine sq (r_addI (a := (5 * (n1 + n2) + 5 * zi : Nat)) (b := (5 : Int)) rfl rfl (by omega)) ?_
          refine sq (r_assign (v := i64 ((5 * (n1 + n2) + 5 * zi : Nat) + (5 : Int))) rfl) ?_
          refine wnil ?_
          refine blockNormal ?_
          refine thenNormal ?_
          refine oneRegion ?_
          refine sq (r_move (v := i64 ((zi : Nat))) rfl) ?_
          refine sq (r_addI (a := (zi : Nat)) (b := (1 : Int)) rfl rfl (by omega)) ?_
          refine sq (r_assign (v := i64 ((zi : Nat) + (1 : Int))) rfl) ?_
          refine wnil ?_
          refine thenNormal ?_
          exact ⟨(zi + 1, key301, c302, sp303, key319, c320, sp321), _, rfl, ⟨rfl, rfl, rfl, rfl, rfl, rfl, rfl, congrArg i64 (by omega), rfl, trivial⟩, ⟨⟨by omega, hS309, hS327⟩, ((((H330'.dropk 3).dropk 2).dropk 1).dropk 0)⟩, by show n3 - (zi + 1) < n3 - zi; omega⟩
        · skip
          refine oneRegion ?_
          refine sq (r_indexA (off' := 3) (j := 1) arr61 (b := b5) (off := 0) rfl rfl (by first | rfl | omega | (simp; omega)) (by omega) (by omega)) ?_
          refine sq (r_fieldAddr (off' := 5) fld54_2 (by decide) (b := b5) (off := 3) rfl (by omega)) ?_
          refine sq (r_loadC (v := .slice (ownA kyob) zi ccob) one50 (H312'.get (k := 3) rfl) (off := 5) rfl (by rfl)) ?_
          refine sq (r_loadA (cs' := (cel E64 ([(ws).getD (5 * (n1 + n2) + 5 * zi) 0#64, (ws).getD ((5 * (n1 + n2) + 5 * zi) + 1) 0#64])).toArray) agg38 siz38 (H312'.get (k := 2) rfl) (off := 0) rfl (by exact Nat.le_of_ble_eq_true rfl) (by exact ext_all rfl)) ?_
          refine sq (r_buildA (cs' := #[u64 ((ws).getD (5 * (n1 + n2) + 5 * zi) 0#64), u64 ((ws).getD ((5 * (n1 + n2) + 5 * zi) + 1) 0#64), u64 (0#64), u64 (0#64)]) (ps := [(0, .agg (cel E64 ([(ws).getD (5 * (n1 + n2) + 5 * zi) 0#64, (ws).getD ((5 * (n1 + n2) + 5 * zi) + 1) 0#64])).toArray)]) zer39 arr39 rfl (by rfl)) ?_
          refine sq (r_build (cs' := #[u64 ((ws).getD (5 * (n1 + n2) + 5 * zi) 0#64), u64 ((ws).getD ((5 * (n1 + n2) + 5 * zi) + 1) 0#64), u64 (0#64), u64 (0#64), .bool (false)]) (ps := [(0, .agg #[u64 ((ws).getD (5 * (n1 + n2) + 5 * zi) 0#64), u64 ((ws).getD ((5 * (n1 + n2) + 5 * zi) + 1) 0#64), u64 (0#64), u64 (0#64)])]) zer41 pls41 rfl (by rfl)) ?_
          refine q_buildSlice (E := EOt) (l := ([⟨(ws).getD (5 * (n1 + n2) + 5 * zi) 0#64, (ws).getD ((5 * (n1 + n2) + 5 * zi) + 1) 0#64, 0#64, 0#64, false⟩] : List Ot)) H312' sli50 zer41 (Nat.le_of_ble_eq_true rfl) (ps := [(0, .agg #[u64 ((ws).getD (5 * (n1 + n2) + 5 * zi) 0#64), u64 ((ws).getD ((5 * (n1 + n2) + 5 * zi) + 1) 0#64), u64 (0#64), u64 (0#64), .bool (false)])]) rfl (by exact fillAll rfl rfl) rfl ?_
          intro b332 w334 hS333 H335 hE336
          refine q_append (E := EOt) (k := 10) (l := rowsOf (otB ws) (5 * (n1 + n2)) zi) (l2 := ([⟨(ws).getD (5 * (n1 + n2) + 5 * zi) 0#64, (ws).getD ((5 * (n1 + n2) + 5 * zi) + 1) 0#64, 0#64, 0#64, false⟩] : List Ot)) H335 rfl hkyob sli50 zer41 rfl byt41 (H335.rd (k := 0) rfl hS333) rfl (by rw [rowsOf_len]) rfl (by rfl) (by omega) ?_
          intro key337 c338 sp339 w341 hS340 hne343 H342
          have H342' := H342.as (L' := [((some b332), sob EOt 41 ([⟨(ws).getD (5 * (n1 + n2) + 5 * zi) 0#64, (ws).getD ((5 * (n1 + n2) + 5 * zi) + 1) 0#64, 0#64, 0#64, false⟩] : List Ot) ([])), ((some b296), sob EOt 41 ([⟨(ws).getD (5 * (n1 + n2) + 5 * zi) 0#64, (ws).getD ((5 * (n1 + n2) + 5 * zi) + 1) 0#64, (ws).getD ((5 * (n1 + n2) + 5 * zi) + 2) 0#64, (ws).getD ((5 * (n1 + n2) + 5 * zi) + 3) 0#64, false⟩] : List Ot) ([])), (some b253, .cells (cel E64 ([(ws).getD ((5 * (n1 + n2) + 5 * zi) + 2) 0#64, (ws).getD ((5 * (n1 + n2) + 5 * zi) + 3) 0#64])).toArray 38 (0, 0)), (some b243, .cells (cel E64 ([(ws).getD (5 * (n1 + n2) + 5 * zi) 0#64, (ws).getD ((5 * (n1 + n2) + 5 * zi) + 1) 0#64])).toArray 38 (0, 0)), (some b5, .cells #[.slice (ownA kyta) n1 ccta, .slice (ownA kyba) n2 ccba, .slice (ownA key301) (zi + 1) c302, .slice (ownA kytb) n1 cctb, .slice (ownA kybb) n2 ccbb, .slice (ownA kyob) zi ccob] 61 (0, 0)), (kyta, sob ETr 34 (rowsOf (trA ws) 0 n1) zzta), (kytb, sob ETr 34 (rowsOf (trB ws) 0 n1) zztb), (kyba, sob ETr 34 (rowsOf (trA ws) (5 * n1) n2) zzba), (kybb, sob ETr 34 (rowsOf (biB ws) (5 * n1) n2) zzbb), (key301, sob EOt 41 (rowsOf (otA ws) (5 * (n1 + n2)) (zi + 1)) sp303), (key337, sob EOt 41 ((rowsOf (otB ws) (5 * (n1 + n2)) zi) ++ ([⟨(ws).getD (5 * (n1 + n2) + 5 * zi) 0#64, (ws).getD ((5 * (n1 + n2) + 5 * zi) + 1) 0#64, 0#64, 0#64, false⟩] : List Ot)) sp339), (some b1, .cells #[.slice none 0 0, .slice none 0 0, .slice none 0 0, .slice none 0 0, .slice none 0 0, .slice none 0 0] 61 (0, 0))]) rfl
          clear H342
          have e344 : (rowsOf (otB ws) (5 * (n1 + n2)) zi) ++ ([⟨(ws).getD (5 * (n1 + n2) + 5 * zi) 0#64, (ws).getD ((5 * (n1 + n2) + 5 * zi) + 1) 0#64, 0#64, 0#64, false⟩] : List Ot) = rowsOf (otB ws) (5 * (n1 + n2)) (zi + 1) := by rw [rowsOf_succ, otB_f (by rw [odd_mod]; exact c252)]; rfl
          have hS345 := hS340
          rw [e344] at hS345
          have H346 := H342'.as (L' := [((some b332), sob EOt 41 ([⟨(ws).getD (5 * (n1 + n2) + 5 * zi) 0#64, (ws).getD ((5 * (n1 + n2) + 5 * zi) + 1) 0#64, 0#64, 0#64, false⟩] : List Ot) ([])), ((some b296), sob EOt 41 ([⟨(ws).getD (5 * (n1 + n2) + 5 * zi) 0#64, (ws).getD ((5 * (n1 + n2) + 5 * zi) + 1) 0#64, (ws).getD ((5 * (n1 + n2) + 5 * zi) + 2) 0#64, (ws).getD ((5 * (n1 + n2) + 5 * zi) + 3) 0#64, false⟩] : List Ot) ([])), (some b253, .cells (cel E64 ([(ws).getD ((5 * (n1 + n2) + 5 * zi) + 2) 0#64, (ws).getD ((5 * (n1 + n2) + 5 * zi) + 3) 0#64])).toArray 38 (0, 0)), (some b243, .cells (cel E64 ([(ws).getD (5 * (n1 + n2) + 5 * zi) 0#64, (ws).getD ((5 * (n1 + n2) + 5 * zi) + 1) 0#64])).toArray 38 (0, 0)), (some b5, .cells #[.slice (ownA kyta) n1 ccta, .slice (ownA kyba) n2 ccba, .slice (ownA key301) (zi + 1) c302, .slice (ownA kytb) n1 cctb, .slice (ownA kybb) n2 ccbb, .slice (ownA kyob) zi ccob] 61 (0, 0)), (kyta, sob ETr 34 (rowsOf (trA ws) 0 n1) zzta), (kytb, sob ETr 34 (rowsOf (trB ws) 0 n1) zztb), (kyba, sob ETr 34 (rowsOf (trA ws) (5 * n1) n2) zzba), (kybb, sob ETr 34 (rowsOf (biB ws) (5 * n1) n2) zzbb), (key301, sob EOt 41 (rowsOf (otA ws) (5 * (n1 + n2)) (zi + 1)) sp303), (key337, sob EOt 41 (rowsOf (otB ws) (5 * (n1 + n2)) (zi + 1)) sp339), (some b1, .cells #[.slice none 0 0, .slice none 0 0, .slice none 0 0, .slice none 0 0, .slice none 0 0, .slice none 0 0] 61 (0, 0))]) (by rw [e344])
          refine sq (r_indexA (off' := 3) (j := 1) arr61 (b := b5) (off := 0) rfl rfl (by first | rfl | omega | (simp; omega)) (by omega) (by omega)) ?_
          refine sq (r_fieldAddr (off' := 5) fld54_2 (by decide) (b := b5) (off := 3) rfl (by omega)) ?_
          refine d_store (k := 4) (v := .slice (ownA key337) (zi + 1) c338) (cs' := #[.slice (ownA kyta) n1 ccta, .slice (ownA kyba) n2 ccba, .slice (ownA key301) (zi + 1) c302, .slice (ownA kytb) n1 cctb, .slice (ownA kybb) n2 ccbb, .slice (ownA key337) (zi + 1) c338]) H346 rfl rfl rfl siz50 (by rfl) (by intro u hu; simp [Value.cells] at hu; first | (subst hu; rfl) | (rcases hu with rfl <;> rfl)) (by exact Nat.le_of_ble_eq_true rfl) (by rfl) ?_
          intro w347 H348 hC349
          have H348' := H348.as (L' := [((some b332), sob EOt 41 ([⟨(ws).getD (5 * (n1 + n2) + 5 * zi) 0#64, (ws).getD ((5 * (n1 + n2) + 5 * zi) + 1) 0#64, 0#64, 0#64, false⟩] : List Ot) ([])), ((some b296), sob EOt 41 ([⟨(ws).getD (5 * (n1 + n2) + 5 * zi) 0#64, (ws).getD ((5 * (n1 + n2) + 5 * zi) + 1) 0#64, (ws).getD ((5 * (n1 + n2) + 5 * zi) + 2) 0#64, (ws).getD ((5 * (n1 + n2) + 5 * zi) + 3) 0#64, false⟩] : List Ot) ([])), (some b253, .cells (cel E64 ([(ws).getD ((5 * (n1 + n2) + 5 * zi) + 2) 0#64, (ws).getD ((5 * (n1 + n2) + 5 * zi) + 3) 0#64])).toArray 38 (0, 0)), (some b243, .cells (cel E64 ([(ws).getD (5 * (n1 + n2) + 5 * zi) 0#64, (ws).getD ((5 * (n1 + n2) + 5 * zi) + 1) 0#64])).toArray 38 (0, 0)), (some b5, .cells #[.slice (ownA kyta) n1 ccta, .slice (ownA kyba) n2 ccba, .slice (ownA key301) (zi + 1) c302, .slice (ownA kytb) n1 cctb, .slice (ownA kybb) n2 ccbb, .slice (ownA key337) (zi + 1) c338] 61 (0, 0)), (kyta, sob ETr 34 (rowsOf (trA ws) 0 n1) zzta), (kytb, sob ETr 34 (rowsOf (trB ws) 0 n1) zztb), (kyba, sob ETr 34 (rowsOf (trA ws) (5 * n1) n2) zzba), (kybb, sob ETr 34 (rowsOf (biB ws) (5 * n1) n2) zzbb), (key301, sob EOt 41 (rowsOf (otA ws) (5 * (n1 + n2)) (zi + 1)) sp303), (key337, sob EOt 41 (rowsOf (otB ws) (5 * (n1 + n2)) (zi + 1)) sp339), (some b1, .cells #[.slice none 0 0, .slice none 0 0, .slice none 0 0, .slice none 0 0, .slice none 0 0, .slice none 0 0] 61 (0, 0))]) rfl
          clear H348
          refine wnil ?_
          refine thenNormal ?_
          refine oneRegion ?_
          refine sq (r_move (v := i64 ((5 * (n1 + n2) + 5 * zi : Nat))) rfl) ?_
          refine sq (r_addI (a := (5 * (n1 + n2) + 5 * zi : Nat)) (b := (5 : Int)) rfl rfl (by omega)) ?_
          refine sq (r_assign (v := i64 ((5 * (n1 + n2) + 5 * zi : Nat) + (5 : Int))) rfl) ?_
          refine wnil ?_
          refine blockNormal ?_
          refine thenNormal ?_
          refine oneRegion ?_
          refine sq (r_move (v := i64 ((zi : Nat))) rfl) ?_
          refine sq (r_addI (a := (zi : Nat)) (b := (1 : Int)) rfl rfl (by omega)) ?_
          refine sq (r_assign (v := i64 ((zi : Nat) + (1 : Int))) rfl) ?_
          refine wnil ?_
          refine thenNormal ?_
          exact ⟨(zi + 1, key301, c302, sp303, key337, c338, sp339), _, rfl, ⟨rfl, rfl, rfl, rfl, rfl, rfl, rfl, congrArg i64 (by omega), rfl, trivial⟩, ⟨⟨by omega, hS309, hS345⟩, ((((H348'.dropk 3).dropk 2).dropk 1).dropk 0)⟩, by show n3 - (zi + 1) < n3 - zi; omega⟩
      · skip
        obtain rfl : n3 = zi := by omega
        refine exitAny ?_
        refine thenExit ?_
        refine thenExit ?_
        refine blockHere ?_
        refine thenNormal ?_
        refine seqRegion ?_
        refine sq (r_loadA (cs' := #[.slice (ownA kyta) n1 ccta, .slice (ownA kyba) n2 ccba, .slice (ownA kyoa) n3 ccoa, .slice (ownA kytb) n1 cctb, .slice (ownA kybb) n2 ccbb, .slice (ownA kyob) n3 ccob]) agg61 siz61 (HL2.get (k := 0) rfl) (off := 0) rfl (by exact Nat.le_of_ble_eq_true rfl) (by rfl)) ?_
        refine d_store (k := 7) (v := .agg #[.slice (ownA kyta) n1 ccta, .slice (ownA kyba) n2 ccba, .slice (ownA kyoa) n3 ccoa, .slice (ownA kytb) n1 cctb, .slice (ownA kybb) n2 ccbb, .slice (ownA kyob) n3 ccob]) (cs' := #[.slice (ownA kyta) n1 ccta, .slice (ownA kyba) n2 ccba, .slice (ownA kyoa) n3 ccoa, .slice (ownA kytb) n1 cctb, .slice (ownA kybb) n2 ccbb, .slice (ownA kyob) n3 ccob]) HL2 rfl rfl rfl siz61 (by rfl) (by intro u hu; simp [Value.cells] at hu; first | (subst hu; rfl) | (rcases hu with rfl | rfl | rfl | rfl | rfl | rfl <;> rfl)) (by exact Nat.le_of_ble_eq_true rfl) (by rfl) ?_
        intro w350 H351 hC352
        have H351' := H351.as (L' := [(some b5, .cells #[.slice (ownA kyta) n1 ccta, .slice (ownA kyba) n2 ccba, .slice (ownA kyoa) n3 ccoa, .slice (ownA kytb) n1 cctb, .slice (ownA kybb) n2 ccbb, .slice (ownA kyob) n3 ccob] 61 (0, 0)), (kyta, sob ETr 34 (rowsOf (trA ws) 0 n1) zzta), (kytb, sob ETr 34 (rowsOf (trB ws) 0 n1) zztb), (kyba, sob ETr 34 (rowsOf (trA ws) (5 * n1) n2) zzba), (kybb, sob ETr 34 (rowsOf (biB ws) (5 * n1) n2) zzbb), (kyoa, sob EOt 41 (rowsOf (otA ws) (5 * (n1 + n2)) n3) zzoa), (kyob, sob EOt 41 (rowsOf (otB ws) (5 * (n1 + n2)) n3) zzob), (some b1, .cells #[.slice (ownA kyta) n1 ccta, .slice (ownA kyba) n2 ccba, .slice (ownA kyoa) n3 ccoa, .slice (ownA kytb) n1 cctb, .slice (ownA kybb) n2 ccbb, .slice (ownA kyob) n3 ccob] 61 (0, 0))]) rfl
        clear H351
        refine sq (r_assign (v := i64 ((0 : Int))) rfl) ?_
        refine wend ?_
        refine retAny ?_
        refine retG (rs := [.cell 8 61, .tmp 9]) (vs := [.agg #[.slice (ownA kyta) n1 ccta, .slice (ownA kyba) n2 ccba, .slice (ownA kyoa) n3 ccoa, .slice (ownA kytb) n1 cctb, .slice (ownA kybb) n2 ccbb, .slice (ownA kyob) n3 ccob], i64 ((0 : Int))]) rfl ⟨r_loadA (cs' := #[.slice (ownA kyta) n1 ccta, .slice (ownA kyba) n2 ccba, .slice (ownA kyoa) n3 ccoa, .slice (ownA kytb) n1 cctb, .slice (ownA kybb) n2 ccbb, .slice (ownA kyob) n3 ccob]) agg61 siz61 (H351'.get (k := 7) rfl) (off := 0) rfl (by exact Nat.le_of_ble_eq_true rfl) (by rfl), ⟨rfl, rfl⟩, trivial⟩ ?_
        refine ⟨_, rfl, kyta, ccta, zzta, kyba, ccba, zzba, kyoa, ccoa, zzoa, kytb, cctb, zztb, kybb, ccbb, zzbb, kyob, ccob, zzob, by simp only [rowsOf_len]; rfl, hkyta, hkyba, hkyoa, hkytb, hkybb, hkyob, (H351'.pick 8 [1, 3, 5, 2, 4, 6] (by decide) (by decide))⟩

theorem rdeal_range (ws : List (BitVec 64)) (wa : Option Addr) (wc : Nat) (x1 x2 x3 : Int) (w : World) (hbad : ¬ ((0 ≤ x1 ∧ x1 ≤ 65536) ∧ (0 ≤ x2 ∧ x2 ≤ 65536) ∧ (0 ≤ x3 ∧ x3 ≤ 65536))) : Calls Tryd.prog 25 [.slice wa ws.length wc, i64 (x1), i64 (x2), i64 (x3)].toArray w (Ret fun v w' => v = .tuple #[.agg #[.slice none 0 0, .slice none 0 0, .slice none 0 0, .slice none 0 0, .slice none 0 0, .slice none 0 0], i64 (1 : Int)] ∧ Ext w w') := by
  have H := Hp.start No w
  refine enter (n := 276) Tryd.func25 rfl rfl (Nat.le_of_ble_eq_true rfl) ?_
  refine seqRegion ?_
  refine q_alloc (o := .cells #[.slice none 0 0, .slice none 0 0, .slice none 0 0, .slice none 0 0, .slice none 0 0, .slice none 0 0] 61 (0, 0)) H zer61 (by kernel_rfl) ?_
  intro b1 w2 hb1 H3 hE4
  refine sq (r_assign (v := i64 ((0 : Int))) rfl) ?_
  refine wend ?_
  refine seqRegion ?_
  refine sq (r_buildA (cs' := #[.slice none 0 0, .slice none 0 0, .slice none 0 0, .slice none 0 0, .slice none 0 0, .slice none 0 0]) (ps := []) zer61 arr61 rfl (by rfl)) ?_
  refine q_alloc (o := .cells #[.slice none 0 0, .slice none 0 0, .slice none 0 0, .slice none 0 0, .slice none 0 0, .slice none 0 0] 61 (0, 0)) H3 zer61 (by kernel_rfl) ?_
  intro b5 w6 hb5 H7 hE8
  refine d_store (k := 0) (v := .agg #[.slice none 0 0, .slice none 0 0, .slice none 0 0, .slice none 0 0, .slice none 0 0, .slice none 0 0]) (cs' := #[.slice none 0 0, .slice none 0 0, .slice none 0 0, .slice none 0 0, .slice none 0 0, .slice none 0 0]) H7 rfl rfl rfl siz61 (by rfl) (by intro u hu; simp [Value.cells] at hu; first | (subst hu; rfl) | (rcases hu with rfl | rfl | rfl | rfl | rfl | rfl <;> rfl)) (by exact Nat.le_of_ble_eq_true rfl) (by rfl) ?_
  intro w9 H10 hC11
  have H10' := H10.as (L' := [(some b5, .cells #[.slice none 0 0, .slice none 0 0, .slice none 0 0, .slice none 0 0, .slice none 0 0, .slice none 0 0] 61 (0, 0)), (some b1, .cells #[.slice none 0 0, .slice none 0 0, .slice none 0 0, .slice none 0 0, .slice none 0 0, .slice none 0 0] 61 (0, 0))]) rfl
  clear H10
  refine wend ?_
  refine seqAny ?_
  refine seqRegion ?_
  refine sq (r_move (v := i64 (x1)) rfl) ?_
  refine sq (r_lssI (a := x1) (b := (0 : Int)) rfl rfl) ?_
  refine sq (r_move (v := .bool (decide ((x1 : Int) < (0 : Int)))) rfl) ?_
  by_cases g12 : (x1 : Int) < (0 : Int)
  · skip
    refine skAny (wantedSome (d' := 24) (b := true) rfl rfl (congrArg Value.bool (decide_eq_true g12))) ?_
    refine skAny (wantedSome (d' := 24) (b := true) rfl rfl (congrArg Value.bool (decide_eq_true g12))) ?_
    refine sq (r_pickT (u := .bool (true)) (congrArg Value.bool (decide_eq_true g12)) rfl) ?_
    refine sq (r_move (v := .bool (true)) rfl) ?_
    refine skAny (wantedSome (d' := 28) (b := true) rfl rfl rfl) ?_
    refine skAny (wantedSome (d' := 28) (b := true) rfl rfl rfl) ?_
    refine sq (r_pickT (u := .bool (true)) rfl rfl) ?_
    refine sq (r_move (v := .bool (true)) rfl) ?_
    refine skAny (wantedSome (d' := 32) (b := true) rfl rfl rfl) ?_
    refine skAny (wantedSome (d' := 32) (b := true) rfl rfl rfl) ?_
    refine sq (r_pickT (u := .bool (true)) rfl rfl) ?_
    refine sq (r_move (v := .bool (true)) rfl) ?_
    refine skAny (wantedSome (d' := 36) (b := true) rfl rfl rfl) ?_
    refine skAny (wantedSome (d' := 36) (b := true) rfl rfl rfl) ?_
    refine sq (r_pickT (u := .bool (true)) rfl rfl) ?_
    refine sq (r_move (v := .bool (true)) rfl) ?_
    refine skAny (wantedSome (d' := 40) (b := true) rfl rfl rfl) ?_
    refine skAny (wantedSome (d' := 40) (b := true) rfl rfl rfl) ?_
    refine sq (r_pickT (u := .bool (true)) rfl rfl) ?_
    refine wend ?_
    refine condTrue rfl ?_
    refine seqRegion ?_
    refine sq (r_loadA (cs' := #[.slice none 0 0, .slice none 0 0, .slice none 0 0, .slice none 0 0, .slice none 0 0, .slice none 0 0]) agg61 siz61 (H10'.get (k := 0) rfl) (off := 0) rfl (by exact Nat.le_of_ble_eq_true rfl) (by rfl)) ?_
    refine d_store (k := 1) (v := .agg #[.slice none 0 0, .slice none 0 0, .slice none 0 0, .slice none 0 0, .slice none 0 0, .slice none 0 0]) (cs' := #[.slice none 0 0, .slice none 0 0, .slice none 0 0, .slice none 0 0, .slice none 0 0, .slice none 0 0]) H10' rfl rfl rfl siz61 (by rfl) (by intro u hu; simp [Value.cells] at hu; first | (subst hu; rfl) | (rcases hu with rfl | rfl | rfl | rfl | rfl | rfl <;> rfl)) (by exact Nat.le_of_ble_eq_true rfl) (by rfl) ?_
    intro w13 H14 hC15
    have H14' := H14.as (L' := [(some b5, .cells #[.slice none 0 0, .slice none 0 0, .slice none 0 0, .slice none 0 0, .slice none 0 0, .slice none 0 0] 61 (0, 0)), (some b1, .cells #[.slice none 0 0, .slice none 0 0, .slice none 0 0, .slice none 0 0, .slice none 0 0, .slice none 0 0] 61 (0, 0))]) rfl
    clear H14
    refine sq (r_assign (v := i64 ((1 : Int))) rfl) ?_
    refine wend ?_
    refine retAny ?_
    refine thenRet ?_
    refine retG (rs := [.cell 8 61, .tmp 9]) (vs := [.agg #[.slice none 0 0, .slice none 0 0, .slice none 0 0, .slice none 0 0, .slice none 0 0, .slice none 0 0], i64 ((1 : Int))]) rfl ⟨r_loadA (cs' := #[.slice none 0 0, .slice none 0 0, .slice none 0 0, .slice none 0 0, .slice none 0 0, .slice none 0 0]) agg61 siz61 (H14'.get (k := 1) rfl) (off := 0) rfl (by exact Nat.le_of_ble_eq_true rfl) (by rfl), ⟨rfl, rfl⟩, trivial⟩ ?_
    exact ⟨_, rfl, rfl, H14'.chg⟩
  · skip
    refine sqAny (v := i64 (x1)) (w' := w9) (wantedSome (d' := 24) (b := false) rfl rfl (congrArg Value.bool (decide_eq_false g12))) (r_move (v := i64 (x1)) rfl) ?_
    refine sqAny (v := .bool (decide (((65536 : Int) : Int) < x1))) (w' := w9) (wantedSome (d' := 24) (b := false) rfl rfl (congrArg Value.bool (decide_eq_false g12))) (r_gtrI (a := x1) (b := (65536 : Int)) rfl rfl) ?_
    refine sq (r_pickF (v := .bool (decide (((65536 : Int) : Int) < x1))) (congrArg Value.bool (decide_eq_false g12)) rfl) ?_
    refine sq (r_move (v := .bool (decide (((65536 : Int) : Int) < x1))) rfl) ?_
    by_cases g16 : ((65536 : Int) : Int) < x1
    · skip
      refine skAny (wantedSome (d' := 28) (b := true) rfl rfl (congrArg Value.bool (decide_eq_true g16))) ?_
      refine skAny (wantedSome (d' := 28) (b := true) rfl rfl (congrArg Value.bool (decide_eq_true g16))) ?_
      refine sq (r_pickT (u := .bool (true)) (congrArg Value.bool (decide_eq_true g16)) rfl) ?_
      refine sq (r_move (v := .bool (true)) rfl) ?_
      refine skAny (wantedSome (d' := 32) (b := true) rfl rfl rfl) ?_
      refine skAny (wantedSome (d' := 32) (b := true) rfl rfl rfl) ?_
      refine sq (r_pickT (u := .bool (true)) rfl rfl) ?_
      refine sq (r_move (v := .bool (true)) rfl) ?_
      refine skAny (wantedSome (d' := 36) (b := true) rfl rfl rfl) ?_
      refine skAny (wantedSome (d' := 36) (b := true) rfl rfl rfl) ?_
      refine sq (r_pickT (u := .bool (true)) rfl rfl) ?_
      refine sq (r_move (v := .bool (true)) rfl) ?_
      refine skAny (wantedSome (d' := 40) (b := true) rfl rfl rfl) ?_
      refine skAny (wantedSome (d' := 40) (b := true) rfl rfl rfl) ?_
      refine sq (r_pickT (u := .bool (true)) rfl rfl) ?_
      refine wend ?_
      refine condTrue rfl ?_
      refine seqRegion ?_
      refine sq (r_loadA (cs' := #[.slice none 0 0, .slice none 0 0, .slice none 0 0, .slice none 0 0, .slice none 0 0, .slice none 0 0]) agg61 siz61 (H10'.get (k := 0) rfl) (off := 0) rfl (by exact Nat.le_of_ble_eq_true rfl) (by rfl)) ?_
      refine d_store (k := 1) (v := .agg #[.slice none 0 0, .slice none 0 0, .slice none 0 0, .slice none 0 0, .slice none 0 0, .slice none 0 0]) (cs' := #[.slice none 0 0, .slice none 0 0, .slice none 0 0, .slice none 0 0, .slice none 0 0, .slice none 0 0]) H10' rfl rfl rfl siz61 (by rfl) (by intro u hu; simp [Value.cells] at hu; first | (subst hu; rfl) | (rcases hu with rfl | rfl | rfl | rfl | rfl | rfl <;> rfl)) (by exact Nat.le_of_ble_eq_true rfl) (by rfl) ?_
      intro w17 H18 hC19
      have H18' := H18.as (L' := [(some b5, .cells #[.slice none 0 0, .slice none 0 0, .slice none 0 0, .slice none 0 0, .slice none 0 0, .slice none 0 0] 61 (0, 0)), (some b1, .cells #[.slice none 0 0, .slice none 0 0, .slice none 0 0, .slice none 0 0, .slice none 0 0, .slice none 0 0] 61 (0, 0))]) rfl
      clear H18
      refine sq (r_assign (v := i64 ((1 : Int))) rfl) ?_
      refine wend ?_
      refine retAny ?_
      refine thenRet ?_
      refine retG (rs := [.cell 8 61, .tmp 9]) (vs := [.agg #[.slice none 0 0, .slice none 0 0, .slice none 0 0, .slice none 0 0, .slice none 0 0, .slice none 0 0], i64 ((1 : Int))]) rfl ⟨r_loadA (cs' := #[.slice none 0 0, .slice none 0 0, .slice none 0 0, .slice none 0 0, .slice none 0 0, .slice none 0 0]) agg61 siz61 (H18'.get (k := 1) rfl) (off := 0) rfl (by exact Nat.le_of_ble_eq_true rfl) (by rfl), ⟨rfl, rfl⟩, trivial⟩ ?_
      exact ⟨_, rfl, rfl, H18'.chg⟩
    · skip
      refine sqAny (v := i64 (x2)) (w' := w9) (wantedSome (d' := 28) (b := false) rfl rfl (congrArg Value.bool (decide_eq_false g16))) (r_move (v := i64 (x2)) rfl) ?_
      refine sqAny (v := .bool (decide ((x2 : Int) < (0 : Int)))) (w' := w9) (wantedSome (d' := 28) (b := false) rfl rfl (congrArg Value.bool (decide_eq_false g16))) (r_lssI (a := x2) (b := (0 : Int)) rfl rfl) ?_
      refine sq (r_pickF (v := .bool (decide ((x2 : Int) < (0 : Int)))) (congrArg Value.bool (decide_eq_false g16)) rfl) ?_
      refine sq (r_move (v := .bool (decide ((x2 : Int) < (0 : Int)))) rfl) ?_
      by_cases g20 : (x2 : Int) < (0 : Int)
      · skip
        refine skAny (wantedSome (d' := 32) (b := true) rfl rfl (congrArg Value.bool (decide_eq_true g20))) ?_
        refine skAny (wantedSome (d' := 32) (b := true) rfl rfl (congrArg Value.bool (decide_eq_true g20))) ?_
        refine sq (r_pickT (u := .bool (true)) (congrArg Value.bool (decide_eq_true g20)) rfl) ?_
        refine sq (r_move (v := .bool (true)) rfl) ?_
        refine skAny (wantedSome (d' := 36) (b := true) rfl rfl rfl) ?_
        refine skAny (wantedSome (d' := 36) (b := true) rfl rfl rfl) ?_
        refine sq (r_pickT (u := .bool (true)) rfl rfl) ?_
        refine sq (r_move (v := .bool (true)) rfl) ?_
        refine skAny (wantedSome (d' := 40) (b := true) rfl rfl rfl) ?_
        refine skAny (wantedSome (d' := 40) (b := true) rfl rfl rfl) ?_
        refine sq (r_pickT (u := .bool (true)) rfl rfl) ?_
        refine wend ?_
        refine condTrue rfl ?_
        refine seqRegion ?_
        refine sq (r_loadA (cs' := #[.slice none 0 0, .slice none 0 0, .slice none 0 0, .slice none 0 0, .slice none 0 0, .slice none 0 0]) agg61 siz61 (H10'.get (k := 0) rfl) (off := 0) rfl (by exact Nat.le_of_ble_eq_true rfl) (by rfl)) ?_
        refine d_store (k := 1) (v := .agg #[.slice none 0 0, .slice none 0 0, .slice none 0 0, .slice none 0 0, .slice none 0 0, .slice none 0 0]) (cs' := #[.slice none 0 0, .slice none 0 0, .slice none 0 0, .slice none 0 0, .slice none 0 0, .slice none 0 0]) H10' rfl rfl rfl siz61 (by rfl) (by intro u hu; simp [Value.cells] at hu; first | (subst hu; rfl) | (rcases hu with rfl | rfl | rfl | rfl | rfl | rfl <;> rfl)) (by exact Nat.le_of_ble_eq_true rfl) (by rfl) ?_
        intro w21 H22 hC23
        have H22' := H22.as (L' := [(some b5, .cells #[.slice none 0 0, .slice none 0 0, .slice none 0 0, .slice none 0 0, .slice none 0 0, .slice none 0 0] 61 (0, 0)), (some b1, .cells #[.slice none 0 0, .slice none 0 0, .slice none 0 0, .slice none 0 0, .slice none 0 0, .slice none 0 0] 61 (0, 0))]) rfl
        clear H22
        refine sq (r_assign (v := i64 ((1 : Int))) rfl) ?_
        refine wend ?_
        refine retAny ?_
        refine thenRet ?_
        refine retG (rs := [.cell 8 61, .tmp 9]) (vs := [.agg #[.slice none 0 0, .slice none 0 0, .slice none 0 0, .slice none 0 0, .slice none 0 0, .slice none 0 0], i64 ((1 : Int))]) rfl ⟨r_loadA (cs' := #[.slice none 0 0, .slice none 0 0, .slice none 0 0, .slice none 0 0, .slice none 0 0, .slice none 0 0]) agg61 siz61 (H22'.get (k := 1) rfl) (off := 0) rfl (by exact Nat.le_of_ble_eq_true rfl) (by rfl), ⟨rfl, rfl⟩, trivial⟩ ?_
        exact ⟨_, rfl, rfl, H22'.chg⟩
      · skip
        refine sqAny (v := i64 (x2)) (w' := w9) (wantedSome (d' := 32) (b := false) rfl rfl (congrArg Value.bool (decide_eq_false g20))) (r_move (v := i64 (x2)) rfl) ?_
        refine sqAny (v := .bool (decide (((65536 : Int) : Int) < x2))) (w' := w9) (wantedSome (d' := 32) (b := false) rfl rfl (congrArg Value.bool (decide_eq_false g20))) (r_gtrI (a := x2) (b := (65536 : Int)) rfl rfl) ?_
        refine sq (r_pickF (v := .bool (decide (((65536 : Int) : Int) < x2))) (congrArg Value.bool (decide_eq_false g20)) rfl) ?_
        refine sq (r_move (v := .bool (decide (((65536 : Int) : Int) < x2))) rfl) ?_
        by_cases g24 : ((65536 : Int) : Int) < x2
        · skip
          refine skAny (wantedSome (d' := 36) (b := true) rfl rfl (congrArg Value.bool (decide_eq_true g24))) ?_
          refine skAny (wantedSome (d' := 36) (b := true) rfl rfl (congrArg Value.bool (decide_eq_true g24))) ?_
          refine sq (r_pickT (u := .bool (true)) (congrArg Value.bool (decide_eq_true g24)) rfl) ?_
          refine sq (r_move (v := .bool (true)) rfl) ?_
          refine skAny (wantedSome (d' := 40) (b := true) rfl rfl rfl) ?_
          refine skAny (wantedSome (d' := 40) (b := true) rfl rfl rfl) ?_
          refine sq (r_pickT (u := .bool (true)) rfl rfl) ?_
          refine wend ?_
          refine condTrue rfl ?_
          refine seqRegion ?_
          refine sq (r_loadA (cs' := #[.slice none 0 0, .slice none 0 0, .slice none 0 0, .slice none 0 0, .slice none 0 0, .slice none 0 0]) agg61 siz61 (H10'.get (k := 0) rfl) (off := 0) rfl (by exact Nat.le_of_ble_eq_true rfl) (by rfl)) ?_
          refine d_store (k := 1) (v := .agg #[.slice none 0 0, .slice none 0 0, .slice none 0 0, .slice none 0 0, .slice none 0 0, .slice none 0 0]) (cs' := #[.slice none 0 0, .slice none 0 0, .slice none 0 0, .slice none 0 0, .slice none 0 0, .slice none 0 0]) H10' rfl rfl rfl siz61 (by rfl) (by intro u hu; simp [Value.cells] at hu; first | (subst hu; rfl) | (rcases hu with rfl | rfl | rfl | rfl | rfl | rfl <;> rfl)) (by exact Nat.le_of_ble_eq_true rfl) (by rfl) ?_
          intro w25 H26 hC27
          have H26' := H26.as (L' := [(some b5, .cells #[.slice none 0 0, .slice none 0 0, .slice none 0 0, .slice none 0 0, .slice none 0 0, .slice none 0 0] 61 (0, 0)), (some b1, .cells #[.slice none 0 0, .slice none 0 0, .slice none 0 0, .slice none 0 0, .slice none 0 0, .slice none 0 0] 61 (0, 0))]) rfl
          clear H26
          refine sq (r_assign (v := i64 ((1 : Int))) rfl) ?_
          refine wend ?_
          refine retAny ?_
          refine thenRet ?_
          refine retG (rs := [.cell 8 61, .tmp 9]) (vs := [.agg #[.slice none 0 0, .slice none 0 0, .slice none 0 0, .slice none 0 0, .slice none 0 0, .slice none 0 0], i64 ((1 : Int))]) rfl ⟨r_loadA (cs' := #[.slice none 0 0, .slice none 0 0, .slice none 0 0, .slice none 0 0, .slice none 0 0, .slice none 0 0]) agg61 siz61 (H26'.get (k := 1) rfl) (off := 0) rfl (by exact Nat.le_of_ble_eq_true rfl) (by rfl), ⟨rfl, rfl⟩, trivial⟩ ?_
          exact ⟨_, rfl, rfl, H26'.chg⟩
        · skip
          refine sqAny (v := i64 (x3)) (w' := w9) (wantedSome (d' := 36) (b := false) rfl rfl (congrArg Value.bool (decide_eq_false g24))) (r_move (v := i64 (x3)) rfl) ?_
          refine sqAny (v := .bool (decide ((x3 : Int) < (0 : Int)))) (w' := w9) (wantedSome (d' := 36) (b := false) rfl rfl (congrArg Value.bool (decide_eq_false g24))) (r_lssI (a := x3) (b := (0 : Int)) rfl rfl) ?_
          refine sq (r_pickF (v := .bool (decide ((x3 : Int) < (0 : Int)))) (congrArg Value.bool (decide_eq_false g24)) rfl) ?_
          refine sq (r_move (v := .bool (decide ((x3 : Int) < (0 : Int)))) rfl) ?_
          by_cases g28 : (x3 : Int) < (0 : Int)
          · skip
            refine skAny (wantedSome (d' := 40) (b := true) rfl rfl (congrArg Value.bool (decide_eq_true g28))) ?_
            refine skAny (wantedSome (d' := 40) (b := true) rfl rfl (congrArg Value.bool (decide_eq_true g28))) ?_
            refine sq (r_pickT (u := .bool (true)) (congrArg Value.bool (decide_eq_true g28)) rfl) ?_
            refine wend ?_
            refine condTrue rfl ?_
            refine seqRegion ?_
            refine sq (r_loadA (cs' := #[.slice none 0 0, .slice none 0 0, .slice none 0 0, .slice none 0 0, .slice none 0 0, .slice none 0 0]) agg61 siz61 (H10'.get (k := 0) rfl) (off := 0) rfl (by exact Nat.le_of_ble_eq_true rfl) (by rfl)) ?_
            refine d_store (k := 1) (v := .agg #[.slice none 0 0, .slice none 0 0, .slice none 0 0, .slice none 0 0, .slice none 0 0, .slice none 0 0]) (cs' := #[.slice none 0 0, .slice none 0 0, .slice none 0 0, .slice none 0 0, .slice none 0 0, .slice none 0 0]) H10' rfl rfl rfl siz61 (by rfl) (by intro u hu; simp [Value.cells] at hu; first | (subst hu; rfl) | (rcases hu with rfl | rfl | rfl | rfl | rfl | rfl <;> rfl)) (by exact Nat.le_of_ble_eq_true rfl) (by rfl) ?_
            intro w29 H30 hC31
            have H30' := H30.as (L' := [(some b5, .cells #[.slice none 0 0, .slice none 0 0, .slice none 0 0, .slice none 0 0, .slice none 0 0, .slice none 0 0] 61 (0, 0)), (some b1, .cells #[.slice none 0 0, .slice none 0 0, .slice none 0 0, .slice none 0 0, .slice none 0 0, .slice none 0 0] 61 (0, 0))]) rfl
            clear H30
            refine sq (r_assign (v := i64 ((1 : Int))) rfl) ?_
            refine wend ?_
            refine retAny ?_
            refine thenRet ?_
            refine retG (rs := [.cell 8 61, .tmp 9]) (vs := [.agg #[.slice none 0 0, .slice none 0 0, .slice none 0 0, .slice none 0 0, .slice none 0 0, .slice none 0 0], i64 ((1 : Int))]) rfl ⟨r_loadA (cs' := #[.slice none 0 0, .slice none 0 0, .slice none 0 0, .slice none 0 0, .slice none 0 0, .slice none 0 0]) agg61 siz61 (H30'.get (k := 1) rfl) (off := 0) rfl (by exact Nat.le_of_ble_eq_true rfl) (by rfl), ⟨rfl, rfl⟩, trivial⟩ ?_
            exact ⟨_, rfl, rfl, H30'.chg⟩
          · skip
            refine sqAny (v := i64 (x3)) (w' := w9) (wantedSome (d' := 40) (b := false) rfl rfl (congrArg Value.bool (decide_eq_false g28))) (r_move (v := i64 (x3)) rfl) ?_
            refine sqAny (v := .bool (decide (((65536 : Int) : Int) < x3))) (w' := w9) (wantedSome (d' := 40) (b := false) rfl rfl (congrArg Value.bool (decide_eq_false g28))) (r_gtrI (a := x3) (b := (65536 : Int)) rfl rfl) ?_
            refine sq (r_pickF (v := .bool (decide (((65536 : Int) : Int) < x3))) (congrArg Value.bool (decide_eq_false g28)) rfl) ?_
            refine wend ?_
            refine condProp (((65536 : Int) : Int) < x3) rfl (fun c43 => ?_) (fun c43 => ?_)
            · skip
              refine seqRegion ?_
              refine sq (r_loadA (cs' := #[.slice none 0 0, .slice none 0 0, .slice none 0 0, .slice none 0 0, .slice none 0 0, .slice none 0 0]) agg61 siz61 (H10'.get (k := 0) rfl) (off := 0) rfl (by exact Nat.le_of_ble_eq_true rfl) (by rfl)) ?_
              refine d_store (k := 1) (v := .agg #[.slice none 0 0, .slice none 0 0, .slice none 0 0, .slice none 0 0, .slice none 0 0, .slice none 0 0]) (cs' := #[.slice none 0 0, .slice none 0 0, .slice none 0 0, .slice none 0 0, .slice none 0 0, .slice none 0 0]) H10' rfl rfl rfl siz61 (by rfl) (by intro u hu; simp [Value.cells] at hu; first | (subst hu; rfl) | (rcases hu with rfl | rfl | rfl | rfl | rfl | rfl <;> rfl)) (by exact Nat.le_of_ble_eq_true rfl) (by rfl) ?_
              intro w32 H33 hC34
              have H33' := H33.as (L' := [(some b5, .cells #[.slice none 0 0, .slice none 0 0, .slice none 0 0, .slice none 0 0, .slice none 0 0, .slice none 0 0] 61 (0, 0)), (some b1, .cells #[.slice none 0 0, .slice none 0 0, .slice none 0 0, .slice none 0 0, .slice none 0 0, .slice none 0 0] 61 (0, 0))]) rfl
              clear H33
              refine sq (r_assign (v := i64 ((1 : Int))) rfl) ?_
              refine wend ?_
              refine retAny ?_
              refine thenRet ?_
              refine retG (rs := [.cell 8 61, .tmp 9]) (vs := [.agg #[.slice none 0 0, .slice none 0 0, .slice none 0 0, .slice none 0 0, .slice none 0 0, .slice none 0 0], i64 ((1 : Int))]) rfl ⟨r_loadA (cs' := #[.slice none 0 0, .slice none 0 0, .slice none 0 0, .slice none 0 0, .slice none 0 0, .slice none 0 0]) agg61 siz61 (H33'.get (k := 1) rfl) (off := 0) rfl (by exact Nat.le_of_ble_eq_true rfl) (by rfl), ⟨rfl, rfl⟩, trivial⟩ ?_
              exact ⟨_, rfl, rfl, H33'.chg⟩
            · skip
              exfalso
              omega

theorem rdeal_short (ws : List (BitVec 64)) (wa : Option Addr) (wc : Nat) (n1 n2 n3 : Nat) (hn1 : n1 ≤ 65536) (hn2 : n2 ≤ 65536) (hn3 : n3 ≤ 65536) (w : World) (hlen : ws.length ≤ 140737488355328) (hfit : ws.length < 5 * (n1 + n2 + n3)) : Calls Tryd.prog 25 [.slice wa ws.length wc, i64 ((n1 : Nat)), i64 ((n2 : Nat)), i64 ((n3 : Nat))].toArray w (Ret fun v w' => v = .tuple #[.agg #[.slice none 0 0, .slice none 0 0, .slice none 0 0, .slice none 0 0, .slice none 0 0, .slice none 0 0], i64 (40 : Int)] ∧ Ext w w') := by
  have H := Hp.start No w
  refine enter (n := 276) Tryd.func25 rfl rfl (Nat.le_of_ble_eq_true rfl) ?_
  refine seqRegion ?_
  refine q_alloc (o := .cells #[.slice none 0 0, .slice none 0 0, .slice none 0 0, .slice none 0 0, .slice none 0 0, .slice none 0 0] 61 (0, 0)) H zer61 (by kernel_rfl) ?_
  intro b1 w2 hb1 H3 hE4
  refine sq (r_assign (v := i64 ((0 : Int))) rfl) ?_
  refine wend ?_
  refine seqRegion ?_
  refine sq (r_buildA (cs' := #[.slice none 0 0, .slice none 0 0, .slice none 0 0, .slice none 0 0, .slice none 0 0, .slice none 0 0]) (ps := []) zer61 arr61 rfl (by rfl)) ?_
  refine q_alloc (o := .cells #[.slice none 0 0, .slice none 0 0, .slice none 0 0, .slice none 0 0, .slice none 0 0, .slice none 0 0] 61 (0, 0)) H3 zer61 (by kernel_rfl) ?_
  intro b5 w6 hb5 H7 hE8
  refine d_store (k := 0) (v := .agg #[.slice none 0 0, .slice none 0 0, .slice none 0 0, .slice none 0 0, .slice none 0 0, .slice none 0 0]) (cs' := #[.slice none 0 0, .slice none 0 0, .slice none 0 0, .slice none 0 0, .slice none 0 0, .slice none 0 0]) H7 rfl rfl rfl siz61 (by rfl) (by intro u hu; simp [Value.cells] at hu; first | (subst hu; rfl) | (rcases hu with rfl | rfl | rfl | rfl | rfl | rfl <;> rfl)) (by exact Nat.le_of_ble_eq_true rfl) (by rfl) ?_
  intro w9 H10 hC11
  have H10' := H10.as (L' := [(some b5, .cells #[.slice none 0 0, .slice none 0 0, .slice none 0 0, .slice none 0 0, .slice none 0 0, .slice none 0 0] 61 (0, 0)), (some b1, .cells #[.slice none 0 0, .slice none 0 0, .slice none 0 0, .slice none 0 0, .slice none 0 0, .slice none 0 0] 61 (0, 0))]) rfl
  clear H10
  refine wend ?_
  refine seqAny ?_
  refine seqRegion ?_
  refine sq (r_move (v := i64 ((n1 : Nat))) rfl) ?_
  refine sq ((r_lssI (a := (n1 : Nat)) (b := (0 : Int)) rfl rfl).as (v' := .bool (false)) (by exact congrArg Value.bool (decide_eq_false (by omega)))) ?_
  refine sq (r_move (v := .bool (false)) rfl) ?_
  refine sqAny (v := i64 ((n1 : Nat))) (w' := w9) (wantedSome (d' := 24) (b := false) rfl rfl rfl) (r_move (v := i64 ((n1 : Nat))) rfl) ?_
  refine sqAny (v := .bool (false)) (w' := w9) (wantedSome (d' := 24) (b := false) rfl rfl rfl) ((r_gtrI (a := (n1 : Nat)) (b := (65536 : Int)) rfl rfl).as (v' := .bool (false)) (by exact congrArg Value.bool (decide_eq_false (by omega)))) ?_
  refine sq (r_pickF (v := .bool (false)) rfl rfl) ?_
  refine sq (r_move (v := .bool (false)) rfl) ?_
  refine sqAny (v := i64 ((n2 : Nat))) (w' := w9) (wantedSome (d' := 28) (b := false) rfl rfl rfl) (r_move (v := i64 ((n2 : Nat))) rfl) ?_
  refine sqAny (v := .bool (false)) (w' := w9) (wantedSome (d' := 28) (b := false) rfl rfl rfl) ((r_lssI (a := (n2 : Nat)) (b := (0 : Int)) rfl rfl).as (v' := .bool (false)) (by exact congrArg Value.bool (decide_eq_false (by omega)))) ?_
  refine sq (r_pickF (v := .bool (false)) rfl rfl) ?_
  refine sq (r_move (v := .bool (false)) rfl) ?_
  refine sqAny (v := i64 ((n2 : Nat))) (w' := w9) (wantedSome (d' := 32) (b := false) rfl rfl rfl) (r_move (v := i64 ((n2 : Nat))) rfl) ?_
  refine sqAny (v := .bool (false)) (w' := w9) (wantedSome (d' := 32) (b := false) rfl rfl rfl) ((r_gtrI (a := (n2 : Nat)) (b := (65536 : Int)) rfl rfl).as (v' := .bool (false)) (by exact congrArg Value.bool (decide_eq_false (by omega)))) ?_
  refine sq (r_pickF (v := .bool (false)) rfl rfl) ?_
  refine sq (r_move (v := .bool (false)) rfl) ?_
  refine sqAny (v := i64 ((n3 : Nat))) (w' := w9) (wantedSome (d' := 36) (b := false) rfl rfl rfl) (r_move (v := i64 ((n3 : Nat))) rfl) ?_
  refine sqAny (v := .bool (false)) (w' := w9) (wantedSome (d' := 36) (b := false) rfl rfl rfl) ((r_lssI (a := (n3 : Nat)) (b := (0 : Int)) rfl rfl).as (v' := .bool (false)) (by exact congrArg Value.bool (decide_eq_false (by omega)))) ?_
  refine sq (r_pickF (v := .bool (false)) rfl rfl) ?_
  refine sq (r_move (v := .bool (false)) rfl) ?_
  refine sqAny (v := i64 ((n3 : Nat))) (w' := w9) (wantedSome (d' := 40) (b := false) rfl rfl rfl) (r_move (v := i64 ((n3 : Nat))) rfl) ?_
  refine sqAny (v := .bool (false)) (w' := w9) (wantedSome (d' := 40) (b := false) rfl rfl rfl) ((r_gtrI (a := (n3 : Nat)) (b := (65536 : Int)) rfl rfl).as (v' := .bool (false)) (by exact congrArg Value.bool (decide_eq_false (by omega)))) ?_
  refine sq (r_pickF (v := .bool (false)) rfl rfl) ?_
  refine wend ?_
  refine condFalse rfl ?_
  refine skipAny ?_
  refine thenNormal ?_
  refine seqAny ?_
  refine seqRegion ?_
  refine sq (r_move (v := .slice wa ws.length wc) rfl) ?_
  refine sq (r_lenS sli22 (a := wa) (m := ws.length) (c := wc) rfl) ?_
  refine sq (r_move (v := i64 ((n1 : Nat))) rfl) ?_
  refine sq (r_move (v := i64 ((n2 : Nat))) rfl) ?_
  refine sq (r_addI (a := (n1 : Nat)) (b := (n2 : Nat)) rfl rfl (by omega)) ?_
  refine sq (r_move (v := i64 ((n3 : Nat))) rfl) ?_
  refine sq (r_addI (a := (n1 : Nat) + (n2 : Nat)) (b := (n3 : Nat)) rfl rfl (by omega)) ?_
  refine sq (r_mulI (a := (5 : Int)) (b := ((n1 : Nat) + (n2 : Nat)) + (n3 : Nat)) rfl rfl (by omega)) ?_
  refine sq ((r_lssI (a := (ws.length : Nat)) (b := (5 : Int) * (((n1 : Nat) + (n2 : Nat)) + (n3 : Nat))) rfl rfl).as (v' := .bool (true)) (by exact congrArg Value.bool (decide_eq_true (by omega)))) ?_
  refine wend ?_
  refine condTrue rfl ?_
  refine seqRegion ?_
  refine sq (r_loadA (cs' := #[.slice none 0 0, .slice none 0 0, .slice none 0 0, .slice none 0 0, .slice none 0 0, .slice none 0 0]) agg61 siz61 (H10'.get (k := 0) rfl) (off := 0) rfl (by exact Nat.le_of_ble_eq_true rfl) (by rfl)) ?_
  refine d_store (k := 1) (v := .agg #[.slice none 0 0, .slice none 0 0, .slice none 0 0, .slice none 0 0, .slice none 0 0, .slice none 0 0]) (cs' := #[.slice none 0 0, .slice none 0 0, .slice none 0 0, .slice none 0 0, .slice none 0 0, .slice none 0 0]) H10' rfl rfl rfl siz61 (by rfl) (by intro u hu; simp [Value.cells] at hu; first | (subst hu; rfl) | (rcases hu with rfl | rfl | rfl | rfl | rfl | rfl <;> rfl)) (by exact Nat.le_of_ble_eq_true rfl) (by rfl) ?_
  intro w12 H13 hC14
  have H13' := H13.as (L' := [(some b5, .cells #[.slice none 0 0, .slice none 0 0, .slice none 0 0, .slice none 0 0, .slice none 0 0, .slice none 0 0] 61 (0, 0)), (some b1, .cells #[.slice none 0 0, .slice none 0 0, .slice none 0 0, .slice none 0 0, .slice none 0 0, .slice none 0 0] 61 (0, 0))]) rfl
  clear H13
  refine sq (r_assign (v := i64 ((40 : Int))) rfl) ?_
  refine wend ?_
  refine retAny ?_
  refine thenRet ?_
  refine retG (rs := [.cell 8 61, .tmp 9]) (vs := [.agg #[.slice none 0 0, .slice none 0 0, .slice none 0 0, .slice none 0 0, .slice none 0 0, .slice none 0 0], i64 ((40 : Int))]) rfl ⟨r_loadA (cs' := #[.slice none 0 0, .slice none 0 0, .slice none 0 0, .slice none 0 0, .slice none 0 0, .slice none 0 0]) agg61 siz61 (H13'.get (k := 1) rfl) (off := 0) rfl (by exact Nat.le_of_ble_eq_true rfl) (by rfl), ⟨rfl, rfl⟩, trivial⟩ ?_
  exact ⟨_, rfl, rfl, H13'.chg⟩
end Go.Proofs.YteofdmdpaejgaaaDoor.Co
