/- The walks of the tapes of words. -/
import Derived.Test.YteofdmdpaejgaaaDoorFault
import Derived.Test.YteofdmdpaejgaaaDoorVcStruct
import Derived.Test.YteofdmdpaejgaaaDoorProg
namespace Go.Proofs.YteofdmdpaejgaaaDoor.Er
open Go Go.Proofs.YteofdmdpaejgaaaDoor.Vc
theorem agg38 : isAgg' Tryd.prog 38 = true := by kernel_rfl
theorem arr38 : arr Tryd.prog 38 = some (2, 1) := by kernel_rfl
theorem byt32 : byt Tryd.prog 32 = some 8 := by kernel_rfl
theorem call63 : callable Tryd.prog 63 = true := by kernel_rfl
theorem call64 : callable Tryd.prog 64 = true := by kernel_rfl
theorem call66 : callable Tryd.prog 66 = true := by kernel_rfl
theorem call97 : callable Tryd.prog 97 = true := by kernel_rfl
theorem fits32 : Fits Tryd.prog 32 E64 := fits64 (by kernel_rfl) (by kernel_rfl)
theorem fld141_0 : fld Tryd.prog 141 0 = some (0, 1, 22) := by kernel_rfl
theorem fld141_1 : fld Tryd.prog 141 1 = some (1, 1, 139) := by kernel_rfl
theorem fld141_2 : fld Tryd.prog 141 2 = some (2, 1, 3) := by kernel_rfl
theorem fld141_3 : fld Tryd.prog 141 3 = some (3, 1, 3) := by kernel_rfl
theorem mixed : Tryd.prog.follows .mixedOrders = true := by kernel_rfl
theorem one139 : isOne Tryd.prog 139 = true := by kernel_rfl
theorem one22 : isOne Tryd.prog 22 = true := by kernel_rfl
theorem one3 : isOne Tryd.prog 3 = true := by kernel_rfl
theorem pls141 : pls Tryd.prog 141 = some #[(0, 1), (1, 1), (2, 1), (3, 1)] := by kernel_rfl
theorem siz3 : siz Tryd.prog 3 = some 1 := by kernel_rfl
theorem siz38 : siz Tryd.prog 38 = some 2 := by kernel_rfl
theorem sli22 : sli Tryd.prog 22 = some (32, 1) := by kernel_rfl
theorem und139 : Tryd.prog.underlying 139 = some (.pointer 215) := by kernel_rfl
theorem und22 : Tryd.prog.underlying 22 = some (.slice 32) := by kernel_rfl
theorem zer141 : zer Tryd.prog 141 = some (.agg #[.slice none 0 0, .pointer none, .int .i64 0, .int .i64 0]) := by kernel_rfl
theorem zer32 : zer Tryd.prog 32 = some (.int .u64 0) := by kernel_rfl
theorem zer38 : zer Tryd.prog 38 = some (.agg (List.replicate 2 (.int .u64 0)).toArray) := by kernel_rfl
theorem clone64_ok (ws : List (BitVec 64)) (hroom : ws.length * 8 ≤ 140737488355328) (a0 : Option Addr) (n0 c0 : Nat) (hn0 : n0 = ws.length) (w : World) (hW : Rd E64 w a0 ws) : Calls Tryd.prog 66 [.slice a0 n0 c0].toArray w (Ret fun v w' => SlRes E64 32 ws w v w' ∧ Ext w w') := by
  subst hn0
  have H := Hp.start No w
  refine enter (n := 8) Tryd.func66 rfl rfl (Nat.le_of_ble_eq_true rfl) ?_
  refine seqRegion ?_
  refine sq (r_assign (v := .slice none 0 0) rfl) ?_
  refine wend ?_
  refine seqAny ?_
  refine seqRegion ?_
  refine sq (r_move (v := .slice a0 ws.length c0) rfl) ?_
  refine sq (r_eqlSN und22 rfl rfl) ?_
  refine wend ?_
  refine condBool (a0.isNone) rfl (fun c4 => ?_) (fun c4 => ?_)
  · skip
    refine seqRegion ?_
    refine sq (r_assign (v := .slice none 0 0) rfl) ?_
    refine wend ?_
    refine retAny ?_
    refine thenRet ?_
    refine retG (rs := [.tmp 2]) (vs := [.slice none 0 0]) rfl ⟨⟨rfl, rfl⟩, trivial⟩ ?_
    obtain rfl := nilOfRd hW c4
    exact ⟨_, rfl, ⟨none, 0, [], rfl, Sl.none, fun _ h => by cases h⟩, H.chg⟩
  · skip
    refine skipAny ?_
    refine thenNormal ?_
    refine seqRegion ?_
    refine q_buildSlice (E := E64) (l := []) H sli22 zer32 (Nat.le_of_ble_eq_true rfl) (ps := []) rfl (by exact fillAll rfl rfl) rfl ?_
    intro b1 w3 hS2 H4 hE5
    refine sq (r_move (v := .slice a0 ws.length c0) rfl) ?_
    refine q_append (E := E64) (k := 0) (l := []) (l2 := ws) H4 rfl hS2 sli22 zer32 rfl byt32 (hW.ext H4.chg) rfl (by rfl) rfl (by rfl) (by omega) ?_
    intro key6 c7 sp8 w10 hS9 hne12 H11
    have H11' := H11.as (L' := [(key6, sob E64 32 (([]) ++ ws) sp8)]) rfl
    clear H11
    have e13 : ([]) ++ ws = ws := by rw [List.nil_append]
    have hS14 := hS9
    rw [e13] at hS14
    have H15 := H11'.as (L' := [(key6, sob E64 32 ws sp8)]) (by rw [e13])
    refine sq (r_assign (v := .slice (ownA key6) (0 + ws.length) c7) rfl) ?_
    refine wend ?_
    refine retAny ?_
    refine retG (rs := [.tmp 2]) (vs := [.slice (ownA key6) (0 + ws.length) c7]) rfl ⟨⟨rfl, rfl⟩, trivial⟩ ?_
    exact ⟨_, rfl, H15.resN (k := 0) rfl hS14 (Nat.zero_add _), H15.chg⟩

theorem load_ok (ws : List (BitVec 64)) (hroom : ws.length * 8 ≤ 140737488355328) (a0 : Option Addr) (n0 c0 : Nat) (hn0 : n0 = ws.length) (w : World) (hW : Rd E64 w a0 ws) : Calls Tryd.prog 17 [.slice a0 n0 c0].toArray w (Ret fun v w' => (∃ b key c sp, v = .pointer (some ⟨b, 0, none⟩) ∧ Sl E64 key ws c sp ∧ Hp No w w' [(some b, .cells #[.slice (ownA key) ws.length c, .pointer none, i64 (ws.length : Nat), i64 (0 : Nat)] 141 (0, 0)), (key, sob E64 32 ws sp)]) ∧ Ext w w') := by
  subst hn0
  have H := Hp.start No w
  refine enter (n := 9) Tryd.func17 rfl rfl (Nat.le_of_ble_eq_true rfl) ?_
  refine seqRegion ?_
  refine sq (r_assign (v := .pointer none) rfl) ?_
  refine wend ?_
  refine seqRegion ?_
  refine sq (r_move (v := .slice a0 ws.length c0) rfl) ?_
  refine c_call (vs := [.slice a0 ws.length c0]) call66 rfl (clone64_ok ws (by omega) a0 ws.length c0 (by rfl) w (hW.ext H.chg)) ?_
  rintro _ w1 ⟨⟨key3, c4, sp5, rfl, hS6, hk7⟩, hE8⟩
  rw [show ws.length = ws.length from rfl]
  have H9 := H.add hE8 hk7
  refine sq (r_move (v := .slice a0 ws.length c0) rfl) ?_
  refine sq (r_lenS sli22 (a := a0) (m := ws.length) (c := c0) rfl) ?_
  refine sq (r_build (cs' := #[.slice (ownA key3) ws.length c4, .pointer none, i64 ((ws.length : Nat)), i64 ((0 : Int))]) (ps := [(0, .slice (ownA key3) ws.length c4), (2, i64 ((ws.length : Nat)))]) zer141 pls141 rfl (by rfl)) ?_
  refine q_box (v := .agg #[.slice (ownA key3) ws.length c4, .pointer none, i64 ((ws.length : Nat)), i64 ((0 : Int))]) (o := .cells #[.slice (ownA key3) ws.length c4, .pointer none, i64 ((ws.length : Nat)), i64 ((0 : Int))] 141 (0, 0)) H9 rfl (by rfl) ?_
  intro b10 w11 hb10 H12 hE13
  refine sq (r_assign (v := .pointer (some ⟨b10, 0, none⟩)) rfl) ?_
  refine wend ?_
  refine retAny ?_
  refine retG (rs := [.tmp 2]) (vs := [.pointer (some ⟨b10, 0, none⟩)]) rfl ⟨⟨rfl, rfl⟩, trivial⟩ ?_
  exact ⟨_, rfl, ⟨b10, key3, c4, sp5, rfl, hS6, H12⟩, H12.chg⟩

theorem used_ok (b n u : Nat) (x0 x1 : Value) (w : World) (hb : w.heap[b]? = some (.cells #[x0, x1, i64 ((n : Nat)), i64 ((u : Nat))] 141 (0, 0))) : Calls Tryd.prog 27 [.pointer (some ⟨b, 0, none⟩)].toArray w (Ret fun v w' => v = i64 (u : Nat) ∧ Ext w w') := by
  have H := Hp.start No w
  refine enter (n := 7) Tryd.func27 rfl rfl (Nat.le_of_ble_eq_true rfl) ?_
  refine seqRegion ?_
  refine sq (r_assign (v := i64 ((0 : Int))) rfl) ?_
  refine wend ?_
  refine seqRegion ?_
  refine sq (r_move (v := .pointer (some ⟨b, 0, none⟩)) rfl) ?_
  refine sq (r_nilCheck rfl) ?_
  refine sq (r_fieldAddr (off' := 3) fld141_3 (by decide) (b := b) (off := 0) rfl (by omega)) ?_
  refine sq (r_loadC (v := i64 ((u : Nat))) one3 (H.keepE hb) (off := 3) rfl (by rfl)) ?_
  refine sq (r_assign (v := i64 ((u : Nat))) rfl) ?_
  refine wend ?_
  refine retAny ?_
  refine retG (rs := [.tmp 2]) (vs := [i64 ((u : Nat))]) rfl ⟨⟨rfl, rfl⟩, trivial⟩ ?_
  exact ⟨_, rfl, rfl, H.chg⟩

theorem left_ok (b n u : Nat) (x0 x1 : Value) (w : World) (hb : w.heap[b]? = some (.cells #[x0, x1, i64 ((n : Nat)), i64 ((u : Nat))] 141 (0, 0))) (hu : u ≤ n) (hn : n ≤ 140737488355328) : Calls Tryd.prog 64 [.pointer (some ⟨b, 0, none⟩)].toArray w (Ret fun v w' => v = i64 ((n : Nat) - (u : Nat)) ∧ Ext w w') := by
  have H := Hp.start No w
  refine enter (n := 12) Tryd.func64 rfl rfl (Nat.le_of_ble_eq_true rfl) ?_
  refine seqRegion ?_
  refine sq (r_assign (v := i64 ((0 : Int))) rfl) ?_
  refine wend ?_
  refine seqAny ?_
  refine drawAny (K := [none, none, none, none, none, none, none, none, none, none]) [0, 1, 3, 7, 0, 16, 48, 112, 255, 511] (fun w' => Ext w w') (fun w' w'' => Ext w' w'') mixed (by kernel_rfl) (Ext.drew _) (fun _ _ h h' => h.trans h') ?_ ?_
  · exact relNone (by decide)
  refine ⟨.pointer (some ⟨b, 0, none⟩), fun _ uw1 hC2 _ => Gives.run rfl (r_move (v := .pointer (some ⟨b, 0, none⟩)) rfl) ⟨rfl, Chg.refl _ _⟩, ?_⟩
  refine ⟨.pointer (some ⟨b, 0, none⟩), fun _ uw3 hC4 _ => Gives.run rfl (r_nilCheck rfl) ⟨rfl, Chg.refl _ _⟩, ?_⟩
  refine ⟨.pointer (some ⟨b, 2, none⟩), fun _ uw5 hC6 _ => Gives.run rfl (r_fieldAddr (off' := 2) fld141_2 (by decide) (b := b) (off := 0) rfl (by omega)) ⟨rfl, Chg.refl _ _⟩, ?_⟩
  refine ⟨i64 ((n : Nat)), fun _ uw7 hC8 _ => Gives.run rfl (r_loadC (v := i64 ((n : Nat))) one3 ((H.ext hC8).keepE hb) (off := 2) rfl (by rfl)) ⟨rfl, Chg.refl _ _⟩, ?_⟩
  refine ⟨.pointer (some ⟨b, 0, none⟩), fun _ uw9 hC10 _ => Gives.run rfl (r_move (v := .pointer (some ⟨b, 0, none⟩)) rfl) ⟨rfl, Chg.refl _ _⟩, ?_⟩
  refine ⟨.pointer (some ⟨b, 0, none⟩), fun _ uw11 hC12 _ => Gives.run rfl (r_nilCheck rfl) ⟨rfl, Chg.refl _ _⟩, ?_⟩
  refine ⟨.pointer (some ⟨b, 3, none⟩), fun _ uw13 hC14 _ => Gives.run rfl (r_fieldAddr (off' := 3) fld141_3 (by decide) (b := b) (off := 0) rfl (by omega)) ⟨rfl, Chg.refl _ _⟩, ?_⟩
  refine ⟨i64 ((u : Nat)), fun _ uw15 hC16 _ => Gives.run rfl (r_loadC (v := i64 ((u : Nat))) one3 ((H.ext hC16).keepE hb) (off := 3) rfl (by rfl)) ⟨rfl, Chg.refl _ _⟩, ?_⟩
  refine ⟨i64 ((n : Nat) - (u : Nat)), fun _ uw17 hC18 _ => Gives.run rfl (r_subI (a := (n : Nat)) (b := (u : Nat)) rfl rfl (by omega)) ⟨rfl, Chg.refl _ _⟩, ?_⟩
  refine ⟨i64 ((n : Nat) - (u : Nat)), fun _ uw19 hC20 _ => Gives.run rfl (r_assign (v := i64 ((n : Nat) - (u : Nat))) rfl) ⟨rfl, Chg.refl _ _⟩, ?_⟩
  intro r24 w21 hE23 hF
  have H22 := H.ext hE23
  refine wnil ?_
  refine thenNormal ?_
  refine retAny ?_
  refine retG (rs := [.tmp 2]) (vs := [i64 ((n : Nat) - (u : Nat))]) rfl ⟨⟨rfl, rfl⟩, trivial⟩ ?_
  exact ⟨_, rfl, rfl, H22.chg⟩

theorem next_hit (b c u : Nat) (a : Option Addr) (ws : List (BitVec 64)) (w : World) (hb : w.heap[b]? = some (.cells #[.slice a ws.length c, .pointer none, i64 ((ws.length : Nat)), i64 ((u : Nat))] 141 (0, 0))) (hR : ∀ w', Chg (· = b) w w' → Rd E64 w' a ws) (hlen : ws.length ≤ 140737488355328) (hu : u < ws.length) : Calls Tryd.prog 97 [.pointer (some ⟨b, 0, none⟩)].toArray w (Ret fun v w' => v = .tuple #[u64 (ws.getD u 0#64), .nilIface] ∧ Chg (· = b) w w' ∧ w'.heap[b]? = some (.cells #[.slice a ws.length c, .pointer none, i64 ((ws.length : Nat)), i64 ((u + 1 : Nat))] 141 (0, 0))) := by
  have H := Hp.start1 (M := (· = b)) rfl hb
  refine enter (n := 50) Tryd.func97 rfl rfl (Nat.le_of_ble_eq_true rfl) ?_
  refine seqRegion ?_
  refine sq (r_assign (v := u64 (0#64)) rfl) ?_
  refine sq (r_assign (v := .nilIface) rfl) ?_
  refine wend ?_
  refine seqAny ?_
  refine seqAny ?_
  refine drawAny (K := [none, none, none, none, none, none, none, none, none]) [0, 1, 3, 7, 0, 16, 48, 112, 255] (fun w' => Ext w w') (fun w' w'' => Ext w' w'') mixed (by kernel_rfl) (Ext.drew _) (fun _ _ h h' => h.trans h') ?_ ?_
  · exact relNone (by decide)
  refine ⟨.pointer (some ⟨b, 0, none⟩), fun _ uw1 hC2 _ => Gives.run rfl (r_move (v := .pointer (some ⟨b, 0, none⟩)) rfl) ⟨rfl, Chg.refl _ _⟩, ?_⟩
  refine ⟨.pointer (some ⟨b, 0, none⟩), fun _ uw3 hC4 _ => Gives.run rfl (r_nilCheck rfl) ⟨rfl, Chg.refl _ _⟩, ?_⟩
  refine ⟨.pointer (some ⟨b, 3, none⟩), fun _ uw5 hC6 _ => Gives.run rfl (r_fieldAddr (off' := 3) fld141_3 (by decide) (b := b) (off := 0) rfl (by omega)) ⟨rfl, Chg.refl _ _⟩, ?_⟩
  refine ⟨i64 ((u : Nat)), fun _ uw7 hC8 _ => Gives.run rfl (r_loadC (v := i64 ((u : Nat))) one3 ((H.ext hC8).get (k := 0) rfl) (off := 3) rfl (by rfl)) ⟨rfl, Chg.refl _ _⟩, ?_⟩
  refine ⟨.pointer (some ⟨b, 0, none⟩), fun _ uw9 hC10 _ => Gives.run rfl (r_move (v := .pointer (some ⟨b, 0, none⟩)) rfl) ⟨rfl, Chg.refl _ _⟩, ?_⟩
  refine ⟨.pointer (some ⟨b, 0, none⟩), fun _ uw11 hC12 _ => Gives.run rfl (r_nilCheck rfl) ⟨rfl, Chg.refl _ _⟩, ?_⟩
  refine ⟨.pointer (some ⟨b, 2, none⟩), fun _ uw13 hC14 _ => Gives.run rfl (r_fieldAddr (off' := 2) fld141_2 (by decide) (b := b) (off := 0) rfl (by omega)) ⟨rfl, Chg.refl _ _⟩, ?_⟩
  refine ⟨i64 ((ws.length : Nat)), fun _ uw15 hC16 _ => Gives.run rfl (r_loadC (v := i64 ((ws.length : Nat))) one3 ((H.ext hC16).get (k := 0) rfl) (off := 2) rfl (by rfl)) ⟨rfl, Chg.refl _ _⟩, ?_⟩
  refine ⟨.bool (decide (((ws.length : Nat) : Int) ≤ (u : Nat))), fun _ uw17 hC18 _ => Gives.run rfl (r_geqI (a := (u : Nat)) (b := (ws.length : Nat)) rfl rfl) ⟨rfl, Chg.refl _ _⟩, ?_⟩
  intro r22 w19 hE21 hF
  have H20 := H.ext hE21
  refine wnil ?_
  refine thenNormal ?_
  refine condProp (((ws.length : Nat) : Int) ≤ (u : Nat)) rfl (fun c13 => ?_) (fun c13 => ?_)
  · skip
    exfalso
    omega
  · skip
    refine skipAny ?_
    refine thenNormal ?_
    refine seqRegion ?_
    refine sq (r_move (v := .pointer (some ⟨b, 0, none⟩)) rfl) ?_
    refine sq (r_nilCheck rfl) ?_
    refine sq (r_fieldAddr (off' := 3) fld141_3 (by decide) (b := b) (off := 0) rfl (by omega)) ?_
    refine sq (r_loadC (v := i64 ((u : Nat))) one3 (H20.get (k := 0) rfl) (off := 3) rfl (by rfl)) ?_
    refine sq (r_assign (v := i64 ((u : Nat))) rfl) ?_
    refine wend ?_
    refine seqRegion ?_
    refine sq (r_move (v := .pointer (some ⟨b, 0, none⟩)) rfl) ?_
    refine sq (r_nilCheck rfl) ?_
    refine sq (r_fieldAddr (off' := 3) fld141_3 (by decide) (b := b) (off := 0) rfl (by omega)) ?_
    refine sq (r_loadC (v := i64 ((u : Nat))) one3 (H20.get (k := 0) rfl) (off := 3) rfl (by rfl)) ?_
    refine sq (r_addI (a := (u : Nat)) (b := (1 : Int)) rfl rfl (by omega)) ?_
    refine sq (r_nilCheck rfl) ?_
    refine sq (r_fieldAddr (off' := 3) fld141_3 (by decide) (b := b) (off := 0) rfl (by omega)) ?_
    refine d_store (k := 0) (v := i64 ((u : Nat) + (1 : Int))) (cs' := #[.slice a ws.length c, .pointer none, i64 ((ws.length : Nat)), i64 ((u : Nat) + (1 : Int))]) H20 rfl rfl rfl siz3 (by rfl) (by exact EI.one _) (by exact Nat.le_of_ble_eq_true rfl) (by rfl) ?_
    intro w23 H24 hC25
    have H24' := H24.as (L' := [(some b, .cells #[.slice a ws.length c, .pointer none, i64 ((ws.length : Nat)), i64 ((u : Nat) + (1 : Int))] 141 (0, 0))]) rfl
    clear H24
    refine wend ?_
    refine seqAny ?_
    refine seqRegion ?_
    refine sq (r_move (v := .pointer (some ⟨b, 0, none⟩)) rfl) ?_
    refine sq (r_nilCheck rfl) ?_
    refine sq (r_fieldAddr (off' := 1) fld141_1 (by decide) (b := b) (off := 0) rfl (by omega)) ?_
    refine sq (r_loadC (v := .pointer none) one139 (H24'.get (k := 0) rfl) (off := 1) rfl (by rfl)) ?_
    refine sq (r_neqPO und139 rfl rfl) ?_
    refine wend ?_
    refine condFalse rfl ?_
    refine skipAny ?_
    refine thenNormal ?_
    refine seqRegion ?_
    refine sq (r_move (v := .pointer (some ⟨b, 0, none⟩)) rfl) ?_
    refine sq (r_nilCheck rfl) ?_
    refine sq (r_fieldAddr (off' := 0) fld141_0 (by decide) (b := b) (off := 0) rfl (by omega)) ?_
    refine sq (r_loadC (v := .slice a ws.length c) one22 (H24'.get (k := 0) rfl) (off := 0) rfl (by rfl)) ?_
    refine sq (r_move (v := i64 ((u : Nat))) rfl) ?_
    refine sq (r_idxS (E := E64) (l := ws) (j := u) sli22 (hR _ H24'.chg) rfl rfl (by first | rfl | omega | (simp; omega)) (by rfl) (by omega)) ?_
    refine sq (r_ldS (E := E64) (l := ws) (j := u) (v := (ws).getD u 0#64) fits32 (hR _ H24'.chg) rfl rfl (at_getD (by omega))) ?_
    refine sq (r_assign (v := u64 ((ws).getD u 0#64)) rfl) ?_
    refine sq (r_assign (v := .nilIface) rfl) ?_
    refine wend ?_
    refine retAny ?_
    refine retG (rs := [.tmp 2, .tmp 3]) (vs := [u64 ((ws).getD u 0#64), .nilIface]) rfl ⟨⟨rfl, rfl⟩, ⟨rfl, rfl⟩, trivial⟩ ?_
    exact ⟨_, rfl, rfl, H24'.chg, H24'.get (k := 0) rfl⟩

theorem next_end (b n u : Nat) (x0 x1 : Value) (w : World) (hG : Gl w) (hb : w.heap[b]? = some (.cells #[x0, x1, i64 ((n : Nat)), i64 ((u : Nat))] 141 (0, 0))) (hu : n ≤ u) : Calls Tryd.prog 97 [.pointer (some ⟨b, 0, none⟩)].toArray w (Ret fun v w' => (∃ ev, v = .tuple #[u64 0#64, ev] ∧ Er w.heap.size w' 40 1 ev) ∧ Ext w w') := by
  have H := Hp.start No w
  refine enter (n := 50) Tryd.func97 rfl rfl (Nat.le_of_ble_eq_true rfl) ?_
  refine seqRegion ?_
  refine sq (r_assign (v := u64 (0#64)) rfl) ?_
  refine sq (r_assign (v := .nilIface) rfl) ?_
  refine wend ?_
  refine seqAny ?_
  refine seqAny ?_
  refine drawAny (K := [none, none, none, none, none, none, none, none, none]) [0, 1, 3, 7, 0, 16, 48, 112, 255] (fun w' => Ext w w') (fun w' w'' => Ext w' w'') mixed (by kernel_rfl) (Ext.drew _) (fun _ _ h h' => h.trans h') ?_ ?_
  · exact relNone (by decide)
  refine ⟨.pointer (some ⟨b, 0, none⟩), fun _ uw1 hC2 _ => Gives.run rfl (r_move (v := .pointer (some ⟨b, 0, none⟩)) rfl) ⟨rfl, Chg.refl _ _⟩, ?_⟩
  refine ⟨.pointer (some ⟨b, 0, none⟩), fun _ uw3 hC4 _ => Gives.run rfl (r_nilCheck rfl) ⟨rfl, Chg.refl _ _⟩, ?_⟩
  refine ⟨.pointer (some ⟨b, 3, none⟩), fun _ uw5 hC6 _ => Gives.run rfl (r_fieldAddr (off' := 3) fld141_3 (by decide) (b := b) (off := 0) rfl (by omega)) ⟨rfl, Chg.refl _ _⟩, ?_⟩
  refine ⟨i64 ((u : Nat)), fun _ uw7 hC8 _ => Gives.run rfl (r_loadC (v := i64 ((u : Nat))) one3 ((H.ext hC8).keepE hb) (off := 3) rfl (by rfl)) ⟨rfl, Chg.refl _ _⟩, ?_⟩
  refine ⟨.pointer (some ⟨b, 0, none⟩), fun _ uw9 hC10 _ => Gives.run rfl (r_move (v := .pointer (some ⟨b, 0, none⟩)) rfl) ⟨rfl, Chg.refl _ _⟩, ?_⟩
  refine ⟨.pointer (some ⟨b, 0, none⟩), fun _ uw11 hC12 _ => Gives.run rfl (r_nilCheck rfl) ⟨rfl, Chg.refl _ _⟩, ?_⟩
  refine ⟨.pointer (some ⟨b, 2, none⟩), fun _ uw13 hC14 _ => Gives.run rfl (r_fieldAddr (off' := 2) fld141_2 (by decide) (b := b) (off := 0) rfl (by omega)) ⟨rfl, Chg.refl _ _⟩, ?_⟩
  refine ⟨i64 ((n : Nat)), fun _ uw15 hC16 _ => Gives.run rfl (r_loadC (v := i64 ((n : Nat))) one3 ((H.ext hC16).keepE hb) (off := 2) rfl (by rfl)) ⟨rfl, Chg.refl _ _⟩, ?_⟩
  refine ⟨.bool (decide (((n : Nat) : Int) ≤ (u : Nat))), fun _ uw17 hC18 _ => Gives.run rfl (r_geqI (a := (u : Nat)) (b := (n : Nat)) rfl rfl) ⟨rfl, Chg.refl _ _⟩, ?_⟩
  intro r22 w19 hE21 hF
  have H20 := H.ext hE21
  refine wnil ?_
  refine thenNormal ?_
  refine condProp (((n : Nat) : Int) ≤ (u : Nat)) rfl (fun c13 => ?_) (fun c13 => ?_)
  · skip
    refine seqRegion ?_
    refine sq (r_mkI und57 (xv := i64 ((40 : Int))) rfl) ?_
    refine sq (r_move (v := .pointer (some ⟨b, 0, none⟩)) rfl) ?_
    refine sq (r_nilCheck rfl) ?_
    refine sq (r_fieldAddr (off' := 3) fld141_3 (by decide) (b := b) (off := 0) rfl (by omega)) ?_
    refine sq (r_loadC (v := i64 ((u : Nat))) one3 (H20.keepE hb) (off := 3) rfl (by rfl)) ?_
    refine c_call (vs := [.iface 57 (i64 ((40 : Int))), .string ({data := #[116, 97, 112, 101]}), i64 ((u : Nat))]) call63 rfl (wrap0_ok (40 : Int) (u : Nat) ({data := #[116, 97, 112, 101]}) w19 (Chg.gl H20.chg (fun x => x) hG)) ?_
    rintro v25 w23 ⟨hEr26, hE27⟩
    have H28 := H20.ext hE27
    obtain ⟨T29, x30, rfl⟩ := hEr26.iface
    refine sq (r_assign (v := u64 (0#64)) rfl) ?_
    refine sq (r_assign (v := .iface T29 (x30)) rfl) ?_
    refine wend ?_
    refine retAny ?_
    refine thenRet ?_
    refine retG (rs := [.tmp 2, .tmp 3]) (vs := [u64 (0#64), .iface T29 (x30)]) rfl ⟨⟨rfl, rfl⟩, ⟨rfl, rfl⟩, trivial⟩ ?_
    exact ⟨_, rfl, ⟨_, rfl, hEr26.mono H20.chg.size⟩, H28.chg⟩
  · skip
    exfalso
    omega

theorem label_hit (b c u : Nat) (a : Option Addr) (ws : List (BitVec 64)) (w : World) (hb : w.heap[b]? = some (.cells #[.slice a ws.length c, .pointer none, i64 ((ws.length : Nat)), i64 ((u : Nat))] 141 (0, 0))) (hR : ∀ w', Chg (· = b) w w' → Rd E64 w' a ws) (hlen : ws.length ≤ 140737488355328) (hu : u + 2 ≤ ws.length) : Calls Tryd.prog 62 [.pointer (some ⟨b, 0, none⟩)].toArray w (Ret fun v w' => v = .tuple #[.agg (cel E64 [ws.getD u 0#64, ws.getD (u + 1) 0#64]).toArray, .nilIface] ∧ Chg (· = b) w w' ∧ w'.heap[b]? = some (.cells #[.slice a ws.length c, .pointer none, i64 ((ws.length : Nat)), i64 ((u + 2 : Nat))] 141 (0, 0))) := by
  have H := Hp.start1 (M := (· = b)) rfl hb
  refine enter (n := 31) Tryd.func62 rfl rfl (Nat.le_of_ble_eq_true rfl) ?_
  refine seqRegion ?_
  refine q_alloc (o := .cells (cel E64 ([0#64, 0#64])).toArray 38 (0, 0)) H zer38 (by kernel_rfl) ?_
  intro b1 w2 hb1 H3 hE4
  refine sq (r_assign (v := .nilIface) rfl) ?_
  refine wend ?_
  refine seqAny ?_
  refine seqRegion ?_
  refine sq (r_move (v := .pointer (some ⟨b, 0, none⟩)) rfl) ?_
  refine c_call (vs := [.pointer (some ⟨b, 0, none⟩)]) call64 rfl (left_ok b ws.length u (.slice a ws.length c) (.pointer none) w2 (H3.get (k := 1) rfl) (by omega) (by omega)) ?_
  rintro _ w5 ⟨rfl, hE6⟩
  have H7 := H3.ext hE6
  refine sq (r_lssI (a := (ws.length : Nat) - (u : Nat)) (b := (2 : Int)) rfl rfl) ?_
  refine wend ?_
  refine condProp (((ws.length : Nat) - (u : Nat) : Int) < (2 : Int)) rfl (fun c10 => ?_) (fun c10 => ?_)
  · skip
    exfalso
    omega
  · skip
    refine skipAny ?_
    refine thenNormal ?_
    refine seqRegion ?_
    refine sq (r_move (v := .pointer (some ⟨b, 0, none⟩)) rfl) ?_
    refine c_call (vs := [.pointer (some ⟨b, 0, none⟩)]) call97 rfl (next_hit b c u a ws w5 (H7.get (k := 1) rfl) (fun w' h => hR w' (H7.chg.trans h)) (by omega) (by omega)) ?_
    rintro _ w8 ⟨rfl, hC10, hn11⟩
    have H12 := (H7.set (k := 1) rfl hC10 hn11).as (L' := [(some b1, .cells (cel E64 ([0#64, 0#64])).toArray 38 (0, 0)), (some b, .cells #[.slice a ws.length c, .pointer none, i64 ((ws.length : Nat)), i64 ((u + 1 : Nat))] 141 (0, 0))]) rfl
    refine sq (r_move (v := .tuple #[u64 (ws.getD u 0#64), .nilIface]) rfl) ?_
    refine sq (r_extract (vs := #[u64 (ws.getD u 0#64), .nilIface]) rfl rfl) ?_
    refine sq (r_extract (vs := #[u64 (ws.getD u 0#64), .nilIface]) rfl rfl) ?_
    refine sq (r_assign (v := u64 (ws.getD u 0#64)) rfl) ?_
    refine sq (r_assign (v := .nilIface) rfl) ?_
    refine wend ?_
    refine seqRegion ?_
    refine sq (r_move (v := .pointer (some ⟨b, 0, none⟩)) rfl) ?_
    refine c_call (vs := [.pointer (some ⟨b, 0, none⟩)]) call97 rfl (next_hit b c (u + 1) a ws w8 (H12.get (k := 1) rfl) (fun w' h => hR w' (H12.chg.trans h)) (by omega) (by omega)) ?_
    rintro _ w13 ⟨rfl, hC15, hn16⟩
    have H17 := (H12.set (k := 1) rfl hC15 hn16).as (L' := [(some b1, .cells (cel E64 ([0#64, 0#64])).toArray 38 (0, 0)), (some b, .cells #[.slice a ws.length c, .pointer none, i64 ((ws.length : Nat)), i64 ((u + 1 + 1 : Nat))] 141 (0, 0))]) rfl
    refine sq (r_move (v := .tuple #[u64 (ws.getD (u + 1) 0#64), .nilIface]) rfl) ?_
    refine sq (r_extract (vs := #[u64 (ws.getD (u + 1) 0#64), .nilIface]) rfl rfl) ?_
    refine sq (r_extract (vs := #[u64 (ws.getD (u + 1) 0#64), .nilIface]) rfl rfl) ?_
    refine sq (r_assign (v := u64 (ws.getD (u + 1) 0#64)) rfl) ?_
    refine sq (r_assign (v := .nilIface) rfl) ?_
    refine wend ?_
    refine seqRegion ?_
    refine sq (r_move (v := u64 (ws.getD u 0#64)) rfl) ?_
    refine sq (r_move (v := u64 (ws.getD (u + 1) 0#64)) rfl) ?_
    refine sq (r_buildA (cs' := (cel E64 [ws.getD u 0#64, ws.getD (u + 1) 0#64]).toArray) (ps := [(0, u64 (ws.getD u 0#64)), (1, u64 (ws.getD (u + 1) 0#64))]) zer38 arr38 rfl (by rfl)) ?_
    refine d_store (k := 0) (v := .agg (cel E64 [ws.getD u 0#64, ws.getD (u + 1) 0#64]).toArray) (cs' := (cel E64 ([ws.getD u 0#64, ws.getD (u + 1) 0#64])).toArray) H17 rfl rfl rfl siz38 (by exact celSize (by first | rfl | (show _ * 1 = _; omega))) (by exact celOne _) (by rw [List.size_toArray, cel_length]; show _ ≤ _ * 1; first | omega | (simp only [List.length_set]; omega) | exact Nat.le_of_ble_eq_true rfl | (simp <;> omega)) (by exact putAll (by first | rfl | omega | (simp <;> omega))) ?_
    intro w18 H19 hC20
    have H19' := H19.as (L' := [(some b1, .cells (cel E64 ([ws.getD u 0#64, ws.getD (u + 1) 0#64])).toArray 38 (0, 0)), (some b, .cells #[.slice a ws.length c, .pointer none, i64 ((ws.length : Nat)), i64 ((u + 1 + 1 : Nat))] 141 (0, 0))]) rfl
    clear H19
    refine sq (r_assign (v := .nilIface) rfl) ?_
    refine wend ?_
    refine retAny ?_
    refine retG (rs := [.cell 2 38, .tmp 3]) (vs := [.agg (cel E64 ([ws.getD u 0#64, ws.getD (u + 1) 0#64])).toArray, .nilIface]) rfl ⟨r_loadA (cs' := (cel E64 ([ws.getD u 0#64, ws.getD (u + 1) 0#64])).toArray) agg38 siz38 (H19'.get (k := 0) rfl) (off := 0) rfl (by exact Nat.le_of_ble_eq_true rfl) (by exact ext_all rfl), ⟨rfl, rfl⟩, trivial⟩ ?_
    exact ⟨_, rfl, rfl, H19'.chg, H19'.get (k := 1) rfl⟩

theorem label_end (b n u : Nat) (x0 x1 : Value) (w : World) (hG : Gl w) (hb : w.heap[b]? = some (.cells #[x0, x1, i64 ((n : Nat)), i64 ((u : Nat))] 141 (0, 0))) (hu : n < u + 2) (hul : u ≤ n) (hlen : n ≤ 140737488355328) : Calls Tryd.prog 62 [.pointer (some ⟨b, 0, none⟩)].toArray w (Ret fun v w' => (∃ ev, v = .tuple #[.agg (cel E64 [0#64, 0#64]).toArray, ev] ∧ Er w.heap.size w' 40 1 ev) ∧ Ext w w') := by
  have H := Hp.start No w
  refine enter (n := 31) Tryd.func62 rfl rfl (Nat.le_of_ble_eq_true rfl) ?_
  refine seqRegion ?_
  refine q_alloc (o := .cells (cel E64 ([0#64, 0#64])).toArray 38 (0, 0)) H zer38 (by kernel_rfl) ?_
  intro b1 w2 hb1 H3 hE4
  refine sq (r_assign (v := .nilIface) rfl) ?_
  refine wend ?_
  refine seqAny ?_
  refine seqRegion ?_
  refine sq (r_move (v := .pointer (some ⟨b, 0, none⟩)) rfl) ?_
  refine c_call (vs := [.pointer (some ⟨b, 0, none⟩)]) call64 rfl (left_ok b n u (x0) (x1) w2 (H3.keepE hb) (by omega) (by omega)) ?_
  rintro _ w5 ⟨rfl, hE6⟩
  have H7 := H3.ext hE6
  refine sq (r_lssI (a := (n : Nat) - (u : Nat)) (b := (2 : Int)) rfl rfl) ?_
  refine wend ?_
  refine condProp (((n : Nat) - (u : Nat) : Int) < (2 : Int)) rfl (fun c10 => ?_) (fun c10 => ?_)
  · skip
    refine seqRegion ?_
    refine sq (r_buildA (cs' := (cel E64 [0#64, 0#64]).toArray) (ps := []) zer38 arr38 rfl (by rfl)) ?_
    refine sq (r_mkI und57 (xv := i64 ((40 : Int))) rfl) ?_
    refine sq (r_move (v := .pointer (some ⟨b, 0, none⟩)) rfl) ?_
    refine sq (r_nilCheck rfl) ?_
    refine sq (r_fieldAddr (off' := 3) fld141_3 (by decide) (b := b) (off := 0) rfl (by omega)) ?_
    refine sq (r_loadC (v := i64 ((u : Nat))) one3 (H7.keepE hb) (off := 3) rfl (by rfl)) ?_
    have := H7.lt (List.mem_of_getElem? (i := 0) rfl) rfl
    refine c_call (vs := [.iface 57 (i64 ((40 : Int))), .string ({data := #[116, 97, 112, 101]}), i64 ((u : Nat))]) call63 rfl (wrap0_ok (40 : Int) (u : Nat) ({data := #[116, 97, 112, 101]}) w5 (Chg.gl H7.chg (fun x => x) hG)) ?_
    rintro v10 w8 ⟨hEr11, hE12⟩
    have H13 := H7.ext hE12
    obtain ⟨T14, x15, rfl⟩ := hEr11.iface
    refine d_store (k := 0) (v := .agg (cel E64 [0#64, 0#64]).toArray) (cs' := (cel E64 ([0#64, 0#64])).toArray) H13 rfl rfl rfl siz38 (by exact celSize (by first | rfl | (show _ * 1 = _; omega))) (by exact celOne _) (by rw [List.size_toArray, cel_length]; show _ ≤ _ * 1; first | omega | (simp only [List.length_set]; omega) | exact Nat.le_of_ble_eq_true rfl | (simp <;> omega)) (by exact putAll (by first | rfl | omega | (simp <;> omega))) ?_
    intro w16 H17 hC18
    have H17' := H17.as (L' := [(some b1, .cells (cel E64 ([0#64, 0#64])).toArray 38 (0, 0))]) rfl
    clear H17
    refine sq (r_assign (v := .iface T14 (x15)) rfl) ?_
    refine wend ?_
    refine retAny ?_
    refine thenRet ?_
    refine retG (rs := [.cell 2 38, .tmp 3]) (vs := [.agg (cel E64 ([0#64, 0#64])).toArray, .iface T14 (x15)]) rfl ⟨r_loadA (cs' := (cel E64 ([0#64, 0#64])).toArray) agg38 siz38 (H17'.get (k := 0) rfl) (off := 0) rfl (by exact Nat.le_of_ble_eq_true rfl) (by exact ext_all rfl), ⟨rfl, rfl⟩, trivial⟩ ?_
    exact ⟨_, rfl, ⟨_, rfl, (Er.chgs (hC18.mono (M' := fun x => x = b1) (fun _ h => by subst h; simp)) (fun x h1 h2 h3 => by have := hC18.size; rcases h3 with rfl <;> omega) hEr11).mono H7.chg.size⟩, H17'.chg⟩
  · skip
    exfalso
    omega



def nineS (ws : List (BitVec 64)) : Nat → List (BitVec 64)
  | 0 => ws
  | k + 1 => (nineS ws k).set k 9#64
theorem nineS_len (ws : List (BitVec 64)) (k : Nat) : (nineS ws k).length = ws.length := by
  induction k with
  | zero => rfl
  | succ k ih => simp [nineS, ih]

end Go.Proofs.YteofdmdpaejgaaaDoor.Er
