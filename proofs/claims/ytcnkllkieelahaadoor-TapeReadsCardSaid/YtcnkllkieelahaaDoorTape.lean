/- The walks of the tapes. -/
import Derived.Test.YtcnkllkieelahaaDoorFault
import Derived.Test.YtcnkllkieelahaaDoorProg
namespace Go.Proofs.YtcnkllkieelahaaDoor.Er
open Go Go.Proofs.YtcnkllkieelahaaDoor.Vc
theorem agg35 : isAgg' Tryd.prog 35 = true := by kernel_rfl
theorem arr35 : arr Tryd.prog 35 = some (2, 1) := by kernel_rfl
theorem byt27 : byt Tryd.prog 27 = some 8 := by kernel_rfl
theorem call10 : callable Tryd.prog 10 = true := by kernel_rfl
theorem call11 : callable Tryd.prog 11 = true := by kernel_rfl
theorem call12 : callable Tryd.prog 12 = true := by kernel_rfl
theorem call13 : callable Tryd.prog 13 = true := by kernel_rfl
theorem call4 : callable Tryd.prog 4 = true := by kernel_rfl
theorem call5 : callable Tryd.prog 5 = true := by kernel_rfl
theorem call6 : callable Tryd.prog 6 = true := by kernel_rfl
theorem call7 : callable Tryd.prog 7 = true := by kernel_rfl
theorem call8 : callable Tryd.prog 8 = true := by kernel_rfl
theorem call9 : callable Tryd.prog 9 = true := by kernel_rfl
theorem fits27 : Fits Tryd.prog 27 E64 := fits64 (by kernel_rfl) (by kernel_rfl)
theorem fits3 : Fits Tryd.prog 3 EI := fitsI (by kernel_rfl) (by kernel_rfl)
theorem fld44_0 : fld Tryd.prog 44 0 = some (0, 1, 22) := by kernel_rfl
theorem fld44_1 : fld Tryd.prog 44 1 = some (1, 1, 42) := by kernel_rfl
theorem fld44_2 : fld Tryd.prog 44 2 = some (2, 1, 3) := by kernel_rfl
theorem fld44_3 : fld Tryd.prog 44 3 = some (3, 1, 3) := by kernel_rfl
theorem gty35 : Tryd.prog.eqGuardType Tryd.prog.depth 35 = false := by kernel_rfl
theorem mixed : Tryd.prog.follows .mixedOrders = true := by kernel_rfl
theorem one22 : isOne Tryd.prog 22 = true := by kernel_rfl
theorem one3 : isOne Tryd.prog 3 = true := by kernel_rfl
theorem one42 : isOne Tryd.prog 42 = true := by kernel_rfl
theorem pls44 : pls Tryd.prog 44 = some #[(0, 1), (1, 1), (2, 1), (3, 1)] := by kernel_rfl
theorem siz27 : siz Tryd.prog 27 = some 1 := by kernel_rfl
theorem siz3 : siz Tryd.prog 3 = some 1 := by kernel_rfl
theorem siz35 : siz Tryd.prog 35 = some 2 := by kernel_rfl
theorem sli22 : sli Tryd.prog 22 = some (27, 1) := by kernel_rfl
theorem sli23 : sli Tryd.prog 23 = some (3, 1) := by kernel_rfl
theorem und22 : Tryd.prog.underlying 22 = some (.slice 27) := by kernel_rfl
theorem und25 : Tryd.prog.underlying 25 = some (.pointer 44) := by kernel_rfl
theorem und27 : Tryd.prog.underlying 27 = some (.int .u64) := by kernel_rfl
theorem und35 : Tryd.prog.underlying 35 = some (.array 2 27) := by kernel_rfl
theorem und42 : Tryd.prog.underlying 42 = some (.pointer 74) := by kernel_rfl
theorem zer27 : zer Tryd.prog 27 = some (.int .u64 0) := by kernel_rfl
theorem zer35 : zer Tryd.prog 35 = some (.agg (List.replicate 2 (.int .u64 0)).toArray) := by kernel_rfl
theorem zer44 : zer Tryd.prog 44 = some (.agg #[.slice none 0 0, .pointer none, .int .i64 0, .int .i64 0]) := by kernel_rfl
theorem clone64_ok (ws : List (BitVec 64)) (hroom : ws.length * 8 ≤ 140737488355328) (a0 : Option Addr) (n0 c0 : Nat) (hn0 : n0 = ws.length) (w : World) (hW : Rd E64 w a0 ws) : Calls Tryd.prog 11 [.slice a0 n0 c0].toArray w (Ret fun v w' => SlRes E64 27 ws w v w' ∧ Ext w w') := by
  subst hn0
  have H := Hp.start No w
  refine enter (n := 8) Tryd.func11 rfl rfl (Nat.le_of_ble_eq_true rfl) ?_
  refine seqRegion ?_
  refine sq (r_assign (v := .slice none 0 0) rfl) ?_
  refine wend ?_
  refine seqAny ?_
  refine seqRegion ?_
  refine sq (r_move (v := .slice a0 ws.length c0) rfl) ?_
  refine sq (r_eqlSN und22 rfl rfl) ?_
  refine wend ?_
  refine condBool (a0.isNone) rfl (fun c4 => ?_) (fun c4 => ?_)
  · skip
    refine seqRegion ?_
    refine sq (r_assign (v := .slice none 0 0) rfl) ?_
    refine wend ?_
    refine retAny ?_
    refine thenRet ?_
    refine retG (rs := [.tmp 2]) (vs := [.slice none 0 0]) rfl ⟨⟨rfl, rfl⟩, trivial⟩ ?_
    obtain rfl := nilOfRd hW c4
    exact ⟨_, rfl, ⟨none, 0, [], rfl, Sl.none, fun _ h => by cases h⟩, H.chg⟩
  · skip
    refine skipAny ?_
    refine thenNormal ?_
    refine seqRegion ?_
    refine q_buildSlice (E := E64) (l := []) H sli22 zer27 (Nat.le_of_ble_eq_true rfl) (ps := []) rfl (by exact fillAll rfl rfl) rfl ?_
    intro b1 w3 hS2 H4 _
    refine sq (r_move (v := .slice a0 ws.length c0) rfl) ?_
    refine q_append (E := E64) (k := 0) (l := []) (l2 := ws) H4 rfl hS2 sli22 zer27 rfl byt27 (hW.ext H4.chg) rfl (by rfl) rfl (by rfl) (by omega) ?_
    intro key5 c6 sp7 w9 hS8 hne11 H10
    have H10' := H10.as (L' := [(key5, sob E64 27 (([]) ++ ws) sp7)]) rfl
    clear H10
    have e12 : ([]) ++ ws = ws := by rw [List.nil_append]
    have hS13 := hS8
    rw [e12] at hS13
    have H14 := H10'.as (L' := [(key5, sob E64 27 ws sp7)]) (by rw [e12])
    refine sq (r_assign (v := .slice (ownA key5) (0 + ws.length) c6) rfl) ?_
    refine wend ?_
    refine retAny ?_
    refine retG (rs := [.tmp 2]) (vs := [.slice (ownA key5) (0 + ws.length) c6]) rfl ⟨⟨rfl, rfl⟩, trivial⟩ ?_
    exact ⟨_, rfl, H14.resN (k := 0) rfl hS13 (Nat.zero_add _), H14.chg⟩

theorem load_ok (ws : List (BitVec 64)) (hroom : ws.length * 8 ≤ 140737488355328) (a0 : Option Addr) (n0 c0 : Nat) (hn0 : n0 = ws.length) (w : World) (hW : Rd E64 w a0 ws) : Calls Tryd.prog 5 [.slice a0 n0 c0].toArray w (Ret fun v w' => (∃ b key c sp, v = .pointer (some ⟨b, 0, none⟩) ∧ Sl E64 key ws c sp ∧ Hp No w w' [(some b, .cells #[.slice (ownA key) ws.length c, .pointer none, i64 (ws.length : Nat), i64 (0 : Nat)] 44 (0, 0)), (key, sob E64 27 ws sp)]) ∧ Ext w w') := by
  subst hn0
  have H := Hp.start No w
  refine enter (n := 9) Tryd.func5 rfl rfl (Nat.le_of_ble_eq_true rfl) ?_
  refine seqRegion ?_
  refine sq (r_assign (v := .pointer none) rfl) ?_
  refine wend ?_
  refine seqRegion ?_
  refine sq (r_move (v := .slice a0 ws.length c0) rfl) ?_
  refine c_call (vs := [.slice a0 ws.length c0]) call11 rfl (clone64_ok ws (by omega) a0 ws.length c0 (by rfl) w (hW.ext H.chg)) ?_
  rintro _ w1 ⟨⟨key3, c4, sp5, rfl, hS6, hk7⟩, hE8⟩
  rw [show ws.length = ws.length from rfl]
  have H9 := H.add hE8 hk7
  refine sq (r_move (v := .slice a0 ws.length c0) rfl) ?_
  refine sq (r_lenS sli22 (a := a0) (m := ws.length) (c := c0) rfl) ?_
  refine sq (r_build (cs' := #[.slice (ownA key3) ws.length c4, .pointer none, i64 ((ws.length : Nat)), i64 ((0 : Int))]) (ps := [(0, .slice (ownA key3) ws.length c4), (2, i64 ((ws.length : Nat)))]) zer44 pls44 rfl (by rfl)) ?_
  refine q_box (v := .agg #[.slice (ownA key3) ws.length c4, .pointer none, i64 ((ws.length : Nat)), i64 ((0 : Int))]) (o := .cells #[.slice (ownA key3) ws.length c4, .pointer none, i64 ((ws.length : Nat)), i64 ((0 : Int))] 44 (0, 0)) H9 rfl (by rfl) ?_
  intro b10 w11 hb10 H12 hE13
  refine sq (r_assign (v := .pointer (some ⟨b10, 0, none⟩)) rfl) ?_
  refine wend ?_
  refine retAny ?_
  refine retG (rs := [.tmp 2]) (vs := [.pointer (some ⟨b10, 0, none⟩)]) rfl ⟨⟨rfl, rfl⟩, trivial⟩ ?_
  exact ⟨_, rfl, ⟨b10, key3, c4, sp5, rfl, hS6, H12⟩, H12.chg⟩

theorem used_ok (b m c n u : Nat) (a : Option Addr) (w : World) (hb : w.heap[b]? = some (.cells #[.slice a m c, .pointer none, i64 ((n : Nat)), i64 ((u : Nat))] 44 (0, 0))) : Calls Tryd.prog 10 [.pointer (some ⟨b, 0, none⟩)].toArray w (Ret fun v w' => v = i64 (u : Nat) ∧ Ext w w') := by
  have H := Hp.start No w
  refine enter (n := 7) Tryd.func10 rfl rfl (Nat.le_of_ble_eq_true rfl) ?_
  refine seqRegion ?_
  refine sq (r_assign (v := i64 ((0 : Int))) rfl) ?_
  refine wend ?_
  refine seqRegion ?_
  refine sq (r_move (v := .pointer (some ⟨b, 0, none⟩)) rfl) ?_
  refine sq (r_nilCheck rfl) ?_
  refine sq (r_fieldAddr (off' := 3) fld44_3 (by decide) (b := b) (off := 0) rfl (by omega)) ?_
  refine sq (r_loadC (v := i64 ((u : Nat))) one3 (H.keepE hb) (off := 3) rfl (by rfl)) ?_
  refine sq (r_assign (v := i64 ((u : Nat))) rfl) ?_
  refine wend ?_
  refine retAny ?_
  refine retG (rs := [.tmp 2]) (vs := [i64 ((u : Nat))]) rfl ⟨⟨rfl, rfl⟩, trivial⟩ ?_
  exact ⟨_, rfl, rfl, H.chg⟩

theorem left_ok (b m c n u : Nat) (a : Option Addr) (w : World) (hb : w.heap[b]? = some (.cells #[.slice a m c, .pointer none, i64 ((n : Nat)), i64 ((u : Nat))] 44 (0, 0))) (hu : u ≤ n) (hn : n ≤ 140737488355328) : Calls Tryd.prog 12 [.pointer (some ⟨b, 0, none⟩)].toArray w (Ret fun v w' => v = i64 ((n : Nat) - (u : Nat)) ∧ Ext w w') := by
  have H := Hp.start No w
  refine enter (n := 12) Tryd.func12 rfl rfl (Nat.le_of_ble_eq_true rfl) ?_
  refine seqRegion ?_
  refine sq (r_assign (v := i64 ((0 : Int))) rfl) ?_
  refine wend ?_
  refine seqAny ?_
  refine drawAny (K := [none, none, none, none, none, none, none, none, none, none]) [0, 1, 3, 7, 0, 16, 48, 112, 255, 511] (fun w' => Ext w w') (fun w' w'' => Ext w' w'') mixed (by kernel_rfl) (Ext.drew _) (fun _ _ h h' => h.trans h') ?_ ?_
  · exact relNone (by decide)
  refine ⟨.pointer (some ⟨b, 0, none⟩), fun _ uw1 hC2 _ => Gives.run rfl (r_move (v := .pointer (some ⟨b, 0, none⟩)) rfl) ⟨rfl, Chg.refl _ _⟩, ?_⟩
  refine ⟨.pointer (some ⟨b, 0, none⟩), fun _ uw3 hC4 _ => Gives.run rfl (r_nilCheck rfl) ⟨rfl, Chg.refl _ _⟩, ?_⟩
  refine ⟨.pointer (some ⟨b, 2, none⟩), fun _ uw5 hC6 _ => Gives.run rfl (r_fieldAddr (off' := 2) fld44_2 (by decide) (b := b) (off := 0) rfl (by omega)) ⟨rfl, Chg.refl _ _⟩, ?_⟩
  refine ⟨i64 ((n : Nat)), fun _ uw7 hC8 _ => Gives.run rfl (r_loadC (v := i64 ((n : Nat))) one3 ((H.ext hC8).keepE hb) (off := 2) rfl (by rfl)) ⟨rfl, Chg.refl _ _⟩, ?_⟩
  refine ⟨.pointer (some ⟨b, 0, none⟩), fun _ uw9 hC10 _ => Gives.run rfl (r_move (v := .pointer (some ⟨b, 0, none⟩)) rfl) ⟨rfl, Chg.refl _ _⟩, ?_⟩
  refine ⟨.pointer (some ⟨b, 0, none⟩), fun _ uw11 hC12 _ => Gives.run rfl (r_nilCheck rfl) ⟨rfl, Chg.refl _ _⟩, ?_⟩
  refine ⟨.pointer (some ⟨b, 3, none⟩), fun _ uw13 hC14 _ => Gives.run rfl (r_fieldAddr (off' := 3) fld44_3 (by decide) (b := b) (off := 0) rfl (by omega)) ⟨rfl, Chg.refl _ _⟩, ?_⟩
  refine ⟨i64 ((u : Nat)), fun _ uw15 hC16 _ => Gives.run rfl (r_loadC (v := i64 ((u : Nat))) one3 ((H.ext hC16).keepE hb) (off := 3) rfl (by rfl)) ⟨rfl, Chg.refl _ _⟩, ?_⟩
  refine ⟨i64 ((n : Nat) - (u : Nat)), fun _ uw17 hC18 _ => Gives.run rfl (r_subI (a := (n : Nat)) (b := (u : Nat)) rfl rfl (by omega)) ⟨rfl, Chg.refl _ _⟩, ?_⟩
  refine ⟨i64 ((n : Nat) - (u : Nat)), fun _ uw19 hC20 _ => Gives.run rfl (r_assign (v := i64 ((n : Nat) - (u : Nat))) rfl) ⟨rfl, Chg.refl _ _⟩, ?_⟩
  intro r24 w21 hE23 hF
  have H22 := H.ext hE23
  refine wnil ?_
  refine thenNormal ?_
  refine retAny ?_
  refine retG (rs := [.tmp 2]) (vs := [i64 ((n : Nat) - (u : Nat))]) rfl ⟨⟨rfl, rfl⟩, trivial⟩ ?_
  exact ⟨_, rfl, rfl, H22.chg⟩

theorem next_hit (b c u : Nat) (a : Option Addr) (ws : List (BitVec 64)) (w : World) (hb : w.heap[b]? = some (.cells #[.slice a ws.length c, .pointer none, i64 ((ws.length : Nat)), i64 ((u : Nat))] 44 (0, 0))) (hR : ∀ w', Chg (· = b) w w' → Rd E64 w' a ws) (hlen : ws.length ≤ 140737488355328) (hu : u < ws.length) : Calls Tryd.prog 7 [.pointer (some ⟨b, 0, none⟩)].toArray w (Ret fun v w' => v = .tuple #[u64 (ws.getD u 0#64), .nilIface] ∧ Chg (· = b) w w' ∧ w'.heap[b]? = some (.cells #[.slice a ws.length c, .pointer none, i64 ((ws.length : Nat)), i64 ((u + 1 : Nat))] 44 (0, 0))) := by
  have H := Hp.start1 (M := (· = b)) rfl hb
  refine enter (n := 50) Tryd.func7 rfl rfl (Nat.le_of_ble_eq_true rfl) ?_
  refine seqRegion ?_
  refine sq (r_assign (v := u64 (0#64)) rfl) ?_
  refine sq (r_assign (v := .nilIface) rfl) ?_
  refine wend ?_
  refine seqAny ?_
  refine seqAny ?_
  refine drawAny (K := [none, none, none, none, none, none, none, none, none]) [0, 1, 3, 7, 0, 16, 48, 112, 255] (fun w' => Ext w w') (fun w' w'' => Ext w' w'') mixed (by kernel_rfl) (Ext.drew _) (fun _ _ h h' => h.trans h') ?_ ?_
  · exact relNone (by decide)
  refine ⟨.pointer (some ⟨b, 0, none⟩), fun _ uw1 hC2 _ => Gives.run rfl (r_move (v := .pointer (some ⟨b, 0, none⟩)) rfl) ⟨rfl, Chg.refl _ _⟩, ?_⟩
  refine ⟨.pointer (some ⟨b, 0, none⟩), fun _ uw3 hC4 _ => Gives.run rfl (r_nilCheck rfl) ⟨rfl, Chg.refl _ _⟩, ?_⟩
  refine ⟨.pointer (some ⟨b, 3, none⟩), fun _ uw5 hC6 _ => Gives.run rfl (r_fieldAddr (off' := 3) fld44_3 (by decide) (b := b) (off := 0) rfl (by omega)) ⟨rfl, Chg.refl _ _⟩, ?_⟩
  refine ⟨i64 ((u : Nat)), fun _ uw7 hC8 _ => Gives.run rfl (r_loadC (v := i64 ((u : Nat))) one3 ((H.ext hC8).get (k := 0) rfl) (off := 3) rfl (by rfl)) ⟨rfl, Chg.refl _ _⟩, ?_⟩
  refine ⟨.pointer (some ⟨b, 0, none⟩), fun _ uw9 hC10 _ => Gives.run rfl (r_move (v := .pointer (some ⟨b, 0, none⟩)) rfl) ⟨rfl, Chg.refl _ _⟩, ?_⟩
  refine ⟨.pointer (some ⟨b, 0, none⟩), fun _ uw11 hC12 _ => Gives.run rfl (r_nilCheck rfl) ⟨rfl, Chg.refl _ _⟩, ?_⟩
  refine ⟨.pointer (some ⟨b, 2, none⟩), fun _ uw13 hC14 _ => Gives.run rfl (r_fieldAddr (off' := 2) fld44_2 (by decide) (b := b) (off := 0) rfl (by omega)) ⟨rfl, Chg.refl _ _⟩, ?_⟩
  refine ⟨i64 ((ws.length : Nat)), fun _ uw15 hC16 _ => Gives.run rfl (r_loadC (v := i64 ((ws.length : Nat))) one3 ((H.ext hC16).get (k := 0) rfl) (off := 2) rfl (by rfl)) ⟨rfl, Chg.refl _ _⟩, ?_⟩
  refine ⟨.bool (decide (((ws.length : Nat) : Int) ≤ (u : Nat))), fun _ uw17 hC18 _ => Gives.run rfl (r_geqI (a := (u : Nat)) (b := (ws.length : Nat)) rfl rfl) ⟨rfl, Chg.refl _ _⟩, ?_⟩
  intro r22 w19 hE21 hF
  have H20 := H.ext hE21
  refine wnil ?_
  refine thenNormal ?_
  refine condProp (((ws.length : Nat) : Int) ≤ (u : Nat)) rfl (fun c13 => ?_) (fun c13 => ?_)
  · skip
    exfalso
    omega
  · skip
    refine skipAny ?_
    refine thenNormal ?_
    refine seqRegion ?_
    refine sq (r_move (v := .pointer (some ⟨b, 0, none⟩)) rfl) ?_
    refine sq (r_nilCheck rfl) ?_
    refine sq (r_fieldAddr (off' := 3) fld44_3 (by decide) (b := b) (off := 0) rfl (by omega)) ?_
    refine sq (r_loadC (v := i64 ((u : Nat))) one3 (H20.get (k := 0) rfl) (off := 3) rfl (by rfl)) ?_
    refine sq (r_assign (v := i64 ((u : Nat))) rfl) ?_
    refine wend ?_
    refine seqRegion ?_
    refine sq (r_move (v := .pointer (some ⟨b, 0, none⟩)) rfl) ?_
    refine sq (r_nilCheck rfl) ?_
    refine sq (r_fieldAddr (off' := 3) fld44_3 (by decide) (b := b) (off := 0) rfl (by omega)) ?_
    refine sq (r_loadC (v := i64 ((u : Nat))) one3 (H20.get (k := 0) rfl) (off := 3) rfl (by rfl)) ?_
    refine sq (r_addI (a := (u : Nat)) (b := (1 : Int)) rfl rfl (by omega)) ?_
    refine sq (r_nilCheck rfl) ?_
    refine sq (r_fieldAddr (off' := 3) fld44_3 (by decide) (b := b) (off := 0) rfl (by omega)) ?_
    refine d_store (k := 0) (v := i64 ((u : Nat) + (1 : Int))) (cs' := #[.slice a ws.length c, .pointer none, i64 ((ws.length : Nat)), i64 ((u : Nat) + (1 : Int))]) H20 rfl rfl rfl siz3 (by rfl) (by exact EI.one _) (by exact Nat.le_of_ble_eq_true rfl) (by rfl) ?_
    intro w23 H24 hC25
    have H24' := H24.as (L' := [(some b, .cells #[.slice a ws.length c, .pointer none, i64 ((ws.length : Nat)), i64 ((u : Nat) + (1 : Int))] 44 (0, 0))]) rfl
    clear H24
    refine wend ?_
    refine seqAny ?_
    refine seqRegion ?_
    refine sq (r_move (v := .pointer (some ⟨b, 0, none⟩)) rfl) ?_
    refine sq (r_nilCheck rfl) ?_
    refine sq (r_fieldAddr (off' := 1) fld44_1 (by decide) (b := b) (off := 0) rfl (by omega)) ?_
    refine sq (r_loadC (v := .pointer none) one42 (H24'.get (k := 0) rfl) (off := 1) rfl (by rfl)) ?_
    refine sq (r_neqPO und42 rfl rfl) ?_
    refine wend ?_
    refine condFalse rfl ?_
    refine skipAny ?_
    refine thenNormal ?_
    refine seqRegion ?_
    refine sq (r_move (v := .pointer (some ⟨b, 0, none⟩)) rfl) ?_
    refine sq (r_nilCheck rfl) ?_
    refine sq (r_fieldAddr (off' := 0) fld44_0 (by decide) (b := b) (off := 0) rfl (by omega)) ?_
    refine sq (r_loadC (v := .slice a ws.length c) one22 (H24'.get (k := 0) rfl) (off := 0) rfl (by rfl)) ?_
    refine sq (r_move (v := i64 ((u : Nat))) rfl) ?_
    refine sq (r_idxS (E := E64) (l := ws) (j := u) sli22 (hR _ H24'.chg) rfl rfl (by first | rfl | omega | (simp; omega)) (by rfl) (by omega)) ?_
    refine sq (r_ldS (E := E64) (l := ws) (j := u) (v := (ws).getD u 0#64) fits27 (hR _ H24'.chg) rfl rfl (at_getD (by omega))) ?_
    refine sq (r_assign (v := u64 ((ws).getD u 0#64)) rfl) ?_
    refine sq (r_assign (v := .nilIface) rfl) ?_
    refine wend ?_
    refine retAny ?_
    refine retG (rs := [.tmp 2, .tmp 3]) (vs := [u64 ((ws).getD u 0#64), .nilIface]) rfl ⟨⟨rfl, rfl⟩, ⟨rfl, rfl⟩, trivial⟩ ?_
    exact ⟨_, rfl, rfl, H24'.chg, H24'.get (k := 0) rfl⟩

theorem next_end (b c u : Nat) (a : Option Addr) (ws : List (BitVec 64)) (w : World) (hG : Gl w) (hb : w.heap[b]? = some (.cells #[.slice a ws.length c, .pointer none, i64 ((ws.length : Nat)), i64 ((u : Nat))] 44 (0, 0))) (hu : ws.length ≤ u) : Calls Tryd.prog 7 [.pointer (some ⟨b, 0, none⟩)].toArray w (Ret fun v w' => (∃ ev, v = .tuple #[u64 0#64, ev] ∧ Er w.heap.size w' 40 1 ev) ∧ Ext w w') := by
  have H := Hp.start No w
  refine enter (n := 50) Tryd.func7 rfl rfl (Nat.le_of_ble_eq_true rfl) ?_
  refine seqRegion ?_
  refine sq (r_assign (v := u64 (0#64)) rfl) ?_
  refine sq (r_assign (v := .nilIface) rfl) ?_
  refine wend ?_
  refine seqAny ?_
  refine seqAny ?_
  refine drawAny (K := [none, none, none, none, none, none, none, none, none]) [0, 1, 3, 7, 0, 16, 48, 112, 255] (fun w' => Ext w w') (fun w' w'' => Ext w' w'') mixed (by kernel_rfl) (Ext.drew _) (fun _ _ h h' => h.trans h') ?_ ?_
  · exact relNone (by decide)
  refine ⟨.pointer (some ⟨b, 0, none⟩), fun _ uw1 hC2 _ => Gives.run rfl (r_move (v := .pointer (some ⟨b, 0, none⟩)) rfl) ⟨rfl, Chg.refl _ _⟩, ?_⟩
  refine ⟨.pointer (some ⟨b, 0, none⟩), fun _ uw3 hC4 _ => Gives.run rfl (r_nilCheck rfl) ⟨rfl, Chg.refl _ _⟩, ?_⟩
  refine ⟨.pointer (some ⟨b, 3, none⟩), fun _ uw5 hC6 _ => Gives.run rfl (r_fieldAddr (off' := 3) fld44_3 (by decide) (b := b) (off := 0) rfl (by omega)) ⟨rfl, Chg.refl _ _⟩, ?_⟩
  refine ⟨i64 ((u : Nat)), fun _ uw7 hC8 _ => Gives.run rfl (r_loadC (v := i64 ((u : Nat))) one3 ((H.ext hC8).keepE hb) (off := 3) rfl (by rfl)) ⟨rfl, Chg.refl _ _⟩, ?_⟩
  refine ⟨.pointer (some ⟨b, 0, none⟩), fun _ uw9 hC10 _ => Gives.run rfl (r_move (v := .pointer (some ⟨b, 0, none⟩)) rfl) ⟨rfl, Chg.refl _ _⟩, ?_⟩
  refine ⟨.pointer (some ⟨b, 0, none⟩), fun _ uw11 hC12 _ => Gives.run rfl (r_nilCheck rfl) ⟨rfl, Chg.refl _ _⟩, ?_⟩
  refine ⟨.pointer (some ⟨b, 2, none⟩), fun _ uw13 hC14 _ => Gives.run rfl (r_fieldAddr (off' := 2) fld44_2 (by decide) (b := b) (off := 0) rfl (by omega)) ⟨rfl, Chg.refl _ _⟩, ?_⟩
  refine ⟨i64 ((ws.length : Nat)), fun _ uw15 hC16 _ => Gives.run rfl (r_loadC (v := i64 ((ws.length : Nat))) one3 ((H.ext hC16).keepE hb) (off := 2) rfl (by rfl)) ⟨rfl, Chg.refl _ _⟩, ?_⟩
  refine ⟨.bool (decide (((ws.length : Nat) : Int) ≤ (u : Nat))), fun _ uw17 hC18 _ => Gives.run rfl (r_geqI (a := (u : Nat)) (b := (ws.length : Nat)) rfl rfl) ⟨rfl, Chg.refl _ _⟩, ?_⟩
  intro r22 w19 hE21 hF
  have H20 := H.ext hE21
  refine wnil ?_
  refine thenNormal ?_
  refine condProp (((ws.length : Nat) : Int) ≤ (u : Nat)) rfl (fun c13 => ?_) (fun c13 => ?_)
  · skip
    refine seqRegion ?_
    refine sq (r_mkI und39 (xv := i64 ((40 : Int))) rfl) ?_
    refine sq (r_move (v := .pointer (some ⟨b, 0, none⟩)) rfl) ?_
    refine sq (r_nilCheck rfl) ?_
    refine sq (r_fieldAddr (off' := 3) fld44_3 (by decide) (b := b) (off := 0) rfl (by omega)) ?_
    refine sq (r_loadC (v := i64 ((u : Nat))) one3 (H20.keepE hb) (off := 3) rfl (by rfl)) ?_
    refine c_call (vs := [.iface 39 (i64 ((40 : Int))), .string ({data := #[116, 97, 112, 101]}), i64 ((u : Nat))]) call13 rfl (wrap0_ok (40 : Int) (u : Nat) ({data := #[116, 97, 112, 101]}) w19 (Chg.gl H20.chg (fun x => x) hG)) ?_
    rintro v25 w23 ⟨hEr26, hE27⟩
    have H28 := H20.ext hE27
    obtain ⟨T29, x30, rfl⟩ := hEr26.iface
    refine sq (r_assign (v := u64 (0#64)) rfl) ?_
    refine sq (r_assign (v := .iface T29 (x30)) rfl) ?_
    refine wend ?_
    refine retAny ?_
    refine thenRet ?_
    refine retG (rs := [.tmp 2, .tmp 3]) (vs := [u64 (0#64), .iface T29 (x30)]) rfl ⟨⟨rfl, rfl⟩, ⟨rfl, rfl⟩, trivial⟩ ?_
    exact ⟨_, rfl, ⟨_, rfl, hEr26.mono H20.chg.size⟩, H28.chg⟩
  · skip
    exfalso
    omega

theorem label_hit (b c u : Nat) (a : Option Addr) (ws : List (BitVec 64)) (w : World) (hb : w.heap[b]? = some (.cells #[.slice a ws.length c, .pointer none, i64 ((ws.length : Nat)), i64 ((u : Nat))] 44 (0, 0))) (hR : ∀ w', Chg (· = b) w w' → Rd E64 w' a ws) (hlen : ws.length ≤ 140737488355328) (hu : u + 2 ≤ ws.length) : Calls Tryd.prog 8 [.pointer (some ⟨b, 0, none⟩)].toArray w (Ret fun v w' => v = .tuple #[.agg (cel E64 [ws.getD u 0#64, ws.getD (u + 1) 0#64]).toArray, .nilIface] ∧ Chg (· = b) w w' ∧ w'.heap[b]? = some (.cells #[.slice a ws.length c, .pointer none, i64 ((ws.length : Nat)), i64 ((u + 2 : Nat))] 44 (0, 0))) := by
  have H := Hp.start1 (M := (· = b)) rfl hb
  refine enter (n := 31) Tryd.func8 rfl rfl (Nat.le_of_ble_eq_true rfl) ?_
  refine seqRegion ?_
  refine q_alloc (o := .cells (cel E64 ([0#64, 0#64])).toArray 35 (0, 0)) H zer35 (by kernel_rfl) ?_
  intro b1 w2 hb1 H3 hE4
  refine sq (r_assign (v := .nilIface) rfl) ?_
  refine wend ?_
  refine seqAny ?_
  refine seqRegion ?_
  refine sq (r_move (v := .pointer (some ⟨b, 0, none⟩)) rfl) ?_
  refine c_call (vs := [.pointer (some ⟨b, 0, none⟩)]) call12 rfl (left_ok b ws.length c ws.length u a w2 (H3.get (k := 1) rfl) (by omega) (by omega)) ?_
  rintro _ w5 ⟨rfl, hE6⟩
  have H7 := H3.ext hE6
  refine sq (r_lssI (a := (ws.length : Nat) - (u : Nat)) (b := (2 : Int)) rfl rfl) ?_
  refine wend ?_
  refine condProp (((ws.length : Nat) - (u : Nat) : Int) < (2 : Int)) rfl (fun c10 => ?_) (fun c10 => ?_)
  · skip
    exfalso
    omega
  · skip
    refine skipAny ?_
    refine thenNormal ?_
    refine seqRegion ?_
    refine sq (r_move (v := .pointer (some ⟨b, 0, none⟩)) rfl) ?_
    refine c_call (vs := [.pointer (some ⟨b, 0, none⟩)]) call7 rfl (next_hit b c u a ws w5 (H7.get (k := 1) rfl) (fun w' h => hR w' (H7.chg.trans h)) (by omega) (by omega)) ?_
    rintro _ w8 ⟨rfl, hC10, hn11⟩
    have H12 := (H7.set (k := 1) rfl hC10 hn11).as (L' := [(some b1, .cells (cel E64 ([0#64, 0#64])).toArray 35 (0, 0)), (some b, .cells #[.slice a ws.length c, .pointer none, i64 ((ws.length : Nat)), i64 ((u + 1 : Nat))] 44 (0, 0))]) rfl
    refine sq (r_move (v := .tuple #[u64 (ws.getD u 0#64), .nilIface]) rfl) ?_
    refine sq (r_extract (vs := #[u64 (ws.getD u 0#64), .nilIface]) rfl rfl) ?_
    refine sq (r_extract (vs := #[u64 (ws.getD u 0#64), .nilIface]) rfl rfl) ?_
    refine sq (r_assign (v := u64 (ws.getD u 0#64)) rfl) ?_
    refine sq (r_assign (v := .nilIface) rfl) ?_
    refine wend ?_
    refine seqRegion ?_
    refine sq (r_move (v := .pointer (some ⟨b, 0, none⟩)) rfl) ?_
    refine c_call (vs := [.pointer (some ⟨b, 0, none⟩)]) call7 rfl (next_hit b c (u + 1) a ws w8 (H12.get (k := 1) rfl) (fun w' h => hR w' (H12.chg.trans h)) (by omega) (by omega)) ?_
    rintro _ w13 ⟨rfl, hC15, hn16⟩
    have H17 := (H12.set (k := 1) rfl hC15 hn16).as (L' := [(some b1, .cells (cel E64 ([0#64, 0#64])).toArray 35 (0, 0)), (some b, .cells #[.slice a ws.length c, .pointer none, i64 ((ws.length : Nat)), i64 ((u + 1 + 1 : Nat))] 44 (0, 0))]) rfl
    refine sq (r_move (v := .tuple #[u64 (ws.getD (u + 1) 0#64), .nilIface]) rfl) ?_
    refine sq (r_extract (vs := #[u64 (ws.getD (u + 1) 0#64), .nilIface]) rfl rfl) ?_
    refine sq (r_extract (vs := #[u64 (ws.getD (u + 1) 0#64), .nilIface]) rfl rfl) ?_
    refine sq (r_assign (v := u64 (ws.getD (u + 1) 0#64)) rfl) ?_
    refine sq (r_assign (v := .nilIface) rfl) ?_
    refine wend ?_
    refine seqRegion ?_
    refine sq (r_move (v := u64 (ws.getD u 0#64)) rfl) ?_
    refine sq (r_move (v := u64 (ws.getD (u + 1) 0#64)) rfl) ?_
    refine sq (r_buildA (cs' := (cel E64 [ws.getD u 0#64, ws.getD (u + 1) 0#64]).toArray) (ps := [(0, u64 (ws.getD u 0#64)), (1, u64 (ws.getD (u + 1) 0#64))]) zer35 arr35 rfl (by rfl)) ?_
    refine d_store (k := 0) (v := .agg (cel E64 [ws.getD u 0#64, ws.getD (u + 1) 0#64]).toArray) (cs' := (cel E64 ([ws.getD u 0#64, ws.getD (u + 1) 0#64])).toArray) H17 rfl rfl rfl siz35 (by exact celSize (by first | rfl | (show _ * 1 = _; omega))) (by exact celOne _) (by rw [List.size_toArray, cel_length]; show _ ≤ _ * 1; first | omega | (simp only [List.length_set]; omega) | exact Nat.le_of_ble_eq_true rfl | (simp <;> omega)) (by exact putAll (by first | rfl | omega | (simp <;> omega))) ?_
    intro w18 H19 hC20
    have H19' := H19.as (L' := [(some b1, .cells (cel E64 ([ws.getD u 0#64, ws.getD (u + 1) 0#64])).toArray 35 (0, 0)), (some b, .cells #[.slice a ws.length c, .pointer none, i64 ((ws.length : Nat)), i64 ((u + 1 + 1 : Nat))] 44 (0, 0))]) rfl
    clear H19
    refine sq (r_assign (v := .nilIface) rfl) ?_
    refine wend ?_
    refine retAny ?_
    refine retG (rs := [.cell 2 35, .tmp 3]) (vs := [.agg (cel E64 ([ws.getD u 0#64, ws.getD (u + 1) 0#64])).toArray, .nilIface]) rfl ⟨r_loadA (cs' := (cel E64 ([ws.getD u 0#64, ws.getD (u + 1) 0#64])).toArray) agg35 siz35 (H19'.get (k := 0) rfl) (off := 0) rfl (by exact Nat.le_of_ble_eq_true rfl) (by exact ext_all rfl), ⟨rfl, rfl⟩, trivial⟩ ?_
    exact ⟨_, rfl, rfl, H19'.chg, H19'.get (k := 1) rfl⟩

theorem label_end (b c u : Nat) (a : Option Addr) (ws : List (BitVec 64)) (w : World) (hG : Gl w) (hb : w.heap[b]? = some (.cells #[.slice a ws.length c, .pointer none, i64 ((ws.length : Nat)), i64 ((u : Nat))] 44 (0, 0))) (hu : ws.length < u + 2) (hul : u ≤ ws.length) (hlen : ws.length ≤ 140737488355328) : Calls Tryd.prog 8 [.pointer (some ⟨b, 0, none⟩)].toArray w (Ret fun v w' => (∃ ev, v = .tuple #[.agg (cel E64 [0#64, 0#64]).toArray, ev] ∧ Er w.heap.size w' 40 1 ev) ∧ Ext w w') := by
  have H := Hp.start No w
  refine enter (n := 31) Tryd.func8 rfl rfl (Nat.le_of_ble_eq_true rfl) ?_
  refine seqRegion ?_
  refine q_alloc (o := .cells (cel E64 ([0#64, 0#64])).toArray 35 (0, 0)) H zer35 (by kernel_rfl) ?_
  intro b1 w2 hb1 H3 hE4
  refine sq (r_assign (v := .nilIface) rfl) ?_
  refine wend ?_
  refine seqAny ?_
  refine seqRegion ?_
  refine sq (r_move (v := .pointer (some ⟨b, 0, none⟩)) rfl) ?_
  refine c_call (vs := [.pointer (some ⟨b, 0, none⟩)]) call12 rfl (left_ok b ws.length c ws.length u a w2 (H3.keepE hb) (by omega) (by omega)) ?_
  rintro _ w5 ⟨rfl, hE6⟩
  have H7 := H3.ext hE6
  refine sq (r_lssI (a := (ws.length : Nat) - (u : Nat)) (b := (2 : Int)) rfl rfl) ?_
  refine wend ?_
  refine condProp (((ws.length : Nat) - (u : Nat) : Int) < (2 : Int)) rfl (fun c10 => ?_) (fun c10 => ?_)
  · skip
    refine seqRegion ?_
    refine sq (r_buildA (cs' := (cel E64 [0#64, 0#64]).toArray) (ps := []) zer35 arr35 rfl (by rfl)) ?_
    refine sq (r_mkI und39 (xv := i64 ((40 : Int))) rfl) ?_
    refine sq (r_move (v := .pointer (some ⟨b, 0, none⟩)) rfl) ?_
    refine sq (r_nilCheck rfl) ?_
    refine sq (r_fieldAddr (off' := 3) fld44_3 (by decide) (b := b) (off := 0) rfl (by omega)) ?_
    refine sq (r_loadC (v := i64 ((u : Nat))) one3 (H7.keepE hb) (off := 3) rfl (by rfl)) ?_
    have := H7.lt (List.mem_of_getElem? (i := 0) rfl) rfl
    refine c_call (vs := [.iface 39 (i64 ((40 : Int))), .string ({data := #[116, 97, 112, 101]}), i64 ((u : Nat))]) call13 rfl (wrap0_ok (40 : Int) (u : Nat) ({data := #[116, 97, 112, 101]}) w5 (Chg.gl H7.chg (fun x => x) hG)) ?_
    rintro v10 w8 ⟨hEr11, hE12⟩
    have H13 := H7.ext hE12
    obtain ⟨T14, x15, rfl⟩ := hEr11.iface
    refine d_store (k := 0) (v := .agg (cel E64 [0#64, 0#64]).toArray) (cs' := (cel E64 ([0#64, 0#64])).toArray) H13 rfl rfl rfl siz35 (by exact celSize (by first | rfl | (show _ * 1 = _; omega))) (by exact celOne _) (by rw [List.size_toArray, cel_length]; show _ ≤ _ * 1; first | omega | (simp only [List.length_set]; omega) | exact Nat.le_of_ble_eq_true rfl | (simp <;> omega)) (by exact putAll (by first | rfl | omega | (simp <;> omega))) ?_
    intro w16 H17 hC18
    have H17' := H17.as (L' := [(some b1, .cells (cel E64 ([0#64, 0#64])).toArray 35 (0, 0))]) rfl
    clear H17
    refine sq (r_assign (v := .iface T14 (x15)) rfl) ?_
    refine wend ?_
    refine retAny ?_
    refine thenRet ?_
    refine retG (rs := [.cell 2 35, .tmp 3]) (vs := [.agg (cel E64 ([0#64, 0#64])).toArray, .iface T14 (x15)]) rfl ⟨r_loadA (cs' := (cel E64 ([0#64, 0#64])).toArray) agg35 siz35 (H17'.get (k := 0) rfl) (off := 0) rfl (by exact Nat.le_of_ble_eq_true rfl) (by exact ext_all rfl), ⟨rfl, rfl⟩, trivial⟩ ?_
    exact ⟨_, rfl, ⟨_, rfl, (Er.chgs (hC18.mono (M' := fun x => x = b1) (fun _ h => by subst h; simp)) (fun x h1 h2 h3 => by have := hC18.size; rcases h3 with rfl <;> omega) hEr11).mono H7.chg.size⟩, H17'.chg⟩
  · skip
    exfalso
    omega

set_option maxHeartbeats 1000000 in
theorem awake_ok (w : World) (hG : Gl w) : Calls Tryd.prog 4 [].toArray w (Ret fun v w' => v = .bool true ∧ Ext w w') := by
  obtain ⟨ws, hws⟩ : ∃ ws : List (BitVec 64), ws = [5#64, 6#64, 7#64] := ⟨_, rfl⟩
  have hwl : ws.length = 3 := by rw [hws]; rfl
  have H := Hp.start No w
  refine enter (n := 51) Tryd.func4 rfl rfl (Nat.le_of_ble_eq_true rfl) ?_
  refine seqRegion ?_
  refine sq (r_assign (v := .bool (false)) rfl) ?_
  refine wend ?_
  refine seqRegion ?_
  refine q_buildSlice (E := E64) (l := [5#64, 6#64, 7#64]) H sli22 zer27 (Nat.le_of_ble_eq_true rfl) (ps := [(0, u64 (5#64)), (1, u64 (6#64)), (2, u64 (7#64))]) rfl (by exact fillAll rfl rfl) rfl ?_
  intro b1 w3 hS2 H4 _
  have e5 : [5#64, 6#64, 7#64] = ws := by rw [hws]
  have hS6 := hS2
  rw [e5] at hS6
  have H7 := H4.as (L' := [((some b1), sob E64 27 ws ([]))]) (by rw [e5])
  refine c_call (vs := [.slice (ownA (some b1)) 3 3]) call5 rfl (load_ok ws (by omega) (ownA (some b1)) 3 3 (by omega) w3 (H7.rd (k := 0) rfl hS6)) ?_
  rintro _ w8 ⟨⟨b10, key11, c12, sp13, rfl, hS14, HN15⟩, hE16⟩
  have H17 := (H7.join HN15).as (L' := [(some b10, .cells #[.slice (ownA key11) ws.length c12, .pointer none, i64 ((ws.length : Nat)), i64 ((0 : Nat))] 44 (0, 0)), (key11, sob E64 27 ws sp13), ((some b1), sob E64 27 ws ([]))]) rfl
  refine sq (r_assign (v := .pointer (some ⟨b10, 0, none⟩)) rfl) ?_
  refine wend ?_
  refine seqAny ?_
  refine seqRegion ?_
  refine sq (r_move (v := .pointer (some ⟨b10, 0, none⟩)) rfl) ?_
  refine sq (r_eqlPN und25 rfl rfl) ?_
  refine wend ?_
  refine condFalse rfl ?_
  refine skipAny ?_
  refine thenNormal ?_
  refine seqRegion ?_
  refine sq (r_move (v := .pointer (some ⟨b10, 0, none⟩)) rfl) ?_
  refine c_call (vs := [.pointer (some ⟨b10, 0, none⟩)]) call7 rfl (next_hit b10 c12 0 (ownA key11) ws w8 (H17.get (k := 0) rfl) (hpRdSt H17 (i := 0) (j := 1) rfl rfl rfl hS14) (by omega) (by omega)) ?_
  rintro _ w18 ⟨rfl, hC20, hn21⟩
  have H22 := (H17.set (k := 0) rfl hC20 hn21).as (L' := [(some b10, .cells #[.slice (ownA key11) ws.length c12, .pointer none, i64 ((ws.length : Nat)), i64 ((0 + 1 : Nat))] 44 (0, 0)), (key11, sob E64 27 ws sp13), ((some b1), sob E64 27 ws ([]))]) rfl
  refine sq (r_move (v := .tuple #[u64 (ws.getD 0 0#64), .nilIface]) rfl) ?_
  refine sq (r_extract (vs := #[u64 (ws.getD 0 0#64), .nilIface]) rfl rfl) ?_
  refine sq (r_extract (vs := #[u64 (ws.getD 0 0#64), .nilIface]) rfl rfl) ?_
  refine sq (r_assign (v := u64 (ws.getD 0 0#64)) rfl) ?_
  refine sq (r_assign (v := .nilIface) rfl) ?_
  refine wend ?_
  refine seqRegion ?_
  refine sq (r_move (v := .pointer (some ⟨b10, 0, none⟩)) rfl) ?_
  refine c_call (vs := [.pointer (some ⟨b10, 0, none⟩)]) call8 rfl (label_hit b10 c12 (0 + 1) (ownA key11) ws w18 (H22.get (k := 0) rfl) (hpRdSt H22 (i := 0) (j := 1) rfl rfl rfl hS14) (by omega) (by omega)) ?_
  rintro _ w23 ⟨rfl, hC25, hn26⟩
  have H27 := (H22.set (k := 0) rfl hC25 hn26).as (L' := [(some b10, .cells #[.slice (ownA key11) ws.length c12, .pointer none, i64 ((ws.length : Nat)), i64 ((0 + 1 + 2 : Nat))] 44 (0, 0)), (key11, sob E64 27 ws sp13), ((some b1), sob E64 27 ws ([]))]) rfl
  refine sq (r_move (v := .tuple #[.agg (cel E64 [ws.getD (0 + 1) 0#64, ws.getD (0 + 1 + 1) 0#64]).toArray, .nilIface]) rfl) ?_
  refine sq (r_extract (vs := #[.agg (cel E64 [ws.getD (0 + 1) 0#64, ws.getD (0 + 1 + 1) 0#64]).toArray, .nilIface]) rfl rfl) ?_
  refine sq (r_extract (vs := #[.agg (cel E64 [ws.getD (0 + 1) 0#64, ws.getD (0 + 1 + 1) 0#64]).toArray, .nilIface]) rfl rfl) ?_
  refine q_alloc (o := .cells (cel E64 ([0#64, 0#64])).toArray 35 (0, 0)) H27 zer35 (by kernel_rfl) ?_
  intro b28 w29 hb28 H30 hE31
  refine d_store (k := 0) (v := .agg (cel E64 [ws.getD (0 + 1) 0#64, ws.getD (0 + 1 + 1) 0#64]).toArray) (cs' := (cel E64 ([ws.getD (0 + 1) 0#64, ws.getD (0 + 1 + 1) 0#64])).toArray) H30 rfl rfl rfl siz35 (by exact celSize (by first | rfl | (show _ * 1 = _; omega))) (by exact celOne _) (by rw [List.size_toArray, cel_length]; show _ ≤ _ * 1; first | omega | (simp only [List.length_set]; omega) | exact Nat.le_of_ble_eq_true rfl | (simp <;> omega)) (by exact putAll (by first | rfl | omega | (simp <;> omega))) ?_
  intro w32 H33 hC34
  have H33' := H33.as (L' := [(some b28, .cells (cel E64 ([ws.getD (0 + 1) 0#64, ws.getD (0 + 1 + 1) 0#64])).toArray 35 (0, 0)), (some b10, .cells #[.slice (ownA key11) ws.length c12, .pointer none, i64 ((ws.length : Nat)), i64 ((0 + 1 + 2 : Nat))] 44 (0, 0)), (key11, sob E64 27 ws sp13), ((some b1), sob E64 27 ws ([]))]) rfl
  clear H33
  refine sq (r_assign (v := .nilIface) rfl) ?_
  refine wend ?_
  refine seqRegion ?_
  refine sq (r_move (v := .pointer (some ⟨b10, 0, none⟩)) rfl) ?_
  have := H33'.lt (List.mem_of_getElem? (i := 0) rfl) rfl
  have := H33'.lt (List.mem_of_getElem? (i := 1) rfl) rfl
  refine c_call (vs := [.pointer (some ⟨b10, 0, none⟩)]) call7 rfl (next_end b10 c12 (0 + 1 + 2) (ownA key11) ws w32 (Chg.gl H33'.chg (fun x => x) hG) (H33'.get (k := 1) rfl) (by omega)) ?_
  rintro _ w35 ⟨⟨v37, rfl, hEr38⟩, hE39⟩
  have H40 := H33'.ext hE39
  obtain ⟨T41, x42, rfl⟩ := hEr38.iface
  refine sq (r_move (v := .tuple #[u64 (0#64), .iface T41 (x42)]) rfl) ?_
  refine sq (r_extract (vs := #[u64 (0#64), .iface T41 (x42)]) rfl rfl) ?_
  refine sq (r_extract (vs := #[u64 (0#64), .iface T41 (x42)]) rfl rfl) ?_
  refine sq (r_assign (v := u64 (0#64)) rfl) ?_
  refine sq (r_assign (v := .iface T41 (x42)) rfl) ?_
  refine wend ?_
  refine seqRegion ?_
  refine sq (r_move (v := u64 (ws.getD 0 0#64)) rfl) ?_
  refine sq ((r_eql64 (a := ws.getD 0 0#64) (b := 5#64) rfl rfl).as (v' := .bool (true)) (by rw [hws]; rfl)) ?_
  refine sq (r_move (v := .bool (true)) rfl) ?_
  refine sqAny (v := .nilIface) (w' := w35) (wantedSome (d' := 29) (b := true) rfl rfl rfl) (r_move (v := .nilIface) rfl) ?_
  refine sqAny (v := .bool (true)) (w' := w35) (wantedSome (d' := 29) (b := true) rfl rfl rfl) (r_eqlNN isI31 rfl rfl) ?_
  refine sq (r_pickT (u := .bool (true)) rfl rfl) ?_
  refine sq (r_move (v := .bool (true)) rfl) ?_
  refine sqAny (v := .nilIface) (w' := w35) (wantedSome (d' := 33) (b := true) rfl rfl rfl) (r_move (v := .nilIface) rfl) ?_
  refine sqAny (v := .bool (true)) (w' := w35) (wantedSome (d' := 33) (b := true) rfl rfl rfl) (r_eqlNN isI31 rfl rfl) ?_
  refine sq (r_pickT (u := .bool (true)) rfl rfl) ?_
  refine sq (r_move (v := .bool (true)) rfl) ?_
  refine sqAny (v := .agg (cel E64 ([ws.getD (0 + 1) 0#64, ws.getD (0 + 1 + 1) 0#64])).toArray) (w' := w35) (wantedSome (d' := 37) (b := true) rfl rfl rfl) (r_loadA (cs' := (cel E64 ([ws.getD (0 + 1) 0#64, ws.getD (0 + 1 + 1) 0#64])).toArray) agg35 siz35 (H40.get (k := 0) rfl) (off := 0) rfl (by exact Nat.le_of_ble_eq_true rfl) (by exact ext_all rfl)) ?_
  refine sqAny (v := .agg (cel E64 [6#64, 7#64]).toArray) (w' := w35) (wantedSome (d' := 37) (b := true) rfl rfl rfl) (r_buildA (cs' := (cel E64 [6#64, 7#64]).toArray) (ps := [(0, u64 (6#64)), (1, u64 (7#64))]) zer35 arr35 rfl (by rfl)) ?_
  refine sqAny (v := .bool (true)) (w' := w35) (wantedSome (d' := 37) (b := true) rfl rfl rfl) ((r_eqlA (E := E64) (l := [ws.getD (0 + 1) 0#64, ws.getD (0 + 1 + 1) 0#64]) (l' := [6#64, 7#64]) gty35 und35 fits27 (eqAt64 und27) (rfl) (rfl) rfl rfl).as (v' := .bool (true)) (by rw [hws]; rfl)) ?_
  refine sq (r_pickT (u := .bool (true)) rfl rfl) ?_
  refine sq (r_move (v := .bool (true)) rfl) ?_
  refine sqAny (v := .iface T41 (x42)) (w' := w35) (wantedSome (d' := 42) (b := true) rfl rfl rfl) (r_move (v := .iface T41 (x42)) rfl) ?_
  refine caAny (wantedSome (d' := 42) (b := true) rfl rfl rfl) (Enters.callL (vs := [.iface T41 (x42), i64 ((40 : Int))]) call9 rfl) (is_ok 40 (40 : Int) 1 (.iface T41 (x42)) w32.heap.size w35 (hEr38)) ?_
  rintro _ w43 ⟨rfl, hE44⟩
  have H45 := H40.ext hE44
  refine sq (r_pickT (u := .bool (true)) rfl rfl) ?_
  refine sq (r_move (v := .bool (true)) rfl) ?_
  refine sqAny (v := .pointer (some ⟨b10, 0, none⟩)) (w' := w43) (wantedSome (d' := 46) (b := true) rfl rfl rfl) (r_move (v := .pointer (some ⟨b10, 0, none⟩)) rfl) ?_
  refine caAny (wantedSome (d' := 46) (b := true) rfl rfl rfl) (Enters.callL (vs := [.pointer (some ⟨b10, 0, none⟩)]) call10 rfl) (used_ok b10 ws.length c12 ws.length (0 + 1 + 2) (ownA key11) w43 (H45.get (k := 1) rfl)) ?_
  rintro _ w46 ⟨rfl, hE47⟩
  have H48 := H45.ext hE47
  refine sqAny (v := .bool (true)) (w' := w46) (wantedSome (d' := 46) (b := true) rfl rfl rfl) ((r_eqlI (a := (0 + 1 + 2 : Nat)) (b := (3 : Int)) rfl rfl).as (v' := .bool (true)) (by rfl)) ?_
  refine sq (r_pickT (u := .bool (true)) rfl rfl) ?_
  refine sq (r_assign (v := .bool (true)) rfl) ?_
  refine wend ?_
  refine retAny ?_
  refine retG (rs := [.tmp 0]) (vs := [.bool (true)]) rfl ⟨⟨rfl, rfl⟩, trivial⟩ ?_
  exact ⟨_, rfl, rfl, H48.chg⟩

theorem reads_ok (ws : List (BitVec 64)) (sc : List Int) (b c cw cs : Nat) (a aw asc : Option Addr) (w : World) (hG : Gl w) (hM0 : ¬ (0 = b)) (hb : w.heap[b]? = some (.cells #[.slice a ws.length c, .pointer none, i64 ((ws.length : Nat)), i64 ((0 : Nat))] 44 (0, 0))) (hR : ∀ w', Chg (· = b) w w' → Rd E64 w' a ws) (hW : ∀ w', Chg (· = b) w w' → Rd E64 w' aw ws) (hSc : ∀ w', Chg (· = b) w w' → Rd EI w' asc sc) (hlen : ws.length ≤ 140737488355328) (hls : sc.length ≤ 140737488355328) : Calls Tryd.prog 6 [.pointer (some ⟨b, 0, none⟩), .slice aw ws.length cw, .slice asc sc.length cs].toArray w (Ret fun v w' => v = .bool true ∧ Chg (· = b) w w') := by
  have H := Hp.start1 (M := (· = b)) rfl hb
  refine enter (n := 108) Tryd.func6 rfl rfl (Nat.le_of_ble_eq_true rfl) ?_
  refine seqRegion ?_
  refine sq (r_assign (v := .bool (false)) rfl) ?_
  refine wend ?_
  refine seqAny ?_
  refine seqRegion ?_
  refine sq (r_move (v := .pointer (some ⟨b, 0, none⟩)) rfl) ?_
  refine sq (r_eqlPN und25 rfl rfl) ?_
  refine wend ?_
  refine condFalse rfl ?_
  refine skipAny ?_
  refine thenNormal ?_
  refine seqRegion ?_
  refine sq (r_assign (v := i64 ((0 : Int))) rfl) ?_
  refine wend ?_
  refine seqAny ?_
  refine seqRegion ?_
  refine sq (r_assign (v := i64 ((0 : Int))) rfl) ?_
  refine wend ?_
  refine blockAny ?_
  refine loopAny (σ := Nat × Nat) (fun (i, u) => [(0, .pointer (some ⟨b, 0, none⟩)), (1, .slice aw ws.length cw), (2, .slice asc sc.length cs), (7, i64 ((u : Nat))), (8, i64 ((i : Nat)))]) (fun (i, u) w' => i ≤ sc.length ∧ u ≤ ws.length ∧ Hp (· = b) w w' [(some b, .cells #[.slice a ws.length c, .pointer none, i64 ((ws.length : Nat)), i64 ((u : Nat))] 44 (0, 0))]) (fun (i, u) => sc.length - i) ((0, 0)) ?_ ?_ ?_
  · exact ⟨rfl, rfl, rfl, rfl, rfl, trivial⟩
  · exact ⟨by omega, by omega, H⟩
  rintro ⟨i, u⟩ ρ w1 ⟨hi, hu, HL⟩
  refine seqAny ?_
  by_cases hA : i < sc.length
  · skip
    refine seqRegion ?_
    refine sq (r_move (v := i64 ((i : Nat))) rfl) ?_
    refine sq (r_move (v := .slice asc sc.length cs) rfl) ?_
    refine sq (r_lenS sli23 (a := asc) (m := sc.length) (c := cs) rfl) ?_
    refine sq ((r_lssI (a := (i : Nat)) (b := (sc.length : Nat)) rfl rfl).as (v' := .bool (true)) (by rw [decide_eq_true (by omega)])) ?_
    refine sq (r_move (v := .bool (true)) rfl) ?_
    refine sqAny (v := i64 ((i : Nat))) (w' := w1) (wantedSome (d' := 19) (b := true) rfl rfl rfl) (r_move (v := i64 ((i : Nat))) rfl) ?_
    refine sqAny (v := .bool (decide (((i : Nat) : Int) < (200 : Int)))) (w' := w1) (wantedSome (d' := 19) (b := true) rfl rfl rfl) (r_lssI (a := (i : Nat)) (b := (200 : Int)) rfl rfl) ?_
    refine sq (r_pickT (u := .bool (decide (((i : Nat) : Int) < (200 : Int)))) rfl rfl) ?_
    refine wend ?_
    refine condProp (((i : Nat) : Int) < (200 : Int)) rfl (fun c22 => ?_) (fun c22 => ?_)
    · skip
      refine skipAny ?_
      refine thenNormal ?_
      refine seqAny ?_
      refine blockAny ?_
      refine seqAny ?_
      refine seqRegion ?_
      refine sq (r_move (v := .slice asc sc.length cs) rfl) ?_
      refine sq (r_move (v := i64 ((i : Nat))) rfl) ?_
      refine sq (r_idxS (E := EI) (l := sc) (j := i) sli23 (hSc _ HL.chg) rfl rfl (by first | rfl | omega | (simp; omega)) (by rfl) (by omega)) ?_
      refine sq (r_ldS (E := EI) (l := sc) (j := i) (v := (sc).getD i 0) fits3 (hSc _ HL.chg) rfl rfl (at_getD (by omega))) ?_
      refine sq (r_remT (a := (sc).getD i 0) (b := (2 : Int)) rfl rfl (by decide)) ?_
      refine sq (r_eqlI (a := Int.tmod ((sc).getD i 0) (2 : Int)) (b := (0 : Int)) rfl rfl) ?_
      refine wend ?_
      refine condProp ((Int.tmod ((sc).getD i 0) (2 : Int) : Int) = (0 : Int)) rfl (fun c30 => ?_) (fun c30 => ?_)
      · skip
        by_cases hB : u < ws.length
        · skip
          refine seqRegion ?_
          refine sq (r_move (v := .pointer (some ⟨b, 0, none⟩)) rfl) ?_
          refine c_call (vs := [.pointer (some ⟨b, 0, none⟩)]) call7 rfl (next_hit b c u a ws w1 (HL.get (k := 0) rfl) (fun w' h => hR w' (HL.chg.trans h)) (by omega) (by omega)) ?_
          rintro _ w3 ⟨rfl, hC5, hn6⟩
          have H7 := (HL.set (k := 0) rfl hC5 hn6).as (L' := [(some b, .cells #[.slice a ws.length c, .pointer none, i64 ((ws.length : Nat)), i64 ((u + 1 : Nat))] 44 (0, 0))]) rfl
          refine sq (r_move (v := .tuple #[u64 (ws.getD u 0#64), .nilIface]) rfl) ?_
          refine sq (r_extract (vs := #[u64 (ws.getD u 0#64), .nilIface]) rfl rfl) ?_
          refine sq (r_extract (vs := #[u64 (ws.getD u 0#64), .nilIface]) rfl rfl) ?_
          refine sq (r_assign (v := u64 (ws.getD u 0#64)) rfl) ?_
          refine sq (r_assign (v := .nilIface) rfl) ?_
          refine wend ?_
          refine seqAny ?_
          refine seqRegion ?_
          refine sq (r_move (v := i64 ((u : Nat))) rfl) ?_
          refine sq (r_move (v := .slice aw ws.length cw) rfl) ?_
          refine sq (r_lenS sli22 (a := aw) (m := ws.length) (c := cw) rfl) ?_
          refine sq (r_geqI (a := (u : Nat)) (b := (ws.length : Nat)) rfl rfl) ?_
          refine wend ?_
          refine condProp (((ws.length : Nat) : Int) ≤ (u : Nat)) rfl (fun c39 => ?_) (fun c39 => ?_)
          · skip
            exfalso
            omega
          · skip
            refine skipAny ?_
            refine thenNormal ?_
            refine seqAny ?_
            refine seqRegion ?_
            refine sq (r_move (v := .nilIface) rfl) ?_
            refine sq (r_neqNN isI31 rfl rfl) ?_
            refine sq (r_move (v := .bool (false)) rfl) ?_
            refine sqAny (v := u64 (ws.getD u 0#64)) (w' := w3) (wantedSome (d' := 49) (b := false) rfl rfl rfl) (r_move (v := u64 (ws.getD u 0#64)) rfl) ?_
            refine sqAny (v := .slice aw ws.length cw) (w' := w3) (wantedSome (d' := 49) (b := false) rfl rfl rfl) (r_move (v := .slice aw ws.length cw) rfl) ?_
            refine sqAny (v := i64 ((u : Nat))) (w' := w3) (wantedSome (d' := 49) (b := false) rfl rfl rfl) (r_move (v := i64 ((u : Nat))) rfl) ?_
            refine sqAny (v := .pointer (adr aw (u * 1))) (w' := w3) (wantedSome (d' := 49) (b := false) rfl rfl rfl) (r_idxS (E := E64) (l := ws) (j := u) sli22 (hW _ H7.chg) rfl rfl (by first | rfl | omega | (simp; omega)) (by rfl) (by omega)) ?_
            refine sqAny (v := u64 ((ws).getD u 0#64)) (w' := w3) (wantedSome (d' := 49) (b := false) rfl rfl rfl) (r_ldS (E := E64) (l := ws) (j := u) (v := (ws).getD u 0#64) fits27 (hW _ H7.chg) rfl rfl (at_getD (by omega))) ?_
            refine sqAny (v := .bool (false)) (w' := w3) (wantedSome (d' := 49) (b := false) rfl rfl rfl) ((r_neq64 (a := ws.getD u 0#64) (b := (ws).getD u 0#64) rfl rfl).as (v' := .bool (false)) (by simp)) ?_
            refine sq (r_pickF (v := .bool (false)) rfl rfl) ?_
            refine wend ?_
            refine condFalse rfl ?_
            refine skipAny ?_
            refine thenNormal ?_
            refine seqRegion ?_
            refine sq (r_move (v := i64 ((u : Nat))) rfl) ?_
            refine sq (r_addI (a := (u : Nat)) (b := (1 : Int)) rfl rfl (by omega)) ?_
            refine sq (r_assign (v := i64 ((u : Nat) + (1 : Int))) rfl) ?_
            refine wend ?_
            refine exitAny ?_
            refine thenExit ?_
            refine blockHere ?_
            refine thenNormal ?_
            refine oneRegion ?_
            refine sq (r_move (v := i64 ((i : Nat))) rfl) ?_
            refine sq (r_addI (a := (i : Nat)) (b := (1 : Int)) rfl rfl (by omega)) ?_
            refine sq (r_assign (v := i64 ((i : Nat) + (1 : Int))) rfl) ?_
            refine wnil ?_
            refine thenNormal ?_
            exact ⟨(i + 1, u + 1), _, rfl, ⟨rfl, rfl, rfl, rfl, rfl, trivial⟩, ⟨by omega, by omega, H7⟩, by show sc.length - (i + 1) < sc.length - i; omega⟩
        · skip
          refine seqRegion ?_
          refine sq (r_move (v := .pointer (some ⟨b, 0, none⟩)) rfl) ?_
          have := HL.lt (List.mem_of_getElem? (i := 0) rfl) rfl
          refine c_call (vs := [.pointer (some ⟨b, 0, none⟩)]) call7 rfl (next_end b c u a ws w1 (Chg.gl HL.chg hM0 hG) (HL.get (k := 0) rfl) (by omega)) ?_
          rintro _ w8 ⟨⟨v10, rfl, hEr11⟩, hE12⟩
          have H13 := HL.ext hE12
          obtain ⟨T14, x15, rfl⟩ := hEr11.iface
          refine sq (r_move (v := .tuple #[u64 (0#64), .iface T14 (x15)]) rfl) ?_
          refine sq (r_extract (vs := #[u64 (0#64), .iface T14 (x15)]) rfl rfl) ?_
          refine sq (r_extract (vs := #[u64 (0#64), .iface T14 (x15)]) rfl rfl) ?_
          refine sq (r_assign (v := u64 (0#64)) rfl) ?_
          refine sq (r_assign (v := .iface T14 (x15)) rfl) ?_
          refine wend ?_
          refine seqAny ?_
          refine seqRegion ?_
          refine sq (r_move (v := i64 ((u : Nat))) rfl) ?_
          refine sq (r_move (v := .slice aw ws.length cw) rfl) ?_
          refine sq (r_lenS sli22 (a := aw) (m := ws.length) (c := cw) rfl) ?_
          refine sq (r_geqI (a := (u : Nat)) (b := (ws.length : Nat)) rfl rfl) ?_
          refine wend ?_
          refine condProp (((ws.length : Nat) : Int) ≤ (u : Nat)) rfl (fun c39 => ?_) (fun c39 => ?_)
          · skip
            refine seqAny ?_
            refine seqRegion ?_
            refine sq (r_move (v := u64 (0#64)) rfl) ?_
            refine sq ((r_neq64 (a := 0#64) (b := 0#64) rfl rfl).as (v' := .bool (false)) (by simp)) ?_
            refine sq (r_move (v := .bool (false)) rfl) ?_
            refine sqAny (v := .iface T14 (x15)) (w' := w8) (wantedSome (d' := 42) (b := false) rfl rfl rfl) (r_move (v := .iface T14 (x15)) rfl) ?_
            refine caAny (wantedSome (d' := 42) (b := false) rfl rfl rfl) (Enters.callL (vs := [.iface T14 (x15), i64 ((40 : Int))]) call9 rfl) (is_ok 40 (40 : Int) 1 (.iface T14 (x15)) w1.heap.size w8 (hEr11)) ?_
            rintro _ w16 ⟨rfl, hE17⟩
            have H18 := H13.ext hE17
            refine sqAny (v := .bool (false)) (w' := w16) (wantedSome (d' := 42) (b := false) rfl rfl rfl) (r_notT rfl) ?_
            refine sq (r_pickF (v := .bool (false)) rfl rfl) ?_
            refine wend ?_
            refine condFalse rfl ?_
            refine skipAny ?_
            refine thenNormal ?_
            refine exitAny ?_
            refine thenExit ?_
            refine thenExit ?_
            refine blockHere ?_
            refine thenNormal ?_
            refine oneRegion ?_
            refine sq (r_move (v := i64 ((i : Nat))) rfl) ?_
            refine sq (r_addI (a := (i : Nat)) (b := (1 : Int)) rfl rfl (by omega)) ?_
            refine sq (r_assign (v := i64 ((i : Nat) + (1 : Int))) rfl) ?_
            refine wnil ?_
            refine thenNormal ?_
            exact ⟨(i + 1, u), _, rfl, ⟨rfl, rfl, rfl, rfl, rfl, trivial⟩, ⟨by omega, by omega, H18⟩, by show sc.length - (i + 1) < sc.length - i; omega⟩
          · skip
            exfalso
            omega
      · skip
        refine skipAny ?_
        refine thenNormal ?_
        by_cases hC : u + 2 ≤ ws.length
        · skip
          refine seqRegion ?_
          refine sq (r_move (v := .pointer (some ⟨b, 0, none⟩)) rfl) ?_
          refine c_call (vs := [.pointer (some ⟨b, 0, none⟩)]) call8 rfl (label_hit b c u a ws w1 (HL.get (k := 0) rfl) (fun w' h => hR w' (HL.chg.trans h)) (by omega) (by omega)) ?_
          rintro _ w19 ⟨rfl, hC21, hn22⟩
          have H23 := (HL.set (k := 0) rfl hC21 hn22).as (L' := [(some b, .cells #[.slice a ws.length c, .pointer none, i64 ((ws.length : Nat)), i64 ((u + 2 : Nat))] 44 (0, 0))]) rfl
          refine sq (r_move (v := .tuple #[.agg (cel E64 [ws.getD u 0#64, ws.getD (u + 1) 0#64]).toArray, .nilIface]) rfl) ?_
          refine sq (r_extract (vs := #[.agg (cel E64 [ws.getD u 0#64, ws.getD (u + 1) 0#64]).toArray, .nilIface]) rfl rfl) ?_
          refine sq (r_extract (vs := #[.agg (cel E64 [ws.getD u 0#64, ws.getD (u + 1) 0#64]).toArray, .nilIface]) rfl rfl) ?_
          refine q_alloc (o := .cells (cel E64 ([0#64, 0#64])).toArray 35 (0, 0)) H23 zer35 (by kernel_rfl) ?_
          intro b24 w25 hb24 H26 hE27
          refine d_store (k := 0) (v := .agg (cel E64 [ws.getD u 0#64, ws.getD (u + 1) 0#64]).toArray) (cs' := (cel E64 ([ws.getD u 0#64, ws.getD (u + 1) 0#64])).toArray) H26 rfl rfl rfl siz35 (by exact celSize (by first | rfl | (show _ * 1 = _; omega))) (by exact celOne _) (by rw [List.size_toArray, cel_length]; show _ ≤ _ * 1; first | omega | (simp only [List.length_set]; omega) | exact Nat.le_of_ble_eq_true rfl | (simp <;> omega)) (by exact putAll (by first | rfl | omega | (simp <;> omega))) ?_
          intro w28 H29 hC30
          have H29' := H29.as (L' := [(some b24, .cells (cel E64 ([ws.getD u 0#64, ws.getD (u + 1) 0#64])).toArray 35 (0, 0)), (some b, .cells #[.slice a ws.length c, .pointer none, i64 ((ws.length : Nat)), i64 ((u + 2 : Nat))] 44 (0, 0))]) rfl
          clear H29
          refine sq (r_assign (v := .nilIface) rfl) ?_
          refine wend ?_
          refine seqAny ?_
          refine seqRegion ?_
          refine sq (r_move (v := .slice aw ws.length cw) rfl) ?_
          refine sq (r_lenS sli22 (a := aw) (m := ws.length) (c := cw) rfl) ?_
          refine sq (r_move (v := i64 ((u : Nat))) rfl) ?_
          refine sq (r_subI (a := (ws.length : Nat)) (b := (u : Nat)) rfl rfl (by omega)) ?_
          refine sq (r_lssI (a := (ws.length : Nat) - (u : Nat)) (b := (2 : Int)) rfl rfl) ?_
          refine wend ?_
          refine condProp (((ws.length : Nat) - (u : Nat) : Int) < (2 : Int)) rfl (fun c68 => ?_) (fun c68 => ?_)
          · skip
            exfalso
            omega
          · skip
            refine skipAny ?_
            refine thenNormal ?_
            refine seqAny ?_
            refine seqAny ?_
            refine drawAny (K := [none, none, none, none, none, none, none, none, none, none, none, none, none, none, none, none]) [0, 1, 3, 7, 7, 7, 55, 119, 7, 7, 519, 1799, 3847, 8183, 16383, 32767] (fun w' => Ext w28 w') (fun w' w'' => Ext w' w'') mixed (by kernel_rfl) (Ext.drew _) (fun _ _ h h' => h.trans h') ?_ ?_
            · exact relNone (by decide)
            refine ⟨.nilIface, fun _ uw31 hC32 _ => Gives.run rfl (r_move (v := .nilIface) rfl) ⟨rfl, Chg.refl _ _⟩, ?_⟩
            refine ⟨.bool (false), fun _ uw33 hC34 _ => Gives.run rfl (r_neqNN isI31 rfl rfl) ⟨rfl, Chg.refl _ _⟩, ?_⟩
            refine ⟨.bool (false), fun _ uw35 hC36 _ => Gives.run rfl (r_move (v := .bool (false)) rfl) ⟨rfl, Chg.refl _ _⟩, ?_⟩
            refine ⟨.agg (cel E64 ([ws.getD u 0#64, ws.getD (u + 1) 0#64])).toArray, fun _ uw37 hC38 _ => Gives.runW (wantedSome (d' := 79) (b := false) rfl rfl rfl) (r_loadA (cs' := (cel E64 ([ws.getD u 0#64, ws.getD (u + 1) 0#64])).toArray) agg35 siz35 ((H29'.ext hC38).get (k := 0) rfl) (off := 0) rfl (by exact Nat.le_of_ble_eq_true rfl) (by exact ext_all rfl)) ⟨rfl, Chg.refl _ _⟩, ?_⟩
            refine ⟨.slice aw ws.length cw, fun _ uw39 hC40 _ => Gives.runW (wantedSome (d' := 79) (b := false) rfl rfl rfl) (r_move (v := .slice aw ws.length cw) rfl) ⟨rfl, Chg.refl _ _⟩, ?_⟩
            refine ⟨i64 ((u : Nat)), fun _ uw41 hC42 _ => Gives.runW (wantedSome (d' := 79) (b := false) rfl rfl rfl) (r_move (v := i64 ((u : Nat))) rfl) ⟨rfl, Chg.refl _ _⟩, ?_⟩
            refine ⟨.pointer (adr aw (u * 1)), fun _ uw43 hC44 _ => Gives.runW (wantedSome (d' := 79) (b := false) rfl rfl rfl) (r_idxS (E := E64) (l := ws) (j := u) sli22 (hW _ (H29'.ext hC44).chg) rfl rfl (by first | rfl | omega | (simp; omega)) (by rfl) (by omega)) ⟨rfl, Chg.refl _ _⟩, ?_⟩
            refine ⟨u64 ((ws).getD u 0#64), fun _ uw45 hC46 _ => Gives.runW (wantedSome (d' := 79) (b := false) rfl rfl rfl) (r_ldS (E := E64) (l := ws) (j := u) (v := (ws).getD u 0#64) fits27 (hW _ (H29'.ext hC46).chg) rfl rfl (at_getD (by omega))) ⟨rfl, Chg.refl _ _⟩, ?_⟩
            refine ⟨.slice aw ws.length cw, fun _ uw47 hC48 _ => Gives.runW (wantedSome (d' := 79) (b := false) rfl rfl rfl) (r_move (v := .slice aw ws.length cw) rfl) ⟨rfl, Chg.refl _ _⟩, ?_⟩
            refine ⟨i64 ((u : Nat)), fun _ uw49 hC50 _ => Gives.runW (wantedSome (d' := 79) (b := false) rfl rfl rfl) (r_move (v := i64 ((u : Nat))) rfl) ⟨rfl, Chg.refl _ _⟩, ?_⟩
            refine ⟨i64 ((u : Nat) + (1 : Int)), fun _ uw51 hC52 _ => Gives.runW (wantedSome (d' := 79) (b := false) rfl rfl rfl) (r_addI (a := (u : Nat)) (b := (1 : Int)) rfl rfl (by omega)) ⟨rfl, Chg.refl _ _⟩, ?_⟩
            refine ⟨.pointer (adr aw ((u + 1) * 1)), fun _ uw53 hC54 _ => Gives.runW (wantedSome (d' := 79) (b := false) rfl rfl rfl) (r_idxS (E := E64) (l := ws) (j := u + 1) sli22 (hW _ (H29'.ext hC54).chg) rfl rfl (by first | rfl | omega | (simp; omega)) (by rfl) (by omega)) ⟨rfl, Chg.refl _ _⟩, ?_⟩
            refine ⟨u64 ((ws).getD (u + 1) 0#64), fun _ uw55 hC56 _ => Gives.runW (wantedSome (d' := 79) (b := false) rfl rfl rfl) (r_ldS (E := E64) (l := ws) (j := u + 1) (v := (ws).getD (u + 1) 0#64) fits27 (hW _ (H29'.ext hC56).chg) rfl rfl (at_getD (by omega))) ⟨rfl, Chg.refl _ _⟩, ?_⟩
            refine ⟨.agg (cel E64 [(ws).getD u 0#64, (ws).getD (u + 1) 0#64]).toArray, fun _ uw57 hC58 _ => Gives.runW (wantedSome (d' := 79) (b := false) rfl rfl rfl) (r_buildA (cs' := (cel E64 [(ws).getD u 0#64, (ws).getD (u + 1) 0#64]).toArray) (ps := [(0, u64 ((ws).getD u 0#64)), (1, u64 ((ws).getD (u + 1) 0#64))]) zer35 arr35 rfl (by rfl)) ⟨rfl, Chg.refl _ _⟩, ?_⟩
            refine ⟨.bool (false), fun _ uw59 hC60 _ => Gives.runW (wantedSome (d' := 79) (b := false) rfl rfl rfl) ((r_neqA (E := E64) (l := [ws.getD u 0#64, ws.getD (u + 1) 0#64]) (l' := [(ws).getD u 0#64, (ws).getD (u + 1) 0#64]) gty35 und35 fits27 (eqAt64 und27) (rfl) (rfl) rfl rfl).as (v' := .bool (false)) (by simp)) ⟨rfl, Chg.refl _ _⟩, ?_⟩
            refine ⟨.bool (false), fun _ uw61 hC62 _ => Gives.run rfl (r_pickF (v := .bool (false)) rfl rfl) ⟨rfl, Chg.refl _ _⟩, ?_⟩
            intro r66 w63 hE65 hF
            have H64 := H29'.ext hE65
            refine wnil ?_
            refine thenNormal ?_
            refine condFalse rfl ?_
            refine skipAny ?_
            refine thenNormal ?_
            refine oneRegion ?_
            refine sq (r_move (v := i64 ((u : Nat))) rfl) ?_
            refine sq (r_addI (a := (u : Nat)) (b := (2 : Int)) rfl rfl (by omega)) ?_
            refine sq (r_assign (v := i64 ((u : Nat) + (2 : Int))) rfl) ?_
            refine wnil ?_
            refine blockNormal ?_
            refine thenNormal ?_
            refine oneRegion ?_
            refine sq (r_move (v := i64 ((i : Nat))) rfl) ?_
            refine sq (r_addI (a := (i : Nat)) (b := (1 : Int)) rfl rfl (by omega)) ?_
            refine sq (r_assign (v := i64 ((i : Nat) + (1 : Int))) rfl) ?_
            refine wnil ?_
            refine thenNormal ?_
            exact ⟨(i + 1, u + 2), _, rfl, ⟨rfl, rfl, rfl, rfl, rfl, trivial⟩, ⟨by omega, by omega, (H64.dropk 0)⟩, by show sc.length - (i + 1) < sc.length - i; omega⟩
        · skip
          refine seqRegion ?_
          refine sq (r_move (v := .pointer (some ⟨b, 0, none⟩)) rfl) ?_
          have := HL.lt (List.mem_of_getElem? (i := 0) rfl) rfl
          refine c_call (vs := [.pointer (some ⟨b, 0, none⟩)]) call8 rfl (label_end b c u a ws w1 (Chg.gl HL.chg hM0 hG) (HL.get (k := 0) rfl) (by omega) (by omega) (by omega)) ?_
          rintro _ w67 ⟨⟨v69, rfl, hEr70⟩, hE71⟩
          have H72 := HL.ext hE71
          obtain ⟨T73, x74, rfl⟩ := hEr70.iface
          refine sq (r_move (v := .tuple #[.agg (cel E64 [0#64, 0#64]).toArray, .iface T73 (x74)]) rfl) ?_
          refine sq (r_extract (vs := #[.agg (cel E64 [0#64, 0#64]).toArray, .iface T73 (x74)]) rfl rfl) ?_
          refine sq (r_extract (vs := #[.agg (cel E64 [0#64, 0#64]).toArray, .iface T73 (x74)]) rfl rfl) ?_
          refine q_alloc (o := .cells (cel E64 ([0#64, 0#64])).toArray 35 (0, 0)) H72 zer35 (by kernel_rfl) ?_
          intro b75 w76 hb75 H77 hE78
          refine d_store (k := 0) (v := .agg (cel E64 [0#64, 0#64]).toArray) (cs' := (cel E64 ([0#64, 0#64])).toArray) H77 rfl rfl rfl siz35 (by exact celSize (by first | rfl | (show _ * 1 = _; omega))) (by exact celOne _) (by rw [List.size_toArray, cel_length]; show _ ≤ _ * 1; first | omega | (simp only [List.length_set]; omega) | exact Nat.le_of_ble_eq_true rfl | (simp <;> omega)) (by exact putAll (by first | rfl | omega | (simp <;> omega))) ?_
          intro w79 H80 hC81
          have H80' := H80.as (L' := [(some b75, .cells (cel E64 ([0#64, 0#64])).toArray 35 (0, 0)), (some b, .cells #[.slice a ws.length c, .pointer none, i64 ((ws.length : Nat)), i64 ((u : Nat))] 44 (0, 0))]) rfl
          clear H80
          refine sq (r_assign (v := .iface T73 (x74)) rfl) ?_
          refine wend ?_
          refine seqAny ?_
          refine seqRegion ?_
          refine sq (r_move (v := .slice aw ws.length cw) rfl) ?_
          refine sq (r_lenS sli22 (a := aw) (m := ws.length) (c := cw) rfl) ?_
          refine sq (r_move (v := i64 ((u : Nat))) rfl) ?_
          refine sq (r_subI (a := (ws.length : Nat)) (b := (u : Nat)) rfl rfl (by omega)) ?_
          refine sq (r_lssI (a := (ws.length : Nat) - (u : Nat)) (b := (2 : Int)) rfl rfl) ?_
          refine wend ?_
          refine condProp (((ws.length : Nat) - (u : Nat) : Int) < (2 : Int)) rfl (fun c68 => ?_) (fun c68 => ?_)
          · skip
            refine seqAny ?_
            refine seqRegion ?_
            refine sq (r_loadA (cs' := (cel E64 ([0#64, 0#64])).toArray) agg35 siz35 (H80'.get (k := 0) rfl) (off := 0) rfl (by exact Nat.le_of_ble_eq_true rfl) (by exact ext_all rfl)) ?_
            refine sq (r_buildA (cs' := (cel E64 [0#64, 0#64]).toArray) (ps := []) zer35 arr35 rfl (by rfl)) ?_
            refine sq ((r_neqA (E := E64) (l := [0#64, 0#64]) (l' := [0#64, 0#64]) gty35 und35 fits27 (eqAt64 und27) (rfl) (rfl) rfl rfl).as (v' := .bool (false)) (by simp)) ?_
            refine sq (r_move (v := .bool (false)) rfl) ?_
            refine sqAny (v := .iface T73 (x74)) (w' := w79) (wantedSome (d' := 72) (b := false) rfl rfl rfl) (r_move (v := .iface T73 (x74)) rfl) ?_
            refine caAny (wantedSome (d' := 72) (b := false) rfl rfl rfl) (Enters.callL (vs := [.iface T73 (x74), i64 ((40 : Int))]) call9 rfl) (is_ok 40 (40 : Int) 1 (.iface T73 (x74)) w1.heap.size w79 ((Er.chgs ((Ext.chg (M := fun x => x = b75) hE78).trans (hC81.mono (M' := fun x => x = b75) (fun _ h => by subst h; simp))) (fun x h1 h2 h3 => by have := hE78.size; have := hC81.size; rcases h3 with rfl <;> omega) hEr70))) ?_
            rintro _ w82 ⟨rfl, hE83⟩
            have H84 := H80'.ext hE83
            refine sqAny (v := .bool (false)) (w' := w82) (wantedSome (d' := 72) (b := false) rfl rfl rfl) (r_notT rfl) ?_
            refine sq (r_pickF (v := .bool (false)) rfl rfl) ?_
            refine wend ?_
            refine condFalse rfl ?_
            refine skipAny ?_
            refine thenNormal ?_
            refine exitAny ?_
            refine thenExit ?_
            refine blockHere ?_
            refine thenNormal ?_
            refine oneRegion ?_
            refine sq (r_move (v := i64 ((i : Nat))) rfl) ?_
            refine sq (r_addI (a := (i : Nat)) (b := (1 : Int)) rfl rfl (by omega)) ?_
            refine sq (r_assign (v := i64 ((i : Nat) + (1 : Int))) rfl) ?_
            refine wnil ?_
            refine thenNormal ?_
            exact ⟨(i + 1, u), _, rfl, ⟨rfl, rfl, rfl, rfl, rfl, trivial⟩, ⟨by omega, by omega, (H84.dropk 0)⟩, by show sc.length - (i + 1) < sc.length - i; omega⟩
          · skip
            exfalso
            omega
    · skip
      refine exitAny ?_
      refine thenExit ?_
      refine thenExit ?_
      refine blockHere ?_
      refine thenNormal ?_
      refine seqRegion ?_
      refine sq (r_move (v := .pointer (some ⟨b, 0, none⟩)) rfl) ?_
      refine c_call (vs := [.pointer (some ⟨b, 0, none⟩)]) call10 rfl (used_ok b ws.length c ws.length u a w1 (HL.get (k := 0) rfl)) ?_
      rintro _ w85 ⟨rfl, hE86⟩
      have H87 := HL.ext hE86
      refine sq (r_move (v := i64 ((u : Nat))) rfl) ?_
      refine sq ((r_eqlI (a := (u : Nat)) (b := (u : Nat)) rfl rfl).as (v' := .bool (true)) (by simp)) ?_
      refine sq (r_move (v := .bool (true)) rfl) ?_
      refine sqAny (v := .pointer (some ⟨b, 0, none⟩)) (w' := w85) (wantedSome (d' := 99) (b := true) rfl rfl rfl) (r_move (v := .pointer (some ⟨b, 0, none⟩)) rfl) ?_
      refine caAny (wantedSome (d' := 99) (b := true) rfl rfl rfl) (Enters.callL (vs := [.pointer (some ⟨b, 0, none⟩)]) call12 rfl) (left_ok b ws.length c ws.length u a w85 (H87.get (k := 0) rfl) (by omega) (by omega)) ?_
      rintro _ w88 ⟨rfl, hE89⟩
      have H90 := H87.ext hE89
      refine sqAny (v := .slice aw ws.length cw) (w' := w88) (wantedSome (d' := 99) (b := true) rfl rfl rfl) (r_move (v := .slice aw ws.length cw) rfl) ?_
      refine sqAny (v := i64 ((ws.length : Nat))) (w' := w88) (wantedSome (d' := 99) (b := true) rfl rfl rfl) (r_lenS sli22 (a := aw) (m := ws.length) (c := cw) rfl) ?_
      refine sqAny (v := i64 ((u : Nat))) (w' := w88) (wantedSome (d' := 99) (b := true) rfl rfl rfl) (r_move (v := i64 ((u : Nat))) rfl) ?_
      refine sqAny (v := i64 ((ws.length : Nat) - (u : Nat))) (w' := w88) (wantedSome (d' := 99) (b := true) rfl rfl rfl) (r_subI (a := (ws.length : Nat)) (b := (u : Nat)) rfl rfl (by omega)) ?_
      refine sqAny (v := .bool (true)) (w' := w88) (wantedSome (d' := 99) (b := true) rfl rfl rfl) ((r_eqlI (a := (ws.length : Nat) - (u : Nat)) (b := (ws.length : Nat) - (u : Nat)) rfl rfl).as (v' := .bool (true)) (by simp)) ?_
      refine sq (r_pickT (u := .bool (true)) rfl rfl) ?_
      refine sq (r_assign (v := .bool (true)) rfl) ?_
      refine wend ?_
      refine retAny ?_
      refine retG (rs := [.tmp 6]) (vs := [.bool (true)]) rfl ⟨⟨rfl, rfl⟩, trivial⟩ ?_
      exact ⟨_, rfl, rfl, H90.chg⟩
  · skip
    refine seqRegion ?_
    refine sq (r_move (v := i64 ((i : Nat))) rfl) ?_
    refine sq (r_move (v := .slice asc sc.length cs) rfl) ?_
    refine sq (r_lenS sli23 (a := asc) (m := sc.length) (c := cs) rfl) ?_
    refine sq ((r_lssI (a := (i : Nat)) (b := (sc.length : Nat)) rfl rfl).as (v' := .bool (false)) (by rw [decide_eq_false (by omega)])) ?_
    refine sq (r_move (v := .bool (false)) rfl) ?_
    refine skAny (wantedSome (d' := 19) (b := false) rfl rfl rfl) ?_
    refine skAny (wantedSome (d' := 19) (b := false) rfl rfl rfl) ?_
    refine sq (r_pickF (v := .bool (false)) rfl rfl) ?_
    refine wend ?_
    refine condFalse rfl ?_
    refine exitAny ?_
    refine thenExit ?_
    refine thenExit ?_
    refine blockHere ?_
    refine thenNormal ?_
    refine seqRegion ?_
    refine sq (r_move (v := .pointer (some ⟨b, 0, none⟩)) rfl) ?_
    refine c_call (vs := [.pointer (some ⟨b, 0, none⟩)]) call10 rfl (used_ok b ws.length c ws.length u a w1 (HL.get (k := 0) rfl)) ?_
    rintro _ w91 ⟨rfl, hE92⟩
    have H93 := HL.ext hE92
    refine sq (r_move (v := i64 ((u : Nat))) rfl) ?_
    refine sq ((r_eqlI (a := (u : Nat)) (b := (u : Nat)) rfl rfl).as (v' := .bool (true)) (by simp)) ?_
    refine sq (r_move (v := .bool (true)) rfl) ?_
    refine sqAny (v := .pointer (some ⟨b, 0, none⟩)) (w' := w91) (wantedSome (d' := 99) (b := true) rfl rfl rfl) (r_move (v := .pointer (some ⟨b, 0, none⟩)) rfl) ?_
    refine caAny (wantedSome (d' := 99) (b := true) rfl rfl rfl) (Enters.callL (vs := [.pointer (some ⟨b, 0, none⟩)]) call12 rfl) (left_ok b ws.length c ws.length u a w91 (H93.get (k := 0) rfl) (by omega) (by omega)) ?_
    rintro _ w94 ⟨rfl, hE95⟩
    have H96 := H93.ext hE95
    refine sqAny (v := .slice aw ws.length cw) (w' := w94) (wantedSome (d' := 99) (b := true) rfl rfl rfl) (r_move (v := .slice aw ws.length cw) rfl) ?_
    refine sqAny (v := i64 ((ws.length : Nat))) (w' := w94) (wantedSome (d' := 99) (b := true) rfl rfl rfl) (r_lenS sli22 (a := aw) (m := ws.length) (c := cw) rfl) ?_
    refine sqAny (v := i64 ((u : Nat))) (w' := w94) (wantedSome (d' := 99) (b := true) rfl rfl rfl) (r_move (v := i64 ((u : Nat))) rfl) ?_
    refine sqAny (v := i64 ((ws.length : Nat) - (u : Nat))) (w' := w94) (wantedSome (d' := 99) (b := true) rfl rfl rfl) (r_subI (a := (ws.length : Nat)) (b := (u : Nat)) rfl rfl (by omega)) ?_
    refine sqAny (v := .bool (true)) (w' := w94) (wantedSome (d' := 99) (b := true) rfl rfl rfl) ((r_eqlI (a := (ws.length : Nat) - (u : Nat)) (b := (ws.length : Nat) - (u : Nat)) rfl rfl).as (v' := .bool (true)) (by simp)) ?_
    refine sq (r_pickT (u := .bool (true)) rfl rfl) ?_
    refine sq (r_assign (v := .bool (true)) rfl) ?_
    refine wend ?_
    refine retAny ?_
    refine retG (rs := [.tmp 6]) (vs := [.bool (true)]) rfl ⟨⟨rfl, rfl⟩, trivial⟩ ?_
    exact ⟨_, rfl, rfl, H96.chg⟩

def nineS (ws : List (BitVec 64)) : Nat → List (BitVec 64)
  | 0 => ws
  | k + 1 => (nineS ws k).set k 9#64
theorem nineS_len (ws : List (BitVec 64)) (k : Nat) : (nineS ws k).length = ws.length := by
  induction k with
  | zero => rfl
  | succ k ih => simp [nineS, ih]

theorem tapereads_ok (ws : List (BitVec 64)) (sc : List Int) (cw cs : Nat) (aw asc : Option Addr) (w : World) (hG : Gl w) (hW : Rd E64 w aw ws) (hSc : Rd EI w asc sc) (hlen : ws.length * 8 ≤ 140737488355328) (hls : sc.length * 8 ≤ 140737488355328) : Calls Tryd.prog 3 [.slice aw ws.length cw, .slice asc sc.length cs].toArray w (Ret fun v w' => v = .bool true ∧ Ext w w') := by
  have H := Hp.start No w
  refine enter (n := 28) Tryd.func3 rfl rfl (Nat.le_of_ble_eq_true rfl) ?_
  refine seqRegion ?_
  refine sq (r_assign (v := .bool (false)) rfl) ?_
  refine wend ?_
  refine seqAny ?_
  refine seqRegion ?_
  refine c_call (vs := []) call4 rfl (awake_ok w (Chg.gl H.chg (fun x => x) hG)) ?_
  rintro _ w1 ⟨rfl, hE2⟩
  have H3 := H.ext hE2
  refine sq (r_notT rfl) ?_
  refine wend ?_
  refine condFalse rfl ?_
  refine skipAny ?_
  refine thenNormal ?_
  refine seqRegion ?_
  refine q_buildSlice (E := E64) (l := []) H3 sli22 zer27 (Nat.le_of_ble_eq_true rfl) (ps := []) rfl (by exact fillAll rfl rfl) rfl ?_
  intro b4 w6 hS5 H7 _
  refine sq (r_move (v := .slice aw ws.length cw) rfl) ?_
  refine q_append (E := E64) (k := 0) (l := []) (l2 := ws) H7 rfl hS5 sli22 zer27 rfl byt27 (hW.ext H7.chg) rfl (by rfl) rfl (by rfl) (by omega) ?_
  intro key8 c9 sp10 w12 hS11 hne14 H13
  have H13' := H13.as (L' := [(key8, sob E64 27 (([]) ++ ws) sp10)]) rfl
  clear H13
  have e15 : ([]) ++ ws = ws := by rw [List.nil_append]
  have hS16 := hS11
  rw [e15] at hS16
  have H17 := H13'.as (L' := [(key8, sob E64 27 ws sp10)]) (by rw [e15])
  refine sq (r_assign (v := .slice (ownA key8) (0 + ws.length) c9) rfl) ?_
  refine wend ?_
  refine seqRegion ?_
  refine sq (r_move (v := .slice (ownA key8) (0 + ws.length) c9) rfl) ?_
  refine c_call (vs := [.slice (ownA key8) (0 + ws.length) c9]) call5 rfl (load_ok ws (by omega) (ownA key8) (0 + ws.length) c9 (by exact Nat.zero_add _) w12 (H17.rd (k := 0) rfl hS16)) ?_
  rintro _ w18 ⟨⟨b20, key21, c22, sp23, rfl, hS24, HN25⟩, hE26⟩
  have H27 := (H17.join HN25).as (L' := [(some b20, .cells #[.slice (ownA key21) ws.length c22, .pointer none, i64 ((ws.length : Nat)), i64 ((0 : Nat))] 44 (0, 0)), (key21, sob E64 27 ws sp23), (key8, sob E64 27 ws sp10)]) rfl
  refine sq (r_assign (v := .pointer (some ⟨b20, 0, none⟩)) rfl) ?_
  refine wend ?_
  refine seqAny ?_
  refine seqRegion ?_
  refine sq (r_move (v := .slice (ownA key8) (0 + ws.length) c9) rfl) ?_
  refine sq (r_lenS sli22 (a := ownA key8) (m := 0 + ws.length) (c := c9) rfl) ?_
  refine sq (r_move (v := i64 ((0 : Int))) rfl) ?_
  refine wend ?_
  refine blockAny ?_
  refine loopAny (σ := Nat) (fun k => [(0, .slice aw ws.length cw), (1, .slice asc sc.length cs), (5, .slice (ownA key8) (0 + ws.length) c9), (6, .pointer (some ⟨b20, 0, none⟩)), (16, i64 ((0 + ws.length : Nat))), (17, i64 ((k : Nat)))]) (fun k w' => k ≤ ws.length ∧ Sl E64 key8 (nineS ws k) c9 (sp10) ∧ Hp No w w' [(some b20, .cells #[.slice (ownA key21) ws.length c22, .pointer none, i64 ((ws.length : Nat)), i64 ((0 : Nat))] 44 (0, 0)), (key21, sob E64 27 ws sp23), (key8, sob E64 27 (nineS ws k) sp10)]) (fun k => ws.length - k) (0) ?_ ?_ ?_
  · exact ⟨rfl, rfl, rfl, rfl, rfl, rfl, trivial⟩
  · exact ⟨by omega, hS16, H27⟩
  rintro k ρ w28 ⟨hk, hS, HL⟩
  have hl := nineS_len ws k
  refine seqRegion ?_
  refine sq (r_lssI (a := (k : Nat)) (b := (0 + ws.length : Nat)) rfl rfl) ?_
  refine wend ?_
  refine seqAny ?_
  refine condProp (((k : Nat) : Int) < (0 + ws.length : Nat)) rfl (fun c18 => ?_) (fun c18 => ?_)
  · skip
    refine skipAny ?_
    refine thenNormal ?_
    refine seqAny ?_
    refine blockAny ?_
    refine seqRegion ?_
    refine sq (r_move (v := i64 ((k : Nat))) rfl) ?_
    refine sq (r_assign (v := i64 ((k : Nat))) rfl) ?_
    refine wend ?_
    refine oneRegion ?_
    refine sq (r_move (v := .slice (ownA key8) (0 + ws.length) c9) rfl) ?_
    refine sq (r_move (v := i64 ((k : Nat))) rfl) ?_
    refine sq (r_idxS (E := E64) (l := nineS ws k) (j := k) sli22 (HL.rd (k := 2) rfl hS) rfl rfl (by first | rfl | omega | (simp; omega)) (by omega) (by omega)) ?_
    refine d_storeS (E := E64) (k := 2) (l := nineS ws k) (j := k) (b := 9#64) (a := (nineS ws k).getD k 0#64) HL rfl hS rfl rfl rfl rfl siz27 (at_getD (by omega)) ?_
    intro w31 hS30 H32
    have H32' := H32.as (L' := [(some b20, .cells #[.slice (ownA key21) ws.length c22, .pointer none, i64 ((ws.length : Nat)), i64 ((0 : Nat))] 44 (0, 0)), (key21, sob E64 27 ws sp23), (key8, sob E64 27 ((nineS ws k).set k (9#64)) sp10)]) rfl
    clear H32
    refine wnil ?_
    refine blockNormal ?_
    refine thenNormal ?_
    refine oneRegion ?_
    refine sq (r_addI (a := (k : Nat)) (b := (1 : Int)) rfl rfl (by omega)) ?_
    refine sq (r_move (v := i64 ((k : Nat) + (1 : Int))) rfl) ?_
    refine wnil ?_
    refine thenNormal ?_
    exact ⟨k + 1, _, rfl, ⟨rfl, rfl, rfl, rfl, rfl, rfl, trivial⟩, ⟨by omega, hS30, H32'⟩, by show ws.length - (k + 1) < ws.length - k; omega⟩
  · skip
    refine exitAny ?_
    refine thenExit ?_
    refine thenExit ?_
    refine blockHere ?_
    refine thenNormal ?_
    refine seqRegion ?_
    refine sq (r_move (v := .pointer (some ⟨b20, 0, none⟩)) rfl) ?_
    refine sq (r_move (v := .slice aw ws.length cw) rfl) ?_
    refine sq (r_move (v := .slice asc sc.length cs) rfl) ?_
    refine c_call (vs := [.pointer (some ⟨b20, 0, none⟩), .slice aw ws.length cw, .slice asc sc.length cs]) call6 rfl (reads_ok ws sc b20 c22 cw cs (ownA key21) aw asc w28 (Chg.gl HL.chg (fun x => x) hG) (by have := hG.lt; have := (HL.own _ (List.mem_of_getElem? (i := 0) rfl) _ rfl).resolve_left (fun h => h); omega) (HL.get (k := 0) rfl) (hpRdSt HL (i := 0) (j := 1) rfl rfl rfl hS24) (rdSt hW HL (i := 0) rfl) (rdSt hSc HL (i := 0) rfl) (by omega) (by omega)) ?_
    rintro _ w33 ⟨rfl, hC35⟩
    have H36 := hpOf (HL.chg.own (HL.own _ (List.mem_of_getElem? (i := 0) rfl) _ rfl) hC35)
    refine sq (r_assign (v := .bool (true)) rfl) ?_
    refine wend ?_
    refine retAny ?_
    refine retG (rs := [.tmp 4]) (vs := [.bool (true)]) rfl ⟨⟨rfl, rfl⟩, trivial⟩ ?_
    exact ⟨_, rfl, rfl, H36.chg⟩
end Go.Proofs.YtcnkllkieelahaaDoor.Er
