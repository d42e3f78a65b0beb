/- The walks of the tapes. -/
import Derived.Test.YtkclklnfohaheaaDoorFault
import Derived.Test.YtkclklnfohaheaaDoorVcStruct
import Derived.Test.YtkclklnfohaheaaDoorProg
import Derived.Test.YtkclklnfohaheaaDoorAes
import Derived.Test.YtkclklnfohaheaaDoorAesRef
import Derived.Test.YtkclklnfohaheaaDoorAesRefWords
import Derived.Test.YtkclklnfohaheaaDoorVcOpen
namespace Go.Proofs.YtkclklnfohaheaaDoor.Er
open Go Go.Proofs.YtkclklnfohaheaaDoor.Vc Go.Proofs.YtkclklnfohaheaaDoor.Aes Go.Proofs.YtkclklnfohaheaaDoor.AesSpec
attribute [local irreducible] wordL cipher wordR
theorem byt36 : byt Tryd.prog 36 = some 8 := by kernel_rfl
theorem call14 : callable Tryd.prog 14 = true := by kernel_rfl
theorem call15 : callable Tryd.prog 15 = true := by kernel_rfl
theorem call16 : callable Tryd.prog 16 = true := by kernel_rfl
theorem call17 : callable Tryd.prog 17 = true := by kernel_rfl
theorem call18 : callable Tryd.prog 18 = true := by kernel_rfl
theorem call19 : callable Tryd.prog 19 = true := by kernel_rfl
theorem call20 : callable Tryd.prog 20 = true := by kernel_rfl
theorem call21 : callable Tryd.prog 21 = true := by kernel_rfl
theorem call22 : callable Tryd.prog 22 = true := by kernel_rfl
theorem call47 : callable Tryd.prog 47 = true := by kernel_rfl
theorem call53 : callable Tryd.prog 53 = true := by kernel_rfl
theorem call54 : callable Tryd.prog 54 = true := by kernel_rfl
theorem call55 : callable Tryd.prog 55 = true := by kernel_rfl
theorem call56 : callable Tryd.prog 56 = true := by kernel_rfl
theorem call57 : callable Tryd.prog 57 = true := by kernel_rfl
theorem call58 : callable Tryd.prog 58 = true := by kernel_rfl
theorem fits3 : Fits Tryd.prog 3 EI := fitsI (by kernel_rfl) (by kernel_rfl)
theorem fld114_0 : fld Tryd.prog 114 0 = some (0, 1, 25) := by kernel_rfl
theorem fld114_1 : fld Tryd.prog 114 1 = some (1, 1, 111) := by kernel_rfl
theorem fld114_2 : fld Tryd.prog 114 2 = some (2, 1, 3) := by kernel_rfl
theorem fld114_3 : fld Tryd.prog 114 3 = some (3, 1, 3) := by kernel_rfl
theorem gty38 : Tryd.prog.eqGuardType Tryd.prog.depth 38 = false := by kernel_rfl
theorem one111 : isOne Tryd.prog 111 = true := by kernel_rfl
theorem one25 : isOne Tryd.prog 25 = true := by kernel_rfl
theorem one3 : isOne Tryd.prog 3 = true := by kernel_rfl
theorem pls114 : pls Tryd.prog 114 = some #[(0, 1), (1, 1), (2, 1), (3, 1)] := by kernel_rfl
theorem siz3 : siz Tryd.prog 3 = some 1 := by kernel_rfl
theorem sli23 : sli Tryd.prog 23 = some (3, 1) := by kernel_rfl
theorem sli25 : sli Tryd.prog 25 = some (36, 1) := by kernel_rfl
theorem und111 : Tryd.prog.underlying 111 = some (.pointer 162) := by kernel_rfl
theorem und25 : Tryd.prog.underlying 25 = some (.slice 36) := by kernel_rfl
theorem und29 : Tryd.prog.underlying 29 = some (.pointer 114) := by kernel_rfl
theorem zer114 : zer Tryd.prog 114 = some (.agg #[.slice none 0 0, .pointer none, .int .i64 0, .int .i64 0]) := by kernel_rfl
theorem zer36 : zer Tryd.prog 36 = some (.int .u64 0) := by kernel_rfl
theorem clone64_ok (ws : List (BitVec 64)) (hroom : ws.length * 8 ≤ 140737488355328) (a0 : Option Addr) (n0 c0 : Nat) (hn0 : n0 = ws.length) (w : World) (hW : Rd E64 w a0 ws) : Calls Tryd.prog 56 [.slice a0 n0 c0].toArray w (Ret fun v w' => SlRes E64 36 ws w v w' ∧ Ext w w') := by
  subst hn0
  have H := Hp.start No w
  refine enter (n := 8) Tryd.func56 rfl rfl (Nat.le_of_ble_eq_true rfl) ?_
  refine seqRegion ?_
  refine sq (r_assign (v := .slice none 0 0) rfl) ?_
  refine wend ?_
  refine seqAny ?_
  refine seqRegion ?_
  refine sq (r_move (v := .slice a0 ws.length c0) rfl) ?_
  refine sq (r_eqlSN und25 rfl rfl) ?_
  refine wend ?_
  refine condBool (a0.isNone) rfl (fun c4 => ?_) (fun c4 => ?_)
  · skip
    refine seqRegion ?_
    refine sq (r_assign (v := .slice none 0 0) rfl) ?_
    refine wend ?_
    refine retAny ?_
    refine thenRet ?_
    refine retG (rs := [.tmp 2]) (vs := [.slice none 0 0]) rfl ⟨⟨rfl, rfl⟩, trivial⟩ ?_
    obtain rfl := nilOfRd hW c4
    exact ⟨_, rfl, ⟨none, 0, [], rfl, Sl.none, fun _ h => by cases h⟩, H.chg⟩
  · skip
    refine skipAny ?_
    refine thenNormal ?_
    refine seqRegion ?_
    refine q_buildSlice (E := E64) (l := []) H sli25 zer36 (Nat.le_of_ble_eq_true rfl) (ps := []) rfl (by exact fillAll rfl rfl) rfl ?_
    intro b1 w3 hS2 H4 _
    refine sq (r_move (v := .slice a0 ws.length c0) rfl) ?_
    refine q_append (E := E64) (k := 0) (l := []) (l2 := ws) H4 rfl hS2 sli25 zer36 rfl byt36 (hW.ext H4.chg) rfl (by rfl) rfl (by rfl) (by omega) ?_
    intro key5 c6 sp7 w9 hS8 hne11 H10
    have H10' := H10.as (L' := [(key5, sob E64 36 (([]) ++ ws) sp7)]) rfl
    clear H10
    have e12 : ([]) ++ ws = ws := by rw [List.nil_append]
    have hS13 := hS8
    rw [e12] at hS13
    have H14 := H10'.as (L' := [(key5, sob E64 36 ws sp7)]) (by rw [e12])
    refine sq (r_assign (v := .slice (ownA key5) (0 + ws.length) c6) rfl) ?_
    refine wend ?_
    refine retAny ?_
    refine retG (rs := [.tmp 2]) (vs := [.slice (ownA key5) (0 + ws.length) c6]) rfl ⟨⟨rfl, rfl⟩, trivial⟩ ?_
    exact ⟨_, rfl, H14.resN (k := 0) rfl hS13 (Nat.zero_add _), H14.chg⟩

theorem load_ok (ws : List (BitVec 64)) (hroom : ws.length * 8 ≤ 140737488355328) (a0 : Option Addr) (n0 c0 : Nat) (hn0 : n0 = ws.length) (w : World) (hW : Rd E64 w a0 ws) : Calls Tryd.prog 18 [.slice a0 n0 c0].toArray w (Ret fun v w' => (∃ b key c sp, v = .pointer (some ⟨b, 0, none⟩) ∧ Sl E64 key ws c sp ∧ Hp No w w' [(some b, .cells #[.slice (ownA key) ws.length c, .pointer none, i64 (ws.length : Nat), i64 (0 : Nat)] 114 (0, 0)), (key, sob E64 36 ws sp)]) ∧ Ext w w') := by
  subst hn0
  have H := Hp.start No w
  refine enter (n := 9) Tryd.func18 rfl rfl (Nat.le_of_ble_eq_true rfl) ?_
  refine seqRegion ?_
  refine sq (r_assign (v := .pointer none) rfl) ?_
  refine wend ?_
  refine seqRegion ?_
  refine sq (r_move (v := .slice a0 ws.length c0) rfl) ?_
  refine c_call (vs := [.slice a0 ws.length c0]) call56 rfl (clone64_ok ws (by omega) a0 ws.length c0 (by rfl) w (hW.ext H.chg)) ?_
  rintro _ w1 ⟨⟨key3, c4, sp5, rfl, hS6, hk7⟩, hE8⟩
  rw [show ws.length = ws.length from rfl]
  have H9 := H.add hE8 hk7
  refine sq (r_move (v := .slice a0 ws.length c0) rfl) ?_
  refine sq (r_lenS sli25 (a := a0) (m := ws.length) (c := c0) rfl) ?_
  refine sq (r_build (cs' := #[.slice (ownA key3) ws.length c4, .pointer none, i64 ((ws.length : Nat)), i64 ((0 : Int))]) (ps := [(0, .slice (ownA key3) ws.length c4), (2, i64 ((ws.length : Nat)))]) zer114 pls114 rfl (by rfl)) ?_
  refine q_box (v := .agg #[.slice (ownA key3) ws.length c4, .pointer none, i64 ((ws.length : Nat)), i64 ((0 : Int))]) (o := .cells #[.slice (ownA key3) ws.length c4, .pointer none, i64 ((ws.length : Nat)), i64 ((0 : Int))] 114 (0, 0)) H9 rfl (by rfl) ?_
  intro b10 w11 hb10 H12 hE13
  refine sq (r_assign (v := .pointer (some ⟨b10, 0, none⟩)) rfl) ?_
  refine wend ?_
  refine retAny ?_
  refine retG (rs := [.tmp 2]) (vs := [.pointer (some ⟨b10, 0, none⟩)]) rfl ⟨⟨rfl, rfl⟩, trivial⟩ ?_
  exact ⟨_, rfl, ⟨b10, key3, c4, sp5, rfl, hS6, H12⟩, H12.chg⟩

theorem used_ok (b n u : Nat) (x0 x1 : Value) (w : World) (hb : w.heap[b]? = some (.cells #[x0, x1, i64 ((n : Nat)), i64 ((u : Nat))] 114 (0, 0))) : Calls Tryd.prog 19 [.pointer (some ⟨b, 0, none⟩)].toArray w (Ret fun v w' => v = i64 (u : Nat) ∧ Ext w w') := by
  have H := Hp.start No w
  refine enter (n := 7) Tryd.func19 rfl rfl (Nat.le_of_ble_eq_true rfl) ?_
  refine seqRegion ?_
  refine sq (r_assign (v := i64 ((0 : Int))) rfl) ?_
  refine wend ?_
  refine seqRegion ?_
  refine sq (r_move (v := .pointer (some ⟨b, 0, none⟩)) rfl) ?_
  refine sq (r_nilCheck rfl) ?_
  refine sq (r_fieldAddr (off' := 3) fld114_3 (by decide) (b := b) (off := 0) rfl (by omega)) ?_
  refine sq (r_loadC (v := i64 ((u : Nat))) one3 (H.keepE hb) (off := 3) rfl (by rfl)) ?_
  refine sq (r_assign (v := i64 ((u : Nat))) rfl) ?_
  refine wend ?_
  refine retAny ?_
  refine retG (rs := [.tmp 2]) (vs := [i64 ((u : Nat))]) rfl ⟨⟨rfl, rfl⟩, trivial⟩ ?_
  exact ⟨_, rfl, rfl, H.chg⟩

theorem left_ok (b n u : Nat) (x0 x1 : Value) (w : World) (hb : w.heap[b]? = some (.cells #[x0, x1, i64 ((n : Nat)), i64 ((u : Nat))] 114 (0, 0))) (hu : u ≤ n) (hn : n ≤ 140737488355328) : Calls Tryd.prog 20 [.pointer (some ⟨b, 0, none⟩)].toArray w (Ret fun v w' => v = i64 ((n : Nat) - (u : Nat)) ∧ Ext w w') := by
  have H := Hp.start No w
  refine enter (n := 12) Tryd.func20 rfl rfl (Nat.le_of_ble_eq_true rfl) ?_
  refine seqRegion ?_
  refine sq (r_assign (v := i64 ((0 : Int))) rfl) ?_
  refine wend ?_
  refine seqAny ?_
  refine drawAny (K := [none, none, none, none, none, none, none, none, none, none]) [0, 1, 3, 7, 0, 16, 48, 112, 255, 511] (fun w' => Ext w w') (fun w' w'' => Ext w' w'') mixed (by kernel_rfl) (Ext.drew _) (fun _ _ h h' => h.trans h') ?_ ?_
  · exact relNone (by decide)
  refine ⟨.pointer (some ⟨b, 0, none⟩), fun _ uw1 hC2 _ => Gives.run rfl (r_move (v := .pointer (some ⟨b, 0, none⟩)) rfl) ⟨rfl, Chg.refl _ _⟩, ?_⟩
  refine ⟨.pointer (some ⟨b, 0, none⟩), fun _ uw3 hC4 _ => Gives.run rfl (r_nilCheck rfl) ⟨rfl, Chg.refl _ _⟩, ?_⟩
  refine ⟨.pointer (some ⟨b, 2, none⟩), fun _ uw5 hC6 _ => Gives.run rfl (r_fieldAddr (off' := 2) fld114_2 (by decide) (b := b) (off := 0) rfl (by omega)) ⟨rfl, Chg.refl _ _⟩, ?_⟩
  refine ⟨i64 ((n : Nat)), fun _ uw7 hC8 _ => Gives.run rfl (r_loadC (v := i64 ((n : Nat))) one3 ((H.ext hC8).keepE hb) (off := 2) rfl (by rfl)) ⟨rfl, Chg.refl _ _⟩, ?_⟩
  refine ⟨.pointer (some ⟨b, 0, none⟩), fun _ uw9 hC10 _ => Gives.run rfl (r_move (v := .pointer (some ⟨b, 0, none⟩)) rfl) ⟨rfl, Chg.refl _ _⟩, ?_⟩
  refine ⟨.pointer (some ⟨b, 0, none⟩), fun _ uw11 hC12 _ => Gives.run rfl (r_nilCheck rfl) ⟨rfl, Chg.refl _ _⟩, ?_⟩
  refine ⟨.pointer (some ⟨b, 3, none⟩), fun _ uw13 hC14 _ => Gives.run rfl (r_fieldAddr (off' := 3) fld114_3 (by decide) (b := b) (off := 0) rfl (by omega)) ⟨rfl, Chg.refl _ _⟩, ?_⟩
  refine ⟨i64 ((u : Nat)), fun _ uw15 hC16 _ => Gives.run rfl (r_loadC (v := i64 ((u : Nat))) one3 ((H.ext hC16).keepE hb) (off := 3) rfl (by rfl)) ⟨rfl, Chg.refl _ _⟩, ?_⟩
  refine ⟨i64 ((n : Nat) - (u : Nat)), fun _ uw17 hC18 _ => Gives.run rfl (r_subI (a := (n : Nat)) (b := (u : Nat)) rfl rfl (by omega)) ⟨rfl, Chg.refl _ _⟩, ?_⟩
  refine ⟨i64 ((n : Nat) - (u : Nat)), fun _ uw19 hC20 _ => Gives.run rfl (r_assign (v := i64 ((n : Nat) - (u : Nat))) rfl) ⟨rfl, Chg.refl _ _⟩, ?_⟩
  intro r24 w21 hE23 hF
  have H22 := H.ext hE23
  refine wnil ?_
  refine thenNormal ?_
  refine retAny ?_
  refine retG (rs := [.tmp 2]) (vs := [i64 ((n : Nat) - (u : Nat))]) rfl ⟨⟨rfl, rfl⟩, trivial⟩ ?_
  exact ⟨_, rfl, rfl, H22.chg⟩

theorem next_hit (b c u : Nat) (a : Option Addr) (ws : List (BitVec 64)) (w : World) (hb : w.heap[b]? = some (.cells #[.slice a ws.length c, .pointer none, i64 ((ws.length : Nat)), i64 ((u : Nat))] 114 (0, 0))) (hR : ∀ w', Chg (· = b) w w' → Rd E64 w' a ws) (hlen : ws.length ≤ 140737488355328) (hu : u < ws.length) : Calls Tryd.prog 22 [.pointer (some ⟨b, 0, none⟩)].toArray w (Ret fun v w' => v = .tuple #[u64 (ws.getD u 0#64), .nilIface] ∧ Chg (· = b) w w' ∧ w'.heap[b]? = some (.cells #[.slice a ws.length c, .pointer none, i64 ((ws.length : Nat)), i64 ((u + 1 : Nat))] 114 (0, 0))) := by
  have H := Hp.start1 (M := (· = b)) rfl hb
  refine enter (n := 50) Tryd.func22 rfl rfl (Nat.le_of_ble_eq_true rfl) ?_
  refine seqRegion ?_
  refine sq (r_assign (v := u64 (0#64)) rfl) ?_
  refine sq (r_assign (v := .nilIface) rfl) ?_
  refine wend ?_
  refine seqAny ?_
  refine seqAny ?_
  refine drawAny (K := [none, none, none, none, none, none, none, none, none]) [0, 1, 3, 7, 0, 16, 48, 112, 255] (fun w' => Ext w w') (fun w' w'' => Ext w' w'') mixed (by kernel_rfl) (Ext.drew _) (fun _ _ h h' => h.trans h') ?_ ?_
  · exact relNone (by decide)
  refine ⟨.pointer (some ⟨b, 0, none⟩), fun _ uw1 hC2 _ => Gives.run rfl (r_move (v := .pointer (some ⟨b, 0, none⟩)) rfl) ⟨rfl, Chg.refl _ _⟩, ?_⟩
  refine ⟨.pointer (some ⟨b, 0, none⟩), fun _ uw3 hC4 _ => Gives.run rfl (r_nilCheck rfl) ⟨rfl, Chg.refl _ _⟩, ?_⟩
  refine ⟨.pointer (some ⟨b, 3, none⟩), fun _ uw5 hC6 _ => Gives.run rfl (r_fieldAddr (off' := 3) fld114_3 (by decide) (b := b) (off := 0) rfl (by omega)) ⟨rfl, Chg.refl _ _⟩, ?_⟩
  refine ⟨i64 ((u : Nat)), fun _ uw7 hC8 _ => Gives.run rfl (r_loadC (v := i64 ((u : Nat))) one3 ((H.ext hC8).get (k := 0) rfl) (off := 3) rfl (by rfl)) ⟨rfl, Chg.refl _ _⟩, ?_⟩
  refine ⟨.pointer (some ⟨b, 0, none⟩), fun _ uw9 hC10 _ => Gives.run rfl (r_move (v := .pointer (some ⟨b, 0, none⟩)) rfl) ⟨rfl, Chg.refl _ _⟩, ?_⟩
  refine ⟨.pointer (some ⟨b, 0, none⟩), fun _ uw11 hC12 _ => Gives.run rfl (r_nilCheck rfl) ⟨rfl, Chg.refl _ _⟩, ?_⟩
  refine ⟨.pointer (some ⟨b, 2, none⟩), fun _ uw13 hC14 _ => Gives.run rfl (r_fieldAddr (off' := 2) fld114_2 (by decide) (b := b) (off := 0) rfl (by omega)) ⟨rfl, Chg.refl _ _⟩, ?_⟩
  refine ⟨i64 ((ws.length : Nat)), fun _ uw15 hC16 _ => Gives.run rfl (r_loadC (v := i64 ((ws.length : Nat))) one3 ((H.ext hC16).get (k := 0) rfl) (off := 2) rfl (by rfl)) ⟨rfl, Chg.refl _ _⟩, ?_⟩
  refine ⟨.bool (decide (((ws.length : Nat) : Int) ≤ (u : Nat))), fun _ uw17 hC18 _ => Gives.run rfl (r_geqI (a := (u : Nat)) (b := (ws.length : Nat)) rfl rfl) ⟨rfl, Chg.refl _ _⟩, ?_⟩
  intro r22 w19 hE21 hF
  have H20 := H.ext hE21
  refine wnil ?_
  refine thenNormal ?_
  refine condProp (((ws.length : Nat) : Int) ≤ (u : Nat)) rfl (fun c13 => ?_) (fun c13 => ?_)
  · skip
    exfalso
    omega
  · skip
    refine skipAny ?_
    refine thenNormal ?_
    refine seqRegion ?_
    refine sq (r_move (v := .pointer (some ⟨b, 0, none⟩)) rfl) ?_
    refine sq (r_nilCheck rfl) ?_
    refine sq (r_fieldAddr (off' := 3) fld114_3 (by decide) (b := b) (off := 0) rfl (by omega)) ?_
    refine sq (r_loadC (v := i64 ((u : Nat))) one3 (H20.get (k := 0) rfl) (off := 3) rfl (by rfl)) ?_
    refine sq (r_assign (v := i64 ((u : Nat))) rfl) ?_
    refine wend ?_
    refine seqRegion ?_
    refine sq (r_move (v := .pointer (some ⟨b, 0, none⟩)) rfl) ?_
    refine sq (r_nilCheck rfl) ?_
    refine sq (r_fieldAddr (off' := 3) fld114_3 (by decide) (b := b) (off := 0) rfl (by omega)) ?_
    refine sq (r_loadC (v := i64 ((u : Nat))) one3 (H20.get (k := 0) rfl) (off := 3) rfl (by rfl)) ?_
    refine sq (r_addI (a := (u : Nat)) (b := (1 : Int)) rfl rfl (by omega)) ?_
    refine sq (r_nilCheck rfl) ?_
    refine sq (r_fieldAddr (off' := 3) fld114_3 (by decide) (b := b) (off := 0) rfl (by omega)) ?_
    refine d_store (k := 0) (v := i64 ((u : Nat) + (1 : Int))) (cs' := #[.slice a ws.length c, .pointer none, i64 ((ws.length : Nat)), i64 ((u : Nat) + (1 : Int))]) H20 rfl rfl rfl siz3 (by rfl) (by exact EI.one _) (by exact Nat.le_of_ble_eq_true rfl) (by rfl) ?_
    intro w23 H24 hC25
    have H24' := H24.as (L' := [(some b, .cells #[.slice a ws.length c, .pointer none, i64 ((ws.length : Nat)), i64 ((u : Nat) + (1 : Int))] 114 (0, 0))]) rfl
    clear H24
    refine wend ?_
    refine seqAny ?_
    refine seqRegion ?_
    refine sq (r_move (v := .pointer (some ⟨b, 0, none⟩)) rfl) ?_
    refine sq (r_nilCheck rfl) ?_
    refine sq (r_fieldAddr (off' := 1) fld114_1 (by decide) (b := b) (off := 0) rfl (by omega)) ?_
    refine sq (r_loadC (v := .pointer none) one111 (H24'.get (k := 0) rfl) (off := 1) rfl (by rfl)) ?_
    refine sq (r_neqPO und111 rfl rfl) ?_
    refine wend ?_
    refine condFalse rfl ?_
    refine skipAny ?_
    refine thenNormal ?_
    refine seqRegion ?_
    refine sq (r_move (v := .pointer (some ⟨b, 0, none⟩)) rfl) ?_
    refine sq (r_nilCheck rfl) ?_
    refine sq (r_fieldAddr (off' := 0) fld114_0 (by decide) (b := b) (off := 0) rfl (by omega)) ?_
    refine sq (r_loadC (v := .slice a ws.length c) one25 (H24'.get (k := 0) rfl) (off := 0) rfl (by rfl)) ?_
    refine sq (r_move (v := i64 ((u : Nat))) rfl) ?_
    refine sq (r_idxS (E := E64) (l := ws) (j := u) sli25 (hR _ H24'.chg) rfl rfl (by first | rfl | omega | (simp; omega)) (by rfl) (by omega)) ?_
    refine sq (r_ldS (E := E64) (l := ws) (j := u) (v := (ws).getD u 0#64) fits36 (hR _ H24'.chg) rfl rfl (at_getD (by omega))) ?_
    refine sq (r_assign (v := u64 ((ws).getD u 0#64)) rfl) ?_
    refine sq (r_assign (v := .nilIface) rfl) ?_
    refine wend ?_
    refine retAny ?_
    refine retG (rs := [.tmp 2, .tmp 3]) (vs := [u64 ((ws).getD u 0#64), .nilIface]) rfl ⟨⟨rfl, rfl⟩, ⟨rfl, rfl⟩, trivial⟩ ?_
    exact ⟨_, rfl, rfl, H24'.chg, H24'.get (k := 0) rfl⟩

theorem next_end (b n u : Nat) (x0 x1 : Value) (w : World) (hG : Gl w) (hb : w.heap[b]? = some (.cells #[x0, x1, i64 ((n : Nat)), i64 ((u : Nat))] 114 (0, 0))) (hu : n ≤ u) : Calls Tryd.prog 22 [.pointer (some ⟨b, 0, none⟩)].toArray w (Ret fun v w' => (∃ ev, v = .tuple #[u64 0#64, ev] ∧ Er w.heap.size w' 40 1 ev) ∧ Ext w w') := by
  have H := Hp.start No w
  refine enter (n := 50) Tryd.func22 rfl rfl (Nat.le_of_ble_eq_true rfl) ?_
  refine seqRegion ?_
  refine sq (r_assign (v := u64 (0#64)) rfl) ?_
  refine sq (r_assign (v := .nilIface) rfl) ?_
  refine wend ?_
  refine seqAny ?_
  refine seqAny ?_
  refine drawAny (K := [none, none, none, none, none, none, none, none, none]) [0, 1, 3, 7, 0, 16, 48, 112, 255] (fun w' => Ext w w') (fun w' w'' => Ext w' w'') mixed (by kernel_rfl) (Ext.drew _) (fun _ _ h h' => h.trans h') ?_ ?_
  · exact relNone (by decide)
  refine ⟨.pointer (some ⟨b, 0, none⟩), fun _ uw1 hC2 _ => Gives.run rfl (r_move (v := .pointer (some ⟨b, 0, none⟩)) rfl) ⟨rfl, Chg.refl _ _⟩, ?_⟩
  refine ⟨.pointer (some ⟨b, 0, none⟩), fun _ uw3 hC4 _ => Gives.run rfl (r_nilCheck rfl) ⟨rfl, Chg.refl _ _⟩, ?_⟩
  refine ⟨.pointer (some ⟨b, 3, none⟩), fun _ uw5 hC6 _ => Gives.run rfl (r_fieldAddr (off' := 3) fld114_3 (by decide) (b := b) (off := 0) rfl (by omega)) ⟨rfl, Chg.refl _ _⟩, ?_⟩
  refine ⟨i64 ((u : Nat)), fun _ uw7 hC8 _ => Gives.run rfl (r_loadC (v := i64 ((u : Nat))) one3 ((H.ext hC8).keepE hb) (off := 3) rfl (by rfl)) ⟨rfl, Chg.refl _ _⟩, ?_⟩
  refine ⟨.pointer (some ⟨b, 0, none⟩), fun _ uw9 hC10 _ => Gives.run rfl (r_move (v := .pointer (some ⟨b, 0, none⟩)) rfl) ⟨rfl, Chg.refl _ _⟩, ?_⟩
  refine ⟨.pointer (some ⟨b, 0, none⟩), fun _ uw11 hC12 _ => Gives.run rfl (r_nilCheck rfl) ⟨rfl, Chg.refl _ _⟩, ?_⟩
  refine ⟨.pointer (some ⟨b, 2, none⟩), fun _ uw13 hC14 _ => Gives.run rfl (r_fieldAddr (off' := 2) fld114_2 (by decide) (b := b) (off := 0) rfl (by omega)) ⟨rfl, Chg.refl _ _⟩, ?_⟩
  refine ⟨i64 ((n : Nat)), fun _ uw15 hC16 _ => Gives.run rfl (r_loadC (v := i64 ((n : Nat))) one3 ((H.ext hC16).keepE hb) (off := 2) rfl (by rfl)) ⟨rfl, Chg.refl _ _⟩, ?_⟩
  refine ⟨.bool (decide (((n : Nat) : Int) ≤ (u : Nat))), fun _ uw17 hC18 _ => Gives.run rfl (r_geqI (a := (u : Nat)) (b := (n : Nat)) rfl rfl) ⟨rfl, Chg.refl _ _⟩, ?_⟩
  intro r22 w19 hE21 hF
  have H20 := H.ext hE21
  refine wnil ?_
  refine thenNormal ?_
  refine condProp (((n : Nat) : Int) ≤ (u : Nat)) rfl (fun c13 => ?_) (fun c13 => ?_)
  · skip
    refine seqRegion ?_
    refine sq (r_mkI und62 (xv := i64 ((40 : Int))) rfl) ?_
    refine sq (r_move (v := .pointer (some ⟨b, 0, none⟩)) rfl) ?_
    refine sq (r_nilCheck rfl) ?_
    refine sq (r_fieldAddr (off' := 3) fld114_3 (by decide) (b := b) (off := 0) rfl (by omega)) ?_
    refine sq (r_loadC (v := i64 ((u : Nat))) one3 (H20.keepE hb) (off := 3) rfl (by rfl)) ?_
    refine c_call (vs := [.iface 62 (i64 ((40 : Int))), .string ({data := #[116, 97, 112, 101]}), i64 ((u : Nat))]) call57 rfl (wrap0_ok (40 : Int) (u : Nat) ({data := #[116, 97, 112, 101]}) w19 (Chg.gl H20.chg (fun x => x) hG)) ?_
    rintro v25 w23 ⟨hEr26, hE27⟩
    have H28 := H20.ext hE27
    obtain ⟨T29, x30, rfl⟩ := hEr26.iface
    refine sq (r_assign (v := u64 (0#64)) rfl) ?_
    refine sq (r_assign (v := .iface T29 (x30)) rfl) ?_
    refine wend ?_
    refine retAny ?_
    refine thenRet ?_
    refine retG (rs := [.tmp 2, .tmp 3]) (vs := [u64 (0#64), .iface T29 (x30)]) rfl ⟨⟨rfl, rfl⟩, ⟨rfl, rfl⟩, trivial⟩ ?_
    exact ⟨_, rfl, ⟨_, rfl, hEr26.mono H20.chg.size⟩, H28.chg⟩
  · skip
    exfalso
    omega

theorem label_hit (b c u : Nat) (a : Option Addr) (ws : List (BitVec 64)) (w : World) (hb : w.heap[b]? = some (.cells #[.slice a ws.length c, .pointer none, i64 ((ws.length : Nat)), i64 ((u : Nat))] 114 (0, 0))) (hR : ∀ w', Chg (· = b) w w' → Rd E64 w' a ws) (hlen : ws.length ≤ 140737488355328) (hu : u + 2 ≤ ws.length) : Calls Tryd.prog 21 [.pointer (some ⟨b, 0, none⟩)].toArray w (Ret fun v w' => v = .tuple #[.agg (cel E64 [ws.getD u 0#64, ws.getD (u + 1) 0#64]).toArray, .nilIface] ∧ Chg (· = b) w w' ∧ w'.heap[b]? = some (.cells #[.slice a ws.length c, .pointer none, i64 ((ws.length : Nat)), i64 ((u + 2 : Nat))] 114 (0, 0))) := by
  have H := Hp.start1 (M := (· = b)) rfl hb
  refine enter (n := 31) Tryd.func21 rfl rfl (Nat.le_of_ble_eq_true rfl) ?_
  refine seqRegion ?_
  refine q_alloc (o := .cells (cel E64 ([0#64, 0#64])).toArray 38 (0, 0)) H zer38 (by kernel_rfl) ?_
  intro b1 w2 hb1 H3 hE4
  refine sq (r_assign (v := .nilIface) rfl) ?_
  refine wend ?_
  refine seqAny ?_
  refine seqRegion ?_
  refine sq (r_move (v := .pointer (some ⟨b, 0, none⟩)) rfl) ?_
  refine c_call (vs := [.pointer (some ⟨b, 0, none⟩)]) call20 rfl (left_ok b ws.length u (.slice a ws.length c) (.pointer none) w2 (H3.get (k := 1) rfl) (by omega) (by omega)) ?_
  rintro _ w5 ⟨rfl, hE6⟩
  have H7 := H3.ext hE6
  refine sq (r_lssI (a := (ws.length : Nat) - (u : Nat)) (b := (2 : Int)) rfl rfl) ?_
  refine wend ?_
  refine condProp (((ws.length : Nat) - (u : Nat) : Int) < (2 : Int)) rfl (fun c10 => ?_) (fun c10 => ?_)
  · skip
    exfalso
    omega
  · skip
    refine skipAny ?_
    refine thenNormal ?_
    refine seqRegion ?_
    refine sq (r_move (v := .pointer (some ⟨b, 0, none⟩)) rfl) ?_
    refine c_call (vs := [.pointer (some ⟨b, 0, none⟩)]) call22 rfl (next_hit b c u a ws w5 (H7.get (k := 1) rfl) (fun w' h => hR w' (H7.chg.trans h)) (by omega) (by omega)) ?_
    rintro _ w8 ⟨rfl, hC10, hn11⟩
    have H12 := (H7.set (k := 1) rfl hC10 hn11).as (L' := [(some b1, .cells (cel E64 ([0#64, 0#64])).toArray 38 (0, 0)), (some b, .cells #[.slice a ws.length c, .pointer none, i64 ((ws.length : Nat)), i64 ((u + 1 : Nat))] 114 (0, 0))]) rfl
    refine sq (r_move (v := .tuple #[u64 (ws.getD u 0#64), .nilIface]) rfl) ?_
    refine sq (r_extract (vs := #[u64 (ws.getD u 0#64), .nilIface]) rfl rfl) ?_
    refine sq (r_extract (vs := #[u64 (ws.getD u 0#64), .nilIface]) rfl rfl) ?_
    refine sq (r_assign (v := u64 (ws.getD u 0#64)) rfl) ?_
    refine sq (r_assign (v := .nilIface) rfl) ?_
    refine wend ?_
    refine seqRegion ?_
    refine sq (r_move (v := .pointer (some ⟨b, 0, none⟩)) rfl) ?_
    refine c_call (vs := [.pointer (some ⟨b, 0, none⟩)]) call22 rfl (next_hit b c (u + 1) a ws w8 (H12.get (k := 1) rfl) (fun w' h => hR w' (H12.chg.trans h)) (by omega) (by omega)) ?_
    rintro _ w13 ⟨rfl, hC15, hn16⟩
    have H17 := (H12.set (k := 1) rfl hC15 hn16).as (L' := [(some b1, .cells (cel E64 ([0#64, 0#64])).toArray 38 (0, 0)), (some b, .cells #[.slice a ws.length c, .pointer none, i64 ((ws.length : Nat)), i64 ((u + 1 + 1 : Nat))] 114 (0, 0))]) rfl
    refine sq (r_move (v := .tuple #[u64 (ws.getD (u + 1) 0#64), .nilIface]) rfl) ?_
    refine sq (r_extract (vs := #[u64 (ws.getD (u + 1) 0#64), .nilIface]) rfl rfl) ?_
    refine sq (r_extract (vs := #[u64 (ws.getD (u + 1) 0#64), .nilIface]) rfl rfl) ?_
    refine sq (r_assign (v := u64 (ws.getD (u + 1) 0#64)) rfl) ?_
    refine sq (r_assign (v := .nilIface) rfl) ?_
    refine wend ?_
    refine seqRegion ?_
    refine sq (r_move (v := u64 (ws.getD u 0#64)) rfl) ?_
    refine sq (r_move (v := u64 (ws.getD (u + 1) 0#64)) rfl) ?_
    refine sq (r_buildA (cs' := (cel E64 [ws.getD u 0#64, ws.getD (u + 1) 0#64]).toArray) (ps := [(0, u64 (ws.getD u 0#64)), (1, u64 (ws.getD (u + 1) 0#64))]) zer38 arr38 rfl (by rfl)) ?_
    refine d_store (k := 0) (v := .agg (cel E64 [ws.getD u 0#64, ws.getD (u + 1) 0#64]).toArray) (cs' := (cel E64 ([ws.getD u 0#64, ws.getD (u + 1) 0#64])).toArray) H17 rfl rfl rfl siz38 (by exact celSize (by first | rfl | (show _ * 1 = _; omega))) (by exact celOne _) (by rw [List.size_toArray, cel_length]; show _ ≤ _ * 1; first | omega | (simp only [List.length_set]; omega) | exact Nat.le_of_ble_eq_true rfl | (simp <;> omega)) (by exact putAll (by first | rfl | omega | (simp <;> omega))) ?_
    intro w18 H19 hC20
    have H19' := H19.as (L' := [(some b1, .cells (cel E64 ([ws.getD u 0#64, ws.getD (u + 1) 0#64])).toArray 38 (0, 0)), (some b, .cells #[.slice a ws.length c, .pointer none, i64 ((ws.length : Nat)), i64 ((u + 1 + 1 : Nat))] 114 (0, 0))]) rfl
    clear H19
    refine sq (r_assign (v := .nilIface) rfl) ?_
    refine wend ?_
    refine retAny ?_
    refine retG (rs := [.cell 2 38, .tmp 3]) (vs := [.agg (cel E64 ([ws.getD u 0#64, ws.getD (u + 1) 0#64])).toArray, .nilIface]) rfl ⟨r_loadA (cs' := (cel E64 ([ws.getD u 0#64, ws.getD (u + 1) 0#64])).toArray) agg38 siz38 (H19'.get (k := 0) rfl) (off := 0) rfl (by exact Nat.le_of_ble_eq_true rfl) (by exact ext_all rfl), ⟨rfl, rfl⟩, trivial⟩ ?_
    exact ⟨_, rfl, rfl, H19'.chg, H19'.get (k := 1) rfl⟩

theorem label_end (b n u : Nat) (x0 x1 : Value) (w : World) (hG : Gl w) (hb : w.heap[b]? = some (.cells #[x0, x1, i64 ((n : Nat)), i64 ((u : Nat))] 114 (0, 0))) (hu : n < u + 2) (hul : u ≤ n) (hlen : n ≤ 140737488355328) : Calls Tryd.prog 21 [.pointer (some ⟨b, 0, none⟩)].toArray w (Ret fun v w' => (∃ ev, v = .tuple #[.agg (cel E64 [0#64, 0#64]).toArray, ev] ∧ Er w.heap.size w' 40 1 ev) ∧ Ext w w') := by
  have H := Hp.start No w
  refine enter (n := 31) Tryd.func21 rfl rfl (Nat.le_of_ble_eq_true rfl) ?_
  refine seqRegion ?_
  refine q_alloc (o := .cells (cel E64 ([0#64, 0#64])).toArray 38 (0, 0)) H zer38 (by kernel_rfl) ?_
  intro b1 w2 hb1 H3 hE4
  refine sq (r_assign (v := .nilIface) rfl) ?_
  refine wend ?_
  refine seqAny ?_
  refine seqRegion ?_
  refine sq (r_move (v := .pointer (some ⟨b, 0, none⟩)) rfl) ?_
  refine c_call (vs := [.pointer (some ⟨b, 0, none⟩)]) call20 rfl (left_ok b n u (x0) (x1) w2 (H3.keepE hb) (by omega) (by omega)) ?_
  rintro _ w5 ⟨rfl, hE6⟩
  have H7 := H3.ext hE6
  refine sq (r_lssI (a := (n : Nat) - (u : Nat)) (b := (2 : Int)) rfl rfl) ?_
  refine wend ?_
  refine condProp (((n : Nat) - (u : Nat) : Int) < (2 : Int)) rfl (fun c10 => ?_) (fun c10 => ?_)
  · skip
    refine seqRegion ?_
    refine sq (r_buildA (cs' := (cel E64 [0#64, 0#64]).toArray) (ps := []) zer38 arr38 rfl (by rfl)) ?_
    refine sq (r_mkI und62 (xv := i64 ((40 : Int))) rfl) ?_
    refine sq (r_move (v := .pointer (some ⟨b, 0, none⟩)) rfl) ?_
    refine sq (r_nilCheck rfl) ?_
    refine sq (r_fieldAddr (off' := 3) fld114_3 (by decide) (b := b) (off := 0) rfl (by omega)) ?_
    refine sq (r_loadC (v := i64 ((u : Nat))) one3 (H7.keepE hb) (off := 3) rfl (by rfl)) ?_
    have := H7.lt (List.mem_of_getElem? (i := 0) rfl) rfl
    refine c_call (vs := [.iface 62 (i64 ((40 : Int))), .string ({data := #[116, 97, 112, 101]}), i64 ((u : Nat))]) call57 rfl (wrap0_ok (40 : Int) (u : Nat) ({data := #[116, 97, 112, 101]}) w5 (Chg.gl H7.chg (fun x => x) hG)) ?_
    rintro v10 w8 ⟨hEr11, hE12⟩
    have H13 := H7.ext hE12
    obtain ⟨T14, x15, rfl⟩ := hEr11.iface
    refine d_store (k := 0) (v := .agg (cel E64 [0#64, 0#64]).toArray) (cs' := (cel E64 ([0#64, 0#64])).toArray) H13 rfl rfl rfl siz38 (by exact celSize (by first | rfl | (show _ * 1 = _; omega))) (by exact celOne _) (by rw [List.size_toArray, cel_length]; show _ ≤ _ * 1; first | omega | (simp only [List.length_set]; omega) | exact Nat.le_of_ble_eq_true rfl | (simp <;> omega)) (by exact putAll (by first | rfl | omega | (simp <;> omega))) ?_
    intro w16 H17 hC18
    have H17' := H17.as (L' := [(some b1, .cells (cel E64 ([0#64, 0#64])).toArray 38 (0, 0))]) rfl
    clear H17
    refine sq (r_assign (v := .iface T14 (x15)) rfl) ?_
    refine wend ?_
    refine retAny ?_
    refine thenRet ?_
    refine retG (rs := [.cell 2 38, .tmp 3]) (vs := [.agg (cel E64 ([0#64, 0#64])).toArray, .iface T14 (x15)]) rfl ⟨r_loadA (cs' := (cel E64 ([0#64, 0#64])).toArray) agg38 siz38 (H17'.get (k := 0) rfl) (off := 0) rfl (by exact Nat.le_of_ble_eq_true rfl) (by exact ext_all rfl), ⟨rfl, rfl⟩, trivial⟩ ?_
    exact ⟨_, rfl, ⟨_, rfl, (Er.chgs (hC18.mono (M' := fun x => x = b1) (fun _ h => by subst h; simp)) (fun x h1 h2 h3 => by have := hC18.size; rcases h3 with rfl <;> omega) hEr11).mono H7.chg.size⟩, H17'.chg⟩
  · skip
    exfalso
    omega

theorem next_hit_c (b bc u n : Nat) (cl : List By) (hcl : cl.length = 432) (w : World) (hb : w.heap[b]? = some (.cells #[.slice none 0 0, .pointer (some ⟨bc, 0, none⟩), i64 ((n : Nat)), i64 ((u : Nat))] 114 (0, 0))) (hc : ∀ w', Chg (· = b) w w' → w'.heap[bc]? = some (.cells (cel E8 cl).toArray 162 (0, 0))) (hn : n ≤ 1048576) (hu : u < n) : Calls Tryd.prog 22 [.pointer (some ⟨b, 0, none⟩)].toArray w (Ret fun v w' => v = .tuple #[u64 (wordL cl (BitVec.ofInt 64 ((u : Nat)))), .nilIface] ∧ Chg (· = b) w w' ∧ w'.heap[b]? = some (.cells #[.slice none 0 0, .pointer (some ⟨bc, 0, none⟩), i64 ((n : Nat)), i64 ((u + 1 : Nat))] 114 (0, 0))) := by
  have H := Hp.start1 (M := (· = b)) rfl hb
  refine enter (n := 50) Tryd.func22 rfl rfl (Nat.le_of_ble_eq_true rfl) ?_
  refine seqRegion ?_
  refine sq (r_assign (v := u64 (0#64)) rfl) ?_
  refine sq (r_assign (v := .nilIface) rfl) ?_
  refine wend ?_
  refine seqAny ?_
  refine seqAny ?_
  refine drawAny (K := [none, none, none, none, none, none, none, none, none]) [0, 1, 3, 7, 0, 16, 48, 112, 255] (fun w' => Ext w w') (fun w' w'' => Ext w' w'') mixed (by kernel_rfl) (Ext.drew _) (fun _ _ h h' => h.trans h') ?_ ?_
  · exact relNone (by decide)
  refine ⟨.pointer (some ⟨b, 0, none⟩), fun _ uw1 hC2 _ => Gives.run rfl (r_move (v := .pointer (some ⟨b, 0, none⟩)) rfl) ⟨rfl, Chg.refl _ _⟩, ?_⟩
  refine ⟨.pointer (some ⟨b, 0, none⟩), fun _ uw3 hC4 _ => Gives.run rfl (r_nilCheck rfl) ⟨rfl, Chg.refl _ _⟩, ?_⟩
  refine ⟨.pointer (some ⟨b, 3, none⟩), fun _ uw5 hC6 _ => Gives.run rfl (r_fieldAddr (off' := 3) fld114_3 (by decide) (b := b) (off := 0) rfl (by omega)) ⟨rfl, Chg.refl _ _⟩, ?_⟩
  refine ⟨i64 ((u : Nat)), fun _ uw7 hC8 _ => Gives.run rfl (r_loadC (v := i64 ((u : Nat))) one3 ((H.ext hC8).get (k := 0) rfl) (off := 3) rfl (by rfl)) ⟨rfl, Chg.refl _ _⟩, ?_⟩
  refine ⟨.pointer (some ⟨b, 0, none⟩), fun _ uw9 hC10 _ => Gives.run rfl (r_move (v := .pointer (some ⟨b, 0, none⟩)) rfl) ⟨rfl, Chg.refl _ _⟩, ?_⟩
  refine ⟨.pointer (some ⟨b, 0, none⟩), fun _ uw11 hC12 _ => Gives.run rfl (r_nilCheck rfl) ⟨rfl, Chg.refl _ _⟩, ?_⟩
  refine ⟨.pointer (some ⟨b, 2, none⟩), fun _ uw13 hC14 _ => Gives.run rfl (r_fieldAddr (off' := 2) fld114_2 (by decide) (b := b) (off := 0) rfl (by omega)) ⟨rfl, Chg.refl _ _⟩, ?_⟩
  refine ⟨i64 ((n : Nat)), fun _ uw15 hC16 _ => Gives.run rfl (r_loadC (v := i64 ((n : Nat))) one3 ((H.ext hC16).get (k := 0) rfl) (off := 2) rfl (by rfl)) ⟨rfl, Chg.refl _ _⟩, ?_⟩
  refine ⟨.bool (decide (((n : Nat) : Int) ≤ (u : Nat))), fun _ uw17 hC18 _ => Gives.run rfl (r_geqI (a := (u : Nat)) (b := (n : Nat)) rfl rfl) ⟨rfl, Chg.refl _ _⟩, ?_⟩
  intro r22 w19 hE21 hF
  have H20 := H.ext hE21
  refine wnil ?_
  refine thenNormal ?_
  refine condProp (((n : Nat) : Int) ≤ (u : Nat)) rfl (fun c13 => ?_) (fun c13 => ?_)
  · skip
    exfalso
    omega
  · skip
    refine skipAny ?_
    refine thenNormal ?_
    refine seqRegion ?_
    refine sq (r_move (v := .pointer (some ⟨b, 0, none⟩)) rfl) ?_
    refine sq (r_nilCheck rfl) ?_
    refine sq (r_fieldAddr (off' := 3) fld114_3 (by decide) (b := b) (off := 0) rfl (by omega)) ?_
    refine sq (r_loadC (v := i64 ((u : Nat))) one3 (H20.get (k := 0) rfl) (off := 3) rfl (by rfl)) ?_
    refine sq (r_assign (v := i64 ((u : Nat))) rfl) ?_
    refine wend ?_
    refine seqRegion ?_
    refine sq (r_move (v := .pointer (some ⟨b, 0, none⟩)) rfl) ?_
    refine sq (r_nilCheck rfl) ?_
    refine sq (r_fieldAddr (off' := 3) fld114_3 (by decide) (b := b) (off := 0) rfl (by omega)) ?_
    refine sq (r_loadC (v := i64 ((u : Nat))) one3 (H20.get (k := 0) rfl) (off := 3) rfl (by rfl)) ?_
    refine sq (r_addI (a := (u : Nat)) (b := (1 : Int)) rfl rfl (by omega)) ?_
    refine sq (r_nilCheck rfl) ?_
    refine sq (r_fieldAddr (off' := 3) fld114_3 (by decide) (b := b) (off := 0) rfl (by omega)) ?_
    refine d_store (k := 0) (v := i64 ((u : Nat) + (1 : Int))) (cs' := #[.slice none 0 0, .pointer (some ⟨bc, 0, none⟩), i64 ((n : Nat)), i64 ((u : Nat) + (1 : Int))]) H20 rfl rfl rfl siz3 (by rfl) (by exact EI.one _) (by exact Nat.le_of_ble_eq_true rfl) (by rfl) ?_
    intro w23 H24 hC25
    have H24' := H24.as (L' := [(some b, .cells #[.slice none 0 0, .pointer (some ⟨bc, 0, none⟩), i64 ((n : Nat)), i64 ((u : Nat) + (1 : Int))] 114 (0, 0))]) rfl
    clear H24
    refine wend ?_
    refine seqAny ?_
    refine seqRegion ?_
    refine sq (r_move (v := .pointer (some ⟨b, 0, none⟩)) rfl) ?_
    refine sq (r_nilCheck rfl) ?_
    refine sq (r_fieldAddr (off' := 1) fld114_1 (by decide) (b := b) (off := 0) rfl (by omega)) ?_
    refine sq (r_loadC (v := .pointer (some ⟨bc, 0, none⟩)) one111 (H24'.get (k := 0) rfl) (off := 1) rfl (by rfl)) ?_
    refine sq (r_neqPN und111 rfl rfl) ?_
    refine wend ?_
    refine condTrue rfl ?_
    refine seqRegion ?_
    refine sq (r_move (v := .pointer (some ⟨b, 0, none⟩)) rfl) ?_
    refine sq (r_nilCheck rfl) ?_
    refine sq (r_fieldAddr (off' := 1) fld114_1 (by decide) (b := b) (off := 0) rfl (by omega)) ?_
    refine sq (r_loadC (v := .pointer (some ⟨bc, 0, none⟩)) one111 (H24'.get (k := 0) rfl) (off := 1) rfl (by rfl)) ?_
    refine sq (r_move (v := i64 ((u : Nat))) rfl) ?_
    refine sq (r_Ito64 und3 und36 (a := (u : Nat)) rfl) ?_
    refine c_call (vs := [.pointer (some ⟨bc, 0, none⟩), u64 (BitVec.ofInt 64 (u : Nat))]) call58 rfl (word_ok bc cl hcl (BitVec.ofInt 64 (u : Nat)) w23 (hc _ H24'.chg)) ?_
    rintro _ w26 ⟨rfl, hE27⟩
    have H28 := H24'.ext hE27
    refine sq (r_assign (v := u64 (wordL cl (BitVec.ofInt 64 (u : Nat)))) rfl) ?_
    refine sq (r_assign (v := .nilIface) rfl) ?_
    refine wend ?_
    refine retAny ?_
    refine thenRet ?_
    refine retG (rs := [.tmp 2, .tmp 3]) (vs := [u64 (wordL cl (BitVec.ofInt 64 (u : Nat))), .nilIface]) rfl ⟨⟨rfl, rfl⟩, ⟨rfl, rfl⟩, trivial⟩ ?_
    exact ⟨_, rfl, rfl, H28.chg, H28.get (k := 0) rfl⟩

theorem label_hit_c (b bc u n : Nat) (cl : List By) (hcl : cl.length = 432) (w : World) (hb : w.heap[b]? = some (.cells #[.slice none 0 0, .pointer (some ⟨bc, 0, none⟩), i64 ((n : Nat)), i64 ((u : Nat))] 114 (0, 0))) (hc : ∀ w', Chg (· = b) w w' → w'.heap[bc]? = some (.cells (cel E8 cl).toArray 162 (0, 0))) (hn : n ≤ 1048576) (hu : u + 2 ≤ n) : Calls Tryd.prog 21 [.pointer (some ⟨b, 0, none⟩)].toArray w (Ret fun v w' => v = .tuple #[.agg (cel E64 [wordL cl (BitVec.ofInt 64 ((u : Nat))), wordL cl (BitVec.ofInt 64 ((u + 1 : Nat)))]).toArray, .nilIface] ∧ Chg (· = b) w w' ∧ w'.heap[b]? = some (.cells #[.slice none 0 0, .pointer (some ⟨bc, 0, none⟩), i64 ((n : Nat)), i64 ((u + 2 : Nat))] 114 (0, 0))) := by
  have H := Hp.start1 (M := (· = b)) rfl hb
  refine enter (n := 31) Tryd.func21 rfl rfl (Nat.le_of_ble_eq_true rfl) ?_
  refine seqRegion ?_
  refine q_alloc (o := .cells (cel E64 ([0#64, 0#64])).toArray 38 (0, 0)) H zer38 (by kernel_rfl) ?_
  intro b1 w2 hb1 H3 hE4
  refine sq (r_assign (v := .nilIface) rfl) ?_
  refine wend ?_
  refine seqAny ?_
  refine seqRegion ?_
  refine sq (r_move (v := .pointer (some ⟨b, 0, none⟩)) rfl) ?_
  refine c_call (vs := [.pointer (some ⟨b, 0, none⟩)]) call20 rfl (left_ok b n u (.slice none 0 0) (.pointer (some ⟨bc, 0, none⟩)) w2 (H3.get (k := 1) rfl) (by omega) (by omega)) ?_
  rintro _ w5 ⟨rfl, hE6⟩
  have H7 := H3.ext hE6
  refine sq (r_lssI (a := (n : Nat) - (u : Nat)) (b := (2 : Int)) rfl rfl) ?_
  refine wend ?_
  refine condProp (((n : Nat) - (u : Nat) : Int) < (2 : Int)) rfl (fun c10 => ?_) (fun c10 => ?_)
  · skip
    exfalso
    omega
  · skip
    refine skipAny ?_
    refine thenNormal ?_
    refine seqRegion ?_
    refine sq (r_move (v := .pointer (some ⟨b, 0, none⟩)) rfl) ?_
    refine c_call (vs := [.pointer (some ⟨b, 0, none⟩)]) call22 rfl (next_hit_c b bc u n cl hcl w5 (H7.get (k := 1) rfl) (fun w' h => hc w' (H7.chg.trans h)) (by omega) (by omega)) ?_
    rintro _ w8 ⟨rfl, hC10, hn11⟩
    have H12 := (H7.set (k := 1) rfl hC10 hn11).as (L' := [(some b1, .cells (cel E64 ([0#64, 0#64])).toArray 38 (0, 0)), (some b, .cells #[.slice none 0 0, .pointer (some ⟨bc, 0, none⟩), i64 ((n : Nat)), i64 ((u + 1 : Nat))] 114 (0, 0))]) rfl
    refine sq (r_move (v := .tuple #[u64 (wordL cl (BitVec.ofInt 64 ((u : Nat)))), .nilIface]) rfl) ?_
    refine sq (r_extract (vs := #[u64 (wordL cl (BitVec.ofInt 64 ((u : Nat)))), .nilIface]) rfl rfl) ?_
    refine sq (r_extract (vs := #[u64 (wordL cl (BitVec.ofInt 64 ((u : Nat)))), .nilIface]) rfl rfl) ?_
    refine sq (r_assign (v := u64 (wordL cl (BitVec.ofInt 64 ((u : Nat))))) rfl) ?_
    refine sq (r_assign (v := .nilIface) rfl) ?_
    refine wend ?_
    refine seqRegion ?_
    refine sq (r_move (v := .pointer (some ⟨b, 0, none⟩)) rfl) ?_
    refine c_call (vs := [.pointer (some ⟨b, 0, none⟩)]) call22 rfl (next_hit_c b bc (u + 1) n cl hcl w8 (H12.get (k := 1) rfl) (fun w' h => hc w' (H12.chg.trans h)) (by omega) (by omega)) ?_
    rintro _ w13 ⟨rfl, hC15, hn16⟩
    have H17 := (H12.set (k := 1) rfl hC15 hn16).as (L' := [(some b1, .cells (cel E64 ([0#64, 0#64])).toArray 38 (0, 0)), (some b, .cells #[.slice none 0 0, .pointer (some ⟨bc, 0, none⟩), i64 ((n : Nat)), i64 ((u + 1 + 1 : Nat))] 114 (0, 0))]) rfl
    refine sq (r_move (v := .tuple #[u64 (wordL cl (BitVec.ofInt 64 ((u + 1 : Nat)))), .nilIface]) rfl) ?_
    refine sq (r_extract (vs := #[u64 (wordL cl (BitVec.ofInt 64 ((u + 1 : Nat)))), .nilIface]) rfl rfl) ?_
    refine sq (r_extract (vs := #[u64 (wordL cl (BitVec.ofInt 64 ((u + 1 : Nat)))), .nilIface]) rfl rfl) ?_
    refine sq (r_assign (v := u64 (wordL cl (BitVec.ofInt 64 ((u + 1 : Nat))))) rfl) ?_
    refine sq (r_assign (v := .nilIface) rfl) ?_
    refine wend ?_
    refine seqRegion ?_
    refine sq (r_move (v := u64 (wordL cl (BitVec.ofInt 64 ((u : Nat))))) rfl) ?_
    refine sq (r_move (v := u64 (wordL cl (BitVec.ofInt 64 ((u + 1 : Nat))))) rfl) ?_
    refine sq (r_buildA (cs' := (cel E64 [wordL cl (BitVec.ofInt 64 ((u : Nat))), wordL cl (BitVec.ofInt 64 ((u + 1 : Nat)))]).toArray) (ps := [(0, u64 (wordL cl (BitVec.ofInt 64 ((u : Nat))))), (1, u64 (wordL cl (BitVec.ofInt 64 ((u + 1 : Nat)))))]) zer38 arr38 rfl (by rfl)) ?_
    refine d_store (k := 0) (v := .agg (cel E64 [wordL cl (BitVec.ofInt 64 ((u : Nat))), wordL cl (BitVec.ofInt 64 ((u + 1 : Nat)))]).toArray) (cs' := (cel E64 ([wordL cl (BitVec.ofInt 64 ((u : Nat))), wordL cl (BitVec.ofInt 64 ((u + 1 : Nat)))])).toArray) H17 rfl rfl rfl siz38 (by exact celSize (by first | rfl | (show _ * 1 = _; omega))) (by exact celOne _) (by rw [List.size_toArray, cel_length]; show _ ≤ _ * 1; first | omega | (simp only [List.length_set]; omega) | exact Nat.le_of_ble_eq_true rfl | (simp <;> omega)) (by exact putAll (by first | rfl | omega | (simp <;> omega))) ?_
    intro w18 H19 hC20
    have H19' := H19.as (L' := [(some b1, .cells (cel E64 ([wordL cl (BitVec.ofInt 64 ((u : Nat))), wordL cl (BitVec.ofInt 64 ((u + 1 : Nat)))])).toArray 38 (0, 0)), (some b, .cells #[.slice none 0 0, .pointer (some ⟨bc, 0, none⟩), i64 ((n : Nat)), i64 ((u + 1 + 1 : Nat))] 114 (0, 0))]) rfl
    clear H19
    refine sq (r_assign (v := .nilIface) rfl) ?_
    refine wend ?_
    refine retAny ?_
    refine retG (rs := [.cell 2 38, .tmp 3]) (vs := [.agg (cel E64 ([wordL cl (BitVec.ofInt 64 ((u : Nat))), wordL cl (BitVec.ofInt 64 ((u + 1 : Nat)))])).toArray, .nilIface]) rfl ⟨r_loadA (cs' := (cel E64 ([wordL cl (BitVec.ofInt 64 ((u : Nat))), wordL cl (BitVec.ofInt 64 ((u + 1 : Nat)))])).toArray) agg38 siz38 (H19'.get (k := 0) rfl) (off := 0) rfl (by exact Nat.le_of_ble_eq_true rfl) (by exact ext_all rfl), ⟨rfl, rfl⟩, trivial⟩ ?_
    exact ⟨_, rfl, rfl, H19'.chg, H19'.get (k := 1) rfl⟩

def szT (k : Int) : Nat := (min (max k 0) 1048576).toNat
theorem szT_eq (k : Int) : (szT k : Int) = min (max k 0) 1048576 := by unfold szT; omega

def TapeR (seed : List By) (k : Int) (w : World) (v : Value) (w' : World) : Prop := ∃ b bc, v = .pointer (some ⟨b, 0, none⟩) ∧ Hp No w w' [(some b, .cells #[.slice none 0 0, .pointer (some ⟨bc, 0, none⟩), i64 ((szT k : Nat)), i64 ((0 : Nat))] 114 (0, 0)), (some bc, .cells (cel E8 (cipher seed)).toArray 162 (0, 0))]

theorem newtape_ok (seed : List By) (hk : seed.length = 16) (k : Int) (w : World) : Calls Tryd.prog 17 [.agg (cel E8 seed).toArray, i64 (k)].toArray w (Ret fun v w' => TapeR seed k w v w' ∧ Ext w w') := by
  have H := Hp.start No w
  refine enter (n := 12) Tryd.func17 rfl rfl (Nat.le_of_ble_eq_true rfl) ?_
  refine seqRegion ?_
  refine q_box (v := .agg (cel E8 seed).toArray) (o := .cells (cel E8 seed).toArray 22 (0, 0)) H rfl (by rfl) ?_
  intro b1 w2 hb1 H3 hE4
  refine sq (r_assign (v := .pointer none) rfl) ?_
  refine wend ?_
  refine seqRegion ?_
  refine sq (r_loadA (cs' := (cel E8 seed).toArray) agg22 siz22 (H3.get (k := 0) rfl) (off := 0) rfl (by rw [List.size_toArray, cel_length]; show _ ≤ _ * 1; omega) (by exact ext_all (by rw [cel_length]; show _ * 1 = _; omega))) ?_
  refine c_call (vs := [.agg (cel E8 seed).toArray]) call55 rfl (new_ok seed (hk) w2) ?_
  rintro _ w5 ⟨⟨b7, rfl, hb8, ho9⟩, hE10⟩
  have H11 := H3.add1 hE10 hb8 ho9
  refine sq (r_move (v := i64 (k)) rfl) ?_
  refine sq (r_maxI (a := k) (b := (0 : Int)) rfl rfl) ?_
  refine sq ((r_minI (a := max k (0 : Int)) (b := (1048576 : Int)) rfl rfl).as (v' := i64 ((szT k : Nat))) (by exact congrArg i64 (szT_eq k).symm)) ?_
  refine sq (r_build (cs' := #[.slice none 0 0, .pointer (some ⟨b7, 0, none⟩), i64 ((szT k : Nat)), i64 ((0 : Int))]) (ps := [(1, .pointer (some ⟨b7, 0, none⟩)), (2, i64 ((szT k : Nat)))]) zer114 pls114 rfl (by rfl)) ?_
  refine q_box (v := .agg #[.slice none 0 0, .pointer (some ⟨b7, 0, none⟩), i64 ((szT k : Nat)), i64 ((0 : Int))]) (o := .cells #[.slice none 0 0, .pointer (some ⟨b7, 0, none⟩), i64 ((szT k : Nat)), i64 ((0 : Int))] 114 (0, 0)) H11 rfl (by rfl) ?_
  intro b12 w13 hb12 H14 hE15
  refine sq (r_assign (v := .pointer (some ⟨b12, 0, none⟩)) rfl) ?_
  refine wend ?_
  refine retAny ?_
  refine retG (rs := [.tmp 4]) (vs := [.pointer (some ⟨b12, 0, none⟩)]) rfl ⟨⟨rfl, rfl⟩, trivial⟩ ?_
  exact ⟨_, rfl, ⟨_, _, rfl, (H14.dropk 2)⟩, H14.chg⟩

set_option maxHeartbeats 1000000 in
theorem awake_ok (w : World) (hG : Gl w) : Calls Tryd.prog 14 [].toArray w (Ret fun v w' => v = .bool true ∧ Ext w w') := by
  obtain ⟨ws, hws⟩ : ∃ ws : List (BitVec 64), ws = [5#64, 6#64, 7#64] := ⟨_, rfl⟩
  have hwl : ws.length = 3 := by rw [hws]; rfl
  have H := Hp.start No w
  refine enter (n := 51) Tryd.func14 rfl rfl (Nat.le_of_ble_eq_true rfl) ?_
  refine seqRegion ?_
  refine sq (r_assign (v := .bool (false)) rfl) ?_
  refine wend ?_
  refine seqRegion ?_
  refine q_buildSlice (E := E64) (l := [5#64, 6#64, 7#64]) H sli25 zer36 (Nat.le_of_ble_eq_true rfl) (ps := [(0, u64 (5#64)), (1, u64 (6#64)), (2, u64 (7#64))]) rfl (by exact fillAll rfl rfl) rfl ?_
  intro b1 w3 hS2 H4 _
  have e5 : [5#64, 6#64, 7#64] = ws := by rw [hws]
  have hS6 := hS2
  rw [e5] at hS6
  have H7 := H4.as (L' := [((some b1), sob E64 36 ws ([]))]) (by rw [e5])
  refine c_call (vs := [.slice (ownA (some b1)) 3 3]) call18 rfl (load_ok ws (by omega) (ownA (some b1)) 3 3 (by omega) w3 (H7.rd (k := 0) rfl hS6)) ?_
  rintro _ w8 ⟨⟨b10, key11, c12, sp13, rfl, hS14, HN15⟩, hE16⟩
  have H17 := (H7.join HN15).as (L' := [(some b10, .cells #[.slice (ownA key11) ws.length c12, .pointer none, i64 ((ws.length : Nat)), i64 ((0 : Nat))] 114 (0, 0)), (key11, sob E64 36 ws sp13), ((some b1), sob E64 36 ws ([]))]) rfl
  refine sq (r_assign (v := .pointer (some ⟨b10, 0, none⟩)) rfl) ?_
  refine wend ?_
  refine seqAny ?_
  refine seqRegion ?_
  refine sq (r_move (v := .pointer (some ⟨b10, 0, none⟩)) rfl) ?_
  refine sq (r_eqlPN und29 rfl rfl) ?_
  refine wend ?_
  refine condFalse rfl ?_
  refine skipAny ?_
  refine thenNormal ?_
  refine seqRegion ?_
  refine sq (r_move (v := .pointer (some ⟨b10, 0, none⟩)) rfl) ?_
  refine c_call (vs := [.pointer (some ⟨b10, 0, none⟩)]) call22 rfl (next_hit b10 c12 0 (ownA key11) ws w8 (H17.get (k := 0) rfl) (hpRdSt H17 (i := 0) (j := 1) rfl rfl rfl hS14) (by omega) (by omega)) ?_
  rintro _ w18 ⟨rfl, hC20, hn21⟩
  have H22 := (H17.set (k := 0) rfl hC20 hn21).as (L' := [(some b10, .cells #[.slice (ownA key11) ws.length c12, .pointer none, i64 ((ws.length : Nat)), i64 ((0 + 1 : Nat))] 114 (0, 0)), (key11, sob E64 36 ws sp13), ((some b1), sob E64 36 ws ([]))]) rfl
  refine sq (r_move (v := .tuple #[u64 (ws.getD 0 0#64), .nilIface]) rfl) ?_
  refine sq (r_extract (vs := #[u64 (ws.getD 0 0#64), .nilIface]) rfl rfl) ?_
  refine sq (r_extract (vs := #[u64 (ws.getD 0 0#64), .nilIface]) rfl rfl) ?_
  refine sq (r_assign (v := u64 (ws.getD 0 0#64)) rfl) ?_
  refine sq (r_assign (v := .nilIface) rfl) ?_
  refine wend ?_
  refine seqRegion ?_
  refine sq (r_move (v := .pointer (some ⟨b10, 0, none⟩)) rfl) ?_
  refine c_call (vs := [.pointer (some ⟨b10, 0, none⟩)]) call21 rfl (label_hit b10 c12 (0 + 1) (ownA key11) ws w18 (H22.get (k := 0) rfl) (hpRdSt H22 (i := 0) (j := 1) rfl rfl rfl hS14) (by omega) (by omega)) ?_
  rintro _ w23 ⟨rfl, hC25, hn26⟩
  have H27 := (H22.set (k := 0) rfl hC25 hn26).as (L' := [(some b10, .cells #[.slice (ownA key11) ws.length c12, .pointer none, i64 ((ws.length : Nat)), i64 ((0 + 1 + 2 : Nat))] 114 (0, 0)), (key11, sob E64 36 ws sp13), ((some b1), sob E64 36 ws ([]))]) rfl
  refine sq (r_move (v := .tuple #[.agg (cel E64 [ws.getD (0 + 1) 0#64, ws.getD (0 + 1 + 1) 0#64]).toArray, .nilIface]) rfl) ?_
  refine sq (r_extract (vs := #[.agg (cel E64 [ws.getD (0 + 1) 0#64, ws.getD (0 + 1 + 1) 0#64]).toArray, .nilIface]) rfl rfl) ?_
  refine sq (r_extract (vs := #[.agg (cel E64 [ws.getD (0 + 1) 0#64, ws.getD (0 + 1 + 1) 0#64]).toArray, .nilIface]) rfl rfl) ?_
  refine q_alloc (o := .cells (cel E64 ([0#64, 0#64])).toArray 38 (0, 0)) H27 zer38 (by kernel_rfl) ?_
  intro b28 w29 hb28 H30 hE31
  refine d_store (k := 0) (v := .agg (cel E64 [ws.getD (0 + 1) 0#64, ws.getD (0 + 1 + 1) 0#64]).toArray) (cs' := (cel E64 ([ws.getD (0 + 1) 0#64, ws.getD (0 + 1 + 1) 0#64])).toArray) H30 rfl rfl rfl siz38 (by exact celSize (by first | rfl | (show _ * 1 = _; omega))) (by exact celOne _) (by rw [List.size_toArray, cel_length]; show _ ≤ _ * 1; first | omega | (simp only [List.length_set]; omega) | exact Nat.le_of_ble_eq_true rfl | (simp <;> omega)) (by exact putAll (by first | rfl | omega | (simp <;> omega))) ?_
  intro w32 H33 hC34
  have H33' := H33.as (L' := [(some b28, .cells (cel E64 ([ws.getD (0 + 1) 0#64, ws.getD (0 + 1 + 1) 0#64])).toArray 38 (0, 0)), (some b10, .cells #[.slice (ownA key11) ws.length c12, .pointer none, i64 ((ws.length : Nat)), i64 ((0 + 1 + 2 : Nat))] 114 (0, 0)), (key11, sob E64 36 ws sp13), ((some b1), sob E64 36 ws ([]))]) rfl
  clear H33
  refine sq (r_assign (v := .nilIface) rfl) ?_
  refine wend ?_
  refine seqRegion ?_
  refine sq (r_move (v := .pointer (some ⟨b10, 0, none⟩)) rfl) ?_
  have := H33'.lt (List.mem_of_getElem? (i := 0) rfl) rfl
  have := H33'.lt (List.mem_of_getElem? (i := 1) rfl) rfl
  refine c_call (vs := [.pointer (some ⟨b10, 0, none⟩)]) call22 rfl (next_end b10 ws.length (0 + 1 + 2) (.slice (ownA key11) ws.length c12) (.pointer none) w32 (Chg.gl H33'.chg (fun x => x) hG) (H33'.get (k := 1) rfl) (by omega)) ?_
  rintro _ w35 ⟨⟨v37, rfl, hEr38⟩, hE39⟩
  have H40 := H33'.ext hE39
  obtain ⟨T41, x42, rfl⟩ := hEr38.iface
  refine sq (r_move (v := .tuple #[u64 (0#64), .iface T41 (x42)]) rfl) ?_
  refine sq (r_extract (vs := #[u64 (0#64), .iface T41 (x42)]) rfl rfl) ?_
  refine sq (r_extract (vs := #[u64 (0#64), .iface T41 (x42)]) rfl rfl) ?_
  refine sq (r_assign (v := u64 (0#64)) rfl) ?_
  refine sq (r_assign (v := .iface T41 (x42)) rfl) ?_
  refine wend ?_
  refine seqRegion ?_
  refine sq (r_move (v := u64 (ws.getD 0 0#64)) rfl) ?_
  refine sq ((r_eql64 (a := ws.getD 0 0#64) (b := 5#64) rfl rfl).as (v' := .bool (true)) (by rw [hws]; rfl)) ?_
  refine sq (r_move (v := .bool (true)) rfl) ?_
  refine sqAny (v := .nilIface) (w' := w35) (wantedSome (d' := 29) (b := true) rfl rfl rfl) (r_move (v := .nilIface) rfl) ?_
  refine sqAny (v := .bool (true)) (w' := w35) (wantedSome (d' := 29) (b := true) rfl rfl rfl) (r_eqlNN isI40 rfl rfl) ?_
  refine sq (r_pickT (u := .bool (true)) rfl rfl) ?_
  refine sq (r_move (v := .bool (true)) rfl) ?_
  refine sqAny (v := .nilIface) (w' := w35) (wantedSome (d' := 33) (b := true) rfl rfl rfl) (r_move (v := .nilIface) rfl) ?_
  refine sqAny (v := .bool (true)) (w' := w35) (wantedSome (d' := 33) (b := true) rfl rfl rfl) (r_eqlNN isI40 rfl rfl) ?_
  refine sq (r_pickT (u := .bool (true)) rfl rfl) ?_
  refine sq (r_move (v := .bool (true)) rfl) ?_
  refine sqAny (v := .agg (cel E64 ([ws.getD (0 + 1) 0#64, ws.getD (0 + 1 + 1) 0#64])).toArray) (w' := w35) (wantedSome (d' := 37) (b := true) rfl rfl rfl) (r_loadA (cs' := (cel E64 ([ws.getD (0 + 1) 0#64, ws.getD (0 + 1 + 1) 0#64])).toArray) agg38 siz38 (H40.get (k := 0) rfl) (off := 0) rfl (by exact Nat.le_of_ble_eq_true rfl) (by exact ext_all rfl)) ?_
  refine sqAny (v := .agg (cel E64 [6#64, 7#64]).toArray) (w' := w35) (wantedSome (d' := 37) (b := true) rfl rfl rfl) (r_buildA (cs' := (cel E64 [6#64, 7#64]).toArray) (ps := [(0, u64 (6#64)), (1, u64 (7#64))]) zer38 arr38 rfl (by rfl)) ?_
  refine sqAny (v := .bool (true)) (w' := w35) (wantedSome (d' := 37) (b := true) rfl rfl rfl) ((r_eqlA (E := E64) (l := [ws.getD (0 + 1) 0#64, ws.getD (0 + 1 + 1) 0#64]) (l' := [6#64, 7#64]) gty38 und38 fits36 (eqAt64 und36) (rfl) (rfl) rfl rfl).as (v' := .bool (true)) (by rw [hws]; rfl)) ?_
  refine sq (r_pickT (u := .bool (true)) rfl rfl) ?_
  refine sq (r_move (v := .bool (true)) rfl) ?_
  refine sqAny (v := .iface T41 (x42)) (w' := w35) (wantedSome (d' := 42) (b := true) rfl rfl rfl) (r_move (v := .iface T41 (x42)) rfl) ?_
  refine caAny (wantedSome (d' := 42) (b := true) rfl rfl rfl) (Enters.callL (vs := [.iface T41 (x42), i64 ((40 : Int))]) call47 rfl) (is_ok 40 (40 : Int) 1 (.iface T41 (x42)) w32.heap.size w35 (hEr38)) ?_
  rintro _ w43 ⟨rfl, hE44⟩
  have H45 := H40.ext hE44
  refine sq (r_pickT (u := .bool (true)) rfl rfl) ?_
  refine sq (r_move (v := .bool (true)) rfl) ?_
  refine sqAny (v := .pointer (some ⟨b10, 0, none⟩)) (w' := w43) (wantedSome (d' := 46) (b := true) rfl rfl rfl) (r_move (v := .pointer (some ⟨b10, 0, none⟩)) rfl) ?_
  refine caAny (wantedSome (d' := 46) (b := true) rfl rfl rfl) (Enters.callL (vs := [.pointer (some ⟨b10, 0, none⟩)]) call19 rfl) (used_ok b10 ws.length (0 + 1 + 2) (.slice (ownA key11) ws.length c12) (.pointer none) w43 (H45.get (k := 1) rfl)) ?_
  rintro _ w46 ⟨rfl, hE47⟩
  have H48 := H45.ext hE47
  refine sqAny (v := .bool (true)) (w' := w46) (wantedSome (d' := 46) (b := true) rfl rfl rfl) ((r_eqlI (a := (0 + 1 + 2 : Nat)) (b := (3 : Int)) rfl rfl).as (v' := .bool (true)) (by rfl)) ?_
  refine sq (r_pickT (u := .bool (true)) rfl rfl) ?_
  refine sq (r_assign (v := .bool (true)) rfl) ?_
  refine wend ?_
  refine retAny ?_
  refine retG (rs := [.tmp 0]) (vs := [.bool (true)]) rfl ⟨⟨rfl, rfl⟩, trivial⟩ ?_
  exact ⟨_, rfl, rfl, H48.chg⟩

theorem reads_ok (ws : List (BitVec 64)) (sc : List Int) (b c cw cs : Nat) (a aw asc : Option Addr) (w : World) (hG : Gl w) (hM0 : ¬ (0 = b)) (hb : w.heap[b]? = some (.cells #[.slice a ws.length c, .pointer none, i64 ((ws.length : Nat)), i64 ((0 : Nat))] 114 (0, 0))) (hR : ∀ w', Chg (· = b) w w' → Rd E64 w' a ws) (hW : ∀ w', Chg (· = b) w w' → Rd E64 w' aw ws) (hSc : ∀ w', Chg (· = b) w w' → Rd EI w' asc sc) (hlen : ws.length ≤ 140737488355328) (hls : sc.length ≤ 140737488355328) : Calls Tryd.prog 16 [.pointer (some ⟨b, 0, none⟩), .slice aw ws.length cw, .slice asc sc.length cs].toArray w (Ret fun v w' => v = .bool true ∧ Chg (· = b) w w') := by
  have H := Hp.start1 (M := (· = b)) rfl hb
  refine enter (n := 108) Tryd.func16 rfl rfl (Nat.le_of_ble_eq_true rfl) ?_
  refine seqRegion ?_
  refine sq (r_assign (v := .bool (false)) rfl) ?_
  refine wend ?_
  refine seqAny ?_
  refine seqRegion ?_
  refine sq (r_move (v := .pointer (some ⟨b, 0, none⟩)) rfl) ?_
  refine sq (r_eqlPN und29 rfl rfl) ?_
  refine wend ?_
  refine condFalse rfl ?_
  refine skipAny ?_
  refine thenNormal ?_
  refine seqRegion ?_
  refine sq (r_assign (v := i64 ((0 : Int))) rfl) ?_
  refine wend ?_
  refine seqAny ?_
  refine seqRegion ?_
  refine sq (r_assign (v := i64 ((0 : Int))) rfl) ?_
  refine wend ?_
  refine blockAny ?_
  refine loopAny (σ := Nat × Nat) (fun (i, u) => [(0, .pointer (some ⟨b, 0, none⟩)), (1, .slice aw ws.length cw), (2, .slice asc sc.length cs), (7, i64 ((u : Nat))), (8, i64 ((i : Nat)))]) (fun (i, u) w' => i ≤ sc.length ∧ u ≤ ws.length ∧ Hp (· = b) w w' [(some b, .cells #[.slice a ws.length c, .pointer none, i64 ((ws.length : Nat)), i64 ((u : Nat))] 114 (0, 0))]) (fun (i, u) => sc.length - i) ((0, 0)) ?_ ?_ ?_
  · exact ⟨rfl, rfl, rfl, rfl, rfl, trivial⟩
  · exact ⟨by omega, by omega, H⟩
  rintro ⟨i, u⟩ ρ w1 ⟨hi, hu, HL⟩
  refine seqAny ?_
  by_cases hA : i < sc.length
  · skip
    refine seqRegion ?_
    refine sq (r_move (v := i64 ((i : Nat))) rfl) ?_
    refine sq (r_move (v := .slice asc sc.length cs) rfl) ?_
    refine sq (r_lenS sli23 (a := asc) (m := sc.length) (c := cs) rfl) ?_
    refine sq ((r_lssI (a := (i : Nat)) (b := (sc.length : Nat)) rfl rfl).as (v' := .bool (true)) (by rw [decide_eq_true (by omega)])) ?_
    refine sq (r_move (v := .bool (true)) rfl) ?_
    refine sqAny (v := i64 ((i : Nat))) (w' := w1) (wantedSome (d' := 19) (b := true) rfl rfl rfl) (r_move (v := i64 ((i : Nat))) rfl) ?_
    refine sqAny (v := .bool (decide (((i : Nat) : Int) < (200 : Int)))) (w' := w1) (wantedSome (d' := 19) (b := true) rfl rfl rfl) (r_lssI (a := (i : Nat)) (b := (200 : Int)) rfl rfl) ?_
    refine sq (r_pickT (u := .bool (decide (((i : Nat) : Int) < (200 : Int)))) rfl rfl) ?_
    refine wend ?_
    refine condProp (((i : Nat) : Int) < (200 : Int)) rfl (fun c22 => ?_) (fun c22 => ?_)
    · skip
      refine skipAny ?_
      refine thenNormal ?_
      refine seqAny ?_
      refine blockAny ?_
      refine seqAny ?_
      refine seqRegion ?_
      refine sq (r_move (v := .slice asc sc.length cs) rfl) ?_
      refine sq (r_move (v := i64 ((i : Nat))) rfl) ?_
      refine sq (r_idxS (E := EI) (l := sc) (j := i) sli23 (hSc _ HL.chg) rfl rfl (by first | rfl | omega | (simp; omega)) (by rfl) (by omega)) ?_
      refine sq (r_ldS (E := EI) (l := sc) (j := i) (v := (sc).getD i 0) fits3 (hSc _ HL.chg) rfl rfl (at_getD (by omega))) ?_
      refine sq (r_remT (a := (sc).getD i 0) (b := (2 : Int)) rfl rfl (by decide)) ?_
      refine sq (r_eqlI (a := Int.tmod ((sc).getD i 0) (2 : Int)) (b := (0 : Int)) rfl rfl) ?_
      refine wend ?_
      refine condProp ((Int.tmod ((sc).getD i 0) (2 : Int) : Int) = (0 : Int)) rfl (fun c30 => ?_) (fun c30 => ?_)
      · skip
        by_cases hB : u < ws.length
        · skip
          refine seqRegion ?_
          refine sq (r_move (v := .pointer (some ⟨b, 0, none⟩)) rfl) ?_
          refine c_call (vs := [.pointer (some ⟨b, 0, none⟩)]) call22 rfl (next_hit b c u a ws w1 (HL.get (k := 0) rfl) (fun w' h => hR w' (HL.chg.trans h)) (by omega) (by omega)) ?_
          rintro _ w3 ⟨rfl, hC5, hn6⟩
          have H7 := (HL.set (k := 0) rfl hC5 hn6).as (L' := [(some b, .cells #[.slice a ws.length c, .pointer none, i64 ((ws.length : Nat)), i64 ((u + 1 : Nat))] 114 (0, 0))]) rfl
          refine sq (r_move (v := .tuple #[u64 (ws.getD u 0#64), .nilIface]) rfl) ?_
          refine sq (r_extract (vs := #[u64 (ws.getD u 0#64), .nilIface]) rfl rfl) ?_
          refine sq (r_extract (vs := #[u64 (ws.getD u 0#64), .nilIface]) rfl rfl) ?_
          refine sq (r_assign (v := u64 (ws.getD u 0#64)) rfl) ?_
          refine sq (r_assign (v := .nilIface) rfl) ?_
          refine wend ?_
          refine seqAny ?_
          refine seqRegion ?_
          refine sq (r_move (v := i64 ((u : Nat))) rfl) ?_
          refine sq (r_move (v := .slice aw ws.length cw) rfl) ?_
          refine sq (r_lenS sli25 (a := aw) (m := ws.length) (c := cw) rfl) ?_
          refine sq (r_geqI (a := (u : Nat)) (b := (ws.length : Nat)) rfl rfl) ?_
          refine wend ?_
          refine condProp (((ws.length : Nat) : Int) ≤ (u : Nat)) rfl (fun c39 => ?_) (fun c39 => ?_)
          · skip
            exfalso
            omega
          · skip
            refine skipAny ?_
            refine thenNormal ?_
            refine seqAny ?_
            refine seqRegion ?_
            refine sq (r_move (v := .nilIface) rfl) ?_
            refine sq (r_neqNN isI40 rfl rfl) ?_
            refine sq (r_move (v := .bool (false)) rfl) ?_
            refine sqAny (v := u64 (ws.getD u 0#64)) (w' := w3) (wantedSome (d' := 49) (b := false) rfl rfl rfl) (r_move (v := u64 (ws.getD u 0#64)) rfl) ?_
            refine sqAny (v := .slice aw ws.length cw) (w' := w3) (wantedSome (d' := 49) (b := false) rfl rfl rfl) (r_move (v := .slice aw ws.length cw) rfl) ?_
            refine sqAny (v := i64 ((u : Nat))) (w' := w3) (wantedSome (d' := 49) (b := false) rfl rfl rfl) (r_move (v := i64 ((u : Nat))) rfl) ?_
            refine sqAny (v := .pointer (adr aw (u * 1))) (w' := w3) (wantedSome (d' := 49) (b := false) rfl rfl rfl) (r_idxS (E := E64) (l := ws) (j := u) sli25 (hW _ H7.chg) rfl rfl (by first | rfl | omega | (simp; omega)) (by rfl) (by omega)) ?_
            refine sqAny (v := u64 ((ws).getD u 0#64)) (w' := w3) (wantedSome (d' := 49) (b := false) rfl rfl rfl) (r_ldS (E := E64) (l := ws) (j := u) (v := (ws).getD u 0#64) fits36 (hW _ H7.chg) rfl rfl (at_getD (by omega))) ?_
            refine sqAny (v := .bool (false)) (w' := w3) (wantedSome (d' := 49) (b := false) rfl rfl rfl) ((r_neq64 (a := ws.getD u 0#64) (b := (ws).getD u 0#64) rfl rfl).as (v' := .bool (false)) (by simp)) ?_
            refine sq (r_pickF (v := .bool (false)) rfl rfl) ?_
            refine wend ?_
            refine condFalse rfl ?_
            refine skipAny ?_
            refine thenNormal ?_
            refine seqRegion ?_
            refine sq (r_move (v := i64 ((u : Nat))) rfl) ?_
            refine sq (r_addI (a := (u : Nat)) (b := (1 : Int)) rfl rfl (by omega)) ?_
            refine sq (r_assign (v := i64 ((u : Nat) + (1 : Int))) rfl) ?_
            refine wend ?_
            refine exitAny ?_
            refine thenExit ?_
            refine blockHere ?_
            refine thenNormal ?_
            refine oneRegion ?_
            refine sq (r_move (v := i64 ((i : Nat))) rfl) ?_
            refine sq (r_addI (a := (i : Nat)) (b := (1 : Int)) rfl rfl (by omega)) ?_
            refine sq (r_assign (v := i64 ((i : Nat) + (1 : Int))) rfl) ?_
            refine wnil ?_
            refine thenNormal ?_
            exact ⟨(i + 1, u + 1), _, rfl, ⟨rfl, rfl, rfl, rfl, rfl, trivial⟩, ⟨by omega, by omega, H7⟩, by show sc.length - (i + 1) < sc.length - i; omega⟩
        · skip
          refine seqRegion ?_
          refine sq (r_move (v := .pointer (some ⟨b, 0, none⟩)) rfl) ?_
          have := HL.lt (List.mem_of_getElem? (i := 0) rfl) rfl
          refine c_call (vs := [.pointer (some ⟨b, 0, none⟩)]) call22 rfl (next_end b ws.length u (.slice a ws.length c) (.pointer none) w1 (Chg.gl HL.chg hM0 hG) (HL.get (k := 0) rfl) (by omega)) ?_
          rintro _ w8 ⟨⟨v10, rfl, hEr11⟩, hE12⟩
          have H13 := HL.ext hE12
          obtain ⟨T14, x15, rfl⟩ := hEr11.iface
          refine sq (r_move (v := .tuple #[u64 (0#64), .iface T14 (x15)]) rfl) ?_
          refine sq (r_extract (vs := #[u64 (0#64), .iface T14 (x15)]) rfl rfl) ?_
          refine sq (r_extract (vs := #[u64 (0#64), .iface T14 (x15)]) rfl rfl) ?_
          refine sq (r_assign (v := u64 (0#64)) rfl) ?_
          refine sq (r_assign (v := .iface T14 (x15)) rfl) ?_
          refine wend ?_
          refine seqAny ?_
          refine seqRegion ?_
          refine sq (r_move (v := i64 ((u : Nat))) rfl) ?_
          refine sq (r_move (v := .slice aw ws.length cw) rfl) ?_
          refine sq (r_lenS sli25 (a := aw) (m := ws.length) (c := cw) rfl) ?_
          refine sq (r_geqI (a := (u : Nat)) (b := (ws.length : Nat)) rfl rfl) ?_
          refine wend ?_
          refine condProp (((ws.length : Nat) : Int) ≤ (u : Nat)) rfl (fun c39 => ?_) (fun c39 => ?_)
          · skip
            refine seqAny ?_
            refine seqRegion ?_
            refine sq (r_move (v := u64 (0#64)) rfl) ?_
            refine sq ((r_neq64 (a := 0#64) (b := 0#64) rfl rfl).as (v' := .bool (false)) (by simp)) ?_
            refine sq (r_move (v := .bool (false)) rfl) ?_
            refine sqAny (v := .iface T14 (x15)) (w' := w8) (wantedSome (d' := 42) (b := false) rfl rfl rfl) (r_move (v := .iface T14 (x15)) rfl) ?_
            refine caAny (wantedSome (d' := 42) (b := false) rfl rfl rfl) (Enters.callL (vs := [.iface T14 (x15), i64 ((40 : Int))]) call47 rfl) (is_ok 40 (40 : Int) 1 (.iface T14 (x15)) w1.heap.size w8 (hEr11)) ?_
            rintro _ w16 ⟨rfl, hE17⟩
            have H18 := H13.ext hE17
            refine sqAny (v := .bool (false)) (w' := w16) (wantedSome (d' := 42) (b := false) rfl rfl rfl) (r_notT rfl) ?_
            refine sq (r_pickF (v := .bool (false)) rfl rfl) ?_
            refine wend ?_
            refine condFalse rfl ?_
            refine skipAny ?_
            refine thenNormal ?_
            refine exitAny ?_
            refine thenExit ?_
            refine thenExit ?_
            refine blockHere ?_
            refine thenNormal ?_
            refine oneRegion ?_
            refine sq (r_move (v := i64 ((i : Nat))) rfl) ?_
            refine sq (r_addI (a := (i : Nat)) (b := (1 : Int)) rfl rfl (by omega)) ?_
            refine sq (r_assign (v := i64 ((i : Nat) + (1 : Int))) rfl) ?_
            refine wnil ?_
            refine thenNormal ?_
            exact ⟨(i + 1, u), _, rfl, ⟨rfl, rfl, rfl, rfl, rfl, trivial⟩, ⟨by omega, by omega, H18⟩, by show sc.length - (i + 1) < sc.length - i; omega⟩
          · skip
            exfalso
            omega
      · skip
        refine skipAny ?_
        refine thenNormal ?_
        by_cases hC : u + 2 ≤ ws.length
        · skip
          refine seqRegion ?_
          refine sq (r_move (v := .pointer (some ⟨b, 0, none⟩)) rfl) ?_
          refine c_call (vs := [.pointer (some ⟨b, 0, none⟩)]) call21 rfl (label_hit b c u a ws w1 (HL.get (k := 0) rfl) (fun w' h => hR w' (HL.chg.trans h)) (by omega) (by omega)) ?_
          rintro _ w19 ⟨rfl, hC21, hn22⟩
          have H23 := (HL.set (k := 0) rfl hC21 hn22).as (L' := [(some b, .cells #[.slice a ws.length c, .pointer none, i64 ((ws.length : Nat)), i64 ((u + 2 : Nat))] 114 (0, 0))]) rfl
          refine sq (r_move (v := .tuple #[.agg (cel E64 [ws.getD u 0#64, ws.getD (u + 1) 0#64]).toArray, .nilIface]) rfl) ?_
          refine sq (r_extract (vs := #[.agg (cel E64 [ws.getD u 0#64, ws.getD (u + 1) 0#64]).toArray, .nilIface]) rfl rfl) ?_
          refine sq (r_extract (vs := #[.agg (cel E64 [ws.getD u 0#64, ws.getD (u + 1) 0#64]).toArray, .nilIface]) rfl rfl) ?_
          refine q_alloc (o := .cells (cel E64 ([0#64, 0#64])).toArray 38 (0, 0)) H23 zer38 (by kernel_rfl) ?_
          intro b24 w25 hb24 H26 hE27
          refine d_store (k := 0) (v := .agg (cel E64 [ws.getD u 0#64, ws.getD (u + 1) 0#64]).toArray) (cs' := (cel E64 ([ws.getD u 0#64, ws.getD (u + 1) 0#64])).toArray) H26 rfl rfl rfl siz38 (by exact celSize (by first | rfl | (show _ * 1 = _; omega))) (by exact celOne _) (by rw [List.size_toArray, cel_length]; show _ ≤ _ * 1; first | omega | (simp only [List.length_set]; omega) | exact Nat.le_of_ble_eq_true rfl | (simp <;> omega)) (by exact putAll (by first | rfl | omega | (simp <;> omega))) ?_
          intro w28 H29 hC30
          have H29' := H29.as (L' := [(some b24, .cells (cel E64 ([ws.getD u 0#64, ws.getD (u + 1) 0#64])).toArray 38 (0, 0)), (some b, .cells #[.slice a ws.length c, .pointer none, i64 ((ws.length : Nat)), i64 ((u + 2 : Nat))] 114 (0, 0))]) rfl
          clear H29
          refine sq (r_assign (v := .nilIface) rfl) ?_
          refine wend ?_
          refine seqAny ?_
          refine seqRegion ?_
          refine sq (r_move (v := .slice aw ws.length cw) rfl) ?_
          refine sq (r_lenS sli25 (a := aw) (m := ws.length) (c := cw) rfl) ?_
          refine sq (r_move (v := i64 ((u : Nat))) rfl) ?_
          refine sq (r_subI (a := (ws.length : Nat)) (b := (u : Nat)) rfl rfl (by omega)) ?_
          refine sq (r_lssI (a := (ws.length : Nat) - (u : Nat)) (b := (2 : Int)) rfl rfl) ?_
          refine wend ?_
          refine condProp (((ws.length : Nat) - (u : Nat) : Int) < (2 : Int)) rfl (fun c68 => ?_) (fun c68 => ?_)
          · skip
            exfalso
            omega
          · skip
            refine skipAny ?_
            refine thenNormal ?_
            refine seqAny ?_
            refine seqAny ?_
            refine drawAny (K := [none, none, none, none, none, none, none, none, none, none, none, none, none, none, none, none]) [0, 1, 3, 7, 7, 7, 55, 119, 7, 7, 519, 1799, 3847, 8183, 16383, 32767] (fun w' => Ext w28 w') (fun w' w'' => Ext w' w'') mixed (by kernel_rfl) (Ext.drew _) (fun _ _ h h' => h.trans h') ?_ ?_
            · exact relNone (by decide)
            refine ⟨.nilIface, fun _ uw31 hC32 _ => Gives.run rfl (r_move (v := .nilIface) rfl) ⟨rfl, Chg.refl _ _⟩, ?_⟩
            refine ⟨.bool (false), fun _ uw33 hC34 _ => Gives.run rfl (r_neqNN isI40 rfl rfl) ⟨rfl, Chg.refl _ _⟩, ?_⟩
            refine ⟨.bool (false), fun _ uw35 hC36 _ => Gives.run rfl (r_move (v := .bool (false)) rfl) ⟨rfl, Chg.refl _ _⟩, ?_⟩
            refine ⟨.agg (cel E64 ([ws.getD u 0#64, ws.getD (u + 1) 0#64])).toArray, fun _ uw37 hC38 _ => Gives.runW (wantedSome (d' := 79) (b := false) rfl rfl rfl) (r_loadA (cs' := (cel E64 ([ws.getD u 0#64, ws.getD (u + 1) 0#64])).toArray) agg38 siz38 ((H29'.ext hC38).get (k := 0) rfl) (off := 0) rfl (by exact Nat.le_of_ble_eq_true rfl) (by exact ext_all rfl)) ⟨rfl, Chg.refl _ _⟩, ?_⟩
            refine ⟨.slice aw ws.length cw, fun _ uw39 hC40 _ => Gives.runW (wantedSome (d' := 79) (b := false) rfl rfl rfl) (r_move (v := .slice aw ws.length cw) rfl) ⟨rfl, Chg.refl _ _⟩, ?_⟩
            refine ⟨i64 ((u : Nat)), fun _ uw41 hC42 _ => Gives.runW (wantedSome (d' := 79) (b := false) rfl rfl rfl) (r_move (v := i64 ((u : Nat))) rfl) ⟨rfl, Chg.refl _ _⟩, ?_⟩
            refine ⟨.pointer (adr aw (u * 1)), fun _ uw43 hC44 _ => Gives.runW (wantedSome (d' := 79) (b := false) rfl rfl rfl) (r_idxS (E := E64) (l := ws) (j := u) sli25 (hW _ (H29'.ext hC44).chg) rfl rfl (by first | rfl | omega | (simp; omega)) (by rfl) (by omega)) ⟨rfl, Chg.refl _ _⟩, ?_⟩
            refine ⟨u64 ((ws).getD u 0#64), fun _ uw45 hC46 _ => Gives.runW (wantedSome (d' := 79) (b := false) rfl rfl rfl) (r_ldS (E := E64) (l := ws) (j := u) (v := (ws).getD u 0#64) fits36 (hW _ (H29'.ext hC46).chg) rfl rfl (at_getD (by omega))) ⟨rfl, Chg.refl _ _⟩, ?_⟩
            refine ⟨.slice aw ws.length cw, fun _ uw47 hC48 _ => Gives.runW (wantedSome (d' := 79) (b := false) rfl rfl rfl) (r_move (v := .slice aw ws.length cw) rfl) ⟨rfl, Chg.refl _ _⟩, ?_⟩
            refine ⟨i64 ((u : Nat)), fun _ uw49 hC50 _ => Gives.runW (wantedSome (d' := 79) (b := false) rfl rfl rfl) (r_move (v := i64 ((u : Nat))) rfl) ⟨rfl, Chg.refl _ _⟩, ?_⟩
            refine ⟨i64 ((u : Nat) + (1 : Int)), fun _ uw51 hC52 _ => Gives.runW (wantedSome (d' := 79) (b := false) rfl rfl rfl) (r_addI (a := (u : Nat)) (b := (1 : Int)) rfl rfl (by omega)) ⟨rfl, Chg.refl _ _⟩, ?_⟩
            refine ⟨.pointer (adr aw ((u + 1) * 1)), fun _ uw53 hC54 _ => Gives.runW (wantedSome (d' := 79) (b := false) rfl rfl rfl) (r_idxS (E := E64) (l := ws) (j := u + 1) sli25 (hW _ (H29'.ext hC54).chg) rfl rfl (by first | rfl | omega | (simp; omega)) (by rfl) (by omega)) ⟨rfl, Chg.refl _ _⟩, ?_⟩
            refine ⟨u64 ((ws).getD (u + 1) 0#64), fun _ uw55 hC56 _ => Gives.runW (wantedSome (d' := 79) (b := false) rfl rfl rfl) (r_ldS (E := E64) (l := ws) (j := u + 1) (v := (ws).getD (u + 1) 0#64) fits36 (hW _ (H29'.ext hC56).chg) rfl rfl (at_getD (by omega))) ⟨rfl, Chg.refl _ _⟩, ?_⟩
            refine ⟨.agg (cel E64 [(ws).getD u 0#64, (ws).getD (u + 1) 0#64]).toArray, fun _ uw57 hC58 _ => Gives.runW (wantedSome (d' := 79) (b := false) rfl rfl rfl) (r_buildA (cs' := (cel E64 [(ws).getD u 0#64, (ws).getD (u + 1) 0#64]).toArray) (ps := [(0, u64 ((ws).getD u 0#64)), (1, u64 ((ws).getD (u + 1) 0#64))]) zer38 arr38 rfl (by rfl)) ⟨rfl, Chg.refl _ _⟩, ?_⟩
            refine ⟨.bool (false), fun _ uw59 hC60 _ => Gives.runW (wantedSome (d' := 79) (b := false) rfl rfl rfl) ((r_neqA (E := E64) (l := [ws.getD u 0#64, ws.getD (u + 1) 0#64]) (l' := [(ws).getD u 0#64, (ws).getD (u + 1) 0#64]) gty38 und38 fits36 (eqAt64 und36) (rfl) (rfl) rfl rfl).as (v' := .bool (false)) (by simp)) ⟨rfl, Chg.refl _ _⟩, ?_⟩
            refine ⟨.bool (false), fun _ uw61 hC62 _ => Gives.run rfl (r_pickF (v := .bool (false)) rfl rfl) ⟨rfl, Chg.refl _ _⟩, ?_⟩
            intro r66 w63 hE65 hF
            have H64 := H29'.ext hE65
            refine wnil ?_
            refine thenNormal ?_
            refine condFalse rfl ?_
            refine skipAny ?_
            refine thenNormal ?_
            refine oneRegion ?_
            refine sq (r_move (v := i64 ((u : Nat))) rfl) ?_
            refine sq (r_addI (a := (u : Nat)) (b := (2 : Int)) rfl rfl (by omega)) ?_
            refine sq (r_assign (v := i64 ((u : Nat) + (2 : Int))) rfl) ?_
            refine wnil ?_
            refine blockNormal ?_
            refine thenNormal ?_
            refine oneRegion ?_
            refine sq (r_move (v := i64 ((i : Nat))) rfl) ?_
            refine sq (r_addI (a := (i : Nat)) (b := (1 : Int)) rfl rfl (by omega)) ?_
            refine sq (r_assign (v := i64 ((i : Nat) + (1 : Int))) rfl) ?_
            refine wnil ?_
            refine thenNormal ?_
            exact ⟨(i + 1, u + 2), _, rfl, ⟨rfl, rfl, rfl, rfl, rfl, trivial⟩, ⟨by omega, by omega, (H64.dropk 0)⟩, by show sc.length - (i + 1) < sc.length - i; omega⟩
        · skip
          refine seqRegion ?_
          refine sq (r_move (v := .pointer (some ⟨b, 0, none⟩)) rfl) ?_
          have := HL.lt (List.mem_of_getElem? (i := 0) rfl) rfl
          refine c_call (vs := [.pointer (some ⟨b, 0, none⟩)]) call21 rfl (label_end b ws.length u (.slice a ws.length c) (.pointer none) w1 (Chg.gl HL.chg hM0 hG) (HL.get (k := 0) rfl) (by omega) (by omega) (by omega)) ?_
          rintro _ w67 ⟨⟨v69, rfl, hEr70⟩, hE71⟩
          have H72 := HL.ext hE71
          obtain ⟨T73, x74, rfl⟩ := hEr70.iface
          refine sq (r_move (v := .tuple #[.agg (cel E64 [0#64, 0#64]).toArray, .iface T73 (x74)]) rfl) ?_
          refine sq (r_extract (vs := #[.agg (cel E64 [0#64, 0#64]).toArray, .iface T73 (x74)]) rfl rfl) ?_
          refine sq (r_extract (vs := #[.agg (cel E64 [0#64, 0#64]).toArray, .iface T73 (x74)]) rfl rfl) ?_
          refine q_alloc (o := .cells (cel E64 ([0#64, 0#64])).toArray 38 (0, 0)) H72 zer38 (by kernel_rfl) ?_
          intro b75 w76 hb75 H77 hE78
          refine d_store (k := 0) (v := .agg (cel E64 [0#64, 0#64]).toArray) (cs' := (cel E64 ([0#64, 0#64])).toArray) H77 rfl rfl rfl siz38 (by exact celSize (by first | rfl | (show _ * 1 = _; omega))) (by exact celOne _) (by rw [List.size_toArray, cel_length]; show _ ≤ _ * 1; first | omega | (simp only [List.length_set]; omega) | exact Nat.le_of_ble_eq_true rfl | (simp <;> omega)) (by exact putAll (by first | rfl | omega | (simp <;> omega))) ?_
          intro w79 H80 hC81
          have H80' := H80.as (L' := [(some b75, .cells (cel E64 ([0#64, 0#64])).toArray 38 (0, 0)), (some b, .cells #[.slice a ws.length c, .pointer none, i64 ((ws.length : Nat)), i64 ((u : Nat))] 114 (0, 0))]) rfl
          clear H80
          refine sq (r_assign (v := .iface T73 (x74)) rfl) ?_
          refine wend ?_
          refine seqAny ?_
          refine seqRegion ?_
          refine sq (r_move (v := .slice aw ws.length cw) rfl) ?_
          refine sq (r_lenS sli25 (a := aw) (m := ws.length) (c := cw) rfl) ?_
          refine sq (r_move (v := i64 ((u : Nat))) rfl) ?_
          refine sq (r_subI (a := (ws.length : Nat)) (b := (u : Nat)) rfl rfl (by omega)) ?_
          refine sq (r_lssI (a := (ws.length : Nat) - (u : Nat)) (b := (2 : Int)) rfl rfl) ?_
          refine wend ?_
          refine condProp (((ws.length : Nat) - (u : Nat) : Int) < (2 : Int)) rfl (fun c68 => ?_) (fun c68 => ?_)
          · skip
            refine seqAny ?_
            refine seqRegion ?_
            refine sq (r_loadA (cs' := (cel E64 ([0#64, 0#64])).toArray) agg38 siz38 (H80'.get (k := 0) rfl) (off := 0) rfl (by exact Nat.le_of_ble_eq_true rfl) (by exact ext_all rfl)) ?_
            refine sq (r_buildA (cs' := (cel E64 [0#64, 0#64]).toArray) (ps := []) zer38 arr38 rfl (by rfl)) ?_
            refine sq ((r_neqA (E := E64) (l := [0#64, 0#64]) (l' := [0#64, 0#64]) gty38 und38 fits36 (eqAt64 und36) (rfl) (rfl) rfl rfl).as (v' := .bool (false)) (by simp)) ?_
            refine sq (r_move (v := .bool (false)) rfl) ?_
            refine sqAny (v := .iface T73 (x74)) (w' := w79) (wantedSome (d' := 72) (b := false) rfl rfl rfl) (r_move (v := .iface T73 (x74)) rfl) ?_
            refine caAny (wantedSome (d' := 72) (b := false) rfl rfl rfl) (Enters.callL (vs := [.iface T73 (x74), i64 ((40 : Int))]) call47 rfl) (is_ok 40 (40 : Int) 1 (.iface T73 (x74)) w1.heap.size w79 ((Er.chgs ((Ext.chg (M := fun x => x = b75) hE78).trans (hC81.mono (M' := fun x => x = b75) (fun _ h => by subst h; simp))) (fun x h1 h2 h3 => by have := hE78.size; have := hC81.size; rcases h3 with rfl <;> omega) hEr70))) ?_
            rintro _ w82 ⟨rfl, hE83⟩
            have H84 := H80'.ext hE83
            refine sqAny (v := .bool (false)) (w' := w82) (wantedSome (d' := 72) (b := false) rfl rfl rfl) (r_notT rfl) ?_
            refine sq (r_pickF (v := .bool (false)) rfl rfl) ?_
            refine wend ?_
            refine condFalse rfl ?_
            refine skipAny ?_
            refine thenNormal ?_
            refine exitAny ?_
            refine thenExit ?_
            refine blockHere ?_
            refine thenNormal ?_
            refine oneRegion ?_
            refine sq (r_move (v := i64 ((i : Nat))) rfl) ?_
            refine sq (r_addI (a := (i : Nat)) (b := (1 : Int)) rfl rfl (by omega)) ?_
            refine sq (r_assign (v := i64 ((i : Nat) + (1 : Int))) rfl) ?_
            refine wnil ?_
            refine thenNormal ?_
            exact ⟨(i + 1, u), _, rfl, ⟨rfl, rfl, rfl, rfl, rfl, trivial⟩, ⟨by omega, by omega, (H84.dropk 0)⟩, by show sc.length - (i + 1) < sc.length - i; omega⟩
          · skip
            exfalso
            omega
    · skip
      refine exitAny ?_
      refine thenExit ?_
      refine thenExit ?_
      refine blockHere ?_
      refine thenNormal ?_
      refine seqRegion ?_
      refine sq (r_move (v := .pointer (some ⟨b, 0, none⟩)) rfl) ?_
      refine c_call (vs := [.pointer (some ⟨b, 0, none⟩)]) call19 rfl (used_ok b ws.length u (.slice a ws.length c) (.pointer none) w1 (HL.get (k := 0) rfl)) ?_
      rintro _ w85 ⟨rfl, hE86⟩
      have H87 := HL.ext hE86
      refine sq (r_move (v := i64 ((u : Nat))) rfl) ?_
      refine sq ((r_eqlI (a := (u : Nat)) (b := (u : Nat)) rfl rfl).as (v' := .bool (true)) (by simp)) ?_
      refine sq (r_move (v := .bool (true)) rfl) ?_
      refine sqAny (v := .pointer (some ⟨b, 0, none⟩)) (w' := w85) (wantedSome (d' := 99) (b := true) rfl rfl rfl) (r_move (v := .pointer (some ⟨b, 0, none⟩)) rfl) ?_
      refine caAny (wantedSome (d' := 99) (b := true) rfl rfl rfl) (Enters.callL (vs := [.pointer (some ⟨b, 0, none⟩)]) call20 rfl) (left_ok b ws.length u (.slice a ws.length c) (.pointer none) w85 (H87.get (k := 0) rfl) (by omega) (by omega)) ?_
      rintro _ w88 ⟨rfl, hE89⟩
      have H90 := H87.ext hE89
      refine sqAny (v := .slice aw ws.length cw) (w' := w88) (wantedSome (d' := 99) (b := true) rfl rfl rfl) (r_move (v := .slice aw ws.length cw) rfl) ?_
      refine sqAny (v := i64 ((ws.length : Nat))) (w' := w88) (wantedSome (d' := 99) (b := true) rfl rfl rfl) (r_lenS sli25 (a := aw) (m := ws.length) (c := cw) rfl) ?_
      refine sqAny (v := i64 ((u : Nat))) (w' := w88) (wantedSome (d' := 99) (b := true) rfl rfl rfl) (r_move (v := i64 ((u : Nat))) rfl) ?_
      refine sqAny (v := i64 ((ws.length : Nat) - (u : Nat))) (w' := w88) (wantedSome (d' := 99) (b := true) rfl rfl rfl) (r_subI (a := (ws.length : Nat)) (b := (u : Nat)) rfl rfl (by omega)) ?_
      refine sqAny (v := .bool (true)) (w' := w88) (wantedSome (d' := 99) (b := true) rfl rfl rfl) ((r_eqlI (a := (ws.length : Nat) - (u : Nat)) (b := (ws.length : Nat) - (u : Nat)) rfl rfl).as (v' := .bool (true)) (by simp)) ?_
      refine sq (r_pickT (u := .bool (true)) rfl rfl) ?_
      refine sq (r_assign (v := .bool (true)) rfl) ?_
      refine wend ?_
      refine retAny ?_
      refine retG (rs := [.tmp 6]) (vs := [.bool (true)]) rfl ⟨⟨rfl, rfl⟩, trivial⟩ ?_
      exact ⟨_, rfl, rfl, H90.chg⟩
  · skip
    refine seqRegion ?_
    refine sq (r_move (v := i64 ((i : Nat))) rfl) ?_
    refine sq (r_move (v := .slice asc sc.length cs) rfl) ?_
    refine sq (r_lenS sli23 (a := asc) (m := sc.length) (c := cs) rfl) ?_
    refine sq ((r_lssI (a := (i : Nat)) (b := (sc.length : Nat)) rfl rfl).as (v' := .bool (false)) (by rw [decide_eq_false (by omega)])) ?_
    refine sq (r_move (v := .bool (false)) rfl) ?_
    refine skAny (wantedSome (d' := 19) (b := false) rfl rfl rfl) ?_
    refine skAny (wantedSome (d' := 19) (b := false) rfl rfl rfl) ?_
    refine sq (r_pickF (v := .bool (false)) rfl rfl) ?_
    refine wend ?_
    refine condFalse rfl ?_
    refine exitAny ?_
    refine thenExit ?_
    refine thenExit ?_
    refine blockHere ?_
    refine thenNormal ?_
    refine seqRegion ?_
    refine sq (r_move (v := .pointer (some ⟨b, 0, none⟩)) rfl) ?_
    refine c_call (vs := [.pointer (some ⟨b, 0, none⟩)]) call19 rfl (used_ok b ws.length u (.slice a ws.length c) (.pointer none) w1 (HL.get (k := 0) rfl)) ?_
    rintro _ w91 ⟨rfl, hE92⟩
    have H93 := HL.ext hE92
    refine sq (r_move (v := i64 ((u : Nat))) rfl) ?_
    refine sq ((r_eqlI (a := (u : Nat)) (b := (u : Nat)) rfl rfl).as (v' := .bool (true)) (by simp)) ?_
    refine sq (r_move (v := .bool (true)) rfl) ?_
    refine sqAny (v := .pointer (some ⟨b, 0, none⟩)) (w' := w91) (wantedSome (d' := 99) (b := true) rfl rfl rfl) (r_move (v := .pointer (some ⟨b, 0, none⟩)) rfl) ?_
    refine caAny (wantedSome (d' := 99) (b := true) rfl rfl rfl) (Enters.callL (vs := [.pointer (some ⟨b, 0, none⟩)]) call20 rfl) (left_ok b ws.length u (.slice a ws.length c) (.pointer none) w91 (H93.get (k := 0) rfl) (by omega) (by omega)) ?_
    rintro _ w94 ⟨rfl, hE95⟩
    have H96 := H93.ext hE95
    refine sqAny (v := .slice aw ws.length cw) (w' := w94) (wantedSome (d' := 99) (b := true) rfl rfl rfl) (r_move (v := .slice aw ws.length cw) rfl) ?_
    refine sqAny (v := i64 ((ws.length : Nat))) (w' := w94) (wantedSome (d' := 99) (b := true) rfl rfl rfl) (r_lenS sli25 (a := aw) (m := ws.length) (c := cw) rfl) ?_
    refine sqAny (v := i64 ((u : Nat))) (w' := w94) (wantedSome (d' := 99) (b := true) rfl rfl rfl) (r_move (v := i64 ((u : Nat))) rfl) ?_
    refine sqAny (v := i64 ((ws.length : Nat) - (u : Nat))) (w' := w94) (wantedSome (d' := 99) (b := true) rfl rfl rfl) (r_subI (a := (ws.length : Nat)) (b := (u : Nat)) rfl rfl (by omega)) ?_
    refine sqAny (v := .bool (true)) (w' := w94) (wantedSome (d' := 99) (b := true) rfl rfl rfl) ((r_eqlI (a := (ws.length : Nat) - (u : Nat)) (b := (ws.length : Nat) - (u : Nat)) rfl rfl).as (v' := .bool (true)) (by simp)) ?_
    refine sq (r_pickT (u := .bool (true)) rfl rfl) ?_
    refine sq (r_assign (v := .bool (true)) rfl) ?_
    refine wend ?_
    refine retAny ?_
    refine retG (rs := [.tmp 6]) (vs := [.bool (true)]) rfl ⟨⟨rfl, rfl⟩, trivial⟩ ?_
    exact ⟨_, rfl, rfl, H96.chg⟩

theorem reads_ok_c (ws : List (BitVec 64)) (sc : List Int) (b bc cw cs : Nat) (aw asc : Option Addr) (cl : List By) (hcl : cl.length = 432) (hws : ∀ i, i < ws.length → ws.getD i 0#64 = wordL cl (BitVec.ofInt 64 ((i : Nat)))) (w : World) (hG : Gl w) (hM0 : ¬ (0 = b)) (hb : w.heap[b]? = some (.cells #[.slice none 0 0, .pointer (some ⟨bc, 0, none⟩), i64 ((ws.length : Nat)), i64 ((0 : Nat))] 114 (0, 0))) (hc : ∀ w', Chg (· = b) w w' → w'.heap[bc]? = some (.cells (cel E8 cl).toArray 162 (0, 0))) (hW : ∀ w', Chg (· = b) w w' → Rd E64 w' aw ws) (hSc : ∀ w', Chg (· = b) w w' → Rd EI w' asc sc) (hlen : ws.length ≤ 1048576) (hls : sc.length ≤ 140737488355328) : Calls Tryd.prog 16 [.pointer (some ⟨b, 0, none⟩), .slice aw ws.length cw, .slice asc sc.length cs].toArray w (Ret fun v w' => v = .bool true ∧ Chg (· = b) w w') := by
  have H := Hp.start1 (M := (· = b)) rfl hb
  refine enter (n := 108) Tryd.func16 rfl rfl (Nat.le_of_ble_eq_true rfl) ?_
  refine seqRegion ?_
  refine sq (r_assign (v := .bool (false)) rfl) ?_
  refine wend ?_
  refine seqAny ?_
  refine seqRegion ?_
  refine sq (r_move (v := .pointer (some ⟨b, 0, none⟩)) rfl) ?_
  refine sq (r_eqlPN und29 rfl rfl) ?_
  refine wend ?_
  refine condFalse rfl ?_
  refine skipAny ?_
  refine thenNormal ?_
  refine seqRegion ?_
  refine sq (r_assign (v := i64 ((0 : Int))) rfl) ?_
  refine wend ?_
  refine seqAny ?_
  refine seqRegion ?_
  refine sq (r_assign (v := i64 ((0 : Int))) rfl) ?_
  refine wend ?_
  refine blockAny ?_
  refine loopAny (σ := Nat × Nat) (fun (i, u) => [(0, .pointer (some ⟨b, 0, none⟩)), (1, .slice aw ws.length cw), (2, .slice asc sc.length cs), (7, i64 ((u : Nat))), (8, i64 ((i : Nat)))]) (fun (i, u) w' => i ≤ sc.length ∧ u ≤ ws.length ∧ Hp (· = b) w w' [(some b, .cells #[.slice none 0 0, .pointer (some ⟨bc, 0, none⟩), i64 ((ws.length : Nat)), i64 ((u : Nat))] 114 (0, 0))]) (fun (i, u) => sc.length - i) ((0, 0)) ?_ ?_ ?_
  · exact ⟨rfl, rfl, rfl, rfl, rfl, trivial⟩
  · exact ⟨by omega, by omega, H⟩
  rintro ⟨i, u⟩ ρ w1 ⟨hi, hu, HL⟩
  refine seqAny ?_
  by_cases hA : i < sc.length
  · skip
    refine seqRegion ?_
    refine sq (r_move (v := i64 ((i : Nat))) rfl) ?_
    refine sq (r_move (v := .slice asc sc.length cs) rfl) ?_
    refine sq (r_lenS sli23 (a := asc) (m := sc.length) (c := cs) rfl) ?_
    refine sq ((r_lssI (a := (i : Nat)) (b := (sc.length : Nat)) rfl rfl).as (v' := .bool (true)) (by rw [decide_eq_true (by omega)])) ?_
    refine sq (r_move (v := .bool (true)) rfl) ?_
    refine sqAny (v := i64 ((i : Nat))) (w' := w1) (wantedSome (d' := 19) (b := true) rfl rfl rfl) (r_move (v := i64 ((i : Nat))) rfl) ?_
    refine sqAny (v := .bool (decide (((i : Nat) : Int) < (200 : Int)))) (w' := w1) (wantedSome (d' := 19) (b := true) rfl rfl rfl) (r_lssI (a := (i : Nat)) (b := (200 : Int)) rfl rfl) ?_
    refine sq (r_pickT (u := .bool (decide (((i : Nat) : Int) < (200 : Int)))) rfl rfl) ?_
    refine wend ?_
    refine condProp (((i : Nat) : Int) < (200 : Int)) rfl (fun c22 => ?_) (fun c22 => ?_)
    · skip
      refine skipAny ?_
      refine thenNormal ?_
      refine seqAny ?_
      refine blockAny ?_
      refine seqAny ?_
      refine seqRegion ?_
      refine sq (r_move (v := .slice asc sc.length cs) rfl) ?_
      refine sq (r_move (v := i64 ((i : Nat))) rfl) ?_
      refine sq (r_idxS (E := EI) (l := sc) (j := i) sli23 (hSc _ HL.chg) rfl rfl (by first | rfl | omega | (simp; omega)) (by rfl) (by omega)) ?_
      refine sq (r_ldS (E := EI) (l := sc) (j := i) (v := (sc).getD i 0) fits3 (hSc _ HL.chg) rfl rfl (at_getD (by omega))) ?_
      refine sq (r_remT (a := (sc).getD i 0) (b := (2 : Int)) rfl rfl (by decide)) ?_
      refine sq (r_eqlI (a := Int.tmod ((sc).getD i 0) (2 : Int)) (b := (0 : Int)) rfl rfl) ?_
      refine wend ?_
      refine condProp ((Int.tmod ((sc).getD i 0) (2 : Int) : Int) = (0 : Int)) rfl (fun c30 => ?_) (fun c30 => ?_)
      · skip
        by_cases hB : u < ws.length
        · skip
          refine seqRegion ?_
          refine sq (r_move (v := .pointer (some ⟨b, 0, none⟩)) rfl) ?_
          refine c_call (vs := [.pointer (some ⟨b, 0, none⟩)]) call22 rfl (next_hit_c b bc u ws.length cl hcl w1 (HL.get (k := 0) rfl) (fun w' h => hc w' (HL.chg.trans h)) (by omega) (by omega)) ?_
          rintro _ w3 ⟨rfl, hC5, hn6⟩
          have H7 := (HL.set (k := 0) rfl hC5 hn6).as (L' := [(some b, .cells #[.slice none 0 0, .pointer (some ⟨bc, 0, none⟩), i64 ((ws.length : Nat)), i64 ((u + 1 : Nat))] 114 (0, 0))]) rfl
          refine sq (r_move (v := .tuple #[u64 (wordL cl (BitVec.ofInt 64 ((u : Nat)))), .nilIface]) rfl) ?_
          refine sq (r_extract (vs := #[u64 (wordL cl (BitVec.ofInt 64 ((u : Nat)))), .nilIface]) rfl rfl) ?_
          refine sq (r_extract (vs := #[u64 (wordL cl (BitVec.ofInt 64 ((u : Nat)))), .nilIface]) rfl rfl) ?_
          refine sq (r_assign (v := u64 (wordL cl (BitVec.ofInt 64 ((u : Nat))))) rfl) ?_
          refine sq (r_assign (v := .nilIface) rfl) ?_
          refine wend ?_
          refine seqAny ?_
          refine seqRegion ?_
          refine sq (r_move (v := i64 ((u : Nat))) rfl) ?_
          refine sq (r_move (v := .slice aw ws.length cw) rfl) ?_
          refine sq (r_lenS sli25 (a := aw) (m := ws.length) (c := cw) rfl) ?_
          refine sq (r_geqI (a := (u : Nat)) (b := (ws.length : Nat)) rfl rfl) ?_
          refine wend ?_
          refine condProp (((ws.length : Nat) : Int) ≤ (u : Nat)) rfl (fun c39 => ?_) (fun c39 => ?_)
          · skip
            exfalso
            omega
          · skip
            refine skipAny ?_
            refine thenNormal ?_
            refine seqAny ?_
            refine seqRegion ?_
            refine sq (r_move (v := .nilIface) rfl) ?_
            refine sq (r_neqNN isI40 rfl rfl) ?_
            refine sq (r_move (v := .bool (false)) rfl) ?_
            refine sqAny (v := u64 (wordL cl (BitVec.ofInt 64 ((u : Nat))))) (w' := w3) (wantedSome (d' := 49) (b := false) rfl rfl rfl) (r_move (v := u64 (wordL cl (BitVec.ofInt 64 ((u : Nat))))) rfl) ?_
            refine sqAny (v := .slice aw ws.length cw) (w' := w3) (wantedSome (d' := 49) (b := false) rfl rfl rfl) (r_move (v := .slice aw ws.length cw) rfl) ?_
            refine sqAny (v := i64 ((u : Nat))) (w' := w3) (wantedSome (d' := 49) (b := false) rfl rfl rfl) (r_move (v := i64 ((u : Nat))) rfl) ?_
            refine sqAny (v := .pointer (adr aw (u * 1))) (w' := w3) (wantedSome (d' := 49) (b := false) rfl rfl rfl) (r_idxS (E := E64) (l := ws) (j := u) sli25 (hW _ H7.chg) rfl rfl (by first | rfl | omega | (simp; omega)) (by rfl) (by omega)) ?_
            refine sqAny (v := u64 ((ws).getD u 0#64)) (w' := w3) (wantedSome (d' := 49) (b := false) rfl rfl rfl) (r_ldS (E := E64) (l := ws) (j := u) (v := (ws).getD u 0#64) fits36 (hW _ H7.chg) rfl rfl (at_getD (by omega))) ?_
            refine sqAny (v := .bool (false)) (w' := w3) (wantedSome (d' := 49) (b := false) rfl rfl rfl) ((r_neq64 (a := wordL cl (BitVec.ofInt 64 ((u : Nat)))) (b := (ws).getD u 0#64) rfl rfl).as (v' := .bool (false)) (by rw [hws _ hB]; simp)) ?_
            refine sq (r_pickF (v := .bool (false)) rfl rfl) ?_
            refine wend ?_
            refine condFalse rfl ?_
            refine skipAny ?_
            refine thenNormal ?_
            refine seqRegion ?_
            refine sq (r_move (v := i64 ((u : Nat))) rfl) ?_
            refine sq (r_addI (a := (u : Nat)) (b := (1 : Int)) rfl rfl (by omega)) ?_
            refine sq (r_assign (v := i64 ((u : Nat) + (1 : Int))) rfl) ?_
            refine wend ?_
            refine exitAny ?_
            refine thenExit ?_
            refine blockHere ?_
            refine thenNormal ?_
            refine oneRegion ?_
            refine sq (r_move (v := i64 ((i : Nat))) rfl) ?_
            refine sq (r_addI (a := (i : Nat)) (b := (1 : Int)) rfl rfl (by omega)) ?_
            refine sq (r_assign (v := i64 ((i : Nat) + (1 : Int))) rfl) ?_
            refine wnil ?_
            refine thenNormal ?_
            exact ⟨(i + 1, u + 1), _, rfl, ⟨rfl, rfl, rfl, rfl, rfl, trivial⟩, ⟨by omega, by omega, H7⟩, by show sc.length - (i + 1) < sc.length - i; omega⟩
        · skip
          refine seqRegion ?_
          refine sq (r_move (v := .pointer (some ⟨b, 0, none⟩)) rfl) ?_
          have := HL.lt (List.mem_of_getElem? (i := 0) rfl) rfl
          refine c_call (vs := [.pointer (some ⟨b, 0, none⟩)]) call22 rfl (next_end b ws.length u (.slice none 0 0) (.pointer (some ⟨bc, 0, none⟩)) w1 (Chg.gl HL.chg hM0 hG) (HL.get (k := 0) rfl) (by omega)) ?_
          rintro _ w8 ⟨⟨v10, rfl, hEr11⟩, hE12⟩
          have H13 := HL.ext hE12
          obtain ⟨T14, x15, rfl⟩ := hEr11.iface
          refine sq (r_move (v := .tuple #[u64 (0#64), .iface T14 (x15)]) rfl) ?_
          refine sq (r_extract (vs := #[u64 (0#64), .iface T14 (x15)]) rfl rfl) ?_
          refine sq (r_extract (vs := #[u64 (0#64), .iface T14 (x15)]) rfl rfl) ?_
          refine sq (r_assign (v := u64 (0#64)) rfl) ?_
          refine sq (r_assign (v := .iface T14 (x15)) rfl) ?_
          refine wend ?_
          refine seqAny ?_
          refine seqRegion ?_
          refine sq (r_move (v := i64 ((u : Nat))) rfl) ?_
          refine sq (r_move (v := .slice aw ws.length cw) rfl) ?_
          refine sq (r_lenS sli25 (a := aw) (m := ws.length) (c := cw) rfl) ?_
          refine sq (r_geqI (a := (u : Nat)) (b := (ws.length : Nat)) rfl rfl) ?_
          refine wend ?_
          refine condProp (((ws.length : Nat) : Int) ≤ (u : Nat)) rfl (fun c39 => ?_) (fun c39 => ?_)
          · skip
            refine seqAny ?_
            refine seqRegion ?_
            refine sq (r_move (v := u64 (0#64)) rfl) ?_
            refine sq ((r_neq64 (a := 0#64) (b := 0#64) rfl rfl).as (v' := .bool (false)) (by simp)) ?_
            refine sq (r_move (v := .bool (false)) rfl) ?_
            refine sqAny (v := .iface T14 (x15)) (w' := w8) (wantedSome (d' := 42) (b := false) rfl rfl rfl) (r_move (v := .iface T14 (x15)) rfl) ?_
            refine caAny (wantedSome (d' := 42) (b := false) rfl rfl rfl) (Enters.callL (vs := [.iface T14 (x15), i64 ((40 : Int))]) call47 rfl) (is_ok 40 (40 : Int) 1 (.iface T14 (x15)) w1.heap.size w8 (hEr11)) ?_
            rintro _ w16 ⟨rfl, hE17⟩
            have H18 := H13.ext hE17
            refine sqAny (v := .bool (false)) (w' := w16) (wantedSome (d' := 42) (b := false) rfl rfl rfl) (r_notT rfl) ?_
            refine sq (r_pickF (v := .bool (false)) rfl rfl) ?_
            refine wend ?_
            refine condFalse rfl ?_
            refine skipAny ?_
            refine thenNormal ?_
            refine exitAny ?_
            refine thenExit ?_
            refine thenExit ?_
            refine blockHere ?_
            refine thenNormal ?_
            refine oneRegion ?_
            refine sq (r_move (v := i64 ((i : Nat))) rfl) ?_
            refine sq (r_addI (a := (i : Nat)) (b := (1 : Int)) rfl rfl (by omega)) ?_
            refine sq (r_assign (v := i64 ((i : Nat) + (1 : Int))) rfl) ?_
            refine wnil ?_
            refine thenNormal ?_
            exact ⟨(i + 1, u), _, rfl, ⟨rfl, rfl, rfl, rfl, rfl, trivial⟩, ⟨by omega, by omega, H18⟩, by show sc.length - (i + 1) < sc.length - i; omega⟩
          · skip
            exfalso
            omega
      · skip
        refine skipAny ?_
        refine thenNormal ?_
        by_cases hC : u + 2 ≤ ws.length
        · skip
          refine seqRegion ?_
          refine sq (r_move (v := .pointer (some ⟨b, 0, none⟩)) rfl) ?_
          refine c_call (vs := [.pointer (some ⟨b, 0, none⟩)]) call21 rfl (label_hit_c b bc u ws.length cl hcl w1 (HL.get (k := 0) rfl) (fun w' h => hc w' (HL.chg.trans h)) (by omega) (by omega)) ?_
          rintro _ w19 ⟨rfl, hC21, hn22⟩
          have H23 := (HL.set (k := 0) rfl hC21 hn22).as (L' := [(some b, .cells #[.slice none 0 0, .pointer (some ⟨bc, 0, none⟩), i64 ((ws.length : Nat)), i64 ((u + 2 : Nat))] 114 (0, 0))]) rfl
          refine sq (r_move (v := .tuple #[.agg (cel E64 [wordL cl (BitVec.ofInt 64 ((u : Nat))), wordL cl (BitVec.ofInt 64 ((u + 1 : Nat)))]).toArray, .nilIface]) rfl) ?_
          refine sq (r_extract (vs := #[.agg (cel E64 [wordL cl (BitVec.ofInt 64 ((u : Nat))), wordL cl (BitVec.ofInt 64 ((u + 1 : Nat)))]).toArray, .nilIface]) rfl rfl) ?_
          refine sq (r_extract (vs := #[.agg (cel E64 [wordL cl (BitVec.ofInt 64 ((u : Nat))), wordL cl (BitVec.ofInt 64 ((u + 1 : Nat)))]).toArray, .nilIface]) rfl rfl) ?_
          refine q_alloc (o := .cells (cel E64 ([0#64, 0#64])).toArray 38 (0, 0)) H23 zer38 (by kernel_rfl) ?_
          intro b24 w25 hb24 H26 hE27
          refine d_store (k := 0) (v := .agg (cel E64 [wordL cl (BitVec.ofInt 64 ((u : Nat))), wordL cl (BitVec.ofInt 64 ((u + 1 : Nat)))]).toArray) (cs' := (cel E64 ([wordL cl (BitVec.ofInt 64 ((u : Nat))), wordL cl (BitVec.ofInt 64 ((u + 1 : Nat)))])).toArray) H26 rfl rfl rfl siz38 (by exact celSize (by first | rfl | (show _ * 1 = _; omega))) (by exact celOne _) (by rw [List.size_toArray, cel_length]; show _ ≤ _ * 1; first | omega | (simp only [List.length_set]; omega) | exact Nat.le_of_ble_eq_true rfl | (simp <;> omega)) (by exact putAll (by first | rfl | omega | (simp <;> omega))) ?_
          intro w28 H29 hC30
          have H29' := H29.as (L' := [(some b24, .cells (cel E64 ([wordL cl (BitVec.ofInt 64 ((u : Nat))), wordL cl (BitVec.ofInt 64 ((u + 1 : Nat)))])).toArray 38 (0, 0)), (some b, .cells #[.slice none 0 0, .pointer (some ⟨bc, 0, none⟩), i64 ((ws.length : Nat)), i64 ((u + 2 : Nat))] 114 (0, 0))]) rfl
          clear H29
          refine sq (r_assign (v := .nilIface) rfl) ?_
          refine wend ?_
          refine seqAny ?_
          refine seqRegion ?_
          refine sq (r_move (v := .slice aw ws.length cw) rfl) ?_
          refine sq (r_lenS sli25 (a := aw) (m := ws.length) (c := cw) rfl) ?_
          refine sq (r_move (v := i64 ((u : Nat))) rfl) ?_
          refine sq (r_subI (a := (ws.length : Nat)) (b := (u : Nat)) rfl rfl (by omega)) ?_
          refine sq (r_lssI (a := (ws.length : Nat) - (u : Nat)) (b := (2 : Int)) rfl rfl) ?_
          refine wend ?_
          refine condProp (((ws.length : Nat) - (u : Nat) : Int) < (2 : Int)) rfl (fun c68 => ?_) (fun c68 => ?_)
          · skip
            exfalso
            omega
          · skip
            refine skipAny ?_
            refine thenNormal ?_
            refine seqAny ?_
            refine seqAny ?_
            refine drawAny (K := [none, none, none, none, none, none, none, none, none, none, none, none, none, none, none, none]) [0, 1, 3, 7, 7, 7, 55, 119, 7, 7, 519, 1799, 3847, 8183, 16383, 32767] (fun w' => Ext w28 w') (fun w' w'' => Ext w' w'') mixed (by kernel_rfl) (Ext.drew _) (fun _ _ h h' => h.trans h') ?_ ?_
            · exact relNone (by decide)
            refine ⟨.nilIface, fun _ uw31 hC32 _ => Gives.run rfl (r_move (v := .nilIface) rfl) ⟨rfl, Chg.refl _ _⟩, ?_⟩
            refine ⟨.bool (false), fun _ uw33 hC34 _ => Gives.run rfl (r_neqNN isI40 rfl rfl) ⟨rfl, Chg.refl _ _⟩, ?_⟩
            refine ⟨.bool (false), fun _ uw35 hC36 _ => Gives.run rfl (r_move (v := .bool (false)) rfl) ⟨rfl, Chg.refl _ _⟩, ?_⟩
            refine ⟨.agg (cel E64 ([wordL cl (BitVec.ofInt 64 ((u : Nat))), wordL cl (BitVec.ofInt 64 ((u + 1 : Nat)))])).toArray, fun _ uw37 hC38 _ => Gives.runW (wantedSome (d' := 79) (b := false) rfl rfl rfl) (r_loadA (cs' := (cel E64 ([wordL cl (BitVec.ofInt 64 ((u : Nat))), wordL cl (BitVec.ofInt 64 ((u + 1 : Nat)))])).toArray) agg38 siz38 ((H29'.ext hC38).get (k := 0) rfl) (off := 0) rfl (by exact Nat.le_of_ble_eq_true rfl) (by exact ext_all rfl)) ⟨rfl, Chg.refl _ _⟩, ?_⟩
            refine ⟨.slice aw ws.length cw, fun _ uw39 hC40 _ => Gives.runW (wantedSome (d' := 79) (b := false) rfl rfl rfl) (r_move (v := .slice aw ws.length cw) rfl) ⟨rfl, Chg.refl _ _⟩, ?_⟩
            refine ⟨i64 ((u : Nat)), fun _ uw41 hC42 _ => Gives.runW (wantedSome (d' := 79) (b := false) rfl rfl rfl) (r_move (v := i64 ((u : Nat))) rfl) ⟨rfl, Chg.refl _ _⟩, ?_⟩
            refine ⟨.pointer (adr aw (u * 1)), fun _ uw43 hC44 _ => Gives.runW (wantedSome (d' := 79) (b := false) rfl rfl rfl) (r_idxS (E := E64) (l := ws) (j := u) sli25 (hW _ (H29'.ext hC44).chg) rfl rfl (by first | rfl | omega | (simp; omega)) (by rfl) (by omega)) ⟨rfl, Chg.refl _ _⟩, ?_⟩
            refine ⟨u64 ((ws).getD u 0#64), fun _ uw45 hC46 _ => Gives.runW (wantedSome (d' := 79) (b := false) rfl rfl rfl) (r_ldS (E := E64) (l := ws) (j := u) (v := (ws).getD u 0#64) fits36 (hW _ (H29'.ext hC46).chg) rfl rfl (at_getD (by omega))) ⟨rfl, Chg.refl _ _⟩, ?_⟩
            refine ⟨.slice aw ws.length cw, fun _ uw47 hC48 _ => Gives.runW (wantedSome (d' := 79) (b := false) rfl rfl rfl) (r_move (v := .slice aw ws.length cw) rfl) ⟨rfl, Chg.refl _ _⟩, ?_⟩
            refine ⟨i64 ((u : Nat)), fun _ uw49 hC50 _ => Gives.runW (wantedSome (d' := 79) (b := false) rfl rfl rfl) (r_move (v := i64 ((u : Nat))) rfl) ⟨rfl, Chg.refl _ _⟩, ?_⟩
            refine ⟨i64 ((u : Nat) + (1 : Int)), fun _ uw51 hC52 _ => Gives.runW (wantedSome (d' := 79) (b := false) rfl rfl rfl) (r_addI (a := (u : Nat)) (b := (1 : Int)) rfl rfl (by omega)) ⟨rfl, Chg.refl _ _⟩, ?_⟩
            refine ⟨.pointer (adr aw ((u + 1) * 1)), fun _ uw53 hC54 _ => Gives.runW (wantedSome (d' := 79) (b := false) rfl rfl rfl) (r_idxS (E := E64) (l := ws) (j := u + 1) sli25 (hW _ (H29'.ext hC54).chg) rfl rfl (by first | rfl | omega | (simp; omega)) (by rfl) (by omega)) ⟨rfl, Chg.refl _ _⟩, ?_⟩
            refine ⟨u64 ((ws).getD (u + 1) 0#64), fun _ uw55 hC56 _ => Gives.runW (wantedSome (d' := 79) (b := false) rfl rfl rfl) (r_ldS (E := E64) (l := ws) (j := u + 1) (v := (ws).getD (u + 1) 0#64) fits36 (hW _ (H29'.ext hC56).chg) rfl rfl (at_getD (by omega))) ⟨rfl, Chg.refl _ _⟩, ?_⟩
            refine ⟨.agg (cel E64 [(ws).getD u 0#64, (ws).getD (u + 1) 0#64]).toArray, fun _ uw57 hC58 _ => Gives.runW (wantedSome (d' := 79) (b := false) rfl rfl rfl) (r_buildA (cs' := (cel E64 [(ws).getD u 0#64, (ws).getD (u + 1) 0#64]).toArray) (ps := [(0, u64 ((ws).getD u 0#64)), (1, u64 ((ws).getD (u + 1) 0#64))]) zer38 arr38 rfl (by rfl)) ⟨rfl, Chg.refl _ _⟩, ?_⟩
            refine ⟨.bool (false), fun _ uw59 hC60 _ => Gives.runW (wantedSome (d' := 79) (b := false) rfl rfl rfl) ((r_neqA (E := E64) (l := [wordL cl (BitVec.ofInt 64 ((u : Nat))), wordL cl (BitVec.ofInt 64 ((u + 1 : Nat)))]) (l' := [(ws).getD u 0#64, (ws).getD (u + 1) 0#64]) gty38 und38 fits36 (eqAt64 und36) (rfl) (rfl) rfl rfl).as (v' := .bool (false)) (by rw [hws u (by omega), hws (u + 1) (by omega)]; simp)) ⟨rfl, Chg.refl _ _⟩, ?_⟩
            refine ⟨.bool (false), fun _ uw61 hC62 _ => Gives.run rfl (r_pickF (v := .bool (false)) rfl rfl) ⟨rfl, Chg.refl _ _⟩, ?_⟩
            intro r66 w63 hE65 hF
            have H64 := H29'.ext hE65
            refine wnil ?_
            refine thenNormal ?_
            refine condFalse rfl ?_
            refine skipAny ?_
            refine thenNormal ?_
            refine oneRegion ?_
            refine sq (r_move (v := i64 ((u : Nat))) rfl) ?_
            refine sq (r_addI (a := (u : Nat)) (b := (2 : Int)) rfl rfl (by omega)) ?_
            refine sq (r_assign (v := i64 ((u : Nat) + (2 : Int))) rfl) ?_
            refine wnil ?_
            refine blockNormal ?_
            refine thenNormal ?_
            refine oneRegion ?_
            refine sq (r_move (v := i64 ((i : Nat))) rfl) ?_
            refine sq (r_addI (a := (i : Nat)) (b := (1 : Int)) rfl rfl (by omega)) ?_
            refine sq (r_assign (v := i64 ((i : Nat) + (1 : Int))) rfl) ?_
            refine wnil ?_
            refine thenNormal ?_
            exact ⟨(i + 1, u + 2), _, rfl, ⟨rfl, rfl, rfl, rfl, rfl, trivial⟩, ⟨by omega, by omega, (H64.dropk 0)⟩, by show sc.length - (i + 1) < sc.length - i; omega⟩
        · skip
          refine seqRegion ?_
          refine sq (r_move (v := .pointer (some ⟨b, 0, none⟩)) rfl) ?_
          have := HL.lt (List.mem_of_getElem? (i := 0) rfl) rfl
          refine c_call (vs := [.pointer (some ⟨b, 0, none⟩)]) call21 rfl (label_end b ws.length u (.slice none 0 0) (.pointer (some ⟨bc, 0, none⟩)) w1 (Chg.gl HL.chg hM0 hG) (HL.get (k := 0) rfl) (by omega) (by omega) (by omega)) ?_
          rintro _ w67 ⟨⟨v69, rfl, hEr70⟩, hE71⟩
          have H72 := HL.ext hE71
          obtain ⟨T73, x74, rfl⟩ := hEr70.iface
          refine sq (r_move (v := .tuple #[.agg (cel E64 [0#64, 0#64]).toArray, .iface T73 (x74)]) rfl) ?_
          refine sq (r_extract (vs := #[.agg (cel E64 [0#64, 0#64]).toArray, .iface T73 (x74)]) rfl rfl) ?_
          refine sq (r_extract (vs := #[.agg (cel E64 [0#64, 0#64]).toArray, .iface T73 (x74)]) rfl rfl) ?_
          refine q_alloc (o := .cells (cel E64 ([0#64, 0#64])).toArray 38 (0, 0)) H72 zer38 (by kernel_rfl) ?_
          intro b75 w76 hb75 H77 hE78
          refine d_store (k := 0) (v := .agg (cel E64 [0#64, 0#64]).toArray) (cs' := (cel E64 ([0#64, 0#64])).toArray) H77 rfl rfl rfl siz38 (by exact celSize (by first | rfl | (show _ * 1 = _; omega))) (by exact celOne _) (by rw [List.size_toArray, cel_length]; show _ ≤ _ * 1; first | omega | (simp only [List.length_set]; omega) | exact Nat.le_of_ble_eq_true rfl | (simp <;> omega)) (by exact putAll (by first | rfl | omega | (simp <;> omega))) ?_
          intro w79 H80 hC81
          have H80' := H80.as (L' := [(some b75, .cells (cel E64 ([0#64, 0#64])).toArray 38 (0, 0)), (some b, .cells #[.slice none 0 0, .pointer (some ⟨bc, 0, none⟩), i64 ((ws.length : Nat)), i64 ((u : Nat))] 114 (0, 0))]) rfl
          clear H80
          refine sq (r_assign (v := .iface T73 (x74)) rfl) ?_
          refine wend ?_
          refine seqAny ?_
          refine seqRegion ?_
          refine sq (r_move (v := .slice aw ws.length cw) rfl) ?_
          refine sq (r_lenS sli25 (a := aw) (m := ws.length) (c := cw) rfl) ?_
          refine sq (r_move (v := i64 ((u : Nat))) rfl) ?_
          refine sq (r_subI (a := (ws.length : Nat)) (b := (u : Nat)) rfl rfl (by omega)) ?_
          refine sq (r_lssI (a := (ws.length : Nat) - (u : Nat)) (b := (2 : Int)) rfl rfl) ?_
          refine wend ?_
          refine condProp (((ws.length : Nat) - (u : Nat) : Int) < (2 : Int)) rfl (fun c68 => ?_) (fun c68 => ?_)
          · skip
            refine seqAny ?_
            refine seqRegion ?_
            refine sq (r_loadA (cs' := (cel E64 ([0#64, 0#64])).toArray) agg38 siz38 (H80'.get (k := 0) rfl) (off := 0) rfl (by exact Nat.le_of_ble_eq_true rfl) (by exact ext_all rfl)) ?_
            refine sq (r_buildA (cs' := (cel E64 [0#64, 0#64]).toArray) (ps := []) zer38 arr38 rfl (by rfl)) ?_
            refine sq ((r_neqA (E := E64) (l := [0#64, 0#64]) (l' := [0#64, 0#64]) gty38 und38 fits36 (eqAt64 und36) (rfl) (rfl) rfl rfl).as (v' := .bool (false)) (by simp)) ?_
            refine sq (r_move (v := .bool (false)) rfl) ?_
            refine sqAny (v := .iface T73 (x74)) (w' := w79) (wantedSome (d' := 72) (b := false) rfl rfl rfl) (r_move (v := .iface T73 (x74)) rfl) ?_
            refine caAny (wantedSome (d' := 72) (b := false) rfl rfl rfl) (Enters.callL (vs := [.iface T73 (x74), i64 ((40 : Int))]) call47 rfl) (is_ok 40 (40 : Int) 1 (.iface T73 (x74)) w1.heap.size w79 ((Er.chgs ((Ext.chg (M := fun x => x = b75) hE78).trans (hC81.mono (M' := fun x => x = b75) (fun _ h => by subst h; simp))) (fun x h1 h2 h3 => by have := hE78.size; have := hC81.size; rcases h3 with rfl <;> omega) hEr70))) ?_
            rintro _ w82 ⟨rfl, hE83⟩
            have H84 := H80'.ext hE83
            refine sqAny (v := .bool (false)) (w' := w82) (wantedSome (d' := 72) (b := false) rfl rfl rfl) (r_notT rfl) ?_
            refine sq (r_pickF (v := .bool (false)) rfl rfl) ?_
            refine wend ?_
            refine condFalse rfl ?_
            refine skipAny ?_
            refine thenNormal ?_
            refine exitAny ?_
            refine thenExit ?_
            refine blockHere ?_
            refine thenNormal ?_
            refine oneRegion ?_
            refine sq (r_move (v := i64 ((i : Nat))) rfl) ?_
            refine sq (r_addI (a := (i : Nat)) (b := (1 : Int)) rfl rfl (by omega)) ?_
            refine sq (r_assign (v := i64 ((i : Nat) + (1 : Int))) rfl) ?_
            refine wnil ?_
            refine thenNormal ?_
            exact ⟨(i + 1, u), _, rfl, ⟨rfl, rfl, rfl, rfl, rfl, trivial⟩, ⟨by omega, by omega, (H84.dropk 0)⟩, by show sc.length - (i + 1) < sc.length - i; omega⟩
          · skip
            exfalso
            omega
    · skip
      refine exitAny ?_
      refine thenExit ?_
      refine thenExit ?_
      refine blockHere ?_
      refine thenNormal ?_
      refine seqRegion ?_
      refine sq (r_move (v := .pointer (some ⟨b, 0, none⟩)) rfl) ?_
      refine c_call (vs := [.pointer (some ⟨b, 0, none⟩)]) call19 rfl (used_ok b ws.length u (.slice none 0 0) (.pointer (some ⟨bc, 0, none⟩)) w1 (HL.get (k := 0) rfl)) ?_
      rintro _ w85 ⟨rfl, hE86⟩
      have H87 := HL.ext hE86
      refine sq (r_move (v := i64 ((u : Nat))) rfl) ?_
      refine sq ((r_eqlI (a := (u : Nat)) (b := (u : Nat)) rfl rfl).as (v' := .bool (true)) (by simp)) ?_
      refine sq (r_move (v := .bool (true)) rfl) ?_
      refine sqAny (v := .pointer (some ⟨b, 0, none⟩)) (w' := w85) (wantedSome (d' := 99) (b := true) rfl rfl rfl) (r_move (v := .pointer (some ⟨b, 0, none⟩)) rfl) ?_
      refine caAny (wantedSome (d' := 99) (b := true) rfl rfl rfl) (Enters.callL (vs := [.pointer (some ⟨b, 0, none⟩)]) call20 rfl) (left_ok b ws.length u (.slice none 0 0) (.pointer (some ⟨bc, 0, none⟩)) w85 (H87.get (k := 0) rfl) (by omega) (by omega)) ?_
      rintro _ w88 ⟨rfl, hE89⟩
      have H90 := H87.ext hE89
      refine sqAny (v := .slice aw ws.length cw) (w' := w88) (wantedSome (d' := 99) (b := true) rfl rfl rfl) (r_move (v := .slice aw ws.length cw) rfl) ?_
      refine sqAny (v := i64 ((ws.length : Nat))) (w' := w88) (wantedSome (d' := 99) (b := true) rfl rfl rfl) (r_lenS sli25 (a := aw) (m := ws.length) (c := cw) rfl) ?_
      refine sqAny (v := i64 ((u : Nat))) (w' := w88) (wantedSome (d' := 99) (b := true) rfl rfl rfl) (r_move (v := i64 ((u : Nat))) rfl) ?_
      refine sqAny (v := i64 ((ws.length : Nat) - (u : Nat))) (w' := w88) (wantedSome (d' := 99) (b := true) rfl rfl rfl) (r_subI (a := (ws.length : Nat)) (b := (u : Nat)) rfl rfl (by omega)) ?_
      refine sqAny (v := .bool (true)) (w' := w88) (wantedSome (d' := 99) (b := true) rfl rfl rfl) ((r_eqlI (a := (ws.length : Nat) - (u : Nat)) (b := (ws.length : Nat) - (u : Nat)) rfl rfl).as (v' := .bool (true)) (by simp)) ?_
      refine sq (r_pickT (u := .bool (true)) rfl rfl) ?_
      refine sq (r_assign (v := .bool (true)) rfl) ?_
      refine wend ?_
      refine retAny ?_
      refine retG (rs := [.tmp 6]) (vs := [.bool (true)]) rfl ⟨⟨rfl, rfl⟩, trivial⟩ ?_
      exact ⟨_, rfl, rfl, H90.chg⟩
  · skip
    refine seqRegion ?_
    refine sq (r_move (v := i64 ((i : Nat))) rfl) ?_
    refine sq (r_move (v := .slice asc sc.length cs) rfl) ?_
    refine sq (r_lenS sli23 (a := asc) (m := sc.length) (c := cs) rfl) ?_
    refine sq ((r_lssI (a := (i : Nat)) (b := (sc.length : Nat)) rfl rfl).as (v' := .bool (false)) (by rw [decide_eq_false (by omega)])) ?_
    refine sq (r_move (v := .bool (false)) rfl) ?_
    refine skAny (wantedSome (d' := 19) (b := false) rfl rfl rfl) ?_
    refine skAny (wantedSome (d' := 19) (b := false) rfl rfl rfl) ?_
    refine sq (r_pickF (v := .bool (false)) rfl rfl) ?_
    refine wend ?_
    refine condFalse rfl ?_
    refine exitAny ?_
    refine thenExit ?_
    refine thenExit ?_
    refine blockHere ?_
    refine thenNormal ?_
    refine seqRegion ?_
    refine sq (r_move (v := .pointer (some ⟨b, 0, none⟩)) rfl) ?_
    refine c_call (vs := [.pointer (some ⟨b, 0, none⟩)]) call19 rfl (used_ok b ws.length u (.slice none 0 0) (.pointer (some ⟨bc, 0, none⟩)) w1 (HL.get (k := 0) rfl)) ?_
    rintro _ w91 ⟨rfl, hE92⟩
    have H93 := HL.ext hE92
    refine sq (r_move (v := i64 ((u : Nat))) rfl) ?_
    refine sq ((r_eqlI (a := (u : Nat)) (b := (u : Nat)) rfl rfl).as (v' := .bool (true)) (by simp)) ?_
    refine sq (r_move (v := .bool (true)) rfl) ?_
    refine sqAny (v := .pointer (some ⟨b, 0, none⟩)) (w' := w91) (wantedSome (d' := 99) (b := true) rfl rfl rfl) (r_move (v := .pointer (some ⟨b, 0, none⟩)) rfl) ?_
    refine caAny (wantedSome (d' := 99) (b := true) rfl rfl rfl) (Enters.callL (vs := [.pointer (some ⟨b, 0, none⟩)]) call20 rfl) (left_ok b ws.length u (.slice none 0 0) (.pointer (some ⟨bc, 0, none⟩)) w91 (H93.get (k := 0) rfl) (by omega) (by omega)) ?_
    rintro _ w94 ⟨rfl, hE95⟩
    have H96 := H93.ext hE95
    refine sqAny (v := .slice aw ws.length cw) (w' := w94) (wantedSome (d' := 99) (b := true) rfl rfl rfl) (r_move (v := .slice aw ws.length cw) rfl) ?_
    refine sqAny (v := i64 ((ws.length : Nat))) (w' := w94) (wantedSome (d' := 99) (b := true) rfl rfl rfl) (r_lenS sli25 (a := aw) (m := ws.length) (c := cw) rfl) ?_
    refine sqAny (v := i64 ((u : Nat))) (w' := w94) (wantedSome (d' := 99) (b := true) rfl rfl rfl) (r_move (v := i64 ((u : Nat))) rfl) ?_
    refine sqAny (v := i64 ((ws.length : Nat) - (u : Nat))) (w' := w94) (wantedSome (d' := 99) (b := true) rfl rfl rfl) (r_subI (a := (ws.length : Nat)) (b := (u : Nat)) rfl rfl (by omega)) ?_
    refine sqAny (v := .bool (true)) (w' := w94) (wantedSome (d' := 99) (b := true) rfl rfl rfl) ((r_eqlI (a := (ws.length : Nat) - (u : Nat)) (b := (ws.length : Nat) - (u : Nat)) rfl rfl).as (v' := .bool (true)) (by simp)) ?_
    refine sq (r_pickT (u := .bool (true)) rfl rfl) ?_
    refine sq (r_assign (v := .bool (true)) rfl) ?_
    refine wend ?_
    refine retAny ?_
    refine retG (rs := [.tmp 6]) (vs := [.bool (true)]) rfl ⟨⟨rfl, rfl⟩, trivial⟩ ?_
    exact ⟨_, rfl, rfl, H96.chg⟩

def nineS (ws : List (BitVec 64)) : Nat → List (BitVec 64)
  | 0 => ws
  | k + 1 => (nineS ws k).set k 9#64
theorem nineS_len (ws : List (BitVec 64)) (k : Nat) : (nineS ws k).length = ws.length := by
  induction k with
  | zero => rfl
  | succ k ih => simp [nineS, ih]


theorem tapeends_ok (seed : List By) (hk : seed.length = 16) (k : Int) (w : World) (hG : Gl w) : Calls Tryd.prog 4 [.agg (cel E8 seed).toArray, i64 (k)].toArray w (Ret fun v w' => v = .bool true ∧ Ext w w') := by
  have H := Hp.start No w
  have hsz := szT_eq k
  have hsz2 : szT k ≤ 1048576 := by omega
  refine enter (n := 26) Tryd.func4 rfl rfl (Nat.le_of_ble_eq_true rfl) ?_
  refine seqRegion ?_
  refine q_box (v := .agg (cel E8 seed).toArray) (o := .cells (cel E8 seed).toArray 22 (0, 0)) H rfl (by rfl) ?_
  intro b1 w2 hb1 H3 hE4
  refine sq (r_assign (v := .bool (false)) rfl) ?_
  refine wend ?_
  refine seqAny ?_
  refine seqRegion ?_
  refine c_call (vs := []) call14 rfl (awake_ok w2 (Chg.gl H3.chg (fun x => x) hG)) ?_
  rintro _ w5 ⟨rfl, hE6⟩
  have H7 := H3.ext hE6
  refine sq (r_notT rfl) ?_
  refine wend ?_
  refine condFalse rfl ?_
  refine skipAny ?_
  refine thenNormal ?_
  refine seqRegion ?_
  refine sq (r_loadA (cs' := (cel E8 seed).toArray) agg22 siz22 (H7.get (k := 0) rfl) (off := 0) rfl (by rw [List.size_toArray, cel_length]; show _ ≤ _ * 1; omega) (by exact ext_all (by rw [cel_length]; show _ * 1 = _; omega))) ?_
  refine sq (r_move (v := i64 (k)) rfl) ?_
  refine c_call (vs := [.agg (cel E8 seed).toArray, i64 (k)]) call17 rfl (newtape_ok seed hk k w5) ?_
  rintro _ w8 ⟨⟨b10, bc11, rfl, HN12⟩, hE13⟩
  have H14 := (H7.join HN12).as (L' := [(some b10, .cells #[.slice none 0 0, .pointer (some ⟨bc11, 0, none⟩), i64 ((szT k : Nat)), i64 ((0 : Nat))] 114 (0, 0)), (some bc11, .cells (cel E8 (cipher seed)).toArray 162 (0, 0)), (some b1, .cells (cel E8 seed).toArray 22 (0, 0))]) rfl
  refine sq (r_assign (v := .pointer (some ⟨b10, 0, none⟩)) rfl) ?_
  refine wend ?_
  refine seqRegion ?_
  refine sq (r_move (v := .pointer (some ⟨b10, 0, none⟩)) rfl) ?_
  refine sq (r_neqPN und29 rfl rfl) ?_
  refine sq (r_move (v := .bool (true)) rfl) ?_
  refine sqAny (v := .pointer (some ⟨b10, 0, none⟩)) (w' := w8) (wantedSome (d' := 13) (b := true) rfl rfl rfl) (r_move (v := .pointer (some ⟨b10, 0, none⟩)) rfl) ?_
  refine caAny (wantedSome (d' := 13) (b := true) rfl rfl rfl) (Enters.callL (vs := [.pointer (some ⟨b10, 0, none⟩)]) call19 rfl) (used_ok b10 (szT k) 0 (.slice none 0 0) (.pointer (some ⟨bc11, 0, none⟩)) w8 (H14.get (k := 0) rfl)) ?_
  rintro _ w15 ⟨rfl, hE16⟩
  have H17 := H14.ext hE16
  refine sqAny (v := .bool (true)) (w' := w15) (wantedSome (d' := 13) (b := true) rfl rfl rfl) ((r_eqlI (a := (0 : Nat)) (b := (0 : Int)) rfl rfl).as (v' := .bool (true)) (by rfl)) ?_
  refine sq (r_pickT (u := .bool (true)) rfl rfl) ?_
  refine sq (r_move (v := .bool (true)) rfl) ?_
  refine sqAny (v := .pointer (some ⟨b10, 0, none⟩)) (w' := w15) (wantedSome (d' := 18) (b := true) rfl rfl rfl) (r_move (v := .pointer (some ⟨b10, 0, none⟩)) rfl) ?_
  refine caAny (wantedSome (d' := 18) (b := true) rfl rfl rfl) (Enters.callL (vs := [.pointer (some ⟨b10, 0, none⟩)]) call20 rfl) (left_ok b10 (szT k) 0 (.slice none 0 0) (.pointer (some ⟨bc11, 0, none⟩)) w15 (H17.get (k := 0) rfl) (by omega) (by omega)) ?_
  rintro _ w18 ⟨rfl, hE19⟩
  have H20 := H17.ext hE19
  refine sqAny (v := i64 (k)) (w' := w18) (wantedSome (d' := 18) (b := true) rfl rfl rfl) (r_move (v := i64 (k)) rfl) ?_
  refine sqAny (v := i64 (min k (1048576 : Int))) (w' := w18) (wantedSome (d' := 18) (b := true) rfl rfl rfl) (r_minI (a := k) (b := (1048576 : Int)) rfl rfl) ?_
  refine sqAny (v := i64 (max (0 : Int) (min k (1048576 : Int)))) (w' := w18) (wantedSome (d' := 18) (b := true) rfl rfl rfl) (r_maxI (a := (0 : Int)) (b := min k (1048576 : Int)) rfl rfl) ?_
  refine sqAny (v := .bool (true)) (w' := w18) (wantedSome (d' := 18) (b := true) rfl rfl rfl) ((r_eqlI (a := (szT k : Nat) - (0 : Nat)) (b := max (0 : Int) (min k (1048576 : Int))) rfl rfl).as (v' := .bool (true)) (by rw [decide_eq_true (by have := szT_eq k; omega)])) ?_
  refine sq (r_pickT (u := .bool (true)) rfl rfl) ?_
  refine sq (r_assign (v := .bool (true)) rfl) ?_
  refine wend ?_
  refine retAny ?_
  refine retG (rs := [.tmp 4]) (vs := [.bool (true)]) rfl ⟨⟨rfl, rfl⟩, trivial⟩ ?_
  exact ⟨_, rfl, rfl, H20.chg⟩

theorem small30 (x : BitVec 64) : ∃ p : Nat, (x % 30#64).toInt = (p : Nat) ∧ p < 30 := by
  have h : (x % 30#64).toNat < 30 := by rw [BitVec.toNat_umod]; exact Nat.mod_lt _ (by decide)
  exact ⟨(x % 30#64).toNat, BitVec.toInt_eq_toNat_of_lt (by omega), h⟩

theorem TapeR.ext {seed : List By} {k : Int} {w w1 w2 : World} {v : Value} (h : TapeR seed k w v w1) (hE : Ext w1 w2) : TapeR seed k w v w2 := by
  obtain ⟨b, bc, h1, h2⟩ := h
  exact ⟨b, bc, h1, h2.ext hE⟩
theorem TapeR.old {seed : List By} {k : Int} {w0 w w1 : World} {v : Value} (h : TapeR seed k w v w1) (hE : Ext w0 w) : TapeR seed k w0 v w1 := by
  obtain ⟨b, bc, h1, h2⟩ := h
  exact ⟨b, bc, h1, ((Hp.start No w0).ext hE).join h2⟩

def TapeR2 (seed : List By) (k1 k2 : Int) (w : World) (v1 v2 : Value) (w' : World) : Prop := ∃ b1 bc1 b2 bc2, v1 = .pointer (some ⟨b1, 0, none⟩) ∧ v2 = .pointer (some ⟨b2, 0, none⟩) ∧ Hp No w w' [(some b2, .cells #[.slice none 0 0, .pointer (some ⟨bc2, 0, none⟩), i64 ((szT k2 : Nat)), i64 ((0 : Nat))] 114 (0, 0)), (some bc2, .cells (cel E8 (cipher seed)).toArray 162 (0, 0)), (some b1, .cells #[.slice none 0 0, .pointer (some ⟨bc1, 0, none⟩), i64 ((szT k1 : Nat)), i64 ((0 : Nat))] 114 (0, 0)), (some bc1, .cells (cel E8 (cipher seed)).toArray 162 (0, 0))]
theorem TapeR2.ext {seed : List By} {k1 k2 : Int} {w w1 w2 : World} {v1 v2 : Value} (h : TapeR2 seed k1 k2 w v1 v2 w1) (hE : Ext w1 w2) : TapeR2 seed k1 k2 w v1 v2 w2 := by
  obtain ⟨b1, bc1, b2, bc2, h1, h2, h3⟩ := h
  exact ⟨b1, bc1, b2, bc2, h1, h2, h3.ext hE⟩
theorem TapeR2.of {seed : List By} {k1 k2 : Int} {w u w' : World} {v1 v2 : Value} (h : TapeR seed k1 w v1 u) (g : TapeR seed k2 u v2 w') : TapeR2 seed k1 k2 w v1 v2 w' := by
  obtain ⟨b1, bc1, h1, h2⟩ := h
  obtain ⟨b2, bc2, g1, g2⟩ := g
  exact ⟨b1, bc1, b2, bc2, h1, g1, h2.join g2⟩

set_option maxHeartbeats 1000000 in
theorem tapelabels_ok (seed : List By) (hk : seed.length = 16) (n more : Int) (w : World) (hG : Gl w) : Calls Tryd.prog 5 [.agg (cel E8 seed).toArray, i64 (n), i64 (more)].toArray w (Ret fun v w' => v = .bool true ∧ Ext w w') := by
  have H := Hp.start No w
  refine enter (n := 95) Tryd.func5 rfl rfl (Nat.le_of_ble_eq_true rfl) ?_
  refine seqRegion ?_
  refine q_box (v := .agg (cel E8 seed).toArray) (o := .cells (cel E8 seed).toArray 22 (0, 0)) H rfl (by rfl) ?_
  intro b1 w2 hb1 H3 hE4
  refine sq (r_assign (v := .bool (false)) rfl) ?_
  refine wend ?_
  refine seqAny ?_
  refine seqRegion ?_
  refine c_call (vs := []) call14 rfl (awake_ok w2 (Chg.gl H3.chg (fun x => x) hG)) ?_
  rintro _ w5 ⟨rfl, hE6⟩
  have H7 := H3.ext hE6
  refine sq (r_notT rfl) ?_
  refine wend ?_
  refine condFalse rfl ?_
  refine skipAny ?_
  refine thenNormal ?_
  refine seqRegion ?_
  refine sq (r_move (v := i64 (n)) rfl) ?_
  refine sq (r_Ito64 und3 und35 (a := n) rfl) ?_
  refine sq (r_rem64 (a := BitVec.ofInt 64 n) (b := 30#64) rfl rfl (by decide)) ?_
  obtain ⟨p, hp, hp30⟩ := small30 (BitVec.ofInt 64 n)
  refine sq ((r_64toI und35 und3 (a := (BitVec.ofInt 64 n) % (30#64)) rfl).as (v' := i64 ((p : Nat))) (by rw [hp])) ?_
  refine sq (r_move (v := i64 (more)) rfl) ?_
  refine sq (r_Ito64 und3 und35 (a := more) rfl) ?_
  refine sq (r_rem64 (a := BitVec.ofInt 64 more) (b := 30#64) rfl rfl (by decide)) ?_
  obtain ⟨q, hq, hq30⟩ := small30 (BitVec.ofInt 64 more)
  refine sq ((r_64toI und35 und3 (a := (BitVec.ofInt 64 more) % (30#64)) rfl).as (v' := i64 ((q : Nat))) (by rw [hq])) ?_
  refine sq (r_assign (v := i64 ((p : Nat))) rfl) ?_
  refine sq (r_assign (v := i64 ((q : Nat))) rfl) ?_
  refine wend ?_
  refine seqAny ?_
  refine drawAny (K := [none, none, some (fun _ v w' => TapeR seed ((p : Nat)) w5 v w'), none, none, none, none, some (fun r v w' => TapeR2 seed ((p : Nat)) (((p : Nat)) + ((q : Nat))) w5 (r 2) v w'), some (fun r u _ => u = r 2), some (fun r u _ => u = r 7)]) [0, 0, 3, 0, 0, 0, 48, 127, 255, 511] (fun w' => Ext w5 w') (fun w' w'' => Ext w' w'') mixed (by kernel_rfl) (Ext.drew _) (fun _ _ h h' => h.trans h') ?_ ?_
  · exact relAll ⟨⟨fun _ _ _ _ _ hR h => TapeR.ext h hR, fun _ _ _ _ _ h => h⟩, ⟨fun _ _ _ _ _ hR h => TapeR2.ext h hR, fun _ _ _ _ h hu => by dsimp only; rw [← h 2 (Nat.le_of_ble_eq_true rfl) rfl]; exact hu⟩, ⟨fun _ _ _ _ _ _ h => h, fun _ _ _ _ h hu => hu.trans (h 2 (Nat.le_of_ble_eq_true rfl) rfl)⟩, ⟨fun _ _ _ _ _ _ h => h, fun _ _ _ _ h hu => hu.trans (h 7 (Nat.le_of_ble_eq_true rfl) rfl)⟩, trivial⟩
  refine ⟨.agg (cel E8 seed).toArray, fun _ uw8 hC9 _ => Gives.run rfl (r_loadA (cs' := (cel E8 seed).toArray) agg22 siz22 ((H7.ext hC9).get (k := 0) rfl) (off := 0) rfl (by rw [List.size_toArray, cel_length]; show _ ≤ _ * 1; omega) (by exact ext_all (by rw [cel_length]; show _ * 1 = _; omega))) ⟨rfl, Chg.refl _ _⟩, ?_⟩
  refine ⟨i64 ((p : Nat)), fun _ uw10 hC11 _ => Gives.run rfl (r_move (v := i64 ((p : Nat))) rfl) ⟨rfl, Chg.refl _ _⟩, ?_⟩
  refine ⟨fun r uw12 hC13 hF => ?_, ?_⟩
  · exact Gives.call rfl (Enters.callL (vs := [.agg (cel E8 seed).toArray, i64 ((p : Nat))]) call17 rfl) ((newtape_ok seed hk (((p : Nat))) uw12).mono fun _ _ ⟨v, h1, h2, h3⟩ => ⟨v, h1, h2.old hC13, h3⟩)
  refine ⟨.agg (cel E8 seed).toArray, fun _ uw14 hC15 _ => Gives.run rfl (r_loadA (cs' := (cel E8 seed).toArray) agg22 siz22 ((H7.ext hC15).get (k := 0) rfl) (off := 0) rfl (by rw [List.size_toArray, cel_length]; show _ ≤ _ * 1; omega) (by exact ext_all (by rw [cel_length]; show _ * 1 = _; omega))) ⟨rfl, Chg.refl _ _⟩, ?_⟩
  refine ⟨i64 ((p : Nat)), fun _ uw16 hC17 _ => Gives.run rfl (r_move (v := i64 ((p : Nat))) rfl) ⟨rfl, Chg.refl _ _⟩, ?_⟩
  refine ⟨i64 ((q : Nat)), fun _ uw18 hC19 _ => Gives.run rfl (r_move (v := i64 ((q : Nat))) rfl) ⟨rfl, Chg.refl _ _⟩, ?_⟩
  refine ⟨i64 ((p : Nat) + (q : Nat)), fun _ uw20 hC21 _ => Gives.run rfl (r_addI (a := (p : Nat)) (b := (q : Nat)) rfl rfl (by omega)) ⟨rfl, Chg.refl _ _⟩, ?_⟩
  refine ⟨fun r uw22 hC23 hF => ?_, ?_⟩
  · exact Gives.call rfl (Enters.callL (vs := [.agg (cel E8 seed).toArray, i64 (((p : Nat)) + ((q : Nat)))]) call17 rfl) ((newtape_ok seed hk (((p : Nat)) + ((q : Nat))) uw22).mono fun _ _ ⟨v, h1, h2, h3⟩ => ⟨v, h1, TapeR2.of (hF 2 _ rfl rfl) h2, h3⟩)
  refine ⟨fun r uw24 hC25 hF => ?_, ?_⟩
  · exact Gives.run rfl (r_assign rfl) ⟨rfl, Chg.refl _ _⟩
  refine ⟨fun r uw26 hC27 hF => ?_, ?_⟩
  · exact Gives.run rfl (r_assign rfl) ⟨rfl, Chg.refl _ _⟩
  intro r31 w28 hE30 hF
  have H29 := H7.ext hE30
  obtain ⟨bt1, bd1, bt2, bd2, e1, e2, HN⟩ := hF 7 _ rfl
  have e8 := hF 8 _ rfl
  have e9 := hF 9 _ rfl
  dsimp only at e1 e2 e8 e9 ⊢
  rw [e1] at e8
  rw [e2] at e9
  rw [e8, e9]
  have HJ := (H7.join HN).as (L' := [(some bt2, .cells #[.slice none 0 0, .pointer (some ⟨bd2, 0, none⟩), i64 ((szT (((p : Nat)) + ((q : Nat))) : Nat)), i64 ((0 : Nat))] 114 (0, 0)), (some bd2, .cells (cel E8 (cipher seed)).toArray 162 (0, 0)), (some bt1, .cells #[.slice none 0 0, .pointer (some ⟨bd1, 0, none⟩), i64 ((szT ((p : Nat)) : Nat)), i64 ((0 : Nat))] 114 (0, 0)), (some bd1, .cells (cel E8 (cipher seed)).toArray 162 (0, 0)), (some b1, .cells (cel E8 seed).toArray 22 (0, 0))]) rfl
  have hs1 := szT_eq ((p : Nat))
  have hs2 := szT_eq (((p : Nat)) + ((q : Nat)))
  refine wnil ?_
  refine thenNormal ?_
  refine seqAny ?_
  refine seqRegion ?_
  refine sq (r_move (v := .pointer (some ⟨bt1, 0, none⟩)) rfl) ?_
  refine sq (r_eqlPN und29 rfl rfl) ?_
  refine sq (r_move (v := .bool (false)) rfl) ?_
  refine sqAny (v := .pointer (some ⟨bt2, 0, none⟩)) (w' := w28) (wantedSome (d' := 35) (b := false) rfl rfl rfl) (r_move (v := .pointer (some ⟨bt2, 0, none⟩)) rfl) ?_
  refine sqAny (v := .bool (false)) (w' := w28) (wantedSome (d' := 35) (b := false) rfl rfl rfl) (r_eqlPN und29 rfl rfl) ?_
  refine sq (r_pickF (v := .bool (false)) rfl rfl) ?_
  refine wend ?_
  refine condFalse rfl ?_
  refine skipAny ?_
  refine thenNormal ?_
  refine seqAny ?_
  refine blockAny ?_
  refine loopAny (σ := Nat) (fun j => [(1, i64 ((p : Nat))), (2, i64 ((q : Nat))), (7, .pointer (some ⟨bt1, 0, none⟩)), (8, .pointer (some ⟨bt2, 0, none⟩))]) (fun j w' => 2 * j ≤ p ∧ Hp No w w' [(some bt2, .cells #[.slice none 0 0, .pointer (some ⟨bd2, 0, none⟩), i64 ((szT (((p : Nat)) + ((q : Nat))) : Nat)), i64 ((2 * j : Nat))] 114 (0, 0)), (some bd2, .cells (cel E8 (cipher seed)).toArray 162 (0, 0)), (some bt1, .cells #[.slice none 0 0, .pointer (some ⟨bd1, 0, none⟩), i64 ((szT ((p : Nat)) : Nat)), i64 ((2 * j : Nat))] 114 (0, 0)), (some bd1, .cells (cel E8 (cipher seed)).toArray 162 (0, 0)), (some b1, .cells (cel E8 seed).toArray 22 (0, 0))]) (fun j => p - 2 * j) (0) ?_ ?_ ?_
  · exact ⟨rfl, rfl, rfl, rfl, trivial⟩
  · exact ⟨by omega, HJ⟩
  rintro j ρ w32 ⟨hj, HL⟩
  refine seqAny ?_
  refine seqRegion ?_
  refine sq (r_move (v := .pointer (some ⟨bt1, 0, none⟩)) rfl) ?_
  refine c_call (vs := [.pointer (some ⟨bt1, 0, none⟩)]) call20 rfl (left_ok bt1 (szT ((p : Nat))) (2 * j) (.slice none 0 0) (.pointer (some ⟨bd1, 0, none⟩)) w32 (HL.get (k := 2) rfl) (by omega) (by omega)) ?_
  rintro _ w34 ⟨rfl, hE35⟩
  have H36 := HL.ext hE35
  refine sq (r_geqI (a := (szT ((p : Nat)) : Nat) - (2 * j : Nat)) (b := (2 : Int)) rfl rfl) ?_
  refine wend ?_
  refine condProp (((2 : Int) : Int) ≤ ((szT ((p : Nat)) : Nat) - (2 * j : Nat))) rfl (fun c41 => ?_) (fun c41 => ?_)
  · skip
    refine skipAny ?_
    refine thenNormal ?_
    refine blockAny ?_
    refine seqRegion ?_
    refine sq (r_move (v := .pointer (some ⟨bt1, 0, none⟩)) rfl) ?_
    refine c_call (vs := [.pointer (some ⟨bt1, 0, none⟩)]) call21 rfl (label_hit_c bt1 bd1 (2 * j) (szT ((p : Nat))) (cipher seed) (cipher_len _ hk) w34 (H36.get (k := 2) rfl) (hpGetSt H36 (i := 2) (j := 3) rfl rfl rfl) (by omega) (by omega)) ?_
    rintro _ w37 ⟨rfl, hC39, hn40⟩
    have H41 := (H36.set (k := 2) rfl hC39 hn40).as (L' := [(some bt2, .cells #[.slice none 0 0, .pointer (some ⟨bd2, 0, none⟩), i64 ((szT (((p : Nat)) + ((q : Nat))) : Nat)), i64 ((2 * j : Nat))] 114 (0, 0)), (some bd2, .cells (cel E8 (cipher seed)).toArray 162 (0, 0)), (some bt1, .cells #[.slice none 0 0, .pointer (some ⟨bd1, 0, none⟩), i64 ((szT ((p : Nat)) : Nat)), i64 ((2 * j + 2 : Nat))] 114 (0, 0)), (some bd1, .cells (cel E8 (cipher seed)).toArray 162 (0, 0)), (some b1, .cells (cel E8 seed).toArray 22 (0, 0))]) rfl
    refine sq (r_move (v := .tuple #[.agg (cel E64 [wordL (cipher seed) (BitVec.ofInt 64 ((2 * j : Nat))), wordL (cipher seed) (BitVec.ofInt 64 ((2 * j + 1 : Nat)))]).toArray, .nilIface]) rfl) ?_
    refine sq (r_extract (vs := #[.agg (cel E64 [wordL (cipher seed) (BitVec.ofInt 64 ((2 * j : Nat))), wordL (cipher seed) (BitVec.ofInt 64 ((2 * j + 1 : Nat)))]).toArray, .nilIface]) rfl rfl) ?_
    refine sq (r_extract (vs := #[.agg (cel E64 [wordL (cipher seed) (BitVec.ofInt 64 ((2 * j : Nat))), wordL (cipher seed) (BitVec.ofInt 64 ((2 * j + 1 : Nat)))]).toArray, .nilIface]) rfl rfl) ?_
    refine q_alloc (o := .cells (cel E64 ([0#64, 0#64])).toArray 38 (0, 0)) H41 zer38 (by kernel_rfl) ?_
    intro b42 w43 hb42 H44 hE45
    refine d_store (k := 0) (v := .agg (cel E64 [wordL (cipher seed) (BitVec.ofInt 64 ((2 * j : Nat))), wordL (cipher seed) (BitVec.ofInt 64 ((2 * j + 1 : Nat)))]).toArray) (cs' := (cel E64 ([wordL (cipher seed) (BitVec.ofInt 64 ((2 * j : Nat))), wordL (cipher seed) (BitVec.ofInt 64 ((2 * j + 1 : Nat)))])).toArray) H44 rfl rfl rfl siz38 (by exact celSize (by first | rfl | (show _ * 1 = _; omega))) (by exact celOne _) (by rw [List.size_toArray, cel_length]; show _ ≤ _ * 1; first | omega | (simp only [List.length_set]; omega) | exact Nat.le_of_ble_eq_true rfl | (simp <;> omega)) (by exact putAll (by first | rfl | omega | (simp <;> omega))) ?_
    intro w46 H47 hC48
    have H47' := H47.as (L' := [(some b42, .cells (cel E64 ([wordL (cipher seed) (BitVec.ofInt 64 ((2 * j : Nat))), wordL (cipher seed) (BitVec.ofInt 64 ((2 * j + 1 : Nat)))])).toArray 38 (0, 0)), (some bt2, .cells #[.slice none 0 0, .pointer (some ⟨bd2, 0, none⟩), i64 ((szT (((p : Nat)) + ((q : Nat))) : Nat)), i64 ((2 * j : Nat))] 114 (0, 0)), (some bd2, .cells (cel E8 (cipher seed)).toArray 162 (0, 0)), (some bt1, .cells #[.slice none 0 0, .pointer (some ⟨bd1, 0, none⟩), i64 ((szT ((p : Nat)) : Nat)), i64 ((2 * j + 2 : Nat))] 114 (0, 0)), (some bd1, .cells (cel E8 (cipher seed)).toArray 162 (0, 0)), (some b1, .cells (cel E8 seed).toArray 22 (0, 0))]) rfl
    clear H47
    refine sq (r_assign (v := .nilIface) rfl) ?_
    refine wend ?_
    refine seqRegion ?_
    refine sq (r_move (v := .pointer (some ⟨bt2, 0, none⟩)) rfl) ?_
    refine c_call (vs := [.pointer (some ⟨bt2, 0, none⟩)]) call22 rfl (next_hit_c bt2 bd2 (2 * j) (szT (((p : Nat)) + ((q : Nat)))) (cipher seed) (cipher_len _ hk) w46 (H47'.get (k := 1) rfl) (hpGetSt H47' (i := 1) (j := 2) rfl rfl rfl) (by omega) (by omega)) ?_
    rintro _ w49 ⟨rfl, hC51, hn52⟩
    have H53 := (H47'.set (k := 1) rfl hC51 hn52).as (L' := [(some b42, .cells (cel E64 ([wordL (cipher seed) (BitVec.ofInt 64 ((2 * j : Nat))), wordL (cipher seed) (BitVec.ofInt 64 ((2 * j + 1 : Nat)))])).toArray 38 (0, 0)), (some bt2, .cells #[.slice none 0 0, .pointer (some ⟨bd2, 0, none⟩), i64 ((szT (((p : Nat)) + ((q : Nat))) : Nat)), i64 ((2 * j + 1 : Nat))] 114 (0, 0)), (some bd2, .cells (cel E8 (cipher seed)).toArray 162 (0, 0)), (some bt1, .cells #[.slice none 0 0, .pointer (some ⟨bd1, 0, none⟩), i64 ((szT ((p : Nat)) : Nat)), i64 ((2 * j + 2 : Nat))] 114 (0, 0)), (some bd1, .cells (cel E8 (cipher seed)).toArray 162 (0, 0)), (some b1, .cells (cel E8 seed).toArray 22 (0, 0))]) rfl
    refine sq (r_move (v := .tuple #[u64 (wordL (cipher seed) (BitVec.ofInt 64 ((2 * j : Nat)))), .nilIface]) rfl) ?_
    refine sq (r_extract (vs := #[u64 (wordL (cipher seed) (BitVec.ofInt 64 ((2 * j : Nat)))), .nilIface]) rfl rfl) ?_
    refine sq (r_extract (vs := #[u64 (wordL (cipher seed) (BitVec.ofInt 64 ((2 * j : Nat)))), .nilIface]) rfl rfl) ?_
    refine sq (r_assign (v := u64 (wordL (cipher seed) (BitVec.ofInt 64 ((2 * j : Nat))))) rfl) ?_
    refine sq (r_assign (v := .nilIface) rfl) ?_
    refine wend ?_
    refine seqRegion ?_
    refine sq (r_move (v := .pointer (some ⟨bt2, 0, none⟩)) rfl) ?_
    refine c_call (vs := [.pointer (some ⟨bt2, 0, none⟩)]) call22 rfl (next_hit_c bt2 bd2 (2 * j + 1) (szT (((p : Nat)) + ((q : Nat)))) (cipher seed) (cipher_len _ hk) w49 (H53.get (k := 1) rfl) (hpGetSt H53 (i := 1) (j := 2) rfl rfl rfl) (by omega) (by omega)) ?_
    rintro _ w54 ⟨rfl, hC56, hn57⟩
    have H58 := (H53.set (k := 1) rfl hC56 hn57).as (L' := [(some b42, .cells (cel E64 ([wordL (cipher seed) (BitVec.ofInt 64 ((2 * j : Nat))), wordL (cipher seed) (BitVec.ofInt 64 ((2 * j + 1 : Nat)))])).toArray 38 (0, 0)), (some bt2, .cells #[.slice none 0 0, .pointer (some ⟨bd2, 0, none⟩), i64 ((szT (((p : Nat)) + ((q : Nat))) : Nat)), i64 ((2 * j + 1 + 1 : Nat))] 114 (0, 0)), (some bd2, .cells (cel E8 (cipher seed)).toArray 162 (0, 0)), (some bt1, .cells #[.slice none 0 0, .pointer (some ⟨bd1, 0, none⟩), i64 ((szT ((p : Nat)) : Nat)), i64 ((2 * j + 2 : Nat))] 114 (0, 0)), (some bd1, .cells (cel E8 (cipher seed)).toArray 162 (0, 0)), (some b1, .cells (cel E8 seed).toArray 22 (0, 0))]) rfl
    refine sq (r_move (v := .tuple #[u64 (wordL (cipher seed) (BitVec.ofInt 64 ((2 * j + 1 : Nat)))), .nilIface]) rfl) ?_
    refine sq (r_extract (vs := #[u64 (wordL (cipher seed) (BitVec.ofInt 64 ((2 * j + 1 : Nat)))), .nilIface]) rfl rfl) ?_
    refine sq (r_extract (vs := #[u64 (wordL (cipher seed) (BitVec.ofInt 64 ((2 * j + 1 : Nat)))), .nilIface]) rfl rfl) ?_
    refine sq (r_assign (v := u64 (wordL (cipher seed) (BitVec.ofInt 64 ((2 * j + 1 : Nat))))) rfl) ?_
    refine sq (r_assign (v := .nilIface) rfl) ?_
    refine wend ?_
    refine seqRegion ?_
    refine sq (r_move (v := .nilIface) rfl) ?_
    refine sq (r_neqNN isI40 rfl rfl) ?_
    refine sq (r_move (v := .bool (false)) rfl) ?_
    refine sqAny (v := .nilIface) (w' := w54) (wantedSome (d' := 59) (b := false) rfl rfl rfl) (r_move (v := .nilIface) rfl) ?_
    refine sqAny (v := .bool (false)) (w' := w54) (wantedSome (d' := 59) (b := false) rfl rfl rfl) (r_neqNN isI40 rfl rfl) ?_
    refine sq (r_pickF (v := .bool (false)) rfl rfl) ?_
    refine sq (r_move (v := .bool (false)) rfl) ?_
    refine sqAny (v := .nilIface) (w' := w54) (wantedSome (d' := 63) (b := false) rfl rfl rfl) (r_move (v := .nilIface) rfl) ?_
    refine sqAny (v := .bool (false)) (w' := w54) (wantedSome (d' := 63) (b := false) rfl rfl rfl) (r_neqNN isI40 rfl rfl) ?_
    refine sq (r_pickF (v := .bool (false)) rfl rfl) ?_
    refine sq (r_move (v := .bool (false)) rfl) ?_
    refine sqAny (v := .agg (cel E64 ([wordL (cipher seed) (BitVec.ofInt 64 ((2 * j : Nat))), wordL (cipher seed) (BitVec.ofInt 64 ((2 * j + 1 : Nat)))])).toArray) (w' := w54) (wantedSome (d' := 67) (b := false) rfl rfl rfl) (r_loadA (cs' := (cel E64 ([wordL (cipher seed) (BitVec.ofInt 64 ((2 * j : Nat))), wordL (cipher seed) (BitVec.ofInt 64 ((2 * j + 1 : Nat)))])).toArray) agg38 siz38 (H58.get (k := 0) rfl) (off := 0) rfl (by exact Nat.le_of_ble_eq_true rfl) (by exact ext_all rfl)) ?_
    refine sqAny (v := u64 (wordL (cipher seed) (BitVec.ofInt 64 ((2 * j : Nat))))) (w' := w54) (wantedSome (d' := 67) (b := false) rfl rfl rfl) (r_move (v := u64 (wordL (cipher seed) (BitVec.ofInt 64 ((2 * j : Nat))))) rfl) ?_
    refine sqAny (v := u64 (wordL (cipher seed) (BitVec.ofInt 64 ((2 * j + 1 : Nat))))) (w' := w54) (wantedSome (d' := 67) (b := false) rfl rfl rfl) (r_move (v := u64 (wordL (cipher seed) (BitVec.ofInt 64 ((2 * j + 1 : Nat))))) rfl) ?_
    refine sqAny (v := .agg (cel E64 [wordL (cipher seed) (BitVec.ofInt 64 ((2 * j : Nat))), wordL (cipher seed) (BitVec.ofInt 64 ((2 * j + 1 : Nat)))]).toArray) (w' := w54) (wantedSome (d' := 67) (b := false) rfl rfl rfl) (r_buildA (cs' := (cel E64 [wordL (cipher seed) (BitVec.ofInt 64 ((2 * j : Nat))), wordL (cipher seed) (BitVec.ofInt 64 ((2 * j + 1 : Nat)))]).toArray) (ps := [(0, u64 (wordL (cipher seed) (BitVec.ofInt 64 ((2 * j : Nat))))), (1, u64 (wordL (cipher seed) (BitVec.ofInt 64 ((2 * j + 1 : Nat)))))]) zer38 arr38 rfl (by rfl)) ?_
    refine sqAny (v := .bool (false)) (w' := w54) (wantedSome (d' := 67) (b := false) rfl rfl rfl) ((r_neqA (E := E64) (l := [wordL (cipher seed) (BitVec.ofInt 64 ((2 * j : Nat))), wordL (cipher seed) (BitVec.ofInt 64 ((2 * j + 1 : Nat)))]) (l' := [wordL (cipher seed) (BitVec.ofInt 64 ((2 * j : Nat))), wordL (cipher seed) (BitVec.ofInt 64 ((2 * j + 1 : Nat)))]) gty38 und38 fits36 (eqAt64 und36) (rfl) (rfl) rfl rfl).as (v' := .bool (false)) (by simp)) ?_
    refine sq (r_pickF (v := .bool (false)) rfl rfl) ?_
    refine wend ?_
    refine condFalse rfl ?_
    refine skipAny ?_
    refine blockNormal ?_
    refine thenNormal ?_
    exact ⟨j + 1, _, rfl, ⟨rfl, rfl, rfl, rfl, trivial⟩, ⟨by omega, (H58.dropk 0)⟩, by show p - 2 * (j + 1) < p - 2 * j; omega⟩
  · skip
    refine exitAny ?_
    refine thenExit ?_
    refine thenExit ?_
    refine blockHere ?_
    refine thenNormal ?_
    refine seqRegion ?_
    refine sq (r_move (v := .pointer (some ⟨bt1, 0, none⟩)) rfl) ?_
    refine c_call (vs := [.pointer (some ⟨bt1, 0, none⟩)]) call20 rfl (left_ok bt1 (szT ((p : Nat))) (2 * j) (.slice none 0 0) (.pointer (some ⟨bd1, 0, none⟩)) w34 (H36.get (k := 2) rfl) (by omega) (by omega)) ?_
    rintro _ w59 ⟨rfl, hE60⟩
    have H61 := H36.ext hE60
    refine sq (r_move (v := i64 ((p : Nat))) rfl) ?_
    refine sq (r_remI (a := (p : Nat)) (b := (2 : Int)) rfl rfl (by omega)) ?_
    refine sq ((r_eqlI (a := (szT ((p : Nat)) : Nat) - (2 * j : Nat)) (b := (p : Nat) % (2 : Int)) rfl rfl).as (v' := .bool (true)) (by rw [decide_eq_true (by omega)])) ?_
    refine sq (r_move (v := .bool (true)) rfl) ?_
    refine sqAny (v := .pointer (some ⟨bt2, 0, none⟩)) (w' := w59) (wantedSome (d' := 79) (b := true) rfl rfl rfl) (r_move (v := .pointer (some ⟨bt2, 0, none⟩)) rfl) ?_
    refine caAny (wantedSome (d' := 79) (b := true) rfl rfl rfl) (Enters.callL (vs := [.pointer (some ⟨bt2, 0, none⟩)]) call20 rfl) (left_ok bt2 (szT (((p : Nat)) + ((q : Nat)))) (2 * j) (.slice none 0 0) (.pointer (some ⟨bd2, 0, none⟩)) w59 (H61.get (k := 0) rfl) (by omega) (by omega)) ?_
    rintro _ w62 ⟨rfl, hE63⟩
    have H64 := H61.ext hE63
    refine sqAny (v := i64 ((q : Nat))) (w' := w62) (wantedSome (d' := 79) (b := true) rfl rfl rfl) (r_move (v := i64 ((q : Nat))) rfl) ?_
    refine sqAny (v := i64 ((p : Nat))) (w' := w62) (wantedSome (d' := 79) (b := true) rfl rfl rfl) (r_move (v := i64 ((p : Nat))) rfl) ?_
    refine sqAny (v := i64 ((p : Nat) % (2 : Int))) (w' := w62) (wantedSome (d' := 79) (b := true) rfl rfl rfl) (r_remI (a := (p : Nat)) (b := (2 : Int)) rfl rfl (by omega)) ?_
    refine sqAny (v := i64 ((q : Nat) + ((p : Nat) % (2 : Int)))) (w' := w62) (wantedSome (d' := 79) (b := true) rfl rfl rfl) (r_addI (a := (q : Nat)) (b := (p : Nat) % (2 : Int)) rfl rfl (by omega)) ?_
    refine sqAny (v := .bool (true)) (w' := w62) (wantedSome (d' := 79) (b := true) rfl rfl rfl) ((r_eqlI (a := (szT (((p : Nat)) + ((q : Nat))) : Nat) - (2 * j : Nat)) (b := (q : Nat) + ((p : Nat) % (2 : Int))) rfl rfl).as (v' := .bool (true)) (by rw [decide_eq_true (by omega)])) ?_
    refine sq (r_pickT (u := .bool (true)) rfl rfl) ?_
    refine sq (r_move (v := .bool (true)) rfl) ?_
    refine sqAny (v := .pointer (some ⟨bt1, 0, none⟩)) (w' := w62) (wantedSome (d' := 88) (b := true) rfl rfl rfl) (r_move (v := .pointer (some ⟨bt1, 0, none⟩)) rfl) ?_
    refine caAny (wantedSome (d' := 88) (b := true) rfl rfl rfl) (Enters.callL (vs := [.pointer (some ⟨bt1, 0, none⟩)]) call19 rfl) (used_ok bt1 (szT ((p : Nat))) (2 * j) (.slice none 0 0) (.pointer (some ⟨bd1, 0, none⟩)) w62 (H64.get (k := 2) rfl)) ?_
    rintro _ w65 ⟨rfl, hE66⟩
    have H67 := H64.ext hE66
    refine sqAny (v := .pointer (some ⟨bt2, 0, none⟩)) (w' := w65) (wantedSome (d' := 88) (b := true) rfl rfl rfl) (r_move (v := .pointer (some ⟨bt2, 0, none⟩)) rfl) ?_
    refine caAny (wantedSome (d' := 88) (b := true) rfl rfl rfl) (Enters.callL (vs := [.pointer (some ⟨bt2, 0, none⟩)]) call19 rfl) (used_ok bt2 (szT (((p : Nat)) + ((q : Nat)))) (2 * j) (.slice none 0 0) (.pointer (some ⟨bd2, 0, none⟩)) w65 (H67.get (k := 0) rfl)) ?_
    rintro _ w68 ⟨rfl, hE69⟩
    have H70 := H67.ext hE69
    refine sqAny (v := .bool (true)) (w' := w68) (wantedSome (d' := 88) (b := true) rfl rfl rfl) ((r_eqlI (a := (2 * j : Nat)) (b := (2 * j : Nat)) rfl rfl).as (v' := .bool (true)) (by simp)) ?_
    refine sq (r_pickT (u := .bool (true)) rfl rfl) ?_
    refine sq (r_assign (v := .bool (true)) rfl) ?_
    refine wend ?_
    refine retAny ?_
    refine retG (rs := [.tmp 6]) (vs := [.bool (true)]) rfl ⟨⟨rfl, rfl⟩, trivial⟩ ?_
    exact ⟨_, rfl, rfl, H70.chg⟩

def wordsR (ks bx : List By) : Nat → List (BitVec 64)
  | 0 => []
  | i + 1 => wordsR ks bx i ++ [wordR ks bx (BitVec.ofInt 64 ((i : Nat)))]
theorem wordsR_len (ks bx : List By) (i : Nat) : (wordsR ks bx i).length = i := by
  induction i with
  | zero => rfl
  | succ i ih => simp [wordsR, ih]
theorem wordsR_at (ks bx : List By) (i j : Nat) (h : j < i) : (wordsR ks bx i).getD j 0#64 = wordR ks bx (BitVec.ofInt 64 ((j : Nat))) := by
  induction i with
  | zero => omega
  | succ i ih =>
    simp only [wordsR]
    rw [List.getD_eq_getElem?_getD]
    by_cases e : j = i
    · subst e; rw [List.getElem?_append_right (by rw [wordsR_len]; exact Nat.le_refl _), wordsR_len, Nat.sub_self]; rfl
    · rw [List.getElem?_append_left (by rw [wordsR_len]; omega), ← List.getD_eq_getElem?_getD, ih (by omega)]

theorem words_ok (bx kl : List By) (hbx : bx = boxR 256) (hkl : kl.length = 16) (k : Int) (xq : Option Addr) (cq : Nat) (hcq : 16 ≤ cq) (w : World) (hQ : Rd E8 w xq kl) : Calls Tryd.prog 15 [.slice xq 16 cq, i64 (k)].toArray w (Ret fun v w' => SlRes E64 36 (wordsR (expR kl bx 40).1 bx (szT k)) w v w' ∧ Ext w w') := by
  have H := Hp.start No w
  have hsz := szT_eq k
  have hsz2 : szT k ≤ 1048576 := by omega
  refine enter (n := 27) Tryd.func15 rfl rfl (Nat.le_of_ble_eq_true rfl) ?_
  refine seqRegion ?_
  refine sq (r_assign (v := .slice none 0 0) rfl) ?_
  refine wend ?_
  refine seqRegion ?_
  refine sq (r_move (v := .slice xq 16 cq) rfl) ?_
  refine c_call (vs := [.slice xq 16 cq]) call53 rfl (rnew_ok bx kl hbx (by exact hkl) xq cq (by omega) w (hQ.ext H.chg)) ?_
  rintro _ w1 ⟨⟨kk3, kc4, spk5, kb6, cb7, spb8, rfl, hSk9, hSb10, HN12⟩, hE11⟩
  have H13 := (H.join HN12).as (L' := [(kb6, sob E8 5 bx spb8), (kk3, sob E8 5 ((expR kl bx 40).1) spk5)]) rfl
  have hlk := expR_len kl bx (by exact hkl) 40
  have hcp := hSk9.cap
  have hlb : bx.length = 256 := by rw [hbx]; exact boxR_len _
  refine q_alloc (o := .cells #[.slice none 0 0, .slice none 0 0] 108 (0, 0)) H13 zer108 (by kernel_rfl) ?_
  intro b14 w15 hb14 H16 hE17
  refine d_store (k := 0) (v := .agg #[.slice (ownA kk3) 176 kc4, .slice (ownA kb6) 256 cb7]) (cs' := #[.slice (ownA kk3) 176 kc4, .slice (ownA kb6) 256 cb7]) H16 rfl rfl rfl siz108 (by rfl) (by intro u hu; simp [Value.cells] at hu; first | (subst hu; rfl) | (rcases hu with rfl | rfl <;> rfl)) (by exact Nat.le_of_ble_eq_true rfl) (by rfl) ?_
  intro w18 H19 hC20
  have H19' := H19.as (L' := [(some b14, .cells #[.slice (ownA kk3) 176 kc4, .slice (ownA kb6) 256 cb7] 108 (0, 0)), (kb6, sob E8 5 bx spb8), (kk3, sob E8 5 ((expR kl bx 40).1) spk5)]) rfl
  clear H19
  refine wend ?_
  refine seqRegion ?_
  refine sq (r_assign (v := .slice none 0 0) rfl) ?_
  have H21 := H19'.nil (sob E64 36 [] [])
  refine wend ?_
  refine seqAny ?_
  refine seqRegion ?_
  refine sq (r_assign (v := i64 ((0 : Int))) rfl) ?_
  refine wend ?_
  refine blockAny ?_
  refine loopAny (σ := Nat × Option Nat × Nat × List Value) (fun (i, key, c, sp) => [(1, i64 (k)), (5, .pointer (some ⟨b14, 0, none⟩)), (6, .slice (ownA key) i c), (7, i64 ((i : Nat)))]) (fun (i, key, c, sp) w' => i ≤ szT k ∧ Sl E64 key (wordsR (expR kl bx 40).1 bx i) c sp ∧ Hp No w w' [(key, sob E64 36 (wordsR (expR kl bx 40).1 bx i) sp), (some b14, .cells #[.slice (ownA kk3) 176 kc4, .slice (ownA kb6) 256 cb7] 108 (0, 0)), (kb6, sob E8 5 bx spb8), (kk3, sob E8 5 ((expR kl bx 40).1) spk5)]) (fun (i, key, c, sp) => szT k - i) ((0, none, 0, [])) ?_ ?_ ?_
  · exact ⟨rfl, rfl, rfl, rfl, trivial⟩
  · exact ⟨by omega, Sl.none, H21⟩
  rintro ⟨i, key, c, sp⟩ ρ w22 ⟨hi, hS, HL⟩
  have hl := wordsR_len (expR kl bx 40).1 bx i
  refine seqAny ?_
  by_cases hA : ((i : Nat) : Int) < k
  · skip
    refine seqRegion ?_
    refine sq (r_move (v := i64 ((i : Nat))) rfl) ?_
    refine sq (r_move (v := i64 (k)) rfl) ?_
    refine sq ((r_lssI (a := (i : Nat)) (b := k) rfl rfl).as (v' := .bool (true)) (by rw [decide_eq_true (by omega)])) ?_
    refine sq (r_move (v := .bool (true)) rfl) ?_
    refine sqAny (v := i64 ((i : Nat))) (w' := w22) (wantedSome (d' := 13) (b := true) rfl rfl rfl) (r_move (v := i64 ((i : Nat))) rfl) ?_
    refine sqAny (v := .bool (decide (((i : Nat) : Int) < (1048576 : Int)))) (w' := w22) (wantedSome (d' := 13) (b := true) rfl rfl rfl) (r_lssI (a := (i : Nat)) (b := (1048576 : Int)) rfl rfl) ?_
    refine sq (r_pickT (u := .bool (decide (((i : Nat) : Int) < (1048576 : Int)))) rfl rfl) ?_
    refine wend ?_
    refine condProp (((i : Nat) : Int) < (1048576 : Int)) rfl (fun c16 => ?_) (fun c16 => ?_)
    · skip
      refine skipAny ?_
      refine thenNormal ?_
      refine seqAny ?_
      refine blockAny ?_
      refine oneRegion ?_
      refine sq (r_move (v := .slice (ownA key) i c) rfl) ?_
      refine sq (r_loadA (cs' := #[.slice (ownA kk3) 176 kc4, .slice (ownA kb6) 256 cb7]) agg108 siz108 (HL.get (k := 1) rfl) (off := 0) rfl (by exact Nat.le_of_ble_eq_true rfl) (by rfl)) ?_
      refine sq (r_move (v := i64 ((i : Nat))) rfl) ?_
      refine sq (r_Ito64 und3 und36 (a := (i : Nat)) rfl) ?_
      refine c_call (vs := [.agg #[.slice (ownA kk3) 176 kc4, .slice (ownA kb6) 256 cb7], u64 (BitVec.ofInt 64 (i : Nat))]) call54 rfl (rword_ok ((expR kl bx 40).1) bx (by omega) (by omega) (BitVec.ofInt 64 (i : Nat)) (ownA kk3) (ownA kb6) kc4 cb7 (by omega) w22 (HL.rd (k := 3) rfl hSk9) (HL.rd (k := 2) rfl hSb10)) ?_
      rintro _ w24 ⟨rfl, hE25⟩
      have H26 := HL.ext hE25
      refine q_buildSlice (E := E64) (l := [wordR ((expR kl bx 40).1) bx (BitVec.ofInt 64 (i : Nat))]) H26 sli25 zer36 (Nat.le_of_ble_eq_true rfl) (ps := [(0, u64 (wordR ((expR kl bx 40).1) bx (BitVec.ofInt 64 (i : Nat))))]) rfl (by exact fillAll rfl rfl) rfl ?_
      intro b27 w29 hS28 H30 _
      refine q_append (E := E64) (k := 1) (l := wordsR (expR kl bx 40).1 bx i) (l2 := [wordR ((expR kl bx 40).1) bx (BitVec.ofInt 64 (i : Nat))]) H30 rfl hS sli25 zer36 rfl byt36 (H30.rd (k := 0) rfl hS28) rfl (by exact (wordsR_len _ _ _).symm) rfl (by rfl) (by omega) ?_
      intro key31 c32 sp33 w35 hS34 hne37 H36
      have H36' := H36.as (L' := [((some b27), sob E64 36 ([wordR ((expR kl bx 40).1) bx (BitVec.ofInt 64 (i : Nat))]) ([])), (key31, sob E64 36 ((wordsR (expR kl bx 40).1 bx i) ++ ([wordR ((expR kl bx 40).1) bx (BitVec.ofInt 64 (i : Nat))])) sp33), (some b14, .cells #[.slice (ownA kk3) 176 kc4, .slice (ownA kb6) 256 cb7] 108 (0, 0)), (kb6, sob E8 5 bx spb8), (kk3, sob E8 5 ((expR kl bx 40).1) spk5)]) rfl
      clear H36
      have e38 : (wordsR (expR kl bx 40).1 bx i) ++ ([wordR ((expR kl bx 40).1) bx (BitVec.ofInt 64 (i : Nat))]) = wordsR (expR kl bx 40).1 bx (i + 1) := by rw [wordsR]
      have hS39 := hS34
      rw [e38] at hS39
      have H40 := H36'.as (L' := [((some b27), sob E64 36 ([wordR ((expR kl bx 40).1) bx (BitVec.ofInt 64 (i : Nat))]) ([])), (key31, sob E64 36 (wordsR (expR kl bx 40).1 bx (i + 1)) sp33), (some b14, .cells #[.slice (ownA kk3) 176 kc4, .slice (ownA kb6) 256 cb7] 108 (0, 0)), (kb6, sob E8 5 bx spb8), (kk3, sob E8 5 ((expR kl bx 40).1) spk5)]) (by rw [e38])
      refine sq (r_assign (v := .slice (ownA key31) (i + 1) c32) rfl) ?_
      refine wnil ?_
      refine blockNormal ?_
      refine thenNormal ?_
      refine oneRegion ?_
      refine sq (r_move (v := i64 ((i : Nat))) rfl) ?_
      refine sq (r_addI (a := (i : Nat)) (b := (1 : Int)) rfl rfl (by omega)) ?_
      refine sq (r_assign (v := i64 ((i : Nat) + (1 : Int))) rfl) ?_
      refine wnil ?_
      refine thenNormal ?_
      exact ⟨(i + 1, key31, c32, sp33), _, rfl, ⟨rfl, rfl, rfl, rfl, trivial⟩, ⟨by omega, hS39, (H40.dropk 0)⟩, by show szT k - (i + 1) < szT k - i; omega⟩
    · skip
      refine exitAny ?_
      refine thenExit ?_
      refine thenExit ?_
      refine blockHere ?_
      refine thenNormal ?_
      refine seqRegion ?_
      refine sq (r_move (v := .slice (ownA key) i c) rfl) ?_
      refine sq (r_assign (v := .slice (ownA key) i c) rfl) ?_
      refine wend ?_
      refine retAny ?_
      refine retG (rs := [.tmp 4]) (vs := [.slice (ownA key) i c]) rfl ⟨⟨rfl, rfl⟩, trivial⟩ ?_
      obtain rfl : i = szT k := by omega
      exact ⟨_, rfl, HL.resN (k := 0) rfl hS (wordsR_len _ _ _).symm, HL.chg⟩
  · skip
    refine seqRegion ?_
    refine sq (r_move (v := i64 ((i : Nat))) rfl) ?_
    refine sq (r_move (v := i64 (k)) rfl) ?_
    refine sq ((r_lssI (a := (i : Nat)) (b := k) rfl rfl).as (v' := .bool (false)) (by rw [decide_eq_false (by omega)])) ?_
    refine sq (r_move (v := .bool (false)) rfl) ?_
    refine skAny (wantedSome (d' := 13) (b := false) rfl rfl rfl) ?_
    refine skAny (wantedSome (d' := 13) (b := false) rfl rfl rfl) ?_
    refine sq (r_pickF (v := .bool (false)) rfl rfl) ?_
    refine wend ?_
    refine condFalse rfl ?_
    refine exitAny ?_
    refine thenExit ?_
    refine thenExit ?_
    refine blockHere ?_
    refine thenNormal ?_
    refine seqRegion ?_
    refine sq (r_move (v := .slice (ownA key) i c) rfl) ?_
    refine sq (r_assign (v := .slice (ownA key) i c) rfl) ?_
    refine wend ?_
    refine retAny ?_
    refine retG (rs := [.tmp 4]) (vs := [.slice (ownA key) i c]) rfl ⟨⟨rfl, rfl⟩, trivial⟩ ?_
    obtain rfl : i = szT k := by omega
    exact ⟨_, rfl, HL.resN (k := 0) rfl hS (wordsR_len _ _ _).symm, HL.chg⟩

set_option maxHeartbeats 1000000 in
theorem tapeseeds_ok (seed : List By) (hk : seed.length = 16) (k : Int) (sc : List Int) (cs : Nat) (asc : Option Addr) (w : World) (hG : Gl w) (hSc : Rd EI w asc sc) (hls : sc.length * 8 ≤ 140737488355328) : Calls Tryd.prog 3 [.agg (cel E8 seed).toArray, i64 (k), .slice asc sc.length cs].toArray w (Ret fun v w' => v = .bool true ∧ Ext w w') := by
  obtain ⟨bx, hbx⟩ : ∃ bx, bx = boxR 256 := ⟨_, rfl⟩
  have H := Hp.start No w
  refine enter (n := 28) Tryd.func3 rfl rfl (Nat.le_of_ble_eq_true rfl) ?_
  refine seqRegion ?_
  refine q_box (v := .agg (cel E8 seed).toArray) (o := .cells (cel E8 seed).toArray 22 (0, 0)) H rfl (by rfl) ?_
  intro b1 w2 hb1 H3 hE4
  refine sq (r_assign (v := .bool (false)) rfl) ?_
  refine wend ?_
  refine seqAny ?_
  refine seqRegion ?_
  refine c_call (vs := []) call14 rfl (awake_ok w2 (Chg.gl H3.chg (fun x => x) hG)) ?_
  rintro _ w5 ⟨rfl, hE6⟩
  have H7 := H3.ext hE6
  refine sq (r_notT rfl) ?_
  refine wend ?_
  refine condFalse rfl ?_
  refine skipAny ?_
  refine thenNormal ?_
  refine seqRegion ?_
  refine sq (r_move (v := i64 (k)) rfl) ?_
  refine sq (r_remT (a := k) (b := (40 : Int)) rfl rfl (by decide)) ?_
  refine sq (r_assign (v := i64 (Int.tmod k (40 : Int))) rfl) ?_
  refine wend ?_
  refine seqRegion ?_
  refine sq (r_sliceA0 arr22 (b := b1) (off := 0) rfl (Nat.le_of_ble_eq_true rfl)) ?_
  refine sq (r_move (v := i64 (Int.tmod k (40 : Int))) rfl) ?_
  refine c_call (vs := [.slice (some ⟨b1, 0, none⟩) 16 16, i64 (Int.tmod k (40 : Int))]) call15 rfl (words_ok bx seed hbx hk (Int.tmod k (40 : Int)) (some ⟨b1, 0, none⟩) 16 (by omega) w5 (Rd.row (H7.get (k := 0) rfl))) ?_
  rintro _ w8 ⟨⟨key10, c11, sp12, rfl, hS13, hk14⟩, hE15⟩
  rw [show (wordsR (expR seed bx 40).1 bx (szT (Int.tmod k (40 : Int)))).length = szT (Int.tmod k (40 : Int)) from wordsR_len _ _ _]
  have H16 := H7.add hE15 hk14
  refine sq (r_assign (v := .slice (ownA key10) (szT (Int.tmod k (40 : Int))) c11) rfl) ?_
  obtain ⟨ws, hwx⟩ : ∃ ws, ws = wordsR (expR seed bx 40).1 bx (szT (Int.tmod (k) (40 : Int))) := ⟨_, rfl⟩
  have hwl : ws.length = szT (Int.tmod (k) (40 : Int)) := by rw [hwx, wordsR_len]
  have hszm := szT_eq (Int.tmod (k) (40 : Int))
  have hws : ∀ i, i < ws.length → ws.getD i 0#64 = wordL (cipher seed) (BitVec.ofInt 64 ((i : Nat))) := fun i hi => by rw [hwx, wordsR_at _ _ _ _ (by omega), hbx, word_eq seed hk]
  have e17 : wordsR (expR seed bx 40).1 bx (szT (Int.tmod k (40 : Int))) = ws := by exact hwx.symm
  have hS18 := hS13
  rw [e17] at hS18
  have H19 := H16.as (L' := [(key10, sob E64 36 ws sp12), (some b1, .cells (cel E8 seed).toArray 22 (0, 0))]) (by rw [e17])
  rw [← hwl]
  refine wend ?_
  refine seqRegion ?_
  refine sq (r_loadA (cs' := (cel E8 seed).toArray) agg22 siz22 (H19.get (k := 1) rfl) (off := 0) rfl (by rw [List.size_toArray, cel_length]; show _ ≤ _ * 1; omega) (by exact ext_all (by rw [cel_length]; show _ * 1 = _; omega))) ?_
  refine sq (r_move (v := i64 (Int.tmod k (40 : Int))) rfl) ?_
  refine c_call (vs := [.agg (cel E8 seed).toArray, i64 (Int.tmod k (40 : Int))]) call17 rfl (newtape_ok seed hk (Int.tmod k (40 : Int)) w8) ?_
  rintro _ w20 ⟨⟨b22, bc23, rfl, HN24⟩, hE25⟩
  have H26 := (H19.join HN24).as (L' := [(some b22, .cells #[.slice none 0 0, .pointer (some ⟨bc23, 0, none⟩), i64 ((szT (Int.tmod k (40 : Int)) : Nat)), i64 ((0 : Nat))] 114 (0, 0)), (some bc23, .cells (cel E8 (cipher seed)).toArray 162 (0, 0)), (key10, sob E64 36 ws sp12), (some b1, .cells (cel E8 seed).toArray 22 (0, 0))]) rfl
  refine sq (r_move (v := .slice (ownA key10) ws.length c11) rfl) ?_
  refine sq (r_move (v := .slice asc sc.length cs) rfl) ?_
  refine c_call (vs := [.pointer (some ⟨b22, 0, none⟩), .slice (ownA key10) ws.length c11, .slice asc sc.length cs]) call16 rfl (reads_ok_c ws sc b22 bc23 c11 cs (ownA key10) asc (cipher seed) (cipher_len _ hk) hws w20 (Chg.gl H26.chg (fun x => x) hG) (by have := hG.lt; have := (H26.own _ (List.mem_of_getElem? (i := 0) rfl) _ rfl).resolve_left (fun h => h); omega) (by rw [H26.get (k := 0) rfl, hwl]) (hpGetSt H26 (i := 0) (j := 1) rfl rfl rfl) (hpRdSt H26 (i := 0) (j := 2) rfl rfl rfl hS18) (rdSt hSc H26 (i := 0) rfl) (by omega) (by omega)) ?_
  rintro _ w27 ⟨rfl, hC29⟩
  have H30 := (hpLose H26 (i := 0) rfl hC29).as (L' := [(some bc23, .cells (cel E8 (cipher seed)).toArray 162 (0, 0)), (key10, sob E64 36 ws sp12), (some b1, .cells (cel E8 seed).toArray 22 (0, 0))]) rfl
  refine sq (r_move (v := .bool (true)) rfl) ?_
  refine sqAny (v := .slice (ownA key10) ws.length c11) (w' := w27) (wantedSome (d' := 21) (b := true) rfl rfl rfl) (r_move (v := .slice (ownA key10) ws.length c11) rfl) ?_
  refine caAny (wantedSome (d' := 21) (b := true) rfl rfl rfl) (Enters.callL (vs := [.slice (ownA key10) ws.length c11]) call18 rfl) (load_ok ws (by omega) (ownA key10) ws.length c11 (by rfl) w27 (H30.rd (k := 1) rfl hS18)) ?_
  rintro _ w31 ⟨⟨b33, key34, c35, sp36, rfl, hS37, HN38⟩, hE39⟩
  have H40 := (H30.join HN38).as (L' := [(some b33, .cells #[.slice (ownA key34) ws.length c35, .pointer none, i64 ((ws.length : Nat)), i64 ((0 : Nat))] 114 (0, 0)), (key34, sob E64 36 ws sp36), (some bc23, .cells (cel E8 (cipher seed)).toArray 162 (0, 0)), (key10, sob E64 36 ws sp12), (some b1, .cells (cel E8 seed).toArray 22 (0, 0))]) rfl
  refine sqAny (v := .slice (ownA key10) ws.length c11) (w' := w31) (wantedSome (d' := 21) (b := true) rfl rfl rfl) (r_move (v := .slice (ownA key10) ws.length c11) rfl) ?_
  refine sqAny (v := .slice asc sc.length cs) (w' := w31) (wantedSome (d' := 21) (b := true) rfl rfl rfl) (r_move (v := .slice asc sc.length cs) rfl) ?_
  refine caAny (wantedSome (d' := 21) (b := true) rfl rfl rfl) (Enters.callL (vs := [.pointer (some ⟨b33, 0, none⟩), .slice (ownA key10) ws.length c11, .slice asc sc.length cs]) call16 rfl) (reads_ok ws sc b33 c35 c11 cs (ownA key34) (ownA key10) asc w31 (Chg.gl H40.chg (fun x => x) hG) (by have := hG.lt; have := (H40.own _ (List.mem_of_getElem? (i := 0) rfl) _ rfl).resolve_left (fun h => h); omega) (by rw [H40.get (k := 0) rfl, hwl]) (hpRdSt H40 (i := 0) (j := 1) rfl rfl rfl hS37) (hpRdSt H40 (i := 0) (j := 3) rfl rfl rfl hS18) (rdSt hSc H40 (i := 0) rfl) (by omega) (by omega)) ?_
  rintro _ w41 ⟨rfl, hC43⟩
  have H44 := (hpLose H40 (i := 0) rfl hC43).as (L' := [(key34, sob E64 36 ws sp36), (some bc23, .cells (cel E8 (cipher seed)).toArray 162 (0, 0)), (key10, sob E64 36 ws sp12), (some b1, .cells (cel E8 seed).toArray 22 (0, 0))]) rfl
  refine sq (r_pickT (u := .bool (true)) rfl rfl) ?_
  refine sq (r_assign (v := .bool (true)) rfl) ?_
  refine wend ?_
  refine retAny ?_
  refine retG (rs := [.tmp 6]) (vs := [.bool (true)]) rfl ⟨⟨rfl, rfl⟩, trivial⟩ ?_
  exact ⟨_, rfl, rfl, H44.chg⟩
end Go.Proofs.YtkclklnfohaheaaDoor.Er
