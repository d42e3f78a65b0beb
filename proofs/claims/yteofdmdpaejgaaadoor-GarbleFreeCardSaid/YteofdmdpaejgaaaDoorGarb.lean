/- The walks of the garbled circuits. -/
import Derived.Test.YteofdmdpaejgaaaDoorFault
import Derived.Test.YteofdmdpaejgaaaDoorFaultC
import Derived.Test.YteofdmdpaejgaaaDoorAes
import Derived.Test.YteofdmdpaejgaaaDoorCirc2
import Derived.Test.YteofdmdpaejgaaaDoorGarbSpec
import Derived.Test.YteofdmdpaejgaaaDoorVcNet
import Derived.Test.YteofdmdpaejgaaaDoorVcChain
import Derived.Test.YteofdmdpaejgaaaDoorVcAppN
import Derived.Test.YteofdmdpaejgaaaDoorVcJoin
import Derived.Test.YteofdmdpaejgaaaDoorVcGrow
import Derived.Test.YteofdmdpaejgaaaDoorVcPosE
import Derived.Test.YteofdmdpaejgaaaDoorProg
namespace Go.Proofs.YteofdmdpaejgaaaDoor.Gb
open Go Go.Proofs.YteofdmdpaejgaaaDoor.Vc Go.Proofs.YteofdmdpaejgaaaDoor.Er Go.Proofs.YteofdmdpaejgaaaDoor.Circ
set_option linter.unusedVariables false
theorem agg38 : isAgg' Tryd.prog 38 = true := by kernel_rfl
theorem arr38 : arr Tryd.prog 38 = some (2, 1) := by kernel_rfl
theorem byt38 : byt Tryd.prog 38 = some 16 := by kernel_rfl
theorem call86 : callable Tryd.prog 86 = true := by kernel_rfl
theorem fits3 : Fits Tryd.prog 3 EI := fitsI (by kernel_rfl) (by kernel_rfl)
theorem fits32 : Fits Tryd.prog 32 E64 := fits64 (by kernel_rfl) (by kernel_rfl)
theorem fits38 : Fits Tryd.prog 38 ELb := fitsLb (by kernel_rfl) (by kernel_rfl)
theorem fld70_2 : fld Tryd.prog 70 2 = some (2, 1, 60) := by kernel_rfl
theorem one60 : isOne Tryd.prog 60 = true := by kernel_rfl
theorem siz38 : siz Tryd.prog 38 = some 2 := by kernel_rfl
theorem sli60 : sli Tryd.prog 60 = some (3, 1) := by kernel_rfl
theorem sli92 : sli Tryd.prog 92 = some (38, 2) := by kernel_rfl
theorem zer38 : zer Tryd.prog 38 = some (.agg (List.replicate 2 (.int .u64 0)).toArray) := by kernel_rfl
def lhash (a : Lb) (s : BitVec 64) : Lb := AesSpec.hashL (AesSpec.cipher AesSpec.fixKey) a.1 a.2 s
theorem lxor_ok (a b : Lb) (w : World) : Calls Tryd.prog 86 [.agg (cel E64 [(a).1, (a).2]).toArray, .agg (cel E64 [(b).1, (b).2]).toArray].toArray w (Ret fun v w' => v = .agg (cel E64 [(lx a b).1, (lx a b).2]).toArray ∧ Ext w w') := Aes.xor_ok a.1 a.2 b.1 b.2 w
theorem lhash_ok (bc : Nat) (a : Lb) (tw : BitVec 64) (w : World) (hc : w.heap[bc]? = some (.cells (cel E8 (AesSpec.cipher AesSpec.fixKey)).toArray 215 (0, 0))) : Calls Tryd.prog 87 [.pointer (some ⟨bc, 0, none⟩), .agg (cel E64 [(a).1, (a).2]).toArray, u64 tw].toArray w (Ret fun v w' => v = .agg (cel E64 [(lhash a tw).1, (lhash a tw).2]).toArray ∧ Ext w w') := Aes.hash_ok bc (AesSpec.cipher AesSpec.fixKey) (AesSpec.cipher_len _ (AesSpec.fixS_len 16)) a.1 a.2 tw w hc

theorem col_ok (a : Lb) (w : World) : Calls Tryd.prog 84 [.agg (cel E64 [(a).1, (a).2]).toArray].toArray w (Ret fun v w' => v = .bool (col a) ∧ Ext w w') := by
  have H := Hp.start No w
  refine enter (n := 7) Tryd.func84 rfl rfl (Nat.le_of_ble_eq_true rfl) ?_
  refine seqRegion ?_
  refine q_box (v := .agg (cel E64 [(a).1, (a).2]).toArray) (o := .cells (cel E64 ([(a).1, (a).2])).toArray 38 (0, 0)) H rfl (by rfl) ?_
  intro b1 w2 hb1 H3 hE4
  refine sq (r_assign (v := .bool (false)) rfl) ?_
  refine wend ?_
  refine seqRegion ?_
  refine sq (r_indexA (off' := 0) (j := 0) arr38 (b := b1) (off := 0) rfl rfl (by first | rfl | omega | (simp; omega)) (by omega) (by omega)) ?_
  refine sq (r_ld1 (E := E64) (l := [(a).1, (a).2]) (j := 0) (a := (a).1) fits32 (H3.get (k := 0) rfl) (by rfl) rfl rfl) ?_
  refine sq (r_and64 (a := (a).1) (b := 1#64) rfl rfl) ?_
  refine sq (r_eql64 (a := ((a).1) &&& (1#64)) (b := 1#64) rfl rfl) ?_
  refine sq (r_assign (v := .bool (decide ((((a).1) &&& (1#64)) = (1#64)))) rfl) ?_
  refine wend ?_
  refine retAny ?_
  refine retG (rs := [.tmp 2]) (vs := [.bool (decide ((((a).1) &&& (1#64)) = (1#64)))]) rfl ⟨⟨rfl, rfl⟩, trivial⟩ ?_
  exact ⟨_, rfl, rfl, H3.chg⟩

theorem lw_ok (c : Bool) (a : Lb) (w : World) : Calls Tryd.prog 89 [.bool (c), .agg (cel E64 [(a).1, (a).2]).toArray].toArray w (Ret fun v w' => v = .agg (cel E64 [(lw c a).1, (lw c a).2]).toArray ∧ Ext w w') := by
  have H := Hp.start No w
  refine enter (n := 8) Tryd.func89 rfl rfl (Nat.le_of_ble_eq_true rfl) ?_
  refine seqRegion ?_
  refine q_box (v := .agg (cel E64 [(a).1, (a).2]).toArray) (o := .cells (cel E64 ([(a).1, (a).2])).toArray 38 (0, 0)) H rfl (by rfl) ?_
  intro b1 w2 hb1 H3 hE4
  refine q_alloc (o := .cells (cel E64 ([0#64, 0#64])).toArray 38 (0, 0)) H3 zer38 (by kernel_rfl) ?_
  intro b5 w6 hb5 H7 hE8
  refine wend ?_
  refine seqAny ?_
  refine seqRegion ?_
  refine sq (r_move (v := .bool (c)) rfl) ?_
  refine wend ?_
  refine condBool (c) rfl (fun c5 => ?_) (fun c5 => ?_)
  · skip
    refine seqRegion ?_
    refine sq (r_loadA (cs' := (cel E64 ([(a).1, (a).2])).toArray) agg38 siz38 (H7.get (k := 1) rfl) (off := 0) rfl (by exact Nat.le_of_ble_eq_true rfl) (by exact ext_all rfl)) ?_
    refine d_store (k := 0) (v := .agg (cel E64 ([(a).1, (a).2])).toArray) (cs' := (cel E64 ([(a).1, (a).2])).toArray) H7 rfl rfl rfl siz38 (by exact celSize (by first | rfl | (show _ * 1 = _; omega))) (by exact celOne _) (by rw [List.size_toArray, cel_length]; show _ ≤ _ * 1; first | omega | (simp only [List.length_set]; omega) | exact Nat.le_of_ble_eq_true rfl | (simp <;> omega)) (by exact putAll (by first | rfl | omega | (simp <;> omega))) ?_
    intro w9 H10 hC11
    have H10' := H10.as (L' := [(some b5, .cells (cel E64 ([(a).1, (a).2])).toArray 38 (0, 0)), (some b1, .cells (cel E64 ([(a).1, (a).2])).toArray 38 (0, 0))]) rfl
    clear H10
    refine wend ?_
    refine retAny ?_
    refine thenRet ?_
    refine retG (rs := [.cell 4 38]) (vs := [.agg (cel E64 ([(a).1, (a).2])).toArray]) rfl ⟨r_loadA (cs' := (cel E64 ([(a).1, (a).2])).toArray) agg38 siz38 (H10'.get (k := 0) rfl) (off := 0) rfl (by exact Nat.le_of_ble_eq_true rfl) (by exact ext_all rfl), trivial⟩ ?_
    rw [show lw c a = _ from if_pos c5]
    exact ⟨_, rfl, rfl, H10'.chg⟩
  · skip
    refine skipAny ?_
    refine thenNormal ?_
    refine seqRegion ?_
    refine sq (r_buildA (cs' := (cel E64 [0#64, 0#64]).toArray) (ps := []) zer38 arr38 rfl (by rfl)) ?_
    refine d_store (k := 0) (v := .agg (cel E64 [0#64, 0#64]).toArray) (cs' := (cel E64 ([0#64, 0#64])).toArray) H7 rfl rfl rfl siz38 (by exact celSize (by first | rfl | (show _ * 1 = _; omega))) (by exact celOne _) (by rw [List.size_toArray, cel_length]; show _ ≤ _ * 1; first | omega | (simp only [List.length_set]; omega) | exact Nat.le_of_ble_eq_true rfl | (simp <;> omega)) (by exact putAll (by first | rfl | omega | (simp <;> omega))) ?_
    intro w12 H13 hC14
    have H13' := H13.as (L' := [(some b5, .cells (cel E64 ([0#64, 0#64])).toArray 38 (0, 0)), (some b1, .cells (cel E64 ([(a).1, (a).2])).toArray 38 (0, 0))]) rfl
    clear H13
    refine wend ?_
    refine retAny ?_
    refine retG (rs := [.cell 4 38]) (vs := [.agg (cel E64 ([0#64, 0#64])).toArray]) rfl ⟨r_loadA (cs' := (cel E64 ([0#64, 0#64])).toArray) agg38 siz38 (H13'.get (k := 0) rfl) (off := 0) rfl (by exact Nat.le_of_ble_eq_true rfl) (by exact ext_all rfl), trivial⟩ ?_
    rw [show lw c a = _ from if_neg (by rw [c5]; exact Bool.false_ne_true)]
    exact ⟨_, rfl, rfl, H13'.chg⟩

theorem lsum_ok (l : List Lb) (a0 : Option Addr) (n0 c0 : Nat) (hn0 : n0 = l.length) (hl : l.length ≤ 1000000) (w : World) (hL : Rd ELb w a0 l) : Calls Tryd.prog 88 [.slice a0 n0 c0].toArray w (Ret fun v w' => v = .agg (cel E64 [(lsum l).1, (lsum l).2]).toArray ∧ Ext w w') := by
  subst hn0
  have H := Hp.start No w
  refine enter (n := 17) Tryd.func88 rfl rfl (Nat.le_of_ble_eq_true rfl) ?_
  refine seqRegion ?_
  refine q_alloc (o := .cells (cel E64 ([0#64, 0#64])).toArray 38 (0, 0)) H zer38 (by kernel_rfl) ?_
  intro b1 w2 hb1 H3 hE4
  refine wend ?_
  refine seqRegion ?_
  refine q_alloc (o := .cells (cel E64 ([0#64, 0#64])).toArray 38 (0, 0)) H3 zer38 (by kernel_rfl) ?_
  intro b5 w6 hb5 H7 hE8
  refine wend ?_
  refine seqAny ?_
  refine seqRegion ?_
  refine sq (r_move (v := .slice a0 l.length c0) rfl) ?_
  refine sq (r_lenS sli92 (a := a0) (m := l.length) (c := c0) rfl) ?_
  refine sq (r_move (v := i64 ((0 : Int))) rfl) ?_
  refine wend ?_
  refine blockAny ?_
  refine loopAny (σ := Nat) (fun q => [(2, .pointer (some ⟨b1, 0, none⟩)), (3, .pointer (some ⟨b5, 0, none⟩)), (6, .slice a0 l.length c0), (7, i64 ((l.length : Nat))), (8, i64 ((q : Nat)))]) (fun q w' => q ≤ l.length ∧ Hp No w w' [(some b5, .cells (cel E64 ([(lsum (l.take q)).1, (lsum (l.take q)).2])).toArray 38 (0, 0)), (some b1, .cells (cel E64 ([0#64, 0#64])).toArray 38 (0, 0))]) (fun q => l.length - q) (0) ?_ ?_ ?_
  · exact ⟨rfl, rfl, rfl, rfl, rfl, trivial⟩
  · exact ⟨Nat.zero_le _, H7⟩
  rintro q ρ w9 ⟨hq, HL⟩
  refine seqRegion ?_
  refine sq (r_lssI (a := (q : Nat)) (b := (l.length : Nat)) rfl rfl) ?_
  refine wend ?_
  refine seqAny ?_
  refine condProp (((q : Nat) : Int) < (l.length : Nat)) rfl (fun c9 => ?_) (fun c9 => ?_)
  · skip
    refine skipAny ?_
    refine thenNormal ?_
    refine seqAny ?_
    refine blockAny ?_
    refine seqRegion ?_
    refine sq (r_idxS (E := ELb) (l := l) (j := q) sli92 (hL.ext HL.chg) rfl rfl (by first | rfl | omega | (simp; omega)) (by rfl) (by omega)) ?_
    refine sq ((r_ldS (E := ELb) (l := l) (j := q) (v := (l).getD q lb0) fits38 (hL.ext HL.chg) rfl rfl (at_getD (by omega))).as (v' := .agg (cel E64 [((l).getD q lb0).1, ((l).getD q lb0).2]).toArray) rfl) ?_
    refine q_alloc (o := .cells (cel E64 ([0#64, 0#64])).toArray 38 (0, 0)) HL zer38 (by kernel_rfl) ?_
    intro b11 w12 hb11 H13 hE14
    refine d_store (k := 0) (v := .agg (cel E64 [((l).getD q lb0).1, ((l).getD q lb0).2]).toArray) (cs' := (cel E64 ([((l).getD q lb0).1, ((l).getD q lb0).2])).toArray) H13 rfl rfl rfl siz38 (by exact celSize (by first | rfl | (show _ * 1 = _; omega))) (by exact celOne _) (by rw [List.size_toArray, cel_length]; show _ ≤ _ * 1; first | omega | (simp only [List.length_set]; omega) | exact Nat.le_of_ble_eq_true rfl | (simp <;> omega)) (by exact putAll (by first | rfl | omega | (simp <;> omega))) ?_
    intro w15 H16 hC17
    have H16' := H16.as (L' := [(some b11, .cells (cel E64 ([((l).getD q lb0).1, ((l).getD q lb0).2])).toArray 38 (0, 0)), (some b5, .cells (cel E64 ([(lsum (l.take q)).1, (lsum (l.take q)).2])).toArray 38 (0, 0)), (some b1, .cells (cel E64 ([0#64, 0#64])).toArray 38 (0, 0))]) rfl
    clear H16
    refine wend ?_
    refine oneRegion ?_
    refine sq (r_loadA (cs' := (cel E64 ([(lsum (l.take q)).1, (lsum (l.take q)).2])).toArray) agg38 siz38 (H16'.get (k := 1) rfl) (off := 0) rfl (by exact Nat.le_of_ble_eq_true rfl) (by exact ext_all rfl)) ?_
    refine sq (r_loadA (cs' := (cel E64 ([((l).getD q lb0).1, ((l).getD q lb0).2])).toArray) agg38 siz38 (H16'.get (k := 0) rfl) (off := 0) rfl (by exact Nat.le_of_ble_eq_true rfl) (by exact ext_all rfl)) ?_
    refine c_call (vs := [.agg (cel E64 ([(lsum (l.take q)).1, (lsum (l.take q)).2])).toArray, .agg (cel E64 ([((l).getD q lb0).1, ((l).getD q lb0).2])).toArray]) call86 rfl (lxor_ok (lsum (l.take q)) ((l).getD q lb0) w15) ?_
    rintro _ w18 ⟨rfl, hE19⟩
    have H20 := H16'.ext hE19
    refine d_store (k := 1) (v := .agg (cel E64 [(lx (lsum (l.take q)) ((l).getD q lb0)).1, (lx (lsum (l.take q)) ((l).getD q lb0)).2]).toArray) (cs' := (cel E64 ([(lx (lsum (l.take q)) ((l).getD q lb0)).1, (lx (lsum (l.take q)) ((l).getD q lb0)).2])).toArray) H20 rfl rfl rfl siz38 (by exact celSize (by first | rfl | (show _ * 1 = _; omega))) (by exact celOne _) (by rw [List.size_toArray, cel_length]; show _ ≤ _ * 1; first | omega | (simp only [List.length_set]; omega) | exact Nat.le_of_ble_eq_true rfl | (simp <;> omega)) (by exact putAll (by first | rfl | omega | (simp <;> omega))) ?_
    intro w21 H22 hC23
    have H22' := H22.as (L' := [(some b11, .cells (cel E64 ([((l).getD q lb0).1, ((l).getD q lb0).2])).toArray 38 (0, 0)), (some b5, .cells (cel E64 ([(lx (lsum (l.take q)) ((l).getD q lb0)).1, (lx (lsum (l.take q)) ((l).getD q lb0)).2])).toArray 38 (0, 0)), (some b1, .cells (cel E64 ([0#64, 0#64])).toArray 38 (0, 0))]) rfl
    clear H22
    refine wnil ?_
    refine blockNormal ?_
    refine thenNormal ?_
    refine oneRegion ?_
    refine sq (r_addI (a := (q : Nat)) (b := (1 : Int)) rfl rfl (by omega)) ?_
    refine sq (r_move (v := i64 ((q : Nat) + (1 : Int))) rfl) ?_
    refine wnil ?_
    refine thenNormal ?_
    rw [show lx (lsum (l.take q)) (l.getD q lb0) = lsum (l.take (q + 1)) from (lsum_take (by omega)).symm] at H22'
    exact ⟨q + 1, _, rfl, ⟨rfl, rfl, rfl, rfl, rfl, trivial⟩, ⟨by omega, (H22'.dropk 0)⟩, by show l.length - (q + 1) < l.length - q; omega⟩
  · skip
    obtain rfl : q = l.length := by omega
    refine exitAny ?_
    refine thenExit ?_
    refine thenExit ?_
    refine blockHere ?_
    refine thenNormal ?_
    refine seqRegion ?_
    refine sq (r_loadA (cs' := (cel E64 ([(lsum (l.take l.length)).1, (lsum (l.take l.length)).2])).toArray) agg38 siz38 (HL.get (k := 0) rfl) (off := 0) rfl (by exact Nat.le_of_ble_eq_true rfl) (by exact ext_all rfl)) ?_
    refine d_store (k := 1) (v := .agg (cel E64 ([(lsum (l.take l.length)).1, (lsum (l.take l.length)).2])).toArray) (cs' := (cel E64 ([(lsum (l.take l.length)).1, (lsum (l.take l.length)).2])).toArray) HL rfl rfl rfl siz38 (by exact celSize (by first | rfl | (show _ * 1 = _; omega))) (by exact celOne _) (by rw [List.size_toArray, cel_length]; show _ ≤ _ * 1; first | omega | (simp only [List.length_set]; omega) | exact Nat.le_of_ble_eq_true rfl | (simp <;> omega)) (by exact putAll (by first | rfl | omega | (simp <;> omega))) ?_
    intro w24 H25 hC26
    have H25' := H25.as (L' := [(some b5, .cells (cel E64 ([(lsum (l.take l.length)).1, (lsum (l.take l.length)).2])).toArray 38 (0, 0)), (some b1, .cells (cel E64 ([(lsum (l.take l.length)).1, (lsum (l.take l.length)).2])).toArray 38 (0, 0))]) rfl
    clear H25
    refine wend ?_
    refine retAny ?_
    refine retG (rs := [.cell 2 38]) (vs := [.agg (cel E64 ([(lsum (l.take l.length)).1, (lsum (l.take l.length)).2])).toArray]) rfl ⟨r_loadA (cs' := (cel E64 ([(lsum (l.take l.length)).1, (lsum (l.take l.length)).2])).toArray) agg38 siz38 (H25'.get (k := 1) rfl) (off := 0) rfl (by exact Nat.le_of_ble_eq_true rfl) (by exact ext_all rfl), trivial⟩ ?_
    rw [List.take_length]
    exact ⟨_, rfl, rfl, H25'.chg⟩

theorem outs_ok (n : Int) (gs : List Gt) (ol : List Int) (ga oa : Option Addr) (gc oc : Nat) (ws : List Lb) (wa : Option Addr) (n0 wc : Nat) (hn0 : n0 = ws.length) (w : World) (hOl : Rd EI w oa ol) (hWs : Rd ELb w wa ws) (hol : ol.length ≤ 64) (hok : ∀ i, i < ol.length → 0 ≤ ol.getD i 0 ∧ ol.getD i 0 < (ws.length : Int)) : Calls Tryd.prog 90 [.agg #[i64 n, .slice ga gs.length gc, .slice oa ol.length oc], .slice wa n0 wc].toArray w (Ret fun v w' => SlRes ELb 38 (oL ws ol ol.length) w v w' ∧ Ext w w') := by
  subst hn0
  have H := Hp.start No w
  refine enter (n := 24) Tryd.func90 rfl rfl (Nat.le_of_ble_eq_true rfl) ?_
  refine seqRegion ?_
  refine q_box (v := .agg #[i64 (n), .slice ga gs.length gc, .slice oa ol.length oc]) (o := .cells #[i64 (n), .slice ga gs.length gc, .slice oa ol.length oc] 70 (0, 0)) H rfl (by rfl) ?_
  intro b1 w2 hb1 H3 hE4
  refine sq (r_assign (v := .slice none 0 0) rfl) ?_
  refine wend ?_
  refine seqRegion ?_
  refine sq (r_assign (v := .slice none 0 0) rfl) ?_
  refine wend ?_
  refine seqAny ?_
  refine seqRegion ?_
  refine sq (r_fieldAddr (off' := 2) fld70_2 (by decide) (b := b1) (off := 0) rfl (by omega)) ?_
  refine sq (r_loadC (v := .slice oa ol.length oc) one60 (H3.get (k := 0) rfl) (off := 2) rfl (by rfl)) ?_
  refine sq (r_lenS sli60 (a := oa) (m := ol.length) (c := oc) rfl) ?_
  refine sq (r_move (v := i64 ((0 : Int))) rfl) ?_
  have H5 := H3.nil (sob ELb 38 [] [])
  refine wend ?_
  refine blockAny ?_
  refine loopAny (σ := Nat × Option Nat × Nat × List Value) (fun (q, key, c, sp) => [(1, .slice wa ws.length wc), (2, .pointer (some ⟨b1, 0, none⟩)), (4, .slice none 0 0), (9, .slice oa ol.length oc), (10, i64 ((ol.length : Nat))), (5, .slice (ownA key) q c), (11, i64 ((q : Nat)))]) (fun (q, key, c, sp) w' => (q ≤ ol.length ∧ Sl ELb key (oL ws ol q) c sp) ∧ Hp No w w' [(key, sob ELb 38 (oL ws ol q) sp), (some b1, .cells #[i64 (n), .slice ga gs.length gc, .slice oa ol.length oc] 70 (0, 0))]) (fun (q, key, c, sp) => ol.length - q) ((0, none, 0, [])) ?_ ?_ ?_
  · exact ⟨rfl, rfl, rfl, rfl, rfl, rfl, rfl, trivial⟩
  · exact ⟨⟨Nat.zero_le _, Sl.none⟩, H5⟩
  rintro ⟨q, key, c, sp⟩ ρ w6 ⟨⟨hq, hS⟩, HL⟩
  refine seqRegion ?_
  refine sq (r_lssI (a := (q : Nat)) (b := (ol.length : Nat)) rfl rfl) ?_
  refine wend ?_
  refine seqAny ?_
  refine condProp (((q : Nat) : Int) < (ol.length : Nat)) rfl (fun c12 => ?_) (fun c12 => ?_)
  · skip
    have hoq := hok q (by omega)
    refine skipAny ?_
    refine thenNormal ?_
    refine seqAny ?_
    refine blockAny ?_
    refine seqRegion ?_
    refine sq (r_idxS (E := EI) (l := ol) (j := q) sli60 (hOl.ext HL.chg) rfl rfl (by first | rfl | omega | (simp; omega)) (by rfl) (by omega)) ?_
    refine sq (r_ldS (E := EI) (l := ol) (j := q) (v := (ol).getD q 0) fits3 (hOl.ext HL.chg) rfl rfl (at_getD (by omega))) ?_
    refine sq (r_assign (v := i64 ((ol).getD q 0)) rfl) ?_
    refine wend ?_
    refine oneRegion ?_
    refine sq (r_move (v := .slice (ownA key) q c) rfl) ?_
    refine sq (r_move (v := .slice wa ws.length wc) rfl) ?_
    refine sq (r_move (v := i64 ((ol).getD q 0)) rfl) ?_
    refine sq (r_idxS (E := ELb) (l := ws) (j := (ol.getD q 0).toNat) sli92 (hWs.ext HL.chg) rfl rfl (by omega) (by rfl) (by omega)) ?_
    refine sq ((r_ldS (E := ELb) (l := ws) (j := (ol.getD q 0).toNat) (v := (ws).getD ((ol.getD q 0).toNat) lb0) fits38 (hWs.ext HL.chg) rfl rfl (at_getD (by omega))).as (v' := .agg (cel E64 [((ws).getD ((ol.getD q 0).toNat) lb0).1, ((ws).getD ((ol.getD q 0).toNat) lb0).2]).toArray) rfl) ?_
    refine q_buildSlice (E := ELb) (l := ([(ws).getD ((ol.getD q 0).toNat) lb0] : List (BitVec 64 × BitVec 64))) HL sli92 zer38 (Nat.le_of_ble_eq_true rfl) (ps := [(0, .agg (cel E64 [((ws).getD ((ol.getD q 0).toNat) lb0).1, ((ws).getD ((ol.getD q 0).toNat) lb0).2]).toArray)]) rfl (by exact fillAll rfl rfl) rfl ?_
    intro b8 w10 hS9 H11 hE12
    refine q_append (E := ELb) (k := 1) (l := oL ws ol q) (l2 := ([(ws).getD ((ol.getD q 0).toNat) lb0] : List (BitVec 64 × BitVec 64))) H11 rfl hS sli92 zer38 rfl byt38 (H11.rd (k := 0) rfl hS9) rfl (by rw [oL_len]) rfl (by rfl) (by omega) ?_
    intro key13 c14 sp15 w17 hS16 hne19 H18
    have H18' := H18.as (L' := [((some b8), sob ELb 38 ([(ws).getD ((ol.getD q 0).toNat) lb0] : List (BitVec 64 × BitVec 64)) ([])), (key13, sob ELb 38 ((oL ws ol q) ++ ([(ws).getD ((ol.getD q 0).toNat) lb0] : List (BitVec 64 × BitVec 64))) sp15), (some b1, .cells #[i64 (n), .slice ga gs.length gc, .slice oa ol.length oc] 70 (0, 0))]) rfl
    clear H18
    have e20 : (oL ws ol q) ++ ([(ws).getD ((ol.getD q 0).toNat) lb0] : List (BitVec 64 × BitVec 64)) = oL ws ol (q + 1) := by rw [oL]
    have hS21 := hS16
    rw [e20] at hS21
    have H22 := H18'.as (L' := [((some b8), sob ELb 38 ([(ws).getD ((ol.getD q 0).toNat) lb0] : List (BitVec 64 × BitVec 64)) ([])), (key13, sob ELb 38 (oL ws ol (q + 1)) sp15), (some b1, .cells #[i64 (n), .slice ga gs.length gc, .slice oa ol.length oc] 70 (0, 0))]) (by rw [e20])
    refine sq (r_assign (v := .slice (ownA key13) (q + 1) c14) rfl) ?_
    refine wnil ?_
    refine blockNormal ?_
    refine thenNormal ?_
    refine oneRegion ?_
    refine sq (r_addI (a := (q : Nat)) (b := (1 : Int)) rfl rfl (by omega)) ?_
    refine sq (r_move (v := i64 ((q : Nat) + (1 : Int))) rfl) ?_
    refine wnil ?_
    refine thenNormal ?_
    exact ⟨(q + 1, key13, c14, sp15), _, rfl, ⟨rfl, rfl, rfl, rfl, rfl, rfl, rfl, trivial⟩, ⟨⟨by omega, hS21⟩, (H22.dropk 0)⟩, by show ol.length - (q + 1) < ol.length - q; omega⟩
  · skip
    obtain rfl : q = ol.length := by omega
    refine exitAny ?_
    refine thenExit ?_
    refine thenExit ?_
    refine blockHere ?_
    refine thenNormal ?_
    refine seqRegion ?_
    refine sq (r_move (v := .slice (ownA key) ol.length c) rfl) ?_
    refine sq (r_assign (v := .slice (ownA key) ol.length c) rfl) ?_
    refine wend ?_
    refine retAny ?_
    refine retG (rs := [.tmp 4]) (vs := [.slice (ownA key) ol.length c]) rfl ⟨⟨rfl, rfl⟩, trivial⟩ ?_
    exact ⟨_, rfl, HL.resN (k := 0) rfl hS (by rw [oL_len]), HL.chg⟩
end Go.Proofs.YteofdmdpaejgaaaDoor.Gb
