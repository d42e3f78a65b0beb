/- The walks of the garbled circuits. -/
import Derived.Test.YteofdmdpaejgaaaDoorGarb
namespace Go.Proofs.YteofdmdpaejgaaaDoor.Gb
open Go Go.Proofs.YteofdmdpaejgaaaDoor.Vc Go.Proofs.YteofdmdpaejgaaaDoor.Er Go.Proofs.YteofdmdpaejgaaaDoor.Circ
set_option linter.unusedVariables false
theorem agg70 : isAgg' Tryd.prog 70 = true := by kernel_rfl
theorem call31 : callable Tryd.prog 31 = true := by kernel_rfl
theorem call63 : callable Tryd.prog 63 = true := by kernel_rfl
theorem call83 : callable Tryd.prog 83 = true := by kernel_rfl
theorem call84 : callable Tryd.prog 84 = true := by kernel_rfl
theorem fld70_0 : fld Tryd.prog 70 0 = some (0, 1, 3) := by kernel_rfl
theorem isI27 : isI Tryd.prog 27 = true := by kernel_rfl
theorem one3 : isOne Tryd.prog 3 = true := by kernel_rfl
theorem siz70 : siz Tryd.prog 70 = some 3 := by kernel_rfl
theorem und57 : Tryd.prog.underlying 57 = some (.int .i64) := by kernel_rfl
theorem look_good (n : Int) (gs : List Gt) (ol : List Int) (ga oa : Option Addr) (gc oc : Nat) (m : Nat) (w : World) (hG : Gl w) (hGs : Rd EG w ga gs) (hOl : Rd EI w oa ol) (hgl : gs.length ≤ 140737488355328) (hol : ol.length ≤ 140737488355328) (hg : IsC n gs ol) (hm : (m : Int) = n) : Calls Tryd.prog 83 [.agg #[i64 (n), .slice ga gs.length gc, .slice oa ol.length oc], i64 ((m : Nat))].toArray w (Ret fun v w' => v = .nilIface ∧ Ext w w') := by
  have H := Hp.start No w
  refine enter (n := 18) Tryd.func83 rfl rfl (Nat.le_of_ble_eq_true rfl) ?_
  refine seqRegion ?_
  refine q_box (v := .agg #[i64 (n), .slice ga gs.length gc, .slice oa ol.length oc]) (o := .cells #[i64 (n), .slice ga gs.length gc, .slice oa ol.length oc] 70 (0, 0)) H rfl (by rfl) ?_
  intro b1 w2 hb1 H3 hE4
  refine sq (r_assign (v := .nilIface) rfl) ?_
  refine wend ?_
  refine seqAny ?_
  refine seqRegion ?_
  refine sq (r_loadA (cs' := #[i64 (n), .slice ga gs.length gc, .slice oa ol.length oc]) agg70 siz70 (H3.get (k := 0) rfl) (off := 0) rfl (by exact Nat.le_of_ble_eq_true rfl) (by rfl)) ?_
  refine c_call (vs := [.agg #[i64 (n), .slice ga gs.length gc, .slice oa ol.length oc]]) call31 rfl (check_good n gs ol ga oa gc oc w2 (Chg.gl H3.chg (fun x => x) hG) (hGs.ext H3.chg) (hOl.ext H3.chg) (by omega) (by omega) hg) ?_
  rintro _ w5 ⟨rfl, hE6⟩
  have H7 := H3.ext hE6
  refine sq (r_assign (v := .nilIface) rfl) ?_
  refine wend ?_
  refine seqRegion ?_
  refine sq (r_move (v := .nilIface) rfl) ?_
  refine sq (r_neqNN isI27 rfl rfl) ?_
  refine wend ?_
  refine condFalse rfl ?_
  refine skipAny ?_
  refine thenNormal ?_
  refine seqAny ?_
  refine seqRegion ?_
  refine sq (r_move (v := i64 ((m : Nat))) rfl) ?_
  refine sq (r_fieldAddr (off' := 0) fld70_0 (by decide) (b := b1) (off := 0) rfl (by omega)) ?_
  refine sq (r_loadC (v := i64 (n)) one3 (H7.get (k := 0) rfl) (off := 0) rfl (by rfl)) ?_
  refine sq ((r_neqI (a := (m : Nat)) (b := n) rfl rfl).as (v' := .bool (false)) (by exact congrArg Value.bool (decide_eq_false (by omega)))) ?_
  refine wend ?_
  refine condFalse rfl ?_
  refine skipAny ?_
  refine thenNormal ?_
  refine seqRegion ?_
  refine sq (r_assign (v := .nilIface) rfl) ?_
  refine wend ?_
  refine retAny ?_
  refine retG (rs := [.tmp 4]) (vs := [.nilIface]) rfl ⟨⟨rfl, rfl⟩, trivial⟩ ?_
  exact ⟨_, rfl, rfl, H7.chg⟩

theorem look_num (n : Int) (gs : List Gt) (ol : List Int) (ga oa : Option Addr) (gc oc : Nat) (m : Nat) (w : World) (hG : Gl w) (hGs : Rd EG w ga gs) (hOl : Rd EI w oa ol) (hgl : gs.length ≤ 140737488355328) (hol : ol.length ≤ 140737488355328) (hg : IsC n gs ol) (hm : (m : Int) ≠ n) : Calls Tryd.prog 83 [.agg #[i64 (n), .slice ga gs.length gc, .slice oa ol.length oc], i64 ((m : Nat))].toArray w (Ret fun v w' => (∃ ev, v = ev ∧ Er w.heap.size w' 1 1 ev) ∧ Ext w w') := by
  have H := Hp.start No w
  refine enter (n := 18) Tryd.func83 rfl rfl (Nat.le_of_ble_eq_true rfl) ?_
  refine seqRegion ?_
  refine q_box (v := .agg #[i64 (n), .slice ga gs.length gc, .slice oa ol.length oc]) (o := .cells #[i64 (n), .slice ga gs.length gc, .slice oa ol.length oc] 70 (0, 0)) H rfl (by rfl) ?_
  intro b1 w2 hb1 H3 hE4
  refine sq (r_assign (v := .nilIface) rfl) ?_
  refine wend ?_
  refine seqAny ?_
  refine seqRegion ?_
  refine sq (r_loadA (cs' := #[i64 (n), .slice ga gs.length gc, .slice oa ol.length oc]) agg70 siz70 (H3.get (k := 0) rfl) (off := 0) rfl (by exact Nat.le_of_ble_eq_true rfl) (by rfl)) ?_
  refine c_call (vs := [.agg #[i64 (n), .slice ga gs.length gc, .slice oa ol.length oc]]) call31 rfl (check_good n gs ol ga oa gc oc w2 (Chg.gl H3.chg (fun x => x) hG) (hGs.ext H3.chg) (hOl.ext H3.chg) (by omega) (by omega) hg) ?_
  rintro _ w5 ⟨rfl, hE6⟩
  have H7 := H3.ext hE6
  refine sq (r_assign (v := .nilIface) rfl) ?_
  refine wend ?_
  refine seqRegion ?_
  refine sq (r_move (v := .nilIface) rfl) ?_
  refine sq (r_neqNN isI27 rfl rfl) ?_
  refine wend ?_
  refine condFalse rfl ?_
  refine skipAny ?_
  refine thenNormal ?_
  refine seqAny ?_
  refine seqRegion ?_
  refine sq (r_move (v := i64 ((m : Nat))) rfl) ?_
  refine sq (r_fieldAddr (off' := 0) fld70_0 (by decide) (b := b1) (off := 0) rfl (by omega)) ?_
  refine sq (r_loadC (v := i64 (n)) one3 (H7.get (k := 0) rfl) (off := 0) rfl (by rfl)) ?_
  refine sq ((r_neqI (a := (m : Nat)) (b := n) rfl rfl).as (v' := .bool (true)) (by exact congrArg Value.bool (decide_eq_true (by omega)))) ?_
  refine wend ?_
  refine condTrue rfl ?_
  refine seqRegion ?_
  refine sq (r_mkI und57 (xv := i64 ((1 : Int))) rfl) ?_
  refine sq (r_move (v := i64 ((m : Nat))) rfl) ?_
  have := H7.lt (List.mem_of_getElem? (i := 0) rfl) rfl
  refine c_call (vs := [.iface 57 (i64 ((1 : Int))), .string ({data := #[108, 97, 98, 101, 108, 115]}), i64 ((m : Nat))]) call63 rfl (wrap0_ok (1 : Int) (m : Nat) ({data := #[108, 97, 98, 101, 108, 115]}) w5 (Chg.gl H7.chg (fun x => x) hG)) ?_
  rintro v10 w8 ⟨hEr11, hE12⟩
  have H13 := H7.ext hE12
  obtain ⟨T14, x15, rfl⟩ := hEr11.iface
  refine sq (r_assign (v := .iface T14 (x15)) rfl) ?_
  refine wend ?_
  refine retAny ?_
  refine thenRet ?_
  refine retG (rs := [.tmp 4]) (vs := [.iface T14 (x15)]) rfl ⟨⟨rfl, rfl⟩, trivial⟩ ?_
  exact ⟨_, rfl, ⟨_, rfl, hEr11.mono H7.chg.size⟩, H13.chg⟩

theorem look_bad (n : Int) (gs : List Gt) (ol : List Int) (ga oa : Option Addr) (gc oc : Nat) (m : Nat) (w : World) (hG : Gl w) (hGs : Rd EG w ga gs) (hOl : Rd EI w oa ol) (hgl : gs.length ≤ 140737488355328) (hol : ol.length ≤ 140737488355328) (hg : ¬ IsC n gs ol) : Calls Tryd.prog 83 [.agg #[i64 (n), .slice ga gs.length gc, .slice oa ol.length oc], i64 ((m : Nat))].toArray w (Ret fun v w' => (∃ ev, v = ev ∧ Er w.heap.size w' 90 1 ev) ∧ Ext w w') := by
  have H := Hp.start No w
  refine enter (n := 18) Tryd.func83 rfl rfl (Nat.le_of_ble_eq_true rfl) ?_
  refine seqRegion ?_
  refine q_box (v := .agg #[i64 (n), .slice ga gs.length gc, .slice oa ol.length oc]) (o := .cells #[i64 (n), .slice ga gs.length gc, .slice oa ol.length oc] 70 (0, 0)) H rfl (by rfl) ?_
  intro b1 w2 hb1 H3 hE4
  refine sq (r_assign (v := .nilIface) rfl) ?_
  refine wend ?_
  refine seqAny ?_
  refine seqRegion ?_
  refine sq (r_loadA (cs' := #[i64 (n), .slice ga gs.length gc, .slice oa ol.length oc]) agg70 siz70 (H3.get (k := 0) rfl) (off := 0) rfl (by exact Nat.le_of_ble_eq_true rfl) (by rfl)) ?_
  have := H3.lt (List.mem_of_getElem? (i := 0) rfl) rfl
  refine c_call (vs := [.agg #[i64 (n), .slice ga gs.length gc, .slice oa ol.length oc]]) call31 rfl (check_bad n gs ol ga oa gc oc w2 (Chg.gl H3.chg (fun x => x) hG) (hGs.ext H3.chg) (hOl.ext H3.chg) (by omega) (by omega) hg) ?_
  rintro v7 w5 ⟨hEr8, hE9⟩
  have H10 := H3.ext hE9
  obtain ⟨T11, x12, rfl⟩ := hEr8.iface
  refine sq (r_assign (v := .iface T11 (x12)) rfl) ?_
  refine wend ?_
  refine seqRegion ?_
  refine sq (r_move (v := .iface T11 (x12)) rfl) ?_
  refine sq (r_neqIN isI27 rfl rfl) ?_
  refine wend ?_
  refine condTrue rfl ?_
  refine seqRegion ?_
  refine sq (r_move (v := .iface T11 (x12)) rfl) ?_
  refine sq (r_assign (v := .iface T11 (x12)) rfl) ?_
  refine wend ?_
  refine retAny ?_
  refine thenRet ?_
  refine retG (rs := [.tmp 4]) (vs := [.iface T11 (x12)]) rfl ⟨⟨rfl, rfl⟩, trivial⟩ ?_
  exact ⟨_, rfl, ⟨_, rfl, hEr8.mono H3.chg.size⟩, H10.chg⟩

theorem garble_bad (n : Int) (gs : List Gt) (ol : List Int) (ga oa : Option Addr) (gc oc : Nat) (δ : Lb) (zs : List Lb) (za : Option Addr) (zc : Nat) (first : BitVec 64) (w : World) (hG : Gl w) (hGs : Rd EG w ga gs) (hOl : Rd EI w oa ol) (hgl : gs.length ≤ 140737488355328) (hol : ol.length ≤ 140737488355328) (hZ : Rd ELb w za zs) (hg : ¬ IsC n gs ol) : Calls Tryd.prog 45 [.agg #[i64 (n), .slice ga gs.length gc, .slice oa ol.length oc], .agg (cel E64 [(δ).1, (δ).2]).toArray, .slice za zs.length zc, u64 (first)].toArray w (Ret fun v w' => (∃ ev, v = .tuple #[.slice none 0 0, .slice none 0 0, ev] ∧ Er w.heap.size w' 90 1 ev) ∧ Ext w w') := by
  have H := Hp.start No w
  refine enter (n := 152) Tryd.func45 rfl rfl (Nat.le_of_ble_eq_true rfl) ?_
  refine seqRegion ?_
  refine q_box (v := .agg #[i64 (n), .slice ga gs.length gc, .slice oa ol.length oc]) (o := .cells #[i64 (n), .slice ga gs.length gc, .slice oa ol.length oc] 70 (0, 0)) H rfl (by rfl) ?_
  intro b1 w2 hb1 H3 hE4
  refine q_box (v := .agg (cel E64 [(δ).1, (δ).2]).toArray) (o := .cells (cel E64 ([(δ).1, (δ).2])).toArray 38 (0, 0)) H3 rfl (by rfl) ?_
  intro b5 w6 hb5 H7 hE8
  refine sq (r_assign (v := .slice none 0 0) rfl) ?_
  refine sq (r_assign (v := .slice none 0 0) rfl) ?_
  refine sq (r_assign (v := .nilIface) rfl) ?_
  refine wend ?_
  refine seqAny ?_
  refine seqRegion ?_
  refine sq (r_loadA (cs' := #[i64 (n), .slice ga gs.length gc, .slice oa ol.length oc]) agg70 siz70 (H7.get (k := 1) rfl) (off := 0) rfl (by exact Nat.le_of_ble_eq_true rfl) (by rfl)) ?_
  refine sq (r_move (v := .slice za zs.length zc) rfl) ?_
  refine sq (r_lenS sli92 (a := za) (m := zs.length) (c := zc) rfl) ?_
  have := H7.lt (List.mem_of_getElem? (i := 0) rfl) rfl
  have := H7.lt (List.mem_of_getElem? (i := 1) rfl) rfl
  refine c_call (vs := [.agg #[i64 (n), .slice ga gs.length gc, .slice oa ol.length oc], i64 ((zs.length : Nat))]) call83 rfl (look_bad n gs ol ga oa gc oc zs.length w6 (Chg.gl H7.chg (fun x => x) hG) (hGs.ext H7.chg) (hOl.ext H7.chg) (by omega) (by omega) hg) ?_
  rintro _ w9 ⟨⟨v11, rfl, hEr12⟩, hE13⟩
  have H14 := H7.ext hE13
  obtain ⟨T15, x16, rfl⟩ := hEr12.iface
  refine sq (r_assign (v := .iface T15 (x16)) rfl) ?_
  refine wend ?_
  refine seqRegion ?_
  refine sq (r_move (v := .iface T15 (x16)) rfl) ?_
  refine sq (r_neqIN isI27 rfl rfl) ?_
  refine wend ?_
  refine condTrue rfl ?_
  refine seqRegion ?_
  refine sq (r_move (v := .iface T15 (x16)) rfl) ?_
  refine sq (r_assign (v := .slice none 0 0) rfl) ?_
  refine sq (r_assign (v := .slice none 0 0) rfl) ?_
  refine sq (r_assign (v := .iface T15 (x16)) rfl) ?_
  refine wend ?_
  refine retAny ?_
  refine thenRet ?_
  refine retG (rs := [.tmp 8, .tmp 9, .tmp 10]) (vs := [.slice none 0 0, .slice none 0 0, .iface T15 (x16)]) rfl ⟨⟨rfl, rfl⟩, ⟨rfl, rfl⟩, ⟨rfl, rfl⟩, trivial⟩ ?_
  exact ⟨_, rfl, ⟨_, rfl, hEr12.mono H7.chg.size⟩, H14.chg⟩

theorem garble_num (n : Int) (gs : List Gt) (ol : List Int) (ga oa : Option Addr) (gc oc : Nat) (δ : Lb) (zs : List Lb) (za : Option Addr) (zc : Nat) (first : BitVec 64) (w : World) (hG : Gl w) (hGs : Rd EG w ga gs) (hOl : Rd EI w oa ol) (hgl : gs.length ≤ 140737488355328) (hol : ol.length ≤ 140737488355328) (hZ : Rd ELb w za zs) (hg : IsC n gs ol) (hm : (zs.length : Int) ≠ n) : Calls Tryd.prog 45 [.agg #[i64 (n), .slice ga gs.length gc, .slice oa ol.length oc], .agg (cel E64 [(δ).1, (δ).2]).toArray, .slice za zs.length zc, u64 (first)].toArray w (Ret fun v w' => (∃ ev, v = .tuple #[.slice none 0 0, .slice none 0 0, ev] ∧ Er w.heap.size w' 1 1 ev) ∧ Ext w w') := by
  have H := Hp.start No w
  refine enter (n := 152) Tryd.func45 rfl rfl (Nat.le_of_ble_eq_true rfl) ?_
  refine seqRegion ?_
  refine q_box (v := .agg #[i64 (n), .slice ga gs.length gc, .slice oa ol.length oc]) (o := .cells #[i64 (n), .slice ga gs.length gc, .slice oa ol.length oc] 70 (0, 0)) H rfl (by rfl) ?_
  intro b1 w2 hb1 H3 hE4
  refine q_box (v := .agg (cel E64 [(δ).1, (δ).2]).toArray) (o := .cells (cel E64 ([(δ).1, (δ).2])).toArray 38 (0, 0)) H3 rfl (by rfl) ?_
  intro b5 w6 hb5 H7 hE8
  refine sq (r_assign (v := .slice none 0 0) rfl) ?_
  refine sq (r_assign (v := .slice none 0 0) rfl) ?_
  refine sq (r_assign (v := .nilIface) rfl) ?_
  refine wend ?_
  refine seqAny ?_
  refine seqRegion ?_
  refine sq (r_loadA (cs' := #[i64 (n), .slice ga gs.length gc, .slice oa ol.length oc]) agg70 siz70 (H7.get (k := 1) rfl) (off := 0) rfl (by exact Nat.le_of_ble_eq_true rfl) (by rfl)) ?_
  refine sq (r_move (v := .slice za zs.length zc) rfl) ?_
  refine sq (r_lenS sli92 (a := za) (m := zs.length) (c := zc) rfl) ?_
  have := H7.lt (List.mem_of_getElem? (i := 0) rfl) rfl
  have := H7.lt (List.mem_of_getElem? (i := 1) rfl) rfl
  refine c_call (vs := [.agg #[i64 (n), .slice ga gs.length gc, .slice oa ol.length oc], i64 ((zs.length : Nat))]) call83 rfl (look_num n gs ol ga oa gc oc zs.length w6 (Chg.gl H7.chg (fun x => x) hG) (hGs.ext H7.chg) (hOl.ext H7.chg) (by omega) (by omega) hg (by omega)) ?_
  rintro _ w9 ⟨⟨v11, rfl, hEr12⟩, hE13⟩
  have H14 := H7.ext hE13
  obtain ⟨T15, x16, rfl⟩ := hEr12.iface
  refine sq (r_assign (v := .iface T15 (x16)) rfl) ?_
  refine wend ?_
  refine seqRegion ?_
  refine sq (r_move (v := .iface T15 (x16)) rfl) ?_
  refine sq (r_neqIN isI27 rfl rfl) ?_
  refine wend ?_
  refine condTrue rfl ?_
  refine seqRegion ?_
  refine sq (r_move (v := .iface T15 (x16)) rfl) ?_
  refine sq (r_assign (v := .slice none 0 0) rfl) ?_
  refine sq (r_assign (v := .slice none 0 0) rfl) ?_
  refine sq (r_assign (v := .iface T15 (x16)) rfl) ?_
  refine wend ?_
  refine retAny ?_
  refine thenRet ?_
  refine retG (rs := [.tmp 8, .tmp 9, .tmp 10]) (vs := [.slice none 0 0, .slice none 0 0, .iface T15 (x16)]) rfl ⟨⟨rfl, rfl⟩, ⟨rfl, rfl⟩, ⟨rfl, rfl⟩, trivial⟩ ?_
  exact ⟨_, rfl, ⟨_, rfl, hEr12.mono H7.chg.size⟩, H14.chg⟩

theorem garble_delta (n : Int) (gs : List Gt) (ol : List Int) (ga oa : Option Addr) (gc oc : Nat) (δ : Lb) (zs : List Lb) (za : Option Addr) (zc : Nat) (first : BitVec 64) (w : World) (hG : Gl w) (hGs : Rd EG w ga gs) (hOl : Rd EI w oa ol) (hgl : gs.length ≤ 140737488355328) (hol : ol.length ≤ 140737488355328) (hZ : Rd ELb w za zs) (hg : IsC n gs ol) (hm : (zs.length : Int) = n) (hc : col δ = false) : Calls Tryd.prog 45 [.agg #[i64 (n), .slice ga gs.length gc, .slice oa ol.length oc], .agg (cel E64 [(δ).1, (δ).2]).toArray, .slice za zs.length zc, u64 (first)].toArray w (Ret fun v w' => (∃ ev, v = .tuple #[.slice none 0 0, .slice none 0 0, ev] ∧ Er w.heap.size w' 100 1 ev) ∧ Ext w w') := by
  have H := Hp.start No w
  refine enter (n := 152) Tryd.func45 rfl rfl (Nat.le_of_ble_eq_true rfl) ?_
  refine seqRegion ?_
  refine q_box (v := .agg #[i64 (n), .slice ga gs.length gc, .slice oa ol.length oc]) (o := .cells #[i64 (n), .slice ga gs.length gc, .slice oa ol.length oc] 70 (0, 0)) H rfl (by rfl) ?_
  intro b1 w2 hb1 H3 hE4
  refine q_box (v := .agg (cel E64 [(δ).1, (δ).2]).toArray) (o := .cells (cel E64 ([(δ).1, (δ).2])).toArray 38 (0, 0)) H3 rfl (by rfl) ?_
  intro b5 w6 hb5 H7 hE8
  refine sq (r_assign (v := .slice none 0 0) rfl) ?_
  refine sq (r_assign (v := .slice none 0 0) rfl) ?_
  refine sq (r_assign (v := .nilIface) rfl) ?_
  refine wend ?_
  refine seqAny ?_
  refine seqRegion ?_
  refine sq (r_loadA (cs' := #[i64 (n), .slice ga gs.length gc, .slice oa ol.length oc]) agg70 siz70 (H7.get (k := 1) rfl) (off := 0) rfl (by exact Nat.le_of_ble_eq_true rfl) (by rfl)) ?_
  refine sq (r_move (v := .slice za zs.length zc) rfl) ?_
  refine sq (r_lenS sli92 (a := za) (m := zs.length) (c := zc) rfl) ?_
  refine c_call (vs := [.agg #[i64 (n), .slice ga gs.length gc, .slice oa ol.length oc], i64 ((zs.length : Nat))]) call83 rfl (look_good n gs ol ga oa gc oc zs.length w6 (Chg.gl H7.chg (fun x => x) hG) (hGs.ext H7.chg) (hOl.ext H7.chg) (by omega) (by omega) hg (by omega)) ?_
  rintro _ w9 ⟨rfl, hE10⟩
  have H11 := H7.ext hE10
  refine sq (r_assign (v := .nilIface) rfl) ?_
  refine wend ?_
  refine seqRegion ?_
  refine sq (r_move (v := .nilIface) rfl) ?_
  refine sq (r_neqNN isI27 rfl rfl) ?_
  refine wend ?_
  refine condFalse rfl ?_
  refine skipAny ?_
  refine thenNormal ?_
  refine seqAny ?_
  refine seqRegion ?_
  refine sq (r_loadA (cs' := (cel E64 ([(δ).1, (δ).2])).toArray) agg38 siz38 (H11.get (k := 0) rfl) (off := 0) rfl (by exact Nat.le_of_ble_eq_true rfl) (by exact ext_all rfl)) ?_
  refine c_call (vs := [.agg (cel E64 ([(δ).1, (δ).2])).toArray]) call84 rfl (col_ok δ w9) ?_
  rintro _ w12 ⟨rfl, hE13⟩
  have H14 := H11.ext hE13
  refine sq ((r_not (b := col δ) rfl).as (v' := .bool (true)) (by rw [hc]; rfl)) ?_
  refine wend ?_
  refine condTrue rfl ?_
  refine seqRegion ?_
  refine sq (r_mkI und57 (xv := i64 ((100 : Int))) rfl) ?_
  have := H14.lt (List.mem_of_getElem? (i := 0) rfl) rfl
  have := H14.lt (List.mem_of_getElem? (i := 1) rfl) rfl
  refine c_call (vs := [.iface 57 (i64 ((100 : Int))), .string ({data := #[100, 101, 108, 116, 97]}), i64 ((0 : Int))]) call63 rfl (wrap0_ok (100 : Int) (0 : Int) ({data := #[100, 101, 108, 116, 97]}) w12 (Chg.gl H14.chg (fun x => x) hG)) ?_
  rintro v17 w15 ⟨hEr18, hE19⟩
  have H20 := H14.ext hE19
  obtain ⟨T21, x22, rfl⟩ := hEr18.iface
  refine sq (r_assign (v := .slice none 0 0) rfl) ?_
  refine sq (r_assign (v := .slice none 0 0) rfl) ?_
  refine sq (r_assign (v := .iface T21 (x22)) rfl) ?_
  refine wend ?_
  refine retAny ?_
  refine thenRet ?_
  refine retG (rs := [.tmp 8, .tmp 9, .tmp 10]) (vs := [.slice none 0 0, .slice none 0 0, .iface T21 (x22)]) rfl ⟨⟨rfl, rfl⟩, ⟨rfl, rfl⟩, ⟨rfl, rfl⟩, trivial⟩ ?_
  exact ⟨_, rfl, ⟨_, rfl, hEr18.mono H14.chg.size⟩, H20.chg⟩
end Go.Proofs.YteofdmdpaejgaaaDoor.Gb
