/- The walks of the garbled circuits. -/
import Derived.Test.YteofdmdpaejgaaaDoorGarb3
import Derived.Test.YteofdmdpaejgaaaDoorGarbTwo
import Derived.Test.YteofdmdpaejgaaaDoorVcPart
namespace Go.Proofs.YteofdmdpaejgaaaDoor.Gb
open Go Go.Proofs.YteofdmdpaejgaaaDoor.Vc Go.Proofs.YteofdmdpaejgaaaDoor.Er Go.Proofs.YteofdmdpaejgaaaDoor.Circ
set_option linter.unusedVariables false
theorem call32 : callable Tryd.prog 32 = true := by kernel_rfl
theorem eval_bad (n : Int) (gs : List Gt) (ol : List Int) (ga oa : Option Addr) (gc oc : Nat) (ls tb : List Lb) (lsa tsa : Option Addr) (lsc tsc : Nat) (first : BitVec 64) (w : World) (hG : Gl w) (hGs : Rd EG w ga gs) (hOl : Rd EI w oa ol) (hgl : gs.length ≤ 140737488355328) (hol : ol.length ≤ 140737488355328) (hLs : Rd ELb w lsa ls) (hTb : Rd ELb w tsa tb) (hg : ¬ IsC n gs ol) : Calls Tryd.prog 46 [.agg #[i64 (n), .slice ga gs.length gc, .slice oa ol.length oc], .slice lsa ls.length lsc, .slice tsa tb.length tsc, u64 (first)].toArray w (Ret fun v w' => (∃ ev, v = .tuple #[.slice none 0 0, ev] ∧ Er w.heap.size w' 90 1 ev) ∧ Ext w w') := by
  have H := Hp.start No w
  refine enter (n := 122) Tryd.func46 rfl rfl (Nat.le_of_ble_eq_true rfl) ?_
  refine seqRegion ?_
  refine q_box (v := .agg #[i64 (n), .slice ga gs.length gc, .slice oa ol.length oc]) (o := .cells #[i64 (n), .slice ga gs.length gc, .slice oa ol.length oc] 70 (0, 0)) H rfl (by rfl) ?_
  intro b1 w2 hb1 H3 hE4
  refine sq (r_assign (v := .slice none 0 0) rfl) ?_
  refine sq (r_assign (v := .nilIface) rfl) ?_
  refine wend ?_
  refine seqAny ?_
  refine seqRegion ?_
  refine sq (r_loadA (cs' := #[i64 (n), .slice ga gs.length gc, .slice oa ol.length oc]) agg70 siz70 (H3.get (k := 0) rfl) (off := 0) rfl (by exact Nat.le_of_ble_eq_true rfl) (by rfl)) ?_
  refine sq (r_move (v := .slice lsa ls.length lsc) rfl) ?_
  refine sq (r_lenS sli92 (a := lsa) (m := ls.length) (c := lsc) rfl) ?_
  have := H3.lt (List.mem_of_getElem? (i := 0) rfl) rfl
  refine c_call (vs := [.agg #[i64 (n), .slice ga gs.length gc, .slice oa ol.length oc], i64 ((ls.length : Nat))]) call83 rfl (look_bad n gs ol ga oa gc oc ls.length w2 (Chg.gl H3.chg (fun x => x) hG) (hGs.ext H3.chg) (hOl.ext H3.chg) (by omega) (by omega) hg) ?_
  rintro _ w5 ⟨⟨v7, rfl, hEr8⟩, hE9⟩
  have H10 := H3.ext hE9
  obtain ⟨T11, x12, rfl⟩ := hEr8.iface
  refine sq (r_assign (v := .iface T11 (x12)) rfl) ?_
  refine wend ?_
  refine seqRegion ?_
  refine sq (r_move (v := .iface T11 (x12)) rfl) ?_
  refine sq (r_neqIN isI27 rfl rfl) ?_
  refine wend ?_
  refine condTrue rfl ?_
  refine seqRegion ?_
  refine sq (r_move (v := .iface T11 (x12)) rfl) ?_
  refine sq (r_assign (v := .slice none 0 0) rfl) ?_
  refine sq (r_assign (v := .iface T11 (x12)) rfl) ?_
  refine wend ?_
  refine retAny ?_
  refine thenRet ?_
  refine retG (rs := [.tmp 8, .tmp 9]) (vs := [.slice none 0 0, .iface T11 (x12)]) rfl ⟨⟨rfl, rfl⟩, ⟨rfl, rfl⟩, trivial⟩ ?_
  exact ⟨_, rfl, ⟨_, rfl, hEr8.mono H3.chg.size⟩, H10.chg⟩

theorem eval_num (n : Int) (gs : List Gt) (ol : List Int) (ga oa : Option Addr) (gc oc : Nat) (ls tb : List Lb) (lsa tsa : Option Addr) (lsc tsc : Nat) (first : BitVec 64) (w : World) (hG : Gl w) (hGs : Rd EG w ga gs) (hOl : Rd EI w oa ol) (hgl : gs.length ≤ 140737488355328) (hol : ol.length ≤ 140737488355328) (hLs : Rd ELb w lsa ls) (hTb : Rd ELb w tsa tb) (hg : IsC n gs ol) (hm : (ls.length : Int) ≠ n) : Calls Tryd.prog 46 [.agg #[i64 (n), .slice ga gs.length gc, .slice oa ol.length oc], .slice lsa ls.length lsc, .slice tsa tb.length tsc, u64 (first)].toArray w (Ret fun v w' => (∃ ev, v = .tuple #[.slice none 0 0, ev] ∧ Er w.heap.size w' 1 1 ev) ∧ Ext w w') := by
  have H := Hp.start No w
  refine enter (n := 122) Tryd.func46 rfl rfl (Nat.le_of_ble_eq_true rfl) ?_
  refine seqRegion ?_
  refine q_box (v := .agg #[i64 (n), .slice ga gs.length gc, .slice oa ol.length oc]) (o := .cells #[i64 (n), .slice ga gs.length gc, .slice oa ol.length oc] 70 (0, 0)) H rfl (by rfl) ?_
  intro b1 w2 hb1 H3 hE4
  refine sq (r_assign (v := .slice none 0 0) rfl) ?_
  refine sq (r_assign (v := .nilIface) rfl) ?_
  refine wend ?_
  refine seqAny ?_
  refine seqRegion ?_
  refine sq (r_loadA (cs' := #[i64 (n), .slice ga gs.length gc, .slice oa ol.length oc]) agg70 siz70 (H3.get (k := 0) rfl) (off := 0) rfl (by exact Nat.le_of_ble_eq_true rfl) (by rfl)) ?_
  refine sq (r_move (v := .slice lsa ls.length lsc) rfl) ?_
  refine sq (r_lenS sli92 (a := lsa) (m := ls.length) (c := lsc) rfl) ?_
  have := H3.lt (List.mem_of_getElem? (i := 0) rfl) rfl
  refine c_call (vs := [.agg #[i64 (n), .slice ga gs.length gc, .slice oa ol.length oc], i64 ((ls.length : Nat))]) call83 rfl (look_num n gs ol ga oa gc oc ls.length w2 (Chg.gl H3.chg (fun x => x) hG) (hGs.ext H3.chg) (hOl.ext H3.chg) (by omega) (by omega) hg (by omega)) ?_
  rintro _ w5 ⟨⟨v7, rfl, hEr8⟩, hE9⟩
  have H10 := H3.ext hE9
  obtain ⟨T11, x12, rfl⟩ := hEr8.iface
  refine sq (r_assign (v := .iface T11 (x12)) rfl) ?_
  refine wend ?_
  refine seqRegion ?_
  refine sq (r_move (v := .iface T11 (x12)) rfl) ?_
  refine sq (r_neqIN isI27 rfl rfl) ?_
  refine wend ?_
  refine condTrue rfl ?_
  refine seqRegion ?_
  refine sq (r_move (v := .iface T11 (x12)) rfl) ?_
  refine sq (r_assign (v := .slice none 0 0) rfl) ?_
  refine sq (r_assign (v := .iface T11 (x12)) rfl) ?_
  refine wend ?_
  refine retAny ?_
  refine thenRet ?_
  refine retG (rs := [.tmp 8, .tmp 9]) (vs := [.slice none 0 0, .iface T11 (x12)]) rfl ⟨⟨rfl, rfl⟩, ⟨rfl, rfl⟩, trivial⟩ ?_
  exact ⟨_, rfl, ⟨_, rfl, hEr8.mono H3.chg.size⟩, H10.chg⟩

theorem eval_tab (n : Int) (gs : List Gt) (ol : List Int) (ga oa : Option Addr) (gc oc : Nat) (ls tb : List Lb) (lsa tsa : Option Addr) (lsc tsc : Nat) (first : BitVec 64) (w : World) (hG : Gl w) (hGs : Rd EG w ga gs) (hOl : Rd EI w oa ol) (hgl : gs.length ≤ 140737488355328) (hol : ol.length ≤ 140737488355328) (hLs : Rd ELb w lsa ls) (hTb : Rd ELb w tsa tb) (hg : IsC n gs ol) (hm : (ls.length : Int) = n) (hc : tb.length ≠ 2 * andsS gs gs.length) : Calls Tryd.prog 46 [.agg #[i64 (n), .slice ga gs.length gc, .slice oa ol.length oc], .slice lsa ls.length lsc, .slice tsa tb.length tsc, u64 (first)].toArray w (Ret fun v w' => (∃ ev, v = .tuple #[.slice none 0 0, ev] ∧ Er w.heap.size w' 100 1 ev) ∧ Ext w w') := by
  have hgt := hg.gates
  have han := andsS_le gs gs.length
  have H := Hp.start No w
  refine enter (n := 122) Tryd.func46 rfl rfl (Nat.le_of_ble_eq_true rfl) ?_
  refine seqRegion ?_
  refine q_box (v := .agg #[i64 (n), .slice ga gs.length gc, .slice oa ol.length oc]) (o := .cells #[i64 (n), .slice ga gs.length gc, .slice oa ol.length oc] 70 (0, 0)) H rfl (by rfl) ?_
  intro b1 w2 hb1 H3 hE4
  refine sq (r_assign (v := .slice none 0 0) rfl) ?_
  refine sq (r_assign (v := .nilIface) rfl) ?_
  refine wend ?_
  refine seqAny ?_
  refine seqRegion ?_
  refine sq (r_loadA (cs' := #[i64 (n), .slice ga gs.length gc, .slice oa ol.length oc]) agg70 siz70 (H3.get (k := 0) rfl) (off := 0) rfl (by exact Nat.le_of_ble_eq_true rfl) (by rfl)) ?_
  refine sq (r_move (v := .slice lsa ls.length lsc) rfl) ?_
  refine sq (r_lenS sli92 (a := lsa) (m := ls.length) (c := lsc) rfl) ?_
  refine c_call (vs := [.agg #[i64 (n), .slice ga gs.length gc, .slice oa ol.length oc], i64 ((ls.length : Nat))]) call83 rfl (look_good n gs ol ga oa gc oc ls.length w2 (Chg.gl H3.chg (fun x => x) hG) (hGs.ext H3.chg) (hOl.ext H3.chg) (by omega) (by omega) hg (by omega)) ?_
  rintro _ w5 ⟨rfl, hE6⟩
  have H7 := H3.ext hE6
  refine sq (r_assign (v := .nilIface) rfl) ?_
  refine wend ?_
  refine seqRegion ?_
  refine sq (r_move (v := .nilIface) rfl) ?_
  refine sq (r_neqNN isI27 rfl rfl) ?_
  refine wend ?_
  refine condFalse rfl ?_
  refine skipAny ?_
  refine thenNormal ?_
  refine seqAny ?_
  refine seqRegion ?_
  refine sq (r_move (v := .slice tsa tb.length tsc) rfl) ?_
  refine sq (r_lenS sli92 (a := tsa) (m := tb.length) (c := tsc) rfl) ?_
  refine sq (r_loadA (cs' := #[i64 (n), .slice ga gs.length gc, .slice oa ol.length oc]) agg70 siz70 (H7.get (k := 0) rfl) (off := 0) rfl (by exact Nat.le_of_ble_eq_true rfl) (by rfl)) ?_
  refine c_call (vs := [.agg #[i64 (n), .slice ga gs.length gc, .slice oa ol.length oc]]) call32 rfl (ands_ok n gs ol ga oa gc oc w5 (hGs.ext H7.chg) (by omega)) ?_
  rintro _ w8 ⟨rfl, hE9⟩
  have H10 := H7.ext hE9
  refine sq ((r_mulI (a := (2 : Int)) (b := (andsS gs gs.length : Nat)) rfl rfl (by omega)).as (v' := i64 (((2 * andsS gs gs.length) : Nat))) (by rfl)) ?_
  refine sq ((r_neqI (a := (tb.length : Nat)) (b := ((2 * andsS gs gs.length) : Nat)) rfl rfl).as (v' := .bool (true)) (by exact congrArg Value.bool (decide_eq_true (by omega)))) ?_
  refine wend ?_
  refine condTrue rfl ?_
  refine seqRegion ?_
  refine sq (r_mkI und57 (xv := i64 ((100 : Int))) rfl) ?_
  refine sq (r_move (v := .slice tsa tb.length tsc) rfl) ?_
  refine sq (r_lenS sli92 (a := tsa) (m := tb.length) (c := tsc) rfl) ?_
  have := H10.lt (List.mem_of_getElem? (i := 0) rfl) rfl
  refine c_call (vs := [.iface 57 (i64 ((100 : Int))), .string ({data := #[116, 97, 98, 108, 101, 115]}), i64 ((tb.length : Nat))]) call63 rfl (wrap0_ok (100 : Int) (tb.length : Nat) ({data := #[116, 97, 98, 108, 101, 115]}) w8 (Chg.gl H10.chg (fun x => x) hG)) ?_
  rintro v13 w11 ⟨hEr14, hE15⟩
  have H16 := H10.ext hE15
  obtain ⟨T17, x18, rfl⟩ := hEr14.iface
  refine sq (r_assign (v := .slice none 0 0) rfl) ?_
  refine sq (r_assign (v := .iface T17 (x18)) rfl) ?_
  refine wend ?_
  refine retAny ?_
  refine thenRet ?_
  refine retG (rs := [.tmp 8, .tmp 9]) (vs := [.slice none 0 0, .iface T17 (x18)]) rfl ⟨⟨rfl, rfl⟩, ⟨rfl, rfl⟩, trivial⟩ ?_
  exact ⟨_, rfl, ⟨_, rfl, hEr14.mono H10.chg.size⟩, H16.chg⟩

set_option maxRecDepth 20000 in
set_option maxHeartbeats 4000000 in
theorem eval_ok (n : Int) (gs : List Gt) (ol : List Int) (ga oa : Option Addr) (gc oc : Nat) (ls tb : List Lb) (lsa tsa : Option Addr) (lsc tsc : Nat) (first : BitVec 64) (w : World) (hG : Gl w) (hGs : Rd EG w ga gs) (hOl : Rd EI w oa ol) (hgl : gs.length ≤ 140737488355328) (hol : ol.length ≤ 140737488355328) (hLs : Rd ELb w lsa ls) (hTb : Rd ELb w tsa tb) (hg : IsC n gs ol) (hm : (ls.length : Int) = n) (hc : tb.length = 2 * andsS gs gs.length) : Calls Tryd.prog 46 [.agg #[i64 n, .slice ga gs.length gc, .slice oa ol.length oc], .slice lsa ls.length lsc, .slice tsa tb.length tsc, u64 first].toArray w (Ret fun v w' => ∃ (k1 : Option Nat) (c1 : Nat) (z1 : List Value), v = .tuple #[.slice (ownA k1) ol.length c1, .nilIface] ∧ Sl ELb k1 (oL (eS lhash first gs tb ls gs.length).1 ol ol.length) c1 z1 ∧ Hp No w w' [(k1, sob ELb 38 (oL (eS lhash first gs tb ls gs.length).1 ol ol.length) z1)]) := by
  subst hm
  have hgt := hg.gates
  have hot := hg.outs
  have hhi := hg.hi
  have han := andsS_le gs gs.length
  have H := Hp.start No w
  refine enter (n := 122) Tryd.func46 rfl rfl (Nat.le_of_ble_eq_true rfl) ?_
  refine seqRegion ?_
  refine q_box (v := .agg #[i64 ((ls.length : Nat)), .slice ga gs.length gc, .slice oa ol.length oc]) (o := .cells #[i64 ((ls.length : Nat)), .slice ga gs.length gc, .slice oa ol.length oc] 70 (0, 0)) H rfl (by rfl) ?_
  intro b1 w2 hb1 H3 hE4
  refine sq (r_assign (v := .slice none 0 0) rfl) ?_
  refine sq (r_assign (v := .nilIface) rfl) ?_
  refine wend ?_
  refine seqAny ?_
  refine seqRegion ?_
  refine sq (r_loadA (cs' := #[i64 ((ls.length : Nat)), .slice ga gs.length gc, .slice oa ol.length oc]) agg70 siz70 (H3.get (k := 0) rfl) (off := 0) rfl (by exact Nat.le_of_ble_eq_true rfl) (by rfl)) ?_
  refine sq (r_move (v := .slice lsa ls.length lsc) rfl) ?_
  refine sq (r_lenS sli92 (a := lsa) (m := ls.length) (c := lsc) rfl) ?_
  refine c_call (vs := [.agg #[i64 ((ls.length : Nat)), .slice ga gs.length gc, .slice oa ol.length oc], i64 ((ls.length : Nat))]) call83 rfl (look_good (ls.length : Nat) gs ol ga oa gc oc ls.length w2 (Chg.gl H3.chg (fun x => x) hG) (hGs.ext H3.chg) (hOl.ext H3.chg) (by omega) (by omega) hg (by omega)) ?_
  rintro _ w5 ⟨rfl, hE6⟩
  have H7 := H3.ext hE6
  refine sq (r_assign (v := .nilIface) rfl) ?_
  refine wend ?_
  refine seqRegion ?_
  refine sq (r_move (v := .nilIface) rfl) ?_
  refine sq (r_neqNN isI27 rfl rfl) ?_
  refine wend ?_
  refine condFalse rfl ?_
  refine skipAny ?_
  refine thenNormal ?_
  refine seqAny ?_
  refine seqRegion ?_
  refine sq (r_move (v := .slice tsa tb.length tsc) rfl) ?_
  refine sq (r_lenS sli92 (a := tsa) (m := tb.length) (c := tsc) rfl) ?_
  refine sq (r_loadA (cs' := #[i64 ((ls.length : Nat)), .slice ga gs.length gc, .slice oa ol.length oc]) agg70 siz70 (H7.get (k := 0) rfl) (off := 0) rfl (by exact Nat.le_of_ble_eq_true rfl) (by rfl)) ?_
  refine c_call (vs := [.agg #[i64 ((ls.length : Nat)), .slice ga gs.length gc, .slice oa ol.length oc]]) call32 rfl (ands_ok (ls.length : Nat) gs ol ga oa gc oc w5 (hGs.ext H7.chg) (by omega)) ?_
  rintro _ w8 ⟨rfl, hE9⟩
  have H10 := H7.ext hE9
  refine sq ((r_mulI (a := (2 : Int)) (b := (andsS gs gs.length : Nat)) rfl rfl (by omega)).as (v' := i64 (((2 * andsS gs gs.length) : Nat))) (by rfl)) ?_
  refine sq ((r_neqI (a := (tb.length : Nat)) (b := ((2 * andsS gs gs.length) : Nat)) rfl rfl).as (v' := .bool (false)) (by exact congrArg Value.bool (decide_eq_false (by omega)))) ?_
  refine wend ?_
  refine condFalse rfl ?_
  refine skipAny ?_
  refine thenNormal ?_
  refine seqRegion ?_
  refine c_call (vs := []) call85 rfl (Aes.fixed_ok w8) ?_
  rintro _ w11 ⟨⟨b13, rfl, hb14, ho15⟩, hE16⟩
  have H17 := H10.add1 hE16 hb14 ho15
  refine sq (r_assign (v := .pointer (some ⟨b13, 0, none⟩)) rfl) ?_
  refine wend ?_
  refine seqRegion ?_
  refine sq (r_fieldAddr (off' := 0) fld70_0 (by decide) (b := b1) (off := 0) rfl (by omega)) ?_
  refine sq (r_loadC (v := i64 ((ls.length : Nat))) one3 (H17.get (k := 1) rfl) (off := 0) rfl (by rfl)) ?_
  refine sq (r_fieldAddr (off' := 1) fld70_1 (by decide) (b := b1) (off := 0) rfl (by omega)) ?_
  refine sq (r_loadC (v := .slice ga gs.length gc) one68 (H17.get (k := 1) rfl) (off := 1) rfl (by rfl)) ?_
  refine sq (r_lenS sli68 (a := ga) (m := gs.length) (c := gc) rfl) ?_
  refine sq ((r_addI (a := (ls.length : Nat)) (b := (gs.length : Nat)) rfl rfl (by omega)).as (v' := i64 (((ls.length + gs.length) : Nat))) (by rfl)) ?_
  refine q_makeSlice (E := ELb) (m := 0) (c := (ls.length + gs.length)) (z0 := lb0) H17 sli92 zer38 rfl byt38 rfl rfl (by first | rfl | omega | (simp; omega)) (by first | rfl | omega | (simp; omega)) (by omega) (by omega) ?_
  intro b18 w20 hS19 H21 hE22
  refine sq (r_move (v := .slice lsa ls.length lsc) rfl) ?_
  refine q_append (E := ELb) (k := 0) (l := List.replicate 0 lb0) (l2 := ls) H21 rfl hS19 sli92 zer38 rfl byt38 (hLs.ext H21.chg) rfl (by simp) rfl (by rfl) (by omega) ?_
  intro key23 c24 sp25 w27 hS26 hne29 H28
  have H28' := H28.as (L' := [(key23, sob ELb 38 ((List.replicate 0 lb0) ++ ls) sp25), (some b13, .cells (cel E8 (AesSpec.cipher AesSpec.fixKey)).toArray 215 (0, 0)), (some b1, .cells #[i64 ((ls.length : Nat)), .slice ga gs.length gc, .slice oa ol.length oc] 70 (0, 0))]) rfl
  clear H28
  have e30 : (List.replicate 0 lb0) ++ ls = ls := by rfl
  have hS31 := hS26
  rw [e30] at hS31
  have H32 := H28'.as (L' := [(key23, sob ELb 38 ls sp25), (some b13, .cells (cel E8 (AesSpec.cipher AesSpec.fixKey)).toArray 215 (0, 0)), (some b1, .cells #[i64 ((ls.length : Nat)), .slice ga gs.length gc, .slice oa ol.length oc] 70 (0, 0))]) (by rw [e30])
  refine sq (r_assign (v := .slice (ownA key23) (0 + ls.length) c24) rfl) ?_
  refine wend ?_
  refine seqRegion ?_
  refine sq (r_assign (v := i64 ((0 : Int))) rfl) ?_
  refine wend ?_
  refine seqAny ?_
  refine seqRegion ?_
  refine sq (r_fieldAddr (off' := 1) fld70_1 (by decide) (b := b1) (off := 0) rfl (by omega)) ?_
  refine sq (r_loadC (v := .slice ga gs.length gc) one68 (H32.get (k := 2) rfl) (off := 1) rfl (by rfl)) ?_
  refine sq (r_lenS sli68 (a := ga) (m := gs.length) (c := gc) rfl) ?_
  refine sq (r_move (v := i64 ((0 : Int))) rfl) ?_
  refine wend ?_
  refine blockAny ?_
  refine loopAny (σ := Nat × Option Nat × Nat × List Value × Nat) (fun (i, k1, c1, z1, m) => [(2, .slice tsa tb.length tsc), (3, u64 (first)), (4, .pointer (some ⟨b1, 0, none⟩)), (11, .pointer (some ⟨b13, 0, none⟩)), (12, .slice (ownA k1) (ls.length + i) c1), (13, i64 ((m : Nat))), (49, .slice ga gs.length gc), (50, i64 ((gs.length : Nat))), (51, i64 ((i : Nat)))]) (fun (i, k1, c1, z1, m) w' => (i ≤ gs.length ∧ Sl ELb k1 (eS lhash first gs tb ls i).1 c1 z1 ∧ m = (eS lhash first gs tb ls i).2) ∧ Hp No w w' [(k1, sob ELb 38 ((eS lhash first gs tb ls i).1) z1), (some b1, .cells #[i64 ((ls.length : Nat)), .slice ga gs.length gc, .slice oa ol.length oc] 70 (0, 0)), (some b13, .cells (cel E8 (AesSpec.cipher AesSpec.fixKey)).toArray 215 (0, 0))]) (fun (i, k1, c1, z1, m) => gs.length - i) ((0, key23, c24, sp25, 0)) ?_ ?_ ?_
  · exact ⟨rfl, rfl, rfl, rfl, congrArg (fun q => Value.slice _ q _) (by omega), rfl, rfl, rfl, rfl, trivial⟩
  · exact ⟨⟨Nat.zero_le _, hS31, rfl⟩, (H32.pick 3 [0, 2, 1] (by decide) (by decide))⟩
  rintro ⟨i, k1, c1, z1, m⟩ ρ w33 ⟨⟨hi, h1, rfl⟩, HL⟩
  have hwl := eS_len (h := lhash) (first := first) (gs := gs) (tb := tb) (ls := ls) i
  have hnx := eS_next (h := lhash) (first := first) (gs := gs) (tb := tb) (ls := ls) i
  refine seqRegion ?_
  refine sq (r_lssI (a := (i : Nat)) (b := (gs.length : Nat)) rfl rfl) ?_
  refine wend ?_
  refine seqAny ?_
  refine condProp (((i : Nat) : Int) < (gs.length : Nat)) rfl (fun c52 => ?_) (fun c52 => ?_)
  · skip
    have hgi := hg.gok i (by omega)
    unfold gokP at hgi
    refine skipAny ?_
    refine thenNormal ?_
    refine seqAny ?_
    refine blockAny ?_
    refine seqRegion ?_
    refine sq (r_idxS (E := EG) (l := gs) (j := i) sli68 (hGs.ext HL.chg) rfl rfl (by first | rfl | omega | (simp; omega)) (by rfl) (by omega)) ?_
    refine sq ((r_ldS (E := EG) (l := gs) (j := i) (v := (gs).getD i g0) fits99 (hGs.ext HL.chg) rfl rfl (at_getD (by omega))).as (v' := .agg #[i64 (((gs).getD i g0).k), i64 (((gs).getD i g0).a), i64 (((gs).getD i g0).b)]) rfl) ?_
    refine q_alloc (o := .cells #[i64 ((0 : Int)), i64 ((0 : Int)), i64 ((0 : Int))] 99 (0, 0)) HL zer99 (by kernel_rfl) ?_
    intro b35 w36 hb35 H37 hE38
    refine d_store (k := 0) (v := .agg #[i64 (((gs).getD i g0).k), i64 (((gs).getD i g0).a), i64 (((gs).getD i g0).b)]) (cs' := #[i64 (((gs).getD i g0).k), i64 (((gs).getD i g0).a), i64 (((gs).getD i g0).b)]) H37 rfl rfl rfl siz99 (by rfl) (by intro u hu; simp [Value.cells] at hu; first | (subst hu; rfl) | (rcases hu with rfl | rfl | rfl <;> rfl)) (by exact Nat.le_of_ble_eq_true rfl) (by rfl) ?_
    intro w39 H40 hC41
    have H40' := H40.as (L' := [(some b35, .cells #[i64 (((gs).getD i g0).k), i64 (((gs).getD i g0).a), i64 (((gs).getD i g0).b)] 99 (0, 0)), (k1, sob ELb 38 ((eS lhash first gs tb ls i).1) z1), (some b1, .cells #[i64 ((ls.length : Nat)), .slice ga gs.length gc, .slice oa ol.length oc] 70 (0, 0)), (some b13, .cells (cel E8 (AesSpec.cipher AesSpec.fixKey)).toArray 215 (0, 0))]) rfl
    clear H40
    refine wend ?_
    refine seqRegion ?_
    refine sq (r_move (v := .slice (ownA k1) (ls.length + i) c1) rfl) ?_
    refine sq (r_fieldAddr (off' := 1) fld99_1 (by decide) (b := b35) (off := 0) rfl (by omega)) ?_
    refine sq (r_loadC (v := i64 (((gs).getD i g0).a)) one3 (H40'.get (k := 0) rfl) (off := 1) rfl (by rfl)) ?_
    refine sq (r_idxS (E := ELb) (l := (eS lhash first gs tb ls i).1) (j := (gs.getD i g0).a.toNat) sli92 (H40'.rd (k := 1) rfl h1) rfl rfl (by omega) (by rw [eS_len]) (by omega)) ?_
    refine sq ((r_ldS (E := ELb) (l := (eS lhash first gs tb ls i).1) (j := (gs.getD i g0).a.toNat) (v := ((eS lhash first gs tb ls i).1).getD ((gs.getD i g0).a.toNat) lb0) fits38 (H40'.rd (k := 1) rfl h1) rfl rfl (at_getD (by omega))).as (v' := .agg (cel E64 [(((eS lhash first gs tb ls i).1).getD ((gs.getD i g0).a.toNat) lb0).1, (((eS lhash first gs tb ls i).1).getD ((gs.getD i g0).a.toNat) lb0).2]).toArray) rfl) ?_
    refine q_alloc (o := .cells (cel E64 ([0#64, 0#64])).toArray 38 (0, 0)) H40' zer38 (by kernel_rfl) ?_
    intro b42 w43 hb42 H44 hE45
    refine d_store (k := 0) (v := .agg (cel E64 [(((eS lhash first gs tb ls i).1).getD ((gs.getD i g0).a.toNat) lb0).1, (((eS lhash first gs tb ls i).1).getD ((gs.getD i g0).a.toNat) lb0).2]).toArray) (cs' := (cel E64 ([(((eS lhash first gs tb ls i).1).getD ((gs.getD i g0).a.toNat) lb0).1, (((eS lhash first gs tb ls i).1).getD ((gs.getD i g0).a.toNat) lb0).2])).toArray) H44 rfl rfl rfl siz38 (by exact celSize (by first | rfl | (show _ * 1 = _; omega))) (by exact celOne _) (by rw [List.size_toArray, cel_length]; show _ ≤ _ * 1; first | omega | (simp only [List.length_set]; omega) | exact Nat.le_of_ble_eq_true rfl | (simp <;> omega)) (by exact putAll (by first | rfl | omega | (simp <;> omega))) ?_
    intro w46 H47 hC48
    have H47' := H47.as (L' := [(some b42, .cells (cel E64 ([(((eS lhash first gs tb ls i).1).getD ((gs.getD i g0).a.toNat) lb0).1, (((eS lhash first gs tb ls i).1).getD ((gs.getD i g0).a.toNat) lb0).2])).toArray 38 (0, 0)), (some b35, .cells #[i64 (((gs).getD i g0).k), i64 (((gs).getD i g0).a), i64 (((gs).getD i g0).b)] 99 (0, 0)), (k1, sob ELb 38 ((eS lhash first gs tb ls i).1) z1), (some b1, .cells #[i64 ((ls.length : Nat)), .slice ga gs.length gc, .slice oa ol.length oc] 70 (0, 0)), (some b13, .cells (cel E8 (AesSpec.cipher AesSpec.fixKey)).toArray 215 (0, 0))]) rfl
    clear H47
    obtain ⟨la, hla⟩ : ∃ x : Lb, x = (((eS lhash first gs tb ls i).1).getD (gs.getD i g0).a.toNat lb0) := ⟨_, rfl⟩
    rw [← hla] at H47' ⊢
    refine wend ?_
    refine seqAny ?_
    refine seqRegion ?_
    refine sq (r_fieldAddr (off' := 0) fld99_0 (by decide) (b := b35) (off := 0) rfl (by omega)) ?_
    refine sq (r_loadC (v := i64 (((gs).getD i g0).k)) one97 (H47'.get (k := 1) rfl) (off := 0) rfl (by rfl)) ?_
    refine wend ?_
    refine blockAny ?_
    refine seqRegion ?_
    refine sq (r_eqlI (a := ((gs).getD i g0).k) (b := (1 : Int)) rfl rfl) ?_
    refine sq (r_assign (v := .bool (decide ((((gs).getD i g0).k : Int) = (1 : Int)))) rfl) ?_
    refine wend ?_
    refine condProp ((((gs).getD i g0).k : Int) = (1 : Int)) rfl (fun hk1 => ?_) (fun hk1 => ?_)
    · skip
      have hk := hk1
      refine drawE (m := 8) [0, 0, 0, 4, 14, 30, 63, 127] [7] (fun bs vs w' => match bs, vs with | [false], [_] => Hp No w w' [(some b42, .cells (cel E64 ([(la).1, (la).2])).toArray 38 (0, 0)), (some b35, .cells #[i64 (((gs).getD i g0).k), i64 (((gs).getD i g0).a), i64 (((gs).getD i g0).b)] 99 (0, 0)), (k1, sob ELb 38 ((eS lhash first gs tb ls i).1) z1), (some b1, .cells #[i64 ((ls.length : Nat)), .slice ga gs.length gc, .slice oa ol.length oc] 70 (0, 0)), (some b13, .cells (cel E8 (AesSpec.cipher AesSpec.fixKey)).toArray 215 (0, 0))] | [true], [_] => Hp No w w' [(some b42, .cells (cel E64 ([(lx la (((eS lhash first gs tb ls i).1).getD ((gs.getD i g0).b.toNat) lb0)).1, (lx la (((eS lhash first gs tb ls i).1).getD ((gs.getD i g0).b.toNat) lb0)).2])).toArray 38 (0, 0)), (some b35, .cells #[i64 (((gs).getD i g0).k), i64 (((gs).getD i g0).a), i64 (((gs).getD i g0).b)] 99 (0, 0)), (k1, sob ELb 38 ((eS lhash first gs tb ls i).1) z1), (some b1, .cells #[i64 ((ls.length : Nat)), .slice ga gs.length gc, .slice oa ol.length oc] 70 (0, 0)), (some b13, .cells (cel E8 (AesSpec.cipher AesSpec.fixKey)).toArray 215 (0, 0))] | _, _ => False) mixed (by kernel_rfl) (by kernel_rfl) H47'.drew ?_
      refine WalkE.look rfl (fun _ => .agg (cel E64 ([(la).1, (la).2])).toArray) (fun _ _ _ => rfl) (fun L r uw0 uw hAn hDn hF hEx => ?_) ?_
      · skip
        have b7 : L 7 = false := hDn 7 (by decide) rfl
        have hb : List.map L [7] = [false] := by simp only [List.map_cons, List.map_nil, b7]
        rw [hb] at hF
        have HH := hF
        replace HH := HH.ext hEx
        exact Gives.run rfl (r_loadA (cs' := (cel E64 ([(la).1, (la).2])).toArray) agg38 siz38 (HH.get (k := 0) rfl) (off := 0) rfl (by exact Nat.le_of_ble_eq_true rfl) (by exact ext_all rfl)) ⟨rfl, rfl⟩
      refine WalkE.look rfl (fun _ => .slice (ownA k1) (ls.length + i) c1) (fun _ _ _ => rfl) (fun L r _ uw _ _ _ _ => Gives.run rfl (r_move (v := .slice (ownA k1) (ls.length + i) c1) rfl) ⟨rfl, rfl⟩) ?_
      refine WalkE.look rfl (fun _ => .pointer (some ⟨b35, 2, none⟩)) (fun _ _ _ => rfl) (fun L r _ uw _ _ _ _ => Gives.run rfl (r_fieldAddr (off' := 2) fld99_2 (by decide) (b := b35) (off := 0) rfl (by omega)) ⟨rfl, rfl⟩) ?_
      refine WalkE.look rfl (fun _ => i64 (((gs).getD i g0).b)) (fun _ _ _ => rfl) (fun L r uw0 uw hAn hDn hF hEx => ?_) ?_
      · skip
        have b7 : L 7 = false := hDn 7 (by decide) rfl
        have hb : List.map L [7] = [false] := by simp only [List.map_cons, List.map_nil, b7]
        rw [hb] at hF
        have HH := hF
        replace HH := HH.ext hEx
        exact Gives.run rfl (r_loadC (v := i64 (((gs).getD i g0).b)) one3 (HH.get (k := 1) rfl) (off := 2) rfl (by rfl)) ⟨rfl, rfl⟩
      refine WalkE.look rfl (fun _ => .pointer (adr (ownA k1) (((gs.getD i g0).b.toNat) * 2))) (fun _ _ _ => rfl) (fun L r uw0 uw hAn hDn hF hEx => ?_) ?_
      · skip
        have b7 : L 7 = false := hDn 7 (by decide) rfl
        have hb : List.map L [7] = [false] := by simp only [List.map_cons, List.map_nil, b7]
        rw [hb] at hF
        have HH := hF
        replace HH := HH.ext hEx
        exact Gives.run rfl (r_idxS (E := ELb) (l := (eS lhash first gs tb ls i).1) (j := (gs.getD i g0).b.toNat) sli92 (HH.rd (k := 2) rfl h1) rfl rfl (by omega) (by rw [eS_len]) (by omega)) ⟨rfl, rfl⟩
      refine WalkE.look rfl (fun _ => .agg (cel E64 [(((eS lhash first gs tb ls i).1).getD ((gs.getD i g0).b.toNat) lb0).1, (((eS lhash first gs tb ls i).1).getD ((gs.getD i g0).b.toNat) lb0).2]).toArray) (fun _ _ _ => rfl) (fun L r uw0 uw hAn hDn hF hEx => ?_) ?_
      · skip
        have b7 : L 7 = false := hDn 7 (by decide) rfl
        have hb : List.map L [7] = [false] := by simp only [List.map_cons, List.map_nil, b7]
        rw [hb] at hF
        have HH := hF
        replace HH := HH.ext hEx
        exact Gives.run rfl ((r_ldS (E := ELb) (l := (eS lhash first gs tb ls i).1) (j := (gs.getD i g0).b.toNat) (v := ((eS lhash first gs tb ls i).1).getD ((gs.getD i g0).b.toNat) lb0) fits38 (HH.rd (k := 2) rfl h1) rfl rfl (at_getD (by omega))).as (v' := .agg (cel E64 [(((eS lhash first gs tb ls i).1).getD ((gs.getD i g0).b.toNat) lb0).1, (((eS lhash first gs tb ls i).1).getD ((gs.getD i g0).b.toNat) lb0).2]).toArray) rfl) ⟨rfl, rfl⟩
      refine WalkE.call rfl (fun _ => .agg (cel E64 [(lx la (((eS lhash first gs tb ls i).1).getD ((gs.getD i g0).b.toNat) lb0)).1, (lx la (((eS lhash first gs tb ls i).1).getD ((gs.getD i g0).b.toNat) lb0)).2]).toArray) (fun _ _ _ => rfl) (fun L r uw0 uw hAn hDn hF hEx => ?_) ?_
      · skip
        have b7 : L 7 = false := hDn 7 (by decide) rfl
        have hb : List.map L [7] = [false] := by simp only [List.map_cons, List.map_nil, b7]
        rw [hb] at hF
        have HH := hF
        replace HH := HH.ext hEx
        exact Gives.call rfl (Enters.callL (vs := [.agg (cel E64 ([(la).1, (la).2])).toArray, .agg (cel E64 [(((eS lhash first gs tb ls i).1).getD ((gs.getD i g0).b.toNat) lb0).1, (((eS lhash first gs tb ls i).1).getD ((gs.getD i g0).b.toNat) lb0).2]).toArray]) call86 rfl) (lxor_ok la (((eS lhash first gs tb ls i).1).getD ((gs.getD i g0).b.toNat) lb0) uw)
      refine WalkE.eff 0 rfl (fun L r uw0 uw hLn hAn hDn hF hEx => ?_) ?_
      · skip
        have b7 : L 7 = false := hLn
        have hb : List.map L [7] = [false] := by simp only [List.map_cons, List.map_nil, b7]
        rw [hb] at hF ⊢
        have H53 := hF
        replace H53 := H53.ext hEx
        dsimp only
        refine Gives.ofW0 rfl (fun Q' hK => ?_)
        refine d_store (k := 0) (v := .agg (cel E64 [(lx la (((eS lhash first gs tb ls i).1).getD ((gs.getD i g0).b.toNat) lb0)).1, (lx la (((eS lhash first gs tb ls i).1).getD ((gs.getD i g0).b.toNat) lb0)).2]).toArray) (cs' := (cel E64 ([(lx la (((eS lhash first gs tb ls i).1).getD ((gs.getD i g0).b.toNat) lb0)).1, (lx la (((eS lhash first gs tb ls i).1).getD ((gs.getD i g0).b.toNat) lb0)).2])).toArray) H53 rfl rfl rfl siz38 (by exact celSize (by first | rfl | (show _ * 1 = _; omega))) (by exact celOne _) (by rw [List.size_toArray, cel_length]; show _ ≤ _ * 1; first | omega | (simp only [List.length_set]; omega) | exact Nat.le_of_ble_eq_true rfl | (simp <;> omega)) (by exact putAll (by first | rfl | omega | (simp <;> omega))) ?_
        intro w54 H55 hC56
        have H55' := H55.as (L' := [(some b42, .cells (cel E64 ([(lx la (((eS lhash first gs tb ls i).1).getD ((gs.getD i g0).b.toNat) lb0)).1, (lx la (((eS lhash first gs tb ls i).1).getD ((gs.getD i g0).b.toNat) lb0)).2])).toArray 38 (0, 0)), (some b35, .cells #[i64 (((gs).getD i g0).k), i64 (((gs).getD i g0).a), i64 (((gs).getD i g0).b)] 99 (0, 0)), (k1, sob ELb 38 ((eS lhash first gs tb ls i).1) z1), (some b1, .cells #[i64 ((ls.length : Nat)), .slice ga gs.length gc, .slice oa ol.length oc] 70 (0, 0)), (some b13, .cells (cel E8 (AesSpec.cipher AesSpec.fixKey)).toArray 215 (0, 0))]) rfl
        clear H55
        exact hK _ (fun _ => (show Hp No w w54 [(some b42, .cells (cel E64 ([(lx la (((eS lhash first gs tb ls i).1).getD ((gs.getD i g0).b.toNat) lb0)).1, (lx la (((eS lhash first gs tb ls i).1).getD ((gs.getD i g0).b.toNat) lb0)).2])).toArray 38 (0, 0)), (some b35, .cells #[i64 (((gs).getD i g0).k), i64 (((gs).getD i g0).a), i64 (((gs).getD i g0).b)] 99 (0, 0)), (k1, sob ELb 38 ((eS lhash first gs tb ls i).1) z1), (some b1, .cells #[i64 ((ls.length : Nat)), .slice ga gs.length gc, .slice oa ol.length oc] 70 (0, 0)), (some b13, .cells (cel E8 (AesSpec.cipher AesSpec.fixKey)).toArray 215 (0, 0))] from (((((H55'.pull (k := 4) rfl).pull (k := 4) rfl).pull (k := 4) rfl).pull (k := 4) rfl).pull (k := 4) rfl)))
      refine WalkE.nil ?_
      intro r57 uw0 w58 hF hEx
      have H59 := hF
      replace H59 := H59.ext hEx
      dsimp only
      refine wnil ?_
      refine blockNormal ?_
      refine thenNormal ?_
      refine oneRegion ?_
      refine sq (r_move (v := .slice (ownA k1) (ls.length + i) c1) rfl) ?_
      refine sq (r_loadA (cs' := (cel E64 ([(lx la (((eS lhash first gs tb ls i).1).getD ((gs.getD i g0).b.toNat) lb0)).1, (lx la (((eS lhash first gs tb ls i).1).getD ((gs.getD i g0).b.toNat) lb0)).2])).toArray) agg38 siz38 (H59.get (k := 0) rfl) (off := 0) rfl (by exact Nat.le_of_ble_eq_true rfl) (by exact ext_all rfl)) ?_
      refine q_buildSlice (E := ELb) (l := ([lx la (((eS lhash first gs tb ls i).1).getD ((gs.getD i g0).b.toNat) lb0)] : List (BitVec 64 × BitVec 64))) H59 sli92 zer38 (Nat.le_of_ble_eq_true rfl) (ps := [(0, .agg (cel E64 ([(lx la (((eS lhash first gs tb ls i).1).getD ((gs.getD i g0).b.toNat) lb0)).1, (lx la (((eS lhash first gs tb ls i).1).getD ((gs.getD i g0).b.toNat) lb0)).2])).toArray)]) rfl (by exact fillAll rfl rfl) rfl ?_
      intro b60 w62 hS61 H63 hE64
      refine q_append (E := ELb) (k := 3) (l := (eS lhash first gs tb ls i).1) (l2 := ([lx la (((eS lhash first gs tb ls i).1).getD ((gs.getD i g0).b.toNat) lb0)] : List (BitVec 64 × BitVec 64))) H63 rfl h1 sli92 zer38 rfl byt38 (H63.rd (k := 0) rfl hS61) rfl (by rw [eS_len]) rfl (by rfl) (by omega) ?_
      intro key65 c66 sp67 w69 hS68 hne71 H70
      have H70' := H70.as (L' := [((some b60), sob ELb 38 ([lx la (((eS lhash first gs tb ls i).1).getD ((gs.getD i g0).b.toNat) lb0)] : List (BitVec 64 × BitVec 64)) ([])), (some b42, .cells (cel E64 ([(lx la (((eS lhash first gs tb ls i).1).getD ((gs.getD i g0).b.toNat) lb0)).1, (lx la (((eS lhash first gs tb ls i).1).getD ((gs.getD i g0).b.toNat) lb0)).2])).toArray 38 (0, 0)), (some b35, .cells #[i64 (((gs).getD i g0).k), i64 (((gs).getD i g0).a), i64 (((gs).getD i g0).b)] 99 (0, 0)), (key65, sob ELb 38 (((eS lhash first gs tb ls i).1) ++ ([lx la (((eS lhash first gs tb ls i).1).getD ((gs.getD i g0).b.toNat) lb0)] : List (BitVec 64 × BitVec 64))) sp67), (some b1, .cells #[i64 ((ls.length : Nat)), .slice ga gs.length gc, .slice oa ol.length oc] 70 (0, 0)), (some b13, .cells (cel E8 (AesSpec.cipher AesSpec.fixKey)).toArray 215 (0, 0))]) rfl
      clear H70
      have e72 : ((eS lhash first gs tb ls i).1) ++ ([lx la (((eS lhash first gs tb ls i).1).getD ((gs.getD i g0).b.toNat) lb0)] : List (BitVec 64 × BitVec 64)) = (eS lhash first gs tb ls (i + 1)).1 := by rw [eS, estep, if_pos hk, hla]
      have hS73 := hS68
      rw [e72] at hS73
      have H74 := H70'.as (L' := [((some b60), sob ELb 38 ([lx la (((eS lhash first gs tb ls i).1).getD ((gs.getD i g0).b.toNat) lb0)] : List (BitVec 64 × BitVec 64)) ([])), (some b42, .cells (cel E64 ([(lx la (((eS lhash first gs tb ls i).1).getD ((gs.getD i g0).b.toNat) lb0)).1, (lx la (((eS lhash first gs tb ls i).1).getD ((gs.getD i g0).b.toNat) lb0)).2])).toArray 38 (0, 0)), (some b35, .cells #[i64 (((gs).getD i g0).k), i64 (((gs).getD i g0).a), i64 (((gs).getD i g0).b)] 99 (0, 0)), (key65, sob ELb 38 ((eS lhash first gs tb ls (i + 1)).1) sp67), (some b1, .cells #[i64 ((ls.length : Nat)), .slice ga gs.length gc, .slice oa ol.length oc] 70 (0, 0)), (some b13, .cells (cel E8 (AesSpec.cipher AesSpec.fixKey)).toArray 215 (0, 0))]) (by rw [e72])
      refine sq (r_assign (v := .slice (ownA key65) ((ls.length + i) + 1) c66) rfl) ?_
      refine wnil ?_
      refine blockNormal ?_
      refine thenNormal ?_
      refine oneRegion ?_
      refine sq (r_addI (a := (i : Nat)) (b := (1 : Int)) rfl rfl (by omega)) ?_
      refine sq (r_move (v := i64 ((i : Nat) + (1 : Int))) rfl) ?_
      refine wnil ?_
      refine thenNormal ?_
      exact ⟨(i + 1, key65, c66, sp67, (eS lhash first gs tb ls i).2), _, rfl, ⟨rfl, rfl, rfl, rfl, rfl, rfl, rfl, rfl, rfl, trivial⟩, ⟨⟨by omega, hS73, by rw [eS, estep, if_pos hk]⟩, (((H74.dropk 2).dropk 1).dropk 0)⟩, by show gs.length - (i + 1) < gs.length - i; omega⟩
    · skip
      have hn1 := hk1
      refine seqRegion ?_
      refine sq (r_eqlI (a := ((gs).getD i g0).k) (b := (2 : Int)) rfl rfl) ?_
      refine sq (r_assign (v := .bool (decide ((((gs).getD i g0).k : Int) = (2 : Int)))) rfl) ?_
      refine wend ?_
      refine condProp ((((gs).getD i g0).k : Int) = (2 : Int)) rfl (fun hk2 => ?_) (fun hk2 => ?_)
      · skip
        have hk := hk2
        have han := andsS_step gs i (by omega) hk
        refine seqRegion ?_
        refine sq (r_move (v := .slice (ownA k1) (ls.length + i) c1) rfl) ?_
        refine sq (r_fieldAddr (off' := 2) fld99_2 (by decide) (b := b35) (off := 0) rfl (by omega)) ?_
        refine sq (r_loadC (v := i64 (((gs).getD i g0).b)) one3 (H47'.get (k := 1) rfl) (off := 2) rfl (by rfl)) ?_
        refine sq (r_idxS (E := ELb) (l := (eS lhash first gs tb ls i).1) (j := (gs.getD i g0).b.toNat) sli92 (H47'.rd (k := 2) rfl h1) rfl rfl (by omega) (by rw [eS_len]) (by omega)) ?_
        refine sq ((r_ldS (E := ELb) (l := (eS lhash first gs tb ls i).1) (j := (gs.getD i g0).b.toNat) (v := ((eS lhash first gs tb ls i).1).getD ((gs.getD i g0).b.toNat) lb0) fits38 (H47'.rd (k := 2) rfl h1) rfl rfl (at_getD (by omega))).as (v' := .agg (cel E64 [(((eS lhash first gs tb ls i).1).getD ((gs.getD i g0).b.toNat) lb0).1, (((eS lhash first gs tb ls i).1).getD ((gs.getD i g0).b.toNat) lb0).2]).toArray) rfl) ?_
        refine q_alloc (o := .cells (cel E64 ([0#64, 0#64])).toArray 38 (0, 0)) H47' zer38 (by kernel_rfl) ?_
        intro b75 w76 hb75 H77 hE78
        refine d_store (k := 0) (v := .agg (cel E64 [(((eS lhash first gs tb ls i).1).getD ((gs.getD i g0).b.toNat) lb0).1, (((eS lhash first gs tb ls i).1).getD ((gs.getD i g0).b.toNat) lb0).2]).toArray) (cs' := (cel E64 ([(((eS lhash first gs tb ls i).1).getD ((gs.getD i g0).b.toNat) lb0).1, (((eS lhash first gs tb ls i).1).getD ((gs.getD i g0).b.toNat) lb0).2])).toArray) H77 rfl rfl rfl siz38 (by exact celSize (by first | rfl | (show _ * 1 = _; omega))) (by exact celOne _) (by rw [List.size_toArray, cel_length]; show _ ≤ _ * 1; first | omega | (simp only [List.length_set]; omega) | exact Nat.le_of_ble_eq_true rfl | (simp <;> omega)) (by exact putAll (by first | rfl | omega | (simp <;> omega))) ?_
        intro w79 H80 hC81
        have H80' := H80.as (L' := [(some b75, .cells (cel E64 ([(((eS lhash first gs tb ls i).1).getD ((gs.getD i g0).b.toNat) lb0).1, (((eS lhash first gs tb ls i).1).getD ((gs.getD i g0).b.toNat) lb0).2])).toArray 38 (0, 0)), (some b42, .cells (cel E64 ([(la).1, (la).2])).toArray 38 (0, 0)), (some b35, .cells #[i64 (((gs).getD i g0).k), i64 (((gs).getD i g0).a), i64 (((gs).getD i g0).b)] 99 (0, 0)), (k1, sob ELb 38 ((eS lhash first gs tb ls i).1) z1), (some b1, .cells #[i64 ((ls.length : Nat)), .slice ga gs.length gc, .slice oa ol.length oc] 70 (0, 0)), (some b13, .cells (cel E8 (AesSpec.cipher AesSpec.fixKey)).toArray 215 (0, 0))]) rfl
        clear H80
        obtain ⟨lb, hlb⟩ : ∃ x : Lb, x = (((eS lhash first gs tb ls i).1).getD (gs.getD i g0).b.toNat lb0) := ⟨_, rfl⟩
        rw [← hlb] at H80' ⊢
        refine wend ?_
        refine seqRegion ?_
        refine sq (r_move (v := u64 (first)) rfl) ?_
        refine sq (r_move (v := i64 (((eS lhash first gs tb ls i).2 : Nat))) rfl) ?_
        refine sq (r_Ito64 und3 und32 (a := ((eS lhash first gs tb ls i).2 : Nat)) rfl) ?_
        refine sq (r_add64 (a := first) (b := BitVec.ofInt 64 ((eS lhash first gs tb ls i).2 : Nat)) rfl rfl) ?_
        refine sq (r_assign (v := u64 (first + (BitVec.ofInt 64 ((eS lhash first gs tb ls i).2 : Nat)))) rfl) ?_
        obtain ⟨sv, hsv⟩ : ∃ x : BitVec 64, x = first + (BitVec.ofInt 64 ((eS lhash first gs tb ls i).2 : Nat)) := ⟨_, rfl⟩
        rw [← hsv]
        refine wend ?_
        refine seqAny ?_
        refine drawE (m := 13) [0, 0, 3, 7, 0, 0, 32, 112, 240, 0, 0, 1551, 4095] [9, 10, 11, 12] (fun bs vs w' => match bs, vs with | [false, false, false, false], [_, _, _, _] => Hp No w w' [(some b75, .cells (cel E64 ([(lb).1, (lb).2])).toArray 38 (0, 0)), (some b42, .cells (cel E64 ([(la).1, (la).2])).toArray 38 (0, 0)), (some b35, .cells #[i64 (((gs).getD i g0).k), i64 (((gs).getD i g0).a), i64 (((gs).getD i g0).b)] 99 (0, 0)), (k1, sob ELb 38 ((eS lhash first gs tb ls i).1) z1), (some b1, .cells #[i64 ((ls.length : Nat)), .slice ga gs.length gc, .slice oa ol.length oc] 70 (0, 0)), (some b13, .cells (cel E8 (AesSpec.cipher AesSpec.fixKey)).toArray 215 (0, 0))] | [true, false, false, false], [v9, _, _, _] => ∃ (b83 : Nat), v9 = .pointer (some ⟨b83, 0, none⟩) ∧ Hp No w w' [(some b83, .cells (cel E64 ([0#64, 0#64])).toArray 38 (0, 0)), (some b75, .cells (cel E64 ([(lb).1, (lb).2])).toArray 38 (0, 0)), (some b42, .cells (cel E64 ([(la).1, (la).2])).toArray 38 (0, 0)), (some b35, .cells #[i64 (((gs).getD i g0).k), i64 (((gs).getD i g0).a), i64 (((gs).getD i g0).b)] 99 (0, 0)), (k1, sob ELb 38 ((eS lhash first gs tb ls i).1) z1), (some b1, .cells #[i64 ((ls.length : Nat)), .slice ga gs.length gc, .slice oa ol.length oc] 70 (0, 0)), (some b13, .cells (cel E8 (AesSpec.cipher AesSpec.fixKey)).toArray 215 (0, 0))] | [false, true, false, false], [_, v10, _, _] => ∃ (b88 : Nat), v10 = .pointer (some ⟨b88, 0, none⟩) ∧ Hp No w w' [(some b88, .cells (cel E64 ([0#64, 0#64])).toArray 38 (0, 0)), (some b75, .cells (cel E64 ([(lb).1, (lb).2])).toArray 38 (0, 0)), (some b42, .cells (cel E64 ([(la).1, (la).2])).toArray 38 (0, 0)), (some b35, .cells #[i64 (((gs).getD i g0).k), i64 (((gs).getD i g0).a), i64 (((gs).getD i g0).b)] 99 (0, 0)), (k1, sob ELb 38 ((eS lhash first gs tb ls i).1) z1), (some b1, .cells #[i64 ((ls.length : Nat)), .slice ga gs.length gc, .slice oa ol.length oc] 70 (0, 0)), (some b13, .cells (cel E8 (AesSpec.cipher AesSpec.fixKey)).toArray 215 (0, 0))] | [true, true, false, false], [v9, v10, _, _] => ∃ (b83 : Nat) (b93 : Nat), v9 = .pointer (some ⟨b83, 0, none⟩) ∧ v10 = .pointer (some ⟨b93, 0, none⟩) ∧ Hp No w w' [(some b93, .cells (cel E64 ([0#64, 0#64])).toArray 38 (0, 0)), (some b83, .cells (cel E64 ([0#64, 0#64])).toArray 38 (0, 0)), (some b75, .cells (cel E64 ([(lb).1, (lb).2])).toArray 38 (0, 0)), (some b42, .cells (cel E64 ([(la).1, (la).2])).toArray 38 (0, 0)), (some b35, .cells #[i64 (((gs).getD i g0).k), i64 (((gs).getD i g0).a), i64 (((gs).getD i g0).b)] 99 (0, 0)), (k1, sob ELb 38 ((eS lhash first gs tb ls i).1) z1), (some b1, .cells #[i64 ((ls.length : Nat)), .slice ga gs.length gc, .slice oa ol.length oc] 70 (0, 0)), (some b13, .cells (cel E8 (AesSpec.cipher AesSpec.fixKey)).toArray 215 (0, 0))] | [true, true, true, false], [v9, v10, _, _] => ∃ (b83 : Nat) (b93 : Nat), v9 = .pointer (some ⟨b83, 0, none⟩) ∧ v10 = .pointer (some ⟨b93, 0, none⟩) ∧ Hp No w w' [(some b93, .cells (cel E64 ([0#64, 0#64])).toArray 38 (0, 0)), (some b83, .cells (cel E64 ([((tb).getD ((eS lhash first gs tb ls i).2) lb0).1, ((tb).getD ((eS lhash first gs tb ls i).2) lb0).2])).toArray 38 (0, 0)), (some b75, .cells (cel E64 ([(lb).1, (lb).2])).toArray 38 (0, 0)), (some b42, .cells (cel E64 ([(la).1, (la).2])).toArray 38 (0, 0)), (some b35, .cells #[i64 (((gs).getD i g0).k), i64 (((gs).getD i g0).a), i64 (((gs).getD i g0).b)] 99 (0, 0)), (k1, sob ELb 38 ((eS lhash first gs tb ls i).1) z1), (some b1, .cells #[i64 ((ls.length : Nat)), .slice ga gs.length gc, .slice oa ol.length oc] 70 (0, 0)), (some b13, .cells (cel E8 (AesSpec.cipher AesSpec.fixKey)).toArray 215 (0, 0))] | [true, true, true, true], [v9, v10, _, _] => ∃ (b83 : Nat) (b93 : Nat), v9 = .pointer (some ⟨b83, 0, none⟩) ∧ v10 = .pointer (some ⟨b93, 0, none⟩) ∧ Hp No w w' [(some b93, .cells (cel E64 ([((tb).getD ((eS lhash first gs tb ls i).2 + 1) lb0).1, ((tb).getD ((eS lhash first gs tb ls i).2 + 1) lb0).2])).toArray 38 (0, 0)), (some b83, .cells (cel E64 ([((tb).getD ((eS lhash first gs tb ls i).2) lb0).1, ((tb).getD ((eS lhash first gs tb ls i).2) lb0).2])).toArray 38 (0, 0)), (some b75, .cells (cel E64 ([(lb).1, (lb).2])).toArray 38 (0, 0)), (some b42, .cells (cel E64 ([(la).1, (la).2])).toArray 38 (0, 0)), (some b35, .cells #[i64 (((gs).getD i g0).k), i64 (((gs).getD i g0).a), i64 (((gs).getD i g0).b)] 99 (0, 0)), (k1, sob ELb 38 ((eS lhash first gs tb ls i).1) z1), (some b1, .cells #[i64 ((ls.length : Nat)), .slice ga gs.length gc, .slice oa ol.length oc] 70 (0, 0)), (some b13, .cells (cel E8 (AesSpec.cipher AesSpec.fixKey)).toArray 215 (0, 0))] | _, _ => False) mixed (by kernel_rfl) (by kernel_rfl) H80'.drew ?_
        refine WalkE.look rfl (fun _ => .slice tsa tb.length tsc) (fun _ _ _ => rfl) (fun L r _ uw _ _ _ _ => Gives.run rfl (r_move (v := .slice tsa tb.length tsc) rfl) ⟨rfl, rfl⟩) ?_
        refine WalkE.look rfl (fun _ => i64 (((eS lhash first gs tb ls i).2 : Nat))) (fun _ _ _ => rfl) (fun L r _ uw _ _ _ _ => Gives.run rfl (r_move (v := i64 (((eS lhash first gs tb ls i).2 : Nat))) rfl) ⟨rfl, rfl⟩) ?_
        refine WalkE.look rfl (fun _ => .pointer (adr tsa (((eS lhash first gs tb ls i).2) * 2))) (fun _ _ _ => rfl) (fun L r uw0 uw hAn hDn hF hEx => ?_) ?_
        · skip
          have b11 : L 11 = false := hDn 11 (by decide) rfl
          have b12 : L 12 = false := hDn 12 (by decide) rfl
          rcases Bool.eq_false_or_eq_true (L 9) with b9 | b9
          · skip
            rcases Bool.eq_false_or_eq_true (L 10) with b10 | b10
            · skip
              have hb : List.map L [9, 10, 11, 12] = [true, true, false, false] := by simp only [List.map_cons, List.map_nil, b9, b10, b11, b12]
              rw [hb] at hF
              obtain ⟨b83, b93, e9, e10, HH⟩ := hF
              replace HH := HH.ext hEx
              exact Gives.run rfl (r_idxS (E := ELb) (l := tb) (j := (eS lhash first gs tb ls i).2) sli92 (hTb.ext HH.chg) rfl rfl (by first | rfl | omega | (simp; omega)) (by rfl) (by omega)) ⟨rfl, rfl⟩
            · skip
              have hb : List.map L [9, 10, 11, 12] = [true, false, false, false] := by simp only [List.map_cons, List.map_nil, b9, b10, b11, b12]
              rw [hb] at hF
              obtain ⟨b83, e9, HH⟩ := hF
              replace HH := HH.ext hEx
              exact Gives.run rfl (r_idxS (E := ELb) (l := tb) (j := (eS lhash first gs tb ls i).2) sli92 (hTb.ext HH.chg) rfl rfl (by first | rfl | omega | (simp; omega)) (by rfl) (by omega)) ⟨rfl, rfl⟩
          · skip
            rcases Bool.eq_false_or_eq_true (L 10) with b10 | b10
            · skip
              have hb : List.map L [9, 10, 11, 12] = [false, true, false, false] := by simp only [List.map_cons, List.map_nil, b9, b10, b11, b12]
              rw [hb] at hF
              obtain ⟨b88, e10, HH⟩ := hF
              replace HH := HH.ext hEx
              exact Gives.run rfl (r_idxS (E := ELb) (l := tb) (j := (eS lhash first gs tb ls i).2) sli92 (hTb.ext HH.chg) rfl rfl (by first | rfl | omega | (simp; omega)) (by rfl) (by omega)) ⟨rfl, rfl⟩
            · skip
              have hb : List.map L [9, 10, 11, 12] = [false, false, false, false] := by simp only [List.map_cons, List.map_nil, b9, b10, b11, b12]
              rw [hb] at hF
              have HH := hF
              replace HH := HH.ext hEx
              exact Gives.run rfl (r_idxS (E := ELb) (l := tb) (j := (eS lhash first gs tb ls i).2) sli92 (hTb.ext HH.chg) rfl rfl (by first | rfl | omega | (simp; omega)) (by rfl) (by omega)) ⟨rfl, rfl⟩
        refine WalkE.look rfl (fun _ => .agg (cel E64 [((tb).getD ((eS lhash first gs tb ls i).2) lb0).1, ((tb).getD ((eS lhash first gs tb ls i).2) lb0).2]).toArray) (fun _ _ _ => rfl) (fun L r uw0 uw hAn hDn hF hEx => ?_) ?_
        · skip
          have b11 : L 11 = false := hDn 11 (by decide) rfl
          have b12 : L 12 = false := hDn 12 (by decide) rfl
          rcases Bool.eq_false_or_eq_true (L 9) with b9 | b9
          · skip
            rcases Bool.eq_false_or_eq_true (L 10) with b10 | b10
            · skip
              have hb : List.map L [9, 10, 11, 12] = [true, true, false, false] := by simp only [List.map_cons, List.map_nil, b9, b10, b11, b12]
              rw [hb] at hF
              obtain ⟨b83, b93, e9, e10, HH⟩ := hF
              replace HH := HH.ext hEx
              exact Gives.run rfl ((r_ldS (E := ELb) (l := tb) (j := (eS lhash first gs tb ls i).2) (v := (tb).getD ((eS lhash first gs tb ls i).2) lb0) fits38 (hTb.ext HH.chg) rfl rfl (at_getD (by omega))).as (v' := .agg (cel E64 [((tb).getD ((eS lhash first gs tb ls i).2) lb0).1, ((tb).getD ((eS lhash first gs tb ls i).2) lb0).2]).toArray) rfl) ⟨rfl, rfl⟩
            · skip
              have hb : List.map L [9, 10, 11, 12] = [true, false, false, false] := by simp only [List.map_cons, List.map_nil, b9, b10, b11, b12]
              rw [hb] at hF
              obtain ⟨b83, e9, HH⟩ := hF
              replace HH := HH.ext hEx
              exact Gives.run rfl ((r_ldS (E := ELb) (l := tb) (j := (eS lhash first gs tb ls i).2) (v := (tb).getD ((eS lhash first gs tb ls i).2) lb0) fits38 (hTb.ext HH.chg) rfl rfl (at_getD (by omega))).as (v' := .agg (cel E64 [((tb).getD ((eS lhash first gs tb ls i).2) lb0).1, ((tb).getD ((eS lhash first gs tb ls i).2) lb0).2]).toArray) rfl) ⟨rfl, rfl⟩
          · skip
            rcases Bool.eq_false_or_eq_true (L 10) with b10 | b10
            · skip
              have hb : List.map L [9, 10, 11, 12] = [false, true, false, false] := by simp only [List.map_cons, List.map_nil, b9, b10, b11, b12]
              rw [hb] at hF
              obtain ⟨b88, e10, HH⟩ := hF
              replace HH := HH.ext hEx
              exact Gives.run rfl ((r_ldS (E := ELb) (l := tb) (j := (eS lhash first gs tb ls i).2) (v := (tb).getD ((eS lhash first gs tb ls i).2) lb0) fits38 (hTb.ext HH.chg) rfl rfl (at_getD (by omega))).as (v' := .agg (cel E64 [((tb).getD ((eS lhash first gs tb ls i).2) lb0).1, ((tb).getD ((eS lhash first gs tb ls i).2) lb0).2]).toArray) rfl) ⟨rfl, rfl⟩
            · skip
              have hb : List.map L [9, 10, 11, 12] = [false, false, false, false] := by simp only [List.map_cons, List.map_nil, b9, b10, b11, b12]
              rw [hb] at hF
              have HH := hF
              replace HH := HH.ext hEx
              exact Gives.run rfl ((r_ldS (E := ELb) (l := tb) (j := (eS lhash first gs tb ls i).2) (v := (tb).getD ((eS lhash first gs tb ls i).2) lb0) fits38 (hTb.ext HH.chg) rfl rfl (at_getD (by omega))).as (v' := .agg (cel E64 [((tb).getD ((eS lhash first gs tb ls i).2) lb0).1, ((tb).getD ((eS lhash first gs tb ls i).2) lb0).2]).toArray) rfl) ⟨rfl, rfl⟩
        refine WalkE.look rfl (fun _ => .slice tsa tb.length tsc) (fun _ _ _ => rfl) (fun L r _ uw _ _ _ _ => Gives.run rfl (r_move (v := .slice tsa tb.length tsc) rfl) ⟨rfl, rfl⟩) ?_
        refine WalkE.look rfl (fun _ => i64 (((eS lhash first gs tb ls i).2 : Nat))) (fun _ _ _ => rfl) (fun L r _ uw _ _ _ _ => Gives.run rfl (r_move (v := i64 (((eS lhash first gs tb ls i).2 : Nat))) rfl) ⟨rfl, rfl⟩) ?_
        refine WalkE.look rfl (fun _ => i64 ((((eS lhash first gs tb ls i).2 + 1) : Nat))) (fun _ _ _ => rfl) (fun L r _ uw _ _ _ _ => Gives.run rfl ((r_addI (a := ((eS lhash first gs tb ls i).2 : Nat)) (b := (1 : Int)) rfl rfl (by omega)).as (v' := i64 ((((eS lhash first gs tb ls i).2 + 1) : Nat))) (by rfl)) ⟨rfl, rfl⟩) ?_
        refine WalkE.look rfl (fun _ => .pointer (adr tsa (((eS lhash first gs tb ls i).2 + 1) * 2))) (fun _ _ _ => rfl) (fun L r uw0 uw hAn hDn hF hEx => ?_) ?_
        · skip
          have b12 : L 12 = false := hDn 12 (by decide) rfl
          rcases Bool.eq_false_or_eq_true (L 9) with b9 | b9
          · skip
            rcases Bool.eq_false_or_eq_true (L 10) with b10 | b10
            · skip
              rcases Bool.eq_false_or_eq_true (L 11) with b11 | b11
              · skip
                have hb : List.map L [9, 10, 11, 12] = [true, true, true, false] := by simp only [List.map_cons, List.map_nil, b9, b10, b11, b12]
                rw [hb] at hF
                obtain ⟨b83, b93, e9, e10, HH⟩ := hF
                replace HH := HH.ext hEx
                exact Gives.run rfl (r_idxS (E := ELb) (l := tb) (j := ((eS lhash first gs tb ls i).2 + 1)) sli92 (hTb.ext HH.chg) rfl rfl (by first | rfl | omega | (simp; omega)) (by rfl) (by omega)) ⟨rfl, rfl⟩
              · skip
                have hb : List.map L [9, 10, 11, 12] = [true, true, false, false] := by simp only [List.map_cons, List.map_nil, b9, b10, b11, b12]
                rw [hb] at hF
                obtain ⟨b83, b93, e9, e10, HH⟩ := hF
                replace HH := HH.ext hEx
                exact Gives.run rfl (r_idxS (E := ELb) (l := tb) (j := ((eS lhash first gs tb ls i).2 + 1)) sli92 (hTb.ext HH.chg) rfl rfl (by first | rfl | omega | (simp; omega)) (by rfl) (by omega)) ⟨rfl, rfl⟩
            · skip
              rcases Bool.eq_false_or_eq_true (L 11) with b11 | b11
              · skip
                have hb : List.map L [9, 10, 11, 12] = [true, false, true, false] := by simp only [List.map_cons, List.map_nil, b9, b10, b11, b12]
                rw [hb] at hF
                exact False.elim hF
              · skip
                have hb : List.map L [9, 10, 11, 12] = [true, false, false, false] := by simp only [List.map_cons, List.map_nil, b9, b10, b11, b12]
                rw [hb] at hF
                obtain ⟨b83, e9, HH⟩ := hF
                replace HH := HH.ext hEx
                exact Gives.run rfl (r_idxS (E := ELb) (l := tb) (j := ((eS lhash first gs tb ls i).2 + 1)) sli92 (hTb.ext HH.chg) rfl rfl (by first | rfl | omega | (simp; omega)) (by rfl) (by omega)) ⟨rfl, rfl⟩
          · skip
            rcases Bool.eq_false_or_eq_true (L 10) with b10 | b10
            · skip
              rcases Bool.eq_false_or_eq_true (L 11) with b11 | b11
              · skip
                have hb : List.map L [9, 10, 11, 12] = [false, true, true, false] := by simp only [List.map_cons, List.map_nil, b9, b10, b11, b12]
                rw [hb] at hF
                exact False.elim hF
              · skip
                have hb : List.map L [9, 10, 11, 12] = [false, true, false, false] := by simp only [List.map_cons, List.map_nil, b9, b10, b11, b12]
                rw [hb] at hF
                obtain ⟨b88, e10, HH⟩ := hF
                replace HH := HH.ext hEx
                exact Gives.run rfl (r_idxS (E := ELb) (l := tb) (j := ((eS lhash first gs tb ls i).2 + 1)) sli92 (hTb.ext HH.chg) rfl rfl (by first | rfl | omega | (simp; omega)) (by rfl) (by omega)) ⟨rfl, rfl⟩
            · skip
              rcases Bool.eq_false_or_eq_true (L 11) with b11 | b11
              · skip
                have hb : List.map L [9, 10, 11, 12] = [false, false, true, false] := by simp only [List.map_cons, List.map_nil, b9, b10, b11, b12]
                rw [hb] at hF
                exact False.elim hF
              · skip
                have hb : List.map L [9, 10, 11, 12] = [false, false, false, false] := by simp only [List.map_cons, List.map_nil, b9, b10, b11, b12]
                rw [hb] at hF
                have HH := hF
                replace HH := HH.ext hEx
                exact Gives.run rfl (r_idxS (E := ELb) (l := tb) (j := ((eS lhash first gs tb ls i).2 + 1)) sli92 (hTb.ext HH.chg) rfl rfl (by first | rfl | omega | (simp; omega)) (by rfl) (by omega)) ⟨rfl, rfl⟩
        refine WalkE.look rfl (fun _ => .agg (cel E64 [((tb).getD ((eS lhash first gs tb ls i).2 + 1) lb0).1, ((tb).getD ((eS lhash first gs tb ls i).2 + 1) lb0).2]).toArray) (fun _ _ _ => rfl) (fun L r uw0 uw hAn hDn hF hEx => ?_) ?_
        · skip
          have b12 : L 12 = false := hDn 12 (by decide) rfl
          rcases Bool.eq_false_or_eq_true (L 9) with b9 | b9
          · skip
            rcases Bool.eq_false_or_eq_true (L 10) with b10 | b10
            · skip
              rcases Bool.eq_false_or_eq_true (L 11) with b11 | b11
              · skip
                have hb : List.map L [9, 10, 11, 12] = [true, true, true, false] := by simp only [List.map_cons, List.map_nil, b9, b10, b11, b12]
                rw [hb] at hF
                obtain ⟨b83, b93, e9, e10, HH⟩ := hF
                replace HH := HH.ext hEx
                exact Gives.run rfl ((r_ldS (E := ELb) (l := tb) (j := ((eS lhash first gs tb ls i).2 + 1)) (v := (tb).getD ((eS lhash first gs tb ls i).2 + 1) lb0) fits38 (hTb.ext HH.chg) rfl rfl (at_getD (by omega))).as (v' := .agg (cel E64 [((tb).getD ((eS lhash first gs tb ls i).2 + 1) lb0).1, ((tb).getD ((eS lhash first gs tb ls i).2 + 1) lb0).2]).toArray) rfl) ⟨rfl, rfl⟩
              · skip
                have hb : List.map L [9, 10, 11, 12] = [true, true, false, false] := by simp only [List.map_cons, List.map_nil, b9, b10, b11, b12]
                rw [hb] at hF
                obtain ⟨b83, b93, e9, e10, HH⟩ := hF
                replace HH := HH.ext hEx
                exact Gives.run rfl ((r_ldS (E := ELb) (l := tb) (j := ((eS lhash first gs tb ls i).2 + 1)) (v := (tb).getD ((eS lhash first gs tb ls i).2 + 1) lb0) fits38 (hTb.ext HH.chg) rfl rfl (at_getD (by omega))).as (v' := .agg (cel E64 [((tb).getD ((eS lhash first gs tb ls i).2 + 1) lb0).1, ((tb).getD ((eS lhash first gs tb ls i).2 + 1) lb0).2]).toArray) rfl) ⟨rfl, rfl⟩
            · skip
              rcases Bool.eq_false_or_eq_true (L 11) with b11 | b11
              · skip
                have hb : List.map L [9, 10, 11, 12] = [true, false, true, false] := by simp only [List.map_cons, List.map_nil, b9, b10, b11, b12]
                rw [hb] at hF
                exact False.elim hF
              · skip
                have hb : List.map L [9, 10, 11, 12] = [true, false, false, false] := by simp only [List.map_cons, List.map_nil, b9, b10, b11, b12]
                rw [hb] at hF
                obtain ⟨b83, e9, HH⟩ := hF
                replace HH := HH.ext hEx
                exact Gives.run rfl ((r_ldS (E := ELb) (l := tb) (j := ((eS lhash first gs tb ls i).2 + 1)) (v := (tb).getD ((eS lhash first gs tb ls i).2 + 1) lb0) fits38 (hTb.ext HH.chg) rfl rfl (at_getD (by omega))).as (v' := .agg (cel E64 [((tb).getD ((eS lhash first gs tb ls i).2 + 1) lb0).1, ((tb).getD ((eS lhash first gs tb ls i).2 + 1) lb0).2]).toArray) rfl) ⟨rfl, rfl⟩
          · skip
            rcases Bool.eq_false_or_eq_true (L 10) with b10 | b10
            · skip
              rcases Bool.eq_false_or_eq_true (L 11) with b11 | b11
              · skip
                have hb : List.map L [9, 10, 11, 12] = [false, true, true, false] := by simp only [List.map_cons, List.map_nil, b9, b10, b11, b12]
                rw [hb] at hF
                exact False.elim hF
              · skip
                have hb : List.map L [9, 10, 11, 12] = [false, true, false, false] := by simp only [List.map_cons, List.map_nil, b9, b10, b11, b12]
                rw [hb] at hF
                obtain ⟨b88, e10, HH⟩ := hF
                replace HH := HH.ext hEx
                exact Gives.run rfl ((r_ldS (E := ELb) (l := tb) (j := ((eS lhash first gs tb ls i).2 + 1)) (v := (tb).getD ((eS lhash first gs tb ls i).2 + 1) lb0) fits38 (hTb.ext HH.chg) rfl rfl (at_getD (by omega))).as (v' := .agg (cel E64 [((tb).getD ((eS lhash first gs tb ls i).2 + 1) lb0).1, ((tb).getD ((eS lhash first gs tb ls i).2 + 1) lb0).2]).toArray) rfl) ⟨rfl, rfl⟩
            · skip
              rcases Bool.eq_false_or_eq_true (L 11) with b11 | b11
              · skip
                have hb : List.map L [9, 10, 11, 12] = [false, false, true, false] := by simp only [List.map_cons, List.map_nil, b9, b10, b11, b12]
                rw [hb] at hF
                exact False.elim hF
              · skip
                have hb : List.map L [9, 10, 11, 12] = [false, false, false, false] := by simp only [List.map_cons, List.map_nil, b9, b10, b11, b12]
                rw [hb] at hF
                have HH := hF
                replace HH := HH.ext hEx
                exact Gives.run rfl ((r_ldS (E := ELb) (l := tb) (j := ((eS lhash first gs tb ls i).2 + 1)) (v := (tb).getD ((eS lhash first gs tb ls i).2 + 1) lb0) fits38 (hTb.ext HH.chg) rfl rfl (at_getD (by omega))).as (v' := .agg (cel E64 [((tb).getD ((eS lhash first gs tb ls i).2 + 1) lb0).1, ((tb).getD ((eS lhash first gs tb ls i).2 + 1) lb0).2]).toArray) rfl) ⟨rfl, rfl⟩
        refine WalkE.eff 0 rfl (fun L r uw0 uw hLn hAn hDn hF hEx => ?_) ?_
        · skip
          have b9 : L 9 = false := hLn
          have b11 : L 11 = false := hDn 11 (by decide) rfl
          have b12 : L 12 = false := hDn 12 (by decide) rfl
          rcases Bool.eq_false_or_eq_true (L 10) with b10 | b10
          · skip
            have hb : List.map L [9, 10, 11, 12] = [false, true, false, false] := by simp only [List.map_cons, List.map_nil, b9, b10, b11, b12]
            rw [hb] at hF ⊢
            obtain ⟨b88, e10, H105⟩ := hF
            replace H105 := H105.ext hEx
            dsimp only
            refine Gives.ofW (d := 19) rfl rfl (fun Q' hK => ?_)
            refine q_alloc (o := .cells (cel E64 ([0#64, 0#64])).toArray 38 (0, 0)) H105 zer38 (by kernel_rfl) ?_
            intro b106 w107 hb106 H108 hE109
            exact hK _ _ (show ∃ (b83 : Nat) (b93 : Nat), (_ : Value) = .pointer (some ⟨b83, 0, none⟩) ∧ r 10 = .pointer (some ⟨b93, 0, none⟩) ∧ Hp No w w107 [(some b93, .cells (cel E64 ([0#64, 0#64])).toArray 38 (0, 0)), (some b83, .cells (cel E64 ([0#64, 0#64])).toArray 38 (0, 0)), (some b75, .cells (cel E64 ([(lb).1, (lb).2])).toArray 38 (0, 0)), (some b42, .cells (cel E64 ([(la).1, (la).2])).toArray 38 (0, 0)), (some b35, .cells #[i64 (((gs).getD i g0).k), i64 (((gs).getD i g0).a), i64 (((gs).getD i g0).b)] 99 (0, 0)), (k1, sob ELb 38 ((eS lhash first gs tb ls i).1) z1), (some b1, .cells #[i64 ((ls.length : Nat)), .slice ga gs.length gc, .slice oa ol.length oc] 70 (0, 0)), (some b13, .cells (cel E8 (AesSpec.cipher AesSpec.fixKey)).toArray 215 (0, 0))] from ⟨b106, b88, rfl, e10, ((((((((H108.pull (k := 7) rfl).pull (k := 7) rfl).pull (k := 7) rfl).pull (k := 7) rfl).pull (k := 7) rfl).pull (k := 7) rfl).pull (k := 6) rfl).pull (k := 7) rfl)⟩)
          · skip
            have hb : List.map L [9, 10, 11, 12] = [false, false, false, false] := by simp only [List.map_cons, List.map_nil, b9, b10, b11, b12]
            rw [hb] at hF ⊢
            have H110 := hF
            replace H110 := H110.ext hEx
            dsimp only
            refine Gives.ofW (d := 19) rfl rfl (fun Q' hK => ?_)
            refine q_alloc (o := .cells (cel E64 ([0#64, 0#64])).toArray 38 (0, 0)) H110 zer38 (by kernel_rfl) ?_
            intro b111 w112 hb111 H113 hE114
            exact hK _ _ (show ∃ (b83 : Nat), (_ : Value) = .pointer (some ⟨b83, 0, none⟩) ∧ Hp No w w112 [(some b83, .cells (cel E64 ([0#64, 0#64])).toArray 38 (0, 0)), (some b75, .cells (cel E64 ([(lb).1, (lb).2])).toArray 38 (0, 0)), (some b42, .cells (cel E64 ([(la).1, (la).2])).toArray 38 (0, 0)), (some b35, .cells #[i64 (((gs).getD i g0).k), i64 (((gs).getD i g0).a), i64 (((gs).getD i g0).b)] 99 (0, 0)), (k1, sob ELb 38 ((eS lhash first gs tb ls i).1) z1), (some b1, .cells #[i64 ((ls.length : Nat)), .slice ga gs.length gc, .slice oa ol.length oc] 70 (0, 0)), (some b13, .cells (cel E8 (AesSpec.cipher AesSpec.fixKey)).toArray 215 (0, 0))] from ⟨b111, rfl, (((((((H113.pull (k := 6) rfl).pull (k := 6) rfl).pull (k := 6) rfl).pull (k := 6) rfl).pull (k := 6) rfl).pull (k := 6) rfl).pull (k := 6) rfl)⟩)
        refine WalkE.eff 1 rfl (fun L r uw0 uw hLn hAn hDn hF hEx => ?_) ?_
        · skip
          have b10 : L 10 = false := hLn
          have b11 : L 11 = false := hDn 11 (by decide) rfl
          have b12 : L 12 = false := hDn 12 (by decide) rfl
          rcases Bool.eq_false_or_eq_true (L 9) with b9 | b9
          · skip
            have hb : List.map L [9, 10, 11, 12] = [true, false, false, false] := by simp only [List.map_cons, List.map_nil, b9, b10, b11, b12]
            rw [hb] at hF ⊢
            obtain ⟨b83, e9, H115⟩ := hF
            replace H115 := H115.ext hEx
            dsimp only
            rw [e9]
            refine Gives.ofW (d := 20) rfl rfl (fun Q' hK => ?_)
            refine q_alloc (o := .cells (cel E64 ([0#64, 0#64])).toArray 38 (0, 0)) H115 zer38 (by kernel_rfl) ?_
            intro b116 w117 hb116 H118 hE119
            exact hK _ _ (show ∃ (b83 : Nat) (b93 : Nat), r 9 = .pointer (some ⟨b83, 0, none⟩) ∧ (_ : Value) = .pointer (some ⟨b93, 0, none⟩) ∧ Hp No w w117 [(some b93, .cells (cel E64 ([0#64, 0#64])).toArray 38 (0, 0)), (some b83, .cells (cel E64 ([0#64, 0#64])).toArray 38 (0, 0)), (some b75, .cells (cel E64 ([(lb).1, (lb).2])).toArray 38 (0, 0)), (some b42, .cells (cel E64 ([(la).1, (la).2])).toArray 38 (0, 0)), (some b35, .cells #[i64 (((gs).getD i g0).k), i64 (((gs).getD i g0).a), i64 (((gs).getD i g0).b)] 99 (0, 0)), (k1, sob ELb 38 ((eS lhash first gs tb ls i).1) z1), (some b1, .cells #[i64 ((ls.length : Nat)), .slice ga gs.length gc, .slice oa ol.length oc] 70 (0, 0)), (some b13, .cells (cel E8 (AesSpec.cipher AesSpec.fixKey)).toArray 215 (0, 0))] from ⟨b83, b116, e9, rfl, ((((((((H118.pull (k := 7) rfl).pull (k := 7) rfl).pull (k := 7) rfl).pull (k := 7) rfl).pull (k := 7) rfl).pull (k := 7) rfl).pull (k := 7) rfl).pull (k := 7) rfl)⟩)
          · skip
            have hb : List.map L [9, 10, 11, 12] = [false, false, false, false] := by simp only [List.map_cons, List.map_nil, b9, b10, b11, b12]
            rw [hb] at hF ⊢
            have H120 := hF
            replace H120 := H120.ext hEx
            dsimp only
            refine Gives.ofW (d := 20) rfl rfl (fun Q' hK => ?_)
            refine q_alloc (o := .cells (cel E64 ([0#64, 0#64])).toArray 38 (0, 0)) H120 zer38 (by kernel_rfl) ?_
            intro b121 w122 hb121 H123 hE124
            exact hK _ _ (show ∃ (b88 : Nat), (_ : Value) = .pointer (some ⟨b88, 0, none⟩) ∧ Hp No w w122 [(some b88, .cells (cel E64 ([0#64, 0#64])).toArray 38 (0, 0)), (some b75, .cells (cel E64 ([(lb).1, (lb).2])).toArray 38 (0, 0)), (some b42, .cells (cel E64 ([(la).1, (la).2])).toArray 38 (0, 0)), (some b35, .cells #[i64 (((gs).getD i g0).k), i64 (((gs).getD i g0).a), i64 (((gs).getD i g0).b)] 99 (0, 0)), (k1, sob ELb 38 ((eS lhash first gs tb ls i).1) z1), (some b1, .cells #[i64 ((ls.length : Nat)), .slice ga gs.length gc, .slice oa ol.length oc] 70 (0, 0)), (some b13, .cells (cel E8 (AesSpec.cipher AesSpec.fixKey)).toArray 215 (0, 0))] from ⟨b121, rfl, (((((((H123.pull (k := 6) rfl).pull (k := 6) rfl).pull (k := 6) rfl).pull (k := 6) rfl).pull (k := 6) rfl).pull (k := 6) rfl).pull (k := 6) rfl)⟩)
        refine WalkE.eff 2 rfl (fun L r uw0 uw hLn hAn hDn hF hEx => ?_) ?_
        · skip
          have b9 : L 9 = true := hAn 9 (by decide) rfl
          have b10 : L 10 = true := hAn 10 (by decide) rfl
          have b11 : L 11 = false := hLn
          have b12 : L 12 = false := hDn 12 (by decide) rfl
          have hb : List.map L [9, 10, 11, 12] = [true, true, false, false] := by simp only [List.map_cons, List.map_nil, b9, b10, b11, b12]
          rw [hb] at hF ⊢
          obtain ⟨b83, b93, e9, e10, H125⟩ := hF
          replace H125 := H125.ext hEx
          dsimp only
          rw [e9, e10]
          refine Gives.ofW0 rfl (fun Q' hK => ?_)
          refine d_store (k := 1) (v := .agg (cel E64 [((tb).getD ((eS lhash first gs tb ls i).2) lb0).1, ((tb).getD ((eS lhash first gs tb ls i).2) lb0).2]).toArray) (cs' := (cel E64 ([((tb).getD ((eS lhash first gs tb ls i).2) lb0).1, ((tb).getD ((eS lhash first gs tb ls i).2) lb0).2])).toArray) H125 rfl rfl rfl siz38 (by exact celSize (by first | rfl | (show _ * 1 = _; omega))) (by exact celOne _) (by rw [List.size_toArray, cel_length]; show _ ≤ _ * 1; first | omega | (simp only [List.length_set]; omega) | exact Nat.le_of_ble_eq_true rfl | (simp <;> omega)) (by exact putAll (by first | rfl | omega | (simp <;> omega))) ?_
          intro w126 H127 hC128
          have H127' := H127.as (L' := [(some b93, .cells (cel E64 ([0#64, 0#64])).toArray 38 (0, 0)), (some b83, .cells (cel E64 ([((tb).getD ((eS lhash first gs tb ls i).2) lb0).1, ((tb).getD ((eS lhash first gs tb ls i).2) lb0).2])).toArray 38 (0, 0)), (some b75, .cells (cel E64 ([(lb).1, (lb).2])).toArray 38 (0, 0)), (some b42, .cells (cel E64 ([(la).1, (la).2])).toArray 38 (0, 0)), (some b35, .cells #[i64 (((gs).getD i g0).k), i64 (((gs).getD i g0).a), i64 (((gs).getD i g0).b)] 99 (0, 0)), (k1, sob ELb 38 ((eS lhash first gs tb ls i).1) z1), (some b1, .cells #[i64 ((ls.length : Nat)), .slice ga gs.length gc, .slice oa ol.length oc] 70 (0, 0)), (some b13, .cells (cel E8 (AesSpec.cipher AesSpec.fixKey)).toArray 215 (0, 0))]) rfl
          clear H127
          exact hK _ (fun _ => (show ∃ (b83 : Nat) (b93 : Nat), r 9 = .pointer (some ⟨b83, 0, none⟩) ∧ r 10 = .pointer (some ⟨b93, 0, none⟩) ∧ Hp No w w126 [(some b93, .cells (cel E64 ([0#64, 0#64])).toArray 38 (0, 0)), (some b83, .cells (cel E64 ([((tb).getD ((eS lhash first gs tb ls i).2) lb0).1, ((tb).getD ((eS lhash first gs tb ls i).2) lb0).2])).toArray 38 (0, 0)), (some b75, .cells (cel E64 ([(lb).1, (lb).2])).toArray 38 (0, 0)), (some b42, .cells (cel E64 ([(la).1, (la).2])).toArray 38 (0, 0)), (some b35, .cells #[i64 (((gs).getD i g0).k), i64 (((gs).getD i g0).a), i64 (((gs).getD i g0).b)] 99 (0, 0)), (k1, sob ELb 38 ((eS lhash first gs tb ls i).1) z1), (some b1, .cells #[i64 ((ls.length : Nat)), .slice ga gs.length gc, .slice oa ol.length oc] 70 (0, 0)), (some b13, .cells (cel E8 (AesSpec.cipher AesSpec.fixKey)).toArray 215 (0, 0))] from ⟨b83, b93, e9, e10, ((((((((H127'.pull (k := 7) rfl).pull (k := 7) rfl).pull (k := 7) rfl).pull (k := 7) rfl).pull (k := 7) rfl).pull (k := 7) rfl).pull (k := 7) rfl).pull (k := 7) rfl)⟩))
        refine WalkE.eff 3 rfl (fun L r uw0 uw hLn hAn hDn hF hEx => ?_) ?_
        · skip
          have b9 : L 9 = true := hAn 9 (by decide) rfl
          have b10 : L 10 = true := hAn 10 (by decide) rfl
          have b11 : L 11 = true := hAn 11 (by decide) rfl
          have b12 : L 12 = false := hLn
          have hb : List.map L [9, 10, 11, 12] = [true, true, true, false] := by simp only [List.map_cons, List.map_nil, b9, b10, b11, b12]
          rw [hb] at hF ⊢
          obtain ⟨b83, b93, e9, e10, H129⟩ := hF
          replace H129 := H129.ext hEx
          dsimp only
          rw [e9, e10]
          refine Gives.ofW0 rfl (fun Q' hK => ?_)
          refine d_store (k := 0) (v := .agg (cel E64 [((tb).getD ((eS lhash first gs tb ls i).2 + 1) lb0).1, ((tb).getD ((eS lhash first gs tb ls i).2 + 1) lb0).2]).toArray) (cs' := (cel E64 ([((tb).getD ((eS lhash first gs tb ls i).2 + 1) lb0).1, ((tb).getD ((eS lhash first gs tb ls i).2 + 1) lb0).2])).toArray) H129 rfl rfl rfl siz38 (by exact celSize (by first | rfl | (show _ * 1 = _; omega))) (by exact celOne _) (by rw [List.size_toArray, cel_length]; show _ ≤ _ * 1; first | omega | (simp only [List.length_set]; omega) | exact Nat.le_of_ble_eq_true rfl | (simp <;> omega)) (by exact putAll (by first | rfl | omega | (simp <;> omega))) ?_
          intro w130 H131 hC132
          have H131' := H131.as (L' := [(some b93, .cells (cel E64 ([((tb).getD ((eS lhash first gs tb ls i).2 + 1) lb0).1, ((tb).getD ((eS lhash first gs tb ls i).2 + 1) lb0).2])).toArray 38 (0, 0)), (some b83, .cells (cel E64 ([((tb).getD ((eS lhash first gs tb ls i).2) lb0).1, ((tb).getD ((eS lhash first gs tb ls i).2) lb0).2])).toArray 38 (0, 0)), (some b75, .cells (cel E64 ([(lb).1, (lb).2])).toArray 38 (0, 0)), (some b42, .cells (cel E64 ([(la).1, (la).2])).toArray 38 (0, 0)), (some b35, .cells #[i64 (((gs).getD i g0).k), i64 (((gs).getD i g0).a), i64 (((gs).getD i g0).b)] 99 (0, 0)), (k1, sob ELb 38 ((eS lhash first gs tb ls i).1) z1), (some b1, .cells #[i64 ((ls.length : Nat)), .slice ga gs.length gc, .slice oa ol.length oc] 70 (0, 0)), (some b13, .cells (cel E8 (AesSpec.cipher AesSpec.fixKey)).toArray 215 (0, 0))]) rfl
          clear H131
          exact hK _ (fun _ => (show ∃ (b83 : Nat) (b93 : Nat), r 9 = .pointer (some ⟨b83, 0, none⟩) ∧ r 10 = .pointer (some ⟨b93, 0, none⟩) ∧ Hp No w w130 [(some b93, .cells (cel E64 ([((tb).getD ((eS lhash first gs tb ls i).2 + 1) lb0).1, ((tb).getD ((eS lhash first gs tb ls i).2 + 1) lb0).2])).toArray 38 (0, 0)), (some b83, .cells (cel E64 ([((tb).getD ((eS lhash first gs tb ls i).2) lb0).1, ((tb).getD ((eS lhash first gs tb ls i).2) lb0).2])).toArray 38 (0, 0)), (some b75, .cells (cel E64 ([(lb).1, (lb).2])).toArray 38 (0, 0)), (some b42, .cells (cel E64 ([(la).1, (la).2])).toArray 38 (0, 0)), (some b35, .cells #[i64 (((gs).getD i g0).k), i64 (((gs).getD i g0).a), i64 (((gs).getD i g0).b)] 99 (0, 0)), (k1, sob ELb 38 ((eS lhash first gs tb ls i).1) z1), (some b1, .cells #[i64 ((ls.length : Nat)), .slice ga gs.length gc, .slice oa ol.length oc] 70 (0, 0)), (some b13, .cells (cel E8 (AesSpec.cipher AesSpec.fixKey)).toArray 215 (0, 0))] from ⟨b83, b93, e9, e10, ((((((((H131'.pull (k := 7) rfl).pull (k := 7) rfl).pull (k := 7) rfl).pull (k := 7) rfl).pull (k := 7) rfl).pull (k := 7) rfl).pull (k := 7) rfl).pull (k := 7) rfl)⟩))
        refine WalkE.nil ?_
        intro r133 uw0 w134 hF hEx
        obtain ⟨b83, b93, e9, e10, H135⟩ := hF
        replace H135 := H135.ext hEx
        dsimp only
        rw [e9, e10]
        refine wnil ?_
        refine thenNormal ?_
        refine seqRegion ?_
        refine sq (r_move (v := i64 (((eS lhash first gs tb ls i).2 : Nat))) rfl) ?_
        refine sq ((r_addI (a := ((eS lhash first gs tb ls i).2 : Nat)) (b := (2 : Int)) rfl rfl (by omega)).as (v' := i64 ((((eS lhash first gs tb ls i).2 + 2) : Nat))) (by rfl)) ?_
        refine sq (r_assign (v := i64 ((((eS lhash first gs tb ls i).2 + 2) : Nat))) rfl) ?_
        refine wend ?_
        refine drawE (m := 22) [0, 0, 0, 7, 0, 31, 0, 127, 0, 0, 0, 1024, 4095, 0, 16383, 0, 0, 131071, 262143, 524287, 1048575, 2097151] [19, 21] (fun bs vs w' => match bs, vs with | [false, false], [_, _] => Hp No w w' [(some b93, .cells (cel E64 ([((tb).getD ((eS lhash first gs tb ls i).2 + 1) lb0).1, ((tb).getD ((eS lhash first gs tb ls i).2 + 1) lb0).2])).toArray 38 (0, 0)), (some b83, .cells (cel E64 ([((tb).getD ((eS lhash first gs tb ls i).2) lb0).1, ((tb).getD ((eS lhash first gs tb ls i).2) lb0).2])).toArray 38 (0, 0)), (some b75, .cells (cel E64 ([(lb).1, (lb).2])).toArray 38 (0, 0)), (some b42, .cells (cel E64 ([(la).1, (la).2])).toArray 38 (0, 0)), (some b35, .cells #[i64 (((gs).getD i g0).k), i64 (((gs).getD i g0).a), i64 (((gs).getD i g0).b)] 99 (0, 0)), (k1, sob ELb 38 ((eS lhash first gs tb ls i).1) z1), (some b1, .cells #[i64 ((ls.length : Nat)), .slice ga gs.length gc, .slice oa ol.length oc] 70 (0, 0)), (some b13, .cells (cel E8 (AesSpec.cipher AesSpec.fixKey)).toArray 215 (0, 0))] | [true, false], [v19, _] => ∃ (b137 : Nat), v19 = .slice (ownA (some b137)) 4 4 ∧ Sl ELb (some b137) ([lhash la sv, lw (col la) ((tb).getD ((eS lhash first gs tb ls i).2) lb0), lhash lb (sv + (1#64)), lw (col lb) (lx ((tb).getD ((eS lhash first gs tb ls i).2 + 1) lb0) la)] : List (BitVec 64 × BitVec 64)) 4 ([]) ∧ Hp No w w' [((some b137), sob ELb 38 ([lhash la sv, lw (col la) ((tb).getD ((eS lhash first gs tb ls i).2) lb0), lhash lb (sv + (1#64)), lw (col lb) (lx ((tb).getD ((eS lhash first gs tb ls i).2 + 1) lb0) la)] : List (BitVec 64 × BitVec 64)) ([])), (some b93, .cells (cel E64 ([((tb).getD ((eS lhash first gs tb ls i).2 + 1) lb0).1, ((tb).getD ((eS lhash first gs tb ls i).2 + 1) lb0).2])).toArray 38 (0, 0)), (some b83, .cells (cel E64 ([((tb).getD ((eS lhash first gs tb ls i).2) lb0).1, ((tb).getD ((eS lhash first gs tb ls i).2) lb0).2])).toArray 38 (0, 0)), (some b75, .cells (cel E64 ([(lb).1, (lb).2])).toArray 38 (0, 0)), (some b42, .cells (cel E64 ([(la).1, (la).2])).toArray 38 (0, 0)), (some b35, .cells #[i64 (((gs).getD i g0).k), i64 (((gs).getD i g0).a), i64 (((gs).getD i g0).b)] 99 (0, 0)), (k1, sob ELb 38 ((eS lhash first gs tb ls i).1) z1), (some b1, .cells #[i64 ((ls.length : Nat)), .slice ga gs.length gc, .slice oa ol.length oc] 70 (0, 0)), (some b13, .cells (cel E8 (AesSpec.cipher AesSpec.fixKey)).toArray 215 (0, 0))] | [true, true], [v19, _] => ∃ (b137 : Nat), v19 = .slice (ownA (some b137)) 4 4 ∧ Sl ELb (some b137) ([lhash la sv, lw (col la) ((tb).getD ((eS lhash first gs tb ls i).2) lb0), lhash lb (sv + (1#64)), lw (col lb) (lx ((tb).getD ((eS lhash first gs tb ls i).2 + 1) lb0) la)] : List (BitVec 64 × BitVec 64)) 4 ([]) ∧ Hp No w w' [((some b137), sob ELb 38 ([lhash la sv, lw (col la) ((tb).getD ((eS lhash first gs tb ls i).2) lb0), lhash lb (sv + (1#64)), lw (col lb) (lx ((tb).getD ((eS lhash first gs tb ls i).2 + 1) lb0) la)] : List (BitVec 64 × BitVec 64)) ([])), (some b93, .cells (cel E64 ([((tb).getD ((eS lhash first gs tb ls i).2 + 1) lb0).1, ((tb).getD ((eS lhash first gs tb ls i).2 + 1) lb0).2])).toArray 38 (0, 0)), (some b83, .cells (cel E64 ([((tb).getD ((eS lhash first gs tb ls i).2) lb0).1, ((tb).getD ((eS lhash first gs tb ls i).2) lb0).2])).toArray 38 (0, 0)), (some b75, .cells (cel E64 ([(lb).1, (lb).2])).toArray 38 (0, 0)), (some b42, .cells (cel E64 ([(lsum ([lhash la sv, lw (col la) ((tb).getD ((eS lhash first gs tb ls i).2) lb0), lhash lb (sv + (1#64)), lw (col lb) (lx ((tb).getD ((eS lhash first gs tb ls i).2 + 1) lb0) la)] : List (BitVec 64 × BitVec 64))).1, (lsum ([lhash la sv, lw (col la) ((tb).getD ((eS lhash first gs tb ls i).2) lb0), lhash lb (sv + (1#64)), lw (col lb) (lx ((tb).getD ((eS lhash first gs tb ls i).2 + 1) lb0) la)] : List (BitVec 64 × BitVec 64))).2])).toArray 38 (0, 0)), (some b35, .cells #[i64 (((gs).getD i g0).k), i64 (((gs).getD i g0).a), i64 (((gs).getD i g0).b)] 99 (0, 0)), (k1, sob ELb 38 ((eS lhash first gs tb ls i).1) z1), (some b1, .cells #[i64 ((ls.length : Nat)), .slice ga gs.length gc, .slice oa ol.length oc] 70 (0, 0)), (some b13, .cells (cel E8 (AesSpec.cipher AesSpec.fixKey)).toArray 215 (0, 0))] | _, _ => False) mixed (by kernel_rfl) (by kernel_rfl) H135.drew ?_
        refine WalkE.look rfl (fun _ => .pointer (some ⟨b13, 0, none⟩)) (fun _ _ _ => rfl) (fun L r _ uw _ _ _ _ => Gives.run rfl (r_move (v := .pointer (some ⟨b13, 0, none⟩)) rfl) ⟨rfl, rfl⟩) ?_
        refine WalkE.look rfl (fun _ => .agg (cel E64 ([(la).1, (la).2])).toArray) (fun _ _ _ => rfl) (fun L r uw0 uw hAn hDn hF hEx => ?_) ?_
        · skip
          have b19 : L 19 = false := hDn 19 (by decide) rfl
          have b21 : L 21 = false := hDn 21 (by decide) rfl
          have hb : List.map L [19, 21] = [false, false] := by simp only [List.map_cons, List.map_nil, b19, b21]
          rw [hb] at hF
          have HH := hF
          replace HH := HH.ext hEx
          exact Gives.run rfl (r_loadA (cs' := (cel E64 ([(la).1, (la).2])).toArray) agg38 siz38 (HH.get (k := 3) rfl) (off := 0) rfl (by exact Nat.le_of_ble_eq_true rfl) (by exact ext_all rfl)) ⟨rfl, rfl⟩
        refine WalkE.look rfl (fun _ => u64 (sv)) (fun _ _ _ => rfl) (fun L r _ uw _ _ _ _ => Gives.run rfl (r_move (v := u64 (sv)) rfl) ⟨rfl, rfl⟩) ?_
        refine WalkE.call rfl (fun _ => .agg (cel E64 [(lhash la sv).1, (lhash la sv).2]).toArray) (fun _ _ _ => rfl) (fun L r uw0 uw hAn hDn hF hEx => ?_) ?_
        · skip
          have b19 : L 19 = false := hDn 19 (by decide) rfl
          have b21 : L 21 = false := hDn 21 (by decide) rfl
          have hb : List.map L [19, 21] = [false, false] := by simp only [List.map_cons, List.map_nil, b19, b21]
          rw [hb] at hF
          have HH := hF
          replace HH := HH.ext hEx
          exact Gives.call rfl (Enters.callL (vs := [.pointer (some ⟨b13, 0, none⟩), .agg (cel E64 ([(la).1, (la).2])).toArray, u64 (sv)]) call87 rfl) (lhash_ok b13 la sv uw (HH.get (k := 7) rfl))
        refine WalkE.look rfl (fun _ => .agg (cel E64 ([(la).1, (la).2])).toArray) (fun _ _ _ => rfl) (fun L r uw0 uw hAn hDn hF hEx => ?_) ?_
        · skip
          have b19 : L 19 = false := hDn 19 (by decide) rfl
          have b21 : L 21 = false := hDn 21 (by decide) rfl
          have hb : List.map L [19, 21] = [false, false] := by simp only [List.map_cons, List.map_nil, b19, b21]
          rw [hb] at hF
          have HH := hF
          replace HH := HH.ext hEx
          exact Gives.run rfl (r_loadA (cs' := (cel E64 ([(la).1, (la).2])).toArray) agg38 siz38 (HH.get (k := 3) rfl) (off := 0) rfl (by exact Nat.le_of_ble_eq_true rfl) (by exact ext_all rfl)) ⟨rfl, rfl⟩
        refine WalkE.call rfl (fun _ => .bool (col la)) (fun _ _ _ => rfl) (fun L r uw0 uw hAn hDn hF hEx => ?_) ?_
        · skip
          have b19 : L 19 = false := hDn 19 (by decide) rfl
          have b21 : L 21 = false := hDn 21 (by decide) rfl
          have hb : List.map L [19, 21] = [false, false] := by simp only [List.map_cons, List.map_nil, b19, b21]
          rw [hb] at hF
          have HH := hF
          replace HH := HH.ext hEx
          exact Gives.call rfl (Enters.callL (vs := [.agg (cel E64 ([(la).1, (la).2])).toArray]) call84 rfl) (col_ok la uw)
        refine WalkE.look rfl (fun _ => .agg (cel E64 ([((tb).getD ((eS lhash first gs tb ls i).2) lb0).1, ((tb).getD ((eS lhash first gs tb ls i).2) lb0).2])).toArray) (fun _ _ _ => rfl) (fun L r uw0 uw hAn hDn hF hEx => ?_) ?_
        · skip
          have b19 : L 19 = false := hDn 19 (by decide) rfl
          have b21 : L 21 = false := hDn 21 (by decide) rfl
          have hb : List.map L [19, 21] = [false, false] := by simp only [List.map_cons, List.map_nil, b19, b21]
          rw [hb] at hF
          have HH := hF
          replace HH := HH.ext hEx
          exact Gives.run rfl (r_loadA (cs' := (cel E64 ([((tb).getD ((eS lhash first gs tb ls i).2) lb0).1, ((tb).getD ((eS lhash first gs tb ls i).2) lb0).2])).toArray) agg38 siz38 (HH.get (k := 1) rfl) (off := 0) rfl (by exact Nat.le_of_ble_eq_true rfl) (by exact ext_all rfl)) ⟨rfl, rfl⟩
        refine WalkE.call rfl (fun _ => .agg (cel E64 [(lw (col la) ((tb).getD ((eS lhash first gs tb ls i).2) lb0)).1, (lw (col la) ((tb).getD ((eS lhash first gs tb ls i).2) lb0)).2]).toArray) (fun _ _ _ => rfl) (fun L r uw0 uw hAn hDn hF hEx => ?_) ?_
        · skip
          have b19 : L 19 = false := hDn 19 (by decide) rfl
          have b21 : L 21 = false := hDn 21 (by decide) rfl
          have hb : List.map L [19, 21] = [false, false] := by simp only [List.map_cons, List.map_nil, b19, b21]
          rw [hb] at hF
          have HH := hF
          replace HH := HH.ext hEx
          exact Gives.call rfl (Enters.callL (vs := [.bool (col la), .agg (cel E64 ([((tb).getD ((eS lhash first gs tb ls i).2) lb0).1, ((tb).getD ((eS lhash first gs tb ls i).2) lb0).2])).toArray]) call89 rfl) (lw_ok (col la) ((tb).getD ((eS lhash first gs tb ls i).2) lb0) uw)
        refine WalkE.look rfl (fun _ => .pointer (some ⟨b13, 0, none⟩)) (fun _ _ _ => rfl) (fun L r _ uw _ _ _ _ => Gives.run rfl (r_move (v := .pointer (some ⟨b13, 0, none⟩)) rfl) ⟨rfl, rfl⟩) ?_
        refine WalkE.look rfl (fun _ => .agg (cel E64 ([(lb).1, (lb).2])).toArray) (fun _ _ _ => rfl) (fun L r uw0 uw hAn hDn hF hEx => ?_) ?_
        · skip
          have b19 : L 19 = false := hDn 19 (by decide) rfl
          have b21 : L 21 = false := hDn 21 (by decide) rfl
          have hb : List.map L [19, 21] = [false, false] := by simp only [List.map_cons, List.map_nil, b19, b21]
          rw [hb] at hF
          have HH := hF
          replace HH := HH.ext hEx
          exact Gives.run rfl (r_loadA (cs' := (cel E64 ([(lb).1, (lb).2])).toArray) agg38 siz38 (HH.get (k := 2) rfl) (off := 0) rfl (by exact Nat.le_of_ble_eq_true rfl) (by exact ext_all rfl)) ⟨rfl, rfl⟩
        refine WalkE.look rfl (fun _ => u64 (sv)) (fun _ _ _ => rfl) (fun L r _ uw _ _ _ _ => Gives.run rfl (r_move (v := u64 (sv)) rfl) ⟨rfl, rfl⟩) ?_
        refine WalkE.look rfl (fun _ => u64 (sv + (1#64))) (fun _ _ _ => rfl) (fun L r _ uw _ _ _ _ => Gives.run rfl (r_add64 (a := sv) (b := 1#64) rfl rfl) ⟨rfl, rfl⟩) ?_
        refine WalkE.call rfl (fun _ => .agg (cel E64 [(lhash lb (sv + (1#64))).1, (lhash lb (sv + (1#64))).2]).toArray) (fun _ _ _ => rfl) (fun L r uw0 uw hAn hDn hF hEx => ?_) ?_
        · skip
          have b19 : L 19 = false := hDn 19 (by decide) rfl
          have b21 : L 21 = false := hDn 21 (by decide) rfl
          have hb : List.map L [19, 21] = [false, false] := by simp only [List.map_cons, List.map_nil, b19, b21]
          rw [hb] at hF
          have HH := hF
          replace HH := HH.ext hEx
          exact Gives.call rfl (Enters.callL (vs := [.pointer (some ⟨b13, 0, none⟩), .agg (cel E64 ([(lb).1, (lb).2])).toArray, u64 (sv + (1#64))]) call87 rfl) (lhash_ok b13 lb (sv + (1#64)) uw (HH.get (k := 7) rfl))
        refine WalkE.look rfl (fun _ => .agg (cel E64 ([(lb).1, (lb).2])).toArray) (fun _ _ _ => rfl) (fun L r uw0 uw hAn hDn hF hEx => ?_) ?_
        · skip
          have b19 : L 19 = false := hDn 19 (by decide) rfl
          have b21 : L 21 = false := hDn 21 (by decide) rfl
          have hb : List.map L [19, 21] = [false, false] := by simp only [List.map_cons, List.map_nil, b19, b21]
          rw [hb] at hF
          have HH := hF
          replace HH := HH.ext hEx
          exact Gives.run rfl (r_loadA (cs' := (cel E64 ([(lb).1, (lb).2])).toArray) agg38 siz38 (HH.get (k := 2) rfl) (off := 0) rfl (by exact Nat.le_of_ble_eq_true rfl) (by exact ext_all rfl)) ⟨rfl, rfl⟩
        refine WalkE.call rfl (fun _ => .bool (col lb)) (fun _ _ _ => rfl) (fun L r uw0 uw hAn hDn hF hEx => ?_) ?_
        · skip
          have b19 : L 19 = false := hDn 19 (by decide) rfl
          have b21 : L 21 = false := hDn 21 (by decide) rfl
          have hb : List.map L [19, 21] = [false, false] := by simp only [List.map_cons, List.map_nil, b19, b21]
          rw [hb] at hF
          have HH := hF
          replace HH := HH.ext hEx
          exact Gives.call rfl (Enters.callL (vs := [.agg (cel E64 ([(lb).1, (lb).2])).toArray]) call84 rfl) (col_ok lb uw)
        refine WalkE.look rfl (fun _ => .agg (cel E64 ([((tb).getD ((eS lhash first gs tb ls i).2 + 1) lb0).1, ((tb).getD ((eS lhash first gs tb ls i).2 + 1) lb0).2])).toArray) (fun _ _ _ => rfl) (fun L r uw0 uw hAn hDn hF hEx => ?_) ?_
        · skip
          have b19 : L 19 = false := hDn 19 (by decide) rfl
          have b21 : L 21 = false := hDn 21 (by decide) rfl
          have hb : List.map L [19, 21] = [false, false] := by simp only [List.map_cons, List.map_nil, b19, b21]
          rw [hb] at hF
          have HH := hF
          replace HH := HH.ext hEx
          exact Gives.run rfl (r_loadA (cs' := (cel E64 ([((tb).getD ((eS lhash first gs tb ls i).2 + 1) lb0).1, ((tb).getD ((eS lhash first gs tb ls i).2 + 1) lb0).2])).toArray) agg38 siz38 (HH.get (k := 0) rfl) (off := 0) rfl (by exact Nat.le_of_ble_eq_true rfl) (by exact ext_all rfl)) ⟨rfl, rfl⟩
        refine WalkE.look rfl (fun _ => .agg (cel E64 ([(la).1, (la).2])).toArray) (fun _ _ _ => rfl) (fun L r uw0 uw hAn hDn hF hEx => ?_) ?_
        · skip
          have b19 : L 19 = false := hDn 19 (by decide) rfl
          have b21 : L 21 = false := hDn 21 (by decide) rfl
          have hb : List.map L [19, 21] = [false, false] := by simp only [List.map_cons, List.map_nil, b19, b21]
          rw [hb] at hF
          have HH := hF
          replace HH := HH.ext hEx
          exact Gives.run rfl (r_loadA (cs' := (cel E64 ([(la).1, (la).2])).toArray) agg38 siz38 (HH.get (k := 3) rfl) (off := 0) rfl (by exact Nat.le_of_ble_eq_true rfl) (by exact ext_all rfl)) ⟨rfl, rfl⟩
        refine WalkE.call rfl (fun _ => .agg (cel E64 [(lx ((tb).getD ((eS lhash first gs tb ls i).2 + 1) lb0) la).1, (lx ((tb).getD ((eS lhash first gs tb ls i).2 + 1) lb0) la).2]).toArray) (fun _ _ _ => rfl) (fun L r uw0 uw hAn hDn hF hEx => ?_) ?_
        · skip
          have b19 : L 19 = false := hDn 19 (by decide) rfl
          have b21 : L 21 = false := hDn 21 (by decide) rfl
          have hb : List.map L [19, 21] = [false, false] := by simp only [List.map_cons, List.map_nil, b19, b21]
          rw [hb] at hF
          have HH := hF
          replace HH := HH.ext hEx
          exact Gives.call rfl (Enters.callL (vs := [.agg (cel E64 ([((tb).getD ((eS lhash first gs tb ls i).2 + 1) lb0).1, ((tb).getD ((eS lhash first gs tb ls i).2 + 1) lb0).2])).toArray, .agg (cel E64 ([(la).1, (la).2])).toArray]) call86 rfl) (lxor_ok ((tb).getD ((eS lhash first gs tb ls i).2 + 1) lb0) la uw)
        refine WalkE.call rfl (fun _ => .agg (cel E64 [(lw (col lb) (lx ((tb).getD ((eS lhash first gs tb ls i).2 + 1) lb0) la)).1, (lw (col lb) (lx ((tb).getD ((eS lhash first gs tb ls i).2 + 1) lb0) la)).2]).toArray) (fun _ _ _ => rfl) (fun L r uw0 uw hAn hDn hF hEx => ?_) ?_
        · skip
          have b19 : L 19 = false := hDn 19 (by decide) rfl
          have b21 : L 21 = false := hDn 21 (by decide) rfl
          have hb : List.map L [19, 21] = [false, false] := by simp only [List.map_cons, List.map_nil, b19, b21]
          rw [hb] at hF
          have HH := hF
          replace HH := HH.ext hEx
          exact Gives.call rfl (Enters.callL (vs := [.bool (col lb), .agg (cel E64 [(lx ((tb).getD ((eS lhash first gs tb ls i).2 + 1) lb0) la).1, (lx ((tb).getD ((eS lhash first gs tb ls i).2 + 1) lb0) la).2]).toArray]) call89 rfl) (lw_ok (col lb) (lx ((tb).getD ((eS lhash first gs tb ls i).2 + 1) lb0) la) uw)
        refine WalkE.eff 0 rfl (fun L r uw0 uw hLn hAn hDn hF hEx => ?_) ?_
        · skip
          have b19 : L 19 = false := hLn
          have b21 : L 21 = false := hDn 21 (by decide) rfl
          have hb : List.map L [19, 21] = [false, false] := by simp only [List.map_cons, List.map_nil, b19, b21]
          rw [hb] at hF ⊢
          have H146 := hF
          replace H146 := H146.ext hEx
          dsimp only
          refine Gives.ofW (d := 112) rfl rfl (fun Q' hK => ?_)
          refine q_buildSlice (E := ELb) (l := ([lhash la sv, lw (col la) ((tb).getD ((eS lhash first gs tb ls i).2) lb0), lhash lb (sv + (1#64)), lw (col lb) (lx ((tb).getD ((eS lhash first gs tb ls i).2 + 1) lb0) la)] : List (BitVec 64 × BitVec 64))) H146 sli92 zer38 (Nat.le_of_ble_eq_true rfl) (ps := [(0, .agg (cel E64 [(lhash la sv).1, (lhash la sv).2]).toArray), (1, .agg (cel E64 [(lw (col la) ((tb).getD ((eS lhash first gs tb ls i).2) lb0)).1, (lw (col la) ((tb).getD ((eS lhash first gs tb ls i).2) lb0)).2]).toArray), (2, .agg (cel E64 [(lhash lb (sv + (1#64))).1, (lhash lb (sv + (1#64))).2]).toArray), (3, .agg (cel E64 [(lw (col lb) (lx ((tb).getD ((eS lhash first gs tb ls i).2 + 1) lb0) la)).1, (lw (col lb) (lx ((tb).getD ((eS lhash first gs tb ls i).2 + 1) lb0) la)).2]).toArray)]) rfl (by exact fillAll rfl rfl) rfl ?_
          intro b147 w149 hS148 H150 hE151
          exact hK _ _ (show ∃ (b137 : Nat), (_ : Value) = .slice (ownA (some b137)) 4 4 ∧ Sl ELb (some b137) ([lhash la sv, lw (col la) ((tb).getD ((eS lhash first gs tb ls i).2) lb0), lhash lb (sv + (1#64)), lw (col lb) (lx ((tb).getD ((eS lhash first gs tb ls i).2 + 1) lb0) la)] : List (BitVec 64 × BitVec 64)) 4 ([]) ∧ Hp No w w149 [((some b137), sob ELb 38 ([lhash la sv, lw (col la) ((tb).getD ((eS lhash first gs tb ls i).2) lb0), lhash lb (sv + (1#64)), lw (col lb) (lx ((tb).getD ((eS lhash first gs tb ls i).2 + 1) lb0) la)] : List (BitVec 64 × BitVec 64)) ([])), (some b93, .cells (cel E64 ([((tb).getD ((eS lhash first gs tb ls i).2 + 1) lb0).1, ((tb).getD ((eS lhash first gs tb ls i).2 + 1) lb0).2])).toArray 38 (0, 0)), (some b83, .cells (cel E64 ([((tb).getD ((eS lhash first gs tb ls i).2) lb0).1, ((tb).getD ((eS lhash first gs tb ls i).2) lb0).2])).toArray 38 (0, 0)), (some b75, .cells (cel E64 ([(lb).1, (lb).2])).toArray 38 (0, 0)), (some b42, .cells (cel E64 ([(la).1, (la).2])).toArray 38 (0, 0)), (some b35, .cells #[i64 (((gs).getD i g0).k), i64 (((gs).getD i g0).a), i64 (((gs).getD i g0).b)] 99 (0, 0)), (k1, sob ELb 38 ((eS lhash first gs tb ls i).1) z1), (some b1, .cells #[i64 ((ls.length : Nat)), .slice ga gs.length gc, .slice oa ol.length oc] 70 (0, 0)), (some b13, .cells (cel E8 (AesSpec.cipher AesSpec.fixKey)).toArray 215 (0, 0))] from ⟨b147, rfl, hS148, (((((((((H150.pull (k := 8) rfl).pull (k := 8) rfl).pull (k := 8) rfl).pull (k := 8) rfl).pull (k := 8) rfl).pull (k := 8) rfl).pull (k := 8) rfl).pull (k := 8) rfl).pull (k := 8) rfl)⟩)
        refine WalkE.call rfl (fun _ => .agg (cel E64 [(lsum ([lhash la sv, lw (col la) ((tb).getD ((eS lhash first gs tb ls i).2) lb0), lhash lb (sv + (1#64)), lw (col lb) (lx ((tb).getD ((eS lhash first gs tb ls i).2 + 1) lb0) la)] : List (BitVec 64 × BitVec 64))).1, (lsum ([lhash la sv, lw (col la) ((tb).getD ((eS lhash first gs tb ls i).2) lb0), lhash lb (sv + (1#64)), lw (col lb) (lx ((tb).getD ((eS lhash first gs tb ls i).2 + 1) lb0) la)] : List (BitVec 64 × BitVec 64))).2]).toArray) (fun _ _ _ => rfl) (fun L r uw0 uw hAn hDn hF hEx => ?_) ?_
        · skip
          have b19 : L 19 = true := hAn 19 (by decide) rfl
          have b21 : L 21 = false := hDn 21 (by decide) rfl
          have hb : List.map L [19, 21] = [true, false] := by simp only [List.map_cons, List.map_nil, b19, b21]
          rw [hb] at hF
          obtain ⟨b137, e19, hS138, HH⟩ := hF
          replace HH := HH.ext hEx
          dsimp only
          rw [e19]
          exact Gives.call rfl (Enters.callL (vs := [.slice (ownA (some b137)) 4 4]) call88 rfl) (lsum_ok ([lhash la sv, lw (col la) ((tb).getD ((eS lhash first gs tb ls i).2) lb0), lhash lb (sv + (1#64)), lw (col lb) (lx ((tb).getD ((eS lhash first gs tb ls i).2 + 1) lb0) la)] : List (BitVec 64 × BitVec 64)) (ownA (some b137)) 4 4 (by rfl) (by simp) uw (HH.rd (k := 0) rfl hS138))
        refine WalkE.eff 1 rfl (fun L r uw0 uw hLn hAn hDn hF hEx => ?_) ?_
        · skip
          have b19 : L 19 = true := hAn 19 (by decide) rfl
          have b21 : L 21 = false := hLn
          have hb : List.map L [19, 21] = [true, false] := by simp only [List.map_cons, List.map_nil, b19, b21]
          rw [hb] at hF ⊢
          obtain ⟨b137, e19, hS138, H152⟩ := hF
          replace H152 := H152.ext hEx
          dsimp only
          rw [e19]
          refine Gives.ofW0 rfl (fun Q' hK => ?_)
          refine d_store (k := 4) (v := .agg (cel E64 [(lsum ([lhash la sv, lw (col la) ((tb).getD ((eS lhash first gs tb ls i).2) lb0), lhash lb (sv + (1#64)), lw (col lb) (lx ((tb).getD ((eS lhash first gs tb ls i).2 + 1) lb0) la)] : List (BitVec 64 × BitVec 64))).1, (lsum ([lhash la sv, lw (col la) ((tb).getD ((eS lhash first gs tb ls i).2) lb0), lhash lb (sv + (1#64)), lw (col lb) (lx ((tb).getD ((eS lhash first gs tb ls i).2 + 1) lb0) la)] : List (BitVec 64 × BitVec 64))).2]).toArray) (cs' := (cel E64 ([(lsum ([lhash la sv, lw (col la) ((tb).getD ((eS lhash first gs tb ls i).2) lb0), lhash lb (sv + (1#64)), lw (col lb) (lx ((tb).getD ((eS lhash first gs tb ls i).2 + 1) lb0) la)] : List (BitVec 64 × BitVec 64))).1, (lsum ([lhash la sv, lw (col la) ((tb).getD ((eS lhash first gs tb ls i).2) lb0), lhash lb (sv + (1#64)), lw (col lb) (lx ((tb).getD ((eS lhash first gs tb ls i).2 + 1) lb0) la)] : List (BitVec 64 × BitVec 64))).2])).toArray) H152 rfl rfl rfl siz38 (by exact celSize (by first | rfl | (show _ * 1 = _; omega))) (by exact celOne _) (by rw [List.size_toArray, cel_length]; show _ ≤ _ * 1; first | omega | (simp only [List.length_set]; omega) | exact Nat.le_of_ble_eq_true rfl | (simp <;> omega)) (by exact putAll (by first | rfl | omega | (simp <;> omega))) ?_
          intro w153 H154 hC155
          have H154' := H154.as (L' := [((some b137), sob ELb 38 ([lhash la sv, lw (col la) ((tb).getD ((eS lhash first gs tb ls i).2) lb0), lhash lb (sv + (1#64)), lw (col lb) (lx ((tb).getD ((eS lhash first gs tb ls i).2 + 1) lb0) la)] : List (BitVec 64 × BitVec 64)) ([])), (some b93, .cells (cel E64 ([((tb).getD ((eS lhash first gs tb ls i).2 + 1) lb0).1, ((tb).getD ((eS lhash first gs tb ls i).2 + 1) lb0).2])).toArray 38 (0, 0)), (some b83, .cells (cel E64 ([((tb).getD ((eS lhash first gs tb ls i).2) lb0).1, ((tb).getD ((eS lhash first gs tb ls i).2) lb0).2])).toArray 38 (0, 0)), (some b75, .cells (cel E64 ([(lb).1, (lb).2])).toArray 38 (0, 0)), (some b42, .cells (cel E64 ([(lsum ([lhash la sv, lw (col la) ((tb).getD ((eS lhash first gs tb ls i).2) lb0), lhash lb (sv + (1#64)), lw (col lb) (lx ((tb).getD ((eS lhash first gs tb ls i).2 + 1) lb0) la)] : List (BitVec 64 × BitVec 64))).1, (lsum ([lhash la sv, lw (col la) ((tb).getD ((eS lhash first gs tb ls i).2) lb0), lhash lb (sv + (1#64)), lw (col lb) (lx ((tb).getD ((eS lhash first gs tb ls i).2 + 1) lb0) la)] : List (BitVec 64 × BitVec 64))).2])).toArray 38 (0, 0)), (some b35, .cells #[i64 (((gs).getD i g0).k), i64 (((gs).getD i g0).a), i64 (((gs).getD i g0).b)] 99 (0, 0)), (k1, sob ELb 38 ((eS lhash first gs tb ls i).1) z1), (some b1, .cells #[i64 ((ls.length : Nat)), .slice ga gs.length gc, .slice oa ol.length oc] 70 (0, 0)), (some b13, .cells (cel E8 (AesSpec.cipher AesSpec.fixKey)).toArray 215 (0, 0))]) rfl
          clear H154
          exact hK _ (fun _ => (show ∃ (b137 : Nat), r 19 = .slice (ownA (some b137)) 4 4 ∧ Sl ELb (some b137) ([lhash la sv, lw (col la) ((tb).getD ((eS lhash first gs tb ls i).2) lb0), lhash lb (sv + (1#64)), lw (col lb) (lx ((tb).getD ((eS lhash first gs tb ls i).2 + 1) lb0) la)] : List (BitVec 64 × BitVec 64)) 4 ([]) ∧ Hp No w w153 [((some b137), sob ELb 38 ([lhash la sv, lw (col la) ((tb).getD ((eS lhash first gs tb ls i).2) lb0), lhash lb (sv + (1#64)), lw (col lb) (lx ((tb).getD ((eS lhash first gs tb ls i).2 + 1) lb0) la)] : List (BitVec 64 × BitVec 64)) ([])), (some b93, .cells (cel E64 ([((tb).getD ((eS lhash first gs tb ls i).2 + 1) lb0).1, ((tb).getD ((eS lhash first gs tb ls i).2 + 1) lb0).2])).toArray 38 (0, 0)), (some b83, .cells (cel E64 ([((tb).getD ((eS lhash first gs tb ls i).2) lb0).1, ((tb).getD ((eS lhash first gs tb ls i).2) lb0).2])).toArray 38 (0, 0)), (some b75, .cells (cel E64 ([(lb).1, (lb).2])).toArray 38 (0, 0)), (some b42, .cells (cel E64 ([(lsum ([lhash la sv, lw (col la) ((tb).getD ((eS lhash first gs tb ls i).2) lb0), lhash lb (sv + (1#64)), lw (col lb) (lx ((tb).getD ((eS lhash first gs tb ls i).2 + 1) lb0) la)] : List (BitVec 64 × BitVec 64))).1, (lsum ([lhash la sv, lw (col la) ((tb).getD ((eS lhash first gs tb ls i).2) lb0), lhash lb (sv + (1#64)), lw (col lb) (lx ((tb).getD ((eS lhash first gs tb ls i).2 + 1) lb0) la)] : List (BitVec 64 × BitVec 64))).2])).toArray 38 (0, 0)), (some b35, .cells #[i64 (((gs).getD i g0).k), i64 (((gs).getD i g0).a), i64 (((gs).getD i g0).b)] 99 (0, 0)), (k1, sob ELb 38 ((eS lhash first gs tb ls i).1) z1), (some b1, .cells #[i64 ((ls.length : Nat)), .slice ga gs.length gc, .slice oa ol.length oc] 70 (0, 0)), (some b13, .cells (cel E8 (AesSpec.cipher AesSpec.fixKey)).toArray 215 (0, 0))] from ⟨b137, e19, hS138, (((((((((H154'.pull (k := 8) rfl).pull (k := 8) rfl).pull (k := 8) rfl).pull (k := 8) rfl).pull (k := 8) rfl).pull (k := 8) rfl).pull (k := 8) rfl).pull (k := 8) rfl).pull (k := 8) rfl)⟩))
        refine WalkE.nil ?_
        intro r156 uw0 w157 hF hEx
        obtain ⟨b137, e19, hS138, H158⟩ := hF
        replace H158 := H158.ext hEx
        dsimp only
        rw [e19]
        refine wnil ?_
        refine blockNormal ?_
        refine thenNormal ?_
        refine oneRegion ?_
        refine sq (r_move (v := .slice (ownA k1) (ls.length + i) c1) rfl) ?_
        refine sq (r_loadA (cs' := (cel E64 ([(lsum ([lhash la sv, lw (col la) ((tb).getD ((eS lhash first gs tb ls i).2) lb0), lhash lb (sv + (1#64)), lw (col lb) (lx ((tb).getD ((eS lhash first gs tb ls i).2 + 1) lb0) la)] : List (BitVec 64 × BitVec 64))).1, (lsum ([lhash la sv, lw (col la) ((tb).getD ((eS lhash first gs tb ls i).2) lb0), lhash lb (sv + (1#64)), lw (col lb) (lx ((tb).getD ((eS lhash first gs tb ls i).2 + 1) lb0) la)] : List (BitVec 64 × BitVec 64))).2])).toArray) agg38 siz38 (H158.get (k := 4) rfl) (off := 0) rfl (by exact Nat.le_of_ble_eq_true rfl) (by exact ext_all rfl)) ?_
        refine q_buildSlice (E := ELb) (l := ([lsum ([lhash la sv, lw (col la) ((tb).getD ((eS lhash first gs tb ls i).2) lb0), lhash lb (sv + (1#64)), lw (col lb) (lx ((tb).getD ((eS lhash first gs tb ls i).2 + 1) lb0) la)] : List (BitVec 64 × BitVec 64))] : List (BitVec 64 × BitVec 64))) H158 sli92 zer38 (Nat.le_of_ble_eq_true rfl) (ps := [(0, .agg (cel E64 ([(lsum ([lhash la sv, lw (col la) ((tb).getD ((eS lhash first gs tb ls i).2) lb0), lhash lb (sv + (1#64)), lw (col lb) (lx ((tb).getD ((eS lhash first gs tb ls i).2 + 1) lb0) la)] : List (BitVec 64 × BitVec 64))).1, (lsum ([lhash la sv, lw (col la) ((tb).getD ((eS lhash first gs tb ls i).2) lb0), lhash lb (sv + (1#64)), lw (col lb) (lx ((tb).getD ((eS lhash first gs tb ls i).2 + 1) lb0) la)] : List (BitVec 64 × BitVec 64))).2])).toArray)]) rfl (by exact fillAll rfl rfl) rfl ?_
        intro b159 w161 hS160 H162 hE163
        refine q_append (E := ELb) (k := 7) (l := (eS lhash first gs tb ls i).1) (l2 := ([lsum ([lhash la sv, lw (col la) ((tb).getD ((eS lhash first gs tb ls i).2) lb0), lhash lb (sv + (1#64)), lw (col lb) (lx ((tb).getD ((eS lhash first gs tb ls i).2 + 1) lb0) la)] : List (BitVec 64 × BitVec 64))] : List (BitVec 64 × BitVec 64))) H162 rfl h1 sli92 zer38 rfl byt38 (H162.rd (k := 0) rfl hS160) rfl (by rw [eS_len]) rfl (by rfl) (by omega) ?_
        intro key164 c165 sp166 w168 hS167 hne170 H169
        have H169' := H169.as (L' := [((some b159), sob ELb 38 ([lsum ([lhash la sv, lw (col la) ((tb).getD ((eS lhash first gs tb ls i).2) lb0), lhash lb (sv + (1#64)), lw (col lb) (lx ((tb).getD ((eS lhash first gs tb ls i).2 + 1) lb0) la)] : List (BitVec 64 × BitVec 64))] : List (BitVec 64 × BitVec 64)) ([])), ((some b137), sob ELb 38 ([lhash la sv, lw (col la) ((tb).getD ((eS lhash first gs tb ls i).2) lb0), lhash lb (sv + (1#64)), lw (col lb) (lx ((tb).getD ((eS lhash first gs tb ls i).2 + 1) lb0) la)] : List (BitVec 64 × BitVec 64)) ([])), (some b93, .cells (cel E64 ([((tb).getD ((eS lhash first gs tb ls i).2 + 1) lb0).1, ((tb).getD ((eS lhash first gs tb ls i).2 + 1) lb0).2])).toArray 38 (0, 0)), (some b83, .cells (cel E64 ([((tb).getD ((eS lhash first gs tb ls i).2) lb0).1, ((tb).getD ((eS lhash first gs tb ls i).2) lb0).2])).toArray 38 (0, 0)), (some b75, .cells (cel E64 ([(lb).1, (lb).2])).toArray 38 (0, 0)), (some b42, .cells (cel E64 ([(lsum ([lhash la sv, lw (col la) ((tb).getD ((eS lhash first gs tb ls i).2) lb0), lhash lb (sv + (1#64)), lw (col lb) (lx ((tb).getD ((eS lhash first gs tb ls i).2 + 1) lb0) la)] : List (BitVec 64 × BitVec 64))).1, (lsum ([lhash la sv, lw (col la) ((tb).getD ((eS lhash first gs tb ls i).2) lb0), lhash lb (sv + (1#64)), lw (col lb) (lx ((tb).getD ((eS lhash first gs tb ls i).2 + 1) lb0) la)] : List (BitVec 64 × BitVec 64))).2])).toArray 38 (0, 0)), (some b35, .cells #[i64 (((gs).getD i g0).k), i64 (((gs).getD i g0).a), i64 (((gs).getD i g0).b)] 99 (0, 0)), (key164, sob ELb 38 (((eS lhash first gs tb ls i).1) ++ ([lsum ([lhash la sv, lw (col la) ((tb).getD ((eS lhash first gs tb ls i).2) lb0), lhash lb (sv + (1#64)), lw (col lb) (lx ((tb).getD ((eS lhash first gs tb ls i).2 + 1) lb0) la)] : List (BitVec 64 × BitVec 64))] : List (BitVec 64 × BitVec 64))) sp166), (some b1, .cells #[i64 ((ls.length : Nat)), .slice ga gs.length gc, .slice oa ol.length oc] 70 (0, 0)), (some b13, .cells (cel E8 (AesSpec.cipher AesSpec.fixKey)).toArray 215 (0, 0))]) rfl
        clear H169
        have e171 : ((eS lhash first gs tb ls i).1) ++ ([lsum ([lhash la sv, lw (col la) ((tb).getD ((eS lhash first gs tb ls i).2) lb0), lhash lb (sv + (1#64)), lw (col lb) (lx ((tb).getD ((eS lhash first gs tb ls i).2 + 1) lb0) la)] : List (BitVec 64 × BitVec 64))] : List (BitVec 64 × BitVec 64)) = (eS lhash first gs tb ls (i + 1)).1 := by rw [eS, estep, if_neg hn1, if_pos hk, hsv, hla, hlb]; try rfl
        have hS172 := hS167
        rw [e171] at hS172
        have H173 := H169'.as (L' := [((some b159), sob ELb 38 ([lsum ([lhash la sv, lw (col la) ((tb).getD ((eS lhash first gs tb ls i).2) lb0), lhash lb (sv + (1#64)), lw (col lb) (lx ((tb).getD ((eS lhash first gs tb ls i).2 + 1) lb0) la)] : List (BitVec 64 × BitVec 64))] : List (BitVec 64 × BitVec 64)) ([])), ((some b137), sob ELb 38 ([lhash la sv, lw (col la) ((tb).getD ((eS lhash first gs tb ls i).2) lb0), lhash lb (sv + (1#64)), lw (col lb) (lx ((tb).getD ((eS lhash first gs tb ls i).2 + 1) lb0) la)] : List (BitVec 64 × BitVec 64)) ([])), (some b93, .cells (cel E64 ([((tb).getD ((eS lhash first gs tb ls i).2 + 1) lb0).1, ((tb).getD ((eS lhash first gs tb ls i).2 + 1) lb0).2])).toArray 38 (0, 0)), (some b83, .cells (cel E64 ([((tb).getD ((eS lhash first gs tb ls i).2) lb0).1, ((tb).getD ((eS lhash first gs tb ls i).2) lb0).2])).toArray 38 (0, 0)), (some b75, .cells (cel E64 ([(lb).1, (lb).2])).toArray 38 (0, 0)), (some b42, .cells (cel E64 ([(lsum ([lhash la sv, lw (col la) ((tb).getD ((eS lhash first gs tb ls i).2) lb0), lhash lb (sv + (1#64)), lw (col lb) (lx ((tb).getD ((eS lhash first gs tb ls i).2 + 1) lb0) la)] : List (BitVec 64 × BitVec 64))).1, (lsum ([lhash la sv, lw (col la) ((tb).getD ((eS lhash first gs tb ls i).2) lb0), lhash lb (sv + (1#64)), lw (col lb) (lx ((tb).getD ((eS lhash first gs tb ls i).2 + 1) lb0) la)] : List (BitVec 64 × BitVec 64))).2])).toArray 38 (0, 0)), (some b35, .cells #[i64 (((gs).getD i g0).k), i64 (((gs).getD i g0).a), i64 (((gs).getD i g0).b)] 99 (0, 0)), (key164, sob ELb 38 ((eS lhash first gs tb ls (i + 1)).1) sp166), (some b1, .cells #[i64 ((ls.length : Nat)), .slice ga gs.length gc, .slice oa ol.length oc] 70 (0, 0)), (some b13, .cells (cel E8 (AesSpec.cipher AesSpec.fixKey)).toArray 215 (0, 0))]) (by rw [e171])
        refine sq (r_assign (v := .slice (ownA key164) ((ls.length + i) + 1) c165) rfl) ?_
        refine wnil ?_
        refine blockNormal ?_
        refine thenNormal ?_
        refine oneRegion ?_
        refine sq (r_addI (a := (i : Nat)) (b := (1 : Int)) rfl rfl (by omega)) ?_
        refine sq (r_move (v := i64 ((i : Nat) + (1 : Int))) rfl) ?_
        refine wnil ?_
        refine thenNormal ?_
        exact ⟨(i + 1, key164, c165, sp166, (eS lhash first gs tb ls i).2 + 2), _, rfl, ⟨rfl, rfl, rfl, rfl, rfl, rfl, rfl, rfl, rfl, trivial⟩, ⟨⟨by omega, hS172, by rw [eS, estep, if_neg hn1, if_pos hk]⟩, (((((((H173.dropk 6).dropk 5).dropk 4).dropk 3).dropk 2).dropk 1).dropk 0)⟩, by show gs.length - (i + 1) < gs.length - i; omega⟩
      · skip
        have hn2 := hk2
        refine skipAny ?_
        refine blockNormal ?_
        refine thenNormal ?_
        refine oneRegion ?_
        refine sq (r_move (v := .slice (ownA k1) (ls.length + i) c1) rfl) ?_
        refine sq (r_loadA (cs' := (cel E64 ([(la).1, (la).2])).toArray) agg38 siz38 (H47'.get (k := 0) rfl) (off := 0) rfl (by exact Nat.le_of_ble_eq_true rfl) (by exact ext_all rfl)) ?_
        refine q_buildSlice (E := ELb) (l := ([la] : List (BitVec 64 × BitVec 64))) H47' sli92 zer38 (Nat.le_of_ble_eq_true rfl) (ps := [(0, .agg (cel E64 ([(la).1, (la).2])).toArray)]) rfl (by exact fillAll rfl rfl) rfl ?_
        intro b174 w176 hS175 H177 hE178
        refine q_append (E := ELb) (k := 3) (l := (eS lhash first gs tb ls i).1) (l2 := ([la] : List (BitVec 64 × BitVec 64))) H177 rfl h1 sli92 zer38 rfl byt38 (H177.rd (k := 0) rfl hS175) rfl (by rw [eS_len]) rfl (by rfl) (by omega) ?_
        intro key179 c180 sp181 w183 hS182 hne185 H184
        have H184' := H184.as (L' := [((some b174), sob ELb 38 ([la] : List (BitVec 64 × BitVec 64)) ([])), (some b42, .cells (cel E64 ([(la).1, (la).2])).toArray 38 (0, 0)), (some b35, .cells #[i64 (((gs).getD i g0).k), i64 (((gs).getD i g0).a), i64 (((gs).getD i g0).b)] 99 (0, 0)), (key179, sob ELb 38 (((eS lhash first gs tb ls i).1) ++ ([la] : List (BitVec 64 × BitVec 64))) sp181), (some b1, .cells #[i64 ((ls.length : Nat)), .slice ga gs.length gc, .slice oa ol.length oc] 70 (0, 0)), (some b13, .cells (cel E8 (AesSpec.cipher AesSpec.fixKey)).toArray 215 (0, 0))]) rfl
        clear H184
        have e186 : ((eS lhash first gs tb ls i).1) ++ ([la] : List (BitVec 64 × BitVec 64)) = (eS lhash first gs tb ls (i + 1)).1 := by rw [eS, estep, if_neg hn1, if_neg hn2, hla]
        have hS187 := hS182
        rw [e186] at hS187
        have H188 := H184'.as (L' := [((some b174), sob ELb 38 ([la] : List (BitVec 64 × BitVec 64)) ([])), (some b42, .cells (cel E64 ([(la).1, (la).2])).toArray 38 (0, 0)), (some b35, .cells #[i64 (((gs).getD i g0).k), i64 (((gs).getD i g0).a), i64 (((gs).getD i g0).b)] 99 (0, 0)), (key179, sob ELb 38 ((eS lhash first gs tb ls (i + 1)).1) sp181), (some b1, .cells #[i64 ((ls.length : Nat)), .slice ga gs.length gc, .slice oa ol.length oc] 70 (0, 0)), (some b13, .cells (cel E8 (AesSpec.cipher AesSpec.fixKey)).toArray 215 (0, 0))]) (by rw [e186])
        refine sq (r_assign (v := .slice (ownA key179) ((ls.length + i) + 1) c180) rfl) ?_
        refine wnil ?_
        refine blockNormal ?_
        refine thenNormal ?_
        refine oneRegion ?_
        refine sq (r_addI (a := (i : Nat)) (b := (1 : Int)) rfl rfl (by omega)) ?_
        refine sq (r_move (v := i64 ((i : Nat) + (1 : Int))) rfl) ?_
        refine wnil ?_
        refine thenNormal ?_
        exact ⟨(i + 1, key179, c180, sp181, (eS lhash first gs tb ls i).2), _, rfl, ⟨rfl, rfl, rfl, rfl, rfl, rfl, rfl, rfl, rfl, trivial⟩, ⟨⟨by omega, hS187, by rw [eS, estep, if_neg hn1, if_neg hn2]⟩, (((H188.dropk 2).dropk 1).dropk 0)⟩, by show gs.length - (i + 1) < gs.length - i; omega⟩
  · skip
    have hie : i = gs.length := by omega
    rw [hie] at HL h1
    rw [hie]
    refine exitAny ?_
    refine thenExit ?_
    refine thenExit ?_
    refine blockHere ?_
    refine thenNormal ?_
    refine seqRegion ?_
    refine sq (r_loadA (cs' := #[i64 ((ls.length : Nat)), .slice ga gs.length gc, .slice oa ol.length oc]) agg70 siz70 (HL.get (k := 1) rfl) (off := 0) rfl (by exact Nat.le_of_ble_eq_true rfl) (by rfl)) ?_
    refine sq (r_move (v := .slice (ownA k1) (ls.length + gs.length) c1) rfl) ?_
    refine c_call (vs := [.agg #[i64 ((ls.length : Nat)), .slice ga gs.length gc, .slice oa ol.length oc], .slice (ownA k1) (ls.length + gs.length) c1]) call90 rfl (outs_ok ((ls.length : Nat) : Int) gs ol ga oa gc oc ((eS lhash first gs tb ls gs.length).1) (ownA k1) (ls.length + gs.length) c1 (by rw [eS_len]) w33 (hOl.ext HL.chg) (HL.rd (k := 0) rfl h1) (by omega) (fun j hj => by rw [eS_len]; have := hg.ook j hj; omega)) ?_
    rintro _ w189 ⟨⟨key191, c192, sp193, rfl, hS194, hk195⟩, hE196⟩
    rw [show (oL (eS lhash first gs tb ls gs.length).1 ol ol.length).length = ol.length from oL_len _ _ _]
    have H197 := HL.add hE196 hk195
    refine sq (r_assign (v := .slice (ownA key191) ol.length c192) rfl) ?_
    refine sq (r_assign (v := .nilIface) rfl) ?_
    refine wend ?_
    refine retAny ?_
    refine retG (rs := [.tmp 8, .tmp 9]) (vs := [.slice (ownA key191) ol.length c192, .nilIface]) rfl ⟨⟨rfl, rfl⟩, ⟨rfl, rfl⟩, trivial⟩ ?_
    exact ⟨_, rfl, key191, c192, sp193, rfl, hS194, (((H197.dropk 3).dropk 2).dropk 1)⟩
end Go.Proofs.YteofdmdpaejgaaaDoor.Gb
