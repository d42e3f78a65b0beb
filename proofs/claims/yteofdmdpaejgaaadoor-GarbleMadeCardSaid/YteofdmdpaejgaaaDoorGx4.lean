/- What the claim has need of: Circ, Circ2, Garb, Garb2, Garb3. -/
import Derived.Test.YteofdmdpaejgaaaDoorGx3
import Derived.Laws.StructEq
namespace Go.Proofs.YteofdmdpaejgaaaDoor.Er
open Go Go.Proofs.YteofdmdpaejgaaaDoor.Vc Go.Proofs.YteofdmdpaejgaaaDoor.Circ
theorem agg70 : isAgg' Tryd.prog 70 = true := by kernel_rfl
theorem byt4 : byt Tryd.prog 4 = some 1 := by kernel_rfl
theorem call24 : callable Tryd.prog 24 = true := by kernel_rfl
theorem call31 : callable Tryd.prog 31 = true := by kernel_rfl
theorem call32 : callable Tryd.prog 32 = true := by kernel_rfl
theorem call63 : callable Tryd.prog 63 = true := by kernel_rfl
theorem fits3 : Fits Tryd.prog 3 EI := fitsI (by kernel_rfl) (by kernel_rfl)
theorem fits4 : Fits Tryd.prog 4 EB := fitsB (by kernel_rfl) (by kernel_rfl)
theorem fits99 : Fits Tryd.prog 99 EG := fitsG (by kernel_rfl) (by kernel_rfl)
theorem fld70_0 : fld Tryd.prog 70 0 = some (0, 1, 3) := by kernel_rfl
theorem fld70_1 : fld Tryd.prog 70 1 = some (1, 1, 68) := by kernel_rfl
theorem fld70_2 : fld Tryd.prog 70 2 = some (2, 1, 60) := by kernel_rfl
theorem fld99_0 : fld Tryd.prog 99 0 = some (0, 1, 97) := by kernel_rfl
theorem fld99_1 : fld Tryd.prog 99 1 = some (1, 1, 3) := by kernel_rfl
theorem fld99_2 : fld Tryd.prog 99 2 = some (2, 1, 3) := by kernel_rfl
theorem one3 : isOne Tryd.prog 3 = true := by kernel_rfl
theorem one60 : isOne Tryd.prog 60 = true := by kernel_rfl
theorem one68 : isOne Tryd.prog 68 = true := by kernel_rfl
theorem one97 : isOne Tryd.prog 97 = true := by kernel_rfl
theorem pls70 : pls Tryd.prog 70 = some #[(0, 1), (1, 1), (2, 1)] := by kernel_rfl
theorem pls99 : pls Tryd.prog 99 = some #[(0, 1), (1, 1), (2, 1)] := by kernel_rfl
theorem siz70 : siz Tryd.prog 70 = some 3 := by kernel_rfl
theorem siz99 : siz Tryd.prog 99 = some 3 := by kernel_rfl
theorem sli60 : sli Tryd.prog 60 = some (3, 1) := by kernel_rfl
theorem sli68 : sli Tryd.prog 68 = some (99, 3) := by kernel_rfl
theorem sli76 : sli Tryd.prog 76 = some (4, 1) := by kernel_rfl
theorem und4 : Tryd.prog.underlying 4 = some .bool := by kernel_rfl
theorem zer3 : zer Tryd.prog 3 = some (.int .i64 0) := by kernel_rfl
theorem zer4 : zer Tryd.prog 4 = some (.bool false) := by kernel_rfl
theorem zer70 : zer Tryd.prog 70 = some (.agg #[.int .i64 0, .slice none 0 0, .slice none 0 0]) := by kernel_rfl
theorem zer99 : zer Tryd.prog 99 = some (.agg #[.int .i64 0, .int .i64 0, .int .i64 0]) := by kernel_rfl
set_option maxHeartbeats 2000000 in
theorem check_ok (n : Int) (gs : List Gt) (ol : List Int) (ga oa : Option Addr) (gc oc : Nat) (w : World) (hG : Gl w) (hGs : Rd EG w ga gs) (hOl : Rd EI w oa ol) (hgl : gs.length ≤ 140737488355328) (hol : ol.length ≤ 140737488355328) : Calls Tryd.prog 31 [.agg #[i64 (n), .slice ga gs.length gc, .slice oa ol.length oc]].toArray w (Ret fun v w' => ((v = .nilIface ∧ IsC n gs ol) ∨ (Er w.heap.size w' 90 1 v ∧ ¬ IsC n gs ol)) ∧ Ext w w') := by
 have H := Hp.start No w
 refine enter (n := 109) Tryd.func31 rfl rfl (bLe rfl) ?_
 refine sR ?_
 refine q_box (v := .agg #[i64 (n), .slice ga gs.length gc, .slice oa ol.length oc]) (o := .cells #[i64 (n), .slice ga gs.length gc, .slice oa ol.length oc] 70 (0, 0)) H rfl (by rfl) ?_
 intro b1 w2 hb1 H3 hE4
 refine sA (.nilIface) rfl ?_
 refine wend ?_
 refine seqAny ?_
 refine sR ?_
 refine sq (r_fieldAddr (off' := 0) fld70_0 (by decide) (b := b1) (off := 0) rfl (by omega)) ?_
 refine sq (r_loadC (v := i64 (n)) one3 (H3.get (k := 0) rfl) (off := 0) rfl (by rfl)) ?_
 refine sq (r_lssI (a := n) (b := (0 : Int)) rfl rfl) ?_
 refine sM (.bool (decide ((n : Int) < (0 : Int)))) rfl ?_
 by_cases g5 : (n : Int) < (0 : Int)
 ·skip
  refine skAny (wantedSome (d' := 12) (b := true) rfl rfl (congrArg Value.bool (decide_eq_true g5))) ?_
  refine skAny (wantedSome (d' := 12) (b := true) rfl rfl (congrArg Value.bool (decide_eq_true g5))) ?_
  refine skAny (wantedSome (d' := 12) (b := true) rfl rfl (congrArg Value.bool (decide_eq_true g5))) ?_
  refine sq (r_pickT (u := .bool (true)) (congrArg Value.bool (decide_eq_true g5)) rfl) ?_
  refine sM (.bool (true)) rfl ?_
  refine skAny (wantedSome (d' := 17) (b := true) rfl rfl rfl) ?_
  refine skAny (wantedSome (d' := 17) (b := true) rfl rfl rfl) ?_
  refine skAny (wantedSome (d' := 17) (b := true) rfl rfl rfl) ?_
  refine skAny (wantedSome (d' := 17) (b := true) rfl rfl rfl) ?_
  refine sq (r_pickT (u := .bool (true)) rfl rfl) ?_
  refine sM (.bool (true)) rfl ?_
  refine skAny (wantedSome (d' := 23) (b := true) rfl rfl rfl) ?_
  refine skAny (wantedSome (d' := 23) (b := true) rfl rfl rfl) ?_
  refine skAny (wantedSome (d' := 23) (b := true) rfl rfl rfl) ?_
  refine skAny (wantedSome (d' := 23) (b := true) rfl rfl rfl) ?_
  refine sq (r_pickT (u := .bool (true)) rfl rfl) ?_
  refine wend ?_
  refine condTrue rfl ?_
  refine sR ?_
  refine sq (r_mkI und57 (xv := i64 ((90 : Int))) rfl) ?_
  refine sq (r_fieldAddr (off' := 0) fld70_0 (by decide) (b := b1) (off := 0) rfl (by omega)) ?_
  refine sq (r_loadC (v := i64 (n)) one3 (H3.get (k := 0) rfl) (off := 0) rfl (by rfl)) ?_
  have := H3.lt (List.mem_of_getElem? (i := 0) rfl) rfl
  refine c_call (vs := [.iface 57 (i64 ((90 : Int))), .string ({data := #[99, 105, 114, 99, 117, 105, 116]}), i64 (n)]) call63 rfl (wrap0_ok (90 : Int) n ({data := #[99, 105, 114, 99, 117, 105, 116]}) w2 (Chg.gl H3.chg (fun x => x) hG)) ?_
  rintro v8 w6 ⟨hEr9, hE10⟩
  have H11 := H3.ext hE10
  obtain ⟨T12, x13, rfl⟩ := hEr9.iface
  refine sA (.iface T12 (x13)) rfl ?_
  refine wend ?_
  refine retAny ?_
  refine thenRet ?_
  refine retG (rs := [.tmp 2]) (vs := [.iface T12 (x13)]) rfl ⟨⟨rfl, rfl⟩, trivial⟩ ?_
  exact ⟨_, rfl, .inr ⟨hEr9.mono H3.chg.size, fun hg => by have := hg.lo; have := hg.hi; have := hg.gates; have := hg.outs; omega⟩, H11.chg⟩
 ·skip
  refine sqAny (v := pT b1) (w' := w2) (wantedSome (d' := 12) (b := false) rfl rfl (congrArg Value.bool (decide_eq_false g5))) (r_fieldAddr (off' := 0) fld70_0 (by decide) (b := b1) (off := 0) rfl (by omega)) ?_
  refine sqAny (v := i64 (n)) (w' := w2) (wantedSome (d' := 12) (b := false) rfl rfl (congrArg Value.bool (decide_eq_false g5))) (r_loadC (v := i64 (n)) one3 (H3.get (k := 0) rfl) (off := 0) rfl (by rfl)) ?_
  refine sqAny (v := .bool (decide (((4096 : Int) : Int) < n))) (w' := w2) (wantedSome (d' := 12) (b := false) rfl rfl (congrArg Value.bool (decide_eq_false g5))) (r_gtrI (a := n) (b := (4096 : Int)) rfl rfl) ?_
  refine sq (r_pickF (v := .bool (decide (((4096 : Int) : Int) < n))) (congrArg Value.bool (decide_eq_false g5)) rfl) ?_
  refine sM (.bool (decide (((4096 : Int) : Int) < n))) rfl ?_
  by_cases g14 : ((4096 : Int) : Int) < n
  ·skip
   refine skAny (wantedSome (d' := 17) (b := true) rfl rfl (congrArg Value.bool (decide_eq_true g14))) ?_
   refine skAny (wantedSome (d' := 17) (b := true) rfl rfl (congrArg Value.bool (decide_eq_true g14))) ?_
   refine skAny (wantedSome (d' := 17) (b := true) rfl rfl (congrArg Value.bool (decide_eq_true g14))) ?_
   refine skAny (wantedSome (d' := 17) (b := true) rfl rfl (congrArg Value.bool (decide_eq_true g14))) ?_
   refine sq (r_pickT (u := .bool (true)) (congrArg Value.bool (decide_eq_true g14)) rfl) ?_
   refine sM (.bool (true)) rfl ?_
   refine skAny (wantedSome (d' := 23) (b := true) rfl rfl rfl) ?_
   refine skAny (wantedSome (d' := 23) (b := true) rfl rfl rfl) ?_
   refine skAny (wantedSome (d' := 23) (b := true) rfl rfl rfl) ?_
   refine skAny (wantedSome (d' := 23) (b := true) rfl rfl rfl) ?_
   refine sq (r_pickT (u := .bool (true)) rfl rfl) ?_
   refine wend ?_
   refine condTrue rfl ?_
   refine sR ?_
   refine sq (r_mkI und57 (xv := i64 ((90 : Int))) rfl) ?_
   refine sq (r_fieldAddr (off' := 0) fld70_0 (by decide) (b := b1) (off := 0) rfl (by omega)) ?_
   refine sq (r_loadC (v := i64 (n)) one3 (H3.get (k := 0) rfl) (off := 0) rfl (by rfl)) ?_
   have := H3.lt (List.mem_of_getElem? (i := 0) rfl) rfl
   refine c_call (vs := [.iface 57 (i64 ((90 : Int))), .string ({data := #[99, 105, 114, 99, 117, 105, 116]}), i64 (n)]) call63 rfl (wrap0_ok (90 : Int) n ({data := #[99, 105, 114, 99, 117, 105, 116]}) w2 (Chg.gl H3.chg (fun x => x) hG)) ?_
   rintro v17 w15 ⟨hEr18, hE19⟩
   have H20 := H3.ext hE19
   obtain ⟨T21, x22, rfl⟩ := hEr18.iface
   refine sA (.iface T21 (x22)) rfl ?_
   refine wend ?_
   refine retAny ?_
   refine thenRet ?_
   refine retG (rs := [.tmp 2]) (vs := [.iface T21 (x22)]) rfl ⟨⟨rfl, rfl⟩, trivial⟩ ?_
   exact ⟨_, rfl, .inr ⟨hEr18.mono H3.chg.size, fun hg => by have := hg.lo; have := hg.hi; have := hg.gates; have := hg.outs; omega⟩, H20.chg⟩
  ·skip
   refine sqAny (v := .pointer (some ⟨b1, 1, none⟩)) (w' := w2) (wantedSome (d' := 17) (b := false) rfl rfl (congrArg Value.bool (decide_eq_false g14))) (r_fieldAddr (off' := 1) fld70_1 (by decide) (b := b1) (off := 0) rfl (by omega)) ?_
   refine sqAny (v := .slice ga gs.length gc) (w' := w2) (wantedSome (d' := 17) (b := false) rfl rfl (congrArg Value.bool (decide_eq_false g14))) (r_loadC (v := .slice ga gs.length gc) one68 (H3.get (k := 0) rfl) (off := 1) rfl (by rfl)) ?_
   refine sqAny (v := i64 (gs.length : Nat)) (w' := w2) (wantedSome (d' := 17) (b := false) rfl rfl (congrArg Value.bool (decide_eq_false g14))) (r_lenS sli68 (a := ga) (m := gs.length) (c := gc) rfl) ?_
   refine sqAny (v := .bool (decide (((4096 : Int) : Int) < (gs.length : Nat)))) (w' := w2) (wantedSome (d' := 17) (b := false) rfl rfl (congrArg Value.bool (decide_eq_false g14))) (r_gtrI (a := (gs.length : Nat)) (b := (4096 : Int)) rfl rfl) ?_
   refine sq (r_pickF (v := .bool (decide (((4096 : Int) : Int) < (gs.length : Nat)))) (congrArg Value.bool (decide_eq_false g14)) rfl) ?_
   refine sM (.bool (decide (((4096 : Int) : Int) < (gs.length : Nat)))) rfl ?_
   by_cases g23 : ((4096 : Int) : Int) < (gs.length : Nat)
   ·skip
    refine skAny (wantedSome (d' := 23) (b := true) rfl rfl (congrArg Value.bool (decide_eq_true g23))) ?_
    refine skAny (wantedSome (d' := 23) (b := true) rfl rfl (congrArg Value.bool (decide_eq_true g23))) ?_
    refine skAny (wantedSome (d' := 23) (b := true) rfl rfl (congrArg Value.bool (decide_eq_true g23))) ?_
    refine skAny (wantedSome (d' := 23) (b := true) rfl rfl (congrArg Value.bool (decide_eq_true g23))) ?_
    refine sq (r_pickT (u := .bool (true)) (congrArg Value.bool (decide_eq_true g23)) rfl) ?_
    refine wend ?_
    refine condTrue rfl ?_
    refine sR ?_
    refine sq (r_mkI und57 (xv := i64 ((90 : Int))) rfl) ?_
    refine sq (r_fieldAddr (off' := 0) fld70_0 (by decide) (b := b1) (off := 0) rfl (by omega)) ?_
    refine sq (r_loadC (v := i64 (n)) one3 (H3.get (k := 0) rfl) (off := 0) rfl (by rfl)) ?_
    have := H3.lt (List.mem_of_getElem? (i := 0) rfl) rfl
    refine c_call (vs := [.iface 57 (i64 ((90 : Int))), .string ({data := #[99, 105, 114, 99, 117, 105, 116]}), i64 (n)]) call63 rfl (wrap0_ok (90 : Int) n ({data := #[99, 105, 114, 99, 117, 105, 116]}) w2 (Chg.gl H3.chg (fun x => x) hG)) ?_
    rintro v26 w24 ⟨hEr27, hE28⟩
    have H29 := H3.ext hE28
    obtain ⟨T30, x31, rfl⟩ := hEr27.iface
    refine sA (.iface T30 (x31)) rfl ?_
    refine wend ?_
    refine retAny ?_
    refine thenRet ?_
    refine retG (rs := [.tmp 2]) (vs := [.iface T30 (x31)]) rfl ⟨⟨rfl, rfl⟩, trivial⟩ ?_
    exact ⟨_, rfl, .inr ⟨hEr27.mono H3.chg.size, fun hg => by have := hg.lo; have := hg.hi; have := hg.gates; have := hg.outs; omega⟩, H29.chg⟩
   ·skip
    refine sqAny (v := .pointer (some ⟨b1, 2, none⟩)) (w' := w2) (wantedSome (d' := 23) (b := false) rfl rfl (congrArg Value.bool (decide_eq_false g23))) (r_fieldAddr (off' := 2) fld70_2 (by decide) (b := b1) (off := 0) rfl (by omega)) ?_
    refine sqAny (v := .slice oa ol.length oc) (w' := w2) (wantedSome (d' := 23) (b := false) rfl rfl (congrArg Value.bool (decide_eq_false g23))) (r_loadC (v := .slice oa ol.length oc) one60 (H3.get (k := 0) rfl) (off := 2) rfl (by rfl)) ?_
    refine sqAny (v := i64 (ol.length : Nat)) (w' := w2) (wantedSome (d' := 23) (b := false) rfl rfl (congrArg Value.bool (decide_eq_false g23))) (r_lenS sli60 (a := oa) (m := ol.length) (c := oc) rfl) ?_
    refine sqAny (v := .bool (decide (((64 : Int) : Int) < (ol.length : Nat)))) (w' := w2) (wantedSome (d' := 23) (b := false) rfl rfl (congrArg Value.bool (decide_eq_false g23))) (r_gtrI (a := (ol.length : Nat)) (b := (64 : Int)) rfl rfl) ?_
    refine sq (r_pickF (v := .bool (decide (((64 : Int) : Int) < (ol.length : Nat)))) (congrArg Value.bool (decide_eq_false g23)) rfl) ?_
    refine wend ?_
    refine condProp (((64 : Int) : Int) < (ol.length : Nat)) rfl (fun c28 => ?_) (fun c28 => ?_)
    ·skip
     refine sR ?_
     refine sq (r_mkI und57 (xv := i64 ((90 : Int))) rfl) ?_
     refine sq (r_fieldAddr (off' := 0) fld70_0 (by decide) (b := b1) (off := 0) rfl (by omega)) ?_
     refine sq (r_loadC (v := i64 (n)) one3 (H3.get (k := 0) rfl) (off := 0) rfl (by rfl)) ?_
     have := H3.lt (List.mem_of_getElem? (i := 0) rfl) rfl
     refine c_call (vs := [.iface 57 (i64 ((90 : Int))), .string ({data := #[99, 105, 114, 99, 117, 105, 116]}), i64 (n)]) call63 rfl (wrap0_ok (90 : Int) n ({data := #[99, 105, 114, 99, 117, 105, 116]}) w2 (Chg.gl H3.chg (fun x => x) hG)) ?_
     rintro v34 w32 ⟨hEr35, hE36⟩
     have H37 := H3.ext hE36
     obtain ⟨T38, x39, rfl⟩ := hEr35.iface
     refine sA (.iface T38 (x39)) rfl ?_
     refine wend ?_
     refine retAny ?_
     refine thenRet ?_
     refine retG (rs := [.tmp 2]) (vs := [.iface T38 (x39)]) rfl ⟨⟨rfl, rfl⟩, trivial⟩ ?_
     exact ⟨_, rfl, .inr ⟨hEr35.mono H3.chg.size, fun hg => by have := hg.lo; have := hg.hi; have := hg.gates; have := hg.outs; omega⟩, H37.chg⟩
    ·skip
     refine skipAny ?_
     refine thenNormal ?_
     refine seqAny ?_
     refine sR ?_
     refine sq (r_fieldAddr (off' := 1) fld70_1 (by decide) (b := b1) (off := 0) rfl (by omega)) ?_
     refine sq (r_loadC (v := .slice ga gs.length gc) one68 (H3.get (k := 0) rfl) (off := 1) rfl (by rfl)) ?_
     refine sq (r_lenS sli68 (a := ga) (m := gs.length) (c := gc) rfl) ?_
     refine sM (i64 ((0 : Int))) rfl ?_
     refine wend ?_
     refine blockAny ?_
     refine loopAny (σ := Nat) (fun i => [(1, pT b1), (34, .slice ga gs.length gc), (35, i64 (gs.length : Nat)), (36, i64 (i : Nat))]) (fun i w' => i ≤ gs.length ∧ (∀ j, j < i → gokP (gs.getD j g0) (n + (j : Nat))) ∧ Hp No w w' [(some b1, .cells #[i64 (n), .slice ga gs.length gc, .slice oa ol.length oc] 70 (0, 0))]) (fun i => gs.length - i) (0) ?_ ?_ ?_
     ·exact ⟨rfl, rfl, rfl, rfl, trivial⟩
     ·exact ⟨by omega, fun j hj => by omega, H3⟩
     rintro i ρ w40 ⟨hi, hgs, HL⟩
     refine sR ?_
     refine sq (r_lssI (a := (i : Nat)) (b := (gs.length : Nat)) rfl rfl) ?_
     refine wend ?_
     refine seqAny ?_
     refine condProp (((i : Nat) : Int) < (gs.length : Nat)) rfl (fun c37 => ?_) (fun c37 => ?_)
     ·skip
      refine skipAny ?_
      refine thenNormal ?_
      refine seqAny ?_
      refine blockAny ?_
      refine sR ?_
      refine sM (i64 (i : Nat)) rfl ?_
      refine sq (r_idxS (E := EG) (l := gs) (j := i) sli68 (hGs.ext HL.chg) rfl rfl (by first | rfl | omega | (simp; omega)) (by rfl) (by omega)) ?_
      refine sq ((r_ldS (E := EG) (l := gs) (j := i) (v := (gs).getD i g0) fits99 (hGs.ext HL.chg) rfl rfl (at_getD (by omega))).as (v' := .agg #[i64 (((gs).getD i g0).k), i64 (((gs).getD i g0).a), i64 (((gs).getD i g0).b)]) rfl) ?_
      refine q_alloc (o := .cells #[i64 ((0 : Int)), i64 ((0 : Int)), i64 ((0 : Int))] 99 (0, 0)) HL zer99 (by kernel_rfl) ?_
      intro b42 w43 hb42 H44 hE45
      refine sA (i64 (i : Nat)) rfl ?_
      refine d_store (k := 0) (v := .agg #[i64 (((gs).getD i g0).k), i64 (((gs).getD i g0).a), i64 (((gs).getD i g0).b)]) (cs' := #[i64 (((gs).getD i g0).k), i64 (((gs).getD i g0).a), i64 (((gs).getD i g0).b)]) H44 rfl rfl rfl siz99 (by rfl) (by intro u hu; simp [Value.cells] at hu; first | (subst hu; rfl) | (rcases hu with rfl | rfl | rfl <;> rfl)) (by exact bLe rfl) (by rfl) ?_
      intro w46 H47 hC48
      have H47' := H47.as (L' := [(some b42, .cells #[i64 (((gs).getD i g0).k), i64 (((gs).getD i g0).a), i64 (((gs).getD i g0).b)] 99 (0, 0)), (some b1, .cells #[i64 (n), .slice ga gs.length gc, .slice oa ol.length oc] 70 (0, 0))]) rfl
      clear H47
      refine wend ?_
      refine sR ?_
      refine sq (r_fieldAddr (off' := 0) fld70_0 (by decide) (b := b1) (off := 0) rfl (by omega)) ?_
      refine sq (r_loadC (v := i64 (n)) one3 (H47'.get (k := 1) rfl) (off := 0) rfl (by rfl)) ?_
      refine sM (i64 (i : Nat)) rfl ?_
      refine sq (r_addI (a := n) (b := (i : Nat)) rfl rfl (by omega)) ?_
      refine sA (i64 (n + (i : Nat))) rfl ?_
      refine wend ?_
      refine sR ?_
      refine sq (r_fieldAddr (off' := 1) fld99_1 (by decide) (b := b42) (off := 0) rfl (by omega)) ?_
      refine sq (r_loadC (v := i64 (((gs).getD i g0).a)) one3 (H47'.get (k := 0) rfl) (off := 1) rfl (by rfl)) ?_
      refine sq (r_geqI (a := ((gs).getD i g0).a) (b := (0 : Int)) rfl rfl) ?_
      refine sM (.bool (decide (((0 : Int) : Int) ≤ (((gs).getD i g0).a)))) rfl ?_
      by_cases g49 : ((0 : Int) : Int) ≤ (((gs).getD i g0).a)
      ·skip
       refine sqAny (v := .pointer (some ⟨b42, 1, none⟩)) (w' := w46) (wantedSome (d' := 48) (b := true) rfl rfl (congrArg Value.bool (decide_eq_true g49))) (r_fieldAddr (off' := 1) fld99_1 (by decide) (b := b42) (off := 0) rfl (by omega)) ?_
       refine sqAny (v := i64 (((gs).getD i g0).a)) (w' := w46) (wantedSome (d' := 48) (b := true) rfl rfl (congrArg Value.bool (decide_eq_true g49))) (r_loadC (v := i64 (((gs).getD i g0).a)) one3 (H47'.get (k := 0) rfl) (off := 1) rfl (by rfl)) ?_
       refine sqAny (v := i64 (n + (i : Nat))) (w' := w46) (wantedSome (d' := 48) (b := true) rfl rfl (congrArg Value.bool (decide_eq_true g49))) (r_move (v := i64 (n + (i : Nat))) rfl) ?_
       refine sqAny (v := .bool (decide ((((gs).getD i g0).a : Int) < (n + (i : Nat))))) (w' := w46) (wantedSome (d' := 48) (b := true) rfl rfl (congrArg Value.bool (decide_eq_true g49))) (r_lssI (a := ((gs).getD i g0).a) (b := n + (i : Nat)) rfl rfl) ?_
       refine sq (r_pickT (u := .bool (decide ((((gs).getD i g0).a : Int) < (n + (i : Nat))))) (congrArg Value.bool (decide_eq_true g49)) rfl) ?_
       refine sA (.bool (decide ((((gs).getD i g0).a : Int) < (n + (i : Nat))))) rfl ?_
       refine wend ?_
       refine seqAny ?_
       refine sR ?_
       refine sq (r_fieldAddr (off' := 0) fld99_0 (by decide) (b := b42) (off := 0) rfl (by omega)) ?_
       refine sq (r_loadC (v := i64 (((gs).getD i g0).k)) one97 (H47'.get (k := 0) rfl) (off := 0) rfl (by rfl)) ?_
       refine wend ?_
       refine blockAny ?_
       refine seqAny ?_
       refine sR ?_
       refine sq (r_eqlI (a := ((gs).getD i g0).k) (b := (1 : Int)) rfl rfl) ?_
       refine sA (.bool (decide ((((gs).getD i g0).k : Int) = (1 : Int)))) rfl ?_
       refine wend ?_
       refine condProp ((((gs).getD i g0).k : Int) = (1 : Int)) rfl (fun c56 => ?_) (fun c56 => ?_)
       ·skip
        refine skipAny ?_
        refine thenNormal ?_
        refine condTrue (congrArg Value.bool (decide_eq_true c56)) ?_
        refine oneRegion ?_
        refine sM (.bool (decide ((((gs).getD i g0).a : Int) < (n + (i : Nat))))) rfl ?_
        refine sM (.bool (decide ((((gs).getD i g0).a : Int) < (n + (i : Nat))))) rfl ?_
        by_cases g50 : (((gs).getD i g0).a : Int) < (n + (i : Nat))
        ·skip
         refine sqAny (v := .pointer (some ⟨b42, 2, none⟩)) (w' := w46) (wantedSome (d' := 60) (b := true) rfl rfl (congrArg Value.bool (decide_eq_true g50))) (r_fieldAddr (off' := 2) fld99_2 (by decide) (b := b42) (off := 0) rfl (by omega)) ?_
         refine sqAny (v := i64 (((gs).getD i g0).b)) (w' := w46) (wantedSome (d' := 60) (b := true) rfl rfl (congrArg Value.bool (decide_eq_true g50))) (r_loadC (v := i64 (((gs).getD i g0).b)) one3 (H47'.get (k := 0) rfl) (off := 2) rfl (by rfl)) ?_
         refine sqAny (v := .bool (decide (((0 : Int) : Int) ≤ (((gs).getD i g0).b)))) (w' := w46) (wantedSome (d' := 60) (b := true) rfl rfl (congrArg Value.bool (decide_eq_true g50))) (r_geqI (a := ((gs).getD i g0).b) (b := (0 : Int)) rfl rfl) ?_
         refine sq (r_pickT (u := .bool (decide (((0 : Int) : Int) ≤ (((gs).getD i g0).b)))) (congrArg Value.bool (decide_eq_true g50)) rfl) ?_
         refine sM (.bool (decide (((0 : Int) : Int) ≤ (((gs).getD i g0).b)))) rfl ?_
         by_cases g51 : ((0 : Int) : Int) ≤ (((gs).getD i g0).b)
         ·skip
          refine sqAny (v := .pointer (some ⟨b42, 2, none⟩)) (w' := w46) (wantedSome (d' := 65) (b := true) rfl rfl (congrArg Value.bool (decide_eq_true g51))) (r_fieldAddr (off' := 2) fld99_2 (by decide) (b := b42) (off := 0) rfl (by omega)) ?_
          refine sqAny (v := i64 (((gs).getD i g0).b)) (w' := w46) (wantedSome (d' := 65) (b := true) rfl rfl (congrArg Value.bool (decide_eq_true g51))) (r_loadC (v := i64 (((gs).getD i g0).b)) one3 (H47'.get (k := 0) rfl) (off := 2) rfl (by rfl)) ?_
          refine sqAny (v := i64 (n + (i : Nat))) (w' := w46) (wantedSome (d' := 65) (b := true) rfl rfl (congrArg Value.bool (decide_eq_true g51))) (r_move (v := i64 (n + (i : Nat))) rfl) ?_
          refine sqAny (v := .bool (decide ((((gs).getD i g0).b : Int) < (n + (i : Nat))))) (w' := w46) (wantedSome (d' := 65) (b := true) rfl rfl (congrArg Value.bool (decide_eq_true g51))) (r_lssI (a := ((gs).getD i g0).b) (b := n + (i : Nat)) rfl rfl) ?_
          refine sq (r_pickT (u := .bool (decide ((((gs).getD i g0).b : Int) < (n + (i : Nat))))) (congrArg Value.bool (decide_eq_true g51)) rfl) ?_
          refine sA (.bool (decide ((((gs).getD i g0).b : Int) < (n + (i : Nat))))) rfl ?_
          refine wnil ?_
          refine blockNormal ?_
          refine thenNormal ?_
          refine sR ?_
          refine sM (.bool (decide ((((gs).getD i g0).b : Int) < (n + (i : Nat))))) rfl ?_
          refine sq (r_not (b := decide ((((gs).getD i g0).b : Int) < (n + (i : Nat)))) rfl) ?_
          refine wend ?_
          refine condBool (!(decide ((((gs).getD i g0).b : Int) < (n + (i : Nat))))) rfl (fun c80 => ?_) (fun c80 => ?_)
          ·skip
           replace c80 : ¬ ((((gs).getD i g0).b : Int) < (n + (i : Nat))) := by simpa using c80
           refine sR ?_
           refine sq (r_mkI und57 (xv := i64 ((90 : Int))) rfl) ?_
           refine sM (i64 (i : Nat)) rfl ?_
           have := H47'.lt (List.mem_of_getElem? (i := 0) rfl) rfl
           have := H47'.lt (List.mem_of_getElem? (i := 1) rfl) rfl
           refine c_call (vs := [.iface 57 (i64 ((90 : Int))), .string ({data := #[103, 97, 116, 101]}), i64 (i : Nat)]) call63 rfl (wrap0_ok (90 : Int) (i : Nat) ({data := #[103, 97, 116, 101]}) w46 (Chg.gl H47'.chg (fun x => x) hG)) ?_
           rintro v54 w52 ⟨hEr55, hE56⟩
           have H57 := H47'.ext hE56
           obtain ⟨T58, x59, rfl⟩ := hEr55.iface
           refine sA (.iface T58 (x59)) rfl ?_
           refine wend ?_
           refine retAny ?_
           refine blockRet ?_
           refine thenRet ?_
           refine thenRet ?_
           refine blockRet ?_
           refine thenRet ?_
           refine retG (rs := [.tmp 2]) (vs := [.iface T58 (x59)]) rfl ⟨⟨rfl, rfl⟩, trivial⟩ ?_
           exact ⟨_, rfl, .inr ⟨hEr55.mono H47'.chg.size, fun hg => by have := hg.gok i (by omega); unfold gokP at this; omega⟩, H57.chg⟩
          ·skip
           replace c80 : (((gs).getD i g0).b : Int) < (n + (i : Nat)) := by simpa using c80
           refine skipAny ?_
           refine blockNormal ?_
           refine thenNormal ?_
           refine oneRegion ?_
           refine sq (r_addI (a := (i : Nat)) (b := (1 : Int)) rfl rfl (by omega)) ?_
           refine sM (i64 ((i : Nat) + (1 : Int))) rfl ?_
           refine wnil ?_
           refine thenNormal ?_
           have hgi : gokP (gs.getD i g0) (n + (i : Nat)) := by unfold gokP; omega
           exact ⟨i + 1, _, rfl, ⟨rfl, rfl, rfl, rfl, trivial⟩, ⟨by omega, fun j hj => if h : j < i then hgs j h else by (rw [show j = i by omega]; exact hgi), (H47'.dropk 0)⟩, by show gs.length - (i + 1) < gs.length - i; omega⟩
         ·skip
          refine skAny (wantedSome (d' := 65) (b := false) rfl rfl (congrArg Value.bool (decide_eq_false g51))) ?_
          refine skAny (wantedSome (d' := 65) (b := false) rfl rfl (congrArg Value.bool (decide_eq_false g51))) ?_
          refine skAny (wantedSome (d' := 65) (b := false) rfl rfl (congrArg Value.bool (decide_eq_false g51))) ?_
          refine skAny (wantedSome (d' := 65) (b := false) rfl rfl (congrArg Value.bool (decide_eq_false g51))) ?_
          refine sq (r_pickF (v := .bool (false)) (congrArg Value.bool (decide_eq_false g51)) rfl) ?_
          refine sA (.bool (false)) rfl ?_
          refine wnil ?_
          refine blockNormal ?_
          refine thenNormal ?_
          refine sR ?_
          refine sM (.bool (false)) rfl ?_
          refine sq (r_notF rfl) ?_
          refine wend ?_
          refine condTrue rfl ?_
          refine sR ?_
          refine sq (r_mkI und57 (xv := i64 ((90 : Int))) rfl) ?_
          refine sM (i64 (i : Nat)) rfl ?_
          have := H47'.lt (List.mem_of_getElem? (i := 0) rfl) rfl
          have := H47'.lt (List.mem_of_getElem? (i := 1) rfl) rfl
          refine c_call (vs := [.iface 57 (i64 ((90 : Int))), .string ({data := #[103, 97, 116, 101]}), i64 (i : Nat)]) call63 rfl (wrap0_ok (90 : Int) (i : Nat) ({data := #[103, 97, 116, 101]}) w46 (Chg.gl H47'.chg (fun x => x) hG)) ?_
          rintro v62 w60 ⟨hEr63, hE64⟩
          have H65 := H47'.ext hE64
          obtain ⟨T66, x67, rfl⟩ := hEr63.iface
          refine sA (.iface T66 (x67)) rfl ?_
          refine wend ?_
          refine retAny ?_
          refine blockRet ?_
          refine thenRet ?_
          refine thenRet ?_
          refine blockRet ?_
          refine thenRet ?_
          refine retG (rs := [.tmp 2]) (vs := [.iface T66 (x67)]) rfl ⟨⟨rfl, rfl⟩, trivial⟩ ?_
          exact ⟨_, rfl, .inr ⟨hEr63.mono H47'.chg.size, fun hg => by have := hg.gok i (by omega); unfold gokP at this; omega⟩, H65.chg⟩
        ·skip
         refine skAny (wantedSome (d' := 60) (b := false) rfl rfl (congrArg Value.bool (decide_eq_false g50))) ?_
         refine skAny (wantedSome (d' := 60) (b := false) rfl rfl (congrArg Value.bool (decide_eq_false g50))) ?_
         refine skAny (wantedSome (d' := 60) (b := false) rfl rfl (congrArg Value.bool (decide_eq_false g50))) ?_
         refine sq (r_pickF (v := .bool (false)) (congrArg Value.bool (decide_eq_false g50)) rfl) ?_
         refine sM (.bool (false)) rfl ?_
         refine skAny (wantedSome (d' := 65) (b := false) rfl rfl rfl) ?_
         refine skAny (wantedSome (d' := 65) (b := false) rfl rfl rfl) ?_
         refine skAny (wantedSome (d' := 65) (b := false) rfl rfl rfl) ?_
         refine skAny (wantedSome (d' := 65) (b := false) rfl rfl rfl) ?_
         refine sq (r_pickF (v := .bool (false)) rfl rfl) ?_
         refine sA (.bool (false)) rfl ?_
         refine wnil ?_
         refine blockNormal ?_
         refine thenNormal ?_
         refine sR ?_
         refine sM (.bool (false)) rfl ?_
         refine sq (r_notF rfl) ?_
         refine wend ?_
         refine condTrue rfl ?_
         refine sR ?_
         refine sq (r_mkI und57 (xv := i64 ((90 : Int))) rfl) ?_
         refine sM (i64 (i : Nat)) rfl ?_
         have := H47'.lt (List.mem_of_getElem? (i := 0) rfl) rfl
         have := H47'.lt (List.mem_of_getElem? (i := 1) rfl) rfl
         refine c_call (vs := [.iface 57 (i64 ((90 : Int))), .string ({data := #[103, 97, 116, 101]}), i64 (i : Nat)]) call63 rfl (wrap0_ok (90 : Int) (i : Nat) ({data := #[103, 97, 116, 101]}) w46 (Chg.gl H47'.chg (fun x => x) hG)) ?_
         rintro v70 w68 ⟨hEr71, hE72⟩
         have H73 := H47'.ext hE72
         obtain ⟨T74, x75, rfl⟩ := hEr71.iface
         refine sA (.iface T74 (x75)) rfl ?_
         refine wend ?_
         refine retAny ?_
         refine blockRet ?_
         refine thenRet ?_
         refine thenRet ?_
         refine blockRet ?_
         refine thenRet ?_
         refine retG (rs := [.tmp 2]) (vs := [.iface T74 (x75)]) rfl ⟨⟨rfl, rfl⟩, trivial⟩ ?_
         exact ⟨_, rfl, .inr ⟨hEr71.mono H47'.chg.size, fun hg => by have := hg.gok i (by omega); unfold gokP at this; omega⟩, H73.chg⟩
       ·skip
        refine oneRegion ?_
        refine sq (r_eqlI (a := ((gs).getD i g0).k) (b := (2 : Int)) rfl rfl) ?_
        refine sA (.bool (decide ((((gs).getD i g0).k : Int) = (2 : Int)))) rfl ?_
        refine wnil ?_
        refine thenNormal ?_
        refine condProp ((((gs).getD i g0).k : Int) = (2 : Int)) rfl (fun c56 => ?_) (fun c56 => ?_)
        ·skip
         refine oneRegion ?_
         refine sM (.bool (decide ((((gs).getD i g0).a : Int) < (n + (i : Nat))))) rfl ?_
         refine sM (.bool (decide ((((gs).getD i g0).a : Int) < (n + (i : Nat))))) rfl ?_
         by_cases g76 : (((gs).getD i g0).a : Int) < (n + (i : Nat))
         ·skip
          refine sqAny (v := .pointer (some ⟨b42, 2, none⟩)) (w' := w46) (wantedSome (d' := 60) (b := true) rfl rfl (congrArg Value.bool (decide_eq_true g76))) (r_fieldAddr (off' := 2) fld99_2 (by decide) (b := b42) (off := 0) rfl (by omega)) ?_
          refine sqAny (v := i64 (((gs).getD i g0).b)) (w' := w46) (wantedSome (d' := 60) (b := true) rfl rfl (congrArg Value.bool (decide_eq_true g76))) (r_loadC (v := i64 (((gs).getD i g0).b)) one3 (H47'.get (k := 0) rfl) (off := 2) rfl (by rfl)) ?_
          refine sqAny (v := .bool (decide (((0 : Int) : Int) ≤ (((gs).getD i g0).b)))) (w' := w46) (wantedSome (d' := 60) (b := true) rfl rfl (congrArg Value.bool (decide_eq_true g76))) (r_geqI (a := ((gs).getD i g0).b) (b := (0 : Int)) rfl rfl) ?_
          refine sq (r_pickT (u := .bool (decide (((0 : Int) : Int) ≤ (((gs).getD i g0).b)))) (congrArg Value.bool (decide_eq_true g76)) rfl) ?_
          refine sM (.bool (decide (((0 : Int) : Int) ≤ (((gs).getD i g0).b)))) rfl ?_
          by_cases g77 : ((0 : Int) : Int) ≤ (((gs).getD i g0).b)
          ·skip
           refine sqAny (v := .pointer (some ⟨b42, 2, none⟩)) (w' := w46) (wantedSome (d' := 65) (b := true) rfl rfl (congrArg Value.bool (decide_eq_true g77))) (r_fieldAddr (off' := 2) fld99_2 (by decide) (b := b42) (off := 0) rfl (by omega)) ?_
           refine sqAny (v := i64 (((gs).getD i g0).b)) (w' := w46) (wantedSome (d' := 65) (b := true) rfl rfl (congrArg Value.bool (decide_eq_true g77))) (r_loadC (v := i64 (((gs).getD i g0).b)) one3 (H47'.get (k := 0) rfl) (off := 2) rfl (by rfl)) ?_
           refine sqAny (v := i64 (n + (i : Nat))) (w' := w46) (wantedSome (d' := 65) (b := true) rfl rfl (congrArg Value.bool (decide_eq_true g77))) (r_move (v := i64 (n + (i : Nat))) rfl) ?_
           refine sqAny (v := .bool (decide ((((gs).getD i g0).b : Int) < (n + (i : Nat))))) (w' := w46) (wantedSome (d' := 65) (b := true) rfl rfl (congrArg Value.bool (decide_eq_true g77))) (r_lssI (a := ((gs).getD i g0).b) (b := n + (i : Nat)) rfl rfl) ?_
           refine sq (r_pickT (u := .bool (decide ((((gs).getD i g0).b : Int) < (n + (i : Nat))))) (congrArg Value.bool (decide_eq_true g77)) rfl) ?_
           refine sA (.bool (decide ((((gs).getD i g0).b : Int) < (n + (i : Nat))))) rfl ?_
           refine wnil ?_
           refine blockNormal ?_
           refine thenNormal ?_
           refine sR ?_
           refine sM (.bool (decide ((((gs).getD i g0).b : Int) < (n + (i : Nat))))) rfl ?_
           refine sq (r_not (b := decide ((((gs).getD i g0).b : Int) < (n + (i : Nat)))) rfl) ?_
           refine wend ?_
           refine condBool (!(decide ((((gs).getD i g0).b : Int) < (n + (i : Nat))))) rfl (fun c80 => ?_) (fun c80 => ?_)
           ·skip
            replace c80 : ¬ ((((gs).getD i g0).b : Int) < (n + (i : Nat))) := by simpa using c80
            refine sR ?_
            refine sq (r_mkI und57 (xv := i64 ((90 : Int))) rfl) ?_
            refine sM (i64 (i : Nat)) rfl ?_
            have := H47'.lt (List.mem_of_getElem? (i := 0) rfl) rfl
            have := H47'.lt (List.mem_of_getElem? (i := 1) rfl) rfl
            refine c_call (vs := [.iface 57 (i64 ((90 : Int))), .string ({data := #[103, 97, 116, 101]}), i64 (i : Nat)]) call63 rfl (wrap0_ok (90 : Int) (i : Nat) ({data := #[103, 97, 116, 101]}) w46 (Chg.gl H47'.chg (fun x => x) hG)) ?_
            rintro v80 w78 ⟨hEr81, hE82⟩
            have H83 := H47'.ext hE82
            obtain ⟨T84, x85, rfl⟩ := hEr81.iface
            refine sA (.iface T84 (x85)) rfl ?_
            refine wend ?_
            refine retAny ?_
            refine blockRet ?_
            refine thenRet ?_
            refine thenRet ?_
            refine blockRet ?_
            refine thenRet ?_
            refine retG (rs := [.tmp 2]) (vs := [.iface T84 (x85)]) rfl ⟨⟨rfl, rfl⟩, trivial⟩ ?_
            exact ⟨_, rfl, .inr ⟨hEr81.mono H47'.chg.size, fun hg => by have := hg.gok i (by omega); unfold gokP at this; omega⟩, H83.chg⟩
           ·skip
            replace c80 : (((gs).getD i g0).b : Int) < (n + (i : Nat)) := by simpa using c80
            refine skipAny ?_
            refine blockNormal ?_
            refine thenNormal ?_
            refine oneRegion ?_
            refine sq (r_addI (a := (i : Nat)) (b := (1 : Int)) rfl rfl (by omega)) ?_
            refine sM (i64 ((i : Nat) + (1 : Int))) rfl ?_
            refine wnil ?_
            refine thenNormal ?_
            have hgi : gokP (gs.getD i g0) (n + (i : Nat)) := by unfold gokP; omega
            exact ⟨i + 1, _, rfl, ⟨rfl, rfl, rfl, rfl, trivial⟩, ⟨by omega, fun j hj => if h : j < i then hgs j h else by (rw [show j = i by omega]; exact hgi), (H47'.dropk 0)⟩, by show gs.length - (i + 1) < gs.length - i; omega⟩
          ·skip
           refine skAny (wantedSome (d' := 65) (b := false) rfl rfl (congrArg Value.bool (decide_eq_false g77))) ?_
           refine skAny (wantedSome (d' := 65) (b := false) rfl rfl (congrArg Value.bool (decide_eq_false g77))) ?_
           refine skAny (wantedSome (d' := 65) (b := false) rfl rfl (congrArg Value.bool (decide_eq_false g77))) ?_
           refine skAny (wantedSome (d' := 65) (b := false) rfl rfl (congrArg Value.bool (decide_eq_false g77))) ?_
           refine sq (r_pickF (v := .bool (false)) (congrArg Value.bool (decide_eq_false g77)) rfl) ?_
           refine sA (.bool (false)) rfl ?_
           refine wnil ?_
           refine blockNormal ?_
           refine thenNormal ?_
           refine sR ?_
           refine sM (.bool (false)) rfl ?_
           refine sq (r_notF rfl) ?_
           refine wend ?_
           refine condTrue rfl ?_
           refine sR ?_
           refine sq (r_mkI und57 (xv := i64 ((90 : Int))) rfl) ?_
           refine sM (i64 (i : Nat)) rfl ?_
           have := H47'.lt (List.mem_of_getElem? (i := 0) rfl) rfl
           have := H47'.lt (List.mem_of_getElem? (i := 1) rfl) rfl
           refine c_call (vs := [.iface 57 (i64 ((90 : Int))), .string ({data := #[103, 97, 116, 101]}), i64 (i : Nat)]) call63 rfl (wrap0_ok (90 : Int) (i : Nat) ({data := #[103, 97, 116, 101]}) w46 (Chg.gl H47'.chg (fun x => x) hG)) ?_
           rintro v88 w86 ⟨hEr89, hE90⟩
           have H91 := H47'.ext hE90
           obtain ⟨T92, x93, rfl⟩ := hEr89.iface
           refine sA (.iface T92 (x93)) rfl ?_
           refine wend ?_
           refine retAny ?_
           refine blockRet ?_
           refine thenRet ?_
           refine thenRet ?_
           refine blockRet ?_
           refine thenRet ?_
           refine retG (rs := [.tmp 2]) (vs := [.iface T92 (x93)]) rfl ⟨⟨rfl, rfl⟩, trivial⟩ ?_
           exact ⟨_, rfl, .inr ⟨hEr89.mono H47'.chg.size, fun hg => by have := hg.gok i (by omega); unfold gokP at this; omega⟩, H91.chg⟩
         ·skip
          refine skAny (wantedSome (d' := 60) (b := false) rfl rfl (congrArg Value.bool (decide_eq_false g76))) ?_
          refine skAny (wantedSome (d' := 60) (b := false) rfl rfl (congrArg Value.bool (decide_eq_false g76))) ?_
          refine skAny (wantedSome (d' := 60) (b := false) rfl rfl (congrArg Value.bool (decide_eq_false g76))) ?_
          refine sq (r_pickF (v := .bool (false)) (congrArg Value.bool (decide_eq_false g76)) rfl) ?_
          refine sM (.bool (false)) rfl ?_
          refine skAny (wantedSome (d' := 65) (b := false) rfl rfl rfl) ?_
          refine skAny (wantedSome (d' := 65) (b := false) rfl rfl rfl) ?_
          refine skAny (wantedSome (d' := 65) (b := false) rfl rfl rfl) ?_
          refine skAny (wantedSome (d' := 65) (b := false) rfl rfl rfl) ?_
          refine sq (r_pickF (v := .bool (false)) rfl rfl) ?_
          refine sA (.bool (false)) rfl ?_
          refine wnil ?_
          refine blockNormal ?_
          refine thenNormal ?_
          refine sR ?_
          refine sM (.bool (false)) rfl ?_
          refine sq (r_notF rfl) ?_
          refine wend ?_
          refine condTrue rfl ?_
          refine sR ?_
          refine sq (r_mkI und57 (xv := i64 ((90 : Int))) rfl) ?_
          refine sM (i64 (i : Nat)) rfl ?_
          have := H47'.lt (List.mem_of_getElem? (i := 0) rfl) rfl
          have := H47'.lt (List.mem_of_getElem? (i := 1) rfl) rfl
          refine c_call (vs := [.iface 57 (i64 ((90 : Int))), .string ({data := #[103, 97, 116, 101]}), i64 (i : Nat)]) call63 rfl (wrap0_ok (90 : Int) (i : Nat) ({data := #[103, 97, 116, 101]}) w46 (Chg.gl H47'.chg (fun x => x) hG)) ?_
          rintro v96 w94 ⟨hEr97, hE98⟩
          have H99 := H47'.ext hE98
          obtain ⟨T100, x101, rfl⟩ := hEr97.iface
          refine sA (.iface T100 (x101)) rfl ?_
          refine wend ?_
          refine retAny ?_
          refine blockRet ?_
          refine thenRet ?_
          refine thenRet ?_
          refine blockRet ?_
          refine thenRet ?_
          refine retG (rs := [.tmp 2]) (vs := [.iface T100 (x101)]) rfl ⟨⟨rfl, rfl⟩, trivial⟩ ?_
          exact ⟨_, rfl, .inr ⟨hEr97.mono H47'.chg.size, fun hg => by have := hg.gok i (by omega); unfold gokP at this; omega⟩, H99.chg⟩
        ·skip
         refine sR ?_
         refine sq (r_eqlI (a := ((gs).getD i g0).k) (b := (3 : Int)) rfl rfl) ?_
         refine sA (.bool (decide ((((gs).getD i g0).k : Int) = (3 : Int)))) rfl ?_
         refine wend ?_
         refine condProp ((((gs).getD i g0).k : Int) = (3 : Int)) rfl (fun c71 => ?_) (fun c71 => ?_)
         ·skip
          refine oneRegion ?_
          refine sM (.bool (decide ((((gs).getD i g0).a : Int) < (n + (i : Nat))))) rfl ?_
          refine sM (.bool (decide ((((gs).getD i g0).a : Int) < (n + (i : Nat))))) rfl ?_
          by_cases g102 : (((gs).getD i g0).a : Int) < (n + (i : Nat))
          ·skip
           refine sqAny (v := .pointer (some ⟨b42, 2, none⟩)) (w' := w46) (wantedSome (d' := 74) (b := true) rfl rfl (congrArg Value.bool (decide_eq_true g102))) (r_fieldAddr (off' := 2) fld99_2 (by decide) (b := b42) (off := 0) rfl (by omega)) ?_
           refine sqAny (v := i64 (((gs).getD i g0).b)) (w' := w46) (wantedSome (d' := 74) (b := true) rfl rfl (congrArg Value.bool (decide_eq_true g102))) (r_loadC (v := i64 (((gs).getD i g0).b)) one3 (H47'.get (k := 0) rfl) (off := 2) rfl (by rfl)) ?_
           refine sqAny (v := .bool (decide ((((gs).getD i g0).b : Int) = (0 : Int)))) (w' := w46) (wantedSome (d' := 74) (b := true) rfl rfl (congrArg Value.bool (decide_eq_true g102))) (r_eqlI (a := ((gs).getD i g0).b) (b := (0 : Int)) rfl rfl) ?_
           refine sq (r_pickT (u := .bool (decide ((((gs).getD i g0).b : Int) = (0 : Int)))) (congrArg Value.bool (decide_eq_true g102)) rfl) ?_
           refine sA (.bool (decide ((((gs).getD i g0).b : Int) = (0 : Int)))) rfl ?_
           refine wnil ?_
           refine blockNormal ?_
           refine thenNormal ?_
           refine sR ?_
           refine sM (.bool (decide ((((gs).getD i g0).b : Int) = (0 : Int)))) rfl ?_
           refine sq (r_not (b := decide ((((gs).getD i g0).b : Int) = (0 : Int))) rfl) ?_
           refine wend ?_
           refine condBool (!(decide ((((gs).getD i g0).b : Int) = (0 : Int)))) rfl (fun c80 => ?_) (fun c80 => ?_)
           ·skip
            replace c80 : ¬ ((((gs).getD i g0).b : Int) = (0 : Int)) := by simpa using c80
            refine sR ?_
            refine sq (r_mkI und57 (xv := i64 ((90 : Int))) rfl) ?_
            refine sM (i64 (i : Nat)) rfl ?_
            have := H47'.lt (List.mem_of_getElem? (i := 0) rfl) rfl
            have := H47'.lt (List.mem_of_getElem? (i := 1) rfl) rfl
            refine c_call (vs := [.iface 57 (i64 ((90 : Int))), .string ({data := #[103, 97, 116, 101]}), i64 (i : Nat)]) call63 rfl (wrap0_ok (90 : Int) (i : Nat) ({data := #[103, 97, 116, 101]}) w46 (Chg.gl H47'.chg (fun x => x) hG)) ?_
            rintro v105 w103 ⟨hEr106, hE107⟩
            have H108 := H47'.ext hE107
            obtain ⟨T109, x110, rfl⟩ := hEr106.iface
            refine sA (.iface T109 (x110)) rfl ?_
            refine wend ?_
            refine retAny ?_
            refine blockRet ?_
            refine thenRet ?_
            refine thenRet ?_
            refine blockRet ?_
            refine thenRet ?_
            refine retG (rs := [.tmp 2]) (vs := [.iface T109 (x110)]) rfl ⟨⟨rfl, rfl⟩, trivial⟩ ?_
            exact ⟨_, rfl, .inr ⟨hEr106.mono H47'.chg.size, fun hg => by have := hg.gok i (by omega); unfold gokP at this; omega⟩, H108.chg⟩
           ·skip
            replace c80 : (((gs).getD i g0).b : Int) = (0 : Int) := by simpa using c80
            refine skipAny ?_
            refine blockNormal ?_
            refine thenNormal ?_
            refine oneRegion ?_
            refine sq (r_addI (a := (i : Nat)) (b := (1 : Int)) rfl rfl (by omega)) ?_
            refine sM (i64 ((i : Nat) + (1 : Int))) rfl ?_
            refine wnil ?_
            refine thenNormal ?_
            have hgi : gokP (gs.getD i g0) (n + (i : Nat)) := by unfold gokP; omega
            exact ⟨i + 1, _, rfl, ⟨rfl, rfl, rfl, rfl, trivial⟩, ⟨by omega, fun j hj => if h : j < i then hgs j h else by (rw [show j = i by omega]; exact hgi), (H47'.dropk 0)⟩, by show gs.length - (i + 1) < gs.length - i; omega⟩
          ·skip
           refine skAny (wantedSome (d' := 74) (b := false) rfl rfl (congrArg Value.bool (decide_eq_false g102))) ?_
           refine skAny (wantedSome (d' := 74) (b := false) rfl rfl (congrArg Value.bool (decide_eq_false g102))) ?_
           refine skAny (wantedSome (d' := 74) (b := false) rfl rfl (congrArg Value.bool (decide_eq_false g102))) ?_
           refine sq (r_pickF (v := .bool (false)) (congrArg Value.bool (decide_eq_false g102)) rfl) ?_
           refine sA (.bool (false)) rfl ?_
           refine wnil ?_
           refine blockNormal ?_
           refine thenNormal ?_
           refine sR ?_
           refine sM (.bool (false)) rfl ?_
           refine sq (r_notF rfl) ?_
           refine wend ?_
           refine condTrue rfl ?_
           refine sR ?_
           refine sq (r_mkI und57 (xv := i64 ((90 : Int))) rfl) ?_
           refine sM (i64 (i : Nat)) rfl ?_
           have := H47'.lt (List.mem_of_getElem? (i := 0) rfl) rfl
           have := H47'.lt (List.mem_of_getElem? (i := 1) rfl) rfl
           refine c_call (vs := [.iface 57 (i64 ((90 : Int))), .string ({data := #[103, 97, 116, 101]}), i64 (i : Nat)]) call63 rfl (wrap0_ok (90 : Int) (i : Nat) ({data := #[103, 97, 116, 101]}) w46 (Chg.gl H47'.chg (fun x => x) hG)) ?_
           rintro v113 w111 ⟨hEr114, hE115⟩
           have H116 := H47'.ext hE115
           obtain ⟨T117, x118, rfl⟩ := hEr114.iface
           refine sA (.iface T117 (x118)) rfl ?_
           refine wend ?_
           refine retAny ?_
           refine blockRet ?_
           refine thenRet ?_
           refine thenRet ?_
           refine blockRet ?_
           refine thenRet ?_
           refine retG (rs := [.tmp 2]) (vs := [.iface T117 (x118)]) rfl ⟨⟨rfl, rfl⟩, trivial⟩ ?_
           exact ⟨_, rfl, .inr ⟨hEr114.mono H47'.chg.size, fun hg => by have := hg.gok i (by omega); unfold gokP at this; omega⟩, H116.chg⟩
         ·skip
          refine oneRegion ?_
          refine sA (.bool (false)) rfl ?_
          refine wnil ?_
          refine blockNormal ?_
          refine thenNormal ?_
          refine sR ?_
          refine sM (.bool (false)) rfl ?_
          refine sq (r_notF rfl) ?_
          refine wend ?_
          refine condTrue rfl ?_
          refine sR ?_
          refine sq (r_mkI und57 (xv := i64 ((90 : Int))) rfl) ?_
          refine sM (i64 (i : Nat)) rfl ?_
          have := H47'.lt (List.mem_of_getElem? (i := 0) rfl) rfl
          have := H47'.lt (List.mem_of_getElem? (i := 1) rfl) rfl
          refine c_call (vs := [.iface 57 (i64 ((90 : Int))), .string ({data := #[103, 97, 116, 101]}), i64 (i : Nat)]) call63 rfl (wrap0_ok (90 : Int) (i : Nat) ({data := #[103, 97, 116, 101]}) w46 (Chg.gl H47'.chg (fun x => x) hG)) ?_
          rintro v121 w119 ⟨hEr122, hE123⟩
          have H124 := H47'.ext hE123
          obtain ⟨T125, x126, rfl⟩ := hEr122.iface
          refine sA (.iface T125 (x126)) rfl ?_
          refine wend ?_
          refine retAny ?_
          refine blockRet ?_
          refine thenRet ?_
          refine thenRet ?_
          refine blockRet ?_
          refine thenRet ?_
          refine retG (rs := [.tmp 2]) (vs := [.iface T125 (x126)]) rfl ⟨⟨rfl, rfl⟩, trivial⟩ ?_
          exact ⟨_, rfl, .inr ⟨hEr122.mono H47'.chg.size, fun hg => by have := hg.gok i (by omega); unfold gokP at this; omega⟩, H124.chg⟩
      ·skip
       refine skAny (wantedSome (d' := 48) (b := false) rfl rfl (congrArg Value.bool (decide_eq_false g49))) ?_
       refine skAny (wantedSome (d' := 48) (b := false) rfl rfl (congrArg Value.bool (decide_eq_false g49))) ?_
       refine skAny (wantedSome (d' := 48) (b := false) rfl rfl (congrArg Value.bool (decide_eq_false g49))) ?_
       refine skAny (wantedSome (d' := 48) (b := false) rfl rfl (congrArg Value.bool (decide_eq_false g49))) ?_
       refine sq (r_pickF (v := .bool (false)) (congrArg Value.bool (decide_eq_false g49)) rfl) ?_
       refine sA (.bool (false)) rfl ?_
       refine wend ?_
       refine seqAny ?_
       refine sR ?_
       refine sq (r_fieldAddr (off' := 0) fld99_0 (by decide) (b := b42) (off := 0) rfl (by omega)) ?_
       refine sq (r_loadC (v := i64 (((gs).getD i g0).k)) one97 (H47'.get (k := 0) rfl) (off := 0) rfl (by rfl)) ?_
       refine wend ?_
       refine blockAny ?_
       refine seqAny ?_
       refine sR ?_
       refine sq (r_eqlI (a := ((gs).getD i g0).k) (b := (1 : Int)) rfl rfl) ?_
       refine sA (.bool (decide ((((gs).getD i g0).k : Int) = (1 : Int)))) rfl ?_
       refine wend ?_
       refine condProp ((((gs).getD i g0).k : Int) = (1 : Int)) rfl (fun c56 => ?_) (fun c56 => ?_)
       ·skip
        refine skipAny ?_
        refine thenNormal ?_
        refine condTrue (congrArg Value.bool (decide_eq_true c56)) ?_
        refine oneRegion ?_
        refine sM (.bool (false)) rfl ?_
        refine sM (.bool (false)) rfl ?_
        refine skAny (wantedSome (d' := 60) (b := false) rfl rfl rfl) ?_
        refine skAny (wantedSome (d' := 60) (b := false) rfl rfl rfl) ?_
        refine skAny (wantedSome (d' := 60) (b := false) rfl rfl rfl) ?_
        refine sq (r_pickF (v := .bool (false)) rfl rfl) ?_
        refine sM (.bool (false)) rfl ?_
        refine skAny (wantedSome (d' := 65) (b := false) rfl rfl rfl) ?_
        refine skAny (wantedSome (d' := 65) (b := false) rfl rfl rfl) ?_
        refine skAny (wantedSome (d' := 65) (b := false) rfl rfl rfl) ?_
        refine skAny (wantedSome (d' := 65) (b := false) rfl rfl rfl) ?_
        refine sq (r_pickF (v := .bool (false)) rfl rfl) ?_
        refine sA (.bool (false)) rfl ?_
        refine wnil ?_
        refine blockNormal ?_
        refine thenNormal ?_
        refine sR ?_
        refine sM (.bool (false)) rfl ?_
        refine sq (r_notF rfl) ?_
        refine wend ?_
        refine condTrue rfl ?_
        refine sR ?_
        refine sq (r_mkI und57 (xv := i64 ((90 : Int))) rfl) ?_
        refine sM (i64 (i : Nat)) rfl ?_
        have := H47'.lt (List.mem_of_getElem? (i := 0) rfl) rfl
        have := H47'.lt (List.mem_of_getElem? (i := 1) rfl) rfl
        refine c_call (vs := [.iface 57 (i64 ((90 : Int))), .string ({data := #[103, 97, 116, 101]}), i64 (i : Nat)]) call63 rfl (wrap0_ok (90 : Int) (i : Nat) ({data := #[103, 97, 116, 101]}) w46 (Chg.gl H47'.chg (fun x => x) hG)) ?_
        rintro v129 w127 ⟨hEr130, hE131⟩
        have H132 := H47'.ext hE131
        obtain ⟨T133, x134, rfl⟩ := hEr130.iface
        refine sA (.iface T133 (x134)) rfl ?_
        refine wend ?_
        refine retAny ?_
        refine blockRet ?_
        refine thenRet ?_
        refine thenRet ?_
        refine blockRet ?_
        refine thenRet ?_
        refine retG (rs := [.tmp 2]) (vs := [.iface T133 (x134)]) rfl ⟨⟨rfl, rfl⟩, trivial⟩ ?_
        exact ⟨_, rfl, .inr ⟨hEr130.mono H47'.chg.size, fun hg => by have := hg.gok i (by omega); unfold gokP at this; omega⟩, H132.chg⟩
       ·skip
        refine oneRegion ?_
        refine sq (r_eqlI (a := ((gs).getD i g0).k) (b := (2 : Int)) rfl rfl) ?_
        refine sA (.bool (decide ((((gs).getD i g0).k : Int) = (2 : Int)))) rfl ?_
        refine wnil ?_
        refine thenNormal ?_
        refine condProp ((((gs).getD i g0).k : Int) = (2 : Int)) rfl (fun c56 => ?_) (fun c56 => ?_)
        ·skip
         refine oneRegion ?_
         refine sM (.bool (false)) rfl ?_
         refine sM (.bool (false)) rfl ?_
         refine skAny (wantedSome (d' := 60) (b := false) rfl rfl rfl) ?_
         refine skAny (wantedSome (d' := 60) (b := false) rfl rfl rfl) ?_
         refine skAny (wantedSome (d' := 60) (b := false) rfl rfl rfl) ?_
         refine sq (r_pickF (v := .bool (false)) rfl rfl) ?_
         refine sM (.bool (false)) rfl ?_
         refine skAny (wantedSome (d' := 65) (b := false) rfl rfl rfl) ?_
         refine skAny (wantedSome (d' := 65) (b := false) rfl rfl rfl) ?_
         refine skAny (wantedSome (d' := 65) (b := false) rfl rfl rfl) ?_
         refine skAny (wantedSome (d' := 65) (b := false) rfl rfl rfl) ?_
         refine sq (r_pickF (v := .bool (false)) rfl rfl) ?_
         refine sA (.bool (false)) rfl ?_
         refine wnil ?_
         refine blockNormal ?_
         refine thenNormal ?_
         refine sR ?_
         refine sM (.bool (false)) rfl ?_
         refine sq (r_notF rfl) ?_
         refine wend ?_
         refine condTrue rfl ?_
         refine sR ?_
         refine sq (r_mkI und57 (xv := i64 ((90 : Int))) rfl) ?_
         refine sM (i64 (i : Nat)) rfl ?_
         have := H47'.lt (List.mem_of_getElem? (i := 0) rfl) rfl
         have := H47'.lt (List.mem_of_getElem? (i := 1) rfl) rfl
         refine c_call (vs := [.iface 57 (i64 ((90 : Int))), .string ({data := #[103, 97, 116, 101]}), i64 (i : Nat)]) call63 rfl (wrap0_ok (90 : Int) (i : Nat) ({data := #[103, 97, 116, 101]}) w46 (Chg.gl H47'.chg (fun x => x) hG)) ?_
         rintro v137 w135 ⟨hEr138, hE139⟩
         have H140 := H47'.ext hE139
         obtain ⟨T141, x142, rfl⟩ := hEr138.iface
         refine sA (.iface T141 (x142)) rfl ?_
         refine wend ?_
         refine retAny ?_
         refine blockRet ?_
         refine thenRet ?_
         refine thenRet ?_
         refine blockRet ?_
         refine thenRet ?_
         refine retG (rs := [.tmp 2]) (vs := [.iface T141 (x142)]) rfl ⟨⟨rfl, rfl⟩, trivial⟩ ?_
         exact ⟨_, rfl, .inr ⟨hEr138.mono H47'.chg.size, fun hg => by have := hg.gok i (by omega); unfold gokP at this; omega⟩, H140.chg⟩
        ·skip
         refine sR ?_
         refine sq (r_eqlI (a := ((gs).getD i g0).k) (b := (3 : Int)) rfl rfl) ?_
         refine sA (.bool (decide ((((gs).getD i g0).k : Int) = (3 : Int)))) rfl ?_
         refine wend ?_
         refine condProp ((((gs).getD i g0).k : Int) = (3 : Int)) rfl (fun c71 => ?_) (fun c71 => ?_)
         ·skip
          refine oneRegion ?_
          refine sM (.bool (false)) rfl ?_
          refine sM (.bool (false)) rfl ?_
          refine skAny (wantedSome (d' := 74) (b := false) rfl rfl rfl) ?_
          refine skAny (wantedSome (d' := 74) (b := false) rfl rfl rfl) ?_
          refine skAny (wantedSome (d' := 74) (b := false) rfl rfl rfl) ?_
          refine sq (r_pickF (v := .bool (false)) rfl rfl) ?_
          refine sA (.bool (false)) rfl ?_
          refine wnil ?_
          refine blockNormal ?_
          refine thenNormal ?_
          refine sR ?_
          refine sM (.bool (false)) rfl ?_
          refine sq (r_notF rfl) ?_
          refine wend ?_
          refine condTrue rfl ?_
          refine sR ?_
          refine sq (r_mkI und57 (xv := i64 ((90 : Int))) rfl) ?_
          refine sM (i64 (i : Nat)) rfl ?_
          have := H47'.lt (List.mem_of_getElem? (i := 0) rfl) rfl
          have := H47'.lt (List.mem_of_getElem? (i := 1) rfl) rfl
          refine c_call (vs := [.iface 57 (i64 ((90 : Int))), .string ({data := #[103, 97, 116, 101]}), i64 (i : Nat)]) call63 rfl (wrap0_ok (90 : Int) (i : Nat) ({data := #[103, 97, 116, 101]}) w46 (Chg.gl H47'.chg (fun x => x) hG)) ?_
          rintro v145 w143 ⟨hEr146, hE147⟩
          have H148 := H47'.ext hE147
          obtain ⟨T149, x150, rfl⟩ := hEr146.iface
          refine sA (.iface T149 (x150)) rfl ?_
          refine wend ?_
          refine retAny ?_
          refine blockRet ?_
          refine thenRet ?_
          refine thenRet ?_
          refine blockRet ?_
          refine thenRet ?_
          refine retG (rs := [.tmp 2]) (vs := [.iface T149 (x150)]) rfl ⟨⟨rfl, rfl⟩, trivial⟩ ?_
          exact ⟨_, rfl, .inr ⟨hEr146.mono H47'.chg.size, fun hg => by have := hg.gok i (by omega); unfold gokP at this; omega⟩, H148.chg⟩
         ·skip
          refine oneRegion ?_
          refine sA (.bool (false)) rfl ?_
          refine wnil ?_
          refine blockNormal ?_
          refine thenNormal ?_
          refine sR ?_
          refine sM (.bool (false)) rfl ?_
          refine sq (r_notF rfl) ?_
          refine wend ?_
          refine condTrue rfl ?_
          refine sR ?_
          refine sq (r_mkI und57 (xv := i64 ((90 : Int))) rfl) ?_
          refine sM (i64 (i : Nat)) rfl ?_
          have := H47'.lt (List.mem_of_getElem? (i := 0) rfl) rfl
          have := H47'.lt (List.mem_of_getElem? (i := 1) rfl) rfl
          refine c_call (vs := [.iface 57 (i64 ((90 : Int))), .string ({data := #[103, 97, 116, 101]}), i64 (i : Nat)]) call63 rfl (wrap0_ok (90 : Int) (i : Nat) ({data := #[103, 97, 116, 101]}) w46 (Chg.gl H47'.chg (fun x => x) hG)) ?_
          rintro v153 w151 ⟨hEr154, hE155⟩
          have H156 := H47'.ext hE155
          obtain ⟨T157, x158, rfl⟩ := hEr154.iface
          refine sA (.iface T157 (x158)) rfl ?_
          refine wend ?_
          refine retAny ?_
          refine blockRet ?_
          refine thenRet ?_
          refine thenRet ?_
          refine blockRet ?_
          refine thenRet ?_
          refine retG (rs := [.tmp 2]) (vs := [.iface T157 (x158)]) rfl ⟨⟨rfl, rfl⟩, trivial⟩ ?_
          exact ⟨_, rfl, .inr ⟨hEr154.mono H47'.chg.size, fun hg => by have := hg.gok i (by omega); unfold gokP at this; omega⟩, H156.chg⟩
     ·skip
      refine exitAny ?_
      refine thenExit ?_
      refine thenExit ?_
      refine blockHere ?_
      refine thenNormal ?_
      refine seqAny ?_
      refine sR ?_
      refine sq (r_fieldAddr (off' := 2) fld70_2 (by decide) (b := b1) (off := 0) rfl (by omega)) ?_
      refine sq (r_loadC (v := .slice oa ol.length oc) one60 (HL.get (k := 0) rfl) (off := 2) rfl (by rfl)) ?_
      refine sq (r_lenS sli60 (a := oa) (m := ol.length) (c := oc) rfl) ?_
      refine sM (i64 ((0 : Int))) rfl ?_
      refine wend ?_
      refine blockAny ?_
      refine loopAny (σ := Nat) (fun q => [(1, pT b1), (86, .slice oa ol.length oc), (87, i64 (ol.length : Nat)), (88, i64 (q : Nat))]) (fun q w' => q ≤ ol.length ∧ (∀ j, j < q → 0 ≤ ol.getD j 0 ∧ ol.getD j 0 < n + (gs.length : Nat)) ∧ Hp No w w' [(some b1, .cells #[i64 (n), .slice ga gs.length gc, .slice oa ol.length oc] 70 (0, 0))]) (fun q => ol.length - q) (0) ?_ ?_ ?_
      ·exact ⟨rfl, rfl, rfl, rfl, trivial⟩
      ·exact ⟨by omega, fun j hj => by omega, HL⟩
      rintro q ρ w159 ⟨hq, hos, HL2⟩
      refine sR ?_
      refine sq (r_lssI (a := (q : Nat)) (b := (ol.length : Nat)) rfl rfl) ?_
      refine wend ?_
      refine seqAny ?_
      refine condProp (((q : Nat) : Int) < (ol.length : Nat)) rfl (fun c89 => ?_) (fun c89 => ?_)
      ·skip
       refine skipAny ?_
       refine thenNormal ?_
       refine seqAny ?_
       refine blockAny ?_
       refine sR ?_
       refine sM (i64 (q : Nat)) rfl ?_
       refine sq (r_idxS (E := EI) (l := ol) (j := q) sli60 (hOl.ext HL2.chg) rfl rfl (by first | rfl | omega | (simp; omega)) (by rfl) (by omega)) ?_
       refine sq (r_ldS (E := EI) (l := ol) (j := q) (v := (ol).getD q 0) fits3 (hOl.ext HL2.chg) rfl rfl (at_getD (by omega))) ?_
       refine sA (i64 (q : Nat)) rfl ?_
       refine sA (i64 ((ol).getD q 0)) rfl ?_
       refine wend ?_
       refine sR ?_
       refine sM (i64 ((ol).getD q 0)) rfl ?_
       refine sq (r_lssI (a := (ol).getD q 0) (b := (0 : Int)) rfl rfl) ?_
       refine sM (.bool (decide (((ol).getD q 0 : Int) < (0 : Int)))) rfl ?_
       by_cases g161 : ((ol).getD q 0 : Int) < (0 : Int)
       ·skip
        refine skAny (wantedSome (d' := 95) (b := true) rfl rfl (congrArg Value.bool (decide_eq_true g161))) ?_
        refine skAny (wantedSome (d' := 95) (b := true) rfl rfl (congrArg Value.bool (decide_eq_true g161))) ?_
        refine skAny (wantedSome (d' := 95) (b := true) rfl rfl (congrArg Value.bool (decide_eq_true g161))) ?_
        refine skAny (wantedSome (d' := 95) (b := true) rfl rfl (congrArg Value.bool (decide_eq_true g161))) ?_
        refine skAny (wantedSome (d' := 95) (b := true) rfl rfl (congrArg Value.bool (decide_eq_true g161))) ?_
        refine skAny (wantedSome (d' := 95) (b := true) rfl rfl (congrArg Value.bool (decide_eq_true g161))) ?_
        refine skAny (wantedSome (d' := 95) (b := true) rfl rfl (congrArg Value.bool (decide_eq_true g161))) ?_
        refine skAny (wantedSome (d' := 95) (b := true) rfl rfl (congrArg Value.bool (decide_eq_true g161))) ?_
        refine sq (r_pickT (u := .bool (true)) (congrArg Value.bool (decide_eq_true g161)) rfl) ?_
        refine wend ?_
        refine condTrue rfl ?_
        refine sR ?_
        refine sq (r_mkI und57 (xv := i64 ((90 : Int))) rfl) ?_
        refine sM (i64 (q : Nat)) rfl ?_
        have := HL2.lt (List.mem_of_getElem? (i := 0) rfl) rfl
        refine c_call (vs := [.iface 57 (i64 ((90 : Int))), .string ({data := #[111, 117, 116]}), i64 (q : Nat)]) call63 rfl (wrap0_ok (90 : Int) (q : Nat) ({data := #[111, 117, 116]}) w159 (Chg.gl HL2.chg (fun x => x) hG)) ?_
        rintro v164 w162 ⟨hEr165, hE166⟩
        have H167 := HL2.ext hE166
        obtain ⟨T168, x169, rfl⟩ := hEr165.iface
        refine sA (.iface T168 (x169)) rfl ?_
        refine wend ?_
        refine retAny ?_
        refine blockRet ?_
        refine thenRet ?_
        refine thenRet ?_
        refine blockRet ?_
        refine thenRet ?_
        refine retG (rs := [.tmp 2]) (vs := [.iface T168 (x169)]) rfl ⟨⟨rfl, rfl⟩, trivial⟩ ?_
        exact ⟨_, rfl, .inr ⟨hEr165.mono HL2.chg.size, fun hg => by have := hg.ook q (by omega); omega⟩, H167.chg⟩
       ·skip
        refine sqAny (v := i64 ((ol).getD q 0)) (w' := w159) (wantedSome (d' := 95) (b := false) rfl rfl (congrArg Value.bool (decide_eq_false g161))) (r_move (v := i64 ((ol).getD q 0)) rfl) ?_
        refine sqAny (v := pT b1) (w' := w159) (wantedSome (d' := 95) (b := false) rfl rfl (congrArg Value.bool (decide_eq_false g161))) (r_fieldAddr (off' := 0) fld70_0 (by decide) (b := b1) (off := 0) rfl (by omega)) ?_
        refine sqAny (v := i64 (n)) (w' := w159) (wantedSome (d' := 95) (b := false) rfl rfl (congrArg Value.bool (decide_eq_false g161))) (r_loadC (v := i64 (n)) one3 (HL2.get (k := 0) rfl) (off := 0) rfl (by rfl)) ?_
        refine sqAny (v := .pointer (some ⟨b1, 1, none⟩)) (w' := w159) (wantedSome (d' := 95) (b := false) rfl rfl (congrArg Value.bool (decide_eq_false g161))) (r_fieldAddr (off' := 1) fld70_1 (by decide) (b := b1) (off := 0) rfl (by omega)) ?_
        refine sqAny (v := .slice ga gs.length gc) (w' := w159) (wantedSome (d' := 95) (b := false) rfl rfl (congrArg Value.bool (decide_eq_false g161))) (r_loadC (v := .slice ga gs.length gc) one68 (HL2.get (k := 0) rfl) (off := 1) rfl (by rfl)) ?_
        refine sqAny (v := i64 (gs.length : Nat)) (w' := w159) (wantedSome (d' := 95) (b := false) rfl rfl (congrArg Value.bool (decide_eq_false g161))) (r_lenS sli68 (a := ga) (m := gs.length) (c := gc) rfl) ?_
        refine sqAny (v := i64 (n + (gs.length : Nat))) (w' := w159) (wantedSome (d' := 95) (b := false) rfl rfl (congrArg Value.bool (decide_eq_false g161))) (r_addI (a := n) (b := (gs.length : Nat)) rfl rfl (by omega)) ?_
        refine sqAny (v := .bool (decide ((n + (gs.length : Nat) : Int) ≤ ((ol).getD q 0)))) (w' := w159) (wantedSome (d' := 95) (b := false) rfl rfl (congrArg Value.bool (decide_eq_false g161))) (r_geqI (a := (ol).getD q 0) (b := n + (gs.length : Nat)) rfl rfl) ?_
        refine sq (r_pickF (v := .bool (decide ((n + (gs.length : Nat) : Int) ≤ ((ol).getD q 0)))) (congrArg Value.bool (decide_eq_false g161)) rfl) ?_
        refine wend ?_
        refine condProp ((n + (gs.length : Nat) : Int) ≤ ((ol).getD q 0)) rfl (fun c104 => ?_) (fun c104 => ?_)
        ·skip
         refine sR ?_
         refine sq (r_mkI und57 (xv := i64 ((90 : Int))) rfl) ?_
         refine sM (i64 (q : Nat)) rfl ?_
         have := HL2.lt (List.mem_of_getElem? (i := 0) rfl) rfl
         refine c_call (vs := [.iface 57 (i64 ((90 : Int))), .string ({data := #[111, 117, 116]}), i64 (q : Nat)]) call63 rfl (wrap0_ok (90 : Int) (q : Nat) ({data := #[111, 117, 116]}) w159 (Chg.gl HL2.chg (fun x => x) hG)) ?_
         rintro v172 w170 ⟨hEr173, hE174⟩
         have H175 := HL2.ext hE174
         obtain ⟨T176, x177, rfl⟩ := hEr173.iface
         refine sA (.iface T176 (x177)) rfl ?_
         refine wend ?_
         refine retAny ?_
         refine blockRet ?_
         refine thenRet ?_
         refine thenRet ?_
         refine blockRet ?_
         refine thenRet ?_
         refine retG (rs := [.tmp 2]) (vs := [.iface T176 (x177)]) rfl ⟨⟨rfl, rfl⟩, trivial⟩ ?_
         exact ⟨_, rfl, .inr ⟨hEr173.mono HL2.chg.size, fun hg => by have := hg.ook q (by omega); omega⟩, H175.chg⟩
        ·skip
         refine skipAny ?_
         refine blockNormal ?_
         refine thenNormal ?_
         refine oneRegion ?_
         refine sq (r_addI (a := (q : Nat)) (b := (1 : Int)) rfl rfl (by omega)) ?_
         refine sM (i64 ((q : Nat) + (1 : Int))) rfl ?_
         refine wnil ?_
         refine thenNormal ?_
         exact ⟨q + 1, _, rfl, ⟨rfl, rfl, rfl, rfl, trivial⟩, ⟨by omega, fun j hj => if h : j < q then hos j h else by (rw [show j = q by omega]; omega), HL2⟩, by show ol.length - (q + 1) < ol.length - q; omega⟩
      ·skip
       refine exitAny ?_
       refine thenExit ?_
       refine thenExit ?_
       refine blockHere ?_
       refine thenNormal ?_
       refine sR ?_
       refine sA (.nilIface) rfl ?_
       refine wend ?_
       refine retAny ?_
       refine retG (rs := [.tmp 2]) (vs := [.nilIface]) rfl ⟨⟨rfl, rfl⟩, trivial⟩ ?_
       exact ⟨_, rfl, .inl ⟨rfl, ⟨by omega, by omega, by omega, by omega, fun j hj => hgs j (by omega), fun j hj => hos j (by omega)⟩⟩, HL2.chg⟩
theorem ands_ok (n : Int) (gs : List Gt) (ol : List Int) (ga oa : Option Addr) (gc oc : Nat) (w : World) (hGs : Rd EG w ga gs) (hgl : gs.length ≤ 140737488355328) : Calls Tryd.prog 32 [.agg #[i64 (n), .slice ga gs.length gc, .slice oa ol.length oc]].toArray w (Ret fun v w' => v = i64 ((andsS gs gs.length : Nat)) ∧ Ext w w') := by
 have H := Hp.start No w
 refine enter (n := 20) Tryd.func32 rfl rfl (bLe rfl) ?_
 refine sR ?_
 refine q_box (v := .agg #[i64 (n), .slice ga gs.length gc, .slice oa ol.length oc]) (o := .cells #[i64 (n), .slice ga gs.length gc, .slice oa ol.length oc] 70 (0, 0)) H rfl (by rfl) ?_
 intro b1 w2 hb1 H3 hE4
 refine sA (i64 ((0 : Int))) rfl ?_
 refine wend ?_
 refine sR ?_
 refine sA (i64 ((0 : Int))) rfl ?_
 refine wend ?_
 refine seqAny ?_
 refine sR ?_
 refine sq (r_fieldAddr (off' := 1) fld70_1 (by decide) (b := b1) (off := 0) rfl (by omega)) ?_
 refine sq (r_loadC (v := .slice ga gs.length gc) one68 (H3.get (k := 0) rfl) (off := 1) rfl (by rfl)) ?_
 refine sq (r_lenS sli68 (a := ga) (m := gs.length) (c := gc) rfl) ?_
 refine sM (i64 ((0 : Int))) rfl ?_
 refine wend ?_
 refine blockAny ?_
 refine loopAny (σ := Nat) (fun i => [(1, pT b1), (3, i64 ((andsS gs i : Nat))), (7, .slice ga gs.length gc), (8, i64 (gs.length : Nat)), (9, i64 (i : Nat))]) (fun i w' => i ≤ gs.length ∧ Hp No w w' [(some b1, .cells #[i64 (n), .slice ga gs.length gc, .slice oa ol.length oc] 70 (0, 0))]) (fun i => gs.length - i) (0) ?_ ?_ ?_
 ·exact ⟨rfl, rfl, rfl, rfl, rfl, trivial⟩
 ·exact ⟨by omega, H3⟩
 rintro i ρ w5 ⟨hi, HL⟩
 have hle := andsS_le gs i
 refine sR ?_
 refine sq (r_lssI (a := (i : Nat)) (b := (gs.length : Nat)) rfl rfl) ?_
 refine wend ?_
 refine seqAny ?_
 refine condProp (((i : Nat) : Int) < (gs.length : Nat)) rfl (fun c10 => ?_) (fun c10 => ?_)
 ·skip
  refine skipAny ?_
  refine thenNormal ?_
  refine seqAny ?_
  refine blockAny ?_
  refine sR ?_
  refine sq (r_idxS (E := EG) (l := gs) (j := i) sli68 (hGs.ext HL.chg) rfl rfl (by first | rfl | omega | (simp; omega)) (by rfl) (by omega)) ?_
  refine sq ((r_ldS (E := EG) (l := gs) (j := i) (v := (gs).getD i g0) fits99 (hGs.ext HL.chg) rfl rfl (at_getD (by omega))).as (v' := .agg #[i64 (((gs).getD i g0).k), i64 (((gs).getD i g0).a), i64 (((gs).getD i g0).b)]) rfl) ?_
  refine q_alloc (o := .cells #[i64 ((0 : Int)), i64 ((0 : Int)), i64 ((0 : Int))] 99 (0, 0)) HL zer99 (by kernel_rfl) ?_
  intro b7 w8 hb7 H9 hE10
  refine d_store (k := 0) (v := .agg #[i64 (((gs).getD i g0).k), i64 (((gs).getD i g0).a), i64 (((gs).getD i g0).b)]) (cs' := #[i64 (((gs).getD i g0).k), i64 (((gs).getD i g0).a), i64 (((gs).getD i g0).b)]) H9 rfl rfl rfl siz99 (by rfl) (by intro u hu; simp [Value.cells] at hu; first | (subst hu; rfl) | (rcases hu with rfl | rfl | rfl <;> rfl)) (by exact bLe rfl) (by rfl) ?_
  intro w11 H12 hC13
  have H12' := H12.as (L' := [(some b7, .cells #[i64 (((gs).getD i g0).k), i64 (((gs).getD i g0).a), i64 (((gs).getD i g0).b)] 99 (0, 0)), (some b1, .cells #[i64 (n), .slice ga gs.length gc, .slice oa ol.length oc] 70 (0, 0))]) rfl
  clear H12
  refine wend ?_
  refine sR ?_
  refine sq (r_fieldAddr (off' := 0) fld99_0 (by decide) (b := b7) (off := 0) rfl (by omega)) ?_
  refine sq (r_loadC (v := i64 (((gs).getD i g0).k)) one97 (H12'.get (k := 0) rfl) (off := 0) rfl (by rfl)) ?_
  refine sq (r_eqlI (a := ((gs).getD i g0).k) (b := (2 : Int)) rfl rfl) ?_
  refine wend ?_
  refine condProp ((((gs).getD i g0).k : Int) = (2 : Int)) rfl (fun c15 => ?_) (fun c15 => ?_)
  ·skip
   refine oneRegion ?_
   refine sM (i64 ((andsS gs i : Nat))) rfl ?_
   refine sq (r_addI (a := (andsS gs i : Nat)) (b := (1 : Int)) rfl rfl (by omega)) ?_
   refine sA (i64 ((andsS gs i : Nat) + (1 : Int))) rfl ?_
   refine wnil ?_
   refine blockNormal ?_
   refine thenNormal ?_
   refine oneRegion ?_
   refine sq (r_addI (a := (i : Nat)) (b := (1 : Int)) rfl rfl (by omega)) ?_
   refine sM (i64 ((i : Nat) + (1 : Int))) rfl ?_
   refine wnil ?_
   refine thenNormal ?_
   exact ⟨i + 1, _, rfl, ⟨rfl, congrArg i64 (by rw [andsS, if_pos c15]; rfl), rfl, rfl, rfl, trivial⟩, ⟨by omega, (H12'.dropk 0)⟩, by show gs.length - (i + 1) < gs.length - i; omega⟩
  ·skip
   refine skipAny ?_
   refine blockNormal ?_
   refine thenNormal ?_
   refine oneRegion ?_
   refine sq (r_addI (a := (i : Nat)) (b := (1 : Int)) rfl rfl (by omega)) ?_
   refine sM (i64 ((i : Nat) + (1 : Int))) rfl ?_
   refine wnil ?_
   refine thenNormal ?_
   exact ⟨i + 1, _, rfl, ⟨rfl, congrArg i64 (by rw [andsS, if_neg c15]), rfl, rfl, rfl, trivial⟩, ⟨by omega, (H12'.dropk 0)⟩, by show gs.length - (i + 1) < gs.length - i; omega⟩
 ·skip
  obtain rfl : i = gs.length := by omega
  refine exitAny ?_
  refine thenExit ?_
  refine thenExit ?_
  refine blockHere ?_
  refine thenNormal ?_
  refine sR ?_
  refine sM (i64 ((andsS gs gs.length : Nat))) rfl ?_
  refine sA (i64 ((andsS gs gs.length : Nat))) rfl ?_
  refine wend ?_
  refine retAny ?_
  refine retG (rs := [.tmp 2]) (vs := [i64 ((andsS gs gs.length : Nat))]) rfl ⟨⟨rfl, rfl⟩, trivial⟩ ?_
  exact ⟨_, rfl, rfl, HL.chg⟩
set_option maxHeartbeats 2000000 in
theorem eval_ok (n : Int) (gs : List Gt) (ol : List Int) (ga oa : Option Addr) (gc oc : Nat) (inp : List Bool) (ia : Option Addr) (ic : Nat) (w : World) (hG : Gl w) (hGs : Rd EG w ga gs) (hOl : Rd EI w oa ol) (hgl : gs.length ≤ 140737488355328) (hol : ol.length ≤ 140737488355328) (hIn : Rd EB w ia inp) : Calls Tryd.prog 37 [.agg #[i64 (n), .slice ga gs.length gc, .slice oa ol.length oc], .slice ia inp.length ic].toArray w (Ret fun v w' => ((IsC n gs ol ∧ (inp.length : Int) = n ∧ ∃ r, v = .tuple #[r, .nilIface] ∧ SlRes EB 4 (evalS gs ol inp) w r w') ∨ (∃ ev, v = .tuple #[.slice none 0 0, ev] ∧ ((¬ IsC n gs ol ∧ Er w.heap.size w' 90 1 ev) ∨ (IsC n gs ol ∧ (inp.length : Int) ≠ n ∧ Er w.heap.size w' 1 1 ev)))) ∧ Ext w w') := by
 have H := Hp.start No w
 refine enter (n := 95) Tryd.func37 rfl rfl (bLe rfl) ?_
 refine sR ?_
 refine q_box (v := .agg #[i64 (n), .slice ga gs.length gc, .slice oa ol.length oc]) (o := .cells #[i64 (n), .slice ga gs.length gc, .slice oa ol.length oc] 70 (0, 0)) H rfl (by rfl) ?_
 intro b1 w2 hb1 H3 hE4
 refine sA (.slice none 0 0) rfl ?_
 refine sA (.nilIface) rfl ?_
 refine wend ?_
 refine seqAny ?_
 refine sR ?_
 refine sq (r_loadA (cs' := #[i64 (n), .slice ga gs.length gc, .slice oa ol.length oc]) agg70 siz70 (H3.get (k := 0) rfl) (off := 0) rfl (by exact bLe rfl) (by rfl)) ?_
 have := H3.lt (List.mem_of_getElem? (i := 0) rfl) rfl
 refine c_call (vs := [.agg #[i64 (n), .slice ga gs.length gc, .slice oa ol.length oc]]) call31 rfl (check_ok n gs ol ga oa gc oc w2 (Chg.gl H3.chg (fun x => x) hG) (hGs.ext H3.chg) (hOl.ext H3.chg) (by omega) (by omega)) ?_
 rintro v7 w5 ⟨⟨rfl, hg10⟩ | ⟨hEr11, hg10⟩, hE8⟩
 ·skip
  have H9 := H3.ext hE8
  have hlo := hg10.lo
  have hhi := hg10.hi
  have hgt := hg10.gates
  have hou := hg10.outs
  refine sA (.nilIface) rfl ?_
  refine wend ?_
  refine sR ?_
  refine sM (.nilIface) rfl ?_
  refine sq (r_neqNN isI27 rfl rfl) ?_
  refine wend ?_
  refine condFalse rfl ?_
  refine skipAny ?_
  refine thenNormal ?_
  refine seqAny ?_
  refine sR ?_
  refine sM (.slice ia inp.length ic) rfl ?_
  refine sq (r_lenS sli76 (a := ia) (m := inp.length) (c := ic) rfl) ?_
  refine sq (r_fieldAddr (off' := 0) fld70_0 (by decide) (b := b1) (off := 0) rfl (by omega)) ?_
  refine sq (r_loadC (v := i64 (n)) one3 (H9.get (k := 0) rfl) (off := 0) rfl (by rfl)) ?_
  refine sq (r_neqI (a := (inp.length : Nat)) (b := n) rfl rfl) ?_
  refine wend ?_
  refine condProp (((inp.length : Nat) : Int) ≠ n) rfl (fun c23 => ?_) (fun c23 => ?_)
  ·skip
   refine sR ?_
   refine sq (r_mkI und57 (xv := i64 ((1 : Int))) rfl) ?_
   refine sM (.slice ia inp.length ic) rfl ?_
   refine sq (r_lenS sli76 (a := ia) (m := inp.length) (c := ic) rfl) ?_
   have := H9.lt (List.mem_of_getElem? (i := 0) rfl) rfl
   refine c_call (vs := [.iface 57 (i64 ((1 : Int))), .string ({data := #[105, 110, 112, 117, 116, 115]}), i64 (inp.length : Nat)]) call63 rfl (wrap0_ok (1 : Int) (inp.length : Nat) ({data := #[105, 110, 112, 117, 116, 115]}) w5 (Chg.gl H9.chg (fun x => x) hG)) ?_
   rintro v16 w14 ⟨hEr17, hE18⟩
   have H19 := H9.ext hE18
   obtain ⟨T20, x21, rfl⟩ := hEr17.iface
   refine sA (.slice none 0 0) rfl ?_
   refine sA (.iface T20 (x21)) rfl ?_
   refine wend ?_
   refine retAny ?_
   refine thenRet ?_
   refine retG (rs := [.tmp 4, .tmp 5]) (vs := [.slice none 0 0, .iface T20 (x21)]) rfl ⟨⟨rfl, rfl⟩, ⟨rfl, rfl⟩, trivial⟩ ?_
   exact ⟨_, rfl, .inr ⟨_, rfl, .inr ⟨hg10, by omega, hEr17.mono H9.chg.size⟩⟩, H19.chg⟩
  ·skip
   refine skipAny ?_
   refine thenNormal ?_
   refine sR ?_
   refine sq (r_fieldAddr (off' := 0) fld70_0 (by decide) (b := b1) (off := 0) rfl (by omega)) ?_
   refine sq (r_loadC (v := i64 (n)) one3 (H9.get (k := 0) rfl) (off := 0) rfl (by rfl)) ?_
   refine sq (r_fieldAddr (off' := 1) fld70_1 (by decide) (b := b1) (off := 0) rfl (by omega)) ?_
   refine sq (r_loadC (v := .slice ga gs.length gc) one68 (H9.get (k := 0) rfl) (off := 1) rfl (by rfl)) ?_
   refine sq (r_lenS sli68 (a := ga) (m := gs.length) (c := gc) rfl) ?_
   refine sq (r_addI (a := n) (b := (gs.length : Nat)) rfl rfl (by omega)) ?_
   refine q_makeSlice (E := EB) (m := 0) (c := (n.toNat + gs.length)) (z0 := false) H9 sli76 zer4 rfl byt4 rfl rfl (by first | rfl | omega | (simp; omega)) (by first | rfl | omega | (simp; omega)) (by omega) (by omega) ?_
   intro b22 w24 hS23 H25 hE26
   refine sM (.slice ia inp.length ic) rfl ?_
   refine q_append (E := EB) (k := 0) (l := List.replicate 0 false) (l2 := inp) H25 rfl hS23 sli76 zer4 rfl byt4 (hIn.ext H25.chg) rfl (by simp) rfl (by rfl) (by omega) ?_
   intro key27 c28 sp29 w31 hS30 hne33 H32
   have H32' := H32.as (L' := [(key27, sob EB 4 ((List.replicate 0 false) ++ inp) sp29), (some b1, .cells #[i64 (n), .slice ga gs.length gc, .slice oa ol.length oc] 70 (0, 0))]) rfl
   clear H32
   have e34 : (List.replicate 0 false) ++ inp = wS gs inp 0 := by rfl
   have hS35 := hS30
   rw [e34] at hS35
   have H36 := H32'.as (L' := [(key27, sob EB 4 (wS gs inp 0) sp29), (some b1, .cells #[i64 (n), .slice ga gs.length gc, .slice oa ol.length oc] 70 (0, 0))]) (by rw [e34])
   refine sA (.slice (ownA key27) (0 + inp.length) c28) rfl ?_
   refine wend ?_
   refine seqAny ?_
   refine sR ?_
   refine sq (r_fieldAddr (off' := 1) fld70_1 (by decide) (b := b1) (off := 0) rfl (by omega)) ?_
   refine sq (r_loadC (v := .slice ga gs.length gc) one68 (H36.get (k := 1) rfl) (off := 1) rfl (by rfl)) ?_
   refine sq (r_lenS sli68 (a := ga) (m := gs.length) (c := gc) rfl) ?_
   refine sM (i64 ((0 : Int))) rfl ?_
   refine wend ?_
   refine blockAny ?_
   refine loopAny (σ := Nat × Option Nat × Nat × List Value) (fun (i, key, c, sp) => [(2, pT b1), (7, .slice (ownA key) (inp.length + i) c), (38, .slice ga gs.length gc), (39, i64 (gs.length : Nat)), (40, i64 (i : Nat))]) (fun (i, key, c, sp) w' => i ≤ gs.length ∧ Sl EB key (wS gs inp i) c sp ∧ Hp No w w' [(key, sob EB 4 (wS gs inp i) sp), (some b1, .cells #[i64 (n), .slice ga gs.length gc, .slice oa ol.length oc] 70 (0, 0))]) (fun (i, key, c, sp) => gs.length - i) ((0, key27, c28, sp29)) ?_ ?_ ?_
   ·exact ⟨rfl, congrArg (fun q => Value.slice _ q _) (by omega), rfl, rfl, rfl, trivial⟩
   ·exact ⟨by omega, hS35, H36⟩
   rintro ⟨i, key, c, sp⟩ ρ w37 ⟨hi, hS, HL⟩
   have hl := wS_len gs inp i
   refine sR ?_
   refine sq (r_lssI (a := (i : Nat)) (b := (gs.length : Nat)) rfl rfl) ?_
   refine wend ?_
   refine seqAny ?_
   refine condProp (((i : Nat) : Int) < (gs.length : Nat)) rfl (fun c41 => ?_) (fun c41 => ?_)
   ·skip
    have hgi := hg10.gok i (by omega)
    unfold gokP at hgi
    refine skipAny ?_
    refine thenNormal ?_
    refine seqAny ?_
    refine blockAny ?_
    refine sR ?_
    refine sq (r_idxS (E := EG) (l := gs) (j := i) sli68 (hGs.ext HL.chg) rfl rfl (by first | rfl | omega | (simp; omega)) (by rfl) (by omega)) ?_
    refine sq ((r_ldS (E := EG) (l := gs) (j := i) (v := (gs).getD i g0) fits99 (hGs.ext HL.chg) rfl rfl (at_getD (by omega))).as (v' := .agg #[i64 (((gs).getD i g0).k), i64 (((gs).getD i g0).a), i64 (((gs).getD i g0).b)]) rfl) ?_
    refine q_alloc (o := .cells #[i64 ((0 : Int)), i64 ((0 : Int)), i64 ((0 : Int))] 99 (0, 0)) HL zer99 (by kernel_rfl) ?_
    intro b39 w40 hb39 H41 hE42
    refine d_store (k := 0) (v := .agg #[i64 (((gs).getD i g0).k), i64 (((gs).getD i g0).a), i64 (((gs).getD i g0).b)]) (cs' := #[i64 (((gs).getD i g0).k), i64 (((gs).getD i g0).a), i64 (((gs).getD i g0).b)]) H41 rfl rfl rfl siz99 (by rfl) (by intro u hu; simp [Value.cells] at hu; first | (subst hu; rfl) | (rcases hu with rfl | rfl | rfl <;> rfl)) (by exact bLe rfl) (by rfl) ?_
    intro w43 H44 hC45
    have H44' := H44.as (L' := [(some b39, .cells #[i64 (((gs).getD i g0).k), i64 (((gs).getD i g0).a), i64 (((gs).getD i g0).b)] 99 (0, 0)), (key, sob EB 4 (wS gs inp i) sp), (some b1, .cells #[i64 (n), .slice ga gs.length gc, .slice oa ol.length oc] 70 (0, 0))]) rfl
    clear H44
    refine wend ?_
    refine sR ?_
    refine sM (.slice (ownA key) (inp.length + i) c) rfl ?_
    refine sq (r_fieldAddr (off' := 1) fld99_1 (by decide) (b := b39) (off := 0) rfl (by omega)) ?_
    refine sq (r_loadC (v := i64 (((gs).getD i g0).a)) one3 (H44'.get (k := 0) rfl) (off := 1) rfl (by rfl)) ?_
    refine sq (r_idxS (E := EB) (l := wS gs inp i) (j := ((gs.getD i g0).a).toNat) sli76 (H44'.rd (k := 1) rfl hS) rfl rfl (by omega) (by omega) (by omega)) ?_
    refine sq (r_ldS (E := EB) (l := wS gs inp i) (j := ((gs.getD i g0).a).toNat) (v := (wS gs inp i).getD (((gs.getD i g0).a).toNat) false) fits4 (H44'.rd (k := 1) rfl hS) rfl rfl (at_getD (by omega))) ?_
    refine sA (.bool ((wS gs inp i).getD (((gs.getD i g0).a).toNat) false)) rfl ?_
    refine wend ?_
    refine seqAny ?_
    refine sR ?_
    refine sq (r_fieldAddr (off' := 0) fld99_0 (by decide) (b := b39) (off := 0) rfl (by omega)) ?_
    refine sq (r_loadC (v := i64 (((gs).getD i g0).k)) one97 (H44'.get (k := 0) rfl) (off := 0) rfl (by rfl)) ?_
    refine wend ?_
    refine blockAny ?_
    refine sR ?_
    refine sq (r_eqlI (a := ((gs).getD i g0).k) (b := (1 : Int)) rfl rfl) ?_
    refine sA (.bool (decide ((((gs).getD i g0).k : Int) = (1 : Int)))) rfl ?_
    refine wend ?_
    refine condProp ((((gs).getD i g0).k : Int) = (1 : Int)) rfl (fun kc51 => ?_) (fun kc51 => ?_)
    ·skip
     refine oneRegion ?_
     refine sM (.bool ((wS gs inp i).getD (((gs.getD i g0).a).toNat) false)) rfl ?_
     refine sM (.slice (ownA key) (inp.length + i) c) rfl ?_
     refine sq (r_fieldAddr (off' := 2) fld99_2 (by decide) (b := b39) (off := 0) rfl (by omega)) ?_
     refine sq (r_loadC (v := i64 (((gs).getD i g0).b)) one3 (H44'.get (k := 0) rfl) (off := 2) rfl (by rfl)) ?_
     refine sq (r_idxS (E := EB) (l := wS gs inp i) (j := ((gs.getD i g0).b).toNat) sli76 (H44'.rd (k := 1) rfl hS) rfl rfl (by omega) (by omega) (by omega)) ?_
     refine sq (r_ldS (E := EB) (l := wS gs inp i) (j := ((gs.getD i g0).b).toNat) (v := (wS gs inp i).getD (((gs.getD i g0).b).toNat) false) fits4 (H44'.rd (k := 1) rfl hS) rfl rfl (at_getD (by omega))) ?_
     refine sq (r_neqB und4 (a := (wS gs inp i).getD (((gs.getD i g0).a).toNat) false) (b := (wS gs inp i).getD (((gs.getD i g0).b).toNat) false) rfl rfl) ?_
     refine sA (.bool (((wS gs inp i).getD (((gs.getD i g0).a).toNat) false) != ((wS gs inp i).getD (((gs.getD i g0).b).toNat) false))) rfl ?_
     refine wnil ?_
     refine blockNormal ?_
     refine thenNormal ?_
     refine oneRegion ?_
     refine sM (.slice (ownA key) (inp.length + i) c) rfl ?_
     refine sM (.bool (((wS gs inp i).getD (((gs.getD i g0).a).toNat) false) != ((wS gs inp i).getD (((gs.getD i g0).b).toNat) false))) rfl ?_
     refine q_buildSlice (E := EB) (l := [((wS gs inp i).getD (((gs.getD i g0).a).toNat) false) != ((wS gs inp i).getD (((gs.getD i g0).b).toNat) false)]) H44' sli76 zer4 (bLe rfl) (ps := [(0, .bool (((wS gs inp i).getD (((gs.getD i g0).a).toNat) false) != ((wS gs inp i).getD (((gs.getD i g0).b).toNat) false)))]) rfl (by exact fillAll rfl rfl) rfl ?_
     intro b46 w48 hS47 H49 hE50
     refine q_append (E := EB) (k := 2) (l := wS gs inp i) (l2 := [((wS gs inp i).getD (((gs.getD i g0).a).toNat) false) != ((wS gs inp i).getD (((gs.getD i g0).b).toNat) false)]) H49 rfl hS sli76 zer4 rfl byt4 (H49.rd (k := 0) rfl hS47) rfl (by omega) rfl (by rfl) (by omega) ?_
     intro key51 c52 sp53 w55 hS54 hne57 H56
     have H56' := H56.as (L' := [((some b46), sob EB 4 ([((wS gs inp i).getD (((gs.getD i g0).a).toNat) false) != ((wS gs inp i).getD (((gs.getD i g0).b).toNat) false)]) ([])), (some b39, .cells #[i64 (((gs).getD i g0).k), i64 (((gs).getD i g0).a), i64 (((gs).getD i g0).b)] 99 (0, 0)), (key51, sob EB 4 ((wS gs inp i) ++ ([((wS gs inp i).getD (((gs.getD i g0).a).toNat) false) != ((wS gs inp i).getD (((gs.getD i g0).b).toNat) false)])) sp53), (some b1, .cells #[i64 (n), .slice ga gs.length gc, .slice oa ol.length oc] 70 (0, 0))]) rfl
     clear H56
     have e58 : (wS gs inp i) ++ ([((wS gs inp i).getD (((gs.getD i g0).a).toNat) false) != ((wS gs inp i).getD (((gs.getD i g0).b).toNat) false)]) = wS gs inp (i + 1) := by rw [wS, gval, if_pos kc51]
     have hS59 := hS54
     rw [e58] at hS59
     have H60 := H56'.as (L' := [((some b46), sob EB 4 ([((wS gs inp i).getD (((gs.getD i g0).a).toNat) false) != ((wS gs inp i).getD (((gs.getD i g0).b).toNat) false)]) ([])), (some b39, .cells #[i64 (((gs).getD i g0).k), i64 (((gs).getD i g0).a), i64 (((gs).getD i g0).b)] 99 (0, 0)), (key51, sob EB 4 (wS gs inp (i + 1)) sp53), (some b1, .cells #[i64 (n), .slice ga gs.length gc, .slice oa ol.length oc] 70 (0, 0))]) (by rw [e58])
     refine sA (.slice (ownA key51) ((inp.length + i) + 1) c52) rfl ?_
     refine wnil ?_
     refine blockNormal ?_
     refine thenNormal ?_
     refine oneRegion ?_
     refine sq (r_addI (a := (i : Nat)) (b := (1 : Int)) rfl rfl (by omega)) ?_
     refine sM (i64 ((i : Nat) + (1 : Int))) rfl ?_
     refine wnil ?_
     refine thenNormal ?_
     exact ⟨(i + 1, key51, c52, sp53), _, rfl, ⟨rfl, rfl, rfl, rfl, rfl, trivial⟩, ⟨by omega, hS59, ((H60.dropk 1).dropk 0)⟩, by show gs.length - (i + 1) < gs.length - i; omega⟩
    ·skip
     refine sR ?_
     refine sq (r_eqlI (a := ((gs).getD i g0).k) (b := (2 : Int)) rfl rfl) ?_
     refine sA (.bool (decide ((((gs).getD i g0).k : Int) = (2 : Int)))) rfl ?_
     refine wend ?_
     refine condProp ((((gs).getD i g0).k : Int) = (2 : Int)) rfl (fun kc60 => ?_) (fun kc60 => ?_)
     ·skip
      refine oneRegion ?_
      refine sM (.bool ((wS gs inp i).getD (((gs.getD i g0).a).toNat) false)) rfl ?_
      refine sM (.bool ((wS gs inp i).getD (((gs.getD i g0).a).toNat) false)) rfl ?_
      rcases Bool.eq_false_or_eq_true ((wS gs inp i).getD (((gs.getD i g0).a).toNat) false) with g61 | g61
      ·skip
       refine sqAny (v := .slice (ownA key) (inp.length + i) c) (w' := w43) (wantedSome (d' := 63) (b := true) rfl rfl (congrArg Value.bool g61)) (r_move (v := .slice (ownA key) (inp.length + i) c) rfl) ?_
       refine sqAny (v := .pointer (some ⟨b39, 2, none⟩)) (w' := w43) (wantedSome (d' := 63) (b := true) rfl rfl (congrArg Value.bool g61)) (r_fieldAddr (off' := 2) fld99_2 (by decide) (b := b39) (off := 0) rfl (by omega)) ?_
       refine sqAny (v := i64 (((gs).getD i g0).b)) (w' := w43) (wantedSome (d' := 63) (b := true) rfl rfl (congrArg Value.bool g61)) (r_loadC (v := i64 (((gs).getD i g0).b)) one3 (H44'.get (k := 0) rfl) (off := 2) rfl (by rfl)) ?_
       refine sqAny (v := .pointer (adr (ownA key) ((((gs.getD i g0).b).toNat) * 1))) (w' := w43) (wantedSome (d' := 63) (b := true) rfl rfl (congrArg Value.bool g61)) (r_idxS (E := EB) (l := wS gs inp i) (j := ((gs.getD i g0).b).toNat) sli76 (H44'.rd (k := 1) rfl hS) rfl rfl (by omega) (by omega) (by omega)) ?_
       refine sqAny (v := .bool ((wS gs inp i).getD (((gs.getD i g0).b).toNat) false)) (w' := w43) (wantedSome (d' := 63) (b := true) rfl rfl (congrArg Value.bool g61)) (r_ldS (E := EB) (l := wS gs inp i) (j := ((gs.getD i g0).b).toNat) (v := (wS gs inp i).getD (((gs.getD i g0).b).toNat) false) fits4 (H44'.rd (k := 1) rfl hS) rfl rfl (at_getD (by omega))) ?_
       refine sq (r_pickT (u := .bool ((wS gs inp i).getD (((gs.getD i g0).b).toNat) false)) (congrArg Value.bool g61) rfl) ?_
       refine sA (.bool ((wS gs inp i).getD (((gs.getD i g0).b).toNat) false)) rfl ?_
       refine wnil ?_
       refine blockNormal ?_
       refine thenNormal ?_
       refine oneRegion ?_
       refine sM (.slice (ownA key) (inp.length + i) c) rfl ?_
       refine sM (.bool ((wS gs inp i).getD (((gs.getD i g0).b).toNat) false)) rfl ?_
       refine q_buildSlice (E := EB) (l := [(wS gs inp i).getD (((gs.getD i g0).b).toNat) false]) H44' sli76 zer4 (bLe rfl) (ps := [(0, .bool ((wS gs inp i).getD (((gs.getD i g0).b).toNat) false))]) rfl (by exact fillAll rfl rfl) rfl ?_
       intro b62 w64 hS63 H65 hE66
       refine q_append (E := EB) (k := 2) (l := wS gs inp i) (l2 := [(wS gs inp i).getD (((gs.getD i g0).b).toNat) false]) H65 rfl hS sli76 zer4 rfl byt4 (H65.rd (k := 0) rfl hS63) rfl (by omega) rfl (by rfl) (by omega) ?_
       intro key67 c68 sp69 w71 hS70 hne73 H72
       have H72' := H72.as (L' := [((some b62), sob EB 4 ([(wS gs inp i).getD (((gs.getD i g0).b).toNat) false]) ([])), (some b39, .cells #[i64 (((gs).getD i g0).k), i64 (((gs).getD i g0).a), i64 (((gs).getD i g0).b)] 99 (0, 0)), (key67, sob EB 4 ((wS gs inp i) ++ ([(wS gs inp i).getD (((gs.getD i g0).b).toNat) false])) sp69), (some b1, .cells #[i64 (n), .slice ga gs.length gc, .slice oa ol.length oc] 70 (0, 0))]) rfl
       clear H72
       have e74 : (wS gs inp i) ++ ([(wS gs inp i).getD (((gs.getD i g0).b).toNat) false]) = wS gs inp (i + 1) := by rw [wS, gval, if_neg kc51, if_pos kc60, g61]; rfl
       have hS75 := hS70
       rw [e74] at hS75
       have H76 := H72'.as (L' := [((some b62), sob EB 4 ([(wS gs inp i).getD (((gs.getD i g0).b).toNat) false]) ([])), (some b39, .cells #[i64 (((gs).getD i g0).k), i64 (((gs).getD i g0).a), i64 (((gs).getD i g0).b)] 99 (0, 0)), (key67, sob EB 4 (wS gs inp (i + 1)) sp69), (some b1, .cells #[i64 (n), .slice ga gs.length gc, .slice oa ol.length oc] 70 (0, 0))]) (by rw [e74])
       refine sA (.slice (ownA key67) ((inp.length + i) + 1) c68) rfl ?_
       refine wnil ?_
       refine blockNormal ?_
       refine thenNormal ?_
       refine oneRegion ?_
       refine sq (r_addI (a := (i : Nat)) (b := (1 : Int)) rfl rfl (by omega)) ?_
       refine sM (i64 ((i : Nat) + (1 : Int))) rfl ?_
       refine wnil ?_
       refine thenNormal ?_
       exact ⟨(i + 1, key67, c68, sp69), _, rfl, ⟨rfl, rfl, rfl, rfl, rfl, trivial⟩, ⟨by omega, hS75, ((H76.dropk 1).dropk 0)⟩, by show gs.length - (i + 1) < gs.length - i; omega⟩
      ·skip
       refine skAny (wantedSome (d' := 63) (b := false) rfl rfl (congrArg Value.bool g61)) ?_
       refine skAny (wantedSome (d' := 63) (b := false) rfl rfl (congrArg Value.bool g61)) ?_
       refine skAny (wantedSome (d' := 63) (b := false) rfl rfl (congrArg Value.bool g61)) ?_
       refine skAny (wantedSome (d' := 63) (b := false) rfl rfl (congrArg Value.bool g61)) ?_
       refine skAny (wantedSome (d' := 63) (b := false) rfl rfl (congrArg Value.bool g61)) ?_
       refine sq (r_pickF (v := .bool (false)) (congrArg Value.bool g61) rfl) ?_
       refine sA (.bool (false)) rfl ?_
       refine wnil ?_
       refine blockNormal ?_
       refine thenNormal ?_
       refine oneRegion ?_
       refine sM (.slice (ownA key) (inp.length + i) c) rfl ?_
       refine sM (.bool (false)) rfl ?_
       refine q_buildSlice (E := EB) (l := [false]) H44' sli76 zer4 (bLe rfl) (ps := [(0, .bool (false))]) rfl (by exact fillAll rfl rfl) rfl ?_
       intro b77 w79 hS78 H80 hE81
       refine q_append (E := EB) (k := 2) (l := wS gs inp i) (l2 := [false]) H80 rfl hS sli76 zer4 rfl byt4 (H80.rd (k := 0) rfl hS78) rfl (by omega) rfl (by rfl) (by omega) ?_
       intro key82 c83 sp84 w86 hS85 hne88 H87
       have H87' := H87.as (L' := [((some b77), sob EB 4 ([false]) ([])), (some b39, .cells #[i64 (((gs).getD i g0).k), i64 (((gs).getD i g0).a), i64 (((gs).getD i g0).b)] 99 (0, 0)), (key82, sob EB 4 ((wS gs inp i) ++ ([false])) sp84), (some b1, .cells #[i64 (n), .slice ga gs.length gc, .slice oa ol.length oc] 70 (0, 0))]) rfl
       clear H87
       have e89 : (wS gs inp i) ++ ([false]) = wS gs inp (i + 1) := by rw [wS, gval, if_neg kc51, if_pos kc60, g61]; rfl
       have hS90 := hS85
       rw [e89] at hS90
       have H91 := H87'.as (L' := [((some b77), sob EB 4 ([false]) ([])), (some b39, .cells #[i64 (((gs).getD i g0).k), i64 (((gs).getD i g0).a), i64 (((gs).getD i g0).b)] 99 (0, 0)), (key82, sob EB 4 (wS gs inp (i + 1)) sp84), (some b1, .cells #[i64 (n), .slice ga gs.length gc, .slice oa ol.length oc] 70 (0, 0))]) (by rw [e89])
       refine sA (.slice (ownA key82) ((inp.length + i) + 1) c83) rfl ?_
       refine wnil ?_
       refine blockNormal ?_
       refine thenNormal ?_
       refine oneRegion ?_
       refine sq (r_addI (a := (i : Nat)) (b := (1 : Int)) rfl rfl (by omega)) ?_
       refine sM (i64 ((i : Nat) + (1 : Int))) rfl ?_
       refine wnil ?_
       refine thenNormal ?_
       exact ⟨(i + 1, key82, c83, sp84), _, rfl, ⟨rfl, rfl, rfl, rfl, rfl, trivial⟩, ⟨by omega, hS90, ((H91.dropk 1).dropk 0)⟩, by show gs.length - (i + 1) < gs.length - i; omega⟩
     ·skip
      refine sR ?_
      refine sq (r_eqlI (a := ((gs).getD i g0).k) (b := (3 : Int)) rfl rfl) ?_
      refine sA (.bool (decide ((((gs).getD i g0).k : Int) = (3 : Int)))) rfl ?_
      refine wend ?_
      refine condProp ((((gs).getD i g0).k : Int) = (3 : Int)) rfl (fun kc70 => ?_) (fun kc70 => ?_)
      ·skip
       refine oneRegion ?_
       refine sM (.bool ((wS gs inp i).getD (((gs.getD i g0).a).toNat) false)) rfl ?_
       refine sq (r_not (b := (wS gs inp i).getD (((gs.getD i g0).a).toNat) false) rfl) ?_
       refine sA (.bool (!((wS gs inp i).getD (((gs.getD i g0).a).toNat) false))) rfl ?_
       refine wnil ?_
       refine blockNormal ?_
       refine thenNormal ?_
       refine oneRegion ?_
       refine sM (.slice (ownA key) (inp.length + i) c) rfl ?_
       refine sM (.bool (!((wS gs inp i).getD (((gs.getD i g0).a).toNat) false))) rfl ?_
       refine q_buildSlice (E := EB) (l := [!((wS gs inp i).getD (((gs.getD i g0).a).toNat) false)]) H44' sli76 zer4 (bLe rfl) (ps := [(0, .bool (!((wS gs inp i).getD (((gs.getD i g0).a).toNat) false)))]) rfl (by exact fillAll rfl rfl) rfl ?_
       intro b92 w94 hS93 H95 hE96
       refine q_append (E := EB) (k := 2) (l := wS gs inp i) (l2 := [!((wS gs inp i).getD (((gs.getD i g0).a).toNat) false)]) H95 rfl hS sli76 zer4 rfl byt4 (H95.rd (k := 0) rfl hS93) rfl (by omega) rfl (by rfl) (by omega) ?_
       intro key97 c98 sp99 w101 hS100 hne103 H102
       have H102' := H102.as (L' := [((some b92), sob EB 4 ([!((wS gs inp i).getD (((gs.getD i g0).a).toNat) false)]) ([])), (some b39, .cells #[i64 (((gs).getD i g0).k), i64 (((gs).getD i g0).a), i64 (((gs).getD i g0).b)] 99 (0, 0)), (key97, sob EB 4 ((wS gs inp i) ++ ([!((wS gs inp i).getD (((gs.getD i g0).a).toNat) false)])) sp99), (some b1, .cells #[i64 (n), .slice ga gs.length gc, .slice oa ol.length oc] 70 (0, 0))]) rfl
       clear H102
       have e104 : (wS gs inp i) ++ ([!((wS gs inp i).getD (((gs.getD i g0).a).toNat) false)]) = wS gs inp (i + 1) := by rw [wS, gval, if_neg kc51, if_neg kc60]
       have hS105 := hS100
       rw [e104] at hS105
       have H106 := H102'.as (L' := [((some b92), sob EB 4 ([!((wS gs inp i).getD (((gs.getD i g0).a).toNat) false)]) ([])), (some b39, .cells #[i64 (((gs).getD i g0).k), i64 (((gs).getD i g0).a), i64 (((gs).getD i g0).b)] 99 (0, 0)), (key97, sob EB 4 (wS gs inp (i + 1)) sp99), (some b1, .cells #[i64 (n), .slice ga gs.length gc, .slice oa ol.length oc] 70 (0, 0))]) (by rw [e104])
       refine sA (.slice (ownA key97) ((inp.length + i) + 1) c98) rfl ?_
       refine wnil ?_
       refine blockNormal ?_
       refine thenNormal ?_
       refine oneRegion ?_
       refine sq (r_addI (a := (i : Nat)) (b := (1 : Int)) rfl rfl (by omega)) ?_
       refine sM (i64 ((i : Nat) + (1 : Int))) rfl ?_
       refine wnil ?_
       refine thenNormal ?_
       exact ⟨(i + 1, key97, c98, sp99), _, rfl, ⟨rfl, rfl, rfl, rfl, rfl, trivial⟩, ⟨by omega, hS105, ((H106.dropk 1).dropk 0)⟩, by show gs.length - (i + 1) < gs.length - i; omega⟩
      ·skip
       exfalso
       omega
   ·skip
    obtain rfl : i = gs.length := by omega
    refine exitAny ?_
    refine thenExit ?_
    refine thenExit ?_
    refine blockHere ?_
    refine thenNormal ?_
    refine sR ?_
    refine sA (.slice none 0 0) rfl ?_
    have H107 := HL.nil (sob EB 4 [] [])
    refine wend ?_
    refine seqAny ?_
    refine sR ?_
    refine sq (r_fieldAddr (off' := 2) fld70_2 (by decide) (b := b1) (off := 0) rfl (by omega)) ?_
    refine sq (r_loadC (v := .slice oa ol.length oc) one60 (H107.get (k := 2) rfl) (off := 2) rfl (by rfl)) ?_
    refine sq (r_lenS sli60 (a := oa) (m := ol.length) (c := oc) rfl) ?_
    refine sM (i64 ((0 : Int))) rfl ?_
    refine wend ?_
    refine blockAny ?_
    refine loopAny (σ := Nat × Option Nat × Nat × List Value) (fun (q, k2, c2, sp2) => [(2, pT b1), (7, .slice (ownA key) (inp.length + gs.length) c), (11, .slice (ownA k2) q c2), (80, .slice oa ol.length oc), (81, i64 (ol.length : Nat)), (82, i64 (q : Nat))]) (fun (q, k2, c2, sp2) w' => q ≤ ol.length ∧ Sl EB k2 (oS (wS gs inp gs.length) ol q) c2 sp2 ∧ Hp No w w' [(k2, sob EB 4 (oS (wS gs inp gs.length) ol q) sp2), (key, sob EB 4 (wS gs inp gs.length) sp), (some b1, .cells #[i64 (n), .slice ga gs.length gc, .slice oa ol.length oc] 70 (0, 0))]) (fun (q, k2, c2, sp2) => ol.length - q) ((0, none, 0, [])) ?_ ?_ ?_
    ·exact ⟨rfl, rfl, rfl, rfl, rfl, rfl, trivial⟩
    ·exact ⟨by omega, Sl.none, H107⟩
    rintro ⟨q, k2, c2, sp2⟩ ρ w108 ⟨hq, hS2, HL2⟩
    have hl2 := oS_len (wS gs inp gs.length) ol q
    refine sR ?_
    refine sq (r_lssI (a := (q : Nat)) (b := (ol.length : Nat)) rfl rfl) ?_
    refine wend ?_
    refine seqAny ?_
    refine condProp (((q : Nat) : Int) < (ol.length : Nat)) rfl (fun c83 => ?_) (fun c83 => ?_)
    ·skip
     have hoi := hg10.ook q (by omega)
     refine skipAny ?_
     refine thenNormal ?_
     refine seqAny ?_
     refine blockAny ?_
     refine sR ?_
     refine sq (r_idxS (E := EI) (l := ol) (j := q) sli60 (hOl.ext HL2.chg) rfl rfl (by first | rfl | omega | (simp; omega)) (by rfl) (by omega)) ?_
     refine sq (r_ldS (E := EI) (l := ol) (j := q) (v := (ol).getD q 0) fits3 (hOl.ext HL2.chg) rfl rfl (at_getD (by omega))) ?_
     refine sA (i64 ((ol).getD q 0)) rfl ?_
     refine wend ?_
     refine oneRegion ?_
     refine sM (.slice (ownA k2) q c2) rfl ?_
     refine sM (.slice (ownA key) (inp.length + gs.length) c) rfl ?_
     refine sM (i64 ((ol).getD q 0)) rfl ?_
     refine sq (r_idxS (E := EB) (l := wS gs inp gs.length) (j := (ol.getD q 0).toNat) sli76 (HL2.rd (k := 1) rfl hS) rfl rfl (by omega) (by omega) (by omega)) ?_
     refine sq (r_ldS (E := EB) (l := wS gs inp gs.length) (j := (ol.getD q 0).toNat) (v := (wS gs inp gs.length).getD ((ol.getD q 0).toNat) false) fits4 (HL2.rd (k := 1) rfl hS) rfl rfl (at_getD (by omega))) ?_
     refine q_buildSlice (E := EB) (l := [(wS gs inp gs.length).getD ((ol.getD q 0).toNat) false]) HL2 sli76 zer4 (bLe rfl) (ps := [(0, .bool ((wS gs inp gs.length).getD ((ol.getD q 0).toNat) false))]) rfl (by exact fillAll rfl rfl) rfl ?_
     intro b110 w112 hS111 H113 hE114
     refine q_append (E := EB) (k := 1) (l := oS (wS gs inp gs.length) ol q) (l2 := [(wS gs inp gs.length).getD ((ol.getD q 0).toNat) false]) H113 rfl hS2 sli76 zer4 rfl byt4 (H113.rd (k := 0) rfl hS111) rfl (by exact (oS_len _ _ _).symm) rfl (by rfl) (by omega) ?_
     intro key115 c116 sp117 w119 hS118 hne121 H120
     have H120' := H120.as (L' := [((some b110), sob EB 4 ([(wS gs inp gs.length).getD ((ol.getD q 0).toNat) false]) ([])), (key115, sob EB 4 ((oS (wS gs inp gs.length) ol q) ++ ([(wS gs inp gs.length).getD ((ol.getD q 0).toNat) false])) sp117), (key, sob EB 4 (wS gs inp gs.length) sp), (some b1, .cells #[i64 (n), .slice ga gs.length gc, .slice oa ol.length oc] 70 (0, 0))]) rfl
     clear H120
     have e122 : (oS (wS gs inp gs.length) ol q) ++ ([(wS gs inp gs.length).getD ((ol.getD q 0).toNat) false]) = oS (wS gs inp gs.length) ol (q + 1) := by rw [oS]
     have hS123 := hS118
     rw [e122] at hS123
     have H124 := H120'.as (L' := [((some b110), sob EB 4 ([(wS gs inp gs.length).getD ((ol.getD q 0).toNat) false]) ([])), (key115, sob EB 4 (oS (wS gs inp gs.length) ol (q + 1)) sp117), (key, sob EB 4 (wS gs inp gs.length) sp), (some b1, .cells #[i64 (n), .slice ga gs.length gc, .slice oa ol.length oc] 70 (0, 0))]) (by rw [e122])
     refine sA (.slice (ownA key115) (q + 1) c116) rfl ?_
     refine wnil ?_
     refine blockNormal ?_
     refine thenNormal ?_
     refine oneRegion ?_
     refine sq (r_addI (a := (q : Nat)) (b := (1 : Int)) rfl rfl (by omega)) ?_
     refine sM (i64 ((q : Nat) + (1 : Int))) rfl ?_
     refine wnil ?_
     refine thenNormal ?_
     exact ⟨(q + 1, key115, c116, sp117), _, rfl, ⟨rfl, rfl, rfl, rfl, rfl, rfl, trivial⟩, ⟨by omega, hS123, (H124.dropk 0)⟩, by show ol.length - (q + 1) < ol.length - q; omega⟩
    ·skip
     obtain rfl : q = ol.length := by omega
     refine exitAny ?_
     refine thenExit ?_
     refine thenExit ?_
     refine blockHere ?_
     refine thenNormal ?_
     refine sR ?_
     refine sM (.slice (ownA k2) ol.length c2) rfl ?_
     refine sA (.slice (ownA k2) ol.length c2) rfl ?_
     refine sA (.nilIface) rfl ?_
     refine wend ?_
     refine retAny ?_
     refine retG (rs := [.tmp 4, .tmp 5]) (vs := [.slice (ownA k2) ol.length c2, .nilIface]) rfl ⟨⟨rfl, rfl⟩, ⟨rfl, rfl⟩, trivial⟩ ?_
     exact ⟨_, rfl, .inl ⟨hg10, by omega, _, rfl, HL2.resN (k := 0) rfl hS2 (by rw [evalS_len])⟩, HL2.chg⟩
 ·skip
  have H9 := H3.ext hE8
  obtain ⟨T12, x13, rfl⟩ := hEr11.iface
  refine sA (.iface T12 (x13)) rfl ?_
  refine wend ?_
  refine sR ?_
  refine sM (.iface T12 (x13)) rfl ?_
  refine sq (r_neqIN isI27 rfl rfl) ?_
  refine wend ?_
  refine condTrue rfl ?_
  refine sR ?_
  refine sM (.iface T12 (x13)) rfl ?_
  refine sA (.slice none 0 0) rfl ?_
  refine sA (.iface T12 (x13)) rfl ?_
  refine wend ?_
  refine retAny ?_
  refine thenRet ?_
  refine retG (rs := [.tmp 4, .tmp 5]) (vs := [.slice none 0 0, .iface T12 (x13)]) rfl ⟨⟨rfl, rfl⟩, ⟨rfl, rfl⟩, trivial⟩ ?_
  exact ⟨_, rfl, .inr ⟨_, rfl, .inl ⟨hg10, hEr11.mono H3.chg.size⟩⟩, H9.chg⟩
theorem bit_ok (x : BitVec 64) (i : Nat) (w : World) : Calls Tryd.prog 60 [u64 (x), i64 (i : Nat)].toArray w (Ret fun v w' => v = u64 ((x >>> i) % 2#64) ∧ Ext w w') := by
 have H := Hp.start No w
 refine enter (n := 9) Tryd.func60 rfl rfl (bLe rfl) ?_
 refine sR ?_
 refine sA (u64 (0#64)) rfl ?_
 refine wend ?_
 refine sR ?_
 refine sM (u64 (x)) rfl ?_
 refine sM (i64 (i : Nat)) rfl ?_
 refine sq (r_shr64 (a := x) (c := i) rfl rfl) ?_
 refine sq (r_rem64 (a := x >>> (i : Nat)) (b := 2#64) rfl rfl (by decide)) ?_
 refine sA (u64 ((x >>> (i : Nat)) % (2#64))) rfl ?_
 refine wend ?_
 refine retAny ?_
 refine retG (rs := [.tmp 4]) (vs := [u64 ((x >>> (i : Nat)) % (2#64))]) rfl ⟨⟨rfl, rfl⟩, trivial⟩ ?_
 exact ⟨_, rfl, rfl, H.chg⟩
end Go.Proofs.YteofdmdpaejgaaaDoor.Er
namespace Go.Proofs.YteofdmdpaejgaaaDoor.Er
open Go Go.Proofs.YteofdmdpaejgaaaDoor.Vc Go.Proofs.YteofdmdpaejgaaaDoor.Circ
theorem byt99 : byt Tryd.prog 99 = some 24 := by kernel_rfl
theorem mixed : Tryd.prog.follows .mixedOrders = true := by kernel_rfl
theorem siz60 : siz Tryd.prog 60 = some 1 := by kernel_rfl
theorem siz68 : siz Tryd.prog 68 = some 1 := by kernel_rfl
theorem check_good (n : Int) (gs : List Gt) (ol : List Int) (ga oa : Option Addr) (gc oc : Nat) (w : World) (hG : Gl w) (hGs : Rd EG w ga gs) (hOl : Rd EI w oa ol) (hgl : gs.length ≤ 140737488355328) (hol : ol.length ≤ 140737488355328) (hb : IsC n gs ol) : Calls Tryd.prog 31 [.agg #[i64 (n), .slice ga gs.length gc, .slice oa ol.length oc]].toArray w (Ret fun v w' => v = .nilIface ∧ Ext w w') :=
 (check_ok n gs ol ga oa gc oc w hG hGs hOl hgl hol).mono fun e w' ⟨v, he, h, hE⟩ => by
  rcases h with ⟨h, _⟩ | ⟨_, h⟩
  ·exact ⟨v, he, h, hE⟩
  ·exact absurd hb h
end Go.Proofs.YteofdmdpaejgaaaDoor.Er
namespace Go.Proofs.YteofdmdpaejgaaaDoor.Gb
open Go Go.Proofs.YteofdmdpaejgaaaDoor.Vc Go.Proofs.YteofdmdpaejgaaaDoor.Er Go.Proofs.YteofdmdpaejgaaaDoor.Circ
set_option linter.unusedVariables false
theorem agg38 : isAgg' Tryd.prog 38 = true := by kernel_rfl
theorem arr38 : arr Tryd.prog 38 = some (2, 1) := by kernel_rfl
theorem byt38 : byt Tryd.prog 38 = some 16 := by kernel_rfl
theorem call86 : callable Tryd.prog 86 = true := by kernel_rfl
theorem fits3 : Fits Tryd.prog 3 EI := fitsI (by kernel_rfl) (by kernel_rfl)
theorem fits32 : Fits Tryd.prog 32 E64 := fits64 (by kernel_rfl) (by kernel_rfl)
theorem fits38 : Fits Tryd.prog 38 ELb := fitsLb (by kernel_rfl) (by kernel_rfl)
theorem fld70_2 : fld Tryd.prog 70 2 = some (2, 1, 60) := by kernel_rfl
theorem one60 : isOne Tryd.prog 60 = true := by kernel_rfl
theorem siz38 : siz Tryd.prog 38 = some 2 := by kernel_rfl
theorem sli60 : sli Tryd.prog 60 = some (3, 1) := by kernel_rfl
theorem sli92 : sli Tryd.prog 92 = some (38, 2) := by kernel_rfl
theorem zer38 : zer Tryd.prog 38 = some (.agg (List.replicate 2 (.int .u64 0)).toArray) := by kernel_rfl
def lhash (a : Lb) (s : BitVec 64) : Lb := AesSpec.hashL (AesSpec.cipher AesSpec.fixKey) a.1 a.2 s
theorem lxor_ok (a b : Lb) (w : World) : Calls Tryd.prog 86 [.agg (cel E64 [(a).1, (a).2]).toArray, .agg (cel E64 [(b).1, (b).2]).toArray].toArray w (Ret fun v w' => v = .agg (cel E64 [(lx a b).1, (lx a b).2]).toArray ∧ Ext w w') := Aes.xor_ok a.1 a.2 b.1 b.2 w
theorem lhash_ok (bc : Nat) (a : Lb) (tw : BitVec 64) (w : World) (hc : w.heap[bc]? = some (.cells (cel E8 (AesSpec.cipher AesSpec.fixKey)).toArray 215 (0, 0))) : Calls Tryd.prog 87 [pT bc, .agg (cel E64 [(a).1, (a).2]).toArray, u64 tw].toArray w (Ret fun v w' => v = .agg (cel E64 [(lhash a tw).1, (lhash a tw).2]).toArray ∧ Ext w w') := Aes.hash_ok bc (AesSpec.cipher AesSpec.fixKey) (AesSpec.cipher_len _ (AesSpec.fixS_len 16)) a.1 a.2 tw w hc
theorem col_ok (a : Lb) (w : World) : Calls Tryd.prog 84 [.agg (cel E64 [(a).1, (a).2]).toArray].toArray w (Ret fun v w' => v = .bool (col a) ∧ Ext w w') := by
 have H := Hp.start No w
 refine enter (n := 7) Tryd.func84 rfl rfl (bLe rfl) ?_
 refine sR ?_
 refine q_box (v := .agg (cel E64 [(a).1, (a).2]).toArray) (o := lO (a)) H rfl (by rfl) ?_
 intro b1 w2 hb1 H3 hE4
 refine sA (.bool (false)) rfl ?_
 refine wend ?_
 refine sR ?_
 refine sq (r_indexA (off' := 0) (j := 0) arr38 (b := b1) (off := 0) rfl rfl (by first | rfl | omega | (simp; omega)) (by omega) (by omega)) ?_
 refine sq (r_ld1 (E := E64) (l := [(a).1, (a).2]) (j := 0) (a := (a).1) fits32 (H3.get (k := 0) rfl) (by rfl) rfl rfl) ?_
 refine sq (r_and64 (a := (a).1) (b := 1#64) rfl rfl) ?_
 refine sq (r_eql64 (a := ((a).1) &&& (1#64)) (b := 1#64) rfl rfl) ?_
 refine sA (.bool (decide ((((a).1) &&& (1#64)) = (1#64)))) rfl ?_
 refine wend ?_
 refine retAny ?_
 refine retG (rs := [.tmp 2]) (vs := [.bool (decide ((((a).1) &&& (1#64)) = (1#64)))]) rfl ⟨⟨rfl, rfl⟩, trivial⟩ ?_
 exact ⟨_, rfl, rfl, H3.chg⟩
theorem lw_ok (c : Bool) (a : Lb) (w : World) : Calls Tryd.prog 89 [.bool (c), .agg (cel E64 [(a).1, (a).2]).toArray].toArray w (Ret fun v w' => v = .agg (cel E64 [(lw c a).1, (lw c a).2]).toArray ∧ Ext w w') := by
 have H := Hp.start No w
 refine enter (n := 8) Tryd.func89 rfl rfl (bLe rfl) ?_
 refine sR ?_
 refine q_box (v := .agg (cel E64 [(a).1, (a).2]).toArray) (o := lO (a)) H rfl (by rfl) ?_
 intro b1 w2 hb1 H3 hE4
 refine q_alloc (o := .cells (cel E64 ([0#64, 0#64])).toArray 38 (0, 0)) H3 zer38 (by kernel_rfl) ?_
 intro b5 w6 hb5 H7 hE8
 refine wend ?_
 refine seqAny ?_
 refine sR ?_
 refine sM (.bool (c)) rfl ?_
 refine wend ?_
 refine condBool (c) rfl (fun c5 => ?_) (fun c5 => ?_)
 ·skip
  refine sR ?_
  refine sq (r_loadA (cs' := (cel E64 ([(a).1, (a).2])).toArray) agg38 siz38 (H7.get (k := 1) rfl) (off := 0) rfl (by exact bLe rfl) (by exact ext_all rfl)) ?_
  refine d_store (k := 0) (v := lV (a)) (cs' := (cel E64 ([(a).1, (a).2])).toArray) H7 rfl rfl rfl siz38 (by exact celSize (by first | rfl | (show _ * 1 = _; omega))) (by exact celOne _) (by rw [List.size_toArray, cel_length]; show _ ≤ _ * 1; first | omega | (simp only [List.length_set]; omega) | exact bLe rfl | (simp <;> omega)) (by exact putAll (by first | rfl | omega | (simp <;> omega))) ?_
  intro w9 H10 hC11
  have H10' := H10.as (L' := [(some b5, lO (a)), (some b1, lO (a))]) rfl
  clear H10
  refine wend ?_
  refine retAny ?_
  refine thenRet ?_
  refine retG (rs := [.cell 4 38]) (vs := [lV (a)]) rfl ⟨r_loadA (cs' := (cel E64 ([(a).1, (a).2])).toArray) agg38 siz38 (H10'.get (k := 0) rfl) (off := 0) rfl (by exact bLe rfl) (by exact ext_all rfl), trivial⟩ ?_
  rw [show lw c a = _ from if_pos c5]
  exact ⟨_, rfl, rfl, H10'.chg⟩
 ·skip
  refine skipAny ?_
  refine thenNormal ?_
  refine sR ?_
  refine sq (r_buildA (cs' := (cel E64 [0#64, 0#64]).toArray) (ps := []) zer38 arr38 rfl (by rfl)) ?_
  refine d_store (k := 0) (v := .agg (cel E64 [0#64, 0#64]).toArray) (cs' := (cel E64 ([0#64, 0#64])).toArray) H7 rfl rfl rfl siz38 (by exact celSize (by first | rfl | (show _ * 1 = _; omega))) (by exact celOne _) (by rw [List.size_toArray, cel_length]; show _ ≤ _ * 1; first | omega | (simp only [List.length_set]; omega) | exact bLe rfl | (simp <;> omega)) (by exact putAll (by first | rfl | omega | (simp <;> omega))) ?_
  intro w12 H13 hC14
  have H13' := H13.as (L' := [(some b5, .cells (cel E64 ([0#64, 0#64])).toArray 38 (0, 0)), (some b1, lO (a))]) rfl
  clear H13
  refine wend ?_
  refine retAny ?_
  refine retG (rs := [.cell 4 38]) (vs := [.agg (cel E64 ([0#64, 0#64])).toArray]) rfl ⟨r_loadA (cs' := (cel E64 ([0#64, 0#64])).toArray) agg38 siz38 (H13'.get (k := 0) rfl) (off := 0) rfl (by exact bLe rfl) (by exact ext_all rfl), trivial⟩ ?_
  rw [show lw c a = _ from if_neg (by rw [c5]; exact Bool.false_ne_true)]
  exact ⟨_, rfl, rfl, H13'.chg⟩
theorem lsum_ok (l : List Lb) (a0 : Option Addr) (n0 c0 : Nat) (hn0 : n0 = l.length) (hl : l.length ≤ 1000000) (w : World) (hL : Rd ELb w a0 l) : Calls Tryd.prog 88 [.slice a0 n0 c0].toArray w (Ret fun v w' => v = .agg (cel E64 [(lsum l).1, (lsum l).2]).toArray ∧ Ext w w') := by
 subst hn0
 have H := Hp.start No w
 refine enter (n := 17) Tryd.func88 rfl rfl (bLe rfl) ?_
 refine sR ?_
 refine q_alloc (o := .cells (cel E64 ([0#64, 0#64])).toArray 38 (0, 0)) H zer38 (by kernel_rfl) ?_
 intro b1 w2 hb1 H3 hE4
 refine wend ?_
 refine sR ?_
 refine q_alloc (o := .cells (cel E64 ([0#64, 0#64])).toArray 38 (0, 0)) H3 zer38 (by kernel_rfl) ?_
 intro b5 w6 hb5 H7 hE8
 refine wend ?_
 refine seqAny ?_
 refine sR ?_
 refine sM (.slice a0 l.length c0) rfl ?_
 refine sq (r_lenS sli92 (a := a0) (m := l.length) (c := c0) rfl) ?_
 refine sM (i64 ((0 : Int))) rfl ?_
 refine wend ?_
 refine blockAny ?_
 refine loopAny (σ := Nat) (fun q => [(2, pT b1), (3, pT b5), (6, .slice a0 l.length c0), (7, i64 (l.length : Nat)), (8, i64 (q : Nat))]) (fun q w' => q ≤ l.length ∧ Hp No w w' [(some b5, lO (lsum (l.take q))), (some b1, .cells (cel E64 ([0#64, 0#64])).toArray 38 (0, 0))]) (fun q => l.length - q) (0) ?_ ?_ ?_
 ·exact ⟨rfl, rfl, rfl, rfl, rfl, trivial⟩
 ·exact ⟨Nat.zero_le _, H7⟩
 rintro q ρ w9 ⟨hq, HL⟩
 refine sR ?_
 refine sq (r_lssI (a := (q : Nat)) (b := (l.length : Nat)) rfl rfl) ?_
 refine wend ?_
 refine seqAny ?_
 refine condProp (((q : Nat) : Int) < (l.length : Nat)) rfl (fun c9 => ?_) (fun c9 => ?_)
 ·skip
  refine skipAny ?_
  refine thenNormal ?_
  refine seqAny ?_
  refine blockAny ?_
  refine sR ?_
  refine sq (r_idxS (E := ELb) (l := l) (j := q) sli92 (hL.ext HL.chg) rfl rfl (by first | rfl | omega | (simp; omega)) (by rfl) (by omega)) ?_
  refine sq ((r_ldS (E := ELb) (l := l) (j := q) (v := (l).getD q lb0) fits38 (hL.ext HL.chg) rfl rfl (at_getD (by omega))).as (v' := .agg (cel E64 [((l).getD q lb0).1, ((l).getD q lb0).2]).toArray) rfl) ?_
  refine q_alloc (o := .cells (cel E64 ([0#64, 0#64])).toArray 38 (0, 0)) HL zer38 (by kernel_rfl) ?_
  intro b11 w12 hb11 H13 hE14
  refine d_store (k := 0) (v := .agg (cel E64 [((l).getD q lb0).1, ((l).getD q lb0).2]).toArray) (cs' := (cel E64 ([((l).getD q lb0).1, ((l).getD q lb0).2])).toArray) H13 rfl rfl rfl siz38 (by exact celSize (by first | rfl | (show _ * 1 = _; omega))) (by exact celOne _) (by rw [List.size_toArray, cel_length]; show _ ≤ _ * 1; first | omega | (simp only [List.length_set]; omega) | exact bLe rfl | (simp <;> omega)) (by exact putAll (by first | rfl | omega | (simp <;> omega))) ?_
  intro w15 H16 hC17
  have H16' := H16.as (L' := [(some b11, lO ((l).getD q lb0)), (some b5, lO (lsum (l.take q))), (some b1, .cells (cel E64 ([0#64, 0#64])).toArray 38 (0, 0))]) rfl
  clear H16
  refine wend ?_
  refine oneRegion ?_
  refine sq (r_loadA (cs' := (cel E64 ([(lsum (l.take q)).1, (lsum (l.take q)).2])).toArray) agg38 siz38 (H16'.get (k := 1) rfl) (off := 0) rfl (by exact bLe rfl) (by exact ext_all rfl)) ?_
  refine sq (r_loadA (cs' := (cel E64 ([((l).getD q lb0).1, ((l).getD q lb0).2])).toArray) agg38 siz38 (H16'.get (k := 0) rfl) (off := 0) rfl (by exact bLe rfl) (by exact ext_all rfl)) ?_
  refine c_call (vs := [lV (lsum (l.take q)), lV ((l).getD q lb0)]) call86 rfl (lxor_ok (lsum (l.take q)) ((l).getD q lb0) w15) ?_
  rintro _ w18 ⟨rfl, hE19⟩
  have H20 := H16'.ext hE19
  refine d_store (k := 1) (v := .agg (cel E64 [(lx (lsum (l.take q)) ((l).getD q lb0)).1, (lx (lsum (l.take q)) ((l).getD q lb0)).2]).toArray) (cs' := (cel E64 ([(lx (lsum (l.take q)) ((l).getD q lb0)).1, (lx (lsum (l.take q)) ((l).getD q lb0)).2])).toArray) H20 rfl rfl rfl siz38 (by exact celSize (by first | rfl | (show _ * 1 = _; omega))) (by exact celOne _) (by rw [List.size_toArray, cel_length]; show _ ≤ _ * 1; first | omega | (simp only [List.length_set]; omega) | exact bLe rfl | (simp <;> omega)) (by exact putAll (by first | rfl | omega | (simp <;> omega))) ?_
  intro w21 H22 hC23
  have H22' := H22.as (L' := [(some b11, lO ((l).getD q lb0)), (some b5, lO (lx (lsum (l.take q)) ((l).getD q lb0))), (some b1, .cells (cel E64 ([0#64, 0#64])).toArray 38 (0, 0))]) rfl
  clear H22
  refine wnil ?_
  refine blockNormal ?_
  refine thenNormal ?_
  refine oneRegion ?_
  refine sq (r_addI (a := (q : Nat)) (b := (1 : Int)) rfl rfl (by omega)) ?_
  refine sM (i64 ((q : Nat) + (1 : Int))) rfl ?_
  refine wnil ?_
  refine thenNormal ?_
  rw [show lx (lsum (l.take q)) (l.getD q lb0) = lsum (l.take (q + 1)) from (lsum_take (by omega)).symm] at H22'
  exact ⟨q + 1, _, rfl, ⟨rfl, rfl, rfl, rfl, rfl, trivial⟩, ⟨by omega, (H22'.dropk 0)⟩, by show l.length - (q + 1) < l.length - q; omega⟩
 ·skip
  obtain rfl : q = l.length := by omega
  refine exitAny ?_
  refine thenExit ?_
  refine thenExit ?_
  refine blockHere ?_
  refine thenNormal ?_
  refine sR ?_
  refine sq (r_loadA (cs' := (cel E64 ([(lsum (l.take l.length)).1, (lsum (l.take l.length)).2])).toArray) agg38 siz38 (HL.get (k := 0) rfl) (off := 0) rfl (by exact bLe rfl) (by exact ext_all rfl)) ?_
  refine d_store (k := 1) (v := lV (lsum (l.take l.length))) (cs' := (cel E64 ([(lsum (l.take l.length)).1, (lsum (l.take l.length)).2])).toArray) HL rfl rfl rfl siz38 (by exact celSize (by first | rfl | (show _ * 1 = _; omega))) (by exact celOne _) (by rw [List.size_toArray, cel_length]; show _ ≤ _ * 1; first | omega | (simp only [List.length_set]; omega) | exact bLe rfl | (simp <;> omega)) (by exact putAll (by first | rfl | omega | (simp <;> omega))) ?_
  intro w24 H25 hC26
  have H25' := H25.as (L' := [(some b5, lO (lsum (l.take l.length))), (some b1, lO (lsum (l.take l.length)))]) rfl
  clear H25
  refine wend ?_
  refine retAny ?_
  refine retG (rs := [.cell 2 38]) (vs := [lV (lsum (l.take l.length))]) rfl ⟨r_loadA (cs' := (cel E64 ([(lsum (l.take l.length)).1, (lsum (l.take l.length)).2])).toArray) agg38 siz38 (H25'.get (k := 1) rfl) (off := 0) rfl (by exact bLe rfl) (by exact ext_all rfl), trivial⟩ ?_
  rw [List.take_length]
  exact ⟨_, rfl, rfl, H25'.chg⟩
theorem outs_ok (n : Int) (gs : List Gt) (ol : List Int) (ga oa : Option Addr) (gc oc : Nat) (ws : List Lb) (wa : Option Addr) (n0 wc : Nat) (hn0 : n0 = ws.length) (w : World) (hOl : Rd EI w oa ol) (hWs : Rd ELb w wa ws) (hol : ol.length ≤ 64) (hok : ∀ i, i < ol.length → 0 ≤ ol.getD i 0 ∧ ol.getD i 0 < (ws.length : Int)) : Calls Tryd.prog 90 [.agg #[i64 n, .slice ga gs.length gc, .slice oa ol.length oc], .slice wa n0 wc].toArray w (Ret fun v w' => SlRes ELb 38 (oL ws ol ol.length) w v w' ∧ Ext w w') := by
 subst hn0
 have H := Hp.start No w
 refine enter (n := 24) Tryd.func90 rfl rfl (bLe rfl) ?_
 refine sR ?_
 refine q_box (v := .agg #[i64 (n), .slice ga gs.length gc, .slice oa ol.length oc]) (o := .cells #[i64 (n), .slice ga gs.length gc, .slice oa ol.length oc] 70 (0, 0)) H rfl (by rfl) ?_
 intro b1 w2 hb1 H3 hE4
 refine sA (.slice none 0 0) rfl ?_
 refine wend ?_
 refine sR ?_
 refine sA (.slice none 0 0) rfl ?_
 refine wend ?_
 refine seqAny ?_
 refine sR ?_
 refine sq (r_fieldAddr (off' := 2) fld70_2 (by decide) (b := b1) (off := 0) rfl (by omega)) ?_
 refine sq (r_loadC (v := .slice oa ol.length oc) one60 (H3.get (k := 0) rfl) (off := 2) rfl (by rfl)) ?_
 refine sq (r_lenS sli60 (a := oa) (m := ol.length) (c := oc) rfl) ?_
 refine sM (i64 ((0 : Int))) rfl ?_
 have H5 := H3.nil (sob ELb 38 [] [])
 refine wend ?_
 refine blockAny ?_
 refine loopAny (σ := Nat × Option Nat × Nat × List Value) (fun (q, key, c, sp) => [(1, .slice wa ws.length wc), (2, pT b1), (4, .slice none 0 0), (9, .slice oa ol.length oc), (10, i64 (ol.length : Nat)), (5, .slice (ownA key) q c), (11, i64 (q : Nat))]) (fun (q, key, c, sp) w' => (q ≤ ol.length ∧ Sl ELb key (oL ws ol q) c sp) ∧ Hp No w w' [(key, sob ELb 38 (oL ws ol q) sp), (some b1, .cells #[i64 (n), .slice ga gs.length gc, .slice oa ol.length oc] 70 (0, 0))]) (fun (q, key, c, sp) => ol.length - q) ((0, none, 0, [])) ?_ ?_ ?_
 ·exact ⟨rfl, rfl, rfl, rfl, rfl, rfl, rfl, trivial⟩
 ·exact ⟨⟨Nat.zero_le _, Sl.none⟩, H5⟩
 rintro ⟨q, key, c, sp⟩ ρ w6 ⟨⟨hq, hS⟩, HL⟩
 refine sR ?_
 refine sq (r_lssI (a := (q : Nat)) (b := (ol.length : Nat)) rfl rfl) ?_
 refine wend ?_
 refine seqAny ?_
 refine condProp (((q : Nat) : Int) < (ol.length : Nat)) rfl (fun c12 => ?_) (fun c12 => ?_)
 ·skip
  have hoq := hok q (by omega)
  refine skipAny ?_
  refine thenNormal ?_
  refine seqAny ?_
  refine blockAny ?_
  refine sR ?_
  refine sq (r_idxS (E := EI) (l := ol) (j := q) sli60 (hOl.ext HL.chg) rfl rfl (by first | rfl | omega | (simp; omega)) (by rfl) (by omega)) ?_
  refine sq (r_ldS (E := EI) (l := ol) (j := q) (v := (ol).getD q 0) fits3 (hOl.ext HL.chg) rfl rfl (at_getD (by omega))) ?_
  refine sA (i64 ((ol).getD q 0)) rfl ?_
  refine wend ?_
  refine oneRegion ?_
  refine sM (.slice (ownA key) q c) rfl ?_
  refine sM (.slice wa ws.length wc) rfl ?_
  refine sM (i64 ((ol).getD q 0)) rfl ?_
  refine sq (r_idxS (E := ELb) (l := ws) (j := (ol.getD q 0).toNat) sli92 (hWs.ext HL.chg) rfl rfl (by omega) (by rfl) (by omega)) ?_
  refine sq ((r_ldS (E := ELb) (l := ws) (j := (ol.getD q 0).toNat) (v := (ws).getD ((ol.getD q 0).toNat) lb0) fits38 (hWs.ext HL.chg) rfl rfl (at_getD (by omega))).as (v' := .agg (cel E64 [((ws).getD ((ol.getD q 0).toNat) lb0).1, ((ws).getD ((ol.getD q 0).toNat) lb0).2]).toArray) rfl) ?_
  refine q_buildSlice (E := ELb) (l := ([(ws).getD ((ol.getD q 0).toNat) lb0] : List LbT)) HL sli92 zer38 (bLe rfl) (ps := [(0, .agg (cel E64 [((ws).getD ((ol.getD q 0).toNat) lb0).1, ((ws).getD ((ol.getD q 0).toNat) lb0).2]).toArray)]) rfl (by exact fillAll rfl rfl) rfl ?_
  intro b8 w10 hS9 H11 hE12
  refine q_append (E := ELb) (k := 1) (l := oL ws ol q) (l2 := ([(ws).getD ((ol.getD q 0).toNat) lb0] : List LbT)) H11 rfl hS sli92 zer38 rfl byt38 (H11.rd (k := 0) rfl hS9) rfl (by rw [oL_len]) rfl (by rfl) (by omega) ?_
  intro key13 c14 sp15 w17 hS16 hne19 H18
  have H18' := H18.as (L' := [((some b8), sob ELb 38 ([(ws).getD ((ol.getD q 0).toNat) lb0] : List LbT) ([])), (key13, sob ELb 38 ((oL ws ol q) ++ ([(ws).getD ((ol.getD q 0).toNat) lb0] : List LbT)) sp15), (some b1, .cells #[i64 (n), .slice ga gs.length gc, .slice oa ol.length oc] 70 (0, 0))]) rfl
  clear H18
  have e20 : (oL ws ol q) ++ ([(ws).getD ((ol.getD q 0).toNat) lb0] : List LbT) = oL ws ol (q + 1) := by rw [oL]
  have hS21 := hS16
  rw [e20] at hS21
  have H22 := H18'.as (L' := [((some b8), sob ELb 38 ([(ws).getD ((ol.getD q 0).toNat) lb0] : List LbT) ([])), (key13, sob ELb 38 (oL ws ol (q + 1)) sp15), (some b1, .cells #[i64 (n), .slice ga gs.length gc, .slice oa ol.length oc] 70 (0, 0))]) (by rw [e20])
  refine sA (.slice (ownA key13) (q + 1) c14) rfl ?_
  refine wnil ?_
  refine blockNormal ?_
  refine thenNormal ?_
  refine oneRegion ?_
  refine sq (r_addI (a := (q : Nat)) (b := (1 : Int)) rfl rfl (by omega)) ?_
  refine sM (i64 ((q : Nat) + (1 : Int))) rfl ?_
  refine wnil ?_
  refine thenNormal ?_
  exact ⟨(q + 1, key13, c14, sp15), _, rfl, ⟨rfl, rfl, rfl, rfl, rfl, rfl, rfl, trivial⟩, ⟨⟨by omega, hS21⟩, (H22.dropk 0)⟩, by show ol.length - (q + 1) < ol.length - q; omega⟩
 ·skip
  obtain rfl : q = ol.length := by omega
  refine exitAny ?_
  refine thenExit ?_
  refine thenExit ?_
  refine blockHere ?_
  refine thenNormal ?_
  refine sR ?_
  refine sM (.slice (ownA key) ol.length c) rfl ?_
  refine sA (.slice (ownA key) ol.length c) rfl ?_
  refine wend ?_
  refine retAny ?_
  refine retG (rs := [.tmp 4]) (vs := [.slice (ownA key) ol.length c]) rfl ⟨⟨rfl, rfl⟩, trivial⟩ ?_
  exact ⟨_, rfl, HL.resN (k := 0) rfl hS (by rw [oL_len]), HL.chg⟩
end Go.Proofs.YteofdmdpaejgaaaDoor.Gb
namespace Go.Proofs.YteofdmdpaejgaaaDoor.Gb
open Go Go.Proofs.YteofdmdpaejgaaaDoor.Vc Go.Proofs.YteofdmdpaejgaaaDoor.Er Go.Proofs.YteofdmdpaejgaaaDoor.Circ
set_option linter.unusedVariables false
theorem agg70 : isAgg' Tryd.prog 70 = true := by kernel_rfl
theorem call31 : callable Tryd.prog 31 = true := by kernel_rfl
theorem call63 : callable Tryd.prog 63 = true := by kernel_rfl
theorem call83 : callable Tryd.prog 83 = true := by kernel_rfl
theorem call84 : callable Tryd.prog 84 = true := by kernel_rfl
theorem fld70_0 : fld Tryd.prog 70 0 = some (0, 1, 3) := by kernel_rfl
theorem isI27 : isI Tryd.prog 27 = true := by kernel_rfl
theorem one3 : isOne Tryd.prog 3 = true := by kernel_rfl
theorem siz70 : siz Tryd.prog 70 = some 3 := by kernel_rfl
theorem und57 : Tryd.prog.underlying 57 = some (.int .i64) := by kernel_rfl
theorem look_good (n : Int) (gs : List Gt) (ol : List Int) (ga oa : Option Addr) (gc oc : Nat) (m : Nat) (w : World) (hG : Gl w) (hGs : Rd EG w ga gs) (hOl : Rd EI w oa ol) (hgl : gs.length ≤ 140737488355328) (hol : ol.length ≤ 140737488355328) (hg : IsC n gs ol) (hm : (m : Int) = n) : Calls Tryd.prog 83 [.agg #[i64 (n), .slice ga gs.length gc, .slice oa ol.length oc], i64 (m : Nat)].toArray w (Ret fun v w' => v = .nilIface ∧ Ext w w') := by
 have H := Hp.start No w
 refine enter (n := 18) Tryd.func83 rfl rfl (bLe rfl) ?_
 refine sR ?_
 refine q_box (v := .agg #[i64 (n), .slice ga gs.length gc, .slice oa ol.length oc]) (o := .cells #[i64 (n), .slice ga gs.length gc, .slice oa ol.length oc] 70 (0, 0)) H rfl (by rfl) ?_
 intro b1 w2 hb1 H3 hE4
 refine sA (.nilIface) rfl ?_
 refine wend ?_
 refine seqAny ?_
 refine sR ?_
 refine sq (r_loadA (cs' := #[i64 (n), .slice ga gs.length gc, .slice oa ol.length oc]) agg70 siz70 (H3.get (k := 0) rfl) (off := 0) rfl (by exact bLe rfl) (by rfl)) ?_
 refine c_call (vs := [.agg #[i64 (n), .slice ga gs.length gc, .slice oa ol.length oc]]) call31 rfl (check_good n gs ol ga oa gc oc w2 (Chg.gl H3.chg (fun x => x) hG) (hGs.ext H3.chg) (hOl.ext H3.chg) (by omega) (by omega) hg) ?_
 rintro _ w5 ⟨rfl, hE6⟩
 have H7 := H3.ext hE6
 refine sA (.nilIface) rfl ?_
 refine wend ?_
 refine sR ?_
 refine sM (.nilIface) rfl ?_
 refine sq (r_neqNN isI27 rfl rfl) ?_
 refine wend ?_
 refine condFalse rfl ?_
 refine skipAny ?_
 refine thenNormal ?_
 refine seqAny ?_
 refine sR ?_
 refine sM (i64 (m : Nat)) rfl ?_
 refine sq (r_fieldAddr (off' := 0) fld70_0 (by decide) (b := b1) (off := 0) rfl (by omega)) ?_
 refine sq (r_loadC (v := i64 (n)) one3 (H7.get (k := 0) rfl) (off := 0) rfl (by rfl)) ?_
 refine sq ((r_neqI (a := (m : Nat)) (b := n) rfl rfl).as (v' := .bool (false)) (by exact congrArg Value.bool (decide_eq_false (by omega)))) ?_
 refine wend ?_
 refine condFalse rfl ?_
 refine skipAny ?_
 refine thenNormal ?_
 refine sR ?_
 refine sA (.nilIface) rfl ?_
 refine wend ?_
 refine retAny ?_
 refine retG (rs := [.tmp 4]) (vs := [.nilIface]) rfl ⟨⟨rfl, rfl⟩, trivial⟩ ?_
 exact ⟨_, rfl, rfl, H7.chg⟩
theorem garble_delta (n : Int) (gs : List Gt) (ol : List Int) (ga oa : Option Addr) (gc oc : Nat) (δ : Lb) (zs : List Lb) (za : Option Addr) (zc : Nat) (first : BitVec 64) (w : World) (hG : Gl w) (hGs : Rd EG w ga gs) (hOl : Rd EI w oa ol) (hgl : gs.length ≤ 140737488355328) (hol : ol.length ≤ 140737488355328) (hZ : Rd ELb w za zs) (hg : IsC n gs ol) (hm : (zs.length : Int) = n) (hc : col δ = false) : Calls Tryd.prog 45 [.agg #[i64 (n), .slice ga gs.length gc, .slice oa ol.length oc], .agg (cel E64 [(δ).1, (δ).2]).toArray, .slice za zs.length zc, u64 (first)].toArray w (Ret fun v w' => (∃ ev, v = .tuple #[.slice none 0 0, .slice none 0 0, ev] ∧ Er w.heap.size w' 100 1 ev) ∧ Ext w w') := by
 have H := Hp.start No w
 refine enter (n := 152) Tryd.func45 rfl rfl (bLe rfl) ?_
 refine sR ?_
 refine q_box (v := .agg #[i64 (n), .slice ga gs.length gc, .slice oa ol.length oc]) (o := .cells #[i64 (n), .slice ga gs.length gc, .slice oa ol.length oc] 70 (0, 0)) H rfl (by rfl) ?_
 intro b1 w2 hb1 H3 hE4
 refine q_box (v := .agg (cel E64 [(δ).1, (δ).2]).toArray) (o := lO (δ)) H3 rfl (by rfl) ?_
 intro b5 w6 hb5 H7 hE8
 refine sA (.slice none 0 0) rfl ?_
 refine sA (.slice none 0 0) rfl ?_
 refine sA (.nilIface) rfl ?_
 refine wend ?_
 refine seqAny ?_
 refine sR ?_
 refine sq (r_loadA (cs' := #[i64 (n), .slice ga gs.length gc, .slice oa ol.length oc]) agg70 siz70 (H7.get (k := 1) rfl) (off := 0) rfl (by exact bLe rfl) (by rfl)) ?_
 refine sM (.slice za zs.length zc) rfl ?_
 refine sq (r_lenS sli92 (a := za) (m := zs.length) (c := zc) rfl) ?_
 refine c_call (vs := [.agg #[i64 (n), .slice ga gs.length gc, .slice oa ol.length oc], i64 (zs.length : Nat)]) call83 rfl (look_good n gs ol ga oa gc oc zs.length w6 (Chg.gl H7.chg (fun x => x) hG) (hGs.ext H7.chg) (hOl.ext H7.chg) (by omega) (by omega) hg (by omega)) ?_
 rintro _ w9 ⟨rfl, hE10⟩
 have H11 := H7.ext hE10
 refine sA (.nilIface) rfl ?_
 refine wend ?_
 refine sR ?_
 refine sM (.nilIface) rfl ?_
 refine sq (r_neqNN isI27 rfl rfl) ?_
 refine wend ?_
 refine condFalse rfl ?_
 refine skipAny ?_
 refine thenNormal ?_
 refine seqAny ?_
 refine sR ?_
 refine sq (r_loadA (cs' := (cel E64 ([(δ).1, (δ).2])).toArray) agg38 siz38 (H11.get (k := 0) rfl) (off := 0) rfl (by exact bLe rfl) (by exact ext_all rfl)) ?_
 refine c_call (vs := [lV (δ)]) call84 rfl (col_ok δ w9) ?_
 rintro _ w12 ⟨rfl, hE13⟩
 have H14 := H11.ext hE13
 refine sq ((r_not (b := col δ) rfl).as (v' := .bool (true)) (by rw [hc]; rfl)) ?_
 refine wend ?_
 refine condTrue rfl ?_
 refine sR ?_
 refine sq (r_mkI und57 (xv := i64 ((100 : Int))) rfl) ?_
 have := H14.lt (List.mem_of_getElem? (i := 0) rfl) rfl
 have := H14.lt (List.mem_of_getElem? (i := 1) rfl) rfl
 refine c_call (vs := [.iface 57 (i64 ((100 : Int))), .string ({data := #[100, 101, 108, 116, 97]}), i64 ((0 : Int))]) call63 rfl (wrap0_ok (100 : Int) (0 : Int) ({data := #[100, 101, 108, 116, 97]}) w12 (Chg.gl H14.chg (fun x => x) hG)) ?_
 rintro v17 w15 ⟨hEr18, hE19⟩
 have H20 := H14.ext hE19
 obtain ⟨T21, x22, rfl⟩ := hEr18.iface
 refine sA (.slice none 0 0) rfl ?_
 refine sA (.slice none 0 0) rfl ?_
 refine sA (.iface T21 (x22)) rfl ?_
 refine wend ?_
 refine retAny ?_
 refine thenRet ?_
 refine retG (rs := [.tmp 8, .tmp 9, .tmp 10]) (vs := [.slice none 0 0, .slice none 0 0, .iface T21 (x22)]) rfl ⟨⟨rfl, rfl⟩, ⟨rfl, rfl⟩, ⟨rfl, rfl⟩, trivial⟩ ?_
 exact ⟨_, rfl, ⟨_, rfl, hEr18.mono H14.chg.size⟩, H20.chg⟩
end Go.Proofs.YteofdmdpaejgaaaDoor.Gb
namespace Go.Proofs.YteofdmdpaejgaaaDoor.Gb
open Go Go.Proofs.YteofdmdpaejgaaaDoor.Vc Go.Proofs.YteofdmdpaejgaaaDoor.Er Go.Proofs.YteofdmdpaejgaaaDoor.Circ
set_option linter.unusedVariables false
theorem call85 : callable Tryd.prog 85 = true := by kernel_rfl
theorem call87 : callable Tryd.prog 87 = true := by kernel_rfl
theorem call88 : callable Tryd.prog 88 = true := by kernel_rfl
theorem call89 : callable Tryd.prog 89 = true := by kernel_rfl
theorem call90 : callable Tryd.prog 90 = true := by kernel_rfl
theorem fits99 : Fits Tryd.prog 99 EG := fitsG (by kernel_rfl) (by kernel_rfl)
theorem fld70_1 : fld Tryd.prog 70 1 = some (1, 1, 68) := by kernel_rfl
theorem fld99_0 : fld Tryd.prog 99 0 = some (0, 1, 97) := by kernel_rfl
theorem fld99_1 : fld Tryd.prog 99 1 = some (1, 1, 3) := by kernel_rfl
theorem fld99_2 : fld Tryd.prog 99 2 = some (2, 1, 3) := by kernel_rfl
theorem mixed : Tryd.prog.follows .mixedOrders = true := by kernel_rfl
theorem one68 : isOne Tryd.prog 68 = true := by kernel_rfl
theorem one97 : isOne Tryd.prog 97 = true := by kernel_rfl
theorem siz99 : siz Tryd.prog 99 = some 3 := by kernel_rfl
theorem sli68 : sli Tryd.prog 68 = some (99, 3) := by kernel_rfl
theorem und3 : Tryd.prog.underlying 3 = some (.int .i64) := by kernel_rfl
theorem und32 : Tryd.prog.underlying 32 = some (.int .u64) := by kernel_rfl
theorem zer99 : zer Tryd.prog 99 = some (.agg #[.int .i64 0, .int .i64 0, .int .i64 0]) := by kernel_rfl
set_option maxRecDepth 20000 in
set_option maxHeartbeats 16000000 in
theorem garble_ok (n : Int) (gs : List Gt) (ol : List Int) (ga oa : Option Addr) (gc oc : Nat) (δ : Lb) (zs : List Lb) (za : Option Addr) (zc : Nat) (first : BitVec 64) (w : World) (hG : Gl w) (hGs : Rd EG w ga gs) (hOl : Rd EI w oa ol) (hgl : gs.length ≤ 140737488355328) (hol : ol.length ≤ 140737488355328) (hZ : Rd ELb w za zs) (hg : IsC n gs ol) (hm : (zs.length : Int) = n) (hc : col δ = true) : Calls Tryd.prog 45 [.agg #[i64 n, .slice ga gs.length gc, .slice oa ol.length oc], .agg (cel E64 [(δ).1, (δ).2]).toArray, .slice za zs.length zc, u64 first].toArray w (Ret fun v w' => ∃ (k1 : Option Nat) (c1 : Nat) (z1 : List Value) (k2 : Option Nat) (c2 : Nat) (z2 : List Value), v = .tuple #[.slice (ownA k1) ((gS lhash δ first gs zs gs.length).2).length c1, .slice (ownA k2) (oL (gS lhash δ first gs zs gs.length).1 ol ol.length).length c2, .nilIface] ∧ Sl ELb k1 ((gS lhash δ first gs zs gs.length).2) c1 z1 ∧ Sl ELb k2 (oL (gS lhash δ first gs zs gs.length).1 ol ol.length) c2 z2 ∧ Hp No w w' [(k1, sob ELb 38 ((gS lhash δ first gs zs gs.length).2) z1), (k2, sob ELb 38 (oL (gS lhash δ first gs zs gs.length).1 ol ol.length) z2)]) := by
 subst hm
 have hgt := hg.gates
 have hot := hg.outs
 have hhi := hg.hi
 have H := Hp.start No w
 refine enter (n := 152) Tryd.func45 rfl rfl (bLe rfl) ?_
 refine sR ?_
 refine q_box (v := .agg #[i64 (zs.length : Nat), .slice ga gs.length gc, .slice oa ol.length oc]) (o := .cells #[i64 (zs.length : Nat), .slice ga gs.length gc, .slice oa ol.length oc] 70 (0, 0)) H rfl (by rfl) ?_
 intro b1 w2 hb1 H3 hE4
 refine q_box (v := .agg (cel E64 [(δ).1, (δ).2]).toArray) (o := lO (δ)) H3 rfl (by rfl) ?_
 intro b5 w6 hb5 H7 hE8
 refine sA (.slice none 0 0) rfl ?_
 refine sA (.slice none 0 0) rfl ?_
 refine sA (.nilIface) rfl ?_
 refine wend ?_
 refine seqAny ?_
 refine sR ?_
 refine sq (r_loadA (cs' := #[i64 (zs.length : Nat), .slice ga gs.length gc, .slice oa ol.length oc]) agg70 siz70 (H7.get (k := 1) rfl) (off := 0) rfl (by exact bLe rfl) (by rfl)) ?_
 refine sM (.slice za zs.length zc) rfl ?_
 refine sq (r_lenS sli92 (a := za) (m := zs.length) (c := zc) rfl) ?_
 refine c_call (vs := [.agg #[i64 (zs.length : Nat), .slice ga gs.length gc, .slice oa ol.length oc], i64 (zs.length : Nat)]) call83 rfl (look_good (zs.length : Nat) gs ol ga oa gc oc zs.length w6 (Chg.gl H7.chg (fun x => x) hG) (hGs.ext H7.chg) (hOl.ext H7.chg) (by omega) (by omega) hg (by omega)) ?_
 rintro _ w9 ⟨rfl, hE10⟩
 have H11 := H7.ext hE10
 refine sA (.nilIface) rfl ?_
 refine wend ?_
 refine sR ?_
 refine sM (.nilIface) rfl ?_
 refine sq (r_neqNN isI27 rfl rfl) ?_
 refine wend ?_
 refine condFalse rfl ?_
 refine skipAny ?_
 refine thenNormal ?_
 refine seqAny ?_
 refine sR ?_
 refine sq (r_loadA (cs' := (cel E64 ([(δ).1, (δ).2])).toArray) agg38 siz38 (H11.get (k := 0) rfl) (off := 0) rfl (by exact bLe rfl) (by exact ext_all rfl)) ?_
 refine c_call (vs := [lV (δ)]) call84 rfl (col_ok δ w9) ?_
 rintro _ w12 ⟨rfl, hE13⟩
 have H14 := H11.ext hE13
 refine sq ((r_not (b := col δ) rfl).as (v' := .bool (false)) (by rw [hc]; rfl)) ?_
 refine wend ?_
 refine condFalse rfl ?_
 refine skipAny ?_
 refine thenNormal ?_
 refine sR ?_
 refine c_call (vs := []) call85 rfl (Aes.fixed_ok w12) ?_
 rintro _ w15 ⟨⟨b17, rfl, hb18, ho19⟩, hE20⟩
 have H21 := H14.add1 hE20 hb18 ho19
 refine sA (pT b17) rfl ?_
 refine wend ?_
 refine sR ?_
 refine sq (r_fieldAddr (off' := 0) fld70_0 (by decide) (b := b1) (off := 0) rfl (by omega)) ?_
 refine sq (r_loadC (v := i64 (zs.length : Nat)) one3 (H21.get (k := 2) rfl) (off := 0) rfl (by rfl)) ?_
 refine sq (r_fieldAddr (off' := 1) fld70_1 (by decide) (b := b1) (off := 0) rfl (by omega)) ?_
 refine sq (r_loadC (v := .slice ga gs.length gc) one68 (H21.get (k := 2) rfl) (off := 1) rfl (by rfl)) ?_
 refine sq (r_lenS sli68 (a := ga) (m := gs.length) (c := gc) rfl) ?_
 refine sq ((r_addI (a := (zs.length : Nat)) (b := (gs.length : Nat)) rfl rfl (by omega)).as (v' := i64 (((zs.length + gs.length) : Nat))) (by rfl)) ?_
 refine q_makeSlice (E := ELb) (m := 0) (c := (zs.length + gs.length)) (z0 := lb0) H21 sli92 zer38 rfl byt38 rfl rfl (by first | rfl | omega | (simp; omega)) (by first | rfl | omega | (simp; omega)) (by omega) (by omega) ?_
 intro b22 w24 hS23 H25 hE26
 refine sM (.slice za zs.length zc) rfl ?_
 refine q_append (E := ELb) (k := 0) (l := List.replicate 0 lb0) (l2 := zs) H25 rfl hS23 sli92 zer38 rfl byt38 (hZ.ext H25.chg) rfl (by simp) rfl (by rfl) (by omega) ?_
 intro key27 c28 sp29 w31 hS30 hne33 H32
 have H32' := H32.as (L' := [(key27, sob ELb 38 ((List.replicate 0 lb0) ++ zs) sp29), (some b17, .cells (cel E8 (AesSpec.cipher AesSpec.fixKey)).toArray 215 (0, 0)), (some b5, lO (δ)), (some b1, .cells #[i64 (zs.length : Nat), .slice ga gs.length gc, .slice oa ol.length oc] 70 (0, 0))]) rfl
 clear H32
 have e34 : (List.replicate 0 lb0) ++ zs = zs := by rfl
 have hS35 := hS30
 rw [e34] at hS35
 have H36 := H32'.as (L' := [(key27, sob ELb 38 zs sp29), (some b17, .cells (cel E8 (AesSpec.cipher AesSpec.fixKey)).toArray 215 (0, 0)), (some b5, lO (δ)), (some b1, .cells #[i64 (zs.length : Nat), .slice ga gs.length gc, .slice oa ol.length oc] 70 (0, 0))]) (by rw [e34])
 refine sA (.slice (ownA key27) (0 + zs.length) c28) rfl ?_
 refine wend ?_
 refine sR ?_
 refine sA (.slice none 0 0) rfl ?_
 refine wend ?_
 refine seqAny ?_
 refine sR ?_
 refine sq (r_fieldAddr (off' := 1) fld70_1 (by decide) (b := b1) (off := 0) rfl (by omega)) ?_
 refine sq (r_loadC (v := .slice ga gs.length gc) one68 (H36.get (k := 3) rfl) (off := 1) rfl (by rfl)) ?_
 refine sq (r_lenS sli68 (a := ga) (m := gs.length) (c := gc) rfl) ?_
 refine sM (i64 ((0 : Int))) rfl ?_
 refine wend ?_
 refine blockAny ?_
 refine loopAny (σ := Nat × Option Nat × Nat × List Value × Option Nat × Nat × List Value × Nat) (fun (i, k1, c1, z1, k2, c2, z2, m) => [(3, u64 (first)), (4, pT b1), (5, pT b5), (12, pT b17), (13, .slice (ownA k1) (zs.length + i) c1), (14, .slice (ownA k2) m c2), (47, .slice ga gs.length gc), (48, i64 (gs.length : Nat)), (49, i64 (i : Nat))]) (fun (i, k1, c1, z1, k2, c2, z2, m) w' => (i ≤ gs.length ∧ Sl ELb k1 (gS lhash δ first gs zs i).1 c1 z1 ∧ Sl ELb k2 (gS lhash δ first gs zs i).2 c2 z2 ∧ m = (gS lhash δ first gs zs i).2.length) ∧ Hp No w w' [(k1, sob ELb 38 ((gS lhash δ first gs zs i).1) z1), (k2, sob ELb 38 ((gS lhash δ first gs zs i).2) z2), (some b17, .cells (cel E8 (AesSpec.cipher AesSpec.fixKey)).toArray 215 (0, 0)), (some b1, .cells #[i64 (zs.length : Nat), .slice ga gs.length gc, .slice oa ol.length oc] 70 (0, 0)), (some b5, lO (δ))]) (fun (i, k1, c1, z1, k2, c2, z2, m) => gs.length - i) ((0, key27, c28, sp29, none, 0, [], 0)) ?_ ?_ ?_
 ·exact ⟨rfl, rfl, rfl, rfl, congrArg (fun q => Value.slice _ q _) (by omega), rfl, rfl, rfl, rfl, trivial⟩
 ·exact ⟨⟨Nat.zero_le _, hS35, Sl.none, rfl⟩, ((H36.nil (sob ELb 38 [] [])).pick 5 [1, 0, 2, 4, 3] (by decide) (by decide))⟩
 rintro ⟨i, k1, c1, z1, k2, c2, z2, m⟩ ρ w37 ⟨⟨hi, h1, h2, rfl⟩, HL⟩
 have hwl := gS_len (h := lhash) (δ := δ) (first := first) (gs := gs) (zs := zs) i
 have htl := gS_tab (h := lhash) (δ := δ) (first := first) (gs := gs) (zs := zs) i
 refine sR ?_
 refine sq (r_lssI (a := (i : Nat)) (b := (gs.length : Nat)) rfl rfl) ?_
 refine wend ?_
 refine seqAny ?_
 refine condProp (((i : Nat) : Int) < (gs.length : Nat)) rfl (fun c50 => ?_) (fun c50 => ?_)
 ·skip
  have hgi := hg.gok i (by omega)
  unfold gokP at hgi
  refine skipAny ?_
  refine thenNormal ?_
  refine seqAny ?_
  refine blockAny ?_
  refine sR ?_
  refine sq (r_idxS (E := EG) (l := gs) (j := i) sli68 (hGs.ext HL.chg) rfl rfl (by first | rfl | omega | (simp; omega)) (by rfl) (by omega)) ?_
  refine sq ((r_ldS (E := EG) (l := gs) (j := i) (v := (gs).getD i g0) fits99 (hGs.ext HL.chg) rfl rfl (at_getD (by omega))).as (v' := .agg #[i64 (((gs).getD i g0).k), i64 (((gs).getD i g0).a), i64 (((gs).getD i g0).b)]) rfl) ?_
  refine q_alloc (o := .cells #[i64 ((0 : Int)), i64 ((0 : Int)), i64 ((0 : Int))] 99 (0, 0)) HL zer99 (by kernel_rfl) ?_
  intro b39 w40 hb39 H41 hE42
  refine d_store (k := 0) (v := .agg #[i64 (((gs).getD i g0).k), i64 (((gs).getD i g0).a), i64 (((gs).getD i g0).b)]) (cs' := #[i64 (((gs).getD i g0).k), i64 (((gs).getD i g0).a), i64 (((gs).getD i g0).b)]) H41 rfl rfl rfl siz99 (by rfl) (by intro u hu; simp [Value.cells] at hu; first | (subst hu; rfl) | (rcases hu with rfl | rfl | rfl <;> rfl)) (by exact bLe rfl) (by rfl) ?_
  intro w43 H44 hC45
  have H44' := H44.as (L' := [(some b39, .cells #[i64 (((gs).getD i g0).k), i64 (((gs).getD i g0).a), i64 (((gs).getD i g0).b)] 99 (0, 0)), (k1, sob ELb 38 ((gS lhash δ first gs zs i).1) z1), (k2, sob ELb 38 ((gS lhash δ first gs zs i).2) z2), (some b17, .cells (cel E8 (AesSpec.cipher AesSpec.fixKey)).toArray 215 (0, 0)), (some b1, .cells #[i64 (zs.length : Nat), .slice ga gs.length gc, .slice oa ol.length oc] 70 (0, 0)), (some b5, lO (δ))]) rfl
  clear H44
  refine wend ?_
  refine sR ?_
  refine sM (.slice (ownA k1) (zs.length + i) c1) rfl ?_
  refine sq (r_fieldAddr (off' := 1) fld99_1 (by decide) (b := b39) (off := 0) rfl (by omega)) ?_
  refine sq (r_loadC (v := i64 (((gs).getD i g0).a)) one3 (H44'.get (k := 0) rfl) (off := 1) rfl (by rfl)) ?_
  refine sq (r_idxS (E := ELb) (l := (gS lhash δ first gs zs i).1) (j := (gs.getD i g0).a.toNat) sli92 (H44'.rd (k := 1) rfl h1) rfl rfl (by omega) (by rw [gS_len]) (by omega)) ?_
  refine sq ((r_ldS (E := ELb) (l := (gS lhash δ first gs zs i).1) (j := (gs.getD i g0).a.toNat) (v := ((gS lhash δ first gs zs i).1).getD ((gs.getD i g0).a.toNat) lb0) fits38 (H44'.rd (k := 1) rfl h1) rfl rfl (at_getD (by omega))).as (v' := .agg (cel E64 [(((gS lhash δ first gs zs i).1).getD ((gs.getD i g0).a.toNat) lb0).1, (((gS lhash δ first gs zs i).1).getD ((gs.getD i g0).a.toNat) lb0).2]).toArray) rfl) ?_
  refine q_alloc (o := .cells (cel E64 ([0#64, 0#64])).toArray 38 (0, 0)) H44' zer38 (by kernel_rfl) ?_
  intro b46 w47 hb46 H48 hE49
  refine d_store (k := 0) (v := .agg (cel E64 [(((gS lhash δ first gs zs i).1).getD ((gs.getD i g0).a.toNat) lb0).1, (((gS lhash δ first gs zs i).1).getD ((gs.getD i g0).a.toNat) lb0).2]).toArray) (cs' := (cel E64 ([(((gS lhash δ first gs zs i).1).getD ((gs.getD i g0).a.toNat) lb0).1, (((gS lhash δ first gs zs i).1).getD ((gs.getD i g0).a.toNat) lb0).2])).toArray) H48 rfl rfl rfl siz38 (by exact celSize (by first | rfl | (show _ * 1 = _; omega))) (by exact celOne _) (by rw [List.size_toArray, cel_length]; show _ ≤ _ * 1; first | omega | (simp only [List.length_set]; omega) | exact bLe rfl | (simp <;> omega)) (by exact putAll (by first | rfl | omega | (simp <;> omega))) ?_
  intro w50 H51 hC52
  have H51' := H51.as (L' := [(some b46, lO (((gS lhash δ first gs zs i).1).getD ((gs.getD i g0).a.toNat) lb0)), (some b39, .cells #[i64 (((gs).getD i g0).k), i64 (((gs).getD i g0).a), i64 (((gs).getD i g0).b)] 99 (0, 0)), (k1, sob ELb 38 ((gS lhash δ first gs zs i).1) z1), (k2, sob ELb 38 ((gS lhash δ first gs zs i).2) z2), (some b17, .cells (cel E8 (AesSpec.cipher AesSpec.fixKey)).toArray 215 (0, 0)), (some b1, .cells #[i64 (zs.length : Nat), .slice ga gs.length gc, .slice oa ol.length oc] 70 (0, 0)), (some b5, lO (δ))]) rfl
  clear H51
  obtain ⟨la, hla⟩ : ∃ x : Lb, x = (((gS lhash δ first gs zs i).1).getD (gs.getD i g0).a.toNat lb0) := ⟨_, rfl⟩
  rw [← hla] at H51' ⊢
  refine wend ?_
  refine sR ?_
  refine sq (r_fieldAddr (off' := 0) fld99_0 (by decide) (b := b39) (off := 0) rfl (by omega)) ?_
  refine sq (r_loadC (v := i64 (((gs).getD i g0).k)) one97 (H51'.get (k := 1) rfl) (off := 0) rfl (by rfl)) ?_
  refine wend ?_
  refine blockAny ?_
  refine sR ?_
  refine sq (r_eqlI (a := ((gs).getD i g0).k) (b := (3 : Int)) rfl rfl) ?_
  refine sA (.bool (decide ((((gs).getD i g0).k : Int) = (3 : Int)))) rfl ?_
  refine wend ?_
  refine condProp ((((gs).getD i g0).k : Int) = (3 : Int)) rfl (fun hk => ?_) (fun hk => ?_)
  ·skip
   refine oneRegion ?_
   refine sM (.slice (ownA k1) (zs.length + i) c1) rfl ?_
   refine sq (r_loadA (cs' := (cel E64 ([(la).1, (la).2])).toArray) agg38 siz38 (H51'.get (k := 0) rfl) (off := 0) rfl (by exact bLe rfl) (by exact ext_all rfl)) ?_
   refine sq (r_loadA (cs' := (cel E64 ([(δ).1, (δ).2])).toArray) agg38 siz38 (H51'.get (k := 6) rfl) (off := 0) rfl (by exact bLe rfl) (by exact ext_all rfl)) ?_
   refine c_call (vs := [lV (la), lV (δ)]) call86 rfl (lxor_ok la δ w50) ?_
   rintro _ w53 ⟨rfl, hE54⟩
   have H55 := H51'.ext hE54
   refine q_buildSlice (E := ELb) (l := ([lx la δ] : List LbT)) H55 sli92 zer38 (bLe rfl) (ps := [(0, .agg (cel E64 [(lx la δ).1, (lx la δ).2]).toArray)]) rfl (by exact fillAll rfl rfl) rfl ?_
   intro b56 w58 hS57 H59 hE60
   refine q_append (E := ELb) (k := 3) (l := (gS lhash δ first gs zs i).1) (l2 := ([lx la δ] : List LbT)) H59 rfl h1 sli92 zer38 rfl byt38 (H59.rd (k := 0) rfl hS57) rfl (by rw [gS_len]) rfl (by rfl) (by omega) ?_
   intro key61 c62 sp63 w65 hS64 hne67 H66
   have H66' := H66.as (L' := [((some b56), sob ELb 38 ([lx la δ] : List LbT) ([])), (some b46, lO (la)), (some b39, .cells #[i64 (((gs).getD i g0).k), i64 (((gs).getD i g0).a), i64 (((gs).getD i g0).b)] 99 (0, 0)), (key61, sob ELb 38 (((gS lhash δ first gs zs i).1) ++ ([lx la δ] : List LbT)) sp63), (k2, sob ELb 38 ((gS lhash δ first gs zs i).2) z2), (some b17, .cells (cel E8 (AesSpec.cipher AesSpec.fixKey)).toArray 215 (0, 0)), (some b1, .cells #[i64 (zs.length : Nat), .slice ga gs.length gc, .slice oa ol.length oc] 70 (0, 0)), (some b5, lO (δ))]) rfl
   clear H66
   have e68 : ((gS lhash δ first gs zs i).1) ++ ([lx la δ] : List LbT) = (gS lhash δ first gs zs (i + 1)).1 := by rw [gS, gstep, if_pos hk, hla]
   have hS69 := hS64
   rw [e68] at hS69
   have H70 := H66'.as (L' := [((some b56), sob ELb 38 ([lx la δ] : List LbT) ([])), (some b46, lO (la)), (some b39, .cells #[i64 (((gs).getD i g0).k), i64 (((gs).getD i g0).a), i64 (((gs).getD i g0).b)] 99 (0, 0)), (key61, sob ELb 38 ((gS lhash δ first gs zs (i + 1)).1) sp63), (k2, sob ELb 38 ((gS lhash δ first gs zs i).2) z2), (some b17, .cells (cel E8 (AesSpec.cipher AesSpec.fixKey)).toArray 215 (0, 0)), (some b1, .cells #[i64 (zs.length : Nat), .slice ga gs.length gc, .slice oa ol.length oc] 70 (0, 0)), (some b5, lO (δ))]) (by rw [e68])
   refine sA (.slice (ownA key61) ((zs.length + i) + 1) c62) rfl ?_
   refine wnil ?_
   refine blockNormal ?_
   refine blockNormal ?_
   refine thenNormal ?_
   refine oneRegion ?_
   refine sq (r_addI (a := (i : Nat)) (b := (1 : Int)) rfl rfl (by omega)) ?_
   refine sM (i64 ((i : Nat) + (1 : Int))) rfl ?_
   refine wnil ?_
   refine thenNormal ?_
   have e71 : (gS lhash δ first gs zs i).2 = (gS lhash δ first gs zs (i + 1)).2 := by rw [gS, gstep, if_pos hk]
   have hS72 := h2
   rw [e71] at hS72
   have H73 := H70.as (L' := [((some b56), sob ELb 38 ([lx la δ] : List LbT) ([])), (some b46, lO (la)), (some b39, .cells #[i64 (((gs).getD i g0).k), i64 (((gs).getD i g0).a), i64 (((gs).getD i g0).b)] 99 (0, 0)), (key61, sob ELb 38 ((gS lhash δ first gs zs (i + 1)).1) sp63), (k2, sob ELb 38 ((gS lhash δ first gs zs (i + 1)).2) z2), (some b17, .cells (cel E8 (AesSpec.cipher AesSpec.fixKey)).toArray 215 (0, 0)), (some b1, .cells #[i64 (zs.length : Nat), .slice ga gs.length gc, .slice oa ol.length oc] 70 (0, 0)), (some b5, lO (δ))]) (by rw [e71])
   exact ⟨(i + 1, key61, c62, sp63, k2, c2, z2, (gS lhash δ first gs zs i).2.length), _, rfl, ⟨rfl, rfl, rfl, rfl, rfl, rfl, rfl, rfl, rfl, trivial⟩, ⟨⟨by omega, hS69, hS72, by rw [gS, gstep, if_pos hk]⟩, (((H73.dropk 2).dropk 1).dropk 0)⟩, by show gs.length - (i + 1) < gs.length - i; omega⟩
  ·skip
   have hn3 := hk
   refine sR ?_
   refine sq (r_eqlI (a := ((gs).getD i g0).k) (b := (1 : Int)) rfl rfl) ?_
   refine sA (.bool (decide ((((gs).getD i g0).k : Int) = (1 : Int)))) rfl ?_
   refine wend ?_
   refine condProp ((((gs).getD i g0).k : Int) = (1 : Int)) rfl (fun hk1 => ?_) (fun hk1 => ?_)
   ·skip
    have hk := hk1
    refine drawE (m := 11) [0, 0, 0, 0, 8, 28, 60, 126, 254, 511, 1023] [8, 9] (fun bs vs w' => match bs, vs with | [false, false], [_, _] => Hp No w w' [(some b46, lO (la)), (some b39, .cells #[i64 (((gs).getD i g0).k), i64 (((gs).getD i g0).a), i64 (((gs).getD i g0).b)] 99 (0, 0)), (k1, sob ELb 38 ((gS lhash δ first gs zs i).1) z1), (k2, sob ELb 38 ((gS lhash δ first gs zs i).2) z2), (some b17, .cells (cel E8 (AesSpec.cipher AesSpec.fixKey)).toArray 215 (0, 0)), (some b1, .cells #[i64 (zs.length : Nat), .slice ga gs.length gc, .slice oa ol.length oc] 70 (0, 0)), (some b5, lO (δ))] | [true, false], [v8, _] => ∃ (b75 : Nat), v8 = .slice (ownA (some b75)) 1 1 ∧ Sl ELb (some b75) ([lx la (((gS lhash δ first gs zs i).1).getD ((gs.getD i g0).b.toNat) lb0)] : List LbT) 1 ([]) ∧ Hp No w w' [((some b75), sob ELb 38 ([lx la (((gS lhash δ first gs zs i).1).getD ((gs.getD i g0).b.toNat) lb0)] : List LbT) ([])), (some b46, lO (la)), (some b39, .cells #[i64 (((gs).getD i g0).k), i64 (((gs).getD i g0).a), i64 (((gs).getD i g0).b)] 99 (0, 0)), (k1, sob ELb 38 ((gS lhash δ first gs zs i).1) z1), (k2, sob ELb 38 ((gS lhash δ first gs zs i).2) z2), (some b17, .cells (cel E8 (AesSpec.cipher AesSpec.fixKey)).toArray 215 (0, 0)), (some b1, .cells #[i64 (zs.length : Nat), .slice ga gs.length gc, .slice oa ol.length oc] 70 (0, 0)), (some b5, lO (δ))] | [true, true], [v8, v9] => ∃ (b75 : Nat) (key81 : Option Nat) (c82 : Nat) (sp83 : List Value), v8 = .slice (ownA (some b75)) 1 1 ∧ v9 = .slice (ownA key81) ((zs.length + i) + 1) c82 ∧ Sl ELb (some b75) ([lx la (((gS lhash δ first gs zs i).1).getD ((gs.getD i g0).b.toNat) lb0)] : List LbT) 1 ([]) ∧ Sl ELb key81 ((gS lhash δ first gs zs (i + 1)).1) c82 sp83 ∧ Hp No w w' [((some b75), sob ELb 38 ([lx la (((gS lhash δ first gs zs i).1).getD ((gs.getD i g0).b.toNat) lb0)] : List LbT) ([])), (some b46, lO (la)), (some b39, .cells #[i64 (((gs).getD i g0).k), i64 (((gs).getD i g0).a), i64 (((gs).getD i g0).b)] 99 (0, 0)), (key81, sob ELb 38 ((gS lhash δ first gs zs (i + 1)).1) sp83), (k2, sob ELb 38 ((gS lhash δ first gs zs i).2) z2), (some b17, .cells (cel E8 (AesSpec.cipher AesSpec.fixKey)).toArray 215 (0, 0)), (some b1, .cells #[i64 (zs.length : Nat), .slice ga gs.length gc, .slice oa ol.length oc] 70 (0, 0)), (some b5, lO (δ))] | _, _ => False) mixed (by kernel_rfl) (by kernel_rfl) H51'.drew ?_
    refine WalkE.look rfl (fun _ => .slice (ownA k1) (zs.length + i) c1) (fun _ _ _ => rfl) (fun L r _ uw _ _ _ _ => Gives.run rfl (r_move (v := .slice (ownA k1) (zs.length + i) c1) rfl) ⟨rfl, rfl⟩) ?_
    refine WalkE.look rfl (fun _ => lV (la)) (fun _ _ _ => rfl) (fun L r uw0 uw hAn hDn hF hEx => ?_) ?_
    ·skip
     have b8 := hDn 8 (by decide) rfl
     have b9 := hDn 9 (by decide) rfl
     have hb := mp2 b8 b9
     rw [hb] at hF
     have HH := hF
     replace HH := HH.ext hEx
     exact Gives.run rfl (r_loadA (cs' := (cel E64 ([(la).1, (la).2])).toArray) agg38 siz38 (HH.get (k := 0) rfl) (off := 0) rfl (by exact bLe rfl) (by exact ext_all rfl)) ⟨rfl, rfl⟩
    refine WalkE.look rfl (fun _ => .slice (ownA k1) (zs.length + i) c1) (fun _ _ _ => rfl) (fun L r _ uw _ _ _ _ => Gives.run rfl (r_move (v := .slice (ownA k1) (zs.length + i) c1) rfl) ⟨rfl, rfl⟩) ?_
    refine WalkE.look rfl (fun _ => .pointer (some ⟨b39, 2, none⟩)) (fun _ _ _ => rfl) (fun L r _ uw _ _ _ _ => Gives.run rfl (r_fieldAddr (off' := 2) fld99_2 (by decide) (b := b39) (off := 0) rfl (by omega)) ⟨rfl, rfl⟩) ?_
    refine WalkE.look rfl (fun _ => i64 (((gs).getD i g0).b)) (fun _ _ _ => rfl) (fun L r uw0 uw hAn hDn hF hEx => ?_) ?_
    ·skip
     have b8 := hDn 8 (by decide) rfl
     have b9 := hDn 9 (by decide) rfl
     have hb := mp2 b8 b9
     rw [hb] at hF
     have HH := hF
     replace HH := HH.ext hEx
     exact Gives.run rfl (r_loadC (v := i64 (((gs).getD i g0).b)) one3 (HH.get (k := 1) rfl) (off := 2) rfl (by rfl)) ⟨rfl, rfl⟩
    refine WalkE.look rfl (fun _ => .pointer (adr (ownA k1) (((gs.getD i g0).b.toNat) * 2))) (fun _ _ _ => rfl) (fun L r uw0 uw hAn hDn hF hEx => ?_) ?_
    ·skip
     have b8 := hDn 8 (by decide) rfl
     have b9 := hDn 9 (by decide) rfl
     have hb := mp2 b8 b9
     rw [hb] at hF
     have HH := hF
     replace HH := HH.ext hEx
     exact Gives.run rfl (r_idxS (E := ELb) (l := (gS lhash δ first gs zs i).1) (j := (gs.getD i g0).b.toNat) sli92 (HH.rd (k := 2) rfl h1) rfl rfl (by omega) (by rw [gS_len]) (by omega)) ⟨rfl, rfl⟩
    refine WalkE.look rfl (fun _ => .agg (cel E64 [(((gS lhash δ first gs zs i).1).getD ((gs.getD i g0).b.toNat) lb0).1, (((gS lhash δ first gs zs i).1).getD ((gs.getD i g0).b.toNat) lb0).2]).toArray) (fun _ _ _ => rfl) (fun L r uw0 uw hAn hDn hF hEx => ?_) ?_
    ·skip
     have b8 := hDn 8 (by decide) rfl
     have b9 := hDn 9 (by decide) rfl
     have hb := mp2 b8 b9
     rw [hb] at hF
     have HH := hF
     replace HH := HH.ext hEx
     exact Gives.run rfl ((r_ldS (E := ELb) (l := (gS lhash δ first gs zs i).1) (j := (gs.getD i g0).b.toNat) (v := ((gS lhash δ first gs zs i).1).getD ((gs.getD i g0).b.toNat) lb0) fits38 (HH.rd (k := 2) rfl h1) rfl rfl (at_getD (by omega))).as (v' := .agg (cel E64 [(((gS lhash δ first gs zs i).1).getD ((gs.getD i g0).b.toNat) lb0).1, (((gS lhash δ first gs zs i).1).getD ((gs.getD i g0).b.toNat) lb0).2]).toArray) rfl) ⟨rfl, rfl⟩
    refine WalkE.call rfl (fun _ => .agg (cel E64 [(lx la (((gS lhash δ first gs zs i).1).getD ((gs.getD i g0).b.toNat) lb0)).1, (lx la (((gS lhash δ first gs zs i).1).getD ((gs.getD i g0).b.toNat) lb0)).2]).toArray) (fun _ _ _ => rfl) (fun L r uw0 uw hAn hDn hF hEx => ?_) ?_
    ·skip
     have b8 := hDn 8 (by decide) rfl
     have b9 := hDn 9 (by decide) rfl
     have hb := mp2 b8 b9
     rw [hb] at hF
     have HH := hF
     replace HH := HH.ext hEx
     exact Gives.call rfl (Enters.callL (vs := [lV (la), .agg (cel E64 [(((gS lhash δ first gs zs i).1).getD ((gs.getD i g0).b.toNat) lb0).1, (((gS lhash δ first gs zs i).1).getD ((gs.getD i g0).b.toNat) lb0).2]).toArray]) call86 rfl) (lxor_ok la (((gS lhash δ first gs zs i).1).getD ((gs.getD i g0).b.toNat) lb0) uw)
    refine WalkE.eff 0 rfl (fun L r uw0 uw hLn hAn hDn hF hEx => ?_) ?_
    ·skip
     have b8 : L 8 = false := hLn
     have b9 := hDn 9 (by decide) rfl
     have hb := mp2 b8 b9
     rw [hb] at hF ⊢
     have H91 := hF
     replace H91 := H91.ext hEx
     dsimp only
     refine Gives.ofW (d := 78) rfl rfl (fun Q' hK => ?_)
     refine q_buildSlice (E := ELb) (l := ([lx la (((gS lhash δ first gs zs i).1).getD ((gs.getD i g0).b.toNat) lb0)] : List LbT)) H91 sli92 zer38 (bLe rfl) (ps := [(0, .agg (cel E64 [(lx la (((gS lhash δ first gs zs i).1).getD ((gs.getD i g0).b.toNat) lb0)).1, (lx la (((gS lhash δ first gs zs i).1).getD ((gs.getD i g0).b.toNat) lb0)).2]).toArray)]) rfl (by exact fillAll rfl rfl) rfl ?_
     intro b92 w94 hS93 H95 hE96
     exact hK _ _ (show ∃ (b75 : Nat), (_ : Value) = .slice (ownA (some b75)) 1 1 ∧ Sl ELb (some b75) ([lx la (((gS lhash δ first gs zs i).1).getD ((gs.getD i g0).b.toNat) lb0)] : List LbT) 1 ([]) ∧ Hp No w w94 [((some b75), sob ELb 38 ([lx la (((gS lhash δ first gs zs i).1).getD ((gs.getD i g0).b.toNat) lb0)] : List LbT) ([])), (some b46, lO (la)), (some b39, .cells #[i64 (((gs).getD i g0).k), i64 (((gs).getD i g0).a), i64 (((gs).getD i g0).b)] 99 (0, 0)), (k1, sob ELb 38 ((gS lhash δ first gs zs i).1) z1), (k2, sob ELb 38 ((gS lhash δ first gs zs i).2) z2), (some b17, .cells (cel E8 (AesSpec.cipher AesSpec.fixKey)).toArray 215 (0, 0)), (some b1, .cells #[i64 (zs.length : Nat), .slice ga gs.length gc, .slice oa ol.length oc] 70 (0, 0)), (some b5, lO (δ))] from ⟨b92, rfl, hS93, ((((((((H95.pull (k := 7) rfl).pull (k := 7) rfl).pull (k := 7) rfl).pull (k := 7) rfl).pull (k := 7) rfl).pull (k := 7) rfl).pull (k := 7) rfl).pull (k := 7) rfl)⟩)
    refine WalkE.eff 1 rfl (fun L r uw0 uw hLn hAn hDn hF hEx => ?_) ?_
    ·skip
     have b8 := hAn 8 (by decide) rfl
     have b9 : L 9 = false := hLn
     have hb := mp2 b8 b9
     rw [hb] at hF ⊢
     obtain ⟨b75, e8, hS76, H97⟩ := hF
     replace H97 := H97.ext hEx
     dsimp only
     rw [e8]
     refine Gives.ofW (d := 79) rfl rfl (fun Q' hK => ?_)
     refine q_append (E := ELb) (k := 3) (l := (gS lhash δ first gs zs i).1) (l2 := ([lx la (((gS lhash δ first gs zs i).1).getD ((gs.getD i g0).b.toNat) lb0)] : List LbT)) H97 rfl h1 sli92 zer38 rfl byt38 (H97.rd (k := 0) rfl hS76) rfl (by rw [gS_len]) rfl (by rfl) (by omega) ?_
     intro key98 c99 sp100 w102 hS101 hne104 H103
     have H103' := H103.as (L' := [((some b75), sob ELb 38 ([lx la (((gS lhash δ first gs zs i).1).getD ((gs.getD i g0).b.toNat) lb0)] : List LbT) ([])), (some b46, lO (la)), (some b39, .cells #[i64 (((gs).getD i g0).k), i64 (((gs).getD i g0).a), i64 (((gs).getD i g0).b)] 99 (0, 0)), (key98, sob ELb 38 (((gS lhash δ first gs zs i).1) ++ ([lx la (((gS lhash δ first gs zs i).1).getD ((gs.getD i g0).b.toNat) lb0)] : List LbT)) sp100), (k2, sob ELb 38 ((gS lhash δ first gs zs i).2) z2), (some b17, .cells (cel E8 (AesSpec.cipher AesSpec.fixKey)).toArray 215 (0, 0)), (some b1, .cells #[i64 (zs.length : Nat), .slice ga gs.length gc, .slice oa ol.length oc] 70 (0, 0)), (some b5, lO (δ))]) rfl
     clear H103
     have e105 : ((gS lhash δ first gs zs i).1) ++ ([lx la (((gS lhash δ first gs zs i).1).getD ((gs.getD i g0).b.toNat) lb0)] : List LbT) = (gS lhash δ first gs zs (i + 1)).1 := by rw [gS, gstep, if_neg hn3, if_pos hk, hla]
     have hS106 := hS101
     rw [e105] at hS106
     have H107 := H103'.as (L' := [((some b75), sob ELb 38 ([lx la (((gS lhash δ first gs zs i).1).getD ((gs.getD i g0).b.toNat) lb0)] : List LbT) ([])), (some b46, lO (la)), (some b39, .cells #[i64 (((gs).getD i g0).k), i64 (((gs).getD i g0).a), i64 (((gs).getD i g0).b)] 99 (0, 0)), (key98, sob ELb 38 ((gS lhash δ first gs zs (i + 1)).1) sp100), (k2, sob ELb 38 ((gS lhash δ first gs zs i).2) z2), (some b17, .cells (cel E8 (AesSpec.cipher AesSpec.fixKey)).toArray 215 (0, 0)), (some b1, .cells #[i64 (zs.length : Nat), .slice ga gs.length gc, .slice oa ol.length oc] 70 (0, 0)), (some b5, lO (δ))]) (by rw [e105])
     exact hK _ _ (show ∃ (b75 : Nat) (key81 : Option Nat) (c82 : Nat) (sp83 : List Value), r 8 = .slice (ownA (some b75)) 1 1 ∧ (_ : Value) = .slice (ownA key81) ((zs.length + i) + 1) c82 ∧ Sl ELb (some b75) ([lx la (((gS lhash δ first gs zs i).1).getD ((gs.getD i g0).b.toNat) lb0)] : List LbT) 1 ([]) ∧ Sl ELb key81 ((gS lhash δ first gs zs (i + 1)).1) c82 sp83 ∧ Hp No w w102 [((some b75), sob ELb 38 ([lx la (((gS lhash δ first gs zs i).1).getD ((gs.getD i g0).b.toNat) lb0)] : List LbT) ([])), (some b46, lO (la)), (some b39, .cells #[i64 (((gs).getD i g0).k), i64 (((gs).getD i g0).a), i64 (((gs).getD i g0).b)] 99 (0, 0)), (key81, sob ELb 38 ((gS lhash δ first gs zs (i + 1)).1) sp83), (k2, sob ELb 38 ((gS lhash δ first gs zs i).2) z2), (some b17, .cells (cel E8 (AesSpec.cipher AesSpec.fixKey)).toArray 215 (0, 0)), (some b1, .cells #[i64 (zs.length : Nat), .slice ga gs.length gc, .slice oa ol.length oc] 70 (0, 0)), (some b5, lO (δ))] from ⟨b75, key98, c99, sp100, e8, rfl, hS76, hS106, ((((((((H107.pull (k := 7) rfl).pull (k := 7) rfl).pull (k := 7) rfl).pull (k := 7) rfl).pull (k := 7) rfl).pull (k := 7) rfl).pull (k := 7) rfl).pull (k := 7) rfl)⟩)
    refine WalkE.look rfl (fun r => r 9) (fun r r' h => h 9 (by decide) rfl) (fun L r _ uw _ _ _ _ => Gives.run rfl (r_assign rfl) ⟨rfl, rfl⟩) ?_
    refine WalkE.nil ?_
    intro r108 uw0 w109 hF hEx
    obtain ⟨b75, key81, c82, sp83, e8, e9, hS76, hS89, H110⟩ := hF
    replace H110 := H110.ext hEx
    dsimp only
    rw [e8, e9]
    refine wnil ?_
    refine blockNormal ?_
    refine blockNormal ?_
    refine thenNormal ?_
    refine oneRegion ?_
    refine sq (r_addI (a := (i : Nat)) (b := (1 : Int)) rfl rfl (by omega)) ?_
    refine sM (i64 ((i : Nat) + (1 : Int))) rfl ?_
    refine wnil ?_
    refine thenNormal ?_
    have e111 : (gS lhash δ first gs zs i).2 = (gS lhash δ first gs zs (i + 1)).2 := by rw [gS, gstep, if_neg hn3, if_pos hk]
    have hS112 := h2
    rw [e111] at hS112
    have H113 := H110.as (L' := [((some b75), sob ELb 38 ([lx la (((gS lhash δ first gs zs i).1).getD ((gs.getD i g0).b.toNat) lb0)] : List LbT) ([])), (some b46, lO (la)), (some b39, .cells #[i64 (((gs).getD i g0).k), i64 (((gs).getD i g0).a), i64 (((gs).getD i g0).b)] 99 (0, 0)), (key81, sob ELb 38 ((gS lhash δ first gs zs (i + 1)).1) sp83), (k2, sob ELb 38 ((gS lhash δ first gs zs (i + 1)).2) z2), (some b17, .cells (cel E8 (AesSpec.cipher AesSpec.fixKey)).toArray 215 (0, 0)), (some b1, .cells #[i64 (zs.length : Nat), .slice ga gs.length gc, .slice oa ol.length oc] 70 (0, 0)), (some b5, lO (δ))]) (by rw [e111])
    exact ⟨(i + 1, key81, c82, sp83, k2, c2, z2, (gS lhash δ first gs zs i).2.length), _, rfl, ⟨rfl, rfl, rfl, rfl, rfl, rfl, rfl, rfl, rfl, trivial⟩, ⟨⟨by omega, hS89, hS112, by rw [gS, gstep, if_neg hn3, if_pos hk]⟩, (((H113.dropk 2).dropk 1).dropk 0)⟩, by show gs.length - (i + 1) < gs.length - i; omega⟩
   ·skip
    have hn1 := hk1
    refine sR ?_
    refine sq (r_eqlI (a := ((gs).getD i g0).k) (b := (2 : Int)) rfl rfl) ?_
    refine sA (.bool (decide ((((gs).getD i g0).k : Int) = (2 : Int)))) rfl ?_
    refine wend ?_
    refine condProp ((((gs).getD i g0).k : Int) = (2 : Int)) rfl (fun hk2 => ?_) (fun hk2 => ?_)
    ·skip
     refine sR ?_
     refine sM (.slice (ownA k1) (zs.length + i) c1) rfl ?_
     refine sq (r_fieldAddr (off' := 2) fld99_2 (by decide) (b := b39) (off := 0) rfl (by omega)) ?_
     refine sq (r_loadC (v := i64 (((gs).getD i g0).b)) one3 (H51'.get (k := 1) rfl) (off := 2) rfl (by rfl)) ?_
     refine sq (r_idxS (E := ELb) (l := (gS lhash δ first gs zs i).1) (j := (gs.getD i g0).b.toNat) sli92 (H51'.rd (k := 2) rfl h1) rfl rfl (by omega) (by rw [gS_len]) (by omega)) ?_
     refine sq ((r_ldS (E := ELb) (l := (gS lhash δ first gs zs i).1) (j := (gs.getD i g0).b.toNat) (v := ((gS lhash δ first gs zs i).1).getD ((gs.getD i g0).b.toNat) lb0) fits38 (H51'.rd (k := 2) rfl h1) rfl rfl (at_getD (by omega))).as (v' := .agg (cel E64 [(((gS lhash δ first gs zs i).1).getD ((gs.getD i g0).b.toNat) lb0).1, (((gS lhash δ first gs zs i).1).getD ((gs.getD i g0).b.toNat) lb0).2]).toArray) rfl) ?_
     refine q_alloc (o := .cells (cel E64 ([0#64, 0#64])).toArray 38 (0, 0)) H51' zer38 (by kernel_rfl) ?_
     intro b114 w115 hb114 H116 hE117
     refine d_store (k := 0) (v := .agg (cel E64 [(((gS lhash δ first gs zs i).1).getD ((gs.getD i g0).b.toNat) lb0).1, (((gS lhash δ first gs zs i).1).getD ((gs.getD i g0).b.toNat) lb0).2]).toArray) (cs' := (cel E64 ([(((gS lhash δ first gs zs i).1).getD ((gs.getD i g0).b.toNat) lb0).1, (((gS lhash δ first gs zs i).1).getD ((gs.getD i g0).b.toNat) lb0).2])).toArray) H116 rfl rfl rfl siz38 (by exact celSize (by first | rfl | (show _ * 1 = _; omega))) (by exact celOne _) (by rw [List.size_toArray, cel_length]; show _ ≤ _ * 1; first | omega | (simp only [List.length_set]; omega) | exact bLe rfl | (simp <;> omega)) (by exact putAll (by first | rfl | omega | (simp <;> omega))) ?_
     intro w118 H119 hC120
     have H119' := H119.as (L' := [(some b114, lO (((gS lhash δ first gs zs i).1).getD ((gs.getD i g0).b.toNat) lb0)), (some b46, lO (la)), (some b39, .cells #[i64 (((gs).getD i g0).k), i64 (((gs).getD i g0).a), i64 (((gs).getD i g0).b)] 99 (0, 0)), (k1, sob ELb 38 ((gS lhash δ first gs zs i).1) z1), (k2, sob ELb 38 ((gS lhash δ first gs zs i).2) z2), (some b17, .cells (cel E8 (AesSpec.cipher AesSpec.fixKey)).toArray 215 (0, 0)), (some b1, .cells #[i64 (zs.length : Nat), .slice ga gs.length gc, .slice oa ol.length oc] 70 (0, 0)), (some b5, lO (δ))]) rfl
     clear H119
     obtain ⟨lb, hlb⟩ : ∃ x : Lb, x = (((gS lhash δ first gs zs i).1).getD (gs.getD i g0).b.toNat lb0) := ⟨_, rfl⟩
     rw [← hlb] at H119' ⊢
     refine wend ?_
     refine sR ?_
     refine sM (u64 (first)) rfl ?_
     refine sM (.slice (ownA k2) ((gS lhash δ first gs zs i).2.length) c2) rfl ?_
     refine sq (r_lenS sli92 (a := ownA k2) (m := (gS lhash δ first gs zs i).2.length) (c := c2) rfl) ?_
     refine sq (r_Ito64 und3 und32 (a := ((gS lhash δ first gs zs i).2.length : Nat)) rfl) ?_
     refine sq (r_add64 (a := first) (b := BitVec.ofInt 64 ((gS lhash δ first gs zs i).2.length : Nat)) rfl rfl) ?_
     refine sA (u64 (first + (BitVec.ofInt 64 ((gS lhash δ first gs zs i).2.length : Nat)))) rfl ?_
     obtain ⟨sv, hsv⟩ : ∃ x : BitVec 64, x = first + (BitVec.ofInt 64 ((gS lhash δ first gs zs i).2.length : Nat)) := ⟨_, rfl⟩
     rw [← hsv]
     refine wend ?_
     refine seqAny ?_
     refine drawE (m := 13) [0, 0, 0, 7, 0, 0, 0, 64, 255, 0, 0, 2047, 4095] [9, 10, 11, 12] (fun bs vs w' => match bs, vs with | [false, false, false, false], [_, _, _, _] => Hp No w w' [(some b114, lO (lb)), (some b46, lO (la)), (some b39, .cells #[i64 (((gs).getD i g0).k), i64 (((gs).getD i g0).a), i64 (((gs).getD i g0).b)] 99 (0, 0)), (k1, sob ELb 38 ((gS lhash δ first gs zs i).1) z1), (k2, sob ELb 38 ((gS lhash δ first gs zs i).2) z2), (some b17, .cells (cel E8 (AesSpec.cipher AesSpec.fixKey)).toArray 215 (0, 0)), (some b1, .cells #[i64 (zs.length : Nat), .slice ga gs.length gc, .slice oa ol.length oc] 70 (0, 0)), (some b5, lO (δ))] | [true, false, false, false], [v9, _, _, _] => ∃ (b122 : Nat), v9 = pT b122 ∧ Hp No w w' [(some b122, .cells (cel E64 ([0#64, 0#64])).toArray 38 (0, 0)), (some b114, lO (lb)), (some b46, lO (la)), (some b39, .cells #[i64 (((gs).getD i g0).k), i64 (((gs).getD i g0).a), i64 (((gs).getD i g0).b)] 99 (0, 0)), (k1, sob ELb 38 ((gS lhash δ first gs zs i).1) z1), (k2, sob ELb 38 ((gS lhash δ first gs zs i).2) z2), (some b17, .cells (cel E8 (AesSpec.cipher AesSpec.fixKey)).toArray 215 (0, 0)), (some b1, .cells #[i64 (zs.length : Nat), .slice ga gs.length gc, .slice oa ol.length oc] 70 (0, 0)), (some b5, lO (δ))] | [false, true, false, false], [_, v10, _, _] => ∃ (b127 : Nat), v10 = pT b127 ∧ Hp No w w' [(some b127, .cells (cel E64 ([0#64, 0#64])).toArray 38 (0, 0)), (some b114, lO (lb)), (some b46, lO (la)), (some b39, .cells #[i64 (((gs).getD i g0).k), i64 (((gs).getD i g0).a), i64 (((gs).getD i g0).b)] 99 (0, 0)), (k1, sob ELb 38 ((gS lhash δ first gs zs i).1) z1), (k2, sob ELb 38 ((gS lhash δ first gs zs i).2) z2), (some b17, .cells (cel E8 (AesSpec.cipher AesSpec.fixKey)).toArray 215 (0, 0)), (some b1, .cells #[i64 (zs.length : Nat), .slice ga gs.length gc, .slice oa ol.length oc] 70 (0, 0)), (some b5, lO (δ))] | [true, true, false, false], [v9, v10, _, _] => ∃ (b122 : Nat) (b132 : Nat), v9 = pT b122 ∧ v10 = pT b132 ∧ Hp No w w' [(some b132, .cells (cel E64 ([0#64, 0#64])).toArray 38 (0, 0)), (some b122, .cells (cel E64 ([0#64, 0#64])).toArray 38 (0, 0)), (some b114, lO (lb)), (some b46, lO (la)), (some b39, .cells #[i64 (((gs).getD i g0).k), i64 (((gs).getD i g0).a), i64 (((gs).getD i g0).b)] 99 (0, 0)), (k1, sob ELb 38 ((gS lhash δ first gs zs i).1) z1), (k2, sob ELb 38 ((gS lhash δ first gs zs i).2) z2), (some b17, .cells (cel E8 (AesSpec.cipher AesSpec.fixKey)).toArray 215 (0, 0)), (some b1, .cells #[i64 (zs.length : Nat), .slice ga gs.length gc, .slice oa ol.length oc] 70 (0, 0)), (some b5, lO (δ))] | [true, true, true, false], [v9, v10, _, _] => ∃ (b122 : Nat) (b132 : Nat), v9 = pT b122 ∧ v10 = pT b132 ∧ Hp No w w' [(some b132, .cells (cel E64 ([0#64, 0#64])).toArray 38 (0, 0)), (some b122, lO (lhash la sv)), (some b114, lO (lb)), (some b46, lO (la)), (some b39, .cells #[i64 (((gs).getD i g0).k), i64 (((gs).getD i g0).a), i64 (((gs).getD i g0).b)] 99 (0, 0)), (k1, sob ELb 38 ((gS lhash δ first gs zs i).1) z1), (k2, sob ELb 38 ((gS lhash δ first gs zs i).2) z2), (some b17, .cells (cel E8 (AesSpec.cipher AesSpec.fixKey)).toArray 215 (0, 0)), (some b1, .cells #[i64 (zs.length : Nat), .slice ga gs.length gc, .slice oa ol.length oc] 70 (0, 0)), (some b5, lO (δ))] | [true, true, true, true], [v9, v10, _, _] => ∃ (b122 : Nat) (b132 : Nat), v9 = pT b122 ∧ v10 = pT b132 ∧ Hp No w w' [(some b132, lO (lhash lb (sv + (1#64)))), (some b122, lO (lhash la sv)), (some b114, lO (lb)), (some b46, lO (la)), (some b39, .cells #[i64 (((gs).getD i g0).k), i64 (((gs).getD i g0).a), i64 (((gs).getD i g0).b)] 99 (0, 0)), (k1, sob ELb 38 ((gS lhash δ first gs zs i).1) z1), (k2, sob ELb 38 ((gS lhash δ first gs zs i).2) z2), (some b17, .cells (cel E8 (AesSpec.cipher AesSpec.fixKey)).toArray 215 (0, 0)), (some b1, .cells #[i64 (zs.length : Nat), .slice ga gs.length gc, .slice oa ol.length oc] 70 (0, 0)), (some b5, lO (δ))] | _, _ => False) mixed (by kernel_rfl) (by kernel_rfl) H119'.drew ?_
     refine WalkE.look rfl (fun _ => pT b17) (fun _ _ _ => rfl) (fun L r _ uw _ _ _ _ => Gives.run rfl (r_move (v := pT b17) rfl) ⟨rfl, rfl⟩) ?_
     refine WalkE.look rfl (fun _ => lV (la)) (fun _ _ _ => rfl) (fun L r uw0 uw hAn hDn hF hEx => ?_) ?_
     ·skip
      have b11 := hDn 11 (by decide) rfl
      have b12 := hDn 12 (by decide) rfl
      rcases bTF (L 9) with b9 | b9
      ·skip
       rcases bTF (L 10) with b10 | b10
       ·skip
        have hb := mp4 b9 b10 b11 b12
        rw [hb] at hF
        obtain ⟨b122, b132, e9, e10, HH⟩ := hF
        replace HH := HH.ext hEx
        exact Gives.run rfl (r_loadA (cs' := (cel E64 ([(la).1, (la).2])).toArray) agg38 siz38 (HH.get (k := 3) rfl) (off := 0) rfl (by exact bLe rfl) (by exact ext_all rfl)) ⟨rfl, rfl⟩
       ·skip
        have hb := mp4 b9 b10 b11 b12
        rw [hb] at hF
        obtain ⟨b122, e9, HH⟩ := hF
        replace HH := HH.ext hEx
        exact Gives.run rfl (r_loadA (cs' := (cel E64 ([(la).1, (la).2])).toArray) agg38 siz38 (HH.get (k := 2) rfl) (off := 0) rfl (by exact bLe rfl) (by exact ext_all rfl)) ⟨rfl, rfl⟩
      ·skip
       rcases bTF (L 10) with b10 | b10
       ·skip
        have hb := mp4 b9 b10 b11 b12
        rw [hb] at hF
        obtain ⟨b127, e10, HH⟩ := hF
        replace HH := HH.ext hEx
        exact Gives.run rfl (r_loadA (cs' := (cel E64 ([(la).1, (la).2])).toArray) agg38 siz38 (HH.get (k := 2) rfl) (off := 0) rfl (by exact bLe rfl) (by exact ext_all rfl)) ⟨rfl, rfl⟩
       ·skip
        have hb := mp4 b9 b10 b11 b12
        rw [hb] at hF
        have HH := hF
        replace HH := HH.ext hEx
        exact Gives.run rfl (r_loadA (cs' := (cel E64 ([(la).1, (la).2])).toArray) agg38 siz38 (HH.get (k := 1) rfl) (off := 0) rfl (by exact bLe rfl) (by exact ext_all rfl)) ⟨rfl, rfl⟩
     refine WalkE.look rfl (fun _ => u64 (sv)) (fun _ _ _ => rfl) (fun L r _ uw _ _ _ _ => Gives.run rfl (r_move (v := u64 (sv)) rfl) ⟨rfl, rfl⟩) ?_
     refine WalkE.call rfl (fun _ => .agg (cel E64 [(lhash la sv).1, (lhash la sv).2]).toArray) (fun _ _ _ => rfl) (fun L r uw0 uw hAn hDn hF hEx => ?_) ?_
     ·skip
      have b11 := hDn 11 (by decide) rfl
      have b12 := hDn 12 (by decide) rfl
      rcases bTF (L 9) with b9 | b9
      ·skip
       rcases bTF (L 10) with b10 | b10
       ·skip
        have hb := mp4 b9 b10 b11 b12
        rw [hb] at hF
        obtain ⟨b122, b132, e9, e10, HH⟩ := hF
        replace HH := HH.ext hEx
        exact Gives.call rfl (Enters.callL (vs := [pT b17, lV (la), u64 (sv)]) call87 rfl) (lhash_ok b17 la sv uw (HH.get (k := 7) rfl))
       ·skip
        have hb := mp4 b9 b10 b11 b12
        rw [hb] at hF
        obtain ⟨b122, e9, HH⟩ := hF
        replace HH := HH.ext hEx
        exact Gives.call rfl (Enters.callL (vs := [pT b17, lV (la), u64 (sv)]) call87 rfl) (lhash_ok b17 la sv uw (HH.get (k := 6) rfl))
      ·skip
       rcases bTF (L 10) with b10 | b10
       ·skip
        have hb := mp4 b9 b10 b11 b12
        rw [hb] at hF
        obtain ⟨b127, e10, HH⟩ := hF
        replace HH := HH.ext hEx
        exact Gives.call rfl (Enters.callL (vs := [pT b17, lV (la), u64 (sv)]) call87 rfl) (lhash_ok b17 la sv uw (HH.get (k := 6) rfl))
       ·skip
        have hb := mp4 b9 b10 b11 b12
        rw [hb] at hF
        have HH := hF
        replace HH := HH.ext hEx
        exact Gives.call rfl (Enters.callL (vs := [pT b17, lV (la), u64 (sv)]) call87 rfl) (lhash_ok b17 la sv uw (HH.get (k := 5) rfl))
     refine WalkE.look rfl (fun _ => pT b17) (fun _ _ _ => rfl) (fun L r _ uw _ _ _ _ => Gives.run rfl (r_move (v := pT b17) rfl) ⟨rfl, rfl⟩) ?_
     refine WalkE.look rfl (fun _ => lV (lb)) (fun _ _ _ => rfl) (fun L r uw0 uw hAn hDn hF hEx => ?_) ?_
     ·skip
      have b11 := hDn 11 (by decide) rfl
      have b12 := hDn 12 (by decide) rfl
      rcases bTF (L 9) with b9 | b9
      ·skip
       rcases bTF (L 10) with b10 | b10
       ·skip
        have hb := mp4 b9 b10 b11 b12
        rw [hb] at hF
        obtain ⟨b122, b132, e9, e10, HH⟩ := hF
        replace HH := HH.ext hEx
        exact Gives.run rfl (r_loadA (cs' := (cel E64 ([(lb).1, (lb).2])).toArray) agg38 siz38 (HH.get (k := 2) rfl) (off := 0) rfl (by exact bLe rfl) (by exact ext_all rfl)) ⟨rfl, rfl⟩
       ·skip
        have hb := mp4 b9 b10 b11 b12
        rw [hb] at hF
        obtain ⟨b122, e9, HH⟩ := hF
        replace HH := HH.ext hEx
        exact Gives.run rfl (r_loadA (cs' := (cel E64 ([(lb).1, (lb).2])).toArray) agg38 siz38 (HH.get (k := 1) rfl) (off := 0) rfl (by exact bLe rfl) (by exact ext_all rfl)) ⟨rfl, rfl⟩
      ·skip
       rcases bTF (L 10) with b10 | b10
       ·skip
        have hb := mp4 b9 b10 b11 b12
        rw [hb] at hF
        obtain ⟨b127, e10, HH⟩ := hF
        replace HH := HH.ext hEx
        exact Gives.run rfl (r_loadA (cs' := (cel E64 ([(lb).1, (lb).2])).toArray) agg38 siz38 (HH.get (k := 1) rfl) (off := 0) rfl (by exact bLe rfl) (by exact ext_all rfl)) ⟨rfl, rfl⟩
       ·skip
        have hb := mp4 b9 b10 b11 b12
        rw [hb] at hF
        have HH := hF
        replace HH := HH.ext hEx
        exact Gives.run rfl (r_loadA (cs' := (cel E64 ([(lb).1, (lb).2])).toArray) agg38 siz38 (HH.get (k := 0) rfl) (off := 0) rfl (by exact bLe rfl) (by exact ext_all rfl)) ⟨rfl, rfl⟩
     refine WalkE.look rfl (fun _ => u64 (sv)) (fun _ _ _ => rfl) (fun L r _ uw _ _ _ _ => Gives.run rfl (r_move (v := u64 (sv)) rfl) ⟨rfl, rfl⟩) ?_
     refine WalkE.look rfl (fun _ => u64 (sv + (1#64))) (fun _ _ _ => rfl) (fun L r _ uw _ _ _ _ => Gives.run rfl (r_add64 (a := sv) (b := 1#64) rfl rfl) ⟨rfl, rfl⟩) ?_
     refine WalkE.call rfl (fun _ => .agg (cel E64 [(lhash lb (sv + (1#64))).1, (lhash lb (sv + (1#64))).2]).toArray) (fun _ _ _ => rfl) (fun L r uw0 uw hAn hDn hF hEx => ?_) ?_
     ·skip
      have b11 := hDn 11 (by decide) rfl
      have b12 := hDn 12 (by decide) rfl
      rcases bTF (L 9) with b9 | b9
      ·skip
       rcases bTF (L 10) with b10 | b10
       ·skip
        have hb := mp4 b9 b10 b11 b12
        rw [hb] at hF
        obtain ⟨b122, b132, e9, e10, HH⟩ := hF
        replace HH := HH.ext hEx
        exact Gives.call rfl (Enters.callL (vs := [pT b17, lV (lb), u64 (sv + (1#64))]) call87 rfl) (lhash_ok b17 lb (sv + (1#64)) uw (HH.get (k := 7) rfl))
       ·skip
        have hb := mp4 b9 b10 b11 b12
        rw [hb] at hF
        obtain ⟨b122, e9, HH⟩ := hF
        replace HH := HH.ext hEx
        exact Gives.call rfl (Enters.callL (vs := [pT b17, lV (lb), u64 (sv + (1#64))]) call87 rfl) (lhash_ok b17 lb (sv + (1#64)) uw (HH.get (k := 6) rfl))
      ·skip
       rcases bTF (L 10) with b10 | b10
       ·skip
        have hb := mp4 b9 b10 b11 b12
        rw [hb] at hF
        obtain ⟨b127, e10, HH⟩ := hF
        replace HH := HH.ext hEx
        exact Gives.call rfl (Enters.callL (vs := [pT b17, lV (lb), u64 (sv + (1#64))]) call87 rfl) (lhash_ok b17 lb (sv + (1#64)) uw (HH.get (k := 6) rfl))
       ·skip
        have hb := mp4 b9 b10 b11 b12
        rw [hb] at hF
        have HH := hF
        replace HH := HH.ext hEx
        exact Gives.call rfl (Enters.callL (vs := [pT b17, lV (lb), u64 (sv + (1#64))]) call87 rfl) (lhash_ok b17 lb (sv + (1#64)) uw (HH.get (k := 5) rfl))
     refine WalkE.eff 0 rfl (fun L r uw0 uw hLn hAn hDn hF hEx => ?_) ?_
     ·skip
      have b9 : L 9 = false := hLn
      have b11 := hDn 11 (by decide) rfl
      have b12 := hDn 12 (by decide) rfl
      rcases bTF (L 10) with b10 | b10
      ·skip
       have hb := mp4 b9 b10 b11 b12
       rw [hb] at hF ⊢
       obtain ⟨b127, e10, H144⟩ := hF
       replace H144 := H144.ext hEx
       dsimp only
       refine Gives.ofW (d := 20) rfl rfl (fun Q' hK => ?_)
       refine q_alloc (o := .cells (cel E64 ([0#64, 0#64])).toArray 38 (0, 0)) H144 zer38 (by kernel_rfl) ?_
       intro b145 w146 hb145 H147 hE148
       exact hK _ _ (show ∃ (b122 : Nat) (b132 : Nat), (_ : Value) = pT b122 ∧ r 10 = pT b132 ∧ Hp No w w146 [(some b132, .cells (cel E64 ([0#64, 0#64])).toArray 38 (0, 0)), (some b122, .cells (cel E64 ([0#64, 0#64])).toArray 38 (0, 0)), (some b114, lO (lb)), (some b46, lO (la)), (some b39, .cells #[i64 (((gs).getD i g0).k), i64 (((gs).getD i g0).a), i64 (((gs).getD i g0).b)] 99 (0, 0)), (k1, sob ELb 38 ((gS lhash δ first gs zs i).1) z1), (k2, sob ELb 38 ((gS lhash δ first gs zs i).2) z2), (some b17, .cells (cel E8 (AesSpec.cipher AesSpec.fixKey)).toArray 215 (0, 0)), (some b1, .cells #[i64 (zs.length : Nat), .slice ga gs.length gc, .slice oa ol.length oc] 70 (0, 0)), (some b5, lO (δ))] from ⟨b145, b127, rfl, e10, ((((((((((H147.pull (k := 9) rfl).pull (k := 9) rfl).pull (k := 9) rfl).pull (k := 9) rfl).pull (k := 9) rfl).pull (k := 9) rfl).pull (k := 9) rfl).pull (k := 9) rfl).pull (k := 8) rfl).pull (k := 9) rfl)⟩)
      ·skip
       have hb := mp4 b9 b10 b11 b12
       rw [hb] at hF ⊢
       have H149 := hF
       replace H149 := H149.ext hEx
       dsimp only
       refine Gives.ofW (d := 20) rfl rfl (fun Q' hK => ?_)
       refine q_alloc (o := .cells (cel E64 ([0#64, 0#64])).toArray 38 (0, 0)) H149 zer38 (by kernel_rfl) ?_
       intro b150 w151 hb150 H152 hE153
       exact hK _ _ (show ∃ (b122 : Nat), (_ : Value) = pT b122 ∧ Hp No w w151 [(some b122, .cells (cel E64 ([0#64, 0#64])).toArray 38 (0, 0)), (some b114, lO (lb)), (some b46, lO (la)), (some b39, .cells #[i64 (((gs).getD i g0).k), i64 (((gs).getD i g0).a), i64 (((gs).getD i g0).b)] 99 (0, 0)), (k1, sob ELb 38 ((gS lhash δ first gs zs i).1) z1), (k2, sob ELb 38 ((gS lhash δ first gs zs i).2) z2), (some b17, .cells (cel E8 (AesSpec.cipher AesSpec.fixKey)).toArray 215 (0, 0)), (some b1, .cells #[i64 (zs.length : Nat), .slice ga gs.length gc, .slice oa ol.length oc] 70 (0, 0)), (some b5, lO (δ))] from ⟨b150, rfl, (((((((((H152.pull (k := 8) rfl).pull (k := 8) rfl).pull (k := 8) rfl).pull (k := 8) rfl).pull (k := 8) rfl).pull (k := 8) rfl).pull (k := 8) rfl).pull (k := 8) rfl).pull (k := 8) rfl)⟩)
     refine WalkE.eff 1 rfl (fun L r uw0 uw hLn hAn hDn hF hEx => ?_) ?_
     ·skip
      have b10 : L 10 = false := hLn
      have b11 := hDn 11 (by decide) rfl
      have b12 := hDn 12 (by decide) rfl
      rcases bTF (L 9) with b9 | b9
      ·skip
       have hb := mp4 b9 b10 b11 b12
       rw [hb] at hF ⊢
       obtain ⟨b122, e9, H154⟩ := hF
       replace H154 := H154.ext hEx
       dsimp only
       rw [e9]
       refine Gives.ofW (d := 21) rfl rfl (fun Q' hK => ?_)
       refine q_alloc (o := .cells (cel E64 ([0#64, 0#64])).toArray 38 (0, 0)) H154 zer38 (by kernel_rfl) ?_
       intro b155 w156 hb155 H157 hE158
       exact hK _ _ (show ∃ (b122 : Nat) (b132 : Nat), r 9 = pT b122 ∧ (_ : Value) = pT b132 ∧ Hp No w w156 [(some b132, .cells (cel E64 ([0#64, 0#64])).toArray 38 (0, 0)), (some b122, .cells (cel E64 ([0#64, 0#64])).toArray 38 (0, 0)), (some b114, lO (lb)), (some b46, lO (la)), (some b39, .cells #[i64 (((gs).getD i g0).k), i64 (((gs).getD i g0).a), i64 (((gs).getD i g0).b)] 99 (0, 0)), (k1, sob ELb 38 ((gS lhash δ first gs zs i).1) z1), (k2, sob ELb 38 ((gS lhash δ first gs zs i).2) z2), (some b17, .cells (cel E8 (AesSpec.cipher AesSpec.fixKey)).toArray 215 (0, 0)), (some b1, .cells #[i64 (zs.length : Nat), .slice ga gs.length gc, .slice oa ol.length oc] 70 (0, 0)), (some b5, lO (δ))] from ⟨b122, b155, e9, rfl, ((((((((((H157.pull (k := 9) rfl).pull (k := 9) rfl).pull (k := 9) rfl).pull (k := 9) rfl).pull (k := 9) rfl).pull (k := 9) rfl).pull (k := 9) rfl).pull (k := 9) rfl).pull (k := 9) rfl).pull (k := 9) rfl)⟩)
      ·skip
       have hb := mp4 b9 b10 b11 b12
       rw [hb] at hF ⊢
       have H159 := hF
       replace H159 := H159.ext hEx
       dsimp only
       refine Gives.ofW (d := 21) rfl rfl (fun Q' hK => ?_)
       refine q_alloc (o := .cells (cel E64 ([0#64, 0#64])).toArray 38 (0, 0)) H159 zer38 (by kernel_rfl) ?_
       intro b160 w161 hb160 H162 hE163
       exact hK _ _ (show ∃ (b127 : Nat), (_ : Value) = pT b127 ∧ Hp No w w161 [(some b127, .cells (cel E64 ([0#64, 0#64])).toArray 38 (0, 0)), (some b114, lO (lb)), (some b46, lO (la)), (some b39, .cells #[i64 (((gs).getD i g0).k), i64 (((gs).getD i g0).a), i64 (((gs).getD i g0).b)] 99 (0, 0)), (k1, sob ELb 38 ((gS lhash δ first gs zs i).1) z1), (k2, sob ELb 38 ((gS lhash δ first gs zs i).2) z2), (some b17, .cells (cel E8 (AesSpec.cipher AesSpec.fixKey)).toArray 215 (0, 0)), (some b1, .cells #[i64 (zs.length : Nat), .slice ga gs.length gc, .slice oa ol.length oc] 70 (0, 0)), (some b5, lO (δ))] from ⟨b160, rfl, (((((((((H162.pull (k := 8) rfl).pull (k := 8) rfl).pull (k := 8) rfl).pull (k := 8) rfl).pull (k := 8) rfl).pull (k := 8) rfl).pull (k := 8) rfl).pull (k := 8) rfl).pull (k := 8) rfl)⟩)
     refine WalkE.eff 2 rfl (fun L r uw0 uw hLn hAn hDn hF hEx => ?_) ?_
     ·skip
      have b9 := hAn 9 (by decide) rfl
      have b10 := hAn 10 (by decide) rfl
      have b11 : L 11 = false := hLn
      have b12 := hDn 12 (by decide) rfl
      have hb := mp4 b9 b10 b11 b12
      rw [hb] at hF ⊢
      obtain ⟨b122, b132, e9, e10, H164⟩ := hF
      replace H164 := H164.ext hEx
      dsimp only
      rw [e9, e10]
      refine Gives.ofW0 rfl (fun Q' hK => ?_)
      refine d_store (k := 1) (v := .agg (cel E64 [(lhash la sv).1, (lhash la sv).2]).toArray) (cs' := (cel E64 ([(lhash la sv).1, (lhash la sv).2])).toArray) H164 rfl rfl rfl siz38 (by exact celSize (by first | rfl | (show _ * 1 = _; omega))) (by exact celOne _) (by rw [List.size_toArray, cel_length]; show _ ≤ _ * 1; first | omega | (simp only [List.length_set]; omega) | exact bLe rfl | (simp <;> omega)) (by exact putAll (by first | rfl | omega | (simp <;> omega))) ?_
      intro w165 H166 hC167
      have H166' := H166.as (L' := [(some b132, .cells (cel E64 ([0#64, 0#64])).toArray 38 (0, 0)), (some b122, lO (lhash la sv)), (some b114, lO (lb)), (some b46, lO (la)), (some b39, .cells #[i64 (((gs).getD i g0).k), i64 (((gs).getD i g0).a), i64 (((gs).getD i g0).b)] 99 (0, 0)), (k1, sob ELb 38 ((gS lhash δ first gs zs i).1) z1), (k2, sob ELb 38 ((gS lhash δ first gs zs i).2) z2), (some b17, .cells (cel E8 (AesSpec.cipher AesSpec.fixKey)).toArray 215 (0, 0)), (some b1, .cells #[i64 (zs.length : Nat), .slice ga gs.length gc, .slice oa ol.length oc] 70 (0, 0)), (some b5, lO (δ))]) rfl
      clear H166
      exact hK _ (fun _ => (show ∃ (b122 : Nat) (b132 : Nat), r 9 = pT b122 ∧ r 10 = pT b132 ∧ Hp No w w165 [(some b132, .cells (cel E64 ([0#64, 0#64])).toArray 38 (0, 0)), (some b122, lO (lhash la sv)), (some b114, lO (lb)), (some b46, lO (la)), (some b39, .cells #[i64 (((gs).getD i g0).k), i64 (((gs).getD i g0).a), i64 (((gs).getD i g0).b)] 99 (0, 0)), (k1, sob ELb 38 ((gS lhash δ first gs zs i).1) z1), (k2, sob ELb 38 ((gS lhash δ first gs zs i).2) z2), (some b17, .cells (cel E8 (AesSpec.cipher AesSpec.fixKey)).toArray 215 (0, 0)), (some b1, .cells #[i64 (zs.length : Nat), .slice ga gs.length gc, .slice oa ol.length oc] 70 (0, 0)), (some b5, lO (δ))] from ⟨b122, b132, e9, e10, ((((((((((H166'.pull (k := 9) rfl).pull (k := 9) rfl).pull (k := 9) rfl).pull (k := 9) rfl).pull (k := 9) rfl).pull (k := 9) rfl).pull (k := 9) rfl).pull (k := 9) rfl).pull (k := 9) rfl).pull (k := 9) rfl)⟩))
     refine WalkE.eff 3 rfl (fun L r uw0 uw hLn hAn hDn hF hEx => ?_) ?_
     ·skip
      have b9 := hAn 9 (by decide) rfl
      have b10 := hAn 10 (by decide) rfl
      have b11 := hAn 11 (by decide) rfl
      have b12 : L 12 = false := hLn
      have hb := mp4 b9 b10 b11 b12
      rw [hb] at hF ⊢
      obtain ⟨b122, b132, e9, e10, H168⟩ := hF
      replace H168 := H168.ext hEx
      dsimp only
      rw [e9, e10]
      refine Gives.ofW0 rfl (fun Q' hK => ?_)
      refine d_store (k := 0) (v := .agg (cel E64 [(lhash lb (sv + (1#64))).1, (lhash lb (sv + (1#64))).2]).toArray) (cs' := (cel E64 ([(lhash lb (sv + (1#64))).1, (lhash lb (sv + (1#64))).2])).toArray) H168 rfl rfl rfl siz38 (by exact celSize (by first | rfl | (show _ * 1 = _; omega))) (by exact celOne _) (by rw [List.size_toArray, cel_length]; show _ ≤ _ * 1; first | omega | (simp only [List.length_set]; omega) | exact bLe rfl | (simp <;> omega)) (by exact putAll (by first | rfl | omega | (simp <;> omega))) ?_
      intro w169 H170 hC171
      have H170' := H170.as (L' := [(some b132, lO (lhash lb (sv + (1#64)))), (some b122, lO (lhash la sv)), (some b114, lO (lb)), (some b46, lO (la)), (some b39, .cells #[i64 (((gs).getD i g0).k), i64 (((gs).getD i g0).a), i64 (((gs).getD i g0).b)] 99 (0, 0)), (k1, sob ELb 38 ((gS lhash δ first gs zs i).1) z1), (k2, sob ELb 38 ((gS lhash δ first gs zs i).2) z2), (some b17, .cells (cel E8 (AesSpec.cipher AesSpec.fixKey)).toArray 215 (0, 0)), (some b1, .cells #[i64 (zs.length : Nat), .slice ga gs.length gc, .slice oa ol.length oc] 70 (0, 0)), (some b5, lO (δ))]) rfl
      clear H170
      exact hK _ (fun _ => (show ∃ (b122 : Nat) (b132 : Nat), r 9 = pT b122 ∧ r 10 = pT b132 ∧ Hp No w w169 [(some b132, lO (lhash lb (sv + (1#64)))), (some b122, lO (lhash la sv)), (some b114, lO (lb)), (some b46, lO (la)), (some b39, .cells #[i64 (((gs).getD i g0).k), i64 (((gs).getD i g0).a), i64 (((gs).getD i g0).b)] 99 (0, 0)), (k1, sob ELb 38 ((gS lhash δ first gs zs i).1) z1), (k2, sob ELb 38 ((gS lhash δ first gs zs i).2) z2), (some b17, .cells (cel E8 (AesSpec.cipher AesSpec.fixKey)).toArray 215 (0, 0)), (some b1, .cells #[i64 (zs.length : Nat), .slice ga gs.length gc, .slice oa ol.length oc] 70 (0, 0)), (some b5, lO (δ))] from ⟨b122, b132, e9, e10, ((((((((((H170'.pull (k := 9) rfl).pull (k := 9) rfl).pull (k := 9) rfl).pull (k := 9) rfl).pull (k := 9) rfl).pull (k := 9) rfl).pull (k := 9) rfl).pull (k := 9) rfl).pull (k := 9) rfl).pull (k := 9) rfl)⟩))
     refine WalkE.nil ?_
     intro r172 uw0 w173 hF hEx
     obtain ⟨b122, b132, e9, e10, H174⟩ := hF
     replace H174 := H174.ext hEx
     dsimp only
     rw [e9, e10]
     refine wnil ?_
     refine thenNormal ?_
     refine seqAny ?_
     refine drawE (m := 15) [0, 0, 0, 0, 12, 0, 62, 0, 254, 0, 1022, 2047, 4095, 0, 16383] [11, 13, 14] (fun bs vs w' => match bs, vs with | [false, false, false], [_, _, _] => Hp No w w' [(some b132, lO (lhash lb (sv + (1#64)))), (some b122, lO (lhash la sv)), (some b114, lO (lb)), (some b46, lO (la)), (some b39, .cells #[i64 (((gs).getD i g0).k), i64 (((gs).getD i g0).a), i64 (((gs).getD i g0).b)] 99 (0, 0)), (k1, sob ELb 38 ((gS lhash δ first gs zs i).1) z1), (k2, sob ELb 38 ((gS lhash δ first gs zs i).2) z2), (some b17, .cells (cel E8 (AesSpec.cipher AesSpec.fixKey)).toArray 215 (0, 0)), (some b1, .cells #[i64 (zs.length : Nat), .slice ga gs.length gc, .slice oa ol.length oc] 70 (0, 0)), (some b5, lO (δ))] | [true, false, false], [v11, _, _] => ∃ (b176 : Nat), v11 = .slice (ownA (some b176)) 3 3 ∧ Sl ELb (some b176) ([lhash la sv, lhash (lx la δ) sv, lw (col lb) δ] : List LbT) 3 ([]) ∧ Hp No w w' [((some b176), sob ELb 38 ([lhash la sv, lhash (lx la δ) sv, lw (col lb) δ] : List LbT) ([])), (some b132, lO (lhash lb (sv + (1#64)))), (some b122, lO (lhash la sv)), (some b114, lO (lb)), (some b46, lO (la)), (some b39, .cells #[i64 (((gs).getD i g0).k), i64 (((gs).getD i g0).a), i64 (((gs).getD i g0).b)] 99 (0, 0)), (k1, sob ELb 38 ((gS lhash δ first gs zs i).1) z1), (k2, sob ELb 38 ((gS lhash δ first gs zs i).2) z2), (some b17, .cells (cel E8 (AesSpec.cipher AesSpec.fixKey)).toArray 215 (0, 0)), (some b1, .cells #[i64 (zs.length : Nat), .slice ga gs.length gc, .slice oa ol.length oc] 70 (0, 0)), (some b5, lO (δ))] | [false, true, false], [_, v13, _] => ∃ (b182 : Nat), v13 = pT b182 ∧ Hp No w w' [(some b182, .cells (cel E64 ([0#64, 0#64])).toArray 38 (0, 0)), (some b132, lO (lhash lb (sv + (1#64)))), (some b122, lO (lhash la sv)), (some b114, lO (lb)), (some b46, lO (la)), (some b39, .cells #[i64 (((gs).getD i g0).k), i64 (((gs).getD i g0).a), i64 (((gs).getD i g0).b)] 99 (0, 0)), (k1, sob ELb 38 ((gS lhash δ first gs zs i).1) z1), (k2, sob ELb 38 ((gS lhash δ first gs zs i).2) z2), (some b17, .cells (cel E8 (AesSpec.cipher AesSpec.fixKey)).toArray 215 (0, 0)), (some b1, .cells #[i64 (zs.length : Nat), .slice ga gs.length gc, .slice oa ol.length oc] 70 (0, 0)), (some b5, lO (δ))] | [true, true, false], [v11, v13, _] => ∃ (b176 : Nat) (b187 : Nat), v11 = .slice (ownA (some b176)) 3 3 ∧ v13 = pT b187 ∧ Sl ELb (some b176) ([lhash la sv, lhash (lx la δ) sv, lw (col lb) δ] : List LbT) 3 ([]) ∧ Hp No w w' [(some b187, .cells (cel E64 ([0#64, 0#64])).toArray 38 (0, 0)), ((some b176), sob ELb 38 ([lhash la sv, lhash (lx la δ) sv, lw (col lb) δ] : List LbT) ([])), (some b132, lO (lhash lb (sv + (1#64)))), (some b122, lO (lhash la sv)), (some b114, lO (lb)), (some b46, lO (la)), (some b39, .cells #[i64 (((gs).getD i g0).k), i64 (((gs).getD i g0).a), i64 (((gs).getD i g0).b)] 99 (0, 0)), (k1, sob ELb 38 ((gS lhash δ first gs zs i).1) z1), (k2, sob ELb 38 ((gS lhash δ first gs zs i).2) z2), (some b17, .cells (cel E8 (AesSpec.cipher AesSpec.fixKey)).toArray 215 (0, 0)), (some b1, .cells #[i64 (zs.length : Nat), .slice ga gs.length gc, .slice oa ol.length oc] 70 (0, 0)), (some b5, lO (δ))] | [true, true, true], [v11, v13, _] => ∃ (b176 : Nat) (b187 : Nat), v11 = .slice (ownA (some b176)) 3 3 ∧ v13 = pT b187 ∧ Sl ELb (some b176) ([lhash la sv, lhash (lx la δ) sv, lw (col lb) δ] : List LbT) 3 ([]) ∧ Hp No w w' [(some b187, lO (lsum ([lhash la sv, lhash (lx la δ) sv, lw (col lb) δ] : List LbT))), ((some b176), sob ELb 38 ([lhash la sv, lhash (lx la δ) sv, lw (col lb) δ] : List LbT) ([])), (some b132, lO (lhash lb (sv + (1#64)))), (some b122, lO (lhash la sv)), (some b114, lO (lb)), (some b46, lO (la)), (some b39, .cells #[i64 (((gs).getD i g0).k), i64 (((gs).getD i g0).a), i64 (((gs).getD i g0).b)] 99 (0, 0)), (k1, sob ELb 38 ((gS lhash δ first gs zs i).1) z1), (k2, sob ELb 38 ((gS lhash δ first gs zs i).2) z2), (some b17, .cells (cel E8 (AesSpec.cipher AesSpec.fixKey)).toArray 215 (0, 0)), (some b1, .cells #[i64 (zs.length : Nat), .slice ga gs.length gc, .slice oa ol.length oc] 70 (0, 0)), (some b5, lO (δ))] | _, _ => False) mixed (by kernel_rfl) (by kernel_rfl) H174.drew ?_
     refine WalkE.look rfl (fun _ => lV (lhash la sv)) (fun _ _ _ => rfl) (fun L r uw0 uw hAn hDn hF hEx => ?_) ?_
     ·skip
      have b11 := hDn 11 (by decide) rfl
      have b14 := hDn 14 (by decide) rfl
      rcases bTF (L 13) with b13 | b13
      ·skip
       have hb := mp3 b11 b13 b14
       rw [hb] at hF
       obtain ⟨b182, e13, HH⟩ := hF
       replace HH := HH.ext hEx
       exact Gives.run rfl (r_loadA (cs' := (cel E64 ([(lhash la sv).1, (lhash la sv).2])).toArray) agg38 siz38 (HH.get (k := 2) rfl) (off := 0) rfl (by exact bLe rfl) (by exact ext_all rfl)) ⟨rfl, rfl⟩
      ·skip
       have hb := mp3 b11 b13 b14
       rw [hb] at hF
       have HH := hF
       replace HH := HH.ext hEx
       exact Gives.run rfl (r_loadA (cs' := (cel E64 ([(lhash la sv).1, (lhash la sv).2])).toArray) agg38 siz38 (HH.get (k := 1) rfl) (off := 0) rfl (by exact bLe rfl) (by exact ext_all rfl)) ⟨rfl, rfl⟩
     refine WalkE.look rfl (fun _ => pT b17) (fun _ _ _ => rfl) (fun L r _ uw _ _ _ _ => Gives.run rfl (r_move (v := pT b17) rfl) ⟨rfl, rfl⟩) ?_
     refine WalkE.look rfl (fun _ => lV (la)) (fun _ _ _ => rfl) (fun L r uw0 uw hAn hDn hF hEx => ?_) ?_
     ·skip
      have b11 := hDn 11 (by decide) rfl
      have b14 := hDn 14 (by decide) rfl
      rcases bTF (L 13) with b13 | b13
      ·skip
       have hb := mp3 b11 b13 b14
       rw [hb] at hF
       obtain ⟨b182, e13, HH⟩ := hF
       replace HH := HH.ext hEx
       exact Gives.run rfl (r_loadA (cs' := (cel E64 ([(la).1, (la).2])).toArray) agg38 siz38 (HH.get (k := 4) rfl) (off := 0) rfl (by exact bLe rfl) (by exact ext_all rfl)) ⟨rfl, rfl⟩
      ·skip
       have hb := mp3 b11 b13 b14
       rw [hb] at hF
       have HH := hF
       replace HH := HH.ext hEx
       exact Gives.run rfl (r_loadA (cs' := (cel E64 ([(la).1, (la).2])).toArray) agg38 siz38 (HH.get (k := 3) rfl) (off := 0) rfl (by exact bLe rfl) (by exact ext_all rfl)) ⟨rfl, rfl⟩
     refine WalkE.look rfl (fun _ => lV (δ)) (fun _ _ _ => rfl) (fun L r uw0 uw hAn hDn hF hEx => ?_) ?_
     ·skip
      have b11 := hDn 11 (by decide) rfl
      have b14 := hDn 14 (by decide) rfl
      rcases bTF (L 13) with b13 | b13
      ·skip
       have hb := mp3 b11 b13 b14
       rw [hb] at hF
       obtain ⟨b182, e13, HH⟩ := hF
       replace HH := HH.ext hEx
       exact Gives.run rfl (r_loadA (cs' := (cel E64 ([(δ).1, (δ).2])).toArray) agg38 siz38 (HH.get (k := 10) rfl) (off := 0) rfl (by exact bLe rfl) (by exact ext_all rfl)) ⟨rfl, rfl⟩
      ·skip
       have hb := mp3 b11 b13 b14
       rw [hb] at hF
       have HH := hF
       replace HH := HH.ext hEx
       exact Gives.run rfl (r_loadA (cs' := (cel E64 ([(δ).1, (δ).2])).toArray) agg38 siz38 (HH.get (k := 9) rfl) (off := 0) rfl (by exact bLe rfl) (by exact ext_all rfl)) ⟨rfl, rfl⟩
     refine WalkE.call rfl (fun _ => .agg (cel E64 [(lx la δ).1, (lx la δ).2]).toArray) (fun _ _ _ => rfl) (fun L r uw0 uw hAn hDn hF hEx => ?_) ?_
     ·skip
      have b11 := hDn 11 (by decide) rfl
      have b14 := hDn 14 (by decide) rfl
      rcases bTF (L 13) with b13 | b13
      ·skip
       have hb := mp3 b11 b13 b14
       rw [hb] at hF
       obtain ⟨b182, e13, HH⟩ := hF
       replace HH := HH.ext hEx
       exact Gives.call rfl (Enters.callL (vs := [lV (la), lV (δ)]) call86 rfl) (lxor_ok la δ uw)
      ·skip
       have hb := mp3 b11 b13 b14
       rw [hb] at hF
       have HH := hF
       replace HH := HH.ext hEx
       exact Gives.call rfl (Enters.callL (vs := [lV (la), lV (δ)]) call86 rfl) (lxor_ok la δ uw)
     refine WalkE.look rfl (fun _ => u64 (sv)) (fun _ _ _ => rfl) (fun L r _ uw _ _ _ _ => Gives.run rfl (r_move (v := u64 (sv)) rfl) ⟨rfl, rfl⟩) ?_
     refine WalkE.call rfl (fun _ => .agg (cel E64 [(lhash (lx la δ) sv).1, (lhash (lx la δ) sv).2]).toArray) (fun _ _ _ => rfl) (fun L r uw0 uw hAn hDn hF hEx => ?_) ?_
     ·skip
      have b11 := hDn 11 (by decide) rfl
      have b14 := hDn 14 (by decide) rfl
      rcases bTF (L 13) with b13 | b13
      ·skip
       have hb := mp3 b11 b13 b14
       rw [hb] at hF
       obtain ⟨b182, e13, HH⟩ := hF
       replace HH := HH.ext hEx
       exact Gives.call rfl (Enters.callL (vs := [pT b17, .agg (cel E64 [(lx la δ).1, (lx la δ).2]).toArray, u64 (sv)]) call87 rfl) (lhash_ok b17 (lx la δ) sv uw (HH.get (k := 8) rfl))
      ·skip
       have hb := mp3 b11 b13 b14
       rw [hb] at hF
       have HH := hF
       replace HH := HH.ext hEx
       exact Gives.call rfl (Enters.callL (vs := [pT b17, .agg (cel E64 [(lx la δ).1, (lx la δ).2]).toArray, u64 (sv)]) call87 rfl) (lhash_ok b17 (lx la δ) sv uw (HH.get (k := 7) rfl))
     refine WalkE.look rfl (fun _ => lV (lb)) (fun _ _ _ => rfl) (fun L r uw0 uw hAn hDn hF hEx => ?_) ?_
     ·skip
      have b11 := hDn 11 (by decide) rfl
      have b14 := hDn 14 (by decide) rfl
      rcases bTF (L 13) with b13 | b13
      ·skip
       have hb := mp3 b11 b13 b14
       rw [hb] at hF
       obtain ⟨b182, e13, HH⟩ := hF
       replace HH := HH.ext hEx
       exact Gives.run rfl (r_loadA (cs' := (cel E64 ([(lb).1, (lb).2])).toArray) agg38 siz38 (HH.get (k := 3) rfl) (off := 0) rfl (by exact bLe rfl) (by exact ext_all rfl)) ⟨rfl, rfl⟩
      ·skip
       have hb := mp3 b11 b13 b14
       rw [hb] at hF
       have HH := hF
       replace HH := HH.ext hEx
       exact Gives.run rfl (r_loadA (cs' := (cel E64 ([(lb).1, (lb).2])).toArray) agg38 siz38 (HH.get (k := 2) rfl) (off := 0) rfl (by exact bLe rfl) (by exact ext_all rfl)) ⟨rfl, rfl⟩
     refine WalkE.call rfl (fun _ => .bool (col lb)) (fun _ _ _ => rfl) (fun L r uw0 uw hAn hDn hF hEx => ?_) ?_
     ·skip
      have b11 := hDn 11 (by decide) rfl
      have b14 := hDn 14 (by decide) rfl
      rcases bTF (L 13) with b13 | b13
      ·skip
       have hb := mp3 b11 b13 b14
       rw [hb] at hF
       obtain ⟨b182, e13, HH⟩ := hF
       replace HH := HH.ext hEx
       exact Gives.call rfl (Enters.callL (vs := [lV (lb)]) call84 rfl) (col_ok lb uw)
      ·skip
       have hb := mp3 b11 b13 b14
       rw [hb] at hF
       have HH := hF
       replace HH := HH.ext hEx
       exact Gives.call rfl (Enters.callL (vs := [lV (lb)]) call84 rfl) (col_ok lb uw)
     refine WalkE.look rfl (fun _ => lV (δ)) (fun _ _ _ => rfl) (fun L r uw0 uw hAn hDn hF hEx => ?_) ?_
     ·skip
      have b11 := hDn 11 (by decide) rfl
      have b14 := hDn 14 (by decide) rfl
      rcases bTF (L 13) with b13 | b13
      ·skip
       have hb := mp3 b11 b13 b14
       rw [hb] at hF
       obtain ⟨b182, e13, HH⟩ := hF
       replace HH := HH.ext hEx
       exact Gives.run rfl (r_loadA (cs' := (cel E64 ([(δ).1, (δ).2])).toArray) agg38 siz38 (HH.get (k := 10) rfl) (off := 0) rfl (by exact bLe rfl) (by exact ext_all rfl)) ⟨rfl, rfl⟩
      ·skip
       have hb := mp3 b11 b13 b14
       rw [hb] at hF
       have HH := hF
       replace HH := HH.ext hEx
       exact Gives.run rfl (r_loadA (cs' := (cel E64 ([(δ).1, (δ).2])).toArray) agg38 siz38 (HH.get (k := 9) rfl) (off := 0) rfl (by exact bLe rfl) (by exact ext_all rfl)) ⟨rfl, rfl⟩
     refine WalkE.call rfl (fun _ => .agg (cel E64 [(lw (col lb) δ).1, (lw (col lb) δ).2]).toArray) (fun _ _ _ => rfl) (fun L r uw0 uw hAn hDn hF hEx => ?_) ?_
     ·skip
      have b11 := hDn 11 (by decide) rfl
      have b14 := hDn 14 (by decide) rfl
      rcases bTF (L 13) with b13 | b13
      ·skip
       have hb := mp3 b11 b13 b14
       rw [hb] at hF
       obtain ⟨b182, e13, HH⟩ := hF
       replace HH := HH.ext hEx
       exact Gives.call rfl (Enters.callL (vs := [.bool (col lb), lV (δ)]) call89 rfl) (lw_ok (col lb) δ uw)
      ·skip
       have hb := mp3 b11 b13 b14
       rw [hb] at hF
       have HH := hF
       replace HH := HH.ext hEx
       exact Gives.call rfl (Enters.callL (vs := [.bool (col lb), lV (δ)]) call89 rfl) (lw_ok (col lb) δ uw)
     refine WalkE.eff 0 rfl (fun L r uw0 uw hLn hAn hDn hF hEx => ?_) ?_
     ·skip
      have b11 : L 11 = false := hLn
      have b14 := hDn 14 (by decide) rfl
      rcases bTF (L 13) with b13 | b13
      ·skip
       have hb := mp3 b11 b13 b14
       rw [hb] at hF ⊢
       obtain ⟨b182, e13, H195⟩ := hF
       replace H195 := H195.ext hEx
       dsimp only
       refine Gives.ofW (d := 112) rfl rfl (fun Q' hK => ?_)
       refine q_buildSlice (E := ELb) (l := ([lhash la sv, lhash (lx la δ) sv, lw (col lb) δ] : List LbT)) H195 sli92 zer38 (bLe rfl) (ps := [(0, lV (lhash la sv)), (1, .agg (cel E64 [(lhash (lx la δ) sv).1, (lhash (lx la δ) sv).2]).toArray), (2, .agg (cel E64 [(lw (col lb) δ).1, (lw (col lb) δ).2]).toArray)]) rfl (by exact fillAll rfl rfl) rfl ?_
       intro b196 w198 hS197 H199 hE200
       exact hK _ _ (show ∃ (b176 : Nat) (b187 : Nat), (_ : Value) = .slice (ownA (some b176)) 3 3 ∧ r 13 = pT b187 ∧ Sl ELb (some b176) ([lhash la sv, lhash (lx la δ) sv, lw (col lb) δ] : List LbT) 3 ([]) ∧ Hp No w w198 [(some b187, .cells (cel E64 ([0#64, 0#64])).toArray 38 (0, 0)), ((some b176), sob ELb 38 ([lhash la sv, lhash (lx la δ) sv, lw (col lb) δ] : List LbT) ([])), (some b132, lO (lhash lb (sv + (1#64)))), (some b122, lO (lhash la sv)), (some b114, lO (lb)), (some b46, lO (la)), (some b39, .cells #[i64 (((gs).getD i g0).k), i64 (((gs).getD i g0).a), i64 (((gs).getD i g0).b)] 99 (0, 0)), (k1, sob ELb 38 ((gS lhash δ first gs zs i).1) z1), (k2, sob ELb 38 ((gS lhash δ first gs zs i).2) z2), (some b17, .cells (cel E8 (AesSpec.cipher AesSpec.fixKey)).toArray 215 (0, 0)), (some b1, .cells #[i64 (zs.length : Nat), .slice ga gs.length gc, .slice oa ol.length oc] 70 (0, 0)), (some b5, lO (δ))] from ⟨b196, b182, rfl, e13, hS197, ((((((((((((H199.pull (k := 11) rfl).pull (k := 11) rfl).pull (k := 11) rfl).pull (k := 11) rfl).pull (k := 11) rfl).pull (k := 11) rfl).pull (k := 11) rfl).pull (k := 11) rfl).pull (k := 11) rfl).pull (k := 11) rfl).pull (k := 10) rfl).pull (k := 11) rfl)⟩)
      ·skip
       have hb := mp3 b11 b13 b14
       rw [hb] at hF ⊢
       have H201 := hF
       replace H201 := H201.ext hEx
       dsimp only
       refine Gives.ofW (d := 112) rfl rfl (fun Q' hK => ?_)
       refine q_buildSlice (E := ELb) (l := ([lhash la sv, lhash (lx la δ) sv, lw (col lb) δ] : List LbT)) H201 sli92 zer38 (bLe rfl) (ps := [(0, lV (lhash la sv)), (1, .agg (cel E64 [(lhash (lx la δ) sv).1, (lhash (lx la δ) sv).2]).toArray), (2, .agg (cel E64 [(lw (col lb) δ).1, (lw (col lb) δ).2]).toArray)]) rfl (by exact fillAll rfl rfl) rfl ?_
       intro b202 w204 hS203 H205 hE206
       exact hK _ _ (show ∃ (b176 : Nat), (_ : Value) = .slice (ownA (some b176)) 3 3 ∧ Sl ELb (some b176) ([lhash la sv, lhash (lx la δ) sv, lw (col lb) δ] : List LbT) 3 ([]) ∧ Hp No w w204 [((some b176), sob ELb 38 ([lhash la sv, lhash (lx la δ) sv, lw (col lb) δ] : List LbT) ([])), (some b132, lO (lhash lb (sv + (1#64)))), (some b122, lO (lhash la sv)), (some b114, lO (lb)), (some b46, lO (la)), (some b39, .cells #[i64 (((gs).getD i g0).k), i64 (((gs).getD i g0).a), i64 (((gs).getD i g0).b)] 99 (0, 0)), (k1, sob ELb 38 ((gS lhash δ first gs zs i).1) z1), (k2, sob ELb 38 ((gS lhash δ first gs zs i).2) z2), (some b17, .cells (cel E8 (AesSpec.cipher AesSpec.fixKey)).toArray 215 (0, 0)), (some b1, .cells #[i64 (zs.length : Nat), .slice ga gs.length gc, .slice oa ol.length oc] 70 (0, 0)), (some b5, lO (δ))] from ⟨b202, rfl, hS203, (((((((((((H205.pull (k := 10) rfl).pull (k := 10) rfl).pull (k := 10) rfl).pull (k := 10) rfl).pull (k := 10) rfl).pull (k := 10) rfl).pull (k := 10) rfl).pull (k := 10) rfl).pull (k := 10) rfl).pull (k := 10) rfl).pull (k := 10) rfl)⟩)
     refine WalkE.call rfl (fun _ => .agg (cel E64 [(lsum ([lhash la sv, lhash (lx la δ) sv, lw (col lb) δ] : List LbT)).1, (lsum ([lhash la sv, lhash (lx la δ) sv, lw (col lb) δ] : List LbT)).2]).toArray) (fun _ _ _ => rfl) (fun L r uw0 uw hAn hDn hF hEx => ?_) ?_
     ·skip
      have b11 := hAn 11 (by decide) rfl
      have b14 := hDn 14 (by decide) rfl
      rcases bTF (L 13) with b13 | b13
      ·skip
       have hb := mp3 b11 b13 b14
       rw [hb] at hF
       obtain ⟨b176, b187, e11, e13, hS177, HH⟩ := hF
       replace HH := HH.ext hEx
       dsimp only
       rw [e11]
       exact Gives.call rfl (Enters.callL (vs := [.slice (ownA (some b176)) 3 3]) call88 rfl) (lsum_ok ([lhash la sv, lhash (lx la δ) sv, lw (col lb) δ] : List LbT) (ownA (some b176)) 3 3 (by rfl) (by simp) uw (HH.rd (k := 1) rfl hS177))
      ·skip
       have hb := mp3 b11 b13 b14
       rw [hb] at hF
       obtain ⟨b176, e11, hS177, HH⟩ := hF
       replace HH := HH.ext hEx
       dsimp only
       rw [e11]
       exact Gives.call rfl (Enters.callL (vs := [.slice (ownA (some b176)) 3 3]) call88 rfl) (lsum_ok ([lhash la sv, lhash (lx la δ) sv, lw (col lb) δ] : List LbT) (ownA (some b176)) 3 3 (by rfl) (by simp) uw (HH.rd (k := 0) rfl hS177))
     refine WalkE.eff 1 rfl (fun L r uw0 uw hLn hAn hDn hF hEx => ?_) ?_
     ·skip
      have b13 : L 13 = false := hLn
      have b14 := hDn 14 (by decide) rfl
      rcases bTF (L 11) with b11 | b11
      ·skip
       have hb := mp3 b11 b13 b14
       rw [hb] at hF ⊢
       obtain ⟨b176, e11, hS177, H207⟩ := hF
       replace H207 := H207.ext hEx
       dsimp only
       rw [e11]
       refine Gives.ofW (d := 22) rfl rfl (fun Q' hK => ?_)
       refine q_alloc (o := .cells (cel E64 ([0#64, 0#64])).toArray 38 (0, 0)) H207 zer38 (by kernel_rfl) ?_
       intro b208 w209 hb208 H210 hE211
       exact hK _ _ (show ∃ (b176 : Nat) (b187 : Nat), r 11 = .slice (ownA (some b176)) 3 3 ∧ (_ : Value) = pT b187 ∧ Sl ELb (some b176) ([lhash la sv, lhash (lx la δ) sv, lw (col lb) δ] : List LbT) 3 ([]) ∧ Hp No w w209 [(some b187, .cells (cel E64 ([0#64, 0#64])).toArray 38 (0, 0)), ((some b176), sob ELb 38 ([lhash la sv, lhash (lx la δ) sv, lw (col lb) δ] : List LbT) ([])), (some b132, lO (lhash lb (sv + (1#64)))), (some b122, lO (lhash la sv)), (some b114, lO (lb)), (some b46, lO (la)), (some b39, .cells #[i64 (((gs).getD i g0).k), i64 (((gs).getD i g0).a), i64 (((gs).getD i g0).b)] 99 (0, 0)), (k1, sob ELb 38 ((gS lhash δ first gs zs i).1) z1), (k2, sob ELb 38 ((gS lhash δ first gs zs i).2) z2), (some b17, .cells (cel E8 (AesSpec.cipher AesSpec.fixKey)).toArray 215 (0, 0)), (some b1, .cells #[i64 (zs.length : Nat), .slice ga gs.length gc, .slice oa ol.length oc] 70 (0, 0)), (some b5, lO (δ))] from ⟨b176, b208, e11, rfl, hS177, ((((((((((((H210.pull (k := 11) rfl).pull (k := 11) rfl).pull (k := 11) rfl).pull (k := 11) rfl).pull (k := 11) rfl).pull (k := 11) rfl).pull (k := 11) rfl).pull (k := 11) rfl).pull (k := 11) rfl).pull (k := 11) rfl).pull (k := 11) rfl).pull (k := 11) rfl)⟩)
      ·skip
       have hb := mp3 b11 b13 b14
       rw [hb] at hF ⊢
       have H212 := hF
       replace H212 := H212.ext hEx
       dsimp only
       refine Gives.ofW (d := 22) rfl rfl (fun Q' hK => ?_)
       refine q_alloc (o := .cells (cel E64 ([0#64, 0#64])).toArray 38 (0, 0)) H212 zer38 (by kernel_rfl) ?_
       intro b213 w214 hb213 H215 hE216
       exact hK _ _ (show ∃ (b182 : Nat), (_ : Value) = pT b182 ∧ Hp No w w214 [(some b182, .cells (cel E64 ([0#64, 0#64])).toArray 38 (0, 0)), (some b132, lO (lhash lb (sv + (1#64)))), (some b122, lO (lhash la sv)), (some b114, lO (lb)), (some b46, lO (la)), (some b39, .cells #[i64 (((gs).getD i g0).k), i64 (((gs).getD i g0).a), i64 (((gs).getD i g0).b)] 99 (0, 0)), (k1, sob ELb 38 ((gS lhash δ first gs zs i).1) z1), (k2, sob ELb 38 ((gS lhash δ first gs zs i).2) z2), (some b17, .cells (cel E8 (AesSpec.cipher AesSpec.fixKey)).toArray 215 (0, 0)), (some b1, .cells #[i64 (zs.length : Nat), .slice ga gs.length gc, .slice oa ol.length oc] 70 (0, 0)), (some b5, lO (δ))] from ⟨b213, rfl, (((((((((((H215.pull (k := 10) rfl).pull (k := 10) rfl).pull (k := 10) rfl).pull (k := 10) rfl).pull (k := 10) rfl).pull (k := 10) rfl).pull (k := 10) rfl).pull (k := 10) rfl).pull (k := 10) rfl).pull (k := 10) rfl).pull (k := 10) rfl)⟩)
     refine WalkE.eff 2 rfl (fun L r uw0 uw hLn hAn hDn hF hEx => ?_) ?_
     ·skip
      have b11 := hAn 11 (by decide) rfl
      have b13 := hAn 13 (by decide) rfl
      have b14 : L 14 = false := hLn
      have hb := mp3 b11 b13 b14
      rw [hb] at hF ⊢
      obtain ⟨b176, b187, e11, e13, hS177, H217⟩ := hF
      replace H217 := H217.ext hEx
      dsimp only
      rw [e11, e13]
      refine Gives.ofW0 rfl (fun Q' hK => ?_)
      refine d_store (k := 0) (v := .agg (cel E64 [(lsum ([lhash la sv, lhash (lx la δ) sv, lw (col lb) δ] : List LbT)).1, (lsum ([lhash la sv, lhash (lx la δ) sv, lw (col lb) δ] : List LbT)).2]).toArray) (cs' := (cel E64 ([(lsum ([lhash la sv, lhash (lx la δ) sv, lw (col lb) δ] : List LbT)).1, (lsum ([lhash la sv, lhash (lx la δ) sv, lw (col lb) δ] : List LbT)).2])).toArray) H217 rfl rfl rfl siz38 (by exact celSize (by first | rfl | (show _ * 1 = _; omega))) (by exact celOne _) (by rw [List.size_toArray, cel_length]; show _ ≤ _ * 1; first | omega | (simp only [List.length_set]; omega) | exact bLe rfl | (simp <;> omega)) (by exact putAll (by first | rfl | omega | (simp <;> omega))) ?_
      intro w218 H219 hC220
      have H219' := H219.as (L' := [(some b187, lO (lsum ([lhash la sv, lhash (lx la δ) sv, lw (col lb) δ] : List LbT))), ((some b176), sob ELb 38 ([lhash la sv, lhash (lx la δ) sv, lw (col lb) δ] : List LbT) ([])), (some b132, lO (lhash lb (sv + (1#64)))), (some b122, lO (lhash la sv)), (some b114, lO (lb)), (some b46, lO (la)), (some b39, .cells #[i64 (((gs).getD i g0).k), i64 (((gs).getD i g0).a), i64 (((gs).getD i g0).b)] 99 (0, 0)), (k1, sob ELb 38 ((gS lhash δ first gs zs i).1) z1), (k2, sob ELb 38 ((gS lhash δ first gs zs i).2) z2), (some b17, .cells (cel E8 (AesSpec.cipher AesSpec.fixKey)).toArray 215 (0, 0)), (some b1, .cells #[i64 (zs.length : Nat), .slice ga gs.length gc, .slice oa ol.length oc] 70 (0, 0)), (some b5, lO (δ))]) rfl
      clear H219
      exact hK _ (fun _ => (show ∃ (b176 : Nat) (b187 : Nat), r 11 = .slice (ownA (some b176)) 3 3 ∧ r 13 = pT b187 ∧ Sl ELb (some b176) ([lhash la sv, lhash (lx la δ) sv, lw (col lb) δ] : List LbT) 3 ([]) ∧ Hp No w w218 [(some b187, lO (lsum ([lhash la sv, lhash (lx la δ) sv, lw (col lb) δ] : List LbT))), ((some b176), sob ELb 38 ([lhash la sv, lhash (lx la δ) sv, lw (col lb) δ] : List LbT) ([])), (some b132, lO (lhash lb (sv + (1#64)))), (some b122, lO (lhash la sv)), (some b114, lO (lb)), (some b46, lO (la)), (some b39, .cells #[i64 (((gs).getD i g0).k), i64 (((gs).getD i g0).a), i64 (((gs).getD i g0).b)] 99 (0, 0)), (k1, sob ELb 38 ((gS lhash δ first gs zs i).1) z1), (k2, sob ELb 38 ((gS lhash δ first gs zs i).2) z2), (some b17, .cells (cel E8 (AesSpec.cipher AesSpec.fixKey)).toArray 215 (0, 0)), (some b1, .cells #[i64 (zs.length : Nat), .slice ga gs.length gc, .slice oa ol.length oc] 70 (0, 0)), (some b5, lO (δ))] from ⟨b176, b187, e11, e13, hS177, ((((((((((((H219'.pull (k := 11) rfl).pull (k := 11) rfl).pull (k := 11) rfl).pull (k := 11) rfl).pull (k := 11) rfl).pull (k := 11) rfl).pull (k := 11) rfl).pull (k := 11) rfl).pull (k := 11) rfl).pull (k := 11) rfl).pull (k := 11) rfl).pull (k := 11) rfl)⟩))
     refine WalkE.nil ?_
     intro r221 uw0 w222 hF hEx
     obtain ⟨b176, b187, e11, e13, hS177, H223⟩ := hF
     replace H223 := H223.ext hEx
     dsimp only
     rw [e11, e13]
     obtain ⟨tx, htx⟩ : ∃ x : Lb, x = tabX lhash δ la lb sv := ⟨_, rfl⟩
     rw [show (lsum ([lhash la sv, lhash (lx la δ) sv, lw (col lb) δ] : List LbT) : Lb) = tx from htx.symm] at H223
     refine wnil ?_
     refine thenNormal ?_
     refine seqAny ?_
     refine drawE (m := 13) [0, 0, 0, 0, 12, 0, 32, 126, 0, 511, 1023, 0, 4095] [9, 11, 12] (fun bs vs w' => match bs, vs with | [false, false, false], [_, _, _] => Hp No w w' [(some b187, lO (tx)), ((some b176), sob ELb 38 ([lhash la sv, lhash (lx la δ) sv, lw (col lb) δ] : List LbT) ([])), (some b132, lO (lhash lb (sv + (1#64)))), (some b122, lO (lhash la sv)), (some b114, lO (lb)), (some b46, lO (la)), (some b39, .cells #[i64 (((gs).getD i g0).k), i64 (((gs).getD i g0).a), i64 (((gs).getD i g0).b)] 99 (0, 0)), (k1, sob ELb 38 ((gS lhash δ first gs zs i).1) z1), (k2, sob ELb 38 ((gS lhash δ first gs zs i).2) z2), (some b17, .cells (cel E8 (AesSpec.cipher AesSpec.fixKey)).toArray 215 (0, 0)), (some b1, .cells #[i64 (zs.length : Nat), .slice ga gs.length gc, .slice oa ol.length oc] 70 (0, 0)), (some b5, lO (δ))] | [true, false, false], [v9, _, _] => ∃ (b225 : Nat), v9 = .slice (ownA (some b225)) 3 3 ∧ Sl ELb (some b225) ([lhash lb (sv + (1#64)), lhash (lx lb δ) (sv + (1#64)), la] : List LbT) 3 ([]) ∧ Hp No w w' [((some b225), sob ELb 38 ([lhash lb (sv + (1#64)), lhash (lx lb δ) (sv + (1#64)), la] : List LbT) ([])), (some b187, lO (tx)), ((some b176), sob ELb 38 ([lhash la sv, lhash (lx la δ) sv, lw (col lb) δ] : List LbT) ([])), (some b132, lO (lhash lb (sv + (1#64)))), (some b122, lO (lhash la sv)), (some b114, lO (lb)), (some b46, lO (la)), (some b39, .cells #[i64 (((gs).getD i g0).k), i64 (((gs).getD i g0).a), i64 (((gs).getD i g0).b)] 99 (0, 0)), (k1, sob ELb 38 ((gS lhash δ first gs zs i).1) z1), (k2, sob ELb 38 ((gS lhash δ first gs zs i).2) z2), (some b17, .cells (cel E8 (AesSpec.cipher AesSpec.fixKey)).toArray 215 (0, 0)), (some b1, .cells #[i64 (zs.length : Nat), .slice ga gs.length gc, .slice oa ol.length oc] 70 (0, 0)), (some b5, lO (δ))] | [false, true, false], [_, v11, _] => ∃ (b231 : Nat), v11 = pT b231 ∧ Hp No w w' [(some b231, .cells (cel E64 ([0#64, 0#64])).toArray 38 (0, 0)), (some b187, lO (tx)), ((some b176), sob ELb 38 ([lhash la sv, lhash (lx la δ) sv, lw (col lb) δ] : List LbT) ([])), (some b132, lO (lhash lb (sv + (1#64)))), (some b122, lO (lhash la sv)), (some b114, lO (lb)), (some b46, lO (la)), (some b39, .cells #[i64 (((gs).getD i g0).k), i64 (((gs).getD i g0).a), i64 (((gs).getD i g0).b)] 99 (0, 0)), (k1, sob ELb 38 ((gS lhash δ first gs zs i).1) z1), (k2, sob ELb 38 ((gS lhash δ first gs zs i).2) z2), (some b17, .cells (cel E8 (AesSpec.cipher AesSpec.fixKey)).toArray 215 (0, 0)), (some b1, .cells #[i64 (zs.length : Nat), .slice ga gs.length gc, .slice oa ol.length oc] 70 (0, 0)), (some b5, lO (δ))] | [true, true, false], [v9, v11, _] => ∃ (b225 : Nat) (b236 : Nat), v9 = .slice (ownA (some b225)) 3 3 ∧ v11 = pT b236 ∧ Sl ELb (some b225) ([lhash lb (sv + (1#64)), lhash (lx lb δ) (sv + (1#64)), la] : List LbT) 3 ([]) ∧ Hp No w w' [(some b236, .cells (cel E64 ([0#64, 0#64])).toArray 38 (0, 0)), ((some b225), sob ELb 38 ([lhash lb (sv + (1#64)), lhash (lx lb δ) (sv + (1#64)), la] : List LbT) ([])), (some b187, lO (tx)), ((some b176), sob ELb 38 ([lhash la sv, lhash (lx la δ) sv, lw (col lb) δ] : List LbT) ([])), (some b132, lO (lhash lb (sv + (1#64)))), (some b122, lO (lhash la sv)), (some b114, lO (lb)), (some b46, lO (la)), (some b39, .cells #[i64 (((gs).getD i g0).k), i64 (((gs).getD i g0).a), i64 (((gs).getD i g0).b)] 99 (0, 0)), (k1, sob ELb 38 ((gS lhash δ first gs zs i).1) z1), (k2, sob ELb 38 ((gS lhash δ first gs zs i).2) z2), (some b17, .cells (cel E8 (AesSpec.cipher AesSpec.fixKey)).toArray 215 (0, 0)), (some b1, .cells #[i64 (zs.length : Nat), .slice ga gs.length gc, .slice oa ol.length oc] 70 (0, 0)), (some b5, lO (δ))] | [true, true, true], [v9, v11, _] => ∃ (b225 : Nat) (b236 : Nat), v9 = .slice (ownA (some b225)) 3 3 ∧ v11 = pT b236 ∧ Sl ELb (some b225) ([lhash lb (sv + (1#64)), lhash (lx lb δ) (sv + (1#64)), la] : List LbT) 3 ([]) ∧ Hp No w w' [(some b236, lO (lsum ([lhash lb (sv + (1#64)), lhash (lx lb δ) (sv + (1#64)), la] : List LbT))), ((some b225), sob ELb 38 ([lhash lb (sv + (1#64)), lhash (lx lb δ) (sv + (1#64)), la] : List LbT) ([])), (some b187, lO (tx)), ((some b176), sob ELb 38 ([lhash la sv, lhash (lx la δ) sv, lw (col lb) δ] : List LbT) ([])), (some b132, lO (lhash lb (sv + (1#64)))), (some b122, lO (lhash la sv)), (some b114, lO (lb)), (some b46, lO (la)), (some b39, .cells #[i64 (((gs).getD i g0).k), i64 (((gs).getD i g0).a), i64 (((gs).getD i g0).b)] 99 (0, 0)), (k1, sob ELb 38 ((gS lhash δ first gs zs i).1) z1), (k2, sob ELb 38 ((gS lhash δ first gs zs i).2) z2), (some b17, .cells (cel E8 (AesSpec.cipher AesSpec.fixKey)).toArray 215 (0, 0)), (some b1, .cells #[i64 (zs.length : Nat), .slice ga gs.length gc, .slice oa ol.length oc] 70 (0, 0)), (some b5, lO (δ))] | _, _ => False) mixed (by kernel_rfl) (by kernel_rfl) H223.drew ?_
     refine WalkE.look rfl (fun _ => lV (lhash lb (sv + (1#64)))) (fun _ _ _ => rfl) (fun L r uw0 uw hAn hDn hF hEx => ?_) ?_
     ·skip
      have b9 := hDn 9 (by decide) rfl
      have b12 := hDn 12 (by decide) rfl
      rcases bTF (L 11) with b11 | b11
      ·skip
       have hb := mp3 b9 b11 b12
       rw [hb] at hF
       obtain ⟨b231, e11, HH⟩ := hF
       replace HH := HH.ext hEx
       exact Gives.run rfl (r_loadA (cs' := (cel E64 ([(lhash lb (sv + (1#64))).1, (lhash lb (sv + (1#64))).2])).toArray) agg38 siz38 (HH.get (k := 3) rfl) (off := 0) rfl (by exact bLe rfl) (by exact ext_all rfl)) ⟨rfl, rfl⟩
      ·skip
       have hb := mp3 b9 b11 b12
       rw [hb] at hF
       have HH := hF
       replace HH := HH.ext hEx
       exact Gives.run rfl (r_loadA (cs' := (cel E64 ([(lhash lb (sv + (1#64))).1, (lhash lb (sv + (1#64))).2])).toArray) agg38 siz38 (HH.get (k := 2) rfl) (off := 0) rfl (by exact bLe rfl) (by exact ext_all rfl)) ⟨rfl, rfl⟩
     refine WalkE.look rfl (fun _ => pT b17) (fun _ _ _ => rfl) (fun L r _ uw _ _ _ _ => Gives.run rfl (r_move (v := pT b17) rfl) ⟨rfl, rfl⟩) ?_
     refine WalkE.look rfl (fun _ => lV (lb)) (fun _ _ _ => rfl) (fun L r uw0 uw hAn hDn hF hEx => ?_) ?_
     ·skip
      have b9 := hDn 9 (by decide) rfl
      have b12 := hDn 12 (by decide) rfl
      rcases bTF (L 11) with b11 | b11
      ·skip
       have hb := mp3 b9 b11 b12
       rw [hb] at hF
       obtain ⟨b231, e11, HH⟩ := hF
       replace HH := HH.ext hEx
       exact Gives.run rfl (r_loadA (cs' := (cel E64 ([(lb).1, (lb).2])).toArray) agg38 siz38 (HH.get (k := 5) rfl) (off := 0) rfl (by exact bLe rfl) (by exact ext_all rfl)) ⟨rfl, rfl⟩
      ·skip
       have hb := mp3 b9 b11 b12
       rw [hb] at hF
       have HH := hF
       replace HH := HH.ext hEx
       exact Gives.run rfl (r_loadA (cs' := (cel E64 ([(lb).1, (lb).2])).toArray) agg38 siz38 (HH.get (k := 4) rfl) (off := 0) rfl (by exact bLe rfl) (by exact ext_all rfl)) ⟨rfl, rfl⟩
     refine WalkE.look rfl (fun _ => lV (δ)) (fun _ _ _ => rfl) (fun L r uw0 uw hAn hDn hF hEx => ?_) ?_
     ·skip
      have b9 := hDn 9 (by decide) rfl
      have b12 := hDn 12 (by decide) rfl
      rcases bTF (L 11) with b11 | b11
      ·skip
       have hb := mp3 b9 b11 b12
       rw [hb] at hF
       obtain ⟨b231, e11, HH⟩ := hF
       replace HH := HH.ext hEx
       exact Gives.run rfl (r_loadA (cs' := (cel E64 ([(δ).1, (δ).2])).toArray) agg38 siz38 (HH.get (k := 12) rfl) (off := 0) rfl (by exact bLe rfl) (by exact ext_all rfl)) ⟨rfl, rfl⟩
      ·skip
       have hb := mp3 b9 b11 b12
       rw [hb] at hF
       have HH := hF
       replace HH := HH.ext hEx
       exact Gives.run rfl (r_loadA (cs' := (cel E64 ([(δ).1, (δ).2])).toArray) agg38 siz38 (HH.get (k := 11) rfl) (off := 0) rfl (by exact bLe rfl) (by exact ext_all rfl)) ⟨rfl, rfl⟩
     refine WalkE.call rfl (fun _ => .agg (cel E64 [(lx lb δ).1, (lx lb δ).2]).toArray) (fun _ _ _ => rfl) (fun L r uw0 uw hAn hDn hF hEx => ?_) ?_
     ·skip
      have b9 := hDn 9 (by decide) rfl
      have b12 := hDn 12 (by decide) rfl
      rcases bTF (L 11) with b11 | b11
      ·skip
       have hb := mp3 b9 b11 b12
       rw [hb] at hF
       obtain ⟨b231, e11, HH⟩ := hF
       replace HH := HH.ext hEx
       exact Gives.call rfl (Enters.callL (vs := [lV (lb), lV (δ)]) call86 rfl) (lxor_ok lb δ uw)
      ·skip
       have hb := mp3 b9 b11 b12
       rw [hb] at hF
       have HH := hF
       replace HH := HH.ext hEx
       exact Gives.call rfl (Enters.callL (vs := [lV (lb), lV (δ)]) call86 rfl) (lxor_ok lb δ uw)
     refine WalkE.look rfl (fun _ => u64 (sv)) (fun _ _ _ => rfl) (fun L r _ uw _ _ _ _ => Gives.run rfl (r_move (v := u64 (sv)) rfl) ⟨rfl, rfl⟩) ?_
     refine WalkE.look rfl (fun _ => u64 (sv + (1#64))) (fun _ _ _ => rfl) (fun L r _ uw _ _ _ _ => Gives.run rfl (r_add64 (a := sv) (b := 1#64) rfl rfl) ⟨rfl, rfl⟩) ?_
     refine WalkE.call rfl (fun _ => .agg (cel E64 [(lhash (lx lb δ) (sv + (1#64))).1, (lhash (lx lb δ) (sv + (1#64))).2]).toArray) (fun _ _ _ => rfl) (fun L r uw0 uw hAn hDn hF hEx => ?_) ?_
     ·skip
      have b9 := hDn 9 (by decide) rfl
      have b12 := hDn 12 (by decide) rfl
      rcases bTF (L 11) with b11 | b11
      ·skip
       have hb := mp3 b9 b11 b12
       rw [hb] at hF
       obtain ⟨b231, e11, HH⟩ := hF
       replace HH := HH.ext hEx
       exact Gives.call rfl (Enters.callL (vs := [pT b17, .agg (cel E64 [(lx lb δ).1, (lx lb δ).2]).toArray, u64 (sv + (1#64))]) call87 rfl) (lhash_ok b17 (lx lb δ) (sv + (1#64)) uw (HH.get (k := 10) rfl))
      ·skip
       have hb := mp3 b9 b11 b12
       rw [hb] at hF
       have HH := hF
       replace HH := HH.ext hEx
       exact Gives.call rfl (Enters.callL (vs := [pT b17, .agg (cel E64 [(lx lb δ).1, (lx lb δ).2]).toArray, u64 (sv + (1#64))]) call87 rfl) (lhash_ok b17 (lx lb δ) (sv + (1#64)) uw (HH.get (k := 9) rfl))
     refine WalkE.look rfl (fun _ => lV (la)) (fun _ _ _ => rfl) (fun L r uw0 uw hAn hDn hF hEx => ?_) ?_
     ·skip
      have b9 := hDn 9 (by decide) rfl
      have b12 := hDn 12 (by decide) rfl
      rcases bTF (L 11) with b11 | b11
      ·skip
       have hb := mp3 b9 b11 b12
       rw [hb] at hF
       obtain ⟨b231, e11, HH⟩ := hF
       replace HH := HH.ext hEx
       exact Gives.run rfl (r_loadA (cs' := (cel E64 ([(la).1, (la).2])).toArray) agg38 siz38 (HH.get (k := 6) rfl) (off := 0) rfl (by exact bLe rfl) (by exact ext_all rfl)) ⟨rfl, rfl⟩
      ·skip
       have hb := mp3 b9 b11 b12
       rw [hb] at hF
       have HH := hF
       replace HH := HH.ext hEx
       exact Gives.run rfl (r_loadA (cs' := (cel E64 ([(la).1, (la).2])).toArray) agg38 siz38 (HH.get (k := 5) rfl) (off := 0) rfl (by exact bLe rfl) (by exact ext_all rfl)) ⟨rfl, rfl⟩
     refine WalkE.eff 0 rfl (fun L r uw0 uw hLn hAn hDn hF hEx => ?_) ?_
     ·skip
      have b9 : L 9 = false := hLn
      have b12 := hDn 12 (by decide) rfl
      rcases bTF (L 11) with b11 | b11
      ·skip
       have hb := mp3 b9 b11 b12
       rw [hb] at hF ⊢
       obtain ⟨b231, e11, H244⟩ := hF
       replace H244 := H244.ext hEx
       dsimp only
       refine Gives.ofW (d := 123) rfl rfl (fun Q' hK => ?_)
       refine q_buildSlice (E := ELb) (l := ([lhash lb (sv + (1#64)), lhash (lx lb δ) (sv + (1#64)), la] : List LbT)) H244 sli92 zer38 (bLe rfl) (ps := [(0, lV (lhash lb (sv + (1#64)))), (1, .agg (cel E64 [(lhash (lx lb δ) (sv + (1#64))).1, (lhash (lx lb δ) (sv + (1#64))).2]).toArray), (2, lV (la))]) rfl (by exact fillAll rfl rfl) rfl ?_
       intro b245 w247 hS246 H248 hE249
       exact hK _ _ (show ∃ (b225 : Nat) (b236 : Nat), (_ : Value) = .slice (ownA (some b225)) 3 3 ∧ r 11 = pT b236 ∧ Sl ELb (some b225) ([lhash lb (sv + (1#64)), lhash (lx lb δ) (sv + (1#64)), la] : List LbT) 3 ([]) ∧ Hp No w w247 [(some b236, .cells (cel E64 ([0#64, 0#64])).toArray 38 (0, 0)), ((some b225), sob ELb 38 ([lhash lb (sv + (1#64)), lhash (lx lb δ) (sv + (1#64)), la] : List LbT) ([])), (some b187, lO (tx)), ((some b176), sob ELb 38 ([lhash la sv, lhash (lx la δ) sv, lw (col lb) δ] : List LbT) ([])), (some b132, lO (lhash lb (sv + (1#64)))), (some b122, lO (lhash la sv)), (some b114, lO (lb)), (some b46, lO (la)), (some b39, .cells #[i64 (((gs).getD i g0).k), i64 (((gs).getD i g0).a), i64 (((gs).getD i g0).b)] 99 (0, 0)), (k1, sob ELb 38 ((gS lhash δ first gs zs i).1) z1), (k2, sob ELb 38 ((gS lhash δ first gs zs i).2) z2), (some b17, .cells (cel E8 (AesSpec.cipher AesSpec.fixKey)).toArray 215 (0, 0)), (some b1, .cells #[i64 (zs.length : Nat), .slice ga gs.length gc, .slice oa ol.length oc] 70 (0, 0)), (some b5, lO (δ))] from ⟨b245, b231, rfl, e11, hS246, ((((((((((((((H248.pull (k := 13) rfl).pull (k := 13) rfl).pull (k := 13) rfl).pull (k := 13) rfl).pull (k := 13) rfl).pull (k := 13) rfl).pull (k := 13) rfl).pull (k := 13) rfl).pull (k := 13) rfl).pull (k := 13) rfl).pull (k := 13) rfl).pull (k := 13) rfl).pull (k := 12) rfl).pull (k := 13) rfl)⟩)
      ·skip
       have hb := mp3 b9 b11 b12
       rw [hb] at hF ⊢
       have H250 := hF
       replace H250 := H250.ext hEx
       dsimp only
       refine Gives.ofW (d := 123) rfl rfl (fun Q' hK => ?_)
       refine q_buildSlice (E := ELb) (l := ([lhash lb (sv + (1#64)), lhash (lx lb δ) (sv + (1#64)), la] : List LbT)) H250 sli92 zer38 (bLe rfl) (ps := [(0, lV (lhash lb (sv + (1#64)))), (1, .agg (cel E64 [(lhash (lx lb δ) (sv + (1#64))).1, (lhash (lx lb δ) (sv + (1#64))).2]).toArray), (2, lV (la))]) rfl (by exact fillAll rfl rfl) rfl ?_
       intro b251 w253 hS252 H254 hE255
       exact hK _ _ (show ∃ (b225 : Nat), (_ : Value) = .slice (ownA (some b225)) 3 3 ∧ Sl ELb (some b225) ([lhash lb (sv + (1#64)), lhash (lx lb δ) (sv + (1#64)), la] : List LbT) 3 ([]) ∧ Hp No w w253 [((some b225), sob ELb 38 ([lhash lb (sv + (1#64)), lhash (lx lb δ) (sv + (1#64)), la] : List LbT) ([])), (some b187, lO (tx)), ((some b176), sob ELb 38 ([lhash la sv, lhash (lx la δ) sv, lw (col lb) δ] : List LbT) ([])), (some b132, lO (lhash lb (sv + (1#64)))), (some b122, lO (lhash la sv)), (some b114, lO (lb)), (some b46, lO (la)), (some b39, .cells #[i64 (((gs).getD i g0).k), i64 (((gs).getD i g0).a), i64 (((gs).getD i g0).b)] 99 (0, 0)), (k1, sob ELb 38 ((gS lhash δ first gs zs i).1) z1), (k2, sob ELb 38 ((gS lhash δ first gs zs i).2) z2), (some b17, .cells (cel E8 (AesSpec.cipher AesSpec.fixKey)).toArray 215 (0, 0)), (some b1, .cells #[i64 (zs.length : Nat), .slice ga gs.length gc, .slice oa ol.length oc] 70 (0, 0)), (some b5, lO (δ))] from ⟨b251, rfl, hS252, (((((((((((((H254.pull (k := 12) rfl).pull (k := 12) rfl).pull (k := 12) rfl).pull (k := 12) rfl).pull (k := 12) rfl).pull (k := 12) rfl).pull (k := 12) rfl).pull (k := 12) rfl).pull (k := 12) rfl).pull (k := 12) rfl).pull (k := 12) rfl).pull (k := 12) rfl).pull (k := 12) rfl)⟩)
     refine WalkE.call rfl (fun _ => .agg (cel E64 [(lsum ([lhash lb (sv + (1#64)), lhash (lx lb δ) (sv + (1#64)), la] : List LbT)).1, (lsum ([lhash lb (sv + (1#64)), lhash (lx lb δ) (sv + (1#64)), la] : List LbT)).2]).toArray) (fun _ _ _ => rfl) (fun L r uw0 uw hAn hDn hF hEx => ?_) ?_
     ·skip
      have b9 := hAn 9 (by decide) rfl
      have b12 := hDn 12 (by decide) rfl
      rcases bTF (L 11) with b11 | b11
      ·skip
       have hb := mp3 b9 b11 b12
       rw [hb] at hF
       obtain ⟨b225, b236, e9, e11, hS226, HH⟩ := hF
       replace HH := HH.ext hEx
       dsimp only
       rw [e9]
       exact Gives.call rfl (Enters.callL (vs := [.slice (ownA (some b225)) 3 3]) call88 rfl) (lsum_ok ([lhash lb (sv + (1#64)), lhash (lx lb δ) (sv + (1#64)), la] : List LbT) (ownA (some b225)) 3 3 (by rfl) (by simp) uw (HH.rd (k := 1) rfl hS226))
      ·skip
       have hb := mp3 b9 b11 b12
       rw [hb] at hF
       obtain ⟨b225, e9, hS226, HH⟩ := hF
       replace HH := HH.ext hEx
       dsimp only
       rw [e9]
       exact Gives.call rfl (Enters.callL (vs := [.slice (ownA (some b225)) 3 3]) call88 rfl) (lsum_ok ([lhash lb (sv + (1#64)), lhash (lx lb δ) (sv + (1#64)), la] : List LbT) (ownA (some b225)) 3 3 (by rfl) (by simp) uw (HH.rd (k := 0) rfl hS226))
     refine WalkE.eff 1 rfl (fun L r uw0 uw hLn hAn hDn hF hEx => ?_) ?_
     ·skip
      have b11 : L 11 = false := hLn
      have b12 := hDn 12 (by decide) rfl
      rcases bTF (L 9) with b9 | b9
      ·skip
       have hb := mp3 b9 b11 b12
       rw [hb] at hF ⊢
       obtain ⟨b225, e9, hS226, H256⟩ := hF
       replace H256 := H256.ext hEx
       dsimp only
       rw [e9]
       refine Gives.ofW (d := 23) rfl rfl (fun Q' hK => ?_)
       refine q_alloc (o := .cells (cel E64 ([0#64, 0#64])).toArray 38 (0, 0)) H256 zer38 (by kernel_rfl) ?_
       intro b257 w258 hb257 H259 hE260
       exact hK _ _ (show ∃ (b225 : Nat) (b236 : Nat), r 9 = .slice (ownA (some b225)) 3 3 ∧ (_ : Value) = pT b236 ∧ Sl ELb (some b225) ([lhash lb (sv + (1#64)), lhash (lx lb δ) (sv + (1#64)), la] : List LbT) 3 ([]) ∧ Hp No w w258 [(some b236, .cells (cel E64 ([0#64, 0#64])).toArray 38 (0, 0)), ((some b225), sob ELb 38 ([lhash lb (sv + (1#64)), lhash (lx lb δ) (sv + (1#64)), la] : List LbT) ([])), (some b187, lO (tx)), ((some b176), sob ELb 38 ([lhash la sv, lhash (lx la δ) sv, lw (col lb) δ] : List LbT) ([])), (some b132, lO (lhash lb (sv + (1#64)))), (some b122, lO (lhash la sv)), (some b114, lO (lb)), (some b46, lO (la)), (some b39, .cells #[i64 (((gs).getD i g0).k), i64 (((gs).getD i g0).a), i64 (((gs).getD i g0).b)] 99 (0, 0)), (k1, sob ELb 38 ((gS lhash δ first gs zs i).1) z1), (k2, sob ELb 38 ((gS lhash δ first gs zs i).2) z2), (some b17, .cells (cel E8 (AesSpec.cipher AesSpec.fixKey)).toArray 215 (0, 0)), (some b1, .cells #[i64 (zs.length : Nat), .slice ga gs.length gc, .slice oa ol.length oc] 70 (0, 0)), (some b5, lO (δ))] from ⟨b225, b257, e9, rfl, hS226, ((((((((((((((H259.pull (k := 13) rfl).pull (k := 13) rfl).pull (k := 13) rfl).pull (k := 13) rfl).pull (k := 13) rfl).pull (k := 13) rfl).pull (k := 13) rfl).pull (k := 13) rfl).pull (k := 13) rfl).pull (k := 13) rfl).pull (k := 13) rfl).pull (k := 13) rfl).pull (k := 13) rfl).pull (k := 13) rfl)⟩)
      ·skip
       have hb := mp3 b9 b11 b12
       rw [hb] at hF ⊢
       have H261 := hF
       replace H261 := H261.ext hEx
       dsimp only
       refine Gives.ofW (d := 23) rfl rfl (fun Q' hK => ?_)
       refine q_alloc (o := .cells (cel E64 ([0#64, 0#64])).toArray 38 (0, 0)) H261 zer38 (by kernel_rfl) ?_
       intro b262 w263 hb262 H264 hE265
       exact hK _ _ (show ∃ (b231 : Nat), (_ : Value) = pT b231 ∧ Hp No w w263 [(some b231, .cells (cel E64 ([0#64, 0#64])).toArray 38 (0, 0)), (some b187, lO (tx)), ((some b176), sob ELb 38 ([lhash la sv, lhash (lx la δ) sv, lw (col lb) δ] : List LbT) ([])), (some b132, lO (lhash lb (sv + (1#64)))), (some b122, lO (lhash la sv)), (some b114, lO (lb)), (some b46, lO (la)), (some b39, .cells #[i64 (((gs).getD i g0).k), i64 (((gs).getD i g0).a), i64 (((gs).getD i g0).b)] 99 (0, 0)), (k1, sob ELb 38 ((gS lhash δ first gs zs i).1) z1), (k2, sob ELb 38 ((gS lhash δ first gs zs i).2) z2), (some b17, .cells (cel E8 (AesSpec.cipher AesSpec.fixKey)).toArray 215 (0, 0)), (some b1, .cells #[i64 (zs.length : Nat), .slice ga gs.length gc, .slice oa ol.length oc] 70 (0, 0)), (some b5, lO (δ))] from ⟨b262, rfl, (((((((((((((H264.pull (k := 12) rfl).pull (k := 12) rfl).pull (k := 12) rfl).pull (k := 12) rfl).pull (k := 12) rfl).pull (k := 12) rfl).pull (k := 12) rfl).pull (k := 12) rfl).pull (k := 12) rfl).pull (k := 12) rfl).pull (k := 12) rfl).pull (k := 12) rfl).pull (k := 12) rfl)⟩)
     refine WalkE.eff 2 rfl (fun L r uw0 uw hLn hAn hDn hF hEx => ?_) ?_
     ·skip
      have b9 := hAn 9 (by decide) rfl
      have b11 := hAn 11 (by decide) rfl
      have b12 : L 12 = false := hLn
      have hb := mp3 b9 b11 b12
      rw [hb] at hF ⊢
      obtain ⟨b225, b236, e9, e11, hS226, H266⟩ := hF
      replace H266 := H266.ext hEx
      dsimp only
      rw [e9, e11]
      refine Gives.ofW0 rfl (fun Q' hK => ?_)
      refine d_store (k := 0) (v := .agg (cel E64 [(lsum ([lhash lb (sv + (1#64)), lhash (lx lb δ) (sv + (1#64)), la] : List LbT)).1, (lsum ([lhash lb (sv + (1#64)), lhash (lx lb δ) (sv + (1#64)), la] : List LbT)).2]).toArray) (cs' := (cel E64 ([(lsum ([lhash lb (sv + (1#64)), lhash (lx lb δ) (sv + (1#64)), la] : List LbT)).1, (lsum ([lhash lb (sv + (1#64)), lhash (lx lb δ) (sv + (1#64)), la] : List LbT)).2])).toArray) H266 rfl rfl rfl siz38 (by exact celSize (by first | rfl | (show _ * 1 = _; omega))) (by exact celOne _) (by rw [List.size_toArray, cel_length]; show _ ≤ _ * 1; first | omega | (simp only [List.length_set]; omega) | exact bLe rfl | (simp <;> omega)) (by exact putAll (by first | rfl | omega | (simp <;> omega))) ?_
      intro w267 H268 hC269
      have H268' := H268.as (L' := [(some b236, lO (lsum ([lhash lb (sv + (1#64)), lhash (lx lb δ) (sv + (1#64)), la] : List LbT))), ((some b225), sob ELb 38 ([lhash lb (sv + (1#64)), lhash (lx lb δ) (sv + (1#64)), la] : List LbT) ([])), (some b187, lO (tx)), ((some b176), sob ELb 38 ([lhash la sv, lhash (lx la δ) sv, lw (col lb) δ] : List LbT) ([])), (some b132, lO (lhash lb (sv + (1#64)))), (some b122, lO (lhash la sv)), (some b114, lO (lb)), (some b46, lO (la)), (some b39, .cells #[i64 (((gs).getD i g0).k), i64 (((gs).getD i g0).a), i64 (((gs).getD i g0).b)] 99 (0, 0)), (k1, sob ELb 38 ((gS lhash δ first gs zs i).1) z1), (k2, sob ELb 38 ((gS lhash δ first gs zs i).2) z2), (some b17, .cells (cel E8 (AesSpec.cipher AesSpec.fixKey)).toArray 215 (0, 0)), (some b1, .cells #[i64 (zs.length : Nat), .slice ga gs.length gc, .slice oa ol.length oc] 70 (0, 0)), (some b5, lO (δ))]) rfl
      clear H268
      exact hK _ (fun _ => (show ∃ (b225 : Nat) (b236 : Nat), r 9 = .slice (ownA (some b225)) 3 3 ∧ r 11 = pT b236 ∧ Sl ELb (some b225) ([lhash lb (sv + (1#64)), lhash (lx lb δ) (sv + (1#64)), la] : List LbT) 3 ([]) ∧ Hp No w w267 [(some b236, lO (lsum ([lhash lb (sv + (1#64)), lhash (lx lb δ) (sv + (1#64)), la] : List LbT))), ((some b225), sob ELb 38 ([lhash lb (sv + (1#64)), lhash (lx lb δ) (sv + (1#64)), la] : List LbT) ([])), (some b187, lO (tx)), ((some b176), sob ELb 38 ([lhash la sv, lhash (lx la δ) sv, lw (col lb) δ] : List LbT) ([])), (some b132, lO (lhash lb (sv + (1#64)))), (some b122, lO (lhash la sv)), (some b114, lO (lb)), (some b46, lO (la)), (some b39, .cells #[i64 (((gs).getD i g0).k), i64 (((gs).getD i g0).a), i64 (((gs).getD i g0).b)] 99 (0, 0)), (k1, sob ELb 38 ((gS lhash δ first gs zs i).1) z1), (k2, sob ELb 38 ((gS lhash δ first gs zs i).2) z2), (some b17, .cells (cel E8 (AesSpec.cipher AesSpec.fixKey)).toArray 215 (0, 0)), (some b1, .cells #[i64 (zs.length : Nat), .slice ga gs.length gc, .slice oa ol.length oc] 70 (0, 0)), (some b5, lO (δ))] from ⟨b225, b236, e9, e11, hS226, ((((((((((((((H268'.pull (k := 13) rfl).pull (k := 13) rfl).pull (k := 13) rfl).pull (k := 13) rfl).pull (k := 13) rfl).pull (k := 13) rfl).pull (k := 13) rfl).pull (k := 13) rfl).pull (k := 13) rfl).pull (k := 13) rfl).pull (k := 13) rfl).pull (k := 13) rfl).pull (k := 13) rfl).pull (k := 13) rfl)⟩))
     refine WalkE.nil ?_
     intro r270 uw0 w271 hF hEx
     obtain ⟨b225, b236, e9, e11, hS226, H272⟩ := hF
     replace H272 := H272.ext hEx
     dsimp only
     rw [e9, e11]
     obtain ⟨ty, hty⟩ : ∃ x : Lb, x = tabY lhash δ la lb sv := ⟨_, rfl⟩
     rw [show (lsum ([lhash lb (sv + (1#64)), lhash (lx lb δ) (sv + (1#64)), la] : List LbT) : Lb) = ty from hty.symm] at H272
     refine wnil ?_
     refine thenNormal ?_
     refine sR ?_
     refine sM (.slice (ownA k2) ((gS lhash δ first gs zs i).2.length) c2) rfl ?_
     refine sq (r_loadA (cs' := (cel E64 ([(tx).1, (tx).2])).toArray) agg38 siz38 (H272.get (k := 2) rfl) (off := 0) rfl (by exact bLe rfl) (by exact ext_all rfl)) ?_
     refine sq (r_loadA (cs' := (cel E64 ([(ty).1, (ty).2])).toArray) agg38 siz38 (H272.get (k := 0) rfl) (off := 0) rfl (by exact bLe rfl) (by exact ext_all rfl)) ?_
     refine q_buildSlice (E := ELb) (l := ([tx, ty] : List LbT)) H272 sli92 zer38 (bLe rfl) (ps := [(0, lV (tx)), (1, lV (ty))]) rfl (by exact fillAll rfl rfl) rfl ?_
     intro b273 w275 hS274 H276 hE277
     refine q_append (E := ELb) (k := 11) (l := (gS lhash δ first gs zs i).2) (l2 := ([tx, ty] : List LbT)) H276 rfl h2 sli92 zer38 rfl byt38 (H276.rd (k := 0) rfl hS274) rfl (by rfl) rfl (by rfl) (by omega) ?_
     intro key278 c279 sp280 w282 hS281 hne284 H283
     have H283' := H283.as (L' := [((some b273), sob ELb 38 ([tx, ty] : List LbT) ([])), (some b236, lO (ty)), ((some b225), sob ELb 38 ([lhash lb (sv + (1#64)), lhash (lx lb δ) (sv + (1#64)), la] : List LbT) ([])), (some b187, lO (tx)), ((some b176), sob ELb 38 ([lhash la sv, lhash (lx la δ) sv, lw (col lb) δ] : List LbT) ([])), (some b132, lO (lhash lb (sv + (1#64)))), (some b122, lO (lhash la sv)), (some b114, lO (lb)), (some b46, lO (la)), (some b39, .cells #[i64 (((gs).getD i g0).k), i64 (((gs).getD i g0).a), i64 (((gs).getD i g0).b)] 99 (0, 0)), (k1, sob ELb 38 ((gS lhash δ first gs zs i).1) z1), (key278, sob ELb 38 (((gS lhash δ first gs zs i).2) ++ ([tx, ty] : List LbT)) sp280), (some b17, .cells (cel E8 (AesSpec.cipher AesSpec.fixKey)).toArray 215 (0, 0)), (some b1, .cells #[i64 (zs.length : Nat), .slice ga gs.length gc, .slice oa ol.length oc] 70 (0, 0)), (some b5, lO (δ))]) rfl
     clear H283
     have e285 : ((gS lhash δ first gs zs i).2) ++ ([tx, ty] : List LbT) = (gS lhash δ first gs zs (i + 1)).2 := by rw [gS, gstep, if_neg hn3, if_neg hn1, htx, hty, hsv, hla, hlb]
     have hS286 := hS281
     rw [e285] at hS286
     have H287 := H283'.as (L' := [((some b273), sob ELb 38 ([tx, ty] : List LbT) ([])), (some b236, lO (ty)), ((some b225), sob ELb 38 ([lhash lb (sv + (1#64)), lhash (lx lb δ) (sv + (1#64)), la] : List LbT) ([])), (some b187, lO (tx)), ((some b176), sob ELb 38 ([lhash la sv, lhash (lx la δ) sv, lw (col lb) δ] : List LbT) ([])), (some b132, lO (lhash lb (sv + (1#64)))), (some b122, lO (lhash la sv)), (some b114, lO (lb)), (some b46, lO (la)), (some b39, .cells #[i64 (((gs).getD i g0).k), i64 (((gs).getD i g0).a), i64 (((gs).getD i g0).b)] 99 (0, 0)), (k1, sob ELb 38 ((gS lhash δ first gs zs i).1) z1), (key278, sob ELb 38 ((gS lhash δ first gs zs (i + 1)).2) sp280), (some b17, .cells (cel E8 (AesSpec.cipher AesSpec.fixKey)).toArray 215 (0, 0)), (some b1, .cells #[i64 (zs.length : Nat), .slice ga gs.length gc, .slice oa ol.length oc] 70 (0, 0)), (some b5, lO (δ))]) (by rw [e285])
     refine sA (.slice (ownA key278) (((gS lhash δ first gs zs i).2.length) + 2) c279) rfl ?_
     refine wend ?_
     refine drawE (m := 18) [0, 0, 0, 4, 0, 28, 0, 0, 188, 0, 0, 1980, 4028, 8190, 16382, 32766, 65535, 131071] [13, 15, 16] (fun bs vs w' => match bs, vs with | [false, false, false], [_, _, _] => Hp No w w' [((some b273), sob ELb 38 ([tx, ty] : List LbT) ([])), (some b236, lO (ty)), ((some b225), sob ELb 38 ([lhash lb (sv + (1#64)), lhash (lx lb δ) (sv + (1#64)), la] : List LbT) ([])), (some b187, lO (tx)), ((some b176), sob ELb 38 ([lhash la sv, lhash (lx la δ) sv, lw (col lb) δ] : List LbT) ([])), (some b132, lO (lhash lb (sv + (1#64)))), (some b122, lO (lhash la sv)), (some b114, lO (lb)), (some b46, lO (la)), (some b39, .cells #[i64 (((gs).getD i g0).k), i64 (((gs).getD i g0).a), i64 (((gs).getD i g0).b)] 99 (0, 0)), (k1, sob ELb 38 ((gS lhash δ first gs zs i).1) z1), (key278, sob ELb 38 ((gS lhash δ first gs zs (i + 1)).2) sp280), (some b17, .cells (cel E8 (AesSpec.cipher AesSpec.fixKey)).toArray 215 (0, 0)), (some b1, .cells #[i64 (zs.length : Nat), .slice ga gs.length gc, .slice oa ol.length oc] 70 (0, 0)), (some b5, lO (δ))] | [true, false, false], [v13, _, _] => ∃ (b289 : Nat), v13 = .slice (ownA (some b289)) 4 4 ∧ Sl ELb (some b289) ([lhash la sv, lw (col la) tx, lhash lb (sv + (1#64)), lw (col lb) (lx ty la)] : List LbT) 4 ([]) ∧ Hp No w w' [((some b289), sob ELb 38 ([lhash la sv, lw (col la) tx, lhash lb (sv + (1#64)), lw (col lb) (lx ty la)] : List LbT) ([])), ((some b273), sob ELb 38 ([tx, ty] : List LbT) ([])), (some b236, lO (ty)), ((some b225), sob ELb 38 ([lhash lb (sv + (1#64)), lhash (lx lb δ) (sv + (1#64)), la] : List LbT) ([])), (some b187, lO (tx)), ((some b176), sob ELb 38 ([lhash la sv, lhash (lx la δ) sv, lw (col lb) δ] : List LbT) ([])), (some b132, lO (lhash lb (sv + (1#64)))), (some b122, lO (lhash la sv)), (some b114, lO (lb)), (some b46, lO (la)), (some b39, .cells #[i64 (((gs).getD i g0).k), i64 (((gs).getD i g0).a), i64 (((gs).getD i g0).b)] 99 (0, 0)), (k1, sob ELb 38 ((gS lhash δ first gs zs i).1) z1), (key278, sob ELb 38 ((gS lhash δ first gs zs (i + 1)).2) sp280), (some b17, .cells (cel E8 (AesSpec.cipher AesSpec.fixKey)).toArray 215 (0, 0)), (some b1, .cells #[i64 (zs.length : Nat), .slice ga gs.length gc, .slice oa ol.length oc] 70 (0, 0)), (some b5, lO (δ))] | [true, true, false], [v13, v15, _] => ∃ (b289 : Nat) (b295 : Nat), v13 = .slice (ownA (some b289)) 4 4 ∧ v15 = .slice (ownA (some b295)) 1 1 ∧ Sl ELb (some b295) ([lsum ([lhash la sv, lw (col la) tx, lhash lb (sv + (1#64)), lw (col lb) (lx ty la)] : List LbT)] : List LbT) 1 ([]) ∧ Sl ELb (some b289) ([lhash la sv, lw (col la) tx, lhash lb (sv + (1#64)), lw (col lb) (lx ty la)] : List LbT) 4 ([]) ∧ Hp No w w' [((some b295), sob ELb 38 ([lsum ([lhash la sv, lw (col la) tx, lhash lb (sv + (1#64)), lw (col lb) (lx ty la)] : List LbT)] : List LbT) ([])), ((some b289), sob ELb 38 ([lhash la sv, lw (col la) tx, lhash lb (sv + (1#64)), lw (col lb) (lx ty la)] : List LbT) ([])), ((some b273), sob ELb 38 ([tx, ty] : List LbT) ([])), (some b236, lO (ty)), ((some b225), sob ELb 38 ([lhash lb (sv + (1#64)), lhash (lx lb δ) (sv + (1#64)), la] : List LbT) ([])), (some b187, lO (tx)), ((some b176), sob ELb 38 ([lhash la sv, lhash (lx la δ) sv, lw (col lb) δ] : List LbT) ([])), (some b132, lO (lhash lb (sv + (1#64)))), (some b122, lO (lhash la sv)), (some b114, lO (lb)), (some b46, lO (la)), (some b39, .cells #[i64 (((gs).getD i g0).k), i64 (((gs).getD i g0).a), i64 (((gs).getD i g0).b)] 99 (0, 0)), (k1, sob ELb 38 ((gS lhash δ first gs zs i).1) z1), (key278, sob ELb 38 ((gS lhash δ first gs zs (i + 1)).2) sp280), (some b17, .cells (cel E8 (AesSpec.cipher AesSpec.fixKey)).toArray 215 (0, 0)), (some b1, .cells #[i64 (zs.length : Nat), .slice ga gs.length gc, .slice oa ol.length oc] 70 (0, 0)), (some b5, lO (δ))] | [true, true, true], [v13, v15, v16] => ∃ (b289 : Nat) (b295 : Nat) (key301 : Option Nat) (c302 : Nat) (sp303 : List Value), v13 = .slice (ownA (some b289)) 4 4 ∧ v15 = .slice (ownA (some b295)) 1 1 ∧ v16 = .slice (ownA key301) ((zs.length + i) + 1) c302 ∧ Sl ELb (some b295) ([lsum ([lhash la sv, lw (col la) tx, lhash lb (sv + (1#64)), lw (col lb) (lx ty la)] : List LbT)] : List LbT) 1 ([]) ∧ Sl ELb (some b289) ([lhash la sv, lw (col la) tx, lhash lb (sv + (1#64)), lw (col lb) (lx ty la)] : List LbT) 4 ([]) ∧ Sl ELb key301 ((gS lhash δ first gs zs (i + 1)).1) c302 sp303 ∧ Hp No w w' [((some b295), sob ELb 38 ([lsum ([lhash la sv, lw (col la) tx, lhash lb (sv + (1#64)), lw (col lb) (lx ty la)] : List LbT)] : List LbT) ([])), ((some b289), sob ELb 38 ([lhash la sv, lw (col la) tx, lhash lb (sv + (1#64)), lw (col lb) (lx ty la)] : List LbT) ([])), ((some b273), sob ELb 38 ([tx, ty] : List LbT) ([])), (some b236, lO (ty)), ((some b225), sob ELb 38 ([lhash lb (sv + (1#64)), lhash (lx lb δ) (sv + (1#64)), la] : List LbT) ([])), (some b187, lO (tx)), ((some b176), sob ELb 38 ([lhash la sv, lhash (lx la δ) sv, lw (col lb) δ] : List LbT) ([])), (some b132, lO (lhash lb (sv + (1#64)))), (some b122, lO (lhash la sv)), (some b114, lO (lb)), (some b46, lO (la)), (some b39, .cells #[i64 (((gs).getD i g0).k), i64 (((gs).getD i g0).a), i64 (((gs).getD i g0).b)] 99 (0, 0)), (key301, sob ELb 38 ((gS lhash δ first gs zs (i + 1)).1) sp303), (key278, sob ELb 38 ((gS lhash δ first gs zs (i + 1)).2) sp280), (some b17, .cells (cel E8 (AesSpec.cipher AesSpec.fixKey)).toArray 215 (0, 0)), (some b1, .cells #[i64 (zs.length : Nat), .slice ga gs.length gc, .slice oa ol.length oc] 70 (0, 0)), (some b5, lO (δ))] | _, _ => False) mixed (by kernel_rfl) (by kernel_rfl) H287.drew ?_
     refine WalkE.look rfl (fun _ => .slice (ownA k1) (zs.length + i) c1) (fun _ _ _ => rfl) (fun L r _ uw _ _ _ _ => Gives.run rfl (r_move (v := .slice (ownA k1) (zs.length + i) c1) rfl) ⟨rfl, rfl⟩) ?_
     refine WalkE.look rfl (fun _ => lV (lhash la sv)) (fun _ _ _ => rfl) (fun L r uw0 uw hAn hDn hF hEx => ?_) ?_
     ·skip
      have b13 := hDn 13 (by decide) rfl
      have b15 := hDn 15 (by decide) rfl
      have b16 := hDn 16 (by decide) rfl
      have hb := mp3 b13 b15 b16
      rw [hb] at hF
      have HH := hF
      replace HH := HH.ext hEx
      exact Gives.run rfl (r_loadA (cs' := (cel E64 ([(lhash la sv).1, (lhash la sv).2])).toArray) agg38 siz38 (HH.get (k := 6) rfl) (off := 0) rfl (by exact bLe rfl) (by exact ext_all rfl)) ⟨rfl, rfl⟩
     refine WalkE.look rfl (fun _ => lV (la)) (fun _ _ _ => rfl) (fun L r uw0 uw hAn hDn hF hEx => ?_) ?_
     ·skip
      have b13 := hDn 13 (by decide) rfl
      have b15 := hDn 15 (by decide) rfl
      have b16 := hDn 16 (by decide) rfl
      have hb := mp3 b13 b15 b16
      rw [hb] at hF
      have HH := hF
      replace HH := HH.ext hEx
      exact Gives.run rfl (r_loadA (cs' := (cel E64 ([(la).1, (la).2])).toArray) agg38 siz38 (HH.get (k := 8) rfl) (off := 0) rfl (by exact bLe rfl) (by exact ext_all rfl)) ⟨rfl, rfl⟩
     refine WalkE.call rfl (fun _ => .bool (col la)) (fun _ _ _ => rfl) (fun L r uw0 uw hAn hDn hF hEx => ?_) ?_
     ·skip
      have b13 := hDn 13 (by decide) rfl
      have b15 := hDn 15 (by decide) rfl
      have b16 := hDn 16 (by decide) rfl
      have hb := mp3 b13 b15 b16
      rw [hb] at hF
      have HH := hF
      replace HH := HH.ext hEx
      exact Gives.call rfl (Enters.callL (vs := [lV (la)]) call84 rfl) (col_ok la uw)
     refine WalkE.look rfl (fun _ => lV (tx)) (fun _ _ _ => rfl) (fun L r uw0 uw hAn hDn hF hEx => ?_) ?_
     ·skip
      have b13 := hDn 13 (by decide) rfl
      have b15 := hDn 15 (by decide) rfl
      have b16 := hDn 16 (by decide) rfl
      have hb := mp3 b13 b15 b16
      rw [hb] at hF
      have HH := hF
      replace HH := HH.ext hEx
      exact Gives.run rfl (r_loadA (cs' := (cel E64 ([(tx).1, (tx).2])).toArray) agg38 siz38 (HH.get (k := 3) rfl) (off := 0) rfl (by exact bLe rfl) (by exact ext_all rfl)) ⟨rfl, rfl⟩
     refine WalkE.call rfl (fun _ => .agg (cel E64 [(lw (col la) tx).1, (lw (col la) tx).2]).toArray) (fun _ _ _ => rfl) (fun L r uw0 uw hAn hDn hF hEx => ?_) ?_
     ·skip
      have b13 := hDn 13 (by decide) rfl
      have b15 := hDn 15 (by decide) rfl
      have b16 := hDn 16 (by decide) rfl
      have hb := mp3 b13 b15 b16
      rw [hb] at hF
      have HH := hF
      replace HH := HH.ext hEx
      exact Gives.call rfl (Enters.callL (vs := [.bool (col la), lV (tx)]) call89 rfl) (lw_ok (col la) tx uw)
     refine WalkE.look rfl (fun _ => lV (lhash lb (sv + (1#64)))) (fun _ _ _ => rfl) (fun L r uw0 uw hAn hDn hF hEx => ?_) ?_
     ·skip
      have b13 := hDn 13 (by decide) rfl
      have b15 := hDn 15 (by decide) rfl
      have b16 := hDn 16 (by decide) rfl
      have hb := mp3 b13 b15 b16
      rw [hb] at hF
      have HH := hF
      replace HH := HH.ext hEx
      exact Gives.run rfl (r_loadA (cs' := (cel E64 ([(lhash lb (sv + (1#64))).1, (lhash lb (sv + (1#64))).2])).toArray) agg38 siz38 (HH.get (k := 5) rfl) (off := 0) rfl (by exact bLe rfl) (by exact ext_all rfl)) ⟨rfl, rfl⟩
     refine WalkE.look rfl (fun _ => lV (lb)) (fun _ _ _ => rfl) (fun L r uw0 uw hAn hDn hF hEx => ?_) ?_
     ·skip
      have b13 := hDn 13 (by decide) rfl
      have b15 := hDn 15 (by decide) rfl
      have b16 := hDn 16 (by decide) rfl
      have hb := mp3 b13 b15 b16
      rw [hb] at hF
      have HH := hF
      replace HH := HH.ext hEx
      exact Gives.run rfl (r_loadA (cs' := (cel E64 ([(lb).1, (lb).2])).toArray) agg38 siz38 (HH.get (k := 7) rfl) (off := 0) rfl (by exact bLe rfl) (by exact ext_all rfl)) ⟨rfl, rfl⟩
     refine WalkE.call rfl (fun _ => .bool (col lb)) (fun _ _ _ => rfl) (fun L r uw0 uw hAn hDn hF hEx => ?_) ?_
     ·skip
      have b13 := hDn 13 (by decide) rfl
      have b15 := hDn 15 (by decide) rfl
      have b16 := hDn 16 (by decide) rfl
      have hb := mp3 b13 b15 b16
      rw [hb] at hF
      have HH := hF
      replace HH := HH.ext hEx
      exact Gives.call rfl (Enters.callL (vs := [lV (lb)]) call84 rfl) (col_ok lb uw)
     refine WalkE.look rfl (fun _ => lV (ty)) (fun _ _ _ => rfl) (fun L r uw0 uw hAn hDn hF hEx => ?_) ?_
     ·skip
      have b13 := hDn 13 (by decide) rfl
      have b15 := hDn 15 (by decide) rfl
      have b16 := hDn 16 (by decide) rfl
      have hb := mp3 b13 b15 b16
      rw [hb] at hF
      have HH := hF
      replace HH := HH.ext hEx
      exact Gives.run rfl (r_loadA (cs' := (cel E64 ([(ty).1, (ty).2])).toArray) agg38 siz38 (HH.get (k := 1) rfl) (off := 0) rfl (by exact bLe rfl) (by exact ext_all rfl)) ⟨rfl, rfl⟩
     refine WalkE.look rfl (fun _ => lV (la)) (fun _ _ _ => rfl) (fun L r uw0 uw hAn hDn hF hEx => ?_) ?_
     ·skip
      have b13 := hDn 13 (by decide) rfl
      have b15 := hDn 15 (by decide) rfl
      have b16 := hDn 16 (by decide) rfl
      have hb := mp3 b13 b15 b16
      rw [hb] at hF
      have HH := hF
      replace HH := HH.ext hEx
      exact Gives.run rfl (r_loadA (cs' := (cel E64 ([(la).1, (la).2])).toArray) agg38 siz38 (HH.get (k := 8) rfl) (off := 0) rfl (by exact bLe rfl) (by exact ext_all rfl)) ⟨rfl, rfl⟩
     refine WalkE.call rfl (fun _ => .agg (cel E64 [(lx ty la).1, (lx ty la).2]).toArray) (fun _ _ _ => rfl) (fun L r uw0 uw hAn hDn hF hEx => ?_) ?_
     ·skip
      have b13 := hDn 13 (by decide) rfl
      have b15 := hDn 15 (by decide) rfl
      have b16 := hDn 16 (by decide) rfl
      have hb := mp3 b13 b15 b16
      rw [hb] at hF
      have HH := hF
      replace HH := HH.ext hEx
      exact Gives.call rfl (Enters.callL (vs := [lV (ty), lV (la)]) call86 rfl) (lxor_ok ty la uw)
     refine WalkE.call rfl (fun _ => .agg (cel E64 [(lw (col lb) (lx ty la)).1, (lw (col lb) (lx ty la)).2]).toArray) (fun _ _ _ => rfl) (fun L r uw0 uw hAn hDn hF hEx => ?_) ?_
     ·skip
      have b13 := hDn 13 (by decide) rfl
      have b15 := hDn 15 (by decide) rfl
      have b16 := hDn 16 (by decide) rfl
      have hb := mp3 b13 b15 b16
      rw [hb] at hF
      have HH := hF
      replace HH := HH.ext hEx
      exact Gives.call rfl (Enters.callL (vs := [.bool (col lb), .agg (cel E64 [(lx ty la).1, (lx ty la).2]).toArray]) call89 rfl) (lw_ok (col lb) (lx ty la) uw)
     refine WalkE.eff 0 rfl (fun L r uw0 uw hLn hAn hDn hF hEx => ?_) ?_
     ·skip
      have b13 : L 13 = false := hLn
      have b15 := hDn 15 (by decide) rfl
      have b16 := hDn 16 (by decide) rfl
      have hb := mp3 b13 b15 b16
      rw [hb] at hF ⊢
      have H311 := hF
      replace H311 := H311.ext hEx
      dsimp only
      refine Gives.ofW (d := 143) rfl rfl (fun Q' hK => ?_)
      refine q_buildSlice (E := ELb) (l := ([lhash la sv, lw (col la) tx, lhash lb (sv + (1#64)), lw (col lb) (lx ty la)] : List LbT)) H311 sli92 zer38 (bLe rfl) (ps := [(0, lV (lhash la sv)), (1, .agg (cel E64 [(lw (col la) tx).1, (lw (col la) tx).2]).toArray), (2, lV (lhash lb (sv + (1#64)))), (3, .agg (cel E64 [(lw (col lb) (lx ty la)).1, (lw (col lb) (lx ty la)).2]).toArray)]) rfl (by exact fillAll rfl rfl) rfl ?_
      intro b312 w314 hS313 H315 hE316
      exact hK _ _ (show ∃ (b289 : Nat), (_ : Value) = .slice (ownA (some b289)) 4 4 ∧ Sl ELb (some b289) ([lhash la sv, lw (col la) tx, lhash lb (sv + (1#64)), lw (col lb) (lx ty la)] : List LbT) 4 ([]) ∧ Hp No w w314 [((some b289), sob ELb 38 ([lhash la sv, lw (col la) tx, lhash lb (sv + (1#64)), lw (col lb) (lx ty la)] : List LbT) ([])), ((some b273), sob ELb 38 ([tx, ty] : List LbT) ([])), (some b236, lO (ty)), ((some b225), sob ELb 38 ([lhash lb (sv + (1#64)), lhash (lx lb δ) (sv + (1#64)), la] : List LbT) ([])), (some b187, lO (tx)), ((some b176), sob ELb 38 ([lhash la sv, lhash (lx la δ) sv, lw (col lb) δ] : List LbT) ([])), (some b132, lO (lhash lb (sv + (1#64)))), (some b122, lO (lhash la sv)), (some b114, lO (lb)), (some b46, lO (la)), (some b39, .cells #[i64 (((gs).getD i g0).k), i64 (((gs).getD i g0).a), i64 (((gs).getD i g0).b)] 99 (0, 0)), (k1, sob ELb 38 ((gS lhash δ first gs zs i).1) z1), (key278, sob ELb 38 ((gS lhash δ first gs zs (i + 1)).2) sp280), (some b17, .cells (cel E8 (AesSpec.cipher AesSpec.fixKey)).toArray 215 (0, 0)), (some b1, .cells #[i64 (zs.length : Nat), .slice ga gs.length gc, .slice oa ol.length oc] 70 (0, 0)), (some b5, lO (δ))] from ⟨b312, rfl, hS313, ((((((((((((((((H315.pull (k := 15) rfl).pull (k := 15) rfl).pull (k := 15) rfl).pull (k := 15) rfl).pull (k := 15) rfl).pull (k := 15) rfl).pull (k := 15) rfl).pull (k := 15) rfl).pull (k := 15) rfl).pull (k := 15) rfl).pull (k := 15) rfl).pull (k := 15) rfl).pull (k := 15) rfl).pull (k := 15) rfl).pull (k := 15) rfl).pull (k := 15) rfl)⟩)
     refine WalkE.call rfl (fun _ => .agg (cel E64 [(lsum ([lhash la sv, lw (col la) tx, lhash lb (sv + (1#64)), lw (col lb) (lx ty la)] : List LbT)).1, (lsum ([lhash la sv, lw (col la) tx, lhash lb (sv + (1#64)), lw (col lb) (lx ty la)] : List LbT)).2]).toArray) (fun _ _ _ => rfl) (fun L r uw0 uw hAn hDn hF hEx => ?_) ?_
     ·skip
      have b13 := hAn 13 (by decide) rfl
      have b15 := hDn 15 (by decide) rfl
      have b16 := hDn 16 (by decide) rfl
      have hb := mp3 b13 b15 b16
      rw [hb] at hF
      obtain ⟨b289, e13, hS290, HH⟩ := hF
      replace HH := HH.ext hEx
      dsimp only
      rw [e13]
      exact Gives.call rfl (Enters.callL (vs := [.slice (ownA (some b289)) 4 4]) call88 rfl) (lsum_ok ([lhash la sv, lw (col la) tx, lhash lb (sv + (1#64)), lw (col lb) (lx ty la)] : List LbT) (ownA (some b289)) 4 4 (by rfl) (by simp) uw (HH.rd (k := 0) rfl hS290))
     refine WalkE.eff 1 rfl (fun L r uw0 uw hLn hAn hDn hF hEx => ?_) ?_
     ·skip
      have b13 := hAn 13 (by decide) rfl
      have b15 : L 15 = false := hLn
      have b16 := hDn 16 (by decide) rfl
      have hb := mp3 b13 b15 b16
      rw [hb] at hF ⊢
      obtain ⟨b289, e13, hS290, H317⟩ := hF
      replace H317 := H317.ext hEx
      dsimp only
      rw [e13]
      refine Gives.ofW (d := 145) rfl rfl (fun Q' hK => ?_)
      refine q_buildSlice (E := ELb) (l := ([lsum ([lhash la sv, lw (col la) tx, lhash lb (sv + (1#64)), lw (col lb) (lx ty la)] : List LbT)] : List LbT)) H317 sli92 zer38 (bLe rfl) (ps := [(0, .agg (cel E64 [(lsum ([lhash la sv, lw (col la) tx, lhash lb (sv + (1#64)), lw (col lb) (lx ty la)] : List LbT)).1, (lsum ([lhash la sv, lw (col la) tx, lhash lb (sv + (1#64)), lw (col lb) (lx ty la)] : List LbT)).2]).toArray)]) rfl (by exact fillAll rfl rfl) rfl ?_
      intro b318 w320 hS319 H321 hE322
      exact hK _ _ (show ∃ (b289 : Nat) (b295 : Nat), r 13 = .slice (ownA (some b289)) 4 4 ∧ (_ : Value) = .slice (ownA (some b295)) 1 1 ∧ Sl ELb (some b295) ([lsum ([lhash la sv, lw (col la) tx, lhash lb (sv + (1#64)), lw (col lb) (lx ty la)] : List LbT)] : List LbT) 1 ([]) ∧ Sl ELb (some b289) ([lhash la sv, lw (col la) tx, lhash lb (sv + (1#64)), lw (col lb) (lx ty la)] : List LbT) 4 ([]) ∧ Hp No w w320 [((some b295), sob ELb 38 ([lsum ([lhash la sv, lw (col la) tx, lhash lb (sv + (1#64)), lw (col lb) (lx ty la)] : List LbT)] : List LbT) ([])), ((some b289), sob ELb 38 ([lhash la sv, lw (col la) tx, lhash lb (sv + (1#64)), lw (col lb) (lx ty la)] : List LbT) ([])), ((some b273), sob ELb 38 ([tx, ty] : List LbT) ([])), (some b236, lO (ty)), ((some b225), sob ELb 38 ([lhash lb (sv + (1#64)), lhash (lx lb δ) (sv + (1#64)), la] : List LbT) ([])), (some b187, lO (tx)), ((some b176), sob ELb 38 ([lhash la sv, lhash (lx la δ) sv, lw (col lb) δ] : List LbT) ([])), (some b132, lO (lhash lb (sv + (1#64)))), (some b122, lO (lhash la sv)), (some b114, lO (lb)), (some b46, lO (la)), (some b39, .cells #[i64 (((gs).getD i g0).k), i64 (((gs).getD i g0).a), i64 (((gs).getD i g0).b)] 99 (0, 0)), (k1, sob ELb 38 ((gS lhash δ first gs zs i).1) z1), (key278, sob ELb 38 ((gS lhash δ first gs zs (i + 1)).2) sp280), (some b17, .cells (cel E8 (AesSpec.cipher AesSpec.fixKey)).toArray 215 (0, 0)), (some b1, .cells #[i64 (zs.length : Nat), .slice ga gs.length gc, .slice oa ol.length oc] 70 (0, 0)), (some b5, lO (δ))] from ⟨b289, b318, e13, rfl, hS319, hS290, (((((((((((((((((H321.pull (k := 16) rfl).pull (k := 16) rfl).pull (k := 16) rfl).pull (k := 16) rfl).pull (k := 16) rfl).pull (k := 16) rfl).pull (k := 16) rfl).pull (k := 16) rfl).pull (k := 16) rfl).pull (k := 16) rfl).pull (k := 16) rfl).pull (k := 16) rfl).pull (k := 16) rfl).pull (k := 16) rfl).pull (k := 16) rfl).pull (k := 16) rfl).pull (k := 16) rfl)⟩)
     refine WalkE.eff 2 rfl (fun L r uw0 uw hLn hAn hDn hF hEx => ?_) ?_
     ·skip
      have b13 := hAn 13 (by decide) rfl
      have b15 := hAn 15 (by decide) rfl
      have b16 : L 16 = false := hLn
      have hb := mp3 b13 b15 b16
      rw [hb] at hF ⊢
      obtain ⟨b289, b295, e13, e15, hS296, hS290, H323⟩ := hF
      replace H323 := H323.ext hEx
      dsimp only
      rw [e13, e15]
      refine Gives.ofW (d := 146) rfl rfl (fun Q' hK => ?_)
      refine q_append (E := ELb) (k := 12) (l := (gS lhash δ first gs zs i).1) (l2 := ([lsum ([lhash la sv, lw (col la) tx, lhash lb (sv + (1#64)), lw (col lb) (lx ty la)] : List LbT)] : List LbT)) H323 rfl h1 sli92 zer38 rfl byt38 (H323.rd (k := 0) rfl hS296) rfl (by rw [gS_len]) rfl (by rfl) (by omega) ?_
      intro key324 c325 sp326 w328 hS327 hne330 H329
      have H329' := H329.as (L' := [((some b295), sob ELb 38 ([lsum ([lhash la sv, lw (col la) tx, lhash lb (sv + (1#64)), lw (col lb) (lx ty la)] : List LbT)] : List LbT) ([])), ((some b289), sob ELb 38 ([lhash la sv, lw (col la) tx, lhash lb (sv + (1#64)), lw (col lb) (lx ty la)] : List LbT) ([])), ((some b273), sob ELb 38 ([tx, ty] : List LbT) ([])), (some b236, lO (ty)), ((some b225), sob ELb 38 ([lhash lb (sv + (1#64)), lhash (lx lb δ) (sv + (1#64)), la] : List LbT) ([])), (some b187, lO (tx)), ((some b176), sob ELb 38 ([lhash la sv, lhash (lx la δ) sv, lw (col lb) δ] : List LbT) ([])), (some b132, lO (lhash lb (sv + (1#64)))), (some b122, lO (lhash la sv)), (some b114, lO (lb)), (some b46, lO (la)), (some b39, .cells #[i64 (((gs).getD i g0).k), i64 (((gs).getD i g0).a), i64 (((gs).getD i g0).b)] 99 (0, 0)), (key324, sob ELb 38 (((gS lhash δ first gs zs i).1) ++ ([lsum ([lhash la sv, lw (col la) tx, lhash lb (sv + (1#64)), lw (col lb) (lx ty la)] : List LbT)] : List LbT)) sp326), (key278, sob ELb 38 ((gS lhash δ first gs zs (i + 1)).2) sp280), (some b17, .cells (cel E8 (AesSpec.cipher AesSpec.fixKey)).toArray 215 (0, 0)), (some b1, .cells #[i64 (zs.length : Nat), .slice ga gs.length gc, .slice oa ol.length oc] 70 (0, 0)), (some b5, lO (δ))]) rfl
      clear H329
      have e331 : ((gS lhash δ first gs zs i).1) ++ ([lsum ([lhash la sv, lw (col la) tx, lhash lb (sv + (1#64)), lw (col lb) (lx ty la)] : List LbT)] : List LbT) = (gS lhash δ first gs zs (i + 1)).1 := by rw [gS, gstep, if_neg hn3, if_neg hn1, htx, hty, hsv, hla, hlb]; rfl
      have hS332 := hS327
      rw [e331] at hS332
      have H333 := H329'.as (L' := [((some b295), sob ELb 38 ([lsum ([lhash la sv, lw (col la) tx, lhash lb (sv + (1#64)), lw (col lb) (lx ty la)] : List LbT)] : List LbT) ([])), ((some b289), sob ELb 38 ([lhash la sv, lw (col la) tx, lhash lb (sv + (1#64)), lw (col lb) (lx ty la)] : List LbT) ([])), ((some b273), sob ELb 38 ([tx, ty] : List LbT) ([])), (some b236, lO (ty)), ((some b225), sob ELb 38 ([lhash lb (sv + (1#64)), lhash (lx lb δ) (sv + (1#64)), la] : List LbT) ([])), (some b187, lO (tx)), ((some b176), sob ELb 38 ([lhash la sv, lhash (lx la δ) sv, lw (col lb) δ] : List LbT) ([])), (some b132, lO (lhash lb (sv + (1#64)))), (some b122, lO (lhash la sv)), (some b114, lO (lb)), (some b46, lO (la)), (some b39, .cells #[i64 (((gs).getD i g0).k), i64 (((gs).getD i g0).a), i64 (((gs).getD i g0).b)] 99 (0, 0)), (key324, sob ELb 38 ((gS lhash δ first gs zs (i + 1)).1) sp326), (key278, sob ELb 38 ((gS lhash δ first gs zs (i + 1)).2) sp280), (some b17, .cells (cel E8 (AesSpec.cipher AesSpec.fixKey)).toArray 215 (0, 0)), (some b1, .cells #[i64 (zs.length : Nat), .slice ga gs.length gc, .slice oa ol.length oc] 70 (0, 0)), (some b5, lO (δ))]) (by rw [e331])
      exact hK _ _ (show ∃ (b289 : Nat) (b295 : Nat) (key301 : Option Nat) (c302 : Nat) (sp303 : List Value), r 13 = .slice (ownA (some b289)) 4 4 ∧ r 15 = .slice (ownA (some b295)) 1 1 ∧ (_ : Value) = .slice (ownA key301) ((zs.length + i) + 1) c302 ∧ Sl ELb (some b295) ([lsum ([lhash la sv, lw (col la) tx, lhash lb (sv + (1#64)), lw (col lb) (lx ty la)] : List LbT)] : List LbT) 1 ([]) ∧ Sl ELb (some b289) ([lhash la sv, lw (col la) tx, lhash lb (sv + (1#64)), lw (col lb) (lx ty la)] : List LbT) 4 ([]) ∧ Sl ELb key301 ((gS lhash δ first gs zs (i + 1)).1) c302 sp303 ∧ Hp No w w328 [((some b295), sob ELb 38 ([lsum ([lhash la sv, lw (col la) tx, lhash lb (sv + (1#64)), lw (col lb) (lx ty la)] : List LbT)] : List LbT) ([])), ((some b289), sob ELb 38 ([lhash la sv, lw (col la) tx, lhash lb (sv + (1#64)), lw (col lb) (lx ty la)] : List LbT) ([])), ((some b273), sob ELb 38 ([tx, ty] : List LbT) ([])), (some b236, lO (ty)), ((some b225), sob ELb 38 ([lhash lb (sv + (1#64)), lhash (lx lb δ) (sv + (1#64)), la] : List LbT) ([])), (some b187, lO (tx)), ((some b176), sob ELb 38 ([lhash la sv, lhash (lx la δ) sv, lw (col lb) δ] : List LbT) ([])), (some b132, lO (lhash lb (sv + (1#64)))), (some b122, lO (lhash la sv)), (some b114, lO (lb)), (some b46, lO (la)), (some b39, .cells #[i64 (((gs).getD i g0).k), i64 (((gs).getD i g0).a), i64 (((gs).getD i g0).b)] 99 (0, 0)), (key301, sob ELb 38 ((gS lhash δ first gs zs (i + 1)).1) sp303), (key278, sob ELb 38 ((gS lhash δ first gs zs (i + 1)).2) sp280), (some b17, .cells (cel E8 (AesSpec.cipher AesSpec.fixKey)).toArray 215 (0, 0)), (some b1, .cells #[i64 (zs.length : Nat), .slice ga gs.length gc, .slice oa ol.length oc] 70 (0, 0)), (some b5, lO (δ))] from ⟨b289, b295, key324, c325, sp326, e13, e15, rfl, hS296, hS290, hS332, (((((((((((((((((H333.pull (k := 16) rfl).pull (k := 16) rfl).pull (k := 16) rfl).pull (k := 16) rfl).pull (k := 16) rfl).pull (k := 16) rfl).pull (k := 16) rfl).pull (k := 16) rfl).pull (k := 16) rfl).pull (k := 16) rfl).pull (k := 16) rfl).pull (k := 16) rfl).pull (k := 16) rfl).pull (k := 16) rfl).pull (k := 16) rfl).pull (k := 16) rfl).pull (k := 16) rfl)⟩)
     refine WalkE.look rfl (fun r => r 16) (fun r r' h => h 16 (by decide) rfl) (fun L r _ uw _ _ _ _ => Gives.run rfl (r_assign rfl) ⟨rfl, rfl⟩) ?_
     refine WalkE.nil ?_
     intro r334 uw0 w335 hF hEx
     obtain ⟨b289, b295, key301, c302, sp303, e13, e15, e16, hS296, hS290, hS309, H336⟩ := hF
     replace H336 := H336.ext hEx
     dsimp only
     rw [e13, e15, e16]
     refine wnil ?_
     refine blockNormal ?_
     refine blockNormal ?_
     refine thenNormal ?_
     refine oneRegion ?_
     refine sq (r_addI (a := (i : Nat)) (b := (1 : Int)) rfl rfl (by omega)) ?_
     refine sM (i64 ((i : Nat) + (1 : Int))) rfl ?_
     refine wnil ?_
     refine thenNormal ?_
     exact ⟨(i + 1, key301, c302, sp303, key278, c279, sp280, (gS lhash δ first gs zs i).2.length + 2), _, rfl, ⟨rfl, rfl, rfl, rfl, rfl, rfl, rfl, rfl, rfl, trivial⟩, ⟨⟨by omega, hS309, hS286, by rw [gS, gstep, if_neg hn3, if_neg hn1, List.length_append]; rfl⟩, ((((((((((((H336.dropk 11).dropk 10).dropk 9).dropk 8).dropk 7).dropk 6).dropk 5).dropk 4).dropk 3).dropk 2).dropk 1).dropk 0)⟩, by show gs.length - (i + 1) < gs.length - i; omega⟩
    ·skip
     exfalso
     omega
 ·skip
  have hie : i = gs.length := by omega
  rw [hie] at HL h1 h2
  rw [hie]
  refine exitAny ?_
  refine thenExit ?_
  refine thenExit ?_
  refine blockHere ?_
  refine thenNormal ?_
  refine sR ?_
  refine sM (.slice (ownA k2) ((gS lhash δ first gs zs gs.length).2.length) c2) rfl ?_
  refine sq (r_loadA (cs' := #[i64 (zs.length : Nat), .slice ga gs.length gc, .slice oa ol.length oc]) agg70 siz70 (HL.get (k := 3) rfl) (off := 0) rfl (by exact bLe rfl) (by rfl)) ?_
  refine sM (.slice (ownA k1) (zs.length + gs.length) c1) rfl ?_
  refine c_call (vs := [.agg #[i64 (zs.length : Nat), .slice ga gs.length gc, .slice oa ol.length oc], .slice (ownA k1) (zs.length + gs.length) c1]) call90 rfl (outs_ok ((zs.length : Nat) : Int)  gs ol ga oa gc oc ((gS lhash δ first gs zs gs.length).1) (ownA k1) (zs.length + gs.length) c1 (by rw [gS_len]) w37 (hOl.ext HL.chg) (HL.rd (k := 0) rfl h1) (by omega) (fun j hj => by rw [gS_len]; have := hg.ook j hj; omega)) ?_
  rintro _ w337 ⟨⟨key339, c340, sp341, rfl, hS342, hk343⟩, hE344⟩
  rw [show (oL (gS lhash δ first gs zs gs.length).1 ol ol.length).length = ol.length from oL_len _ _ _]
  have H345 := HL.add hE344 hk343
  refine sA (.slice (ownA k2) ((gS lhash δ first gs zs gs.length).2.length) c2) rfl ?_
  refine sA (.slice (ownA key339) ol.length c340) rfl ?_
  refine sA (.nilIface) rfl ?_
  refine wend ?_
  refine retAny ?_
  refine retG (rs := [.tmp 8, .tmp 9, .tmp 10]) (vs := [.slice (ownA k2) ((gS lhash δ first gs zs gs.length).2.length) c2, .slice (ownA key339) ol.length c340, .nilIface]) rfl ⟨⟨rfl, rfl⟩, ⟨rfl, rfl⟩, ⟨rfl, rfl⟩, trivial⟩ ?_
  exact ⟨_, rfl, k2, c2, z2, key339, c340, sp341, rfl, h2, hS342, (H345.pick 6 [2, 0] (by decide) (by decide))⟩
end Go.Proofs.YteofdmdpaejgaaaDoor.Gb
