/- What the claim has need of: Circ, Circ2, Garb, Garb2. -/
import Derived.Test.YteofdmdpaejgaaaDoorGt3
import Derived.Laws.StructEq
namespace Go.Proofs.YteofdmdpaejgaaaDoor.Er
open Go Go.Proofs.YteofdmdpaejgaaaDoor.Vc Go.Proofs.YteofdmdpaejgaaaDoor.Circ
theorem agg70 : isAgg' Tryd.prog 70 = true := by kernel_rfl
theorem byt4 : byt Tryd.prog 4 = some 1 := by kernel_rfl
theorem call24 : callable Tryd.prog 24 = true := by kernel_rfl
theorem call31 : callable Tryd.prog 31 = true := by kernel_rfl
theorem call32 : callable Tryd.prog 32 = true := by kernel_rfl
theorem call63 : callable Tryd.prog 63 = true := by kernel_rfl
theorem fits3 : Fits Tryd.prog 3 EI := fitsI (by kernel_rfl) (by kernel_rfl)
theorem fits4 : Fits Tryd.prog 4 EB := fitsB (by kernel_rfl) (by kernel_rfl)
theorem fits99 : Fits Tryd.prog 99 EG := fitsG (by kernel_rfl) (by kernel_rfl)
theorem fld70_0 : fld Tryd.prog 70 0 = some (0, 1, 3) := by kernel_rfl
theorem fld70_1 : fld Tryd.prog 70 1 = some (1, 1, 68) := by kernel_rfl
theorem fld70_2 : fld Tryd.prog 70 2 = some (2, 1, 60) := by kernel_rfl
theorem fld99_0 : fld Tryd.prog 99 0 = some (0, 1, 97) := by kernel_rfl
theorem fld99_1 : fld Tryd.prog 99 1 = some (1, 1, 3) := by kernel_rfl
theorem fld99_2 : fld Tryd.prog 99 2 = some (2, 1, 3) := by kernel_rfl
theorem one3 : isOne Tryd.prog 3 = true := by kernel_rfl
theorem one60 : isOne Tryd.prog 60 = true := by kernel_rfl
theorem one68 : isOne Tryd.prog 68 = true := by kernel_rfl
theorem one97 : isOne Tryd.prog 97 = true := by kernel_rfl
theorem pls70 : pls Tryd.prog 70 = some #[(0, 1), (1, 1), (2, 1)] := by kernel_rfl
theorem pls99 : pls Tryd.prog 99 = some #[(0, 1), (1, 1), (2, 1)] := by kernel_rfl
theorem siz70 : siz Tryd.prog 70 = some 3 := by kernel_rfl
theorem siz99 : siz Tryd.prog 99 = some 3 := by kernel_rfl
theorem sli60 : sli Tryd.prog 60 = some (3, 1) := by kernel_rfl
theorem sli68 : sli Tryd.prog 68 = some (99, 3) := by kernel_rfl
theorem sli76 : sli Tryd.prog 76 = some (4, 1) := by kernel_rfl
theorem und4 : Tryd.prog.underlying 4 = some .bool := by kernel_rfl
theorem zer3 : zer Tryd.prog 3 = some (.int .i64 0) := by kernel_rfl
theorem zer4 : zer Tryd.prog 4 = some (.bool false) := by kernel_rfl
theorem zer70 : zer Tryd.prog 70 = some (.agg #[.int .i64 0, .slice none 0 0, .slice none 0 0]) := by kernel_rfl
theorem zer99 : zer Tryd.prog 99 = some (.agg #[.int .i64 0, .int .i64 0, .int .i64 0]) := by kernel_rfl
set_option maxHeartbeats 2000000 in
theorem check_ok (n : Int) (gs : List Gt) (ol : List Int) (ga oa : Option Addr) (gc oc : Nat) (w : World) (hG : Gl w) (hGs : Rd EG w ga gs) (hOl : Rd EI w oa ol) (hgl : gs.length ≤ 140737488355328) (hol : ol.length ≤ 140737488355328) : Calls Tryd.prog 31 [.agg #[i64 (n), .slice ga gs.length gc, .slice oa ol.length oc]].toArray w (Ret fun v w' => ((v = .nilIface ∧ IsC n gs ol) ∨ (Er w.heap.size w' 90 1 v ∧ ¬ IsC n gs ol)) ∧ Ext w w') := by
 have H := Hp.start No w
 refine enter (n := 109) Tryd.func31 rfl rfl (bLe rfl) ?_
 refine sR ?_
 refine q_box (v := .agg #[i64 (n), .slice ga gs.length gc, .slice oa ol.length oc]) (o := .cells #[i64 (n), .slice ga gs.length gc, .slice oa ol.length oc] 70 (0, 0)) H rfl (by rfl) ?_
 intro b1 w2 hb1 H3 hE4
 refine sA (.nilIface) rfl ?_
 refine wend ?_
 refine seqAny ?_
 refine sR ?_
 refine sq (r_fieldAddr (off' := 0) fld70_0 (by decide) (b := b1) (off := 0) rfl (by omega)) ?_
 refine sq (r_loadC (v := i64 (n)) one3 (H3.get (k := 0) rfl) (off := 0) rfl (by rfl)) ?_
 refine sq (r_lssI (a := n) (b := (0 : Int)) rfl rfl) ?_
 refine sM (.bool (decide ((n : Int) < (0 : Int)))) rfl ?_
 by_cases g5 : (n : Int) < (0 : Int)
 ·skip
  refine skAny (wantedSome (d' := 12) (b := true) rfl rfl (congrArg Value.bool (decide_eq_true g5))) ?_
  refine skAny (wantedSome (d' := 12) (b := true) rfl rfl (congrArg Value.bool (decide_eq_true g5))) ?_
  refine skAny (wantedSome (d' := 12) (b := true) rfl rfl (congrArg Value.bool (decide_eq_true g5))) ?_
  refine sq (r_pickT (u := .bool (true)) (congrArg Value.bool (decide_eq_true g5)) rfl) ?_
  refine sM (.bool (true)) rfl ?_
  refine skAny (wantedSome (d' := 17) (b := true) rfl rfl rfl) ?_
  refine skAny (wantedSome (d' := 17) (b := true) rfl rfl rfl) ?_
  refine skAny (wantedSome (d' := 17) (b := true) rfl rfl rfl) ?_
  refine skAny (wantedSome (d' := 17) (b := true) rfl rfl rfl) ?_
  refine sq (r_pickT (u := .bool (true)) rfl rfl) ?_
  refine sM (.bool (true)) rfl ?_
  refine skAny (wantedSome (d' := 23) (b := true) rfl rfl rfl) ?_
  refine skAny (wantedSome (d' := 23) (b := true) rfl rfl rfl) ?_
  refine skAny (wantedSome (d' := 23) (b := true) rfl rfl rfl) ?_
  refine skAny (wantedSome (d' := 23) (b := true) rfl rfl rfl) ?_
  refine sq (r_pickT (u := .bool (true)) rfl rfl) ?_
  refine wend ?_
  refine condTrue rfl ?_
  refine sR ?_
  refine sq (r_mkI und57 (xv := i64 ((90 : Int))) rfl) ?_
  refine sq (r_fieldAddr (off' := 0) fld70_0 (by decide) (b := b1) (off := 0) rfl (by omega)) ?_
  refine sq (r_loadC (v := i64 (n)) one3 (H3.get (k := 0) rfl) (off := 0) rfl (by rfl)) ?_
  have := H3.lt (List.mem_of_getElem? (i := 0) rfl) rfl
  refine c_call (vs := [.iface 57 (i64 ((90 : Int))), .string ({data := #[99, 105, 114, 99, 117, 105, 116]}), i64 (n)]) call63 rfl (wrap0_ok (90 : Int) n ({data := #[99, 105, 114, 99, 117, 105, 116]}) w2 (Chg.gl H3.chg (fun x => x) hG)) ?_
  rintro v8 w6 ⟨hEr9, hE10⟩
  have H11 := H3.ext hE10
  obtain ⟨T12, x13, rfl⟩ := hEr9.iface
  refine sA (.iface T12 (x13)) rfl ?_
  refine wend ?_
  refine retAny ?_
  refine thenRet ?_
  refine retG (rs := [.tmp 2]) (vs := [.iface T12 (x13)]) rfl ⟨⟨rfl, rfl⟩, trivial⟩ ?_
  exact ⟨_, rfl, .inr ⟨hEr9.mono H3.chg.size, fun hg => by have := hg.lo; have := hg.hi; have := hg.gates; have := hg.outs; omega⟩, H11.chg⟩
 ·skip
  refine sqAny (v := pT b1) (w' := w2) (wantedSome (d' := 12) (b := false) rfl rfl (congrArg Value.bool (decide_eq_false g5))) (r_fieldAddr (off' := 0) fld70_0 (by decide) (b := b1) (off := 0) rfl (by omega)) ?_
  refine sqAny (v := i64 (n)) (w' := w2) (wantedSome (d' := 12) (b := false) rfl rfl (congrArg Value.bool (decide_eq_false g5))) (r_loadC (v := i64 (n)) one3 (H3.get (k := 0) rfl) (off := 0) rfl (by rfl)) ?_
  refine sqAny (v := .bool (decide (((4096 : Int) : Int) < n))) (w' := w2) (wantedSome (d' := 12) (b := false) rfl rfl (congrArg Value.bool (decide_eq_false g5))) (r_gtrI (a := n) (b := (4096 : Int)) rfl rfl) ?_
  refine sq (r_pickF (v := .bool (decide (((4096 : Int) : Int) < n))) (congrArg Value.bool (decide_eq_false g5)) rfl) ?_
  refine sM (.bool (decide (((4096 : Int) : Int) < n))) rfl ?_
  by_cases g14 : ((4096 : Int) : Int) < n
  ·skip
   refine skAny (wantedSome (d' := 17) (b := true) rfl rfl (congrArg Value.bool (decide_eq_true g14))) ?_
   refine skAny (wantedSome (d' := 17) (b := true) rfl rfl (congrArg Value.bool (decide_eq_true g14))) ?_
   refine skAny (wantedSome (d' := 17) (b := true) rfl rfl (congrArg Value.bool (decide_eq_true g14))) ?_
   refine skAny (wantedSome (d' := 17) (b := true) rfl rfl (congrArg Value.bool (decide_eq_true g14))) ?_
   refine sq (r_pickT (u := .bool (true)) (congrArg Value.bool (decide_eq_true g14)) rfl) ?_
   refine sM (.bool (true)) rfl ?_
   refine skAny (wantedSome (d' := 23) (b := true) rfl rfl rfl) ?_
   refine skAny (wantedSome (d' := 23) (b := true) rfl rfl rfl) ?_
   refine skAny (wantedSome (d' := 23) (b := true) rfl rfl rfl) ?_
   refine skAny (wantedSome (d' := 23) (b := true) rfl rfl rfl) ?_
   refine sq (r_pickT (u := .bool (true)) rfl rfl) ?_
   refine wend ?_
   refine condTrue rfl ?_
   refine sR ?_
   refine sq (r_mkI und57 (xv := i64 ((90 : Int))) rfl) ?_
   refine sq (r_fieldAddr (off' := 0) fld70_0 (by decide) (b := b1) (off := 0) rfl (by omega)) ?_
   refine sq (r_loadC (v := i64 (n)) one3 (H3.get (k := 0) rfl) (off := 0) rfl (by rfl)) ?_
   have := H3.lt (List.mem_of_getElem? (i := 0) rfl) rfl
   refine c_call (vs := [.iface 57 (i64 ((90 : Int))), .string ({data := #[99, 105, 114, 99, 117, 105, 116]}), i64 (n)]) call63 rfl (wrap0_ok (90 : Int) n ({data := #[99, 105, 114, 99, 117, 105, 116]}) w2 (Chg.gl H3.chg (fun x => x) hG)) ?_
   rintro v17 w15 ⟨hEr18, hE19⟩
   have H20 := H3.ext hE19
   obtain ⟨T21, x22, rfl⟩ := hEr18.iface
   refine sA (.iface T21 (x22)) rfl ?_
   refine wend ?_
   refine retAny ?_
   refine thenRet ?_
   refine retG (rs := [.tmp 2]) (vs := [.iface T21 (x22)]) rfl ⟨⟨rfl, rfl⟩, trivial⟩ ?_
   exact ⟨_, rfl, .inr ⟨hEr18.mono H3.chg.size, fun hg => by have := hg.lo; have := hg.hi; have := hg.gates; have := hg.outs; omega⟩, H20.chg⟩
  ·skip
   refine sqAny (v := .pointer (some ⟨b1, 1, none⟩)) (w' := w2) (wantedSome (d' := 17) (b := false) rfl rfl (congrArg Value.bool (decide_eq_false g14))) (r_fieldAddr (off' := 1) fld70_1 (by decide) (b := b1) (off := 0) rfl (by omega)) ?_
   refine sqAny (v := .slice ga gs.length gc) (w' := w2) (wantedSome (d' := 17) (b := false) rfl rfl (congrArg Value.bool (decide_eq_false g14))) (r_loadC (v := .slice ga gs.length gc) one68 (H3.get (k := 0) rfl) (off := 1) rfl (by rfl)) ?_
   refine sqAny (v := i64 (gs.length : Nat)) (w' := w2) (wantedSome (d' := 17) (b := false) rfl rfl (congrArg Value.bool (decide_eq_false g14))) (r_lenS sli68 (a := ga) (m := gs.length) (c := gc) rfl) ?_
   refine sqAny (v := .bool (decide (((4096 : Int) : Int) < (gs.length : Nat)))) (w' := w2) (wantedSome (d' := 17) (b := false) rfl rfl (congrArg Value.bool (decide_eq_false g14))) (r_gtrI (a := (gs.length : Nat)) (b := (4096 : Int)) rfl rfl) ?_
   refine sq (r_pickF (v := .bool (decide (((4096 : Int) : Int) < (gs.length : Nat)))) (congrArg Value.bool (decide_eq_false g14)) rfl) ?_
   refine sM (.bool (decide (((4096 : Int) : Int) < (gs.length : Nat)))) rfl ?_
   by_cases g23 : ((4096 : Int) : Int) < (gs.length : Nat)
   ·skip
    refine skAny (wantedSome (d' := 23) (b := true) rfl rfl (congrArg Value.bool (decide_eq_true g23))) ?_
    refine skAny (wantedSome (d' := 23) (b := true) rfl rfl (congrArg Value.bool (decide_eq_true g23))) ?_
    refine skAny (wantedSome (d' := 23) (b := true) rfl rfl (congrArg Value.bool (decide_eq_true g23))) ?_
    refine skAny (wantedSome (d' := 23) (b := true) rfl rfl (congrArg Value.bool (decide_eq_true g23))) ?_
    refine sq (r_pickT (u := .bool (true)) (congrArg Value.bool (decide_eq_true g23)) rfl) ?_
    refine wend ?_
    refine condTrue rfl ?_
    refine sR ?_
    refine sq (r_mkI und57 (xv := i64 ((90 : Int))) rfl) ?_
    refine sq (r_fieldAddr (off' := 0) fld70_0 (by decide) (b := b1) (off := 0) rfl (by omega)) ?_
    refine sq (r_loadC (v := i64 (n)) one3 (H3.get (k := 0) rfl) (off := 0) rfl (by rfl)) ?_
    have := H3.lt (List.mem_of_getElem? (i := 0) rfl) rfl
    refine c_call (vs := [.iface 57 (i64 ((90 : Int))), .string ({data := #[99, 105, 114, 99, 117, 105, 116]}), i64 (n)]) call63 rfl (wrap0_ok (90 : Int) n ({data := #[99, 105, 114, 99, 117, 105, 116]}) w2 (Chg.gl H3.chg (fun x => x) hG)) ?_
    rintro v26 w24 ⟨hEr27, hE28⟩
    have H29 := H3.ext hE28
    obtain ⟨T30, x31, rfl⟩ := hEr27.iface
    refine sA (.iface T30 (x31)) rfl ?_
    refine wend ?_
    refine retAny ?_
    refine thenRet ?_
    refine retG (rs := [.tmp 2]) (vs := [.iface T30 (x31)]) rfl ⟨⟨rfl, rfl⟩, trivial⟩ ?_
    exact ⟨_, rfl, .inr ⟨hEr27.mono H3.chg.size, fun hg => by have := hg.lo; have := hg.hi; have := hg.gates; have := hg.outs; omega⟩, H29.chg⟩
   ·skip
    refine sqAny (v := .pointer (some ⟨b1, 2, none⟩)) (w' := w2) (wantedSome (d' := 23) (b := false) rfl rfl (congrArg Value.bool (decide_eq_false g23))) (r_fieldAddr (off' := 2) fld70_2 (by decide) (b := b1) (off := 0) rfl (by omega)) ?_
    refine sqAny (v := .slice oa ol.length oc) (w' := w2) (wantedSome (d' := 23) (b := false) rfl rfl (congrArg Value.bool (decide_eq_false g23))) (r_loadC (v := .slice oa ol.length oc) one60 (H3.get (k := 0) rfl) (off := 2) rfl (by rfl)) ?_
    refine sqAny (v := i64 (ol.length : Nat)) (w' := w2) (wantedSome (d' := 23) (b := false) rfl rfl (congrArg Value.bool (decide_eq_false g23))) (r_lenS sli60 (a := oa) (m := ol.length) (c := oc) rfl) ?_
    refine sqAny (v := .bool (decide (((64 : Int) : Int) < (ol.length : Nat)))) (w' := w2) (wantedSome (d' := 23) (b := false) rfl rfl (congrArg Value.bool (decide_eq_false g23))) (r_gtrI (a := (ol.length : Nat)) (b := (64 : Int)) rfl rfl) ?_
    refine sq (r_pickF (v := .bool (decide (((64 : Int) : Int) < (ol.length : Nat)))) (congrArg Value.bool (decide_eq_false g23)) rfl) ?_
    refine wend ?_
    refine condProp (((64 : Int) : Int) < (ol.length : Nat)) rfl (fun c28 => ?_) (fun c28 => ?_)
    ·skip
     refine sR ?_
     refine sq (r_mkI und57 (xv := i64 ((90 : Int))) rfl) ?_
     refine sq (r_fieldAddr (off' := 0) fld70_0 (by decide) (b := b1) (off := 0) rfl (by omega)) ?_
     refine sq (r_loadC (v := i64 (n)) one3 (H3.get (k := 0) rfl) (off := 0) rfl (by rfl)) ?_
     have := H3.lt (List.mem_of_getElem? (i := 0) rfl) rfl
     refine c_call (vs := [.iface 57 (i64 ((90 : Int))), .string ({data := #[99, 105, 114, 99, 117, 105, 116]}), i64 (n)]) call63 rfl (wrap0_ok (90 : Int) n ({data := #[99, 105, 114, 99, 117, 105, 116]}) w2 (Chg.gl H3.chg (fun x => x) hG)) ?_
     rintro v34 w32 ⟨hEr35, hE36⟩
     have H37 := H3.ext hE36
     obtain ⟨T38, x39, rfl⟩ := hEr35.iface
     refine sA (.iface T38 (x39)) rfl ?_
     refine wend ?_
     refine retAny ?_
     refine thenRet ?_
     refine retG (rs := [.tmp 2]) (vs := [.iface T38 (x39)]) rfl ⟨⟨rfl, rfl⟩, trivial⟩ ?_
     exact ⟨_, rfl, .inr ⟨hEr35.mono H3.chg.size, fun hg => by have := hg.lo; have := hg.hi; have := hg.gates; have := hg.outs; omega⟩, H37.chg⟩
    ·skip
     refine skipAny ?_
     refine thenNormal ?_
     refine seqAny ?_
     refine sR ?_
     refine sq (r_fieldAddr (off' := 1) fld70_1 (by decide) (b := b1) (off := 0) rfl (by omega)) ?_
     refine sq (r_loadC (v := .slice ga gs.length gc) one68 (H3.get (k := 0) rfl) (off := 1) rfl (by rfl)) ?_
     refine sq (r_lenS sli68 (a := ga) (m := gs.length) (c := gc) rfl) ?_
     refine sM (i64 ((0 : Int))) rfl ?_
     refine wend ?_
     refine blockAny ?_
     refine loopAny (σ := Nat) (fun i => [(1, pT b1), (34, .slice ga gs.length gc), (35, i64 (gs.length : Nat)), (36, i64 (i : Nat))]) (fun i w' => i ≤ gs.length ∧ (∀ j, j < i → gokP (gs.getD j g0) (n + (j : Nat))) ∧ Hp No w w' [(some b1, .cells #[i64 (n), .slice ga gs.length gc, .slice oa ol.length oc] 70 (0, 0))]) (fun i => gs.length - i) (0) ?_ ?_ ?_
     ·exact ⟨rfl, rfl, rfl, rfl, trivial⟩
     ·exact ⟨by omega, fun j hj => by omega, H3⟩
     rintro i ρ w40 ⟨hi, hgs, HL⟩
     refine sR ?_
     refine sq (r_lssI (a := (i : Nat)) (b := (gs.length : Nat)) rfl rfl) ?_
     refine wend ?_
     refine seqAny ?_
     refine condProp (((i : Nat) : Int) < (gs.length : Nat)) rfl (fun c37 => ?_) (fun c37 => ?_)
     ·skip
      refine skipAny ?_
      refine thenNormal ?_
      refine seqAny ?_
      refine blockAny ?_
      refine sR ?_
      refine sM (i64 (i : Nat)) rfl ?_
      refine sq (r_idxS (E := EG) (l := gs) (j := i) sli68 (hGs.ext HL.chg) rfl rfl (by first | rfl | omega | (simp; omega)) (by rfl) (by omega)) ?_
      refine sq ((r_ldS (E := EG) (l := gs) (j := i) (v := (gs).getD i g0) fits99 (hGs.ext HL.chg) rfl rfl (at_getD (by omega))).as (v' := .agg #[i64 (((gs).getD i g0).k), i64 (((gs).getD i g0).a), i64 (((gs).getD i g0).b)]) rfl) ?_
      refine q_alloc (o := .cells #[i64 ((0 : Int)), i64 ((0 : Int)), i64 ((0 : Int))] 99 (0, 0)) HL zer99 (by kernel_rfl) ?_
      intro b42 w43 hb42 H44 hE45
      refine sA (i64 (i : Nat)) rfl ?_
      refine d_store (k := 0) (v := .agg #[i64 (((gs).getD i g0).k), i64 (((gs).getD i g0).a), i64 (((gs).getD i g0).b)]) (cs' := #[i64 (((gs).getD i g0).k), i64 (((gs).getD i g0).a), i64 (((gs).getD i g0).b)]) H44 rfl rfl rfl siz99 (by rfl) (by intro u hu; simp [Value.cells] at hu; first | (subst hu; rfl) | (rcases hu with rfl | rfl | rfl <;> rfl)) (by exact bLe rfl) (by rfl) ?_
      intro w46 H47 hC48
      have H47' := H47.as (L' := [(some b42, .cells #[i64 (((gs).getD i g0).k), i64 (((gs).getD i g0).a), i64 (((gs).getD i g0).b)] 99 (0, 0)), (some b1, .cells #[i64 (n), .slice ga gs.length gc, .slice oa ol.length oc] 70 (0, 0))]) rfl
      clear H47
      refine wend ?_
      refine sR ?_
      refine sq (r_fieldAddr (off' := 0) fld70_0 (by decide) (b := b1) (off := 0) rfl (by omega)) ?_
      refine sq (r_loadC (v := i64 (n)) one3 (H47'.get (k := 1) rfl) (off := 0) rfl (by rfl)) ?_
      refine sM (i64 (i : Nat)) rfl ?_
      refine sq (r_addI (a := n) (b := (i : Nat)) rfl rfl (by omega)) ?_
      refine sA (i64 (n + (i : Nat))) rfl ?_
      refine wend ?_
      refine sR ?_
      refine sq (r_fieldAddr (off' := 1) fld99_1 (by decide) (b := b42) (off := 0) rfl (by omega)) ?_
      refine sq (r_loadC (v := i64 (((gs).getD i g0).a)) one3 (H47'.get (k := 0) rfl) (off := 1) rfl (by rfl)) ?_
      refine sq (r_geqI (a := ((gs).getD i g0).a) (b := (0 : Int)) rfl rfl) ?_
      refine sM (.bool (decide (((0 : Int) : Int) ≤ (((gs).getD i g0).a)))) rfl ?_
      by_cases g49 : ((0 : Int) : Int) ≤ (((gs).getD i g0).a)
      ·skip
       refine sqAny (v := .pointer (some ⟨b42, 1, none⟩)) (w' := w46) (wantedSome (d' := 48) (b := true) rfl rfl (congrArg Value.bool (decide_eq_true g49))) (r_fieldAddr (off' := 1) fld99_1 (by decide) (b := b42) (off := 0) rfl (by omega)) ?_
       refine sqAny (v := i64 (((gs).getD i g0).a)) (w' := w46) (wantedSome (d' := 48) (b := true) rfl rfl (congrArg Value.bool (decide_eq_true g49))) (r_loadC (v := i64 (((gs).getD i g0).a)) one3 (H47'.get (k := 0) rfl) (off := 1) rfl (by rfl)) ?_
       refine sqAny (v := i64 (n + (i : Nat))) (w' := w46) (wantedSome (d' := 48) (b := true) rfl rfl (congrArg Value.bool (decide_eq_true g49))) (r_move (v := i64 (n + (i : Nat))) rfl) ?_
       refine sqAny (v := .bool (decide ((((gs).getD i g0).a : Int) < (n + (i : Nat))))) (w' := w46) (wantedSome (d' := 48) (b := true) rfl rfl (congrArg Value.bool (decide_eq_true g49))) (r_lssI (a := ((gs).getD i g0).a) (b := n + (i : Nat)) rfl rfl) ?_
       refine sq (r_pickT (u := .bool (decide ((((gs).getD i g0).a : Int) < (n + (i : Nat))))) (congrArg Value.bool (decide_eq_true g49)) rfl) ?_
       refine sA (.bool (decide ((((gs).getD i g0).a : Int) < (n + (i : Nat))))) rfl ?_
       refine wend ?_
       refine seqAny ?_
       refine sR ?_
       refine sq (r_fieldAddr (off' := 0) fld99_0 (by decide) (b := b42) (off := 0) rfl (by omega)) ?_
       refine sq (r_loadC (v := i64 (((gs).getD i g0).k)) one97 (H47'.get (k := 0) rfl) (off := 0) rfl (by rfl)) ?_
       refine wend ?_
       refine blockAny ?_
       refine seqAny ?_
       refine sR ?_
       refine sq (r_eqlI (a := ((gs).getD i g0).k) (b := (1 : Int)) rfl rfl) ?_
       refine sA (.bool (decide ((((gs).getD i g0).k : Int) = (1 : Int)))) rfl ?_
       refine wend ?_
       refine condProp ((((gs).getD i g0).k : Int) = (1 : Int)) rfl (fun c56 => ?_) (fun c56 => ?_)
       ·skip
        refine skipAny ?_
        refine thenNormal ?_
        refine condTrue (congrArg Value.bool (decide_eq_true c56)) ?_
        refine oneRegion ?_
        refine sM (.bool (decide ((((gs).getD i g0).a : Int) < (n + (i : Nat))))) rfl ?_
        refine sM (.bool (decide ((((gs).getD i g0).a : Int) < (n + (i : Nat))))) rfl ?_
        by_cases g50 : (((gs).getD i g0).a : Int) < (n + (i : Nat))
        ·skip
         refine sqAny (v := .pointer (some ⟨b42, 2, none⟩)) (w' := w46) (wantedSome (d' := 60) (b := true) rfl rfl (congrArg Value.bool (decide_eq_true g50))) (r_fieldAddr (off' := 2) fld99_2 (by decide) (b := b42) (off := 0) rfl (by omega)) ?_
         refine sqAny (v := i64 (((gs).getD i g0).b)) (w' := w46) (wantedSome (d' := 60) (b := true) rfl rfl (congrArg Value.bool (decide_eq_true g50))) (r_loadC (v := i64 (((gs).getD i g0).b)) one3 (H47'.get (k := 0) rfl) (off := 2) rfl (by rfl)) ?_
         refine sqAny (v := .bool (decide (((0 : Int) : Int) ≤ (((gs).getD i g0).b)))) (w' := w46) (wantedSome (d' := 60) (b := true) rfl rfl (congrArg Value.bool (decide_eq_true g50))) (r_geqI (a := ((gs).getD i g0).b) (b := (0 : Int)) rfl rfl) ?_
         refine sq (r_pickT (u := .bool (decide (((0 : Int) : Int) ≤ (((gs).getD i g0).b)))) (congrArg Value.bool (decide_eq_true g50)) rfl) ?_
         refine sM (.bool (decide (((0 : Int) : Int) ≤ (((gs).getD i g0).b)))) rfl ?_
         by_cases g51 : ((0 : Int) : Int) ≤ (((gs).getD i g0).b)
         ·skip
          refine sqAny (v := .pointer (some ⟨b42, 2, none⟩)) (w' := w46) (wantedSome (d' := 65) (b := true) rfl rfl (congrArg Value.bool (decide_eq_true g51))) (r_fieldAddr (off' := 2) fld99_2 (by decide) (b := b42) (off := 0) rfl (by omega)) ?_
          refine sqAny (v := i64 (((gs).getD i g0).b)) (w' := w46) (wantedSome (d' := 65) (b := true) rfl rfl (congrArg Value.bool (decide_eq_true g51))) (r_loadC (v := i64 (((gs).getD i g0).b)) one3 (H47'.get (k := 0) rfl) (off := 2) rfl (by rfl)) ?_
          refine sqAny (v := i64 (n + (i : Nat))) (w' := w46) (wantedSome (d' := 65) (b := true) rfl rfl (congrArg Value.bool (decide_eq_true g51))) (r_move (v := i64 (n + (i : Nat))) rfl) ?_
          refine sqAny (v := .bool (decide ((((gs).getD i g0).b : Int) < (n + (i : Nat))))) (w' := w46) (wantedSome (d' := 65) (b := true) rfl rfl (congrArg Value.bool (decide_eq_true g51))) (r_lssI (a := ((gs).getD i g0).b) (b := n + (i : Nat)) rfl rfl) ?_
          refine sq (r_pickT (u := .bool (decide ((((gs).getD i g0).b : Int) < (n + (i : Nat))))) (congrArg Value.bool (decide_eq_true g51)) rfl) ?_
          refine sA (.bool (decide ((((gs).getD i g0).b : Int) < (n + (i : Nat))))) rfl ?_
          refine wnil ?_
          refine blockNormal ?_
          refine thenNormal ?_
          refine sR ?_
          refine sM (.bool (decide ((((gs).getD i g0).b : Int) < (n + (i : Nat))))) rfl ?_
          refine sq (r_not (b := decide ((((gs).getD i g0).b : Int) < (n + (i : Nat)))) rfl) ?_
          refine wend ?_
          refine condBool (!(decide ((((gs).getD i g0).b : Int) < (n + (i : Nat))))) rfl (fun c80 => ?_) (fun c80 => ?_)
          ·skip
           replace c80 : ¬ ((((gs).getD i g0).b : Int) < (n + (i : Nat))) := by simpa using c80
           refine sR ?_
           refine sq (r_mkI und57 (xv := i64 ((90 : Int))) rfl) ?_
           refine sM (i64 (i : Nat)) rfl ?_
           have := H47'.lt (List.mem_of_getElem? (i := 0) rfl) rfl
           have := H47'.lt (List.mem_of_getElem? (i := 1) rfl) rfl
           refine c_call (vs := [.iface 57 (i64 ((90 : Int))), .string ({data := #[103, 97, 116, 101]}), i64 (i : Nat)]) call63 rfl (wrap0_ok (90 : Int) (i : Nat) ({data := #[103, 97, 116, 101]}) w46 (Chg.gl H47'.chg (fun x => x) hG)) ?_
           rintro v54 w52 ⟨hEr55, hE56⟩
           have H57 := H47'.ext hE56
           obtain ⟨T58, x59, rfl⟩ := hEr55.iface
           refine sA (.iface T58 (x59)) rfl ?_
           refine wend ?_
           refine retAny ?_
           refine blockRet ?_
           refine thenRet ?_
           refine thenRet ?_
           refine blockRet ?_
           refine thenRet ?_
           refine retG (rs := [.tmp 2]) (vs := [.iface T58 (x59)]) rfl ⟨⟨rfl, rfl⟩, trivial⟩ ?_
           exact ⟨_, rfl, .inr ⟨hEr55.mono H47'.chg.size, fun hg => by have := hg.gok i (by omega); unfold gokP at this; omega⟩, H57.chg⟩
          ·skip
           replace c80 : (((gs).getD i g0).b : Int) < (n + (i : Nat)) := by simpa using c80
           refine skipAny ?_
           refine blockNormal ?_
           refine thenNormal ?_
           refine oneRegion ?_
           refine sq (r_addI (a := (i : Nat)) (b := (1 : Int)) rfl rfl (by omega)) ?_
           refine sM (i64 ((i : Nat) + (1 : Int))) rfl ?_
           refine wnil ?_
           refine thenNormal ?_
           have hgi : gokP (gs.getD i g0) (n + (i : Nat)) := by unfold gokP; omega
           exact ⟨i + 1, _, rfl, ⟨rfl, rfl, rfl, rfl, trivial⟩, ⟨by omega, fun j hj => if h : j < i then hgs j h else by (rw [show j = i by omega]; exact hgi), (H47'.dropk 0)⟩, by show gs.length - (i + 1) < gs.length - i; omega⟩
         ·skip
          refine skAny (wantedSome (d' := 65) (b := false) rfl rfl (congrArg Value.bool (decide_eq_false g51))) ?_
          refine skAny (wantedSome (d' := 65) (b := false) rfl rfl (congrArg Value.bool (decide_eq_false g51))) ?_
          refine skAny (wantedSome (d' := 65) (b := false) rfl rfl (congrArg Value.bool (decide_eq_false g51))) ?_
          refine skAny (wantedSome (d' := 65) (b := false) rfl rfl (congrArg Value.bool (decide_eq_false g51))) ?_
          refine sq (r_pickF (v := .bool (false)) (congrArg Value.bool (decide_eq_false g51)) rfl) ?_
          refine sA (.bool (false)) rfl ?_
          refine wnil ?_
          refine blockNormal ?_
          refine thenNormal ?_
          refine sR ?_
          refine sM (.bool (false)) rfl ?_
          refine sq (r_notF rfl) ?_
          refine wend ?_
          refine condTrue rfl ?_
          refine sR ?_
          refine sq (r_mkI und57 (xv := i64 ((90 : Int))) rfl) ?_
          refine sM (i64 (i : Nat)) rfl ?_
          have := H47'.lt (List.mem_of_getElem? (i := 0) rfl) rfl
          have := H47'.lt (List.mem_of_getElem? (i := 1) rfl) rfl
          refine c_call (vs := [.iface 57 (i64 ((90 : Int))), .string ({data := #[103, 97, 116, 101]}), i64 (i : Nat)]) call63 rfl (wrap0_ok (90 : Int) (i : Nat) ({data := #[103, 97, 116, 101]}) w46 (Chg.gl H47'.chg (fun x => x) hG)) ?_
          rintro v62 w60 ⟨hEr63, hE64⟩
          have H65 := H47'.ext hE64
          obtain ⟨T66, x67, rfl⟩ := hEr63.iface
          refine sA (.iface T66 (x67)) rfl ?_
          refine wend ?_
          refine retAny ?_
          refine blockRet ?_
          refine thenRet ?_
          refine thenRet ?_
          refine blockRet ?_
          refine thenRet ?_
          refine retG (rs := [.tmp 2]) (vs := [.iface T66 (x67)]) rfl ⟨⟨rfl, rfl⟩, trivial⟩ ?_
          exact ⟨_, rfl, .inr ⟨hEr63.mono H47'.chg.size, fun hg => by have := hg.gok i (by omega); unfold gokP at this; omega⟩, H65.chg⟩
        ·skip
         refine skAny (wantedSome (d' := 60) (b := false) rfl rfl (congrArg Value.bool (decide_eq_false g50))) ?_
         refine skAny (wantedSome (d' := 60) (b := false) rfl rfl (congrArg Value.bool (decide_eq_false g50))) ?_
         refine skAny (wantedSome (d' := 60) (b := false) rfl rfl (congrArg Value.bool (decide_eq_false g50))) ?_
         refine sq (r_pickF (v := .bool (false)) (congrArg Value.bool (decide_eq_false g50)) rfl) ?_
         refine sM (.bool (false)) rfl ?_
         refine skAny (wantedSome (d' := 65) (b := false) rfl rfl rfl) ?_
         refine skAny (wantedSome (d' := 65) (b := false) rfl rfl rfl) ?_
         refine skAny (wantedSome (d' := 65) (b := false) rfl rfl rfl) ?_
         refine skAny (wantedSome (d' := 65) (b := false) rfl rfl rfl) ?_
         refine sq (r_pickF (v := .bool (false)) rfl rfl) ?_
         refine sA (.bool (false)) rfl ?_
         refine wnil ?_
         refine blockNormal ?_
         refine thenNormal ?_
         refine sR ?_
         refine sM (.bool (false)) rfl ?_
         refine sq (r_notF rfl) ?_
         refine wend ?_
         refine condTrue rfl ?_
         refine sR ?_
         refine sq (r_mkI und57 (xv := i64 ((90 : Int))) rfl) ?_
         refine sM (i64 (i : Nat)) rfl ?_
         have := H47'.lt (List.mem_of_getElem? (i := 0) rfl) rfl
         have := H47'.lt (List.mem_of_getElem? (i := 1) rfl) rfl
         refine c_call (vs := [.iface 57 (i64 ((90 : Int))), .string ({data := #[103, 97, 116, 101]}), i64 (i : Nat)]) call63 rfl (wrap0_ok (90 : Int) (i : Nat) ({data := #[103, 97, 116, 101]}) w46 (Chg.gl H47'.chg (fun x => x) hG)) ?_
         rintro v70 w68 ⟨hEr71, hE72⟩
         have H73 := H47'.ext hE72
         obtain ⟨T74, x75, rfl⟩ := hEr71.iface
         refine sA (.iface T74 (x75)) rfl ?_
         refine wend ?_
         refine retAny ?_
         refine blockRet ?_
         refine thenRet ?_
         refine thenRet ?_
         refine blockRet ?_
         refine thenRet ?_
         refine retG (rs := [.tmp 2]) (vs := [.iface T74 (x75)]) rfl ⟨⟨rfl, rfl⟩, trivial⟩ ?_
         exact ⟨_, rfl, .inr ⟨hEr71.mono H47'.chg.size, fun hg => by have := hg.gok i (by omega); unfold gokP at this; omega⟩, H73.chg⟩
       ·skip
        refine oneRegion ?_
        refine sq (r_eqlI (a := ((gs).getD i g0).k) (b := (2 : Int)) rfl rfl) ?_
        refine sA (.bool (decide ((((gs).getD i g0).k : Int) = (2 : Int)))) rfl ?_
        refine wnil ?_
        refine thenNormal ?_
        refine condProp ((((gs).getD i g0).k : Int) = (2 : Int)) rfl (fun c56 => ?_) (fun c56 => ?_)
        ·skip
         refine oneRegion ?_
         refine sM (.bool (decide ((((gs).getD i g0).a : Int) < (n + (i : Nat))))) rfl ?_
         refine sM (.bool (decide ((((gs).getD i g0).a : Int) < (n + (i : Nat))))) rfl ?_
         by_cases g76 : (((gs).getD i g0).a : Int) < (n + (i : Nat))
         ·skip
          refine sqAny (v := .pointer (some ⟨b42, 2, none⟩)) (w' := w46) (wantedSome (d' := 60) (b := true) rfl rfl (congrArg Value.bool (decide_eq_true g76))) (r_fieldAddr (off' := 2) fld99_2 (by decide) (b := b42) (off := 0) rfl (by omega)) ?_
          refine sqAny (v := i64 (((gs).getD i g0).b)) (w' := w46) (wantedSome (d' := 60) (b := true) rfl rfl (congrArg Value.bool (decide_eq_true g76))) (r_loadC (v := i64 (((gs).getD i g0).b)) one3 (H47'.get (k := 0) rfl) (off := 2) rfl (by rfl)) ?_
          refine sqAny (v := .bool (decide (((0 : Int) : Int) ≤ (((gs).getD i g0).b)))) (w' := w46) (wantedSome (d' := 60) (b := true) rfl rfl (congrArg Value.bool (decide_eq_true g76))) (r_geqI (a := ((gs).getD i g0).b) (b := (0 : Int)) rfl rfl) ?_
          refine sq (r_pickT (u := .bool (decide (((0 : Int) : Int) ≤ (((gs).getD i g0).b)))) (congrArg Value.bool (decide_eq_true g76)) rfl) ?_
          refine sM (.bool (decide (((0 : Int) : Int) ≤ (((gs).getD i g0).b)))) rfl ?_
          by_cases g77 : ((0 : Int) : Int) ≤ (((gs).getD i g0).b)
          ·skip
           refine sqAny (v := .pointer (some ⟨b42, 2, none⟩)) (w' := w46) (wantedSome (d' := 65) (b := true) rfl rfl (congrArg Value.bool (decide_eq_true g77))) (r_fieldAddr (off' := 2) fld99_2 (by decide) (b := b42) (off := 0) rfl (by omega)) ?_
           refine sqAny (v := i64 (((gs).getD i g0).b)) (w' := w46) (wantedSome (d' := 65) (b := true) rfl rfl (congrArg Value.bool (decide_eq_true g77))) (r_loadC (v := i64 (((gs).getD i g0).b)) one3 (H47'.get (k := 0) rfl) (off := 2) rfl (by rfl)) ?_
           refine sqAny (v := i64 (n + (i : Nat))) (w' := w46) (wantedSome (d' := 65) (b := true) rfl rfl (congrArg Value.bool (decide_eq_true g77))) (r_move (v := i64 (n + (i : Nat))) rfl) ?_
           refine sqAny (v := .bool (decide ((((gs).getD i g0).b : Int) < (n + (i : Nat))))) (w' := w46) (wantedSome (d' := 65) (b := true) rfl rfl (congrArg Value.bool (decide_eq_true g77))) (r_lssI (a := ((gs).getD i g0).b) (b := n + (i : Nat)) rfl rfl) ?_
           refine sq (r_pickT (u := .bool (decide ((((gs).getD i g0).b : Int) < (n + (i : Nat))))) (congrArg Value.bool (decide_eq_true g77)) rfl) ?_
           refine sA (.bool (decide ((((gs).getD i g0).b : Int) < (n + (i : Nat))))) rfl ?_
           refine wnil ?_
           refine blockNormal ?_
           refine thenNormal ?_
           refine sR ?_
           refine sM (.bool (decide ((((gs).getD i g0).b : Int) < (n + (i : Nat))))) rfl ?_
           refine sq (r_not (b := decide ((((gs).getD i g0).b : Int) < (n + (i : Nat)))) rfl) ?_
           refine wend ?_
           refine condBool (!(decide ((((gs).getD i g0).b : Int) < (n + (i : Nat))))) rfl (fun c80 => ?_) (fun c80 => ?_)
           ·skip
            replace c80 : ¬ ((((gs).getD i g0).b : Int) < (n + (i : Nat))) := by simpa using c80
            refine sR ?_
            refine sq (r_mkI und57 (xv := i64 ((90 : Int))) rfl) ?_
            refine sM (i64 (i : Nat)) rfl ?_
            have := H47'.lt (List.mem_of_getElem? (i := 0) rfl) rfl
            have := H47'.lt (List.mem_of_getElem? (i := 1) rfl) rfl
            refine c_call (vs := [.iface 57 (i64 ((90 : Int))), .string ({data := #[103, 97, 116, 101]}), i64 (i : Nat)]) call63 rfl (wrap0_ok (90 : Int) (i : Nat) ({data := #[103, 97, 116, 101]}) w46 (Chg.gl H47'.chg (fun x => x) hG)) ?_
            rintro v80 w78 ⟨hEr81, hE82⟩
            have H83 := H47'.ext hE82
            obtain ⟨T84, x85, rfl⟩ := hEr81.iface
            refine sA (.iface T84 (x85)) rfl ?_
            refine wend ?_
            refine retAny ?_
            refine blockRet ?_
            refine thenRet ?_
            refine thenRet ?_
            refine blockRet ?_
            refine thenRet ?_
            refine retG (rs := [.tmp 2]) (vs := [.iface T84 (x85)]) rfl ⟨⟨rfl, rfl⟩, trivial⟩ ?_
            exact ⟨_, rfl, .inr ⟨hEr81.mono H47'.chg.size, fun hg => by have := hg.gok i (by omega); unfold gokP at this; omega⟩, H83.chg⟩
           ·skip
            replace c80 : (((gs).getD i g0).b : Int) < (n + (i : Nat)) := by simpa using c80
            refine skipAny ?_
            refine blockNormal ?_
            refine thenNormal ?_
            refine oneRegion ?_
            refine sq (r_addI (a := (i : Nat)) (b := (1 : Int)) rfl rfl (by omega)) ?_
            refine sM (i64 ((i : Nat) + (1 : Int))) rfl ?_
            refine wnil ?_
            refine thenNormal ?_
            have hgi : gokP (gs.getD i g0) (n + (i : Nat)) := by unfold gokP; omega
            exact ⟨i + 1, _, rfl, ⟨rfl, rfl, rfl, rfl, trivial⟩, ⟨by omega, fun j hj => if h : j < i then hgs j h else by (rw [show j = i by omega]; exact hgi), (H47'.dropk 0)⟩, by show gs.length - (i + 1) < gs.length - i; omega⟩
          ·skip
           refine skAny (wantedSome (d' := 65) (b := false) rfl rfl (congrArg Value.bool (decide_eq_false g77))) ?_
           refine skAny (wantedSome (d' := 65) (b := false) rfl rfl (congrArg Value.bool (decide_eq_false g77))) ?_
           refine skAny (wantedSome (d' := 65) (b := false) rfl rfl (congrArg Value.bool (decide_eq_false g77))) ?_
           refine skAny (wantedSome (d' := 65) (b := false) rfl rfl (congrArg Value.bool (decide_eq_false g77))) ?_
           refine sq (r_pickF (v := .bool (false)) (congrArg Value.bool (decide_eq_false g77)) rfl) ?_
           refine sA (.bool (false)) rfl ?_
           refine wnil ?_
           refine blockNormal ?_
           refine thenNormal ?_
           refine sR ?_
           refine sM (.bool (false)) rfl ?_
           refine sq (r_notF rfl) ?_
           refine wend ?_
           refine condTrue rfl ?_
           refine sR ?_
           refine sq (r_mkI und57 (xv := i64 ((90 : Int))) rfl) ?_
           refine sM (i64 (i : Nat)) rfl ?_
           have := H47'.lt (List.mem_of_getElem? (i := 0) rfl) rfl
           have := H47'.lt (List.mem_of_getElem? (i := 1) rfl) rfl
           refine c_call (vs := [.iface 57 (i64 ((90 : Int))), .string ({data := #[103, 97, 116, 101]}), i64 (i : Nat)]) call63 rfl (wrap0_ok (90 : Int) (i : Nat) ({data := #[103, 97, 116, 101]}) w46 (Chg.gl H47'.chg (fun x => x) hG)) ?_
           rintro v88 w86 ⟨hEr89, hE90⟩
           have H91 := H47'.ext hE90
           obtain ⟨T92, x93, rfl⟩ := hEr89.iface
           refine sA (.iface T92 (x93)) rfl ?_
           refine wend ?_
           refine retAny ?_
           refine blockRet ?_
           refine thenRet ?_
           refine thenRet ?_
           refine blockRet ?_
           refine thenRet ?_
           refine retG (rs := [.tmp 2]) (vs := [.iface T92 (x93)]) rfl ⟨⟨rfl, rfl⟩, trivial⟩ ?_
           exact ⟨_, rfl, .inr ⟨hEr89.mono H47'.chg.size, fun hg => by have := hg.gok i (by omega); unfold gokP at this; omega⟩, H91.chg⟩
         ·skip
          refine skAny (wantedSome (d' := 60) (b := false) rfl rfl (congrArg Value.bool (decide_eq_false g76))) ?_
          refine skAny (wantedSome (d' := 60) (b := false) rfl rfl (congrArg Value.bool (decide_eq_false g76))) ?_
          refine skAny (wantedSome (d' := 60) (b := false) rfl rfl (congrArg Value.bool (decide_eq_false g76))) ?_
          refine sq (r_pickF (v := .bool (false)) (congrArg Value.bool (decide_eq_false g76)) rfl) ?_
          refine sM (.bool (false)) rfl ?_
          refine skAny (wantedSome (d' := 65) (b := false) rfl rfl rfl) ?_
          refine skAny (wantedSome (d' := 65) (b := false) rfl rfl rfl) ?_
          refine skAny (wantedSome (d' := 65) (b := false) rfl rfl rfl) ?_
          refine skAny (wantedSome (d' := 65) (b := false) rfl rfl rfl) ?_
          refine sq (r_pickF (v := .bool (false)) rfl rfl) ?_
          refine sA (.bool (false)) rfl ?_
          refine wnil ?_
          refine blockNormal ?_
          refine thenNormal ?_
          refine sR ?_
          refine sM (.bool (false)) rfl ?_
          refine sq (r_notF rfl) ?_
          refine wend ?_
          refine condTrue rfl ?_
          refine sR ?_
          refine sq (r_mkI und57 (xv := i64 ((90 : Int))) rfl) ?_
          refine sM (i64 (i : Nat)) rfl ?_
          have := H47'.lt (List.mem_of_getElem? (i := 0) rfl) rfl
          have := H47'.lt (List.mem_of_getElem? (i := 1) rfl) rfl
          refine c_call (vs := [.iface 57 (i64 ((90 : Int))), .string ({data := #[103, 97, 116, 101]}), i64 (i : Nat)]) call63 rfl (wrap0_ok (90 : Int) (i : Nat) ({data := #[103, 97, 116, 101]}) w46 (Chg.gl H47'.chg (fun x => x) hG)) ?_
          rintro v96 w94 ⟨hEr97, hE98⟩
          have H99 := H47'.ext hE98
          obtain ⟨T100, x101, rfl⟩ := hEr97.iface
          refine sA (.iface T100 (x101)) rfl ?_
          refine wend ?_
          refine retAny ?_
          refine blockRet ?_
          refine thenRet ?_
          refine thenRet ?_
          refine blockRet ?_
          refine thenRet ?_
          refine retG (rs := [.tmp 2]) (vs := [.iface T100 (x101)]) rfl ⟨⟨rfl, rfl⟩, trivial⟩ ?_
          exact ⟨_, rfl, .inr ⟨hEr97.mono H47'.chg.size, fun hg => by have := hg.gok i (by omega); unfold gokP at this; omega⟩, H99.chg⟩
        ·skip
         refine sR ?_
         refine sq (r_eqlI (a := ((gs).getD i g0).k) (b := (3 : Int)) rfl rfl) ?_
         refine sA (.bool (decide ((((gs).getD i g0).k : Int) = (3 : Int)))) rfl ?_
         refine wend ?_
         refine condProp ((((gs).getD i g0).k : Int) = (3 : Int)) rfl (fun c71 => ?_) (fun c71 => ?_)
         ·skip
          refine oneRegion ?_
          refine sM (.bool (decide ((((gs).getD i g0).a : Int) < (n + (i : Nat))))) rfl ?_
          refine sM (.bool (decide ((((gs).getD i g0).a : Int) < (n + (i : Nat))))) rfl ?_
          by_cases g102 : (((gs).getD i g0).a : Int) < (n + (i : Nat))
          ·skip
           refine sqAny (v := .pointer (some ⟨b42, 2, none⟩)) (w' := w46) (wantedSome (d' := 74) (b := true) rfl rfl (congrArg Value.bool (decide_eq_true g102))) (r_fieldAddr (off' := 2) fld99_2 (by decide) (b := b42) (off := 0) rfl (by omega)) ?_
           refine sqAny (v := i64 (((gs).getD i g0).b)) (w' := w46) (wantedSome (d' := 74) (b := true) rfl rfl (congrArg Value.bool (decide_eq_true g102))) (r_loadC (v := i64 (((gs).getD i g0).b)) one3 (H47'.get (k := 0) rfl) (off := 2) rfl (by rfl)) ?_
           refine sqAny (v := .bool (decide ((((gs).getD i g0).b : Int) = (0 : Int)))) (w' := w46) (wantedSome (d' := 74) (b := true) rfl rfl (congrArg Value.bool (decide_eq_true g102))) (r_eqlI (a := ((gs).getD i g0).b) (b := (0 : Int)) rfl rfl) ?_
           refine sq (r_pickT (u := .bool (decide ((((gs).getD i g0).b : Int) = (0 : Int)))) (congrArg Value.bool (decide_eq_true g102)) rfl) ?_
           refine sA (.bool (decide ((((gs).getD i g0).b : Int) = (0 : Int)))) rfl ?_
           refine wnil ?_
           refine blockNormal ?_
           refine thenNormal ?_
           refine sR ?_
           refine sM (.bool (decide ((((gs).getD i g0).b : Int) = (0 : Int)))) rfl ?_
           refine sq (r_not (b := decide ((((gs).getD i g0).b : Int) = (0 : Int))) rfl) ?_
           refine wend ?_
           refine condBool (!(decide ((((gs).getD i g0).b : Int) = (0 : Int)))) rfl (fun c80 => ?_) (fun c80 => ?_)
           ·skip
            replace c80 : ¬ ((((gs).getD i g0).b : Int) = (0 : Int)) := by simpa using c80
            refine sR ?_
            refine sq (r_mkI und57 (xv := i64 ((90 : Int))) rfl) ?_
            refine sM (i64 (i : Nat)) rfl ?_
            have := H47'.lt (List.mem_of_getElem? (i := 0) rfl) rfl
            have := H47'.lt (List.mem_of_getElem? (i := 1) rfl) rfl
            refine c_call (vs := [.iface 57 (i64 ((90 : Int))), .string ({data := #[103, 97, 116, 101]}), i64 (i : Nat)]) call63 rfl (wrap0_ok (90 : Int) (i : Nat) ({data := #[103, 97, 116, 101]}) w46 (Chg.gl H47'.chg (fun x => x) hG)) ?_
            rintro v105 w103 ⟨hEr106, hE107⟩
            have H108 := H47'.ext hE107
            obtain ⟨T109, x110, rfl⟩ := hEr106.iface
            refine sA (.iface T109 (x110)) rfl ?_
            refine wend ?_
            refine retAny ?_
            refine blockRet ?_
            refine thenRet ?_
            refine thenRet ?_
            refine blockRet ?_
            refine thenRet ?_
            refine retG (rs := [.tmp 2]) (vs := [.iface T109 (x110)]) rfl ⟨⟨rfl, rfl⟩, trivial⟩ ?_
            exact ⟨_, rfl, .inr ⟨hEr106.mono H47'.chg.size, fun hg => by have := hg.gok i (by omega); unfold gokP at this; omega⟩, H108.chg⟩
           ·skip
            replace c80 : (((gs).getD i g0).b : Int) = (0 : Int) := by simpa using c80
            refine skipAny ?_
            refine blockNormal ?_
            refine thenNormal ?_
            refine oneRegion ?_
            refine sq (r_addI (a := (i : Nat)) (b := (1 : Int)) rfl rfl (by omega)) ?_
            refine sM (i64 ((i : Nat) + (1 : Int))) rfl ?_
            refine wnil ?_
            refine thenNormal ?_
            have hgi : gokP (gs.getD i g0) (n + (i : Nat)) := by unfold gokP; omega
            exact ⟨i + 1, _, rfl, ⟨rfl, rfl, rfl, rfl, trivial⟩, ⟨by omega, fun j hj => if h : j < i then hgs j h else by (rw [show j = i by omega]; exact hgi), (H47'.dropk 0)⟩, by show gs.length - (i + 1) < gs.length - i; omega⟩
          ·skip
           refine skAny (wantedSome (d' := 74) (b := false) rfl rfl (congrArg Value.bool (decide_eq_false g102))) ?_
           refine skAny (wantedSome (d' := 74) (b := false) rfl rfl (congrArg Value.bool (decide_eq_false g102))) ?_
           refine skAny (wantedSome (d' := 74) (b := false) rfl rfl (congrArg Value.bool (decide_eq_false g102))) ?_
           refine sq (r_pickF (v := .bool (false)) (congrArg Value.bool (decide_eq_false g102)) rfl) ?_
           refine sA (.bool (false)) rfl ?_
           refine wnil ?_
           refine blockNormal ?_
           refine thenNormal ?_
           refine sR ?_
           refine sM (.bool (false)) rfl ?_
           refine sq (r_notF rfl) ?_
           refine wend ?_
           refine condTrue rfl ?_
           refine sR ?_
           refine sq (r_mkI und57 (xv := i64 ((90 : Int))) rfl) ?_
           refine sM (i64 (i : Nat)) rfl ?_
           have := H47'.lt (List.mem_of_getElem? (i := 0) rfl) rfl
           have := H47'.lt (List.mem_of_getElem? (i := 1) rfl) rfl
           refine c_call (vs := [.iface 57 (i64 ((90 : Int))), .string ({data := #[103, 97, 116, 101]}), i64 (i : Nat)]) call63 rfl (wrap0_ok (90 : Int) (i : Nat) ({data := #[103, 97, 116, 101]}) w46 (Chg.gl H47'.chg (fun x => x) hG)) ?_
           rintro v113 w111 ⟨hEr114, hE115⟩
           have H116 := H47'.ext hE115
           obtain ⟨T117, x118, rfl⟩ := hEr114.iface
           refine sA (.iface T117 (x118)) rfl ?_
           refine wend ?_
           refine retAny ?_
           refine blockRet ?_
           refine thenRet ?_
           refine thenRet ?_
           refine blockRet ?_
           refine thenRet ?_
           refine retG (rs := [.tmp 2]) (vs := [.iface T117 (x118)]) rfl ⟨⟨rfl, rfl⟩, trivial⟩ ?_
           exact ⟨_, rfl, .inr ⟨hEr114.mono H47'.chg.size, fun hg => by have := hg.gok i (by omega); unfold gokP at this; omega⟩, H116.chg⟩
         ·skip
          refine oneRegion ?_
          refine sA (.bool (false)) rfl ?_
          refine wnil ?_
          refine blockNormal ?_
          refine thenNormal ?_
          refine sR ?_
          refine sM (.bool (false)) rfl ?_
          refine sq (r_notF rfl) ?_
          refine wend ?_
          refine condTrue rfl ?_
          refine sR ?_
          refine sq (r_mkI und57 (xv := i64 ((90 : Int))) rfl) ?_
          refine sM (i64 (i : Nat)) rfl ?_
          have := H47'.lt (List.mem_of_getElem? (i := 0) rfl) rfl
          have := H47'.lt (List.mem_of_getElem? (i := 1) rfl) rfl
          refine c_call (vs := [.iface 57 (i64 ((90 : Int))), .string ({data := #[103, 97, 116, 101]}), i64 (i : Nat)]) call63 rfl (wrap0_ok (90 : Int) (i : Nat) ({data := #[103, 97, 116, 101]}) w46 (Chg.gl H47'.chg (fun x => x) hG)) ?_
          rintro v121 w119 ⟨hEr122, hE123⟩
          have H124 := H47'.ext hE123
          obtain ⟨T125, x126, rfl⟩ := hEr122.iface
          refine sA (.iface T125 (x126)) rfl ?_
          refine wend ?_
          refine retAny ?_
          refine blockRet ?_
          refine thenRet ?_
          refine thenRet ?_
          refine blockRet ?_
          refine thenRet ?_
          refine retG (rs := [.tmp 2]) (vs := [.iface T125 (x126)]) rfl ⟨⟨rfl, rfl⟩, trivial⟩ ?_
          exact ⟨_, rfl, .inr ⟨hEr122.mono H47'.chg.size, fun hg => by have := hg.gok i (by omega); unfold gokP at this; omega⟩, H124.chg⟩
      ·skip
       refine skAny (wantedSome (d' := 48) (b := false) rfl rfl (congrArg Value.bool (decide_eq_false g49))) ?_
       refine skAny (wantedSome (d' := 48) (b := false) rfl rfl (congrArg Value.bool (decide_eq_false g49))) ?_
       refine skAny (wantedSome (d' := 48) (b := false) rfl rfl (congrArg Value.bool (decide_eq_false g49))) ?_
       refine skAny (wantedSome (d' := 48) (b := false) rfl rfl (congrArg Value.bool (decide_eq_false g49))) ?_
       refine sq (r_pickF (v := .bool (false)) (congrArg Value.bool (decide_eq_false g49)) rfl) ?_
       refine sA (.bool (false)) rfl ?_
       refine wend ?_
       refine seqAny ?_
       refine sR ?_
       refine sq (r_fieldAddr (off' := 0) fld99_0 (by decide) (b := b42) (off := 0) rfl (by omega)) ?_
       refine sq (r_loadC (v := i64 (((gs).getD i g0).k)) one97 (H47'.get (k := 0) rfl) (off := 0) rfl (by rfl)) ?_
       refine wend ?_
       refine blockAny ?_
       refine seqAny ?_
       refine sR ?_
       refine sq (r_eqlI (a := ((gs).getD i g0).k) (b := (1 : Int)) rfl rfl) ?_
       refine sA (.bool (decide ((((gs).getD i g0).k : Int) = (1 : Int)))) rfl ?_
       refine wend ?_
       refine condProp ((((gs).getD i g0).k : Int) = (1 : Int)) rfl (fun c56 => ?_) (fun c56 => ?_)
       ·skip
        refine skipAny ?_
        refine thenNormal ?_
        refine condTrue (congrArg Value.bool (decide_eq_true c56)) ?_
        refine oneRegion ?_
        refine sM (.bool (false)) rfl ?_
        refine sM (.bool (false)) rfl ?_
        refine skAny (wantedSome (d' := 60) (b := false) rfl rfl rfl) ?_
        refine skAny (wantedSome (d' := 60) (b := false) rfl rfl rfl) ?_
        refine skAny (wantedSome (d' := 60) (b := false) rfl rfl rfl) ?_
        refine sq (r_pickF (v := .bool (false)) rfl rfl) ?_
        refine sM (.bool (false)) rfl ?_
        refine skAny (wantedSome (d' := 65) (b := false) rfl rfl rfl) ?_
        refine skAny (wantedSome (d' := 65) (b := false) rfl rfl rfl) ?_
        refine skAny (wantedSome (d' := 65) (b := false) rfl rfl rfl) ?_
        refine skAny (wantedSome (d' := 65) (b := false) rfl rfl rfl) ?_
        refine sq (r_pickF (v := .bool (false)) rfl rfl) ?_
        refine sA (.bool (false)) rfl ?_
        refine wnil ?_
        refine blockNormal ?_
        refine thenNormal ?_
        refine sR ?_
        refine sM (.bool (false)) rfl ?_
        refine sq (r_notF rfl) ?_
        refine wend ?_
        refine condTrue rfl ?_
        refine sR ?_
        refine sq (r_mkI und57 (xv := i64 ((90 : Int))) rfl) ?_
        refine sM (i64 (i : Nat)) rfl ?_
        have := H47'.lt (List.mem_of_getElem? (i := 0) rfl) rfl
        have := H47'.lt (List.mem_of_getElem? (i := 1) rfl) rfl
        refine c_call (vs := [.iface 57 (i64 ((90 : Int))), .string ({data := #[103, 97, 116, 101]}), i64 (i : Nat)]) call63 rfl (wrap0_ok (90 : Int) (i : Nat) ({data := #[103, 97, 116, 101]}) w46 (Chg.gl H47'.chg (fun x => x) hG)) ?_
        rintro v129 w127 ⟨hEr130, hE131⟩
        have H132 := H47'.ext hE131
        obtain ⟨T133, x134, rfl⟩ := hEr130.iface
        refine sA (.iface T133 (x134)) rfl ?_
        refine wend ?_
        refine retAny ?_
        refine blockRet ?_
        refine thenRet ?_
        refine thenRet ?_
        refine blockRet ?_
        refine thenRet ?_
        refine retG (rs := [.tmp 2]) (vs := [.iface T133 (x134)]) rfl ⟨⟨rfl, rfl⟩, trivial⟩ ?_
        exact ⟨_, rfl, .inr ⟨hEr130.mono H47'.chg.size, fun hg => by have := hg.gok i (by omega); unfold gokP at this; omega⟩, H132.chg⟩
       ·skip
        refine oneRegion ?_
        refine sq (r_eqlI (a := ((gs).getD i g0).k) (b := (2 : Int)) rfl rfl) ?_
        refine sA (.bool (decide ((((gs).getD i g0).k : Int) = (2 : Int)))) rfl ?_
        refine wnil ?_
        refine thenNormal ?_
        refine condProp ((((gs).getD i g0).k : Int) = (2 : Int)) rfl (fun c56 => ?_) (fun c56 => ?_)
        ·skip
         refine oneRegion ?_
         refine sM (.bool (false)) rfl ?_
         refine sM (.bool (false)) rfl ?_
         refine skAny (wantedSome (d' := 60) (b := false) rfl rfl rfl) ?_
         refine skAny (wantedSome (d' := 60) (b := false) rfl rfl rfl) ?_
         refine skAny (wantedSome (d' := 60) (b := false) rfl rfl rfl) ?_
         refine sq (r_pickF (v := .bool (false)) rfl rfl) ?_
         refine sM (.bool (false)) rfl ?_
         refine skAny (wantedSome (d' := 65) (b := false) rfl rfl rfl) ?_
         refine skAny (wantedSome (d' := 65) (b := false) rfl rfl rfl) ?_
         refine skAny (wantedSome (d' := 65) (b := false) rfl rfl rfl) ?_
         refine skAny (wantedSome (d' := 65) (b := false) rfl rfl rfl) ?_
         refine sq (r_pickF (v := .bool (false)) rfl rfl) ?_
         refine sA (.bool (false)) rfl ?_
         refine wnil ?_
         refine blockNormal ?_
         refine thenNormal ?_
         refine sR ?_
         refine sM (.bool (false)) rfl ?_
         refine sq (r_notF rfl) ?_
         refine wend ?_
         refine condTrue rfl ?_
         refine sR ?_
         refine sq (r_mkI und57 (xv := i64 ((90 : Int))) rfl) ?_
         refine sM (i64 (i : Nat)) rfl ?_
         have := H47'.lt (List.mem_of_getElem? (i := 0) rfl) rfl
         have := H47'.lt (List.mem_of_getElem? (i := 1) rfl) rfl
         refine c_call (vs := [.iface 57 (i64 ((90 : Int))), .string ({data := #[103, 97, 116, 101]}), i64 (i : Nat)]) call63 rfl (wrap0_ok (90 : Int) (i : Nat) ({data := #[103, 97, 116, 101]}) w46 (Chg.gl H47'.chg (fun x => x) hG)) ?_
         rintro v137 w135 ⟨hEr138, hE139⟩
         have H140 := H47'.ext hE139
         obtain ⟨T141, x142, rfl⟩ := hEr138.iface
         refine sA (.iface T141 (x142)) rfl ?_
         refine wend ?_
         refine retAny ?_
         refine blockRet ?_
         refine thenRet ?_
         refine thenRet ?_
         refine blockRet ?_
         refine thenRet ?_
         refine retG (rs := [.tmp 2]) (vs := [.iface T141 (x142)]) rfl ⟨⟨rfl, rfl⟩, trivial⟩ ?_
         exact ⟨_, rfl, .inr ⟨hEr138.mono H47'.chg.size, fun hg => by have := hg.gok i (by omega); unfold gokP at this; omega⟩, H140.chg⟩
        ·skip
         refine sR ?_
         refine sq (r_eqlI (a := ((gs).getD i g0).k) (b := (3 : Int)) rfl rfl) ?_
         refine sA (.bool (decide ((((gs).getD i g0).k : Int) = (3 : Int)))) rfl ?_
         refine wend ?_
         refine condProp ((((gs).getD i g0).k : Int) = (3 : Int)) rfl (fun c71 => ?_) (fun c71 => ?_)
         ·skip
          refine oneRegion ?_
          refine sM (.bool (false)) rfl ?_
          refine sM (.bool (false)) rfl ?_
          refine skAny (wantedSome (d' := 74) (b := false) rfl rfl rfl) ?_
          refine skAny (wantedSome (d' := 74) (b := false) rfl rfl rfl) ?_
          refine skAny (wantedSome (d' := 74) (b := false) rfl rfl rfl) ?_
          refine sq (r_pickF (v := .bool (false)) rfl rfl) ?_
          refine sA (.bool (false)) rfl ?_
          refine wnil ?_
          refine blockNormal ?_
          refine thenNormal ?_
          refine sR ?_
          refine sM (.bool (false)) rfl ?_
          refine sq (r_notF rfl) ?_
          refine wend ?_
          refine condTrue rfl ?_
          refine sR ?_
          refine sq (r_mkI und57 (xv := i64 ((90 : Int))) rfl) ?_
          refine sM (i64 (i : Nat)) rfl ?_
          have := H47'.lt (List.mem_of_getElem? (i := 0) rfl) rfl
          have := H47'.lt (List.mem_of_getElem? (i := 1) rfl) rfl
          refine c_call (vs := [.iface 57 (i64 ((90 : Int))), .string ({data := #[103, 97, 116, 101]}), i64 (i : Nat)]) call63 rfl (wrap0_ok (90 : Int) (i : Nat) ({data := #[103, 97, 116, 101]}) w46 (Chg.gl H47'.chg (fun x => x) hG)) ?_
          rintro v145 w143 ⟨hEr146, hE147⟩
          have H148 := H47'.ext hE147
          obtain ⟨T149, x150, rfl⟩ := hEr146.iface
          refine sA (.iface T149 (x150)) rfl ?_
          refine wend ?_
          refine retAny ?_
          refine blockRet ?_
          refine thenRet ?_
          refine thenRet ?_
          refine blockRet ?_
          refine thenRet ?_
          refine retG (rs := [.tmp 2]) (vs := [.iface T149 (x150)]) rfl ⟨⟨rfl, rfl⟩, trivial⟩ ?_
          exact ⟨_, rfl, .inr ⟨hEr146.mono H47'.chg.size, fun hg => by have := hg.gok i (by omega); unfold gokP at this; omega⟩, H148.chg⟩
         ·skip
          refine oneRegion ?_
          refine sA (.bool (false)) rfl ?_
          refine wnil ?_
          refine blockNormal ?_
          refine thenNormal ?_
          refine sR ?_
          refine sM (.bool (false)) rfl ?_
          refine sq (r_notF rfl) ?_
          refine wend ?_
          refine condTrue rfl ?_
          refine sR ?_
          refine sq (r_mkI und57 (xv := i64 ((90 : Int))) rfl) ?_
          refine sM (i64 (i : Nat)) rfl ?_
          have := H47'.lt (List.mem_of_getElem? (i := 0) rfl) rfl
          have := H47'.lt (List.mem_of_getElem? (i := 1) rfl) rfl
          refine c_call (vs := [.iface 57 (i64 ((90 : Int))), .string ({data := #[103, 97, 116, 101]}), i64 (i : Nat)]) call63 rfl (wrap0_ok (90 : Int) (i : Nat) ({data := #[103, 97, 116, 101]}) w46 (Chg.gl H47'.chg (fun x => x) hG)) ?_
          rintro v153 w151 ⟨hEr154, hE155⟩
          have H156 := H47'.ext hE155
          obtain ⟨T157, x158, rfl⟩ := hEr154.iface
          refine sA (.iface T157 (x158)) rfl ?_
          refine wend ?_
          refine retAny ?_
          refine blockRet ?_
          refine thenRet ?_
          refine thenRet ?_
          refine blockRet ?_
          refine thenRet ?_
          refine retG (rs := [.tmp 2]) (vs := [.iface T157 (x158)]) rfl ⟨⟨rfl, rfl⟩, trivial⟩ ?_
          exact ⟨_, rfl, .inr ⟨hEr154.mono H47'.chg.size, fun hg => by have := hg.gok i (by omega); unfold gokP at this; omega⟩, H156.chg⟩
     ·skip
      refine exitAny ?_
      refine thenExit ?_
      refine thenExit ?_
      refine blockHere ?_
      refine thenNormal ?_
      refine seqAny ?_
      refine sR ?_
      refine sq (r_fieldAddr (off' := 2) fld70_2 (by decide) (b := b1) (off := 0) rfl (by omega)) ?_
      refine sq (r_loadC (v := .slice oa ol.length oc) one60 (HL.get (k := 0) rfl) (off := 2) rfl (by rfl)) ?_
      refine sq (r_lenS sli60 (a := oa) (m := ol.length) (c := oc) rfl) ?_
      refine sM (i64 ((0 : Int))) rfl ?_
      refine wend ?_
      refine blockAny ?_
      refine loopAny (σ := Nat) (fun q => [(1, pT b1), (86, .slice oa ol.length oc), (87, i64 (ol.length : Nat)), (88, i64 (q : Nat))]) (fun q w' => q ≤ ol.length ∧ (∀ j, j < q → 0 ≤ ol.getD j 0 ∧ ol.getD j 0 < n + (gs.length : Nat)) ∧ Hp No w w' [(some b1, .cells #[i64 (n), .slice ga gs.length gc, .slice oa ol.length oc] 70 (0, 0))]) (fun q => ol.length - q) (0) ?_ ?_ ?_
      ·exact ⟨rfl, rfl, rfl, rfl, trivial⟩
      ·exact ⟨by omega, fun j hj => by omega, HL⟩
      rintro q ρ w159 ⟨hq, hos, HL2⟩
      refine sR ?_
      refine sq (r_lssI (a := (q : Nat)) (b := (ol.length : Nat)) rfl rfl) ?_
      refine wend ?_
      refine seqAny ?_
      refine condProp (((q : Nat) : Int) < (ol.length : Nat)) rfl (fun c89 => ?_) (fun c89 => ?_)
      ·skip
       refine skipAny ?_
       refine thenNormal ?_
       refine seqAny ?_
       refine blockAny ?_
       refine sR ?_
       refine sM (i64 (q : Nat)) rfl ?_
       refine sq (r_idxS (E := EI) (l := ol) (j := q) sli60 (hOl.ext HL2.chg) rfl rfl (by first | rfl | omega | (simp; omega)) (by rfl) (by omega)) ?_
       refine sq (r_ldS (E := EI) (l := ol) (j := q) (v := (ol).getD q 0) fits3 (hOl.ext HL2.chg) rfl rfl (at_getD (by omega))) ?_
       refine sA (i64 (q : Nat)) rfl ?_
       refine sA (i64 ((ol).getD q 0)) rfl ?_
       refine wend ?_
       refine sR ?_
       refine sM (i64 ((ol).getD q 0)) rfl ?_
       refine sq (r_lssI (a := (ol).getD q 0) (b := (0 : Int)) rfl rfl) ?_
       refine sM (.bool (decide (((ol).getD q 0 : Int) < (0 : Int)))) rfl ?_
       by_cases g161 : ((ol).getD q 0 : Int) < (0 : Int)
       ·skip
        refine skAny (wantedSome (d' := 95) (b := true) rfl rfl (congrArg Value.bool (decide_eq_true g161))) ?_
        refine skAny (wantedSome (d' := 95) (b := true) rfl rfl (congrArg Value.bool (decide_eq_true g161))) ?_
        refine skAny (wantedSome (d' := 95) (b := true) rfl rfl (congrArg Value.bool (decide_eq_true g161))) ?_
        refine skAny (wantedSome (d' := 95) (b := true) rfl rfl (congrArg Value.bool (decide_eq_true g161))) ?_
        refine skAny (wantedSome (d' := 95) (b := true) rfl rfl (congrArg Value.bool (decide_eq_true g161))) ?_
        refine skAny (wantedSome (d' := 95) (b := true) rfl rfl (congrArg Value.bool (decide_eq_true g161))) ?_
        refine skAny (wantedSome (d' := 95) (b := true) rfl rfl (congrArg Value.bool (decide_eq_true g161))) ?_
        refine skAny (wantedSome (d' := 95) (b := true) rfl rfl (congrArg Value.bool (decide_eq_true g161))) ?_
        refine sq (r_pickT (u := .bool (true)) (congrArg Value.bool (decide_eq_true g161)) rfl) ?_
        refine wend ?_
        refine condTrue rfl ?_
        refine sR ?_
        refine sq (r_mkI und57 (xv := i64 ((90 : Int))) rfl) ?_
        refine sM (i64 (q : Nat)) rfl ?_
        have := HL2.lt (List.mem_of_getElem? (i := 0) rfl) rfl
        refine c_call (vs := [.iface 57 (i64 ((90 : Int))), .string ({data := #[111, 117, 116]}), i64 (q : Nat)]) call63 rfl (wrap0_ok (90 : Int) (q : Nat) ({data := #[111, 117, 116]}) w159 (Chg.gl HL2.chg (fun x => x) hG)) ?_
        rintro v164 w162 ⟨hEr165, hE166⟩
        have H167 := HL2.ext hE166
        obtain ⟨T168, x169, rfl⟩ := hEr165.iface
        refine sA (.iface T168 (x169)) rfl ?_
        refine wend ?_
        refine retAny ?_
        refine blockRet ?_
        refine thenRet ?_
        refine thenRet ?_
        refine blockRet ?_
        refine thenRet ?_
        refine retG (rs := [.tmp 2]) (vs := [.iface T168 (x169)]) rfl ⟨⟨rfl, rfl⟩, trivial⟩ ?_
        exact ⟨_, rfl, .inr ⟨hEr165.mono HL2.chg.size, fun hg => by have := hg.ook q (by omega); omega⟩, H167.chg⟩
       ·skip
        refine sqAny (v := i64 ((ol).getD q 0)) (w' := w159) (wantedSome (d' := 95) (b := false) rfl rfl (congrArg Value.bool (decide_eq_false g161))) (r_move (v := i64 ((ol).getD q 0)) rfl) ?_
        refine sqAny (v := pT b1) (w' := w159) (wantedSome (d' := 95) (b := false) rfl rfl (congrArg Value.bool (decide_eq_false g161))) (r_fieldAddr (off' := 0) fld70_0 (by decide) (b := b1) (off := 0) rfl (by omega)) ?_
        refine sqAny (v := i64 (n)) (w' := w159) (wantedSome (d' := 95) (b := false) rfl rfl (congrArg Value.bool (decide_eq_false g161))) (r_loadC (v := i64 (n)) one3 (HL2.get (k := 0) rfl) (off := 0) rfl (by rfl)) ?_
        refine sqAny (v := .pointer (some ⟨b1, 1, none⟩)) (w' := w159) (wantedSome (d' := 95) (b := false) rfl rfl (congrArg Value.bool (decide_eq_false g161))) (r_fieldAddr (off' := 1) fld70_1 (by decide) (b := b1) (off := 0) rfl (by omega)) ?_
        refine sqAny (v := .slice ga gs.length gc) (w' := w159) (wantedSome (d' := 95) (b := false) rfl rfl (congrArg Value.bool (decide_eq_false g161))) (r_loadC (v := .slice ga gs.length gc) one68 (HL2.get (k := 0) rfl) (off := 1) rfl (by rfl)) ?_
        refine sqAny (v := i64 (gs.length : Nat)) (w' := w159) (wantedSome (d' := 95) (b := false) rfl rfl (congrArg Value.bool (decide_eq_false g161))) (r_lenS sli68 (a := ga) (m := gs.length) (c := gc) rfl) ?_
        refine sqAny (v := i64 (n + (gs.length : Nat))) (w' := w159) (wantedSome (d' := 95) (b := false) rfl rfl (congrArg Value.bool (decide_eq_false g161))) (r_addI (a := n) (b := (gs.length : Nat)) rfl rfl (by omega)) ?_
        refine sqAny (v := .bool (decide ((n + (gs.length : Nat) : Int) ≤ ((ol).getD q 0)))) (w' := w159) (wantedSome (d' := 95) (b := false) rfl rfl (congrArg Value.bool (decide_eq_false g161))) (r_geqI (a := (ol).getD q 0) (b := n + (gs.length : Nat)) rfl rfl) ?_
        refine sq (r_pickF (v := .bool (decide ((n + (gs.length : Nat) : Int) ≤ ((ol).getD q 0)))) (congrArg Value.bool (decide_eq_false g161)) rfl) ?_
        refine wend ?_
        refine condProp ((n + (gs.length : Nat) : Int) ≤ ((ol).getD q 0)) rfl (fun c104 => ?_) (fun c104 => ?_)
        ·skip
         refine sR ?_
         refine sq (r_mkI und57 (xv := i64 ((90 : Int))) rfl) ?_
         refine sM (i64 (q : Nat)) rfl ?_
         have := HL2.lt (List.mem_of_getElem? (i := 0) rfl) rfl
         refine c_call (vs := [.iface 57 (i64 ((90 : Int))), .string ({data := #[111, 117, 116]}), i64 (q : Nat)]) call63 rfl (wrap0_ok (90 : Int) (q : Nat) ({data := #[111, 117, 116]}) w159 (Chg.gl HL2.chg (fun x => x) hG)) ?_
         rintro v172 w170 ⟨hEr173, hE174⟩
         have H175 := HL2.ext hE174
         obtain ⟨T176, x177, rfl⟩ := hEr173.iface
         refine sA (.iface T176 (x177)) rfl ?_
         refine wend ?_
         refine retAny ?_
         refine blockRet ?_
         refine thenRet ?_
         refine thenRet ?_
         refine blockRet ?_
         refine thenRet ?_
         refine retG (rs := [.tmp 2]) (vs := [.iface T176 (x177)]) rfl ⟨⟨rfl, rfl⟩, trivial⟩ ?_
         exact ⟨_, rfl, .inr ⟨hEr173.mono HL2.chg.size, fun hg => by have := hg.ook q (by omega); omega⟩, H175.chg⟩
        ·skip
         refine skipAny ?_
         refine blockNormal ?_
         refine thenNormal ?_
         refine oneRegion ?_
         refine sq (r_addI (a := (q : Nat)) (b := (1 : Int)) rfl rfl (by omega)) ?_
         refine sM (i64 ((q : Nat) + (1 : Int))) rfl ?_
         refine wnil ?_
         refine thenNormal ?_
         exact ⟨q + 1, _, rfl, ⟨rfl, rfl, rfl, rfl, trivial⟩, ⟨by omega, fun j hj => if h : j < q then hos j h else by (rw [show j = q by omega]; omega), HL2⟩, by show ol.length - (q + 1) < ol.length - q; omega⟩
      ·skip
       refine exitAny ?_
       refine thenExit ?_
       refine thenExit ?_
       refine blockHere ?_
       refine thenNormal ?_
       refine sR ?_
       refine sA (.nilIface) rfl ?_
       refine wend ?_
       refine retAny ?_
       refine retG (rs := [.tmp 2]) (vs := [.nilIface]) rfl ⟨⟨rfl, rfl⟩, trivial⟩ ?_
       exact ⟨_, rfl, .inl ⟨rfl, ⟨by omega, by omega, by omega, by omega, fun j hj => hgs j (by omega), fun j hj => hos j (by omega)⟩⟩, HL2.chg⟩
theorem ands_ok (n : Int) (gs : List Gt) (ol : List Int) (ga oa : Option Addr) (gc oc : Nat) (w : World) (hGs : Rd EG w ga gs) (hgl : gs.length ≤ 140737488355328) : Calls Tryd.prog 32 [.agg #[i64 (n), .slice ga gs.length gc, .slice oa ol.length oc]].toArray w (Ret fun v w' => v = i64 ((andsS gs gs.length : Nat)) ∧ Ext w w') := by
 have H := Hp.start No w
 refine enter (n := 20) Tryd.func32 rfl rfl (bLe rfl) ?_
 refine sR ?_
 refine q_box (v := .agg #[i64 (n), .slice ga gs.length gc, .slice oa ol.length oc]) (o := .cells #[i64 (n), .slice ga gs.length gc, .slice oa ol.length oc] 70 (0, 0)) H rfl (by rfl) ?_
 intro b1 w2 hb1 H3 hE4
 refine sA (i64 ((0 : Int))) rfl ?_
 refine wend ?_
 refine sR ?_
 refine sA (i64 ((0 : Int))) rfl ?_
 refine wend ?_
 refine seqAny ?_
 refine sR ?_
 refine sq (r_fieldAddr (off' := 1) fld70_1 (by decide) (b := b1) (off := 0) rfl (by omega)) ?_
 refine sq (r_loadC (v := .slice ga gs.length gc) one68 (H3.get (k := 0) rfl) (off := 1) rfl (by rfl)) ?_
 refine sq (r_lenS sli68 (a := ga) (m := gs.length) (c := gc) rfl) ?_
 refine sM (i64 ((0 : Int))) rfl ?_
 refine wend ?_
 refine blockAny ?_
 refine loopAny (σ := Nat) (fun i => [(1, pT b1), (3, i64 ((andsS gs i : Nat))), (7, .slice ga gs.length gc), (8, i64 (gs.length : Nat)), (9, i64 (i : Nat))]) (fun i w' => i ≤ gs.length ∧ Hp No w w' [(some b1, .cells #[i64 (n), .slice ga gs.length gc, .slice oa ol.length oc] 70 (0, 0))]) (fun i => gs.length - i) (0) ?_ ?_ ?_
 ·exact ⟨rfl, rfl, rfl, rfl, rfl, trivial⟩
 ·exact ⟨by omega, H3⟩
 rintro i ρ w5 ⟨hi, HL⟩
 have hle := andsS_le gs i
 refine sR ?_
 refine sq (r_lssI (a := (i : Nat)) (b := (gs.length : Nat)) rfl rfl) ?_
 refine wend ?_
 refine seqAny ?_
 refine condProp (((i : Nat) : Int) < (gs.length : Nat)) rfl (fun c10 => ?_) (fun c10 => ?_)
 ·skip
  refine skipAny ?_
  refine thenNormal ?_
  refine seqAny ?_
  refine blockAny ?_
  refine sR ?_
  refine sq (r_idxS (E := EG) (l := gs) (j := i) sli68 (hGs.ext HL.chg) rfl rfl (by first | rfl | omega | (simp; omega)) (by rfl) (by omega)) ?_
  refine sq ((r_ldS (E := EG) (l := gs) (j := i) (v := (gs).getD i g0) fits99 (hGs.ext HL.chg) rfl rfl (at_getD (by omega))).as (v' := .agg #[i64 (((gs).getD i g0).k), i64 (((gs).getD i g0).a), i64 (((gs).getD i g0).b)]) rfl) ?_
  refine q_alloc (o := .cells #[i64 ((0 : Int)), i64 ((0 : Int)), i64 ((0 : Int))] 99 (0, 0)) HL zer99 (by kernel_rfl) ?_
  intro b7 w8 hb7 H9 hE10
  refine d_store (k := 0) (v := .agg #[i64 (((gs).getD i g0).k), i64 (((gs).getD i g0).a), i64 (((gs).getD i g0).b)]) (cs' := #[i64 (((gs).getD i g0).k), i64 (((gs).getD i g0).a), i64 (((gs).getD i g0).b)]) H9 rfl rfl rfl siz99 (by rfl) (by intro u hu; simp [Value.cells] at hu; first | (subst hu; rfl) | (rcases hu with rfl | rfl | rfl <;> rfl)) (by exact bLe rfl) (by rfl) ?_
  intro w11 H12 hC13
  have H12' := H12.as (L' := [(some b7, .cells #[i64 (((gs).getD i g0).k), i64 (((gs).getD i g0).a), i64 (((gs).getD i g0).b)] 99 (0, 0)), (some b1, .cells #[i64 (n), .slice ga gs.length gc, .slice oa ol.length oc] 70 (0, 0))]) rfl
  clear H12
  refine wend ?_
  refine sR ?_
  refine sq (r_fieldAddr (off' := 0) fld99_0 (by decide) (b := b7) (off := 0) rfl (by omega)) ?_
  refine sq (r_loadC (v := i64 (((gs).getD i g0).k)) one97 (H12'.get (k := 0) rfl) (off := 0) rfl (by rfl)) ?_
  refine sq (r_eqlI (a := ((gs).getD i g0).k) (b := (2 : Int)) rfl rfl) ?_
  refine wend ?_
  refine condProp ((((gs).getD i g0).k : Int) = (2 : Int)) rfl (fun c15 => ?_) (fun c15 => ?_)
  ·skip
   refine oneRegion ?_
   refine sM (i64 ((andsS gs i : Nat))) rfl ?_
   refine sq (r_addI (a := (andsS gs i : Nat)) (b := (1 : Int)) rfl rfl (by omega)) ?_
   refine sA (i64 ((andsS gs i : Nat) + (1 : Int))) rfl ?_
   refine wnil ?_
   refine blockNormal ?_
   refine thenNormal ?_
   refine oneRegion ?_
   refine sq (r_addI (a := (i : Nat)) (b := (1 : Int)) rfl rfl (by omega)) ?_
   refine sM (i64 ((i : Nat) + (1 : Int))) rfl ?_
   refine wnil ?_
   refine thenNormal ?_
   exact ⟨i + 1, _, rfl, ⟨rfl, congrArg i64 (by rw [andsS, if_pos c15]; rfl), rfl, rfl, rfl, trivial⟩, ⟨by omega, (H12'.dropk 0)⟩, by show gs.length - (i + 1) < gs.length - i; omega⟩
  ·skip
   refine skipAny ?_
   refine blockNormal ?_
   refine thenNormal ?_
   refine oneRegion ?_
   refine sq (r_addI (a := (i : Nat)) (b := (1 : Int)) rfl rfl (by omega)) ?_
   refine sM (i64 ((i : Nat) + (1 : Int))) rfl ?_
   refine wnil ?_
   refine thenNormal ?_
   exact ⟨i + 1, _, rfl, ⟨rfl, congrArg i64 (by rw [andsS, if_neg c15]), rfl, rfl, rfl, trivial⟩, ⟨by omega, (H12'.dropk 0)⟩, by show gs.length - (i + 1) < gs.length - i; omega⟩
 ·skip
  obtain rfl : i = gs.length := by omega
  refine exitAny ?_
  refine thenExit ?_
  refine thenExit ?_
  refine blockHere ?_
  refine thenNormal ?_
  refine sR ?_
  refine sM (i64 ((andsS gs gs.length : Nat))) rfl ?_
  refine sA (i64 ((andsS gs gs.length : Nat))) rfl ?_
  refine wend ?_
  refine retAny ?_
  refine retG (rs := [.tmp 2]) (vs := [i64 ((andsS gs gs.length : Nat))]) rfl ⟨⟨rfl, rfl⟩, trivial⟩ ?_
  exact ⟨_, rfl, rfl, HL.chg⟩
set_option maxHeartbeats 2000000 in
theorem eval_ok (n : Int) (gs : List Gt) (ol : List Int) (ga oa : Option Addr) (gc oc : Nat) (inp : List Bool) (ia : Option Addr) (ic : Nat) (w : World) (hG : Gl w) (hGs : Rd EG w ga gs) (hOl : Rd EI w oa ol) (hgl : gs.length ≤ 140737488355328) (hol : ol.length ≤ 140737488355328) (hIn : Rd EB w ia inp) : Calls Tryd.prog 37 [.agg #[i64 (n), .slice ga gs.length gc, .slice oa ol.length oc], .slice ia inp.length ic].toArray w (Ret fun v w' => ((IsC n gs ol ∧ (inp.length : Int) = n ∧ ∃ r, v = .tuple #[r, .nilIface] ∧ SlRes EB 4 (evalS gs ol inp) w r w') ∨ (∃ ev, v = .tuple #[.slice none 0 0, ev] ∧ ((¬ IsC n gs ol ∧ Er w.heap.size w' 90 1 ev) ∨ (IsC n gs ol ∧ (inp.length : Int) ≠ n ∧ Er w.heap.size w' 1 1 ev)))) ∧ Ext w w') := by
 have H := Hp.start No w
 refine enter (n := 95) Tryd.func37 rfl rfl (bLe rfl) ?_
 refine sR ?_
 refine q_box (v := .agg #[i64 (n), .slice ga gs.length gc, .slice oa ol.length oc]) (o := .cells #[i64 (n), .slice ga gs.length gc, .slice oa ol.length oc] 70 (0, 0)) H rfl (by rfl) ?_
 intro b1 w2 hb1 H3 hE4
 refine sA (.slice none 0 0) rfl ?_
 refine sA (.nilIface) rfl ?_
 refine wend ?_
 refine seqAny ?_
 refine sR ?_
 refine sq (r_loadA (cs' := #[i64 (n), .slice ga gs.length gc, .slice oa ol.length oc]) agg70 siz70 (H3.get (k := 0) rfl) (off := 0) rfl (by exact bLe rfl) (by rfl)) ?_
 have := H3.lt (List.mem_of_getElem? (i := 0) rfl) rfl
 refine c_call (vs := [.agg #[i64 (n), .slice ga gs.length gc, .slice oa ol.length oc]]) call31 rfl (check_ok n gs ol ga oa gc oc w2 (Chg.gl H3.chg (fun x => x) hG) (hGs.ext H3.chg) (hOl.ext H3.chg) (by omega) (by omega)) ?_
 rintro v7 w5 ⟨⟨rfl, hg10⟩ | ⟨hEr11, hg10⟩, hE8⟩
 ·skip
  have H9 := H3.ext hE8
  have hlo := hg10.lo
  have hhi := hg10.hi
  have hgt := hg10.gates
  have hou := hg10.outs
  refine sA (.nilIface) rfl ?_
  refine wend ?_
  refine sR ?_
  refine sM (.nilIface) rfl ?_
  refine sq (r_neqNN isI27 rfl rfl) ?_
  refine wend ?_
  refine condFalse rfl ?_
  refine skipAny ?_
  refine thenNormal ?_
  refine seqAny ?_
  refine sR ?_
  refine sM (.slice ia inp.length ic) rfl ?_
  refine sq (r_lenS sli76 (a := ia) (m := inp.length) (c := ic) rfl) ?_
  refine sq (r_fieldAddr (off' := 0) fld70_0 (by decide) (b := b1) (off := 0) rfl (by omega)) ?_
  refine sq (r_loadC (v := i64 (n)) one3 (H9.get (k := 0) rfl) (off := 0) rfl (by rfl)) ?_
  refine sq (r_neqI (a := (inp.length : Nat)) (b := n) rfl rfl) ?_
  refine wend ?_
  refine condProp (((inp.length : Nat) : Int) ≠ n) rfl (fun c23 => ?_) (fun c23 => ?_)
  ·skip
   refine sR ?_
   refine sq (r_mkI und57 (xv := i64 ((1 : Int))) rfl) ?_
   refine sM (.slice ia inp.length ic) rfl ?_
   refine sq (r_lenS sli76 (a := ia) (m := inp.length) (c := ic) rfl) ?_
   have := H9.lt (List.mem_of_getElem? (i := 0) rfl) rfl
   refine c_call (vs := [.iface 57 (i64 ((1 : Int))), .string ({data := #[105, 110, 112, 117, 116, 115]}), i64 (inp.length : Nat)]) call63 rfl (wrap0_ok (1 : Int) (inp.length : Nat) ({data := #[105, 110, 112, 117, 116, 115]}) w5 (Chg.gl H9.chg (fun x => x) hG)) ?_
   rintro v16 w14 ⟨hEr17, hE18⟩
   have H19 := H9.ext hE18
   obtain ⟨T20, x21, rfl⟩ := hEr17.iface
   refine sA (.slice none 0 0) rfl ?_
   refine sA (.iface T20 (x21)) rfl ?_
   refine wend ?_
   refine retAny ?_
   refine thenRet ?_
   refine retG (rs := [.tmp 4, .tmp 5]) (vs := [.slice none 0 0, .iface T20 (x21)]) rfl ⟨⟨rfl, rfl⟩, ⟨rfl, rfl⟩, trivial⟩ ?_
   exact ⟨_, rfl, .inr ⟨_, rfl, .inr ⟨hg10, by omega, hEr17.mono H9.chg.size⟩⟩, H19.chg⟩
  ·skip
   refine skipAny ?_
   refine thenNormal ?_
   refine sR ?_
   refine sq (r_fieldAddr (off' := 0) fld70_0 (by decide) (b := b1) (off := 0) rfl (by omega)) ?_
   refine sq (r_loadC (v := i64 (n)) one3 (H9.get (k := 0) rfl) (off := 0) rfl (by rfl)) ?_
   refine sq (r_fieldAddr (off' := 1) fld70_1 (by decide) (b := b1) (off := 0) rfl (by omega)) ?_
   refine sq (r_loadC (v := .slice ga gs.length gc) one68 (H9.get (k := 0) rfl) (off := 1) rfl (by rfl)) ?_
   refine sq (r_lenS sli68 (a := ga) (m := gs.length) (c := gc) rfl) ?_
   refine sq (r_addI (a := n) (b := (gs.length : Nat)) rfl rfl (by omega)) ?_
   refine q_makeSlice (E := EB) (m := 0) (c := (n.toNat + gs.length)) (z0 := false) H9 sli76 zer4 rfl byt4 rfl rfl (by first | rfl | omega | (simp; omega)) (by first | rfl | omega | (simp; omega)) (by omega) (by omega) ?_
   intro b22 w24 hS23 H25 hE26
   refine sM (.slice ia inp.length ic) rfl ?_
   refine q_append (E := EB) (k := 0) (l := List.replicate 0 false) (l2 := inp) H25 rfl hS23 sli76 zer4 rfl byt4 (hIn.ext H25.chg) rfl (by simp) rfl (by rfl) (by omega) ?_
   intro key27 c28 sp29 w31 hS30 hne33 H32
   have H32' := H32.as (L' := [(key27, sob EB 4 ((List.replicate 0 false) ++ inp) sp29), (some b1, .cells #[i64 (n), .slice ga gs.length gc, .slice oa ol.length oc] 70 (0, 0))]) rfl
   clear H32
   have e34 : (List.replicate 0 false) ++ inp = wS gs inp 0 := by rfl
   have hS35 := hS30
   rw [e34] at hS35
   have H36 := H32'.as (L' := [(key27, sob EB 4 (wS gs inp 0) sp29), (some b1, .cells #[i64 (n), .slice ga gs.length gc, .slice oa ol.length oc] 70 (0, 0))]) (by rw [e34])
   refine sA (.slice (ownA key27) (0 + inp.length) c28) rfl ?_
   refine wend ?_
   refine seqAny ?_
   refine sR ?_
   refine sq (r_fieldAddr (off' := 1) fld70_1 (by decide) (b := b1) (off := 0) rfl (by omega)) ?_
   refine sq (r_loadC (v := .slice ga gs.length gc) one68 (H36.get (k := 1) rfl) (off := 1) rfl (by rfl)) ?_
   refine sq (r_lenS sli68 (a := ga) (m := gs.length) (c := gc) rfl) ?_
   refine sM (i64 ((0 : Int))) rfl ?_
   refine wend ?_
   refine blockAny ?_
   refine loopAny (σ := Nat × Option Nat × Nat × List Value) (fun (i, key, c, sp) => [(2, pT b1), (7, .slice (ownA key) (inp.length + i) c), (38, .slice ga gs.length gc), (39, i64 (gs.length : Nat)), (40, i64 (i : Nat))]) (fun (i, key, c, sp) w' => i ≤ gs.length ∧ Sl EB key (wS gs inp i) c sp ∧ Hp No w w' [(key, sob EB 4 (wS gs inp i) sp), (some b1, .cells #[i64 (n), .slice ga gs.length gc, .slice oa ol.length oc] 70 (0, 0))]) (fun (i, key, c, sp) => gs.length - i) ((0, key27, c28, sp29)) ?_ ?_ ?_
   ·exact ⟨rfl, congrArg (fun q => Value.slice _ q _) (by omega), rfl, rfl, rfl, trivial⟩
   ·exact ⟨by omega, hS35, H36⟩
   rintro ⟨i, key, c, sp⟩ ρ w37 ⟨hi, hS, HL⟩
   have hl := wS_len gs inp i
   refine sR ?_
   refine sq (r_lssI (a := (i : Nat)) (b := (gs.length : Nat)) rfl rfl) ?_
   refine wend ?_
   refine seqAny ?_
   refine condProp (((i : Nat) : Int) < (gs.length : Nat)) rfl (fun c41 => ?_) (fun c41 => ?_)
   ·skip
    have hgi := hg10.gok i (by omega)
    unfold gokP at hgi
    refine skipAny ?_
    refine thenNormal ?_
    refine seqAny ?_
    refine blockAny ?_
    refine sR ?_
    refine sq (r_idxS (E := EG) (l := gs) (j := i) sli68 (hGs.ext HL.chg) rfl rfl (by first | rfl | omega | (simp; omega)) (by rfl) (by omega)) ?_
    refine sq ((r_ldS (E := EG) (l := gs) (j := i) (v := (gs).getD i g0) fits99 (hGs.ext HL.chg) rfl rfl (at_getD (by omega))).as (v' := .agg #[i64 (((gs).getD i g0).k), i64 (((gs).getD i g0).a), i64 (((gs).getD i g0).b)]) rfl) ?_
    refine q_alloc (o := .cells #[i64 ((0 : Int)), i64 ((0 : Int)), i64 ((0 : Int))] 99 (0, 0)) HL zer99 (by kernel_rfl) ?_
    intro b39 w40 hb39 H41 hE42
    refine d_store (k := 0) (v := .agg #[i64 (((gs).getD i g0).k), i64 (((gs).getD i g0).a), i64 (((gs).getD i g0).b)]) (cs' := #[i64 (((gs).getD i g0).k), i64 (((gs).getD i g0).a), i64 (((gs).getD i g0).b)]) H41 rfl rfl rfl siz99 (by rfl) (by intro u hu; simp [Value.cells] at hu; first | (subst hu; rfl) | (rcases hu with rfl | rfl | rfl <;> rfl)) (by exact bLe rfl) (by rfl) ?_
    intro w43 H44 hC45
    have H44' := H44.as (L' := [(some b39, .cells #[i64 (((gs).getD i g0).k), i64 (((gs).getD i g0).a), i64 (((gs).getD i g0).b)] 99 (0, 0)), (key, sob EB 4 (wS gs inp i) sp), (some b1, .cells #[i64 (n), .slice ga gs.length gc, .slice oa ol.length oc] 70 (0, 0))]) rfl
    clear H44
    refine wend ?_
    refine sR ?_
    refine sM (.slice (ownA key) (inp.length + i) c) rfl ?_
    refine sq (r_fieldAddr (off' := 1) fld99_1 (by decide) (b := b39) (off := 0) rfl (by omega)) ?_
    refine sq (r_loadC (v := i64 (((gs).getD i g0).a)) one3 (H44'.get (k := 0) rfl) (off := 1) rfl (by rfl)) ?_
    refine sq (r_idxS (E := EB) (l := wS gs inp i) (j := ((gs.getD i g0).a).toNat) sli76 (H44'.rd (k := 1) rfl hS) rfl rfl (by omega) (by omega) (by omega)) ?_
    refine sq (r_ldS (E := EB) (l := wS gs inp i) (j := ((gs.getD i g0).a).toNat) (v := (wS gs inp i).getD (((gs.getD i g0).a).toNat) false) fits4 (H44'.rd (k := 1) rfl hS) rfl rfl (at_getD (by omega))) ?_
    refine sA (.bool ((wS gs inp i).getD (((gs.getD i g0).a).toNat) false)) rfl ?_
    refine wend ?_
    refine seqAny ?_
    refine sR ?_
    refine sq (r_fieldAddr (off' := 0) fld99_0 (by decide) (b := b39) (off := 0) rfl (by omega)) ?_
    refine sq (r_loadC (v := i64 (((gs).getD i g0).k)) one97 (H44'.get (k := 0) rfl) (off := 0) rfl (by rfl)) ?_
    refine wend ?_
    refine blockAny ?_
    refine sR ?_
    refine sq (r_eqlI (a := ((gs).getD i g0).k) (b := (1 : Int)) rfl rfl) ?_
    refine sA (.bool (decide ((((gs).getD i g0).k : Int) = (1 : Int)))) rfl ?_
    refine wend ?_
    refine condProp ((((gs).getD i g0).k : Int) = (1 : Int)) rfl (fun kc51 => ?_) (fun kc51 => ?_)
    ·skip
     refine oneRegion ?_
     refine sM (.bool ((wS gs inp i).getD (((gs.getD i g0).a).toNat) false)) rfl ?_
     refine sM (.slice (ownA key) (inp.length + i) c) rfl ?_
     refine sq (r_fieldAddr (off' := 2) fld99_2 (by decide) (b := b39) (off := 0) rfl (by omega)) ?_
     refine sq (r_loadC (v := i64 (((gs).getD i g0).b)) one3 (H44'.get (k := 0) rfl) (off := 2) rfl (by rfl)) ?_
     refine sq (r_idxS (E := EB) (l := wS gs inp i) (j := ((gs.getD i g0).b).toNat) sli76 (H44'.rd (k := 1) rfl hS) rfl rfl (by omega) (by omega) (by omega)) ?_
     refine sq (r_ldS (E := EB) (l := wS gs inp i) (j := ((gs.getD i g0).b).toNat) (v := (wS gs inp i).getD (((gs.getD i g0).b).toNat) false) fits4 (H44'.rd (k := 1) rfl hS) rfl rfl (at_getD (by omega))) ?_
     refine sq (r_neqB und4 (a := (wS gs inp i).getD (((gs.getD i g0).a).toNat) false) (b := (wS gs inp i).getD (((gs.getD i g0).b).toNat) false) rfl rfl) ?_
     refine sA (.bool (((wS gs inp i).getD (((gs.getD i g0).a).toNat) false) != ((wS gs inp i).getD (((gs.getD i g0).b).toNat) false))) rfl ?_
     refine wnil ?_
     refine blockNormal ?_
     refine thenNormal ?_
     refine oneRegion ?_
     refine sM (.slice (ownA key) (inp.length + i) c) rfl ?_
     refine sM (.bool (((wS gs inp i).getD (((gs.getD i g0).a).toNat) false) != ((wS gs inp i).getD (((gs.getD i g0).b).toNat) false))) rfl ?_
     refine q_buildSlice (E := EB) (l := [((wS gs inp i).getD (((gs.getD i g0).a).toNat) false) != ((wS gs inp i).getD (((gs.getD i g0).b).toNat) false)]) H44' sli76 zer4 (bLe rfl) (ps := [(0, .bool (((wS gs inp i).getD (((gs.getD i g0).a).toNat) false) != ((wS gs inp i).getD (((gs.getD i g0).b).toNat) false)))]) rfl (by exact fillAll rfl rfl) rfl ?_
     intro b46 w48 hS47 H49 hE50
     refine q_append (E := EB) (k := 2) (l := wS gs inp i) (l2 := [((wS gs inp i).getD (((gs.getD i g0).a).toNat) false) != ((wS gs inp i).getD (((gs.getD i g0).b).toNat) false)]) H49 rfl hS sli76 zer4 rfl byt4 (H49.rd (k := 0) rfl hS47) rfl (by omega) rfl (by rfl) (by omega) ?_
     intro key51 c52 sp53 w55 hS54 hne57 H56
     have H56' := H56.as (L' := [((some b46), sob EB 4 ([((wS gs inp i).getD (((gs.getD i g0).a).toNat) false) != ((wS gs inp i).getD (((gs.getD i g0).b).toNat) false)]) ([])), (some b39, .cells #[i64 (((gs).getD i g0).k), i64 (((gs).getD i g0).a), i64 (((gs).getD i g0).b)] 99 (0, 0)), (key51, sob EB 4 ((wS gs inp i) ++ ([((wS gs inp i).getD (((gs.getD i g0).a).toNat) false) != ((wS gs inp i).getD (((gs.getD i g0).b).toNat) false)])) sp53), (some b1, .cells #[i64 (n), .slice ga gs.length gc, .slice oa ol.length oc] 70 (0, 0))]) rfl
     clear H56
     have e58 : (wS gs inp i) ++ ([((wS gs inp i).getD (((gs.getD i g0).a).toNat) false) != ((wS gs inp i).getD (((gs.getD i g0).b).toNat) false)]) = wS gs inp (i + 1) := by rw [wS, gval, if_pos kc51]
     have hS59 := hS54
     rw [e58] at hS59
     have H60 := H56'.as (L' := [((some b46), sob EB 4 ([((wS gs inp i).getD (((gs.getD i g0).a).toNat) false) != ((wS gs inp i).getD (((gs.getD i g0).b).toNat) false)]) ([])), (some b39, .cells #[i64 (((gs).getD i g0).k), i64 (((gs).getD i g0).a), i64 (((gs).getD i g0).b)] 99 (0, 0)), (key51, sob EB 4 (wS gs inp (i + 1)) sp53), (some b1, .cells #[i64 (n), .slice ga gs.length gc, .slice oa ol.length oc] 70 (0, 0))]) (by rw [e58])
     refine sA (.slice (ownA key51) ((inp.length + i) + 1) c52) rfl ?_
     refine wnil ?_
     refine blockNormal ?_
     refine thenNormal ?_
     refine oneRegion ?_
     refine sq (r_addI (a := (i : Nat)) (b := (1 : Int)) rfl rfl (by omega)) ?_
     refine sM (i64 ((i : Nat) + (1 : Int))) rfl ?_
     refine wnil ?_
     refine thenNormal ?_
     exact ⟨(i + 1, key51, c52, sp53), _, rfl, ⟨rfl, rfl, rfl, rfl, rfl, trivial⟩, ⟨by omega, hS59, ((H60.dropk 1).dropk 0)⟩, by show gs.length - (i + 1) < gs.length - i; omega⟩
    ·skip
     refine sR ?_
     refine sq (r_eqlI (a := ((gs).getD i g0).k) (b := (2 : Int)) rfl rfl) ?_
     refine sA (.bool (decide ((((gs).getD i g0).k : Int) = (2 : Int)))) rfl ?_
     refine wend ?_
     refine condProp ((((gs).getD i g0).k : Int) = (2 : Int)) rfl (fun kc60 => ?_) (fun kc60 => ?_)
     ·skip
      refine oneRegion ?_
      refine sM (.bool ((wS gs inp i).getD (((gs.getD i g0).a).toNat) false)) rfl ?_
      refine sM (.bool ((wS gs inp i).getD (((gs.getD i g0).a).toNat) false)) rfl ?_
      rcases Bool.eq_false_or_eq_true ((wS gs inp i).getD (((gs.getD i g0).a).toNat) false) with g61 | g61
      ·skip
       refine sqAny (v := .slice (ownA key) (inp.length + i) c) (w' := w43) (wantedSome (d' := 63) (b := true) rfl rfl (congrArg Value.bool g61)) (r_move (v := .slice (ownA key) (inp.length + i) c) rfl) ?_
       refine sqAny (v := .pointer (some ⟨b39, 2, none⟩)) (w' := w43) (wantedSome (d' := 63) (b := true) rfl rfl (congrArg Value.bool g61)) (r_fieldAddr (off' := 2) fld99_2 (by decide) (b := b39) (off := 0) rfl (by omega)) ?_
       refine sqAny (v := i64 (((gs).getD i g0).b)) (w' := w43) (wantedSome (d' := 63) (b := true) rfl rfl (congrArg Value.bool g61)) (r_loadC (v := i64 (((gs).getD i g0).b)) one3 (H44'.get (k := 0) rfl) (off := 2) rfl (by rfl)) ?_
       refine sqAny (v := .pointer (adr (ownA key) ((((gs.getD i g0).b).toNat) * 1))) (w' := w43) (wantedSome (d' := 63) (b := true) rfl rfl (congrArg Value.bool g61)) (r_idxS (E := EB) (l := wS gs inp i) (j := ((gs.getD i g0).b).toNat) sli76 (H44'.rd (k := 1) rfl hS) rfl rfl (by omega) (by omega) (by omega)) ?_
       refine sqAny (v := .bool ((wS gs inp i).getD (((gs.getD i g0).b).toNat) false)) (w' := w43) (wantedSome (d' := 63) (b := true) rfl rfl (congrArg Value.bool g61)) (r_ldS (E := EB) (l := wS gs inp i) (j := ((gs.getD i g0).b).toNat) (v := (wS gs inp i).getD (((gs.getD i g0).b).toNat) false) fits4 (H44'.rd (k := 1) rfl hS) rfl rfl (at_getD (by omega))) ?_
       refine sq (r_pickT (u := .bool ((wS gs inp i).getD (((gs.getD i g0).b).toNat) false)) (congrArg Value.bool g61) rfl) ?_
       refine sA (.bool ((wS gs inp i).getD (((gs.getD i g0).b).toNat) false)) rfl ?_
       refine wnil ?_
       refine blockNormal ?_
       refine thenNormal ?_
       refine oneRegion ?_
       refine sM (.slice (ownA key) (inp.length + i) c) rfl ?_
       refine sM (.bool ((wS gs inp i).getD (((gs.getD i g0).b).toNat) false)) rfl ?_
       refine q_buildSlice (E := EB) (l := [(wS gs inp i).getD (((gs.getD i g0).b).toNat) false]) H44' sli76 zer4 (bLe rfl) (ps := [(0, .bool ((wS gs inp i).getD (((gs.getD i g0).b).toNat) false))]) rfl (by exact fillAll rfl rfl) rfl ?_
       intro b62 w64 hS63 H65 hE66
       refine q_append (E := EB) (k := 2) (l := wS gs inp i) (l2 := [(wS gs inp i).getD (((gs.getD i g0).b).toNat) false]) H65 rfl hS sli76 zer4 rfl byt4 (H65.rd (k := 0) rfl hS63) rfl (by omega) rfl (by rfl) (by omega) ?_
       intro key67 c68 sp69 w71 hS70 hne73 H72
       have H72' := H72.as (L' := [((some b62), sob EB 4 ([(wS gs inp i).getD (((gs.getD i g0).b).toNat) false]) ([])), (some b39, .cells #[i64 (((gs).getD i g0).k), i64 (((gs).getD i g0).a), i64 (((gs).getD i g0).b)] 99 (0, 0)), (key67, sob EB 4 ((wS gs inp i) ++ ([(wS gs inp i).getD (((gs.getD i g0).b).toNat) false])) sp69), (some b1, .cells #[i64 (n), .slice ga gs.length gc, .slice oa ol.length oc] 70 (0, 0))]) rfl
       clear H72
       have e74 : (wS gs inp i) ++ ([(wS gs inp i).getD (((gs.getD i g0).b).toNat) false]) = wS gs inp (i + 1) := by rw [wS, gval, if_neg kc51, if_pos kc60, g61]; rfl
       have hS75 := hS70
       rw [e74] at hS75
       have H76 := H72'.as (L' := [((some b62), sob EB 4 ([(wS gs inp i).getD (((gs.getD i g0).b).toNat) false]) ([])), (some b39, .cells #[i64 (((gs).getD i g0).k), i64 (((gs).getD i g0).a), i64 (((gs).getD i g0).b)] 99 (0, 0)), (key67, sob EB 4 (wS gs inp (i + 1)) sp69), (some b1, .cells #[i64 (n), .slice ga gs.length gc, .slice oa ol.length oc] 70 (0, 0))]) (by rw [e74])
       refine sA (.slice (ownA key67) ((inp.length + i) + 1) c68) rfl ?_
       refine wnil ?_
       refine blockNormal ?_
       refine thenNormal ?_
       refine oneRegion ?_
       refine sq (r_addI (a := (i : Nat)) (b := (1 : Int)) rfl rfl (by omega)) ?_
       refine sM (i64 ((i : Nat) + (1 : Int))) rfl ?_
       refine wnil ?_
       refine thenNormal ?_
       exact ⟨(i + 1, key67, c68, sp69), _, rfl, ⟨rfl, rfl, rfl, rfl, rfl, trivial⟩, ⟨by omega, hS75, ((H76.dropk 1).dropk 0)⟩, by show gs.length - (i + 1) < gs.length - i; omega⟩
      ·skip
       refine skAny (wantedSome (d' := 63) (b := false) rfl rfl (congrArg Value.bool g61)) ?_
       refine skAny (wantedSome (d' := 63) (b := false) rfl rfl (congrArg Value.bool g61)) ?_
       refine skAny (wantedSome (d' := 63) (b := false) rfl rfl (congrArg Value.bool g61)) ?_
       refine skAny (wantedSome (d' := 63) (b := false) rfl rfl (congrArg Value.bool g61)) ?_
       refine skAny (wantedSome (d' := 63) (b := false) rfl rfl (congrArg Value.bool g61)) ?_
       refine sq (r_pickF (v := .bool (false)) (congrArg Value.bool g61) rfl) ?_
       refine sA (.bool (false)) rfl ?_
       refine wnil ?_
       refine blockNormal ?_
       refine thenNormal ?_
       refine oneRegion ?_
       refine sM (.slice (ownA key) (inp.length + i) c) rfl ?_
       refine sM (.bool (false)) rfl ?_
       refine q_buildSlice (E := EB) (l := [false]) H44' sli76 zer4 (bLe rfl) (ps := [(0, .bool (false))]) rfl (by exact fillAll rfl rfl) rfl ?_
       intro b77 w79 hS78 H80 hE81
       refine q_append (E := EB) (k := 2) (l := wS gs inp i) (l2 := [false]) H80 rfl hS sli76 zer4 rfl byt4 (H80.rd (k := 0) rfl hS78) rfl (by omega) rfl (by rfl) (by omega) ?_
       intro key82 c83 sp84 w86 hS85 hne88 H87
       have H87' := H87.as (L' := [((some b77), sob EB 4 ([false]) ([])), (some b39, .cells #[i64 (((gs).getD i g0).k), i64 (((gs).getD i g0).a), i64 (((gs).getD i g0).b)] 99 (0, 0)), (key82, sob EB 4 ((wS gs inp i) ++ ([false])) sp84), (some b1, .cells #[i64 (n), .slice ga gs.length gc, .slice oa ol.length oc] 70 (0, 0))]) rfl
       clear H87
       have e89 : (wS gs inp i) ++ ([false]) = wS gs inp (i + 1) := by rw [wS, gval, if_neg kc51, if_pos kc60, g61]; rfl
       have hS90 := hS85
       rw [e89] at hS90
       have H91 := H87'.as (L' := [((some b77), sob EB 4 ([false]) ([])), (some b39, .cells #[i64 (((gs).getD i g0).k), i64 (((gs).getD i g0).a), i64 (((gs).getD i g0).b)] 99 (0, 0)), (key82, sob EB 4 (wS gs inp (i + 1)) sp84), (some b1, .cells #[i64 (n), .slice ga gs.length gc, .slice oa ol.length oc] 70 (0, 0))]) (by rw [e89])
       refine sA (.slice (ownA key82) ((inp.length + i) + 1) c83) rfl ?_
       refine wnil ?_
       refine blockNormal ?_
       refine thenNormal ?_
       refine oneRegion ?_
       refine sq (r_addI (a := (i : Nat)) (b := (1 : Int)) rfl rfl (by omega)) ?_
       refine sM (i64 ((i : Nat) + (1 : Int))) rfl ?_
       refine wnil ?_
       refine thenNormal ?_
       exact ⟨(i + 1, key82, c83, sp84), _, rfl, ⟨rfl, rfl, rfl, rfl, rfl, trivial⟩, ⟨by omega, hS90, ((H91.dropk 1).dropk 0)⟩, by show gs.length - (i + 1) < gs.length - i; omega⟩
     ·skip
      refine sR ?_
      refine sq (r_eqlI (a := ((gs).getD i g0).k) (b := (3 : Int)) rfl rfl) ?_
      refine sA (.bool (decide ((((gs).getD i g0).k : Int) = (3 : Int)))) rfl ?_
      refine wend ?_
      refine condProp ((((gs).getD i g0).k : Int) = (3 : Int)) rfl (fun kc70 => ?_) (fun kc70 => ?_)
      ·skip
       refine oneRegion ?_
       refine sM (.bool ((wS gs inp i).getD (((gs.getD i g0).a).toNat) false)) rfl ?_
       refine sq (r_not (b := (wS gs inp i).getD (((gs.getD i g0).a).toNat) false) rfl) ?_
       refine sA (.bool (!((wS gs inp i).getD (((gs.getD i g0).a).toNat) false))) rfl ?_
       refine wnil ?_
       refine blockNormal ?_
       refine thenNormal ?_
       refine oneRegion ?_
       refine sM (.slice (ownA key) (inp.length + i) c) rfl ?_
       refine sM (.bool (!((wS gs inp i).getD (((gs.getD i g0).a).toNat) false))) rfl ?_
       refine q_buildSlice (E := EB) (l := [!((wS gs inp i).getD (((gs.getD i g0).a).toNat) false)]) H44' sli76 zer4 (bLe rfl) (ps := [(0, .bool (!((wS gs inp i).getD (((gs.getD i g0).a).toNat) false)))]) rfl (by exact fillAll rfl rfl) rfl ?_
       intro b92 w94 hS93 H95 hE96
       refine q_append (E := EB) (k := 2) (l := wS gs inp i) (l2 := [!((wS gs inp i).getD (((gs.getD i g0).a).toNat) false)]) H95 rfl hS sli76 zer4 rfl byt4 (H95.rd (k := 0) rfl hS93) rfl (by omega) rfl (by rfl) (by omega) ?_
       intro key97 c98 sp99 w101 hS100 hne103 H102
       have H102' := H102.as (L' := [((some b92), sob EB 4 ([!((wS gs inp i).getD (((gs.getD i g0).a).toNat) false)]) ([])), (some b39, .cells #[i64 (((gs).getD i g0).k), i64 (((gs).getD i g0).a), i64 (((gs).getD i g0).b)] 99 (0, 0)), (key97, sob EB 4 ((wS gs inp i) ++ ([!((wS gs inp i).getD (((gs.getD i g0).a).toNat) false)])) sp99), (some b1, .cells #[i64 (n), .slice ga gs.length gc, .slice oa ol.length oc] 70 (0, 0))]) rfl
       clear H102
       have e104 : (wS gs inp i) ++ ([!((wS gs inp i).getD (((gs.getD i g0).a).toNat) false)]) = wS gs inp (i + 1) := by rw [wS, gval, if_neg kc51, if_neg kc60]
       have hS105 := hS100
       rw [e104] at hS105
       have H106 := H102'.as (L' := [((some b92), sob EB 4 ([!((wS gs inp i).getD (((gs.getD i g0).a).toNat) false)]) ([])), (some b39, .cells #[i64 (((gs).getD i g0).k), i64 (((gs).getD i g0).a), i64 (((gs).getD i g0).b)] 99 (0, 0)), (key97, sob EB 4 (wS gs inp (i + 1)) sp99), (some b1, .cells #[i64 (n), .slice ga gs.length gc, .slice oa ol.length oc] 70 (0, 0))]) (by rw [e104])
       refine sA (.slice (ownA key97) ((inp.length + i) + 1) c98) rfl ?_
       refine wnil ?_
       refine blockNormal ?_
       refine thenNormal ?_
       refine oneRegion ?_
       refine sq (r_addI (a := (i : Nat)) (b := (1 : Int)) rfl rfl (by omega)) ?_
       refine sM (i64 ((i : Nat) + (1 : Int))) rfl ?_
       refine wnil ?_
       refine thenNormal ?_
       exact ⟨(i + 1, key97, c98, sp99), _, rfl, ⟨rfl, rfl, rfl, rfl, rfl, trivial⟩, ⟨by omega, hS105, ((H106.dropk 1).dropk 0)⟩, by show gs.length - (i + 1) < gs.length - i; omega⟩
      ·skip
       exfalso
       omega
   ·skip
    obtain rfl : i = gs.length := by omega
    refine exitAny ?_
    refine thenExit ?_
    refine thenExit ?_
    refine blockHere ?_
    refine thenNormal ?_
    refine sR ?_
    refine sA (.slice none 0 0) rfl ?_
    have H107 := HL.nil (sob EB 4 [] [])
    refine wend ?_
    refine seqAny ?_
    refine sR ?_
    refine sq (r_fieldAddr (off' := 2) fld70_2 (by decide) (b := b1) (off := 0) rfl (by omega)) ?_
    refine sq (r_loadC (v := .slice oa ol.length oc) one60 (H107.get (k := 2) rfl) (off := 2) rfl (by rfl)) ?_
    refine sq (r_lenS sli60 (a := oa) (m := ol.length) (c := oc) rfl) ?_
    refine sM (i64 ((0 : Int))) rfl ?_
    refine wend ?_
    refine blockAny ?_
    refine loopAny (σ := Nat × Option Nat × Nat × List Value) (fun (q, k2, c2, sp2) => [(2, pT b1), (7, .slice (ownA key) (inp.length + gs.length) c), (11, .slice (ownA k2) q c2), (80, .slice oa ol.length oc), (81, i64 (ol.length : Nat)), (82, i64 (q : Nat))]) (fun (q, k2, c2, sp2) w' => q ≤ ol.length ∧ Sl EB k2 (oS (wS gs inp gs.length) ol q) c2 sp2 ∧ Hp No w w' [(k2, sob EB 4 (oS (wS gs inp gs.length) ol q) sp2), (key, sob EB 4 (wS gs inp gs.length) sp), (some b1, .cells #[i64 (n), .slice ga gs.length gc, .slice oa ol.length oc] 70 (0, 0))]) (fun (q, k2, c2, sp2) => ol.length - q) ((0, none, 0, [])) ?_ ?_ ?_
    ·exact ⟨rfl, rfl, rfl, rfl, rfl, rfl, trivial⟩
    ·exact ⟨by omega, Sl.none, H107⟩
    rintro ⟨q, k2, c2, sp2⟩ ρ w108 ⟨hq, hS2, HL2⟩
    have hl2 := oS_len (wS gs inp gs.length) ol q
    refine sR ?_
    refine sq (r_lssI (a := (q : Nat)) (b := (ol.length : Nat)) rfl rfl) ?_
    refine wend ?_
    refine seqAny ?_
    refine condProp (((q : Nat) : Int) < (ol.length : Nat)) rfl (fun c83 => ?_) (fun c83 => ?_)
    ·skip
     have hoi := hg10.ook q (by omega)
     refine skipAny ?_
     refine thenNormal ?_
     refine seqAny ?_
     refine blockAny ?_
     refine sR ?_
     refine sq (r_idxS (E := EI) (l := ol) (j := q) sli60 (hOl.ext HL2.chg) rfl rfl (by first | rfl | omega | (simp; omega)) (by rfl) (by omega)) ?_
     refine sq (r_ldS (E := EI) (l := ol) (j := q) (v := (ol).getD q 0) fits3 (hOl.ext HL2.chg) rfl rfl (at_getD (by omega))) ?_
     refine sA (i64 ((ol).getD q 0)) rfl ?_
     refine wend ?_
     refine oneRegion ?_
     refine sM (.slice (ownA k2) q c2) rfl ?_
     refine sM (.slice (ownA key) (inp.length + gs.length) c) rfl ?_
     refine sM (i64 ((ol).getD q 0)) rfl ?_
     refine sq (r_idxS (E := EB) (l := wS gs inp gs.length) (j := (ol.getD q 0).toNat) sli76 (HL2.rd (k := 1) rfl hS) rfl rfl (by omega) (by omega) (by omega)) ?_
     refine sq (r_ldS (E := EB) (l := wS gs inp gs.length) (j := (ol.getD q 0).toNat) (v := (wS gs inp gs.length).getD ((ol.getD q 0).toNat) false) fits4 (HL2.rd (k := 1) rfl hS) rfl rfl (at_getD (by omega))) ?_
     refine q_buildSlice (E := EB) (l := [(wS gs inp gs.length).getD ((ol.getD q 0).toNat) false]) HL2 sli76 zer4 (bLe rfl) (ps := [(0, .bool ((wS gs inp gs.length).getD ((ol.getD q 0).toNat) false))]) rfl (by exact fillAll rfl rfl) rfl ?_
     intro b110 w112 hS111 H113 hE114
     refine q_append (E := EB) (k := 1) (l := oS (wS gs inp gs.length) ol q) (l2 := [(wS gs inp gs.length).getD ((ol.getD q 0).toNat) false]) H113 rfl hS2 sli76 zer4 rfl byt4 (H113.rd (k := 0) rfl hS111) rfl (by exact (oS_len _ _ _).symm) rfl (by rfl) (by omega) ?_
     intro key115 c116 sp117 w119 hS118 hne121 H120
     have H120' := H120.as (L' := [((some b110), sob EB 4 ([(wS gs inp gs.length).getD ((ol.getD q 0).toNat) false]) ([])), (key115, sob EB 4 ((oS (wS gs inp gs.length) ol q) ++ ([(wS gs inp gs.length).getD ((ol.getD q 0).toNat) false])) sp117), (key, sob EB 4 (wS gs inp gs.length) sp), (some b1, .cells #[i64 (n), .slice ga gs.length gc, .slice oa ol.length oc] 70 (0, 0))]) rfl
     clear H120
     have e122 : (oS (wS gs inp gs.length) ol q) ++ ([(wS gs inp gs.length).getD ((ol.getD q 0).toNat) false]) = oS (wS gs inp gs.length) ol (q + 1) := by rw [oS]
     have hS123 := hS118
     rw [e122] at hS123
     have H124 := H120'.as (L' := [((some b110), sob EB 4 ([(wS gs inp gs.length).getD ((ol.getD q 0).toNat) false]) ([])), (key115, sob EB 4 (oS (wS gs inp gs.length) ol (q + 1)) sp117), (key, sob EB 4 (wS gs inp gs.length) sp), (some b1, .cells #[i64 (n), .slice ga gs.length gc, .slice oa ol.length oc] 70 (0, 0))]) (by rw [e122])
     refine sA (.slice (ownA key115) (q + 1) c116) rfl ?_
     refine wnil ?_
     refine blockNormal ?_
     refine thenNormal ?_
     refine oneRegion ?_
     refine sq (r_addI (a := (q : Nat)) (b := (1 : Int)) rfl rfl (by omega)) ?_
     refine sM (i64 ((q : Nat) + (1 : Int))) rfl ?_
     refine wnil ?_
     refine thenNormal ?_
     exact ⟨(q + 1, key115, c116, sp117), _, rfl, ⟨rfl, rfl, rfl, rfl, rfl, rfl, trivial⟩, ⟨by omega, hS123, (H124.dropk 0)⟩, by show ol.length - (q + 1) < ol.length - q; omega⟩
    ·skip
     obtain rfl : q = ol.length := by omega
     refine exitAny ?_
     refine thenExit ?_
     refine thenExit ?_
     refine blockHere ?_
     refine thenNormal ?_
     refine sR ?_
     refine sM (.slice (ownA k2) ol.length c2) rfl ?_
     refine sA (.slice (ownA k2) ol.length c2) rfl ?_
     refine sA (.nilIface) rfl ?_
     refine wend ?_
     refine retAny ?_
     refine retG (rs := [.tmp 4, .tmp 5]) (vs := [.slice (ownA k2) ol.length c2, .nilIface]) rfl ⟨⟨rfl, rfl⟩, ⟨rfl, rfl⟩, trivial⟩ ?_
     exact ⟨_, rfl, .inl ⟨hg10, by omega, _, rfl, HL2.resN (k := 0) rfl hS2 (by rw [evalS_len])⟩, HL2.chg⟩
 ·skip
  have H9 := H3.ext hE8
  obtain ⟨T12, x13, rfl⟩ := hEr11.iface
  refine sA (.iface T12 (x13)) rfl ?_
  refine wend ?_
  refine sR ?_
  refine sM (.iface T12 (x13)) rfl ?_
  refine sq (r_neqIN isI27 rfl rfl) ?_
  refine wend ?_
  refine condTrue rfl ?_
  refine sR ?_
  refine sM (.iface T12 (x13)) rfl ?_
  refine sA (.slice none 0 0) rfl ?_
  refine sA (.iface T12 (x13)) rfl ?_
  refine wend ?_
  refine retAny ?_
  refine thenRet ?_
  refine retG (rs := [.tmp 4, .tmp 5]) (vs := [.slice none 0 0, .iface T12 (x13)]) rfl ⟨⟨rfl, rfl⟩, ⟨rfl, rfl⟩, trivial⟩ ?_
  exact ⟨_, rfl, .inr ⟨_, rfl, .inl ⟨hg10, hEr11.mono H3.chg.size⟩⟩, H9.chg⟩
theorem check_bad (n : Int) (gs : List Gt) (ol : List Int) (ga oa : Option Addr) (gc oc : Nat) (w : World) (hG : Gl w) (hGs : Rd EG w ga gs) (hOl : Rd EI w oa ol) (hgl : gs.length ≤ 140737488355328) (hol : ol.length ≤ 140737488355328) (hb : ¬ IsC n gs ol) : Calls Tryd.prog 31 [.agg #[i64 (n), .slice ga gs.length gc, .slice oa ol.length oc]].toArray w (Ret fun v w' => Er w.heap.size w' 90 1 v ∧ Ext w w') :=
 (check_ok n gs ol ga oa gc oc w hG hGs hOl hgl hol).mono fun e w' ⟨v, he, h, hE⟩ => by
  rcases h with ⟨_, h⟩ | ⟨h, _⟩
  ·exact absurd h hb
  ·exact ⟨v, he, h, hE⟩
end Go.Proofs.YteofdmdpaejgaaaDoor.Er
namespace Go.Proofs.YteofdmdpaejgaaaDoor.Er
open Go Go.Proofs.YteofdmdpaejgaaaDoor.Vc Go.Proofs.YteofdmdpaejgaaaDoor.Circ
theorem byt3 : byt Tryd.prog 3 = some 8 := by kernel_rfl
theorem byt85 : byt Tryd.prog 85 = some 24 := by kernel_rfl
theorem byt99 : byt Tryd.prog 99 = some 24 := by kernel_rfl
theorem fits85 : Fits Tryd.prog 85 EG := fitsG (by kernel_rfl) (by kernel_rfl)
theorem fld85_0 : fld Tryd.prog 85 0 = some (0, 1, 3) := by kernel_rfl
theorem fld85_1 : fld Tryd.prog 85 1 = some (1, 1, 3) := by kernel_rfl
theorem fld85_2 : fld Tryd.prog 85 2 = some (2, 1, 3) := by kernel_rfl
theorem mixed : Tryd.prog.follows .mixedOrders = true := by kernel_rfl
theorem pls85 : pls Tryd.prog 85 = some #[(0, 1), (1, 1), (2, 1)] := by kernel_rfl
theorem siz60 : siz Tryd.prog 60 = some 1 := by kernel_rfl
theorem siz68 : siz Tryd.prog 68 = some 1 := by kernel_rfl
theorem siz85 : siz Tryd.prog 85 = some 3 := by kernel_rfl
theorem sli78 : sli Tryd.prog 78 = some (85, 3) := by kernel_rfl
theorem zer85 : zer Tryd.prog 85 = some (.agg #[.int .i64 0, .int .i64 0, .int .i64 0]) := by kernel_rfl
def OwnR (n : Int) (gs : List Gt) (ol : List Int) (w : World) (v : Value) (w' : World) : Prop := ∃ ng no kg cg spg ko co spo, v = .agg #[i64 n, .slice (ownA kg) ng cg, .slice (ownA ko) no co] ∧ ng = gs.length ∧ no = ol.length ∧ Sl EG kg gs cg spg ∧ Sl EI ko ol co spo ∧ Hp No w w' [(ko, sob EI 3 ol spo), (kg, sob EG 99 gs spg)]
theorem own_ok (n : Int) (gs : List Gt) (ol : List Int) (ga oa : Option Addr) (gc oc : Nat) (hgc : gs.length ≤ gc) (hoc : ol.length ≤ oc) (w : World) (hGs : Rd EG w ga gs) (hOl : Rd EI w oa ol) : Calls Tryd.prog 43 [.agg #[i64 (n), .slice ga gs.length gc, .slice oa ol.length oc]].toArray w (Ret fun v w' => OwnR n (gs.take 4200) (ol.take 80) w v w' ∧ Ext w w') := by
 have H := Hp.start No w
 refine enter (n := 24) Tryd.func43 rfl rfl (bLe rfl) ?_
 refine sR ?_
 refine q_box (v := .agg #[i64 (n), .slice ga gs.length gc, .slice oa ol.length oc]) (o := .cells #[i64 (n), .slice ga gs.length gc, .slice oa ol.length oc] 70 (0, 0)) H rfl (by rfl) ?_
 intro b1 w2 hb1 H3 hE4
 refine q_alloc (o := .cells #[i64 ((0 : Int)), .slice none 0 0, .slice none 0 0] 70 (0, 0)) H3 zer70 (by kernel_rfl) ?_
 intro b5 w6 hb5 H7 hE8
 refine wend ?_
 refine sR ?_
 refine q_buildSlice (E := EG) (l := ([] : List Gt)) H7 sli68 zer99 (bLe rfl) (ps := []) rfl (by exact fillAll rfl rfl) rfl ?_
 intro b9 w11 hS10 H12 hE13
 refine sq (r_fieldAddr (off' := 1) fld70_1 (by decide) (b := b1) (off := 0) rfl (by omega)) ?_
 refine sq (r_loadC (v := .slice ga gs.length gc) one68 (H12.get (k := 2) rfl) (off := 1) rfl (by rfl)) ?_
 refine sq (r_fieldAddr (off' := 1) fld70_1 (by decide) (b := b1) (off := 0) rfl (by omega)) ?_
 refine sq (r_loadC (v := .slice ga gs.length gc) one68 (H12.get (k := 2) rfl) (off := 1) rfl (by rfl)) ?_
 refine sq (r_lenS sli68 (a := ga) (m := gs.length) (c := gc) rfl) ?_
 refine sq ((r_minI (a := (gs.length : Nat)) (b := (4200 : Int)) rfl rfl).as (v' := i64 ((min gs.length 4200 : Nat))) (by exact congrArg i64 (by omega))) ?_
 refine sq ((r_sliceS (l := 0) (h := min gs.length 4200) sli68 rfl (.inr ⟨rfl, rfl⟩) (.inl ⟨_, _, _, rfl, rfl, by first | rfl | omega | (simp; omega)⟩) (by omega) (by omega)).as (v' := .slice (if gc = 0 then ga else adr ga (0 * 3)) (min gs.length 4200) (gc - 0)) (by rw [show (min gs.length 4200) - 0 = min gs.length 4200 by omega])) ?_
 refine q_append (E := EG) (k := 0) (l := ([] : List Gt)) (l2 := (gs.drop 0).take (min gs.length 4200)) H12 rfl hS10 sli68 zer99 rfl byt99 (Rd.sub (hGs.ext H12.chg) 0 (min gs.length 4200) (m := gc) (fun e => by first | exact absurd e (by omega) | (rw [show min gs.length 4200 = 0 by omega]; rfl))) rfl (by rfl) rfl (by rw [List.length_take, List.length_drop]; omega) (by omega) ?_
 intro key14 c15 sp16 w18 hS17 hne20 H19
 have H19' := H19.as (L' := [(key14, sob EG 99 (([] : List Gt) ++ ((gs.drop 0).take (min gs.length 4200))) sp16), (some b5, .cells #[i64 ((0 : Int)), .slice none 0 0, .slice none 0 0] 70 (0, 0)), (some b1, .cells #[i64 (n), .slice ga gs.length gc, .slice oa ol.length oc] 70 (0, 0))]) rfl
 clear H19
 have e21 : ([] : List Gt) ++ ((gs.drop 0).take (min gs.length 4200)) = gs.take 4200 := by exact own_take _ _
 have hS22 := hS17
 rw [e21] at hS22
 have H23 := H19'.as (L' := [(key14, sob EG 99 (gs.take 4200) sp16), (some b5, .cells #[i64 ((0 : Int)), .slice none 0 0, .slice none 0 0] 70 (0, 0)), (some b1, .cells #[i64 (n), .slice ga gs.length gc, .slice oa ol.length oc] 70 (0, 0))]) (by rw [e21])
 refine sq (r_fieldAddr (off' := 1) fld70_1 (by decide) (b := b1) (off := 0) rfl (by omega)) ?_
 refine d_store (k := 2) (v := .slice (ownA key14) (0 + (min gs.length 4200)) c15) (cs' := #[i64 (n), .slice (ownA key14) (0 + (min gs.length 4200)) c15, .slice oa ol.length oc]) H23 rfl rfl rfl siz68 (by rfl) (by intro u hu; simp [Value.cells] at hu; first | (subst hu; rfl) | (rcases hu with rfl <;> rfl)) (by exact bLe rfl) (by rfl) ?_
 intro w24 H25 hC26
 have H25' := H25.as (L' := [(key14, sob EG 99 (gs.take 4200) sp16), (some b5, .cells #[i64 ((0 : Int)), .slice none 0 0, .slice none 0 0] 70 (0, 0)), (some b1, .cells #[i64 (n), .slice (ownA key14) (0 + (min gs.length 4200)) c15, .slice oa ol.length oc] 70 (0, 0))]) rfl
 clear H25
 refine wend ?_
 refine sR ?_
 refine q_buildSlice (E := EI) (l := []) H25' sli60 zer3 (bLe rfl) (ps := []) rfl (by exact fillAll rfl rfl) rfl ?_
 intro b27 w29 hS28 H30 hE31
 refine sq (r_fieldAddr (off' := 2) fld70_2 (by decide) (b := b1) (off := 0) rfl (by omega)) ?_
 refine sq (r_loadC (v := .slice oa ol.length oc) one60 (H30.get (k := 3) rfl) (off := 2) rfl (by rfl)) ?_
 refine sq (r_fieldAddr (off' := 2) fld70_2 (by decide) (b := b1) (off := 0) rfl (by omega)) ?_
 refine sq (r_loadC (v := .slice oa ol.length oc) one60 (H30.get (k := 3) rfl) (off := 2) rfl (by rfl)) ?_
 refine sq (r_lenS sli60 (a := oa) (m := ol.length) (c := oc) rfl) ?_
 refine sq ((r_minI (a := (ol.length : Nat)) (b := (80 : Int)) rfl rfl).as (v' := i64 ((min ol.length 80 : Nat))) (by exact congrArg i64 (by omega))) ?_
 refine sq ((r_sliceS (l := 0) (h := min ol.length 80) sli60 rfl (.inr ⟨rfl, rfl⟩) (.inl ⟨_, _, _, rfl, rfl, by first | rfl | omega | (simp; omega)⟩) (by omega) (by omega)).as (v' := .slice (if oc = 0 then oa else adr oa (0 * 1)) (min ol.length 80) (oc - 0)) (by rw [show (min ol.length 80) - 0 = min ol.length 80 by omega])) ?_
 refine q_append (E := EI) (k := 0) (l := []) (l2 := (ol.drop 0).take (min ol.length 80)) H30 rfl hS28 sli60 zer3 rfl byt3 (Rd.sub (hOl.ext H30.chg) 0 (min ol.length 80) (m := oc) (fun e => by first | exact absurd e (by omega) | (rw [show min ol.length 80 = 0 by omega]; rfl))) rfl (by rfl) rfl (by rw [List.length_take, List.length_drop]; omega) (by omega) ?_
 intro key32 c33 sp34 w36 hS35 hne38 H37
 have H37' := H37.as (L' := [(key32, sob EI 3 (([]) ++ ((ol.drop 0).take (min ol.length 80))) sp34), (key14, sob EG 99 (gs.take 4200) sp16), (some b5, .cells #[i64 ((0 : Int)), .slice none 0 0, .slice none 0 0] 70 (0, 0)), (some b1, .cells #[i64 (n), .slice (ownA key14) (0 + (min gs.length 4200)) c15, .slice oa ol.length oc] 70 (0, 0))]) rfl
 clear H37
 have e39 : ([]) ++ ((ol.drop 0).take (min ol.length 80)) = ol.take 80 := by exact own_take _ _
 have hS40 := hS35
 rw [e39] at hS40
 have H41 := H37'.as (L' := [(key32, sob EI 3 (ol.take 80) sp34), (key14, sob EG 99 (gs.take 4200) sp16), (some b5, .cells #[i64 ((0 : Int)), .slice none 0 0, .slice none 0 0] 70 (0, 0)), (some b1, .cells #[i64 (n), .slice (ownA key14) (0 + (min gs.length 4200)) c15, .slice oa ol.length oc] 70 (0, 0))]) (by rw [e39])
 refine sq (r_fieldAddr (off' := 2) fld70_2 (by decide) (b := b1) (off := 0) rfl (by omega)) ?_
 refine d_store (k := 3) (v := .slice (ownA key32) (0 + (min ol.length 80)) c33) (cs' := #[i64 (n), .slice (ownA key14) (0 + (min gs.length 4200)) c15, .slice (ownA key32) (0 + (min ol.length 80)) c33]) H41 rfl rfl rfl siz60 (by rfl) (by intro u hu; simp [Value.cells] at hu; first | (subst hu; rfl) | (rcases hu with rfl <;> rfl)) (by exact bLe rfl) (by rfl) ?_
 intro w42 H43 hC44
 have H43' := H43.as (L' := [(key32, sob EI 3 (ol.take 80) sp34), (key14, sob EG 99 (gs.take 4200) sp16), (some b5, .cells #[i64 ((0 : Int)), .slice none 0 0, .slice none 0 0] 70 (0, 0)), (some b1, .cells #[i64 (n), .slice (ownA key14) (0 + (min gs.length 4200)) c15, .slice (ownA key32) (0 + (min ol.length 80)) c33] 70 (0, 0))]) rfl
 clear H43
 refine wend ?_
 refine sR ?_
 refine sq (r_loadA (cs' := #[i64 (n), .slice (ownA key14) (0 + (min gs.length 4200)) c15, .slice (ownA key32) (0 + (min ol.length 80)) c33]) agg70 siz70 (H43'.get (k := 3) rfl) (off := 0) rfl (by exact bLe rfl) (by rfl)) ?_
 refine d_store (k := 2) (v := .agg #[i64 (n), .slice (ownA key14) (0 + (min gs.length 4200)) c15, .slice (ownA key32) (0 + (min ol.length 80)) c33]) (cs' := #[i64 (n), .slice (ownA key14) (0 + (min gs.length 4200)) c15, .slice (ownA key32) (0 + (min ol.length 80)) c33]) H43' rfl rfl rfl siz70 (by rfl) (by intro u hu; simp [Value.cells] at hu; first | (subst hu; rfl) | (rcases hu with rfl | rfl | rfl <;> rfl)) (by exact bLe rfl) (by rfl) ?_
 intro w45 H46 hC47
 have H46' := H46.as (L' := [(key32, sob EI 3 (ol.take 80) sp34), (key14, sob EG 99 (gs.take 4200) sp16), (some b5, .cells #[i64 (n), .slice (ownA key14) (0 + (min gs.length 4200)) c15, .slice (ownA key32) (0 + (min ol.length 80)) c33] 70 (0, 0)), (some b1, .cells #[i64 (n), .slice (ownA key14) (0 + (min gs.length 4200)) c15, .slice (ownA key32) (0 + (min ol.length 80)) c33] 70 (0, 0))]) rfl
 clear H46
 refine wend ?_
 refine retAny ?_
 refine retG (rs := [.cell 2 70]) (vs := [.agg #[i64 (n), .slice (ownA key14) (0 + (min gs.length 4200)) c15, .slice (ownA key32) (0 + (min ol.length 80)) c33]]) rfl ⟨r_loadA (cs' := #[i64 (n), .slice (ownA key14) (0 + (min gs.length 4200)) c15, .slice (ownA key32) (0 + (min ol.length 80)) c33]) agg70 siz70 (H46'.get (k := 2) rfl) (off := 0) rfl (by exact bLe rfl) (by rfl), trivial⟩ ?_
 exact ⟨_, rfl, ⟨_, _, key14, c15, sp16, key32, c33, sp34, rfl, by rw [List.length_take]; omega, by rw [List.length_take]; omega, hS22, hS40, ((H46'.dropk 3).dropk 2)⟩, H46'.chg⟩
theorem gates_ok (n : Int) (gs : List Gt) (ol : List Int) (ga oa : Option Addr) (gc oc : Nat) (w : World) (hGs : Rd EG w ga gs) (hgl : gs.length ≤ 4200) : Calls Tryd.prog 35 [.agg #[i64 (n), .slice ga gs.length gc, .slice oa ol.length oc]].toArray w (Ret fun v w' => SlRes EG 85 gs w v w' ∧ Ext w w') := by
 have H := Hp.start No w
 refine enter (n := 25) Tryd.func35 rfl rfl (bLe rfl) ?_
 refine sR ?_
 refine q_box (v := .agg #[i64 (n), .slice ga gs.length gc, .slice oa ol.length oc]) (o := .cells #[i64 (n), .slice ga gs.length gc, .slice oa ol.length oc] 70 (0, 0)) H rfl (by rfl) ?_
 intro b1 w2 hb1 H3 hE4
 refine sA (.slice none 0 0) rfl ?_
 refine wend ?_
 refine sR ?_
 refine sA (.slice none 0 0) rfl ?_
 have H5 := H3.nil (sob EG 85 [] [])
 refine wend ?_
 refine seqAny ?_
 refine sR ?_
 refine sq (r_fieldAddr (off' := 1) fld70_1 (by decide) (b := b1) (off := 0) rfl (by omega)) ?_
 refine sq (r_loadC (v := .slice ga gs.length gc) one68 (H5.get (k := 1) rfl) (off := 1) rfl (by rfl)) ?_
 refine sq (r_lenS sli68 (a := ga) (m := gs.length) (c := gc) rfl) ?_
 refine sM (i64 ((0 : Int))) rfl ?_
 refine wend ?_
 refine blockAny ?_
 refine loopAny (σ := Nat × Option Nat × Nat × List Value) (fun (i, key, c, sp) => [(1, pT b1), (3, .slice (ownA key) i c), (7, .slice ga gs.length gc), (8, i64 (gs.length : Nat)), (9, i64 (i : Nat))]) (fun (i, key, c, sp) w' => i ≤ gs.length ∧ Sl EG key (gs.take i) c sp ∧ Hp No w w' [(key, sob EG 85 (gs.take i) sp), (some b1, .cells #[i64 (n), .slice ga gs.length gc, .slice oa ol.length oc] 70 (0, 0))]) (fun (i, key, c, sp) => gs.length - i) ((0, none, 0, [])) ?_ ?_ ?_
 ·exact ⟨rfl, rfl, rfl, rfl, rfl, trivial⟩
 ·exact ⟨by omega, Sl.none, H5⟩
 rintro ⟨i, key, c, sp⟩ ρ w6 ⟨hi, hS, HL⟩
 refine sR ?_
 refine sq (r_lssI (a := (i : Nat)) (b := (gs.length : Nat)) rfl rfl) ?_
 refine wend ?_
 refine seqAny ?_
 refine condProp (((i : Nat) : Int) < (gs.length : Nat)) rfl (fun c10 => ?_) (fun c10 => ?_)
 ·skip
  refine skipAny ?_
  refine thenNormal ?_
  refine seqAny ?_
  refine blockAny ?_
  refine sR ?_
  refine sq (r_idxS (E := EG) (l := gs) (j := i) sli68 (hGs.ext HL.chg) rfl rfl (by first | rfl | omega | (simp; omega)) (by rfl) (by omega)) ?_
  refine sq ((r_ldS (E := EG) (l := gs) (j := i) (v := (gs).getD i g0) fits99 (hGs.ext HL.chg) rfl rfl (at_getD (by omega))).as (v' := .agg #[i64 (((gs).getD i g0).k), i64 (((gs).getD i g0).a), i64 (((gs).getD i g0).b)]) rfl) ?_
  refine q_alloc (o := .cells #[i64 ((0 : Int)), i64 ((0 : Int)), i64 ((0 : Int))] 99 (0, 0)) HL zer99 (by kernel_rfl) ?_
  intro b8 w9 hb8 H10 hE11
  refine d_store (k := 0) (v := .agg #[i64 (((gs).getD i g0).k), i64 (((gs).getD i g0).a), i64 (((gs).getD i g0).b)]) (cs' := #[i64 (((gs).getD i g0).k), i64 (((gs).getD i g0).a), i64 (((gs).getD i g0).b)]) H10 rfl rfl rfl siz99 (by rfl) (by intro u hu; simp [Value.cells] at hu; first | (subst hu; rfl) | (rcases hu with rfl | rfl | rfl <;> rfl)) (by exact bLe rfl) (by rfl) ?_
  intro w12 H13 hC14
  have H13' := H13.as (L' := [(some b8, .cells #[i64 (((gs).getD i g0).k), i64 (((gs).getD i g0).a), i64 (((gs).getD i g0).b)] 99 (0, 0)), (key, sob EG 85 (gs.take i) sp), (some b1, .cells #[i64 (n), .slice ga gs.length gc, .slice oa ol.length oc] 70 (0, 0))]) rfl
  clear H13
  refine wend ?_
  refine oneRegion ?_
  refine sM (.slice (ownA key) i c) rfl ?_
  refine sq (r_fieldAddr (off' := 0) fld99_0 (by decide) (b := b8) (off := 0) rfl (by omega)) ?_
  refine sq (r_loadC (v := i64 (((gs).getD i g0).k)) one97 (H13'.get (k := 0) rfl) (off := 0) rfl (by rfl)) ?_
  refine sq (r_fieldAddr (off' := 1) fld99_1 (by decide) (b := b8) (off := 0) rfl (by omega)) ?_
  refine sq (r_loadC (v := i64 (((gs).getD i g0).a)) one3 (H13'.get (k := 0) rfl) (off := 1) rfl (by rfl)) ?_
  refine sq (r_fieldAddr (off' := 2) fld99_2 (by decide) (b := b8) (off := 0) rfl (by omega)) ?_
  refine sq (r_loadC (v := i64 (((gs).getD i g0).b)) one3 (H13'.get (k := 0) rfl) (off := 2) rfl (by rfl)) ?_
  refine sq (r_build (cs' := #[i64 (((gs).getD i g0).k), i64 (((gs).getD i g0).a), i64 (((gs).getD i g0).b)]) (ps := [(0, i64 (((gs).getD i g0).k)), (1, i64 (((gs).getD i g0).a)), (2, i64 (((gs).getD i g0).b))]) zer85 pls85 rfl (by rfl)) ?_
  refine q_buildSlice (E := EG) (l := ([⟨((gs).getD i g0).k, ((gs).getD i g0).a, ((gs).getD i g0).b⟩] : List Gt)) H13' sli78 zer85 (bLe rfl) (ps := [(0, .agg #[i64 (((gs).getD i g0).k), i64 (((gs).getD i g0).a), i64 (((gs).getD i g0).b)])]) rfl (by exact fillAll rfl rfl) rfl ?_
  intro b15 w17 hS16 H18 hE19
  refine q_append (E := EG) (k := 2) (l := gs.take i) (l2 := ([⟨((gs).getD i g0).k, ((gs).getD i g0).a, ((gs).getD i g0).b⟩] : List Gt)) H18 rfl hS sli78 zer85 rfl byt85 (H18.rd (k := 0) rfl hS16) rfl (by rw [List.length_take]; omega) rfl (by rfl) (by omega) ?_
  intro key20 c21 sp22 w24 hS23 hne26 H25
  have H25' := H25.as (L' := [((some b15), sob EG 85 ([⟨((gs).getD i g0).k, ((gs).getD i g0).a, ((gs).getD i g0).b⟩] : List Gt) ([])), (some b8, .cells #[i64 (((gs).getD i g0).k), i64 (((gs).getD i g0).a), i64 (((gs).getD i g0).b)] 99 (0, 0)), (key20, sob EG 85 ((gs.take i) ++ ([⟨((gs).getD i g0).k, ((gs).getD i g0).a, ((gs).getD i g0).b⟩] : List Gt)) sp22), (some b1, .cells #[i64 (n), .slice ga gs.length gc, .slice oa ol.length oc] 70 (0, 0))]) rfl
  clear H25
  have e27 : (gs.take i) ++ ([⟨((gs).getD i g0).k, ((gs).getD i g0).a, ((gs).getD i g0).b⟩] : List Gt) = gs.take (i + 1) := by exact take_snoc gs i (by omega)
  have hS28 := hS23
  rw [e27] at hS28
  have H29 := H25'.as (L' := [((some b15), sob EG 85 ([⟨((gs).getD i g0).k, ((gs).getD i g0).a, ((gs).getD i g0).b⟩] : List Gt) ([])), (some b8, .cells #[i64 (((gs).getD i g0).k), i64 (((gs).getD i g0).a), i64 (((gs).getD i g0).b)] 99 (0, 0)), (key20, sob EG 85 (gs.take (i + 1)) sp22), (some b1, .cells #[i64 (n), .slice ga gs.length gc, .slice oa ol.length oc] 70 (0, 0))]) (by rw [e27])
  refine sA (.slice (ownA key20) (i + 1) c21) rfl ?_
  refine wnil ?_
  refine blockNormal ?_
  refine thenNormal ?_
  refine oneRegion ?_
  refine sq (r_addI (a := (i : Nat)) (b := (1 : Int)) rfl rfl (by omega)) ?_
  refine sM (i64 ((i : Nat) + (1 : Int))) rfl ?_
  refine wnil ?_
  refine thenNormal ?_
  exact ⟨(i + 1, key20, c21, sp22), _, rfl, ⟨rfl, rfl, rfl, rfl, rfl, trivial⟩, ⟨by omega, hS28, ((H29.dropk 1).dropk 0)⟩, by show gs.length - (i + 1) < gs.length - i; omega⟩
 ·skip
  obtain rfl : i = gs.length := by omega
  refine exitAny ?_
  refine thenExit ?_
  refine thenExit ?_
  refine blockHere ?_
  refine thenNormal ?_
  refine sR ?_
  refine sM (.slice (ownA key) gs.length c) rfl ?_
  refine sA (.slice (ownA key) gs.length c) rfl ?_
  refine wend ?_
  refine retAny ?_
  refine retG (rs := [.tmp 2]) (vs := [.slice (ownA key) gs.length c]) rfl ⟨⟨rfl, rfl⟩, trivial⟩ ?_
  exact ⟨_, rfl, by have h := HL.resN (k := 0) (q := gs.length) rfl hS (by rw [List.length_take]; omega); rwa [List.take_length] at h, HL.chg⟩
set_option maxHeartbeats 2000000 in
theorem good_ok (n : Int) (gs : List Gt) (ol : List Int) (ga oa : Option Addr) (gc oc : Nat) (w : World) (hGs : Rd EG w ga gs) (hOl : Rd EI w oa ol) (hgl : gs.length ≤ 140737488355328) (hol : ol.length ≤ 140737488355328) : Calls Tryd.prog 53 [i64 (n), .slice ga gs.length gc, .slice oa ol.length oc].toArray w (Ret fun v w' => ((v = .bool true ∧ IsC n gs ol) ∨ (v = .bool false ∧ ¬ IsC n gs ol)) ∧ Ext w w') := by
 have H := Hp.start No w
 refine enter (n := 107) Tryd.func53 rfl rfl (bLe rfl) ?_
 refine sR ?_
 refine sA (.bool (false)) rfl ?_
 refine wend ?_
 refine seqAny ?_
 refine sR ?_
 refine sM (i64 (n)) rfl ?_
 refine sq (r_lssI (a := n) (b := (0 : Int)) rfl rfl) ?_
 refine sM (.bool (decide ((n : Int) < (0 : Int)))) rfl ?_
 by_cases g1 : (n : Int) < (0 : Int)
 ·skip
  refine skAny (wantedSome (d' := 12) (b := true) rfl rfl (congrArg Value.bool (decide_eq_true g1))) ?_
  refine skAny (wantedSome (d' := 12) (b := true) rfl rfl (congrArg Value.bool (decide_eq_true g1))) ?_
  refine sq (r_pickT (u := .bool (true)) (congrArg Value.bool (decide_eq_true g1)) rfl) ?_
  refine sM (.bool (true)) rfl ?_
  refine skAny (wantedSome (d' := 16) (b := true) rfl rfl rfl) ?_
  refine skAny (wantedSome (d' := 16) (b := true) rfl rfl rfl) ?_
  refine skAny (wantedSome (d' := 16) (b := true) rfl rfl rfl) ?_
  refine sq (r_pickT (u := .bool (true)) rfl rfl) ?_
  refine sM (.bool (true)) rfl ?_
  refine skAny (wantedSome (d' := 21) (b := true) rfl rfl rfl) ?_
  refine skAny (wantedSome (d' := 21) (b := true) rfl rfl rfl) ?_
  refine skAny (wantedSome (d' := 21) (b := true) rfl rfl rfl) ?_
  refine sq (r_pickT (u := .bool (true)) rfl rfl) ?_
  refine wend ?_
  refine condTrue rfl ?_
  refine sR ?_
  refine sA (.bool (false)) rfl ?_
  refine wend ?_
  refine retAny ?_
  refine thenRet ?_
  refine retG (rs := [.tmp 6]) (vs := [.bool (false)]) rfl ⟨⟨rfl, rfl⟩, trivial⟩ ?_
  exact ⟨_, rfl, .inr ⟨rfl, fun hg => by have := hg.lo; have := hg.hi; have := hg.gates; have := hg.outs; omega⟩, H.chg⟩
 ·skip
  refine sqAny (v := i64 (n)) (w' := w) (wantedSome (d' := 12) (b := false) rfl rfl (congrArg Value.bool (decide_eq_false g1))) (r_move (v := i64 (n)) rfl) ?_
  refine sqAny (v := .bool (decide (((4096 : Int) : Int) < n))) (w' := w) (wantedSome (d' := 12) (b := false) rfl rfl (congrArg Value.bool (decide_eq_false g1))) (r_gtrI (a := n) (b := (4096 : Int)) rfl rfl) ?_
  refine sq (r_pickF (v := .bool (decide (((4096 : Int) : Int) < n))) (congrArg Value.bool (decide_eq_false g1)) rfl) ?_
  refine sM (.bool (decide (((4096 : Int) : Int) < n))) rfl ?_
  by_cases g2 : ((4096 : Int) : Int) < n
  ·skip
   refine skAny (wantedSome (d' := 16) (b := true) rfl rfl (congrArg Value.bool (decide_eq_true g2))) ?_
   refine skAny (wantedSome (d' := 16) (b := true) rfl rfl (congrArg Value.bool (decide_eq_true g2))) ?_
   refine skAny (wantedSome (d' := 16) (b := true) rfl rfl (congrArg Value.bool (decide_eq_true g2))) ?_
   refine sq (r_pickT (u := .bool (true)) (congrArg Value.bool (decide_eq_true g2)) rfl) ?_
   refine sM (.bool (true)) rfl ?_
   refine skAny (wantedSome (d' := 21) (b := true) rfl rfl rfl) ?_
   refine skAny (wantedSome (d' := 21) (b := true) rfl rfl rfl) ?_
   refine skAny (wantedSome (d' := 21) (b := true) rfl rfl rfl) ?_
   refine sq (r_pickT (u := .bool (true)) rfl rfl) ?_
   refine wend ?_
   refine condTrue rfl ?_
   refine sR ?_
   refine sA (.bool (false)) rfl ?_
   refine wend ?_
   refine retAny ?_
   refine thenRet ?_
   refine retG (rs := [.tmp 6]) (vs := [.bool (false)]) rfl ⟨⟨rfl, rfl⟩, trivial⟩ ?_
   exact ⟨_, rfl, .inr ⟨rfl, fun hg => by have := hg.lo; have := hg.hi; have := hg.gates; have := hg.outs; omega⟩, H.chg⟩
  ·skip
   refine sqAny (v := .slice ga gs.length gc) (w' := w) (wantedSome (d' := 16) (b := false) rfl rfl (congrArg Value.bool (decide_eq_false g2))) (r_move (v := .slice ga gs.length gc) rfl) ?_
   refine sqAny (v := i64 (gs.length : Nat)) (w' := w) (wantedSome (d' := 16) (b := false) rfl rfl (congrArg Value.bool (decide_eq_false g2))) (r_lenS sli78 (a := ga) (m := gs.length) (c := gc) rfl) ?_
   refine sqAny (v := .bool (decide (((4096 : Int) : Int) < (gs.length : Nat)))) (w' := w) (wantedSome (d' := 16) (b := false) rfl rfl (congrArg Value.bool (decide_eq_false g2))) (r_gtrI (a := (gs.length : Nat)) (b := (4096 : Int)) rfl rfl) ?_
   refine sq (r_pickF (v := .bool (decide (((4096 : Int) : Int) < (gs.length : Nat)))) (congrArg Value.bool (decide_eq_false g2)) rfl) ?_
   refine sM (.bool (decide (((4096 : Int) : Int) < (gs.length : Nat)))) rfl ?_
   by_cases g3 : ((4096 : Int) : Int) < (gs.length : Nat)
   ·skip
    refine skAny (wantedSome (d' := 21) (b := true) rfl rfl (congrArg Value.bool (decide_eq_true g3))) ?_
    refine skAny (wantedSome (d' := 21) (b := true) rfl rfl (congrArg Value.bool (decide_eq_true g3))) ?_
    refine skAny (wantedSome (d' := 21) (b := true) rfl rfl (congrArg Value.bool (decide_eq_true g3))) ?_
    refine sq (r_pickT (u := .bool (true)) (congrArg Value.bool (decide_eq_true g3)) rfl) ?_
    refine wend ?_
    refine condTrue rfl ?_
    refine sR ?_
    refine sA (.bool (false)) rfl ?_
    refine wend ?_
    refine retAny ?_
    refine thenRet ?_
    refine retG (rs := [.tmp 6]) (vs := [.bool (false)]) rfl ⟨⟨rfl, rfl⟩, trivial⟩ ?_
    exact ⟨_, rfl, .inr ⟨rfl, fun hg => by have := hg.lo; have := hg.hi; have := hg.gates; have := hg.outs; omega⟩, H.chg⟩
   ·skip
    refine sqAny (v := .slice oa ol.length oc) (w' := w) (wantedSome (d' := 21) (b := false) rfl rfl (congrArg Value.bool (decide_eq_false g3))) (r_move (v := .slice oa ol.length oc) rfl) ?_
    refine sqAny (v := i64 (ol.length : Nat)) (w' := w) (wantedSome (d' := 21) (b := false) rfl rfl (congrArg Value.bool (decide_eq_false g3))) (r_lenS sli60 (a := oa) (m := ol.length) (c := oc) rfl) ?_
    refine sqAny (v := .bool (decide (((64 : Int) : Int) < (ol.length : Nat)))) (w' := w) (wantedSome (d' := 21) (b := false) rfl rfl (congrArg Value.bool (decide_eq_false g3))) (r_gtrI (a := (ol.length : Nat)) (b := (64 : Int)) rfl rfl) ?_
    refine sq (r_pickF (v := .bool (decide (((64 : Int) : Int) < (ol.length : Nat)))) (congrArg Value.bool (decide_eq_false g3)) rfl) ?_
    refine wend ?_
    refine condProp (((64 : Int) : Int) < (ol.length : Nat)) rfl (fun c25 => ?_) (fun c25 => ?_)
    ·skip
     refine sR ?_
     refine sA (.bool (false)) rfl ?_
     refine wend ?_
     refine retAny ?_
     refine thenRet ?_
     refine retG (rs := [.tmp 6]) (vs := [.bool (false)]) rfl ⟨⟨rfl, rfl⟩, trivial⟩ ?_
     exact ⟨_, rfl, .inr ⟨rfl, fun hg => by have := hg.lo; have := hg.hi; have := hg.gates; have := hg.outs; omega⟩, H.chg⟩
    ·skip
     refine skipAny ?_
     refine thenNormal ?_
     refine seqAny ?_
     refine sR ?_
     refine sA (i64 ((0 : Int))) rfl ?_
     refine wend ?_
     refine blockAny ?_
     refine loopAny (σ := Nat) (fun i => [(0, i64 (n)), (1, .slice ga gs.length gc), (2, .slice oa ol.length oc), (7, i64 (i : Nat))]) (fun i w' => i ≤ gs.length ∧ (∀ j, j < i → gokP (gs.getD j g0) (n + (j : Nat))) ∧ Hp No w w' []) (fun i => gs.length - i) (0) ?_ ?_ ?_
     ·exact ⟨rfl, rfl, rfl, rfl, trivial⟩
     ·exact ⟨by omega, fun j hj => by omega, H⟩
     rintro i ρ w4 ⟨hi, hgs, HL⟩
     refine seqAny ?_
     refine sR ?_
     refine sM (i64 (i : Nat)) rfl ?_
     refine sM (.slice ga gs.length gc) rfl ?_
     refine sq (r_lenS sli78 (a := ga) (m := gs.length) (c := gc) rfl) ?_
     refine sq (r_lssI (a := (i : Nat)) (b := (gs.length : Nat)) rfl rfl) ?_
     refine wend ?_
     refine condProp (((i : Nat) : Int) < (gs.length : Nat)) rfl (fun c29 => ?_) (fun c29 => ?_)
     ·skip
      refine skipAny ?_
      refine thenNormal ?_
      refine seqAny ?_
      refine blockAny ?_
      refine sR ?_
      refine sM (.slice ga gs.length gc) rfl ?_
      refine sM (i64 (i : Nat)) rfl ?_
      refine sq (r_idxS (E := EG) (l := gs) (j := i) sli78 (hGs.ext HL.chg) rfl rfl (by first | rfl | omega | (simp; omega)) (by rfl) (by omega)) ?_
      refine sq ((r_ldS (E := EG) (l := gs) (j := i) (v := (gs).getD i g0) fits85 (hGs.ext HL.chg) rfl rfl (at_getD (by omega))).as (v' := .agg #[i64 (((gs).getD i g0).k), i64 (((gs).getD i g0).a), i64 (((gs).getD i g0).b)]) rfl) ?_
      refine q_alloc (o := .cells #[i64 ((0 : Int)), i64 ((0 : Int)), i64 ((0 : Int))] 85 (0, 0)) HL zer85 (by kernel_rfl) ?_
      intro b6 w7 hb6 H8 hE9
      refine d_store (k := 0) (v := .agg #[i64 (((gs).getD i g0).k), i64 (((gs).getD i g0).a), i64 (((gs).getD i g0).b)]) (cs' := #[i64 (((gs).getD i g0).k), i64 (((gs).getD i g0).a), i64 (((gs).getD i g0).b)]) H8 rfl rfl rfl siz85 (by rfl) (by intro u hu; simp [Value.cells] at hu; first | (subst hu; rfl) | (rcases hu with rfl | rfl | rfl <;> rfl)) (by exact bLe rfl) (by rfl) ?_
      intro w10 H11 hC12
      have H11' := H11.as (L' := [(some b6, .cells #[i64 (((gs).getD i g0).k), i64 (((gs).getD i g0).a), i64 (((gs).getD i g0).b)] 85 (0, 0))]) rfl
      clear H11
      refine wend ?_
      refine sR ?_
      refine sq (r_fieldAddr (off' := 0) fld85_0 (by decide) (b := b6) (off := 0) rfl (by omega)) ?_
      refine sq (r_loadC (v := i64 (((gs).getD i g0).k)) one3 (H11'.get (k := 0) rfl) (off := 0) rfl (by rfl)) ?_
      refine sq (r_lssI (a := ((gs).getD i g0).k) (b := (1 : Int)) rfl rfl) ?_
      refine sM (.bool (decide ((((gs).getD i g0).k : Int) < (1 : Int)))) rfl ?_
      by_cases g13 : (((gs).getD i g0).k : Int) < (1 : Int)
      ·skip
       refine skAny (wantedSome (d' := 39) (b := true) rfl rfl (congrArg Value.bool (decide_eq_true g13))) ?_
       refine skAny (wantedSome (d' := 39) (b := true) rfl rfl (congrArg Value.bool (decide_eq_true g13))) ?_
       refine skAny (wantedSome (d' := 39) (b := true) rfl rfl (congrArg Value.bool (decide_eq_true g13))) ?_
       refine sq (r_pickT (u := .bool (true)) (congrArg Value.bool (decide_eq_true g13)) rfl) ?_
       refine sM (.bool (true)) rfl ?_
       refine skAny (wantedSome (d' := 44) (b := true) rfl rfl rfl) ?_
       refine skAny (wantedSome (d' := 44) (b := true) rfl rfl rfl) ?_
       refine skAny (wantedSome (d' := 44) (b := true) rfl rfl rfl) ?_
       refine sq (r_pickT (u := .bool (true)) rfl rfl) ?_
       refine sM (.bool (true)) rfl ?_
       refine skAny (wantedSome (d' := 49) (b := true) rfl rfl rfl) ?_
       refine skAny (wantedSome (d' := 49) (b := true) rfl rfl rfl) ?_
       refine skAny (wantedSome (d' := 49) (b := true) rfl rfl rfl) ?_
       refine skAny (wantedSome (d' := 49) (b := true) rfl rfl rfl) ?_
       refine skAny (wantedSome (d' := 49) (b := true) rfl rfl rfl) ?_
       refine skAny (wantedSome (d' := 49) (b := true) rfl rfl rfl) ?_
       refine sq (r_pickT (u := .bool (true)) rfl rfl) ?_
       refine sM (.bool (true)) rfl ?_
       refine skAny (wantedSome (d' := 57) (b := true) rfl rfl rfl) ?_
       refine skAny (wantedSome (d' := 57) (b := true) rfl rfl rfl) ?_
       refine skAny (wantedSome (d' := 57) (b := true) rfl rfl rfl) ?_
       refine sq (r_pickT (u := .bool (true)) rfl rfl) ?_
       refine sM (.bool (true)) rfl ?_
       refine skAny (wantedSome (d' := 62) (b := true) rfl rfl rfl) ?_
       refine skAny (wantedSome (d' := 62) (b := true) rfl rfl rfl) ?_
       refine skAny (wantedSome (d' := 62) (b := true) rfl rfl rfl) ?_
       refine skAny (wantedSome (d' := 62) (b := true) rfl rfl rfl) ?_
       refine skAny (wantedUndef (d' := 66) rfl rfl rfl) ?_
       refine skAny (wantedUndef (d' := 66) rfl rfl rfl) ?_
       refine skAny (wantedUndef (d' := 66) rfl rfl rfl) ?_
       refine skAny (wantedUndef (d' := 66) rfl rfl rfl) ?_
       refine skAny (wantedUndef (d' := 66) rfl rfl rfl) ?_
       refine skAny (wantedUndef (d' := 66) rfl rfl rfl) ?_
       refine skAny (wantedSome (d' := 62) (b := true) rfl rfl rfl) ?_
       refine sq (r_pickT (u := .bool (true)) rfl rfl) ?_
       refine sM (.bool (true)) rfl ?_
       refine skAny (wantedSome (d' := 75) (b := true) rfl rfl rfl) ?_
       refine skAny (wantedSome (d' := 75) (b := true) rfl rfl rfl) ?_
       refine skAny (wantedSome (d' := 75) (b := true) rfl rfl rfl) ?_
       refine skAny (wantedSome (d' := 75) (b := true) rfl rfl rfl) ?_
       refine skAny (wantedUndef (d' := 79) rfl rfl rfl) ?_
       refine skAny (wantedUndef (d' := 79) rfl rfl rfl) ?_
       refine skAny (wantedUndef (d' := 79) rfl rfl rfl) ?_
       refine skAny (wantedSome (d' := 75) (b := true) rfl rfl rfl) ?_
       refine sq (r_pickT (u := .bool (true)) rfl rfl) ?_
       refine wend ?_
       refine condTrue rfl ?_
       refine sR ?_
       refine sA (.bool (false)) rfl ?_
       refine wend ?_
       refine retAny ?_
       refine blockRet ?_
       refine thenRet ?_
       refine thenRet ?_
       refine blockRet ?_
       refine thenRet ?_
       refine retG (rs := [.tmp 6]) (vs := [.bool (false)]) rfl ⟨⟨rfl, rfl⟩, trivial⟩ ?_
       exact ⟨_, rfl, .inr ⟨rfl, fun hg => by have := hg.gok i (by omega); unfold gokP at this; omega⟩, H11'.chg⟩
      ·skip
       refine sqAny (v := pT b6) (w' := w10) (wantedSome (d' := 39) (b := false) rfl rfl (congrArg Value.bool (decide_eq_false g13))) (r_fieldAddr (off' := 0) fld85_0 (by decide) (b := b6) (off := 0) rfl (by omega)) ?_
       refine sqAny (v := i64 (((gs).getD i g0).k)) (w' := w10) (wantedSome (d' := 39) (b := false) rfl rfl (congrArg Value.bool (decide_eq_false g13))) (r_loadC (v := i64 (((gs).getD i g0).k)) one3 (H11'.get (k := 0) rfl) (off := 0) rfl (by rfl)) ?_
       refine sqAny (v := .bool (decide (((3 : Int) : Int) < (((gs).getD i g0).k)))) (w' := w10) (wantedSome (d' := 39) (b := false) rfl rfl (congrArg Value.bool (decide_eq_false g13))) (r_gtrI (a := ((gs).getD i g0).k) (b := (3 : Int)) rfl rfl) ?_
       refine sq (r_pickF (v := .bool (decide (((3 : Int) : Int) < (((gs).getD i g0).k)))) (congrArg Value.bool (decide_eq_false g13)) rfl) ?_
       refine sM (.bool (decide (((3 : Int) : Int) < (((gs).getD i g0).k)))) rfl ?_
       by_cases g14 : ((3 : Int) : Int) < (((gs).getD i g0).k)
       ·skip
        refine skAny (wantedSome (d' := 44) (b := true) rfl rfl (congrArg Value.bool (decide_eq_true g14))) ?_
        refine skAny (wantedSome (d' := 44) (b := true) rfl rfl (congrArg Value.bool (decide_eq_true g14))) ?_
        refine skAny (wantedSome (d' := 44) (b := true) rfl rfl (congrArg Value.bool (decide_eq_true g14))) ?_
        refine sq (r_pickT (u := .bool (true)) (congrArg Value.bool (decide_eq_true g14)) rfl) ?_
        refine sM (.bool (true)) rfl ?_
        refine skAny (wantedSome (d' := 49) (b := true) rfl rfl rfl) ?_
        refine skAny (wantedSome (d' := 49) (b := true) rfl rfl rfl) ?_
        refine skAny (wantedSome (d' := 49) (b := true) rfl rfl rfl) ?_
        refine skAny (wantedSome (d' := 49) (b := true) rfl rfl rfl) ?_
        refine skAny (wantedSome (d' := 49) (b := true) rfl rfl rfl) ?_
        refine skAny (wantedSome (d' := 49) (b := true) rfl rfl rfl) ?_
        refine sq (r_pickT (u := .bool (true)) rfl rfl) ?_
        refine sM (.bool (true)) rfl ?_
        refine skAny (wantedSome (d' := 57) (b := true) rfl rfl rfl) ?_
        refine skAny (wantedSome (d' := 57) (b := true) rfl rfl rfl) ?_
        refine skAny (wantedSome (d' := 57) (b := true) rfl rfl rfl) ?_
        refine sq (r_pickT (u := .bool (true)) rfl rfl) ?_
        refine sM (.bool (true)) rfl ?_
        refine skAny (wantedSome (d' := 62) (b := true) rfl rfl rfl) ?_
        refine skAny (wantedSome (d' := 62) (b := true) rfl rfl rfl) ?_
        refine skAny (wantedSome (d' := 62) (b := true) rfl rfl rfl) ?_
        refine skAny (wantedSome (d' := 62) (b := true) rfl rfl rfl) ?_
        refine skAny (wantedUndef (d' := 66) rfl rfl rfl) ?_
        refine skAny (wantedUndef (d' := 66) rfl rfl rfl) ?_
        refine skAny (wantedUndef (d' := 66) rfl rfl rfl) ?_
        refine skAny (wantedUndef (d' := 66) rfl rfl rfl) ?_
        refine skAny (wantedUndef (d' := 66) rfl rfl rfl) ?_
        refine skAny (wantedUndef (d' := 66) rfl rfl rfl) ?_
        refine skAny (wantedSome (d' := 62) (b := true) rfl rfl rfl) ?_
        refine sq (r_pickT (u := .bool (true)) rfl rfl) ?_
        refine sM (.bool (true)) rfl ?_
        refine skAny (wantedSome (d' := 75) (b := true) rfl rfl rfl) ?_
        refine skAny (wantedSome (d' := 75) (b := true) rfl rfl rfl) ?_
        refine skAny (wantedSome (d' := 75) (b := true) rfl rfl rfl) ?_
        refine skAny (wantedSome (d' := 75) (b := true) rfl rfl rfl) ?_
        refine skAny (wantedUndef (d' := 79) rfl rfl rfl) ?_
        refine skAny (wantedUndef (d' := 79) rfl rfl rfl) ?_
        refine skAny (wantedUndef (d' := 79) rfl rfl rfl) ?_
        refine skAny (wantedSome (d' := 75) (b := true) rfl rfl rfl) ?_
        refine sq (r_pickT (u := .bool (true)) rfl rfl) ?_
        refine wend ?_
        refine condTrue rfl ?_
        refine sR ?_
        refine sA (.bool (false)) rfl ?_
        refine wend ?_
        refine retAny ?_
        refine blockRet ?_
        refine thenRet ?_
        refine thenRet ?_
        refine blockRet ?_
        refine thenRet ?_
        refine retG (rs := [.tmp 6]) (vs := [.bool (false)]) rfl ⟨⟨rfl, rfl⟩, trivial⟩ ?_
        exact ⟨_, rfl, .inr ⟨rfl, fun hg => by have := hg.gok i (by omega); unfold gokP at this; omega⟩, H11'.chg⟩
       ·skip
        refine sqAny (v := .pointer (some ⟨b6, 1, none⟩)) (w' := w10) (wantedSome (d' := 44) (b := false) rfl rfl (congrArg Value.bool (decide_eq_false g14))) (r_fieldAddr (off' := 1) fld85_1 (by decide) (b := b6) (off := 0) rfl (by omega)) ?_
        refine sqAny (v := i64 (((gs).getD i g0).a)) (w' := w10) (wantedSome (d' := 44) (b := false) rfl rfl (congrArg Value.bool (decide_eq_false g14))) (r_loadC (v := i64 (((gs).getD i g0).a)) one3 (H11'.get (k := 0) rfl) (off := 1) rfl (by rfl)) ?_
        refine sqAny (v := .bool (decide ((((gs).getD i g0).a : Int) < (0 : Int)))) (w' := w10) (wantedSome (d' := 44) (b := false) rfl rfl (congrArg Value.bool (decide_eq_false g14))) (r_lssI (a := ((gs).getD i g0).a) (b := (0 : Int)) rfl rfl) ?_
        refine sq (r_pickF (v := .bool (decide ((((gs).getD i g0).a : Int) < (0 : Int)))) (congrArg Value.bool (decide_eq_false g14)) rfl) ?_
        refine sM (.bool (decide ((((gs).getD i g0).a : Int) < (0 : Int)))) rfl ?_
        by_cases g15 : (((gs).getD i g0).a : Int) < (0 : Int)
        ·skip
         refine skAny (wantedSome (d' := 49) (b := true) rfl rfl (congrArg Value.bool (decide_eq_true g15))) ?_
         refine skAny (wantedSome (d' := 49) (b := true) rfl rfl (congrArg Value.bool (decide_eq_true g15))) ?_
         refine skAny (wantedSome (d' := 49) (b := true) rfl rfl (congrArg Value.bool (decide_eq_true g15))) ?_
         refine skAny (wantedSome (d' := 49) (b := true) rfl rfl (congrArg Value.bool (decide_eq_true g15))) ?_
         refine skAny (wantedSome (d' := 49) (b := true) rfl rfl (congrArg Value.bool (decide_eq_true g15))) ?_
         refine skAny (wantedSome (d' := 49) (b := true) rfl rfl (congrArg Value.bool (decide_eq_true g15))) ?_
         refine sq (r_pickT (u := .bool (true)) (congrArg Value.bool (decide_eq_true g15)) rfl) ?_
         refine sM (.bool (true)) rfl ?_
         refine skAny (wantedSome (d' := 57) (b := true) rfl rfl rfl) ?_
         refine skAny (wantedSome (d' := 57) (b := true) rfl rfl rfl) ?_
         refine skAny (wantedSome (d' := 57) (b := true) rfl rfl rfl) ?_
         refine sq (r_pickT (u := .bool (true)) rfl rfl) ?_
         refine sM (.bool (true)) rfl ?_
         refine skAny (wantedSome (d' := 62) (b := true) rfl rfl rfl) ?_
         refine skAny (wantedSome (d' := 62) (b := true) rfl rfl rfl) ?_
         refine skAny (wantedSome (d' := 62) (b := true) rfl rfl rfl) ?_
         refine skAny (wantedSome (d' := 62) (b := true) rfl rfl rfl) ?_
         refine skAny (wantedUndef (d' := 66) rfl rfl rfl) ?_
         refine skAny (wantedUndef (d' := 66) rfl rfl rfl) ?_
         refine skAny (wantedUndef (d' := 66) rfl rfl rfl) ?_
         refine skAny (wantedUndef (d' := 66) rfl rfl rfl) ?_
         refine skAny (wantedUndef (d' := 66) rfl rfl rfl) ?_
         refine skAny (wantedUndef (d' := 66) rfl rfl rfl) ?_
         refine skAny (wantedSome (d' := 62) (b := true) rfl rfl rfl) ?_
         refine sq (r_pickT (u := .bool (true)) rfl rfl) ?_
         refine sM (.bool (true)) rfl ?_
         refine skAny (wantedSome (d' := 75) (b := true) rfl rfl rfl) ?_
         refine skAny (wantedSome (d' := 75) (b := true) rfl rfl rfl) ?_
         refine skAny (wantedSome (d' := 75) (b := true) rfl rfl rfl) ?_
         refine skAny (wantedSome (d' := 75) (b := true) rfl rfl rfl) ?_
         refine skAny (wantedUndef (d' := 79) rfl rfl rfl) ?_
         refine skAny (wantedUndef (d' := 79) rfl rfl rfl) ?_
         refine skAny (wantedUndef (d' := 79) rfl rfl rfl) ?_
         refine skAny (wantedSome (d' := 75) (b := true) rfl rfl rfl) ?_
         refine sq (r_pickT (u := .bool (true)) rfl rfl) ?_
         refine wend ?_
         refine condTrue rfl ?_
         refine sR ?_
         refine sA (.bool (false)) rfl ?_
         refine wend ?_
         refine retAny ?_
         refine blockRet ?_
         refine thenRet ?_
         refine thenRet ?_
         refine blockRet ?_
         refine thenRet ?_
         refine retG (rs := [.tmp 6]) (vs := [.bool (false)]) rfl ⟨⟨rfl, rfl⟩, trivial⟩ ?_
         exact ⟨_, rfl, .inr ⟨rfl, fun hg => by have := hg.gok i (by omega); unfold gokP at this; omega⟩, H11'.chg⟩
        ·skip
         refine sqAny (v := .pointer (some ⟨b6, 1, none⟩)) (w' := w10) (wantedSome (d' := 49) (b := false) rfl rfl (congrArg Value.bool (decide_eq_false g15))) (r_fieldAddr (off' := 1) fld85_1 (by decide) (b := b6) (off := 0) rfl (by omega)) ?_
         refine sqAny (v := i64 (((gs).getD i g0).a)) (w' := w10) (wantedSome (d' := 49) (b := false) rfl rfl (congrArg Value.bool (decide_eq_false g15))) (r_loadC (v := i64 (((gs).getD i g0).a)) one3 (H11'.get (k := 0) rfl) (off := 1) rfl (by rfl)) ?_
         refine sqAny (v := i64 (n)) (w' := w10) (wantedSome (d' := 49) (b := false) rfl rfl (congrArg Value.bool (decide_eq_false g15))) (r_move (v := i64 (n)) rfl) ?_
         refine sqAny (v := i64 (i : Nat)) (w' := w10) (wantedSome (d' := 49) (b := false) rfl rfl (congrArg Value.bool (decide_eq_false g15))) (r_move (v := i64 (i : Nat)) rfl) ?_
         refine sqAny (v := i64 (n + (i : Nat))) (w' := w10) (wantedSome (d' := 49) (b := false) rfl rfl (congrArg Value.bool (decide_eq_false g15))) (r_addI (a := n) (b := (i : Nat)) rfl rfl (by omega)) ?_
         refine sqAny (v := .bool (decide ((n + (i : Nat) : Int) ≤ (((gs).getD i g0).a)))) (w' := w10) (wantedSome (d' := 49) (b := false) rfl rfl (congrArg Value.bool (decide_eq_false g15))) (r_geqI (a := ((gs).getD i g0).a) (b := n + (i : Nat)) rfl rfl) ?_
         refine sq (r_pickF (v := .bool (decide ((n + (i : Nat) : Int) ≤ (((gs).getD i g0).a)))) (congrArg Value.bool (decide_eq_false g15)) rfl) ?_
         refine sM (.bool (decide ((n + (i : Nat) : Int) ≤ (((gs).getD i g0).a)))) rfl ?_
         by_cases g16 : (n + (i : Nat) : Int) ≤ (((gs).getD i g0).a)
         ·skip
          refine skAny (wantedSome (d' := 57) (b := true) rfl rfl (congrArg Value.bool (decide_eq_true g16))) ?_
          refine skAny (wantedSome (d' := 57) (b := true) rfl rfl (congrArg Value.bool (decide_eq_true g16))) ?_
          refine skAny (wantedSome (d' := 57) (b := true) rfl rfl (congrArg Value.bool (decide_eq_true g16))) ?_
          refine sq (r_pickT (u := .bool (true)) (congrArg Value.bool (decide_eq_true g16)) rfl) ?_
          refine sM (.bool (true)) rfl ?_
          refine skAny (wantedSome (d' := 62) (b := true) rfl rfl rfl) ?_
          refine skAny (wantedSome (d' := 62) (b := true) rfl rfl rfl) ?_
          refine skAny (wantedSome (d' := 62) (b := true) rfl rfl rfl) ?_
          refine skAny (wantedSome (d' := 62) (b := true) rfl rfl rfl) ?_
          refine skAny (wantedUndef (d' := 66) rfl rfl rfl) ?_
          refine skAny (wantedUndef (d' := 66) rfl rfl rfl) ?_
          refine skAny (wantedUndef (d' := 66) rfl rfl rfl) ?_
          refine skAny (wantedUndef (d' := 66) rfl rfl rfl) ?_
          refine skAny (wantedUndef (d' := 66) rfl rfl rfl) ?_
          refine skAny (wantedUndef (d' := 66) rfl rfl rfl) ?_
          refine skAny (wantedSome (d' := 62) (b := true) rfl rfl rfl) ?_
          refine sq (r_pickT (u := .bool (true)) rfl rfl) ?_
          refine sM (.bool (true)) rfl ?_
          refine skAny (wantedSome (d' := 75) (b := true) rfl rfl rfl) ?_
          refine skAny (wantedSome (d' := 75) (b := true) rfl rfl rfl) ?_
          refine skAny (wantedSome (d' := 75) (b := true) rfl rfl rfl) ?_
          refine skAny (wantedSome (d' := 75) (b := true) rfl rfl rfl) ?_
          refine skAny (wantedUndef (d' := 79) rfl rfl rfl) ?_
          refine skAny (wantedUndef (d' := 79) rfl rfl rfl) ?_
          refine skAny (wantedUndef (d' := 79) rfl rfl rfl) ?_
          refine skAny (wantedSome (d' := 75) (b := true) rfl rfl rfl) ?_
          refine sq (r_pickT (u := .bool (true)) rfl rfl) ?_
          refine wend ?_
          refine condTrue rfl ?_
          refine sR ?_
          refine sA (.bool (false)) rfl ?_
          refine wend ?_
          refine retAny ?_
          refine blockRet ?_
          refine thenRet ?_
          refine thenRet ?_
          refine blockRet ?_
          refine thenRet ?_
          refine retG (rs := [.tmp 6]) (vs := [.bool (false)]) rfl ⟨⟨rfl, rfl⟩, trivial⟩ ?_
          exact ⟨_, rfl, .inr ⟨rfl, fun hg => by have := hg.gok i (by omega); unfold gokP at this; omega⟩, H11'.chg⟩
         ·skip
          refine sqAny (v := .pointer (some ⟨b6, 2, none⟩)) (w' := w10) (wantedSome (d' := 57) (b := false) rfl rfl (congrArg Value.bool (decide_eq_false g16))) (r_fieldAddr (off' := 2) fld85_2 (by decide) (b := b6) (off := 0) rfl (by omega)) ?_
          refine sqAny (v := i64 (((gs).getD i g0).b)) (w' := w10) (wantedSome (d' := 57) (b := false) rfl rfl (congrArg Value.bool (decide_eq_false g16))) (r_loadC (v := i64 (((gs).getD i g0).b)) one3 (H11'.get (k := 0) rfl) (off := 2) rfl (by rfl)) ?_
          refine sqAny (v := .bool (decide ((((gs).getD i g0).b : Int) < (0 : Int)))) (w' := w10) (wantedSome (d' := 57) (b := false) rfl rfl (congrArg Value.bool (decide_eq_false g16))) (r_lssI (a := ((gs).getD i g0).b) (b := (0 : Int)) rfl rfl) ?_
          refine sq (r_pickF (v := .bool (decide ((((gs).getD i g0).b : Int) < (0 : Int)))) (congrArg Value.bool (decide_eq_false g16)) rfl) ?_
          refine sM (.bool (decide ((((gs).getD i g0).b : Int) < (0 : Int)))) rfl ?_
          by_cases g17 : (((gs).getD i g0).b : Int) < (0 : Int)
          ·skip
           refine skAny (wantedSome (d' := 62) (b := true) rfl rfl (congrArg Value.bool (decide_eq_true g17))) ?_
           refine skAny (wantedSome (d' := 62) (b := true) rfl rfl (congrArg Value.bool (decide_eq_true g17))) ?_
           refine skAny (wantedSome (d' := 62) (b := true) rfl rfl (congrArg Value.bool (decide_eq_true g17))) ?_
           refine skAny (wantedSome (d' := 62) (b := true) rfl rfl (congrArg Value.bool (decide_eq_true g17))) ?_
           refine skAny (wantedUndef (d' := 66) rfl rfl rfl) ?_
           refine skAny (wantedUndef (d' := 66) rfl rfl rfl) ?_
           refine skAny (wantedUndef (d' := 66) rfl rfl rfl) ?_
           refine skAny (wantedUndef (d' := 66) rfl rfl rfl) ?_
           refine skAny (wantedUndef (d' := 66) rfl rfl rfl) ?_
           refine skAny (wantedUndef (d' := 66) rfl rfl rfl) ?_
           refine skAny (wantedSome (d' := 62) (b := true) rfl rfl (congrArg Value.bool (decide_eq_true g17))) ?_
           refine sq (r_pickT (u := .bool (true)) (congrArg Value.bool (decide_eq_true g17)) rfl) ?_
           refine sM (.bool (true)) rfl ?_
           refine skAny (wantedSome (d' := 75) (b := true) rfl rfl rfl) ?_
           refine skAny (wantedSome (d' := 75) (b := true) rfl rfl rfl) ?_
           refine skAny (wantedSome (d' := 75) (b := true) rfl rfl rfl) ?_
           refine skAny (wantedSome (d' := 75) (b := true) rfl rfl rfl) ?_
           refine skAny (wantedUndef (d' := 79) rfl rfl rfl) ?_
           refine skAny (wantedUndef (d' := 79) rfl rfl rfl) ?_
           refine skAny (wantedUndef (d' := 79) rfl rfl rfl) ?_
           refine skAny (wantedSome (d' := 75) (b := true) rfl rfl rfl) ?_
           refine sq (r_pickT (u := .bool (true)) rfl rfl) ?_
           refine wend ?_
           refine condTrue rfl ?_
           refine sR ?_
           refine sA (.bool (false)) rfl ?_
           refine wend ?_
           refine retAny ?_
           refine blockRet ?_
           refine thenRet ?_
           refine thenRet ?_
           refine blockRet ?_
           refine thenRet ?_
           refine retG (rs := [.tmp 6]) (vs := [.bool (false)]) rfl ⟨⟨rfl, rfl⟩, trivial⟩ ?_
           exact ⟨_, rfl, .inr ⟨rfl, fun hg => by have := hg.gok i (by omega); unfold gokP at this; omega⟩, H11'.chg⟩
          ·skip
           refine sqAny (v := pT b6) (w' := w10) (wantedSome (d' := 62) (b := false) rfl rfl (congrArg Value.bool (decide_eq_false g17))) (r_fieldAddr (off' := 0) fld85_0 (by decide) (b := b6) (off := 0) rfl (by omega)) ?_
           refine sqAny (v := i64 (((gs).getD i g0).k)) (w' := w10) (wantedSome (d' := 62) (b := false) rfl rfl (congrArg Value.bool (decide_eq_false g17))) (r_loadC (v := i64 (((gs).getD i g0).k)) one3 (H11'.get (k := 0) rfl) (off := 0) rfl (by rfl)) ?_
           refine sqAny (v := .bool (decide ((((gs).getD i g0).k : Int) < (3 : Int)))) (w' := w10) (wantedSome (d' := 62) (b := false) rfl rfl (congrArg Value.bool (decide_eq_false g17))) (r_lssI (a := ((gs).getD i g0).k) (b := (3 : Int)) rfl rfl) ?_
           refine sqAny (v := .bool (decide ((((gs).getD i g0).k : Int) < (3 : Int)))) (w' := w10) (wantedSome (d' := 62) (b := false) rfl rfl (congrArg Value.bool (decide_eq_false g17))) (r_move (v := .bool (decide ((((gs).getD i g0).k : Int) < (3 : Int)))) rfl) ?_
           by_cases g18 : (((gs).getD i g0).k : Int) < (3 : Int)
           ·skip
            refine sqAny (v := .pointer (some ⟨b6, 2, none⟩)) (w' := w10) (wantedSome (d' := 66) (b := true) rfl rfl (congrArg Value.bool (decide_eq_true g18))) (r_fieldAddr (off' := 2) fld85_2 (by decide) (b := b6) (off := 0) rfl (by omega)) ?_
            refine sqAny (v := i64 (((gs).getD i g0).b)) (w' := w10) (wantedSome (d' := 66) (b := true) rfl rfl (congrArg Value.bool (decide_eq_true g18))) (r_loadC (v := i64 (((gs).getD i g0).b)) one3 (H11'.get (k := 0) rfl) (off := 2) rfl (by rfl)) ?_
            refine sqAny (v := i64 (n)) (w' := w10) (wantedSome (d' := 66) (b := true) rfl rfl (congrArg Value.bool (decide_eq_true g18))) (r_move (v := i64 (n)) rfl) ?_
            refine sqAny (v := i64 (i : Nat)) (w' := w10) (wantedSome (d' := 66) (b := true) rfl rfl (congrArg Value.bool (decide_eq_true g18))) (r_move (v := i64 (i : Nat)) rfl) ?_
            refine sqAny (v := i64 (n + (i : Nat))) (w' := w10) (wantedSome (d' := 66) (b := true) rfl rfl (congrArg Value.bool (decide_eq_true g18))) (r_addI (a := n) (b := (i : Nat)) rfl rfl (by omega)) ?_
            refine sqAny (v := .bool (decide ((n + (i : Nat) : Int) ≤ (((gs).getD i g0).b)))) (w' := w10) (wantedSome (d' := 66) (b := true) rfl rfl (congrArg Value.bool (decide_eq_true g18))) (r_geqI (a := ((gs).getD i g0).b) (b := n + (i : Nat)) rfl rfl) ?_
            refine sqAny (v := .bool (decide ((n + (i : Nat) : Int) ≤ (((gs).getD i g0).b)))) (w' := w10) (wantedSome (d' := 62) (b := false) rfl rfl (congrArg Value.bool (decide_eq_false g17))) (r_pickT (u := .bool (decide ((n + (i : Nat) : Int) ≤ (((gs).getD i g0).b)))) (congrArg Value.bool (decide_eq_true g18)) rfl) ?_
            refine sq (r_pickF (v := .bool (decide ((n + (i : Nat) : Int) ≤ (((gs).getD i g0).b)))) (congrArg Value.bool (decide_eq_false g17)) rfl) ?_
            refine sM (.bool (decide ((n + (i : Nat) : Int) ≤ (((gs).getD i g0).b)))) rfl ?_
            by_cases g19 : (n + (i : Nat) : Int) ≤ (((gs).getD i g0).b)
            ·skip
             refine skAny (wantedSome (d' := 75) (b := true) rfl rfl (congrArg Value.bool (decide_eq_true g19))) ?_
             refine skAny (wantedSome (d' := 75) (b := true) rfl rfl (congrArg Value.bool (decide_eq_true g19))) ?_
             refine skAny (wantedSome (d' := 75) (b := true) rfl rfl (congrArg Value.bool (decide_eq_true g19))) ?_
             refine skAny (wantedSome (d' := 75) (b := true) rfl rfl (congrArg Value.bool (decide_eq_true g19))) ?_
             refine skAny (wantedUndef (d' := 79) rfl rfl rfl) ?_
             refine skAny (wantedUndef (d' := 79) rfl rfl rfl) ?_
             refine skAny (wantedUndef (d' := 79) rfl rfl rfl) ?_
             refine skAny (wantedSome (d' := 75) (b := true) rfl rfl (congrArg Value.bool (decide_eq_true g19))) ?_
             refine sq (r_pickT (u := .bool (true)) (congrArg Value.bool (decide_eq_true g19)) rfl) ?_
             refine wend ?_
             refine condTrue rfl ?_
             refine sR ?_
             refine sA (.bool (false)) rfl ?_
             refine wend ?_
             refine retAny ?_
             refine blockRet ?_
             refine thenRet ?_
             refine thenRet ?_
             refine blockRet ?_
             refine thenRet ?_
             refine retG (rs := [.tmp 6]) (vs := [.bool (false)]) rfl ⟨⟨rfl, rfl⟩, trivial⟩ ?_
             exact ⟨_, rfl, .inr ⟨rfl, fun hg => by have := hg.gok i (by omega); unfold gokP at this; omega⟩, H11'.chg⟩
            ·skip
             refine sqAny (v := pT b6) (w' := w10) (wantedSome (d' := 75) (b := false) rfl rfl (congrArg Value.bool (decide_eq_false g19))) (r_fieldAddr (off' := 0) fld85_0 (by decide) (b := b6) (off := 0) rfl (by omega)) ?_
             refine sqAny (v := i64 (((gs).getD i g0).k)) (w' := w10) (wantedSome (d' := 75) (b := false) rfl rfl (congrArg Value.bool (decide_eq_false g19))) (r_loadC (v := i64 (((gs).getD i g0).k)) one3 (H11'.get (k := 0) rfl) (off := 0) rfl (by rfl)) ?_
             refine sqAny (v := .bool (decide ((((gs).getD i g0).k : Int) = (3 : Int)))) (w' := w10) (wantedSome (d' := 75) (b := false) rfl rfl (congrArg Value.bool (decide_eq_false g19))) (r_eqlI (a := ((gs).getD i g0).k) (b := (3 : Int)) rfl rfl) ?_
             refine sqAny (v := .bool (decide ((((gs).getD i g0).k : Int) = (3 : Int)))) (w' := w10) (wantedSome (d' := 75) (b := false) rfl rfl (congrArg Value.bool (decide_eq_false g19))) (r_move (v := .bool (decide ((((gs).getD i g0).k : Int) = (3 : Int)))) rfl) ?_
             by_cases g20 : (((gs).getD i g0).k : Int) = (3 : Int)
             ·skip
              refine sqAny (v := .pointer (some ⟨b6, 2, none⟩)) (w' := w10) (wantedSome (d' := 79) (b := true) rfl rfl (congrArg Value.bool (decide_eq_true g20))) (r_fieldAddr (off' := 2) fld85_2 (by decide) (b := b6) (off := 0) rfl (by omega)) ?_
              refine sqAny (v := i64 (((gs).getD i g0).b)) (w' := w10) (wantedSome (d' := 79) (b := true) rfl rfl (congrArg Value.bool (decide_eq_true g20))) (r_loadC (v := i64 (((gs).getD i g0).b)) one3 (H11'.get (k := 0) rfl) (off := 2) rfl (by rfl)) ?_
              refine sqAny (v := .bool (decide ((((gs).getD i g0).b : Int) ≠ (0 : Int)))) (w' := w10) (wantedSome (d' := 79) (b := true) rfl rfl (congrArg Value.bool (decide_eq_true g20))) (r_neqI (a := ((gs).getD i g0).b) (b := (0 : Int)) rfl rfl) ?_
              refine sqAny (v := .bool (decide ((((gs).getD i g0).b : Int) ≠ (0 : Int)))) (w' := w10) (wantedSome (d' := 75) (b := false) rfl rfl (congrArg Value.bool (decide_eq_false g19))) (r_pickT (u := .bool (decide ((((gs).getD i g0).b : Int) ≠ (0 : Int)))) (congrArg Value.bool (decide_eq_true g20)) rfl) ?_
              refine sq (r_pickF (v := .bool (decide ((((gs).getD i g0).b : Int) ≠ (0 : Int)))) (congrArg Value.bool (decide_eq_false g19)) rfl) ?_
              refine wend ?_
              refine condProp ((((gs).getD i g0).b : Int) ≠ (0 : Int)) rfl (fun c84 => ?_) (fun c84 => ?_)
              ·skip
               refine sR ?_
               refine sA (.bool (false)) rfl ?_
               refine wend ?_
               refine retAny ?_
               refine blockRet ?_
               refine thenRet ?_
               refine thenRet ?_
               refine blockRet ?_
               refine thenRet ?_
               refine retG (rs := [.tmp 6]) (vs := [.bool (false)]) rfl ⟨⟨rfl, rfl⟩, trivial⟩ ?_
               exact ⟨_, rfl, .inr ⟨rfl, fun hg => by have := hg.gok i (by omega); unfold gokP at this; omega⟩, H11'.chg⟩
              ·skip
               refine skipAny ?_
               refine blockNormal ?_
               refine thenNormal ?_
               refine oneRegion ?_
               refine sM (i64 (i : Nat)) rfl ?_
               refine sq (r_addI (a := (i : Nat)) (b := (1 : Int)) rfl rfl (by omega)) ?_
               refine sA (i64 ((i : Nat) + (1 : Int))) rfl ?_
               refine wnil ?_
               refine thenNormal ?_
               have hgi : gokP (gs.getD i g0) (n + (i : Nat)) := by unfold gokP; omega
               exact ⟨i + 1, _, rfl, ⟨rfl, rfl, rfl, rfl, trivial⟩, ⟨by omega, fun j hj => if h : j < i then hgs j h else by (rw [show j = i by omega]; exact hgi), (H11'.dropk 0)⟩, by show gs.length - (i + 1) < gs.length - i; omega⟩
             ·skip
              refine skAny (wantedSome (d' := 79) (b := false) rfl rfl (congrArg Value.bool (decide_eq_false g20))) ?_
              refine skAny (wantedSome (d' := 79) (b := false) rfl rfl (congrArg Value.bool (decide_eq_false g20))) ?_
              refine skAny (wantedSome (d' := 79) (b := false) rfl rfl (congrArg Value.bool (decide_eq_false g20))) ?_
              refine sqAny (v := .bool (false)) (w' := w10) (wantedSome (d' := 75) (b := false) rfl rfl (congrArg Value.bool (decide_eq_false g19))) (r_pickF (v := .bool (false)) (congrArg Value.bool (decide_eq_false g20)) rfl) ?_
              refine sq (r_pickF (v := .bool (false)) (congrArg Value.bool (decide_eq_false g19)) rfl) ?_
              refine wend ?_
              refine condFalse rfl ?_
              refine skipAny ?_
              refine blockNormal ?_
              refine thenNormal ?_
              refine oneRegion ?_
              refine sM (i64 (i : Nat)) rfl ?_
              refine sq (r_addI (a := (i : Nat)) (b := (1 : Int)) rfl rfl (by omega)) ?_
              refine sA (i64 ((i : Nat) + (1 : Int))) rfl ?_
              refine wnil ?_
              refine thenNormal ?_
              have hgi : gokP (gs.getD i g0) (n + (i : Nat)) := by unfold gokP; omega
              exact ⟨i + 1, _, rfl, ⟨rfl, rfl, rfl, rfl, trivial⟩, ⟨by omega, fun j hj => if h : j < i then hgs j h else by (rw [show j = i by omega]; exact hgi), (H11'.dropk 0)⟩, by show gs.length - (i + 1) < gs.length - i; omega⟩
           ·skip
            refine skAny (wantedSome (d' := 66) (b := false) rfl rfl (congrArg Value.bool (decide_eq_false g18))) ?_
            refine skAny (wantedSome (d' := 66) (b := false) rfl rfl (congrArg Value.bool (decide_eq_false g18))) ?_
            refine skAny (wantedSome (d' := 66) (b := false) rfl rfl (congrArg Value.bool (decide_eq_false g18))) ?_
            refine skAny (wantedSome (d' := 66) (b := false) rfl rfl (congrArg Value.bool (decide_eq_false g18))) ?_
            refine skAny (wantedSome (d' := 66) (b := false) rfl rfl (congrArg Value.bool (decide_eq_false g18))) ?_
            refine skAny (wantedSome (d' := 66) (b := false) rfl rfl (congrArg Value.bool (decide_eq_false g18))) ?_
            refine sqAny (v := .bool (false)) (w' := w10) (wantedSome (d' := 62) (b := false) rfl rfl (congrArg Value.bool (decide_eq_false g17))) (r_pickF (v := .bool (false)) (congrArg Value.bool (decide_eq_false g18)) rfl) ?_
            refine sq (r_pickF (v := .bool (false)) (congrArg Value.bool (decide_eq_false g17)) rfl) ?_
            refine sM (.bool (false)) rfl ?_
            refine sqAny (v := pT b6) (w' := w10) (wantedSome (d' := 75) (b := false) rfl rfl rfl) (r_fieldAddr (off' := 0) fld85_0 (by decide) (b := b6) (off := 0) rfl (by omega)) ?_
            refine sqAny (v := i64 (((gs).getD i g0).k)) (w' := w10) (wantedSome (d' := 75) (b := false) rfl rfl rfl) (r_loadC (v := i64 (((gs).getD i g0).k)) one3 (H11'.get (k := 0) rfl) (off := 0) rfl (by rfl)) ?_
            refine sqAny (v := .bool (decide ((((gs).getD i g0).k : Int) = (3 : Int)))) (w' := w10) (wantedSome (d' := 75) (b := false) rfl rfl rfl) (r_eqlI (a := ((gs).getD i g0).k) (b := (3 : Int)) rfl rfl) ?_
            refine sqAny (v := .bool (decide ((((gs).getD i g0).k : Int) = (3 : Int)))) (w' := w10) (wantedSome (d' := 75) (b := false) rfl rfl rfl) (r_move (v := .bool (decide ((((gs).getD i g0).k : Int) = (3 : Int)))) rfl) ?_
            by_cases g21 : (((gs).getD i g0).k : Int) = (3 : Int)
            ·skip
             refine sqAny (v := .pointer (some ⟨b6, 2, none⟩)) (w' := w10) (wantedSome (d' := 79) (b := true) rfl rfl (congrArg Value.bool (decide_eq_true g21))) (r_fieldAddr (off' := 2) fld85_2 (by decide) (b := b6) (off := 0) rfl (by omega)) ?_
             refine sqAny (v := i64 (((gs).getD i g0).b)) (w' := w10) (wantedSome (d' := 79) (b := true) rfl rfl (congrArg Value.bool (decide_eq_true g21))) (r_loadC (v := i64 (((gs).getD i g0).b)) one3 (H11'.get (k := 0) rfl) (off := 2) rfl (by rfl)) ?_
             refine sqAny (v := .bool (decide ((((gs).getD i g0).b : Int) ≠ (0 : Int)))) (w' := w10) (wantedSome (d' := 79) (b := true) rfl rfl (congrArg Value.bool (decide_eq_true g21))) (r_neqI (a := ((gs).getD i g0).b) (b := (0 : Int)) rfl rfl) ?_
             refine sqAny (v := .bool (decide ((((gs).getD i g0).b : Int) ≠ (0 : Int)))) (w' := w10) (wantedSome (d' := 75) (b := false) rfl rfl rfl) (r_pickT (u := .bool (decide ((((gs).getD i g0).b : Int) ≠ (0 : Int)))) (congrArg Value.bool (decide_eq_true g21)) rfl) ?_
             refine sq (r_pickF (v := .bool (decide ((((gs).getD i g0).b : Int) ≠ (0 : Int)))) rfl rfl) ?_
             refine wend ?_
             refine condProp ((((gs).getD i g0).b : Int) ≠ (0 : Int)) rfl (fun c84 => ?_) (fun c84 => ?_)
             ·skip
              refine sR ?_
              refine sA (.bool (false)) rfl ?_
              refine wend ?_
              refine retAny ?_
              refine blockRet ?_
              refine thenRet ?_
              refine thenRet ?_
              refine blockRet ?_
              refine thenRet ?_
              refine retG (rs := [.tmp 6]) (vs := [.bool (false)]) rfl ⟨⟨rfl, rfl⟩, trivial⟩ ?_
              exact ⟨_, rfl, .inr ⟨rfl, fun hg => by have := hg.gok i (by omega); unfold gokP at this; omega⟩, H11'.chg⟩
             ·skip
              refine skipAny ?_
              refine blockNormal ?_
              refine thenNormal ?_
              refine oneRegion ?_
              refine sM (i64 (i : Nat)) rfl ?_
              refine sq (r_addI (a := (i : Nat)) (b := (1 : Int)) rfl rfl (by omega)) ?_
              refine sA (i64 ((i : Nat) + (1 : Int))) rfl ?_
              refine wnil ?_
              refine thenNormal ?_
              have hgi : gokP (gs.getD i g0) (n + (i : Nat)) := by unfold gokP; omega
              exact ⟨i + 1, _, rfl, ⟨rfl, rfl, rfl, rfl, trivial⟩, ⟨by omega, fun j hj => if h : j < i then hgs j h else by (rw [show j = i by omega]; exact hgi), (H11'.dropk 0)⟩, by show gs.length - (i + 1) < gs.length - i; omega⟩
            ·skip
             refine skAny (wantedSome (d' := 79) (b := false) rfl rfl (congrArg Value.bool (decide_eq_false g21))) ?_
             refine skAny (wantedSome (d' := 79) (b := false) rfl rfl (congrArg Value.bool (decide_eq_false g21))) ?_
             refine skAny (wantedSome (d' := 79) (b := false) rfl rfl (congrArg Value.bool (decide_eq_false g21))) ?_
             refine sqAny (v := .bool (false)) (w' := w10) (wantedSome (d' := 75) (b := false) rfl rfl rfl) (r_pickF (v := .bool (false)) (congrArg Value.bool (decide_eq_false g21)) rfl) ?_
             refine sq (r_pickF (v := .bool (false)) rfl rfl) ?_
             refine wend ?_
             refine condFalse rfl ?_
             refine skipAny ?_
             refine blockNormal ?_
             refine thenNormal ?_
             refine oneRegion ?_
             refine sM (i64 (i : Nat)) rfl ?_
             refine sq (r_addI (a := (i : Nat)) (b := (1 : Int)) rfl rfl (by omega)) ?_
             refine sA (i64 ((i : Nat) + (1 : Int))) rfl ?_
             refine wnil ?_
             refine thenNormal ?_
             have hgi : gokP (gs.getD i g0) (n + (i : Nat)) := by unfold gokP; omega
             exact ⟨i + 1, _, rfl, ⟨rfl, rfl, rfl, rfl, trivial⟩, ⟨by omega, fun j hj => if h : j < i then hgs j h else by (rw [show j = i by omega]; exact hgi), (H11'.dropk 0)⟩, by show gs.length - (i + 1) < gs.length - i; omega⟩
     ·skip
      refine exitAny ?_
      refine thenExit ?_
      refine thenExit ?_
      refine blockHere ?_
      refine thenNormal ?_
      refine seqAny ?_
      refine sR ?_
      refine sA (i64 ((0 : Int))) rfl ?_
      refine wend ?_
      refine blockAny ?_
      refine loopAny (σ := Nat) (fun q => [(0, i64 (n)), (1, .slice ga gs.length gc), (2, .slice oa ol.length oc), (9, i64 (q : Nat))]) (fun q w' => q ≤ ol.length ∧ (∀ j, j < q → 0 ≤ ol.getD j 0 ∧ ol.getD j 0 < n + (gs.length : Nat)) ∧ Hp No w w' []) (fun q => ol.length - q) (0) ?_ ?_ ?_
      ·exact ⟨rfl, rfl, rfl, rfl, trivial⟩
      ·exact ⟨by omega, fun j hj => by omega, HL⟩
      rintro q ρ w22 ⟨hq, hos, HL2⟩
      refine seqAny ?_
      refine sR ?_
      refine sM (i64 (q : Nat)) rfl ?_
      refine sM (.slice oa ol.length oc) rfl ?_
      refine sq (r_lenS sli60 (a := oa) (m := ol.length) (c := oc) rfl) ?_
      refine sq (r_lssI (a := (q : Nat)) (b := (ol.length : Nat)) rfl rfl) ?_
      refine wend ?_
      refine condProp (((q : Nat) : Int) < (ol.length : Nat)) rfl (fun c88 => ?_) (fun c88 => ?_)
      ·skip
       refine skipAny ?_
       refine thenNormal ?_
       refine seqAny ?_
       refine blockAny ?_
       refine sR ?_
       refine sM (.slice oa ol.length oc) rfl ?_
       refine sM (i64 (q : Nat)) rfl ?_
       refine sq (r_idxS (E := EI) (l := ol) (j := q) sli60 (hOl.ext HL2.chg) rfl rfl (by first | rfl | omega | (simp; omega)) (by rfl) (by omega)) ?_
       refine sq (r_ldS (E := EI) (l := ol) (j := q) (v := (ol).getD q 0) fits3 (hOl.ext HL2.chg) rfl rfl (at_getD (by omega))) ?_
       refine sq (r_lssI (a := (ol).getD q 0) (b := (0 : Int)) rfl rfl) ?_
       refine sM (.bool (decide (((ol).getD q 0 : Int) < (0 : Int)))) rfl ?_
       by_cases g24 : ((ol).getD q 0 : Int) < (0 : Int)
       ·skip
        refine skAny (wantedSome (d' := 96) (b := true) rfl rfl (congrArg Value.bool (decide_eq_true g24))) ?_
        refine skAny (wantedSome (d' := 96) (b := true) rfl rfl (congrArg Value.bool (decide_eq_true g24))) ?_
        refine skAny (wantedSome (d' := 96) (b := true) rfl rfl (congrArg Value.bool (decide_eq_true g24))) ?_
        refine skAny (wantedSome (d' := 96) (b := true) rfl rfl (congrArg Value.bool (decide_eq_true g24))) ?_
        refine skAny (wantedSome (d' := 96) (b := true) rfl rfl (congrArg Value.bool (decide_eq_true g24))) ?_
        refine skAny (wantedSome (d' := 96) (b := true) rfl rfl (congrArg Value.bool (decide_eq_true g24))) ?_
        refine skAny (wantedSome (d' := 96) (b := true) rfl rfl (congrArg Value.bool (decide_eq_true g24))) ?_
        refine skAny (wantedSome (d' := 96) (b := true) rfl rfl (congrArg Value.bool (decide_eq_true g24))) ?_
        refine skAny (wantedSome (d' := 96) (b := true) rfl rfl (congrArg Value.bool (decide_eq_true g24))) ?_
        refine sq (r_pickT (u := .bool (true)) (congrArg Value.bool (decide_eq_true g24)) rfl) ?_
        refine wend ?_
        refine condTrue rfl ?_
        refine sR ?_
        refine sA (.bool (false)) rfl ?_
        refine wend ?_
        refine retAny ?_
        refine blockRet ?_
        refine thenRet ?_
        refine thenRet ?_
        refine blockRet ?_
        refine thenRet ?_
        refine retG (rs := [.tmp 6]) (vs := [.bool (false)]) rfl ⟨⟨rfl, rfl⟩, trivial⟩ ?_
        exact ⟨_, rfl, .inr ⟨rfl, fun hg => by have := hg.ook q (by omega); omega⟩, HL2.chg⟩
       ·skip
        refine sqAny (v := .slice oa ol.length oc) (w' := w22) (wantedSome (d' := 96) (b := false) rfl rfl (congrArg Value.bool (decide_eq_false g24))) (r_move (v := .slice oa ol.length oc) rfl) ?_
        refine sqAny (v := i64 (q : Nat)) (w' := w22) (wantedSome (d' := 96) (b := false) rfl rfl (congrArg Value.bool (decide_eq_false g24))) (r_move (v := i64 (q : Nat)) rfl) ?_
        refine sqAny (v := .pointer (adr oa (q * 1))) (w' := w22) (wantedSome (d' := 96) (b := false) rfl rfl (congrArg Value.bool (decide_eq_false g24))) (r_idxS (E := EI) (l := ol) (j := q) sli60 (hOl.ext HL2.chg) rfl rfl (by first | rfl | omega | (simp; omega)) (by rfl) (by omega)) ?_
        refine sqAny (v := i64 ((ol).getD q 0)) (w' := w22) (wantedSome (d' := 96) (b := false) rfl rfl (congrArg Value.bool (decide_eq_false g24))) (r_ldS (E := EI) (l := ol) (j := q) (v := (ol).getD q 0) fits3 (hOl.ext HL2.chg) rfl rfl (at_getD (by omega))) ?_
        refine sqAny (v := i64 (n)) (w' := w22) (wantedSome (d' := 96) (b := false) rfl rfl (congrArg Value.bool (decide_eq_false g24))) (r_move (v := i64 (n)) rfl) ?_
        refine sqAny (v := .slice ga gs.length gc) (w' := w22) (wantedSome (d' := 96) (b := false) rfl rfl (congrArg Value.bool (decide_eq_false g24))) (r_move (v := .slice ga gs.length gc) rfl) ?_
        refine sqAny (v := i64 (gs.length : Nat)) (w' := w22) (wantedSome (d' := 96) (b := false) rfl rfl (congrArg Value.bool (decide_eq_false g24))) (r_lenS sli78 (a := ga) (m := gs.length) (c := gc) rfl) ?_
        refine sqAny (v := i64 (n + (gs.length : Nat))) (w' := w22) (wantedSome (d' := 96) (b := false) rfl rfl (congrArg Value.bool (decide_eq_false g24))) (r_addI (a := n) (b := (gs.length : Nat)) rfl rfl (by omega)) ?_
        refine sqAny (v := .bool (decide ((n + (gs.length : Nat) : Int) ≤ ((ol).getD q 0)))) (w' := w22) (wantedSome (d' := 96) (b := false) rfl rfl (congrArg Value.bool (decide_eq_false g24))) (r_geqI (a := (ol).getD q 0) (b := n + (gs.length : Nat)) rfl rfl) ?_
        refine sq (r_pickF (v := .bool (decide ((n + (gs.length : Nat) : Int) ≤ ((ol).getD q 0)))) (congrArg Value.bool (decide_eq_false g24)) rfl) ?_
        refine wend ?_
        refine condProp ((n + (gs.length : Nat) : Int) ≤ ((ol).getD q 0)) rfl (fun c106 => ?_) (fun c106 => ?_)
        ·skip
         refine sR ?_
         refine sA (.bool (false)) rfl ?_
         refine wend ?_
         refine retAny ?_
         refine blockRet ?_
         refine thenRet ?_
         refine thenRet ?_
         refine blockRet ?_
         refine thenRet ?_
         refine retG (rs := [.tmp 6]) (vs := [.bool (false)]) rfl ⟨⟨rfl, rfl⟩, trivial⟩ ?_
         exact ⟨_, rfl, .inr ⟨rfl, fun hg => by have := hg.ook q (by omega); omega⟩, HL2.chg⟩
        ·skip
         refine skipAny ?_
         refine blockNormal ?_
         refine thenNormal ?_
         refine oneRegion ?_
         refine sM (i64 (q : Nat)) rfl ?_
         refine sq (r_addI (a := (q : Nat)) (b := (1 : Int)) rfl rfl (by omega)) ?_
         refine sA (i64 ((q : Nat) + (1 : Int))) rfl ?_
         refine wnil ?_
         refine thenNormal ?_
         exact ⟨q + 1, _, rfl, ⟨rfl, rfl, rfl, rfl, trivial⟩, ⟨by omega, fun j hj => if h : j < q then hos j h else by (rw [show j = q by omega]; omega), HL2⟩, by show ol.length - (q + 1) < ol.length - q; omega⟩
      ·skip
       refine exitAny ?_
       refine thenExit ?_
       refine thenExit ?_
       refine blockHere ?_
       refine thenNormal ?_
       refine sR ?_
       refine sA (.bool (true)) rfl ?_
       refine wend ?_
       refine retAny ?_
       refine retG (rs := [.tmp 6]) (vs := [.bool (true)]) rfl ⟨⟨rfl, rfl⟩, trivial⟩ ?_
       exact ⟨_, rfl, .inl ⟨rfl, ⟨by omega, by omega, by omega, by omega, fun j hj => hgs j (by omega), fun j hj => hos j (by omega)⟩⟩, HL2.chg⟩
theorem check_good (n : Int) (gs : List Gt) (ol : List Int) (ga oa : Option Addr) (gc oc : Nat) (w : World) (hG : Gl w) (hGs : Rd EG w ga gs) (hOl : Rd EI w oa ol) (hgl : gs.length ≤ 140737488355328) (hol : ol.length ≤ 140737488355328) (hb : IsC n gs ol) : Calls Tryd.prog 31 [.agg #[i64 (n), .slice ga gs.length gc, .slice oa ol.length oc]].toArray w (Ret fun v w' => v = .nilIface ∧ Ext w w') :=
 (check_ok n gs ol ga oa gc oc w hG hGs hOl hgl hol).mono fun e w' ⟨v, he, h, hE⟩ => by
  rcases h with ⟨h, _⟩ | ⟨_, h⟩
  ·exact ⟨v, he, h, hE⟩
  ·exact absurd hb h
theorem good_yes (n : Int) (gs : List Gt) (ol : List Int) (ga oa : Option Addr) (gc oc : Nat) (w : World) (hGs : Rd EG w ga gs) (hOl : Rd EI w oa ol) (hgl : gs.length ≤ 140737488355328) (hol : ol.length ≤ 140737488355328) (hb : IsC n gs ol) : Calls Tryd.prog 53 [i64 (n), .slice ga gs.length gc, .slice oa ol.length oc].toArray w (Ret fun v w' => v = .bool true ∧ Ext w w') :=
 (good_ok n gs ol ga oa gc oc w hGs hOl hgl hol).mono fun e w' ⟨v, he, h, hE⟩ => by
  rcases h with ⟨h, h2⟩ | ⟨h, h2⟩
  ·exact ⟨v, he, h, hE⟩
  ·exact absurd hb h2
theorem good_no (n : Int) (gs : List Gt) (ol : List Int) (ga oa : Option Addr) (gc oc : Nat) (w : World) (hGs : Rd EG w ga gs) (hOl : Rd EI w oa ol) (hgl : gs.length ≤ 140737488355328) (hol : ol.length ≤ 140737488355328) (hb : ¬ IsC n gs ol) : Calls Tryd.prog 53 [i64 (n), .slice ga gs.length gc, .slice oa ol.length oc].toArray w (Ret fun v w' => v = .bool false ∧ Ext w w') :=
 (good_ok n gs ol ga oa gc oc w hGs hOl hgl hol).mono fun e w' ⟨v, he, h, hE⟩ => by
  rcases h with ⟨h, h2⟩ | ⟨h, h2⟩
  ·exact absurd h2 hb
  ·exact ⟨v, he, h, hE⟩
end Go.Proofs.YteofdmdpaejgaaaDoor.Er
namespace Go.Proofs.YteofdmdpaejgaaaDoor.Gb
open Go Go.Proofs.YteofdmdpaejgaaaDoor.Vc Go.Proofs.YteofdmdpaejgaaaDoor.Er Go.Proofs.YteofdmdpaejgaaaDoor.Circ
set_option linter.unusedVariables false
theorem agg38 : isAgg' Tryd.prog 38 = true := by kernel_rfl
theorem arr38 : arr Tryd.prog 38 = some (2, 1) := by kernel_rfl
theorem byt38 : byt Tryd.prog 38 = some 16 := by kernel_rfl
theorem call86 : callable Tryd.prog 86 = true := by kernel_rfl
theorem fits3 : Fits Tryd.prog 3 EI := fitsI (by kernel_rfl) (by kernel_rfl)
theorem fits32 : Fits Tryd.prog 32 E64 := fits64 (by kernel_rfl) (by kernel_rfl)
theorem fits38 : Fits Tryd.prog 38 ELb := fitsLb (by kernel_rfl) (by kernel_rfl)
theorem fld70_2 : fld Tryd.prog 70 2 = some (2, 1, 60) := by kernel_rfl
theorem one60 : isOne Tryd.prog 60 = true := by kernel_rfl
theorem siz38 : siz Tryd.prog 38 = some 2 := by kernel_rfl
theorem sli60 : sli Tryd.prog 60 = some (3, 1) := by kernel_rfl
theorem sli92 : sli Tryd.prog 92 = some (38, 2) := by kernel_rfl
theorem zer38 : zer Tryd.prog 38 = some (.agg (List.replicate 2 (.int .u64 0)).toArray) := by kernel_rfl
def lhash (a : Lb) (s : BitVec 64) : Lb := AesSpec.hashL (AesSpec.cipher AesSpec.fixKey) a.1 a.2 s
theorem lxor_ok (a b : Lb) (w : World) : Calls Tryd.prog 86 [.agg (cel E64 [(a).1, (a).2]).toArray, .agg (cel E64 [(b).1, (b).2]).toArray].toArray w (Ret fun v w' => v = .agg (cel E64 [(lx a b).1, (lx a b).2]).toArray ∧ Ext w w') := Aes.xor_ok a.1 a.2 b.1 b.2 w
theorem lhash_ok (bc : Nat) (a : Lb) (tw : BitVec 64) (w : World) (hc : w.heap[bc]? = some (.cells (cel E8 (AesSpec.cipher AesSpec.fixKey)).toArray 215 (0, 0))) : Calls Tryd.prog 87 [pT bc, .agg (cel E64 [(a).1, (a).2]).toArray, u64 tw].toArray w (Ret fun v w' => v = .agg (cel E64 [(lhash a tw).1, (lhash a tw).2]).toArray ∧ Ext w w') := Aes.hash_ok bc (AesSpec.cipher AesSpec.fixKey) (AesSpec.cipher_len _ (AesSpec.fixS_len 16)) a.1 a.2 tw w hc
theorem col_ok (a : Lb) (w : World) : Calls Tryd.prog 84 [.agg (cel E64 [(a).1, (a).2]).toArray].toArray w (Ret fun v w' => v = .bool (col a) ∧ Ext w w') := by
 have H := Hp.start No w
 refine enter (n := 7) Tryd.func84 rfl rfl (bLe rfl) ?_
 refine sR ?_
 refine q_box (v := .agg (cel E64 [(a).1, (a).2]).toArray) (o := lO (a)) H rfl (by rfl) ?_
 intro b1 w2 hb1 H3 hE4
 refine sA (.bool (false)) rfl ?_
 refine wend ?_
 refine sR ?_
 refine sq (r_indexA (off' := 0) (j := 0) arr38 (b := b1) (off := 0) rfl rfl (by first | rfl | omega | (simp; omega)) (by omega) (by omega)) ?_
 refine sq (r_ld1 (E := E64) (l := [(a).1, (a).2]) (j := 0) (a := (a).1) fits32 (H3.get (k := 0) rfl) (by rfl) rfl rfl) ?_
 refine sq (r_and64 (a := (a).1) (b := 1#64) rfl rfl) ?_
 refine sq (r_eql64 (a := ((a).1) &&& (1#64)) (b := 1#64) rfl rfl) ?_
 refine sA (.bool (decide ((((a).1) &&& (1#64)) = (1#64)))) rfl ?_
 refine wend ?_
 refine retAny ?_
 refine retG (rs := [.tmp 2]) (vs := [.bool (decide ((((a).1) &&& (1#64)) = (1#64)))]) rfl ⟨⟨rfl, rfl⟩, trivial⟩ ?_
 exact ⟨_, rfl, rfl, H3.chg⟩
theorem lw_ok (c : Bool) (a : Lb) (w : World) : Calls Tryd.prog 89 [.bool (c), .agg (cel E64 [(a).1, (a).2]).toArray].toArray w (Ret fun v w' => v = .agg (cel E64 [(lw c a).1, (lw c a).2]).toArray ∧ Ext w w') := by
 have H := Hp.start No w
 refine enter (n := 8) Tryd.func89 rfl rfl (bLe rfl) ?_
 refine sR ?_
 refine q_box (v := .agg (cel E64 [(a).1, (a).2]).toArray) (o := lO (a)) H rfl (by rfl) ?_
 intro b1 w2 hb1 H3 hE4
 refine q_alloc (o := .cells (cel E64 ([0#64, 0#64])).toArray 38 (0, 0)) H3 zer38 (by kernel_rfl) ?_
 intro b5 w6 hb5 H7 hE8
 refine wend ?_
 refine seqAny ?_
 refine sR ?_
 refine sM (.bool (c)) rfl ?_
 refine wend ?_
 refine condBool (c) rfl (fun c5 => ?_) (fun c5 => ?_)
 ·skip
  refine sR ?_
  refine sq (r_loadA (cs' := (cel E64 ([(a).1, (a).2])).toArray) agg38 siz38 (H7.get (k := 1) rfl) (off := 0) rfl (by exact bLe rfl) (by exact ext_all rfl)) ?_
  refine d_store (k := 0) (v := lV (a)) (cs' := (cel E64 ([(a).1, (a).2])).toArray) H7 rfl rfl rfl siz38 (by exact celSize (by first | rfl | (show _ * 1 = _; omega))) (by exact celOne _) (by rw [List.size_toArray, cel_length]; show _ ≤ _ * 1; first | omega | (simp only [List.length_set]; omega) | exact bLe rfl | (simp <;> omega)) (by exact putAll (by first | rfl | omega | (simp <;> omega))) ?_
  intro w9 H10 hC11
  have H10' := H10.as (L' := [(some b5, lO (a)), (some b1, lO (a))]) rfl
  clear H10
  refine wend ?_
  refine retAny ?_
  refine thenRet ?_
  refine retG (rs := [.cell 4 38]) (vs := [lV (a)]) rfl ⟨r_loadA (cs' := (cel E64 ([(a).1, (a).2])).toArray) agg38 siz38 (H10'.get (k := 0) rfl) (off := 0) rfl (by exact bLe rfl) (by exact ext_all rfl), trivial⟩ ?_
  rw [show lw c a = _ from if_pos c5]
  exact ⟨_, rfl, rfl, H10'.chg⟩
 ·skip
  refine skipAny ?_
  refine thenNormal ?_
  refine sR ?_
  refine sq (r_buildA (cs' := (cel E64 [0#64, 0#64]).toArray) (ps := []) zer38 arr38 rfl (by rfl)) ?_
  refine d_store (k := 0) (v := .agg (cel E64 [0#64, 0#64]).toArray) (cs' := (cel E64 ([0#64, 0#64])).toArray) H7 rfl rfl rfl siz38 (by exact celSize (by first | rfl | (show _ * 1 = _; omega))) (by exact celOne _) (by rw [List.size_toArray, cel_length]; show _ ≤ _ * 1; first | omega | (simp only [List.length_set]; omega) | exact bLe rfl | (simp <;> omega)) (by exact putAll (by first | rfl | omega | (simp <;> omega))) ?_
  intro w12 H13 hC14
  have H13' := H13.as (L' := [(some b5, .cells (cel E64 ([0#64, 0#64])).toArray 38 (0, 0)), (some b1, lO (a))]) rfl
  clear H13
  refine wend ?_
  refine retAny ?_
  refine retG (rs := [.cell 4 38]) (vs := [.agg (cel E64 ([0#64, 0#64])).toArray]) rfl ⟨r_loadA (cs' := (cel E64 ([0#64, 0#64])).toArray) agg38 siz38 (H13'.get (k := 0) rfl) (off := 0) rfl (by exact bLe rfl) (by exact ext_all rfl), trivial⟩ ?_
  rw [show lw c a = _ from if_neg (by rw [c5]; exact Bool.false_ne_true)]
  exact ⟨_, rfl, rfl, H13'.chg⟩
theorem lsum_ok (l : List Lb) (a0 : Option Addr) (n0 c0 : Nat) (hn0 : n0 = l.length) (hl : l.length ≤ 1000000) (w : World) (hL : Rd ELb w a0 l) : Calls Tryd.prog 88 [.slice a0 n0 c0].toArray w (Ret fun v w' => v = .agg (cel E64 [(lsum l).1, (lsum l).2]).toArray ∧ Ext w w') := by
 subst hn0
 have H := Hp.start No w
 refine enter (n := 17) Tryd.func88 rfl rfl (bLe rfl) ?_
 refine sR ?_
 refine q_alloc (o := .cells (cel E64 ([0#64, 0#64])).toArray 38 (0, 0)) H zer38 (by kernel_rfl) ?_
 intro b1 w2 hb1 H3 hE4
 refine wend ?_
 refine sR ?_
 refine q_alloc (o := .cells (cel E64 ([0#64, 0#64])).toArray 38 (0, 0)) H3 zer38 (by kernel_rfl) ?_
 intro b5 w6 hb5 H7 hE8
 refine wend ?_
 refine seqAny ?_
 refine sR ?_
 refine sM (.slice a0 l.length c0) rfl ?_
 refine sq (r_lenS sli92 (a := a0) (m := l.length) (c := c0) rfl) ?_
 refine sM (i64 ((0 : Int))) rfl ?_
 refine wend ?_
 refine blockAny ?_
 refine loopAny (σ := Nat) (fun q => [(2, pT b1), (3, pT b5), (6, .slice a0 l.length c0), (7, i64 (l.length : Nat)), (8, i64 (q : Nat))]) (fun q w' => q ≤ l.length ∧ Hp No w w' [(some b5, lO (lsum (l.take q))), (some b1, .cells (cel E64 ([0#64, 0#64])).toArray 38 (0, 0))]) (fun q => l.length - q) (0) ?_ ?_ ?_
 ·exact ⟨rfl, rfl, rfl, rfl, rfl, trivial⟩
 ·exact ⟨Nat.zero_le _, H7⟩
 rintro q ρ w9 ⟨hq, HL⟩
 refine sR ?_
 refine sq (r_lssI (a := (q : Nat)) (b := (l.length : Nat)) rfl rfl) ?_
 refine wend ?_
 refine seqAny ?_
 refine condProp (((q : Nat) : Int) < (l.length : Nat)) rfl (fun c9 => ?_) (fun c9 => ?_)
 ·skip
  refine skipAny ?_
  refine thenNormal ?_
  refine seqAny ?_
  refine blockAny ?_
  refine sR ?_
  refine sq (r_idxS (E := ELb) (l := l) (j := q) sli92 (hL.ext HL.chg) rfl rfl (by first | rfl | omega | (simp; omega)) (by rfl) (by omega)) ?_
  refine sq ((r_ldS (E := ELb) (l := l) (j := q) (v := (l).getD q lb0) fits38 (hL.ext HL.chg) rfl rfl (at_getD (by omega))).as (v' := .agg (cel E64 [((l).getD q lb0).1, ((l).getD q lb0).2]).toArray) rfl) ?_
  refine q_alloc (o := .cells (cel E64 ([0#64, 0#64])).toArray 38 (0, 0)) HL zer38 (by kernel_rfl) ?_
  intro b11 w12 hb11 H13 hE14
  refine d_store (k := 0) (v := .agg (cel E64 [((l).getD q lb0).1, ((l).getD q lb0).2]).toArray) (cs' := (cel E64 ([((l).getD q lb0).1, ((l).getD q lb0).2])).toArray) H13 rfl rfl rfl siz38 (by exact celSize (by first | rfl | (show _ * 1 = _; omega))) (by exact celOne _) (by rw [List.size_toArray, cel_length]; show _ ≤ _ * 1; first | omega | (simp only [List.length_set]; omega) | exact bLe rfl | (simp <;> omega)) (by exact putAll (by first | rfl | omega | (simp <;> omega))) ?_
  intro w15 H16 hC17
  have H16' := H16.as (L' := [(some b11, lO ((l).getD q lb0)), (some b5, lO (lsum (l.take q))), (some b1, .cells (cel E64 ([0#64, 0#64])).toArray 38 (0, 0))]) rfl
  clear H16
  refine wend ?_
  refine oneRegion ?_
  refine sq (r_loadA (cs' := (cel E64 ([(lsum (l.take q)).1, (lsum (l.take q)).2])).toArray) agg38 siz38 (H16'.get (k := 1) rfl) (off := 0) rfl (by exact bLe rfl) (by exact ext_all rfl)) ?_
  refine sq (r_loadA (cs' := (cel E64 ([((l).getD q lb0).1, ((l).getD q lb0).2])).toArray) agg38 siz38 (H16'.get (k := 0) rfl) (off := 0) rfl (by exact bLe rfl) (by exact ext_all rfl)) ?_
  refine c_call (vs := [lV (lsum (l.take q)), lV ((l).getD q lb0)]) call86 rfl (lxor_ok (lsum (l.take q)) ((l).getD q lb0) w15) ?_
  rintro _ w18 ⟨rfl, hE19⟩
  have H20 := H16'.ext hE19
  refine d_store (k := 1) (v := .agg (cel E64 [(lx (lsum (l.take q)) ((l).getD q lb0)).1, (lx (lsum (l.take q)) ((l).getD q lb0)).2]).toArray) (cs' := (cel E64 ([(lx (lsum (l.take q)) ((l).getD q lb0)).1, (lx (lsum (l.take q)) ((l).getD q lb0)).2])).toArray) H20 rfl rfl rfl siz38 (by exact celSize (by first | rfl | (show _ * 1 = _; omega))) (by exact celOne _) (by rw [List.size_toArray, cel_length]; show _ ≤ _ * 1; first | omega | (simp only [List.length_set]; omega) | exact bLe rfl | (simp <;> omega)) (by exact putAll (by first | rfl | omega | (simp <;> omega))) ?_
  intro w21 H22 hC23
  have H22' := H22.as (L' := [(some b11, lO ((l).getD q lb0)), (some b5, lO (lx (lsum (l.take q)) ((l).getD q lb0))), (some b1, .cells (cel E64 ([0#64, 0#64])).toArray 38 (0, 0))]) rfl
  clear H22
  refine wnil ?_
  refine blockNormal ?_
  refine thenNormal ?_
  refine oneRegion ?_
  refine sq (r_addI (a := (q : Nat)) (b := (1 : Int)) rfl rfl (by omega)) ?_
  refine sM (i64 ((q : Nat) + (1 : Int))) rfl ?_
  refine wnil ?_
  refine thenNormal ?_
  rw [show lx (lsum (l.take q)) (l.getD q lb0) = lsum (l.take (q + 1)) from (lsum_take (by omega)).symm] at H22'
  exact ⟨q + 1, _, rfl, ⟨rfl, rfl, rfl, rfl, rfl, trivial⟩, ⟨by omega, (H22'.dropk 0)⟩, by show l.length - (q + 1) < l.length - q; omega⟩
 ·skip
  obtain rfl : q = l.length := by omega
  refine exitAny ?_
  refine thenExit ?_
  refine thenExit ?_
  refine blockHere ?_
  refine thenNormal ?_
  refine sR ?_
  refine sq (r_loadA (cs' := (cel E64 ([(lsum (l.take l.length)).1, (lsum (l.take l.length)).2])).toArray) agg38 siz38 (HL.get (k := 0) rfl) (off := 0) rfl (by exact bLe rfl) (by exact ext_all rfl)) ?_
  refine d_store (k := 1) (v := lV (lsum (l.take l.length))) (cs' := (cel E64 ([(lsum (l.take l.length)).1, (lsum (l.take l.length)).2])).toArray) HL rfl rfl rfl siz38 (by exact celSize (by first | rfl | (show _ * 1 = _; omega))) (by exact celOne _) (by rw [List.size_toArray, cel_length]; show _ ≤ _ * 1; first | omega | (simp only [List.length_set]; omega) | exact bLe rfl | (simp <;> omega)) (by exact putAll (by first | rfl | omega | (simp <;> omega))) ?_
  intro w24 H25 hC26
  have H25' := H25.as (L' := [(some b5, lO (lsum (l.take l.length))), (some b1, lO (lsum (l.take l.length)))]) rfl
  clear H25
  refine wend ?_
  refine retAny ?_
  refine retG (rs := [.cell 2 38]) (vs := [lV (lsum (l.take l.length))]) rfl ⟨r_loadA (cs' := (cel E64 ([(lsum (l.take l.length)).1, (lsum (l.take l.length)).2])).toArray) agg38 siz38 (H25'.get (k := 1) rfl) (off := 0) rfl (by exact bLe rfl) (by exact ext_all rfl), trivial⟩ ?_
  rw [List.take_length]
  exact ⟨_, rfl, rfl, H25'.chg⟩
theorem outs_ok (n : Int) (gs : List Gt) (ol : List Int) (ga oa : Option Addr) (gc oc : Nat) (ws : List Lb) (wa : Option Addr) (n0 wc : Nat) (hn0 : n0 = ws.length) (w : World) (hOl : Rd EI w oa ol) (hWs : Rd ELb w wa ws) (hol : ol.length ≤ 64) (hok : ∀ i, i < ol.length → 0 ≤ ol.getD i 0 ∧ ol.getD i 0 < (ws.length : Int)) : Calls Tryd.prog 90 [.agg #[i64 n, .slice ga gs.length gc, .slice oa ol.length oc], .slice wa n0 wc].toArray w (Ret fun v w' => SlRes ELb 38 (oL ws ol ol.length) w v w' ∧ Ext w w') := by
 subst hn0
 have H := Hp.start No w
 refine enter (n := 24) Tryd.func90 rfl rfl (bLe rfl) ?_
 refine sR ?_
 refine q_box (v := .agg #[i64 (n), .slice ga gs.length gc, .slice oa ol.length oc]) (o := .cells #[i64 (n), .slice ga gs.length gc, .slice oa ol.length oc] 70 (0, 0)) H rfl (by rfl) ?_
 intro b1 w2 hb1 H3 hE4
 refine sA (.slice none 0 0) rfl ?_
 refine wend ?_
 refine sR ?_
 refine sA (.slice none 0 0) rfl ?_
 refine wend ?_
 refine seqAny ?_
 refine sR ?_
 refine sq (r_fieldAddr (off' := 2) fld70_2 (by decide) (b := b1) (off := 0) rfl (by omega)) ?_
 refine sq (r_loadC (v := .slice oa ol.length oc) one60 (H3.get (k := 0) rfl) (off := 2) rfl (by rfl)) ?_
 refine sq (r_lenS sli60 (a := oa) (m := ol.length) (c := oc) rfl) ?_
 refine sM (i64 ((0 : Int))) rfl ?_
 have H5 := H3.nil (sob ELb 38 [] [])
 refine wend ?_
 refine blockAny ?_
 refine loopAny (σ := Nat × Option Nat × Nat × List Value) (fun (q, key, c, sp) => [(1, .slice wa ws.length wc), (2, pT b1), (4, .slice none 0 0), (9, .slice oa ol.length oc), (10, i64 (ol.length : Nat)), (5, .slice (ownA key) q c), (11, i64 (q : Nat))]) (fun (q, key, c, sp) w' => (q ≤ ol.length ∧ Sl ELb key (oL ws ol q) c sp) ∧ Hp No w w' [(key, sob ELb 38 (oL ws ol q) sp), (some b1, .cells #[i64 (n), .slice ga gs.length gc, .slice oa ol.length oc] 70 (0, 0))]) (fun (q, key, c, sp) => ol.length - q) ((0, none, 0, [])) ?_ ?_ ?_
 ·exact ⟨rfl, rfl, rfl, rfl, rfl, rfl, rfl, trivial⟩
 ·exact ⟨⟨Nat.zero_le _, Sl.none⟩, H5⟩
 rintro ⟨q, key, c, sp⟩ ρ w6 ⟨⟨hq, hS⟩, HL⟩
 refine sR ?_
 refine sq (r_lssI (a := (q : Nat)) (b := (ol.length : Nat)) rfl rfl) ?_
 refine wend ?_
 refine seqAny ?_
 refine condProp (((q : Nat) : Int) < (ol.length : Nat)) rfl (fun c12 => ?_) (fun c12 => ?_)
 ·skip
  have hoq := hok q (by omega)
  refine skipAny ?_
  refine thenNormal ?_
  refine seqAny ?_
  refine blockAny ?_
  refine sR ?_
  refine sq (r_idxS (E := EI) (l := ol) (j := q) sli60 (hOl.ext HL.chg) rfl rfl (by first | rfl | omega | (simp; omega)) (by rfl) (by omega)) ?_
  refine sq (r_ldS (E := EI) (l := ol) (j := q) (v := (ol).getD q 0) fits3 (hOl.ext HL.chg) rfl rfl (at_getD (by omega))) ?_
  refine sA (i64 ((ol).getD q 0)) rfl ?_
  refine wend ?_
  refine oneRegion ?_
  refine sM (.slice (ownA key) q c) rfl ?_
  refine sM (.slice wa ws.length wc) rfl ?_
  refine sM (i64 ((ol).getD q 0)) rfl ?_
  refine sq (r_idxS (E := ELb) (l := ws) (j := (ol.getD q 0).toNat) sli92 (hWs.ext HL.chg) rfl rfl (by omega) (by rfl) (by omega)) ?_
  refine sq ((r_ldS (E := ELb) (l := ws) (j := (ol.getD q 0).toNat) (v := (ws).getD ((ol.getD q 0).toNat) lb0) fits38 (hWs.ext HL.chg) rfl rfl (at_getD (by omega))).as (v' := .agg (cel E64 [((ws).getD ((ol.getD q 0).toNat) lb0).1, ((ws).getD ((ol.getD q 0).toNat) lb0).2]).toArray) rfl) ?_
  refine q_buildSlice (E := ELb) (l := ([(ws).getD ((ol.getD q 0).toNat) lb0] : List LbT)) HL sli92 zer38 (bLe rfl) (ps := [(0, .agg (cel E64 [((ws).getD ((ol.getD q 0).toNat) lb0).1, ((ws).getD ((ol.getD q 0).toNat) lb0).2]).toArray)]) rfl (by exact fillAll rfl rfl) rfl ?_
  intro b8 w10 hS9 H11 hE12
  refine q_append (E := ELb) (k := 1) (l := oL ws ol q) (l2 := ([(ws).getD ((ol.getD q 0).toNat) lb0] : List LbT)) H11 rfl hS sli92 zer38 rfl byt38 (H11.rd (k := 0) rfl hS9) rfl (by rw [oL_len]) rfl (by rfl) (by omega) ?_
  intro key13 c14 sp15 w17 hS16 hne19 H18
  have H18' := H18.as (L' := [((some b8), sob ELb 38 ([(ws).getD ((ol.getD q 0).toNat) lb0] : List LbT) ([])), (key13, sob ELb 38 ((oL ws ol q) ++ ([(ws).getD ((ol.getD q 0).toNat) lb0] : List LbT)) sp15), (some b1, .cells #[i64 (n), .slice ga gs.length gc, .slice oa ol.length oc] 70 (0, 0))]) rfl
  clear H18
  have e20 : (oL ws ol q) ++ ([(ws).getD ((ol.getD q 0).toNat) lb0] : List LbT) = oL ws ol (q + 1) := by rw [oL]
  have hS21 := hS16
  rw [e20] at hS21
  have H22 := H18'.as (L' := [((some b8), sob ELb 38 ([(ws).getD ((ol.getD q 0).toNat) lb0] : List LbT) ([])), (key13, sob ELb 38 (oL ws ol (q + 1)) sp15), (some b1, .cells #[i64 (n), .slice ga gs.length gc, .slice oa ol.length oc] 70 (0, 0))]) (by rw [e20])
  refine sA (.slice (ownA key13) (q + 1) c14) rfl ?_
  refine wnil ?_
  refine blockNormal ?_
  refine thenNormal ?_
  refine oneRegion ?_
  refine sq (r_addI (a := (q : Nat)) (b := (1 : Int)) rfl rfl (by omega)) ?_
  refine sM (i64 ((q : Nat) + (1 : Int))) rfl ?_
  refine wnil ?_
  refine thenNormal ?_
  exact ⟨(q + 1, key13, c14, sp15), _, rfl, ⟨rfl, rfl, rfl, rfl, rfl, rfl, rfl, trivial⟩, ⟨⟨by omega, hS21⟩, (H22.dropk 0)⟩, by show ol.length - (q + 1) < ol.length - q; omega⟩
 ·skip
  obtain rfl : q = ol.length := by omega
  refine exitAny ?_
  refine thenExit ?_
  refine thenExit ?_
  refine blockHere ?_
  refine thenNormal ?_
  refine sR ?_
  refine sM (.slice (ownA key) ol.length c) rfl ?_
  refine sA (.slice (ownA key) ol.length c) rfl ?_
  refine wend ?_
  refine retAny ?_
  refine retG (rs := [.tmp 4]) (vs := [.slice (ownA key) ol.length c]) rfl ⟨⟨rfl, rfl⟩, trivial⟩ ?_
  exact ⟨_, rfl, HL.resN (k := 0) rfl hS (by rw [oL_len]), HL.chg⟩
end Go.Proofs.YteofdmdpaejgaaaDoor.Gb
namespace Go.Proofs.YteofdmdpaejgaaaDoor.Gb
open Go Go.Proofs.YteofdmdpaejgaaaDoor.Vc Go.Proofs.YteofdmdpaejgaaaDoor.Er Go.Proofs.YteofdmdpaejgaaaDoor.Circ
set_option linter.unusedVariables false
theorem agg70 : isAgg' Tryd.prog 70 = true := by kernel_rfl
theorem call31 : callable Tryd.prog 31 = true := by kernel_rfl
theorem call63 : callable Tryd.prog 63 = true := by kernel_rfl
theorem call83 : callable Tryd.prog 83 = true := by kernel_rfl
theorem call84 : callable Tryd.prog 84 = true := by kernel_rfl
theorem fld70_0 : fld Tryd.prog 70 0 = some (0, 1, 3) := by kernel_rfl
theorem isI27 : isI Tryd.prog 27 = true := by kernel_rfl
theorem one3 : isOne Tryd.prog 3 = true := by kernel_rfl
theorem siz70 : siz Tryd.prog 70 = some 3 := by kernel_rfl
theorem und57 : Tryd.prog.underlying 57 = some (.int .i64) := by kernel_rfl
theorem look_good (n : Int) (gs : List Gt) (ol : List Int) (ga oa : Option Addr) (gc oc : Nat) (m : Nat) (w : World) (hG : Gl w) (hGs : Rd EG w ga gs) (hOl : Rd EI w oa ol) (hgl : gs.length ≤ 140737488355328) (hol : ol.length ≤ 140737488355328) (hg : IsC n gs ol) (hm : (m : Int) = n) : Calls Tryd.prog 83 [.agg #[i64 (n), .slice ga gs.length gc, .slice oa ol.length oc], i64 (m : Nat)].toArray w (Ret fun v w' => v = .nilIface ∧ Ext w w') := by
 have H := Hp.start No w
 refine enter (n := 18) Tryd.func83 rfl rfl (bLe rfl) ?_
 refine sR ?_
 refine q_box (v := .agg #[i64 (n), .slice ga gs.length gc, .slice oa ol.length oc]) (o := .cells #[i64 (n), .slice ga gs.length gc, .slice oa ol.length oc] 70 (0, 0)) H rfl (by rfl) ?_
 intro b1 w2 hb1 H3 hE4
 refine sA (.nilIface) rfl ?_
 refine wend ?_
 refine seqAny ?_
 refine sR ?_
 refine sq (r_loadA (cs' := #[i64 (n), .slice ga gs.length gc, .slice oa ol.length oc]) agg70 siz70 (H3.get (k := 0) rfl) (off := 0) rfl (by exact bLe rfl) (by rfl)) ?_
 refine c_call (vs := [.agg #[i64 (n), .slice ga gs.length gc, .slice oa ol.length oc]]) call31 rfl (check_good n gs ol ga oa gc oc w2 (Chg.gl H3.chg (fun x => x) hG) (hGs.ext H3.chg) (hOl.ext H3.chg) (by omega) (by omega) hg) ?_
 rintro _ w5 ⟨rfl, hE6⟩
 have H7 := H3.ext hE6
 refine sA (.nilIface) rfl ?_
 refine wend ?_
 refine sR ?_
 refine sM (.nilIface) rfl ?_
 refine sq (r_neqNN isI27 rfl rfl) ?_
 refine wend ?_
 refine condFalse rfl ?_
 refine skipAny ?_
 refine thenNormal ?_
 refine seqAny ?_
 refine sR ?_
 refine sM (i64 (m : Nat)) rfl ?_
 refine sq (r_fieldAddr (off' := 0) fld70_0 (by decide) (b := b1) (off := 0) rfl (by omega)) ?_
 refine sq (r_loadC (v := i64 (n)) one3 (H7.get (k := 0) rfl) (off := 0) rfl (by rfl)) ?_
 refine sq ((r_neqI (a := (m : Nat)) (b := n) rfl rfl).as (v' := .bool (false)) (by exact congrArg Value.bool (decide_eq_false (by omega)))) ?_
 refine wend ?_
 refine condFalse rfl ?_
 refine skipAny ?_
 refine thenNormal ?_
 refine sR ?_
 refine sA (.nilIface) rfl ?_
 refine wend ?_
 refine retAny ?_
 refine retG (rs := [.tmp 4]) (vs := [.nilIface]) rfl ⟨⟨rfl, rfl⟩, trivial⟩ ?_
 exact ⟨_, rfl, rfl, H7.chg⟩
theorem look_num (n : Int) (gs : List Gt) (ol : List Int) (ga oa : Option Addr) (gc oc : Nat) (m : Nat) (w : World) (hG : Gl w) (hGs : Rd EG w ga gs) (hOl : Rd EI w oa ol) (hgl : gs.length ≤ 140737488355328) (hol : ol.length ≤ 140737488355328) (hg : IsC n gs ol) (hm : (m : Int) ≠ n) : Calls Tryd.prog 83 [.agg #[i64 (n), .slice ga gs.length gc, .slice oa ol.length oc], i64 (m : Nat)].toArray w (Ret fun v w' => (∃ ev, v = ev ∧ Er w.heap.size w' 1 1 ev) ∧ Ext w w') := by
 have H := Hp.start No w
 refine enter (n := 18) Tryd.func83 rfl rfl (bLe rfl) ?_
 refine sR ?_
 refine q_box (v := .agg #[i64 (n), .slice ga gs.length gc, .slice oa ol.length oc]) (o := .cells #[i64 (n), .slice ga gs.length gc, .slice oa ol.length oc] 70 (0, 0)) H rfl (by rfl) ?_
 intro b1 w2 hb1 H3 hE4
 refine sA (.nilIface) rfl ?_
 refine wend ?_
 refine seqAny ?_
 refine sR ?_
 refine sq (r_loadA (cs' := #[i64 (n), .slice ga gs.length gc, .slice oa ol.length oc]) agg70 siz70 (H3.get (k := 0) rfl) (off := 0) rfl (by exact bLe rfl) (by rfl)) ?_
 refine c_call (vs := [.agg #[i64 (n), .slice ga gs.length gc, .slice oa ol.length oc]]) call31 rfl (check_good n gs ol ga oa gc oc w2 (Chg.gl H3.chg (fun x => x) hG) (hGs.ext H3.chg) (hOl.ext H3.chg) (by omega) (by omega) hg) ?_
 rintro _ w5 ⟨rfl, hE6⟩
 have H7 := H3.ext hE6
 refine sA (.nilIface) rfl ?_
 refine wend ?_
 refine sR ?_
 refine sM (.nilIface) rfl ?_
 refine sq (r_neqNN isI27 rfl rfl) ?_
 refine wend ?_
 refine condFalse rfl ?_
 refine skipAny ?_
 refine thenNormal ?_
 refine seqAny ?_
 refine sR ?_
 refine sM (i64 (m : Nat)) rfl ?_
 refine sq (r_fieldAddr (off' := 0) fld70_0 (by decide) (b := b1) (off := 0) rfl (by omega)) ?_
 refine sq (r_loadC (v := i64 (n)) one3 (H7.get (k := 0) rfl) (off := 0) rfl (by rfl)) ?_
 refine sq ((r_neqI (a := (m : Nat)) (b := n) rfl rfl).as (v' := .bool (true)) (by exact congrArg Value.bool (decide_eq_true (by omega)))) ?_
 refine wend ?_
 refine condTrue rfl ?_
 refine sR ?_
 refine sq (r_mkI und57 (xv := i64 ((1 : Int))) rfl) ?_
 refine sM (i64 (m : Nat)) rfl ?_
 have := H7.lt (List.mem_of_getElem? (i := 0) rfl) rfl
 refine c_call (vs := [.iface 57 (i64 ((1 : Int))), .string ({data := #[108, 97, 98, 101, 108, 115]}), i64 (m : Nat)]) call63 rfl (wrap0_ok (1 : Int) (m : Nat) ({data := #[108, 97, 98, 101, 108, 115]}) w5 (Chg.gl H7.chg (fun x => x) hG)) ?_
 rintro v10 w8 ⟨hEr11, hE12⟩
 have H13 := H7.ext hE12
 obtain ⟨T14, x15, rfl⟩ := hEr11.iface
 refine sA (.iface T14 (x15)) rfl ?_
 refine wend ?_
 refine retAny ?_
 refine thenRet ?_
 refine retG (rs := [.tmp 4]) (vs := [.iface T14 (x15)]) rfl ⟨⟨rfl, rfl⟩, trivial⟩ ?_
 exact ⟨_, rfl, ⟨_, rfl, hEr11.mono H7.chg.size⟩, H13.chg⟩
theorem look_bad (n : Int) (gs : List Gt) (ol : List Int) (ga oa : Option Addr) (gc oc : Nat) (m : Nat) (w : World) (hG : Gl w) (hGs : Rd EG w ga gs) (hOl : Rd EI w oa ol) (hgl : gs.length ≤ 140737488355328) (hol : ol.length ≤ 140737488355328) (hg : ¬ IsC n gs ol) : Calls Tryd.prog 83 [.agg #[i64 (n), .slice ga gs.length gc, .slice oa ol.length oc], i64 (m : Nat)].toArray w (Ret fun v w' => (∃ ev, v = ev ∧ Er w.heap.size w' 90 1 ev) ∧ Ext w w') := by
 have H := Hp.start No w
 refine enter (n := 18) Tryd.func83 rfl rfl (bLe rfl) ?_
 refine sR ?_
 refine q_box (v := .agg #[i64 (n), .slice ga gs.length gc, .slice oa ol.length oc]) (o := .cells #[i64 (n), .slice ga gs.length gc, .slice oa ol.length oc] 70 (0, 0)) H rfl (by rfl) ?_
 intro b1 w2 hb1 H3 hE4
 refine sA (.nilIface) rfl ?_
 refine wend ?_
 refine seqAny ?_
 refine sR ?_
 refine sq (r_loadA (cs' := #[i64 (n), .slice ga gs.length gc, .slice oa ol.length oc]) agg70 siz70 (H3.get (k := 0) rfl) (off := 0) rfl (by exact bLe rfl) (by rfl)) ?_
 have := H3.lt (List.mem_of_getElem? (i := 0) rfl) rfl
 refine c_call (vs := [.agg #[i64 (n), .slice ga gs.length gc, .slice oa ol.length oc]]) call31 rfl (check_bad n gs ol ga oa gc oc w2 (Chg.gl H3.chg (fun x => x) hG) (hGs.ext H3.chg) (hOl.ext H3.chg) (by omega) (by omega) hg) ?_
 rintro v7 w5 ⟨hEr8, hE9⟩
 have H10 := H3.ext hE9
 obtain ⟨T11, x12, rfl⟩ := hEr8.iface
 refine sA (.iface T11 (x12)) rfl ?_
 refine wend ?_
 refine sR ?_
 refine sM (.iface T11 (x12)) rfl ?_
 refine sq (r_neqIN isI27 rfl rfl) ?_
 refine wend ?_
 refine condTrue rfl ?_
 refine sR ?_
 refine sM (.iface T11 (x12)) rfl ?_
 refine sA (.iface T11 (x12)) rfl ?_
 refine wend ?_
 refine retAny ?_
 refine thenRet ?_
 refine retG (rs := [.tmp 4]) (vs := [.iface T11 (x12)]) rfl ⟨⟨rfl, rfl⟩, trivial⟩ ?_
 exact ⟨_, rfl, ⟨_, rfl, hEr8.mono H3.chg.size⟩, H10.chg⟩
theorem garble_bad (n : Int) (gs : List Gt) (ol : List Int) (ga oa : Option Addr) (gc oc : Nat) (δ : Lb) (zs : List Lb) (za : Option Addr) (zc : Nat) (first : BitVec 64) (w : World) (hG : Gl w) (hGs : Rd EG w ga gs) (hOl : Rd EI w oa ol) (hgl : gs.length ≤ 140737488355328) (hol : ol.length ≤ 140737488355328) (hZ : Rd ELb w za zs) (hg : ¬ IsC n gs ol) : Calls Tryd.prog 45 [.agg #[i64 (n), .slice ga gs.length gc, .slice oa ol.length oc], .agg (cel E64 [(δ).1, (δ).2]).toArray, .slice za zs.length zc, u64 (first)].toArray w (Ret fun v w' => (∃ ev, v = .tuple #[.slice none 0 0, .slice none 0 0, ev] ∧ Er w.heap.size w' 90 1 ev) ∧ Ext w w') := by
 have H := Hp.start No w
 refine enter (n := 152) Tryd.func45 rfl rfl (bLe rfl) ?_
 refine sR ?_
 refine q_box (v := .agg #[i64 (n), .slice ga gs.length gc, .slice oa ol.length oc]) (o := .cells #[i64 (n), .slice ga gs.length gc, .slice oa ol.length oc] 70 (0, 0)) H rfl (by rfl) ?_
 intro b1 w2 hb1 H3 hE4
 refine q_box (v := .agg (cel E64 [(δ).1, (δ).2]).toArray) (o := lO (δ)) H3 rfl (by rfl) ?_
 intro b5 w6 hb5 H7 hE8
 refine sA (.slice none 0 0) rfl ?_
 refine sA (.slice none 0 0) rfl ?_
 refine sA (.nilIface) rfl ?_
 refine wend ?_
 refine seqAny ?_
 refine sR ?_
 refine sq (r_loadA (cs' := #[i64 (n), .slice ga gs.length gc, .slice oa ol.length oc]) agg70 siz70 (H7.get (k := 1) rfl) (off := 0) rfl (by exact bLe rfl) (by rfl)) ?_
 refine sM (.slice za zs.length zc) rfl ?_
 refine sq (r_lenS sli92 (a := za) (m := zs.length) (c := zc) rfl) ?_
 have := H7.lt (List.mem_of_getElem? (i := 0) rfl) rfl
 have := H7.lt (List.mem_of_getElem? (i := 1) rfl) rfl
 refine c_call (vs := [.agg #[i64 (n), .slice ga gs.length gc, .slice oa ol.length oc], i64 (zs.length : Nat)]) call83 rfl (look_bad n gs ol ga oa gc oc zs.length w6 (Chg.gl H7.chg (fun x => x) hG) (hGs.ext H7.chg) (hOl.ext H7.chg) (by omega) (by omega) hg) ?_
 rintro _ w9 ⟨⟨v11, rfl, hEr12⟩, hE13⟩
 have H14 := H7.ext hE13
 obtain ⟨T15, x16, rfl⟩ := hEr12.iface
 refine sA (.iface T15 (x16)) rfl ?_
 refine wend ?_
 refine sR ?_
 refine sM (.iface T15 (x16)) rfl ?_
 refine sq (r_neqIN isI27 rfl rfl) ?_
 refine wend ?_
 refine condTrue rfl ?_
 refine sR ?_
 refine sM (.iface T15 (x16)) rfl ?_
 refine sA (.slice none 0 0) rfl ?_
 refine sA (.slice none 0 0) rfl ?_
 refine sA (.iface T15 (x16)) rfl ?_
 refine wend ?_
 refine retAny ?_
 refine thenRet ?_
 refine retG (rs := [.tmp 8, .tmp 9, .tmp 10]) (vs := [.slice none 0 0, .slice none 0 0, .iface T15 (x16)]) rfl ⟨⟨rfl, rfl⟩, ⟨rfl, rfl⟩, ⟨rfl, rfl⟩, trivial⟩ ?_
 exact ⟨_, rfl, ⟨_, rfl, hEr12.mono H7.chg.size⟩, H14.chg⟩
theorem garble_num (n : Int) (gs : List Gt) (ol : List Int) (ga oa : Option Addr) (gc oc : Nat) (δ : Lb) (zs : List Lb) (za : Option Addr) (zc : Nat) (first : BitVec 64) (w : World) (hG : Gl w) (hGs : Rd EG w ga gs) (hOl : Rd EI w oa ol) (hgl : gs.length ≤ 140737488355328) (hol : ol.length ≤ 140737488355328) (hZ : Rd ELb w za zs) (hg : IsC n gs ol) (hm : (zs.length : Int) ≠ n) : Calls Tryd.prog 45 [.agg #[i64 (n), .slice ga gs.length gc, .slice oa ol.length oc], .agg (cel E64 [(δ).1, (δ).2]).toArray, .slice za zs.length zc, u64 (first)].toArray w (Ret fun v w' => (∃ ev, v = .tuple #[.slice none 0 0, .slice none 0 0, ev] ∧ Er w.heap.size w' 1 1 ev) ∧ Ext w w') := by
 have H := Hp.start No w
 refine enter (n := 152) Tryd.func45 rfl rfl (bLe rfl) ?_
 refine sR ?_
 refine q_box (v := .agg #[i64 (n), .slice ga gs.length gc, .slice oa ol.length oc]) (o := .cells #[i64 (n), .slice ga gs.length gc, .slice oa ol.length oc] 70 (0, 0)) H rfl (by rfl) ?_
 intro b1 w2 hb1 H3 hE4
 refine q_box (v := .agg (cel E64 [(δ).1, (δ).2]).toArray) (o := lO (δ)) H3 rfl (by rfl) ?_
 intro b5 w6 hb5 H7 hE8
 refine sA (.slice none 0 0) rfl ?_
 refine sA (.slice none 0 0) rfl ?_
 refine sA (.nilIface) rfl ?_
 refine wend ?_
 refine seqAny ?_
 refine sR ?_
 refine sq (r_loadA (cs' := #[i64 (n), .slice ga gs.length gc, .slice oa ol.length oc]) agg70 siz70 (H7.get (k := 1) rfl) (off := 0) rfl (by exact bLe rfl) (by rfl)) ?_
 refine sM (.slice za zs.length zc) rfl ?_
 refine sq (r_lenS sli92 (a := za) (m := zs.length) (c := zc) rfl) ?_
 have := H7.lt (List.mem_of_getElem? (i := 0) rfl) rfl
 have := H7.lt (List.mem_of_getElem? (i := 1) rfl) rfl
 refine c_call (vs := [.agg #[i64 (n), .slice ga gs.length gc, .slice oa ol.length oc], i64 (zs.length : Nat)]) call83 rfl (look_num n gs ol ga oa gc oc zs.length w6 (Chg.gl H7.chg (fun x => x) hG) (hGs.ext H7.chg) (hOl.ext H7.chg) (by omega) (by omega) hg (by omega)) ?_
 rintro _ w9 ⟨⟨v11, rfl, hEr12⟩, hE13⟩
 have H14 := H7.ext hE13
 obtain ⟨T15, x16, rfl⟩ := hEr12.iface
 refine sA (.iface T15 (x16)) rfl ?_
 refine wend ?_
 refine sR ?_
 refine sM (.iface T15 (x16)) rfl ?_
 refine sq (r_neqIN isI27 rfl rfl) ?_
 refine wend ?_
 refine condTrue rfl ?_
 refine sR ?_
 refine sM (.iface T15 (x16)) rfl ?_
 refine sA (.slice none 0 0) rfl ?_
 refine sA (.slice none 0 0) rfl ?_
 refine sA (.iface T15 (x16)) rfl ?_
 refine wend ?_
 refine retAny ?_
 refine thenRet ?_
 refine retG (rs := [.tmp 8, .tmp 9, .tmp 10]) (vs := [.slice none 0 0, .slice none 0 0, .iface T15 (x16)]) rfl ⟨⟨rfl, rfl⟩, ⟨rfl, rfl⟩, ⟨rfl, rfl⟩, trivial⟩ ?_
 exact ⟨_, rfl, ⟨_, rfl, hEr12.mono H7.chg.size⟩, H14.chg⟩
theorem garble_delta (n : Int) (gs : List Gt) (ol : List Int) (ga oa : Option Addr) (gc oc : Nat) (δ : Lb) (zs : List Lb) (za : Option Addr) (zc : Nat) (first : BitVec 64) (w : World) (hG : Gl w) (hGs : Rd EG w ga gs) (hOl : Rd EI w oa ol) (hgl : gs.length ≤ 140737488355328) (hol : ol.length ≤ 140737488355328) (hZ : Rd ELb w za zs) (hg : IsC n gs ol) (hm : (zs.length : Int) = n) (hc : col δ = false) : Calls Tryd.prog 45 [.agg #[i64 (n), .slice ga gs.length gc, .slice oa ol.length oc], .agg (cel E64 [(δ).1, (δ).2]).toArray, .slice za zs.length zc, u64 (first)].toArray w (Ret fun v w' => (∃ ev, v = .tuple #[.slice none 0 0, .slice none 0 0, ev] ∧ Er w.heap.size w' 100 1 ev) ∧ Ext w w') := by
 have H := Hp.start No w
 refine enter (n := 152) Tryd.func45 rfl rfl (bLe rfl) ?_
 refine sR ?_
 refine q_box (v := .agg #[i64 (n), .slice ga gs.length gc, .slice oa ol.length oc]) (o := .cells #[i64 (n), .slice ga gs.length gc, .slice oa ol.length oc] 70 (0, 0)) H rfl (by rfl) ?_
 intro b1 w2 hb1 H3 hE4
 refine q_box (v := .agg (cel E64 [(δ).1, (δ).2]).toArray) (o := lO (δ)) H3 rfl (by rfl) ?_
 intro b5 w6 hb5 H7 hE8
 refine sA (.slice none 0 0) rfl ?_
 refine sA (.slice none 0 0) rfl ?_
 refine sA (.nilIface) rfl ?_
 refine wend ?_
 refine seqAny ?_
 refine sR ?_
 refine sq (r_loadA (cs' := #[i64 (n), .slice ga gs.length gc, .slice oa ol.length oc]) agg70 siz70 (H7.get (k := 1) rfl) (off := 0) rfl (by exact bLe rfl) (by rfl)) ?_
 refine sM (.slice za zs.length zc) rfl ?_
 refine sq (r_lenS sli92 (a := za) (m := zs.length) (c := zc) rfl) ?_
 refine c_call (vs := [.agg #[i64 (n), .slice ga gs.length gc, .slice oa ol.length oc], i64 (zs.length : Nat)]) call83 rfl (look_good n gs ol ga oa gc oc zs.length w6 (Chg.gl H7.chg (fun x => x) hG) (hGs.ext H7.chg) (hOl.ext H7.chg) (by omega) (by omega) hg (by omega)) ?_
 rintro _ w9 ⟨rfl, hE10⟩
 have H11 := H7.ext hE10
 refine sA (.nilIface) rfl ?_
 refine wend ?_
 refine sR ?_
 refine sM (.nilIface) rfl ?_
 refine sq (r_neqNN isI27 rfl rfl) ?_
 refine wend ?_
 refine condFalse rfl ?_
 refine skipAny ?_
 refine thenNormal ?_
 refine seqAny ?_
 refine sR ?_
 refine sq (r_loadA (cs' := (cel E64 ([(δ).1, (δ).2])).toArray) agg38 siz38 (H11.get (k := 0) rfl) (off := 0) rfl (by exact bLe rfl) (by exact ext_all rfl)) ?_
 refine c_call (vs := [lV (δ)]) call84 rfl (col_ok δ w9) ?_
 rintro _ w12 ⟨rfl, hE13⟩
 have H14 := H11.ext hE13
 refine sq ((r_not (b := col δ) rfl).as (v' := .bool (true)) (by rw [hc]; rfl)) ?_
 refine wend ?_
 refine condTrue rfl ?_
 refine sR ?_
 refine sq (r_mkI und57 (xv := i64 ((100 : Int))) rfl) ?_
 have := H14.lt (List.mem_of_getElem? (i := 0) rfl) rfl
 have := H14.lt (List.mem_of_getElem? (i := 1) rfl) rfl
 refine c_call (vs := [.iface 57 (i64 ((100 : Int))), .string ({data := #[100, 101, 108, 116, 97]}), i64 ((0 : Int))]) call63 rfl (wrap0_ok (100 : Int) (0 : Int) ({data := #[100, 101, 108, 116, 97]}) w12 (Chg.gl H14.chg (fun x => x) hG)) ?_
 rintro v17 w15 ⟨hEr18, hE19⟩
 have H20 := H14.ext hE19
 obtain ⟨T21, x22, rfl⟩ := hEr18.iface
 refine sA (.slice none 0 0) rfl ?_
 refine sA (.slice none 0 0) rfl ?_
 refine sA (.iface T21 (x22)) rfl ?_
 refine wend ?_
 refine retAny ?_
 refine thenRet ?_
 refine retG (rs := [.tmp 8, .tmp 9, .tmp 10]) (vs := [.slice none 0 0, .slice none 0 0, .iface T21 (x22)]) rfl ⟨⟨rfl, rfl⟩, ⟨rfl, rfl⟩, ⟨rfl, rfl⟩, trivial⟩ ?_
 exact ⟨_, rfl, ⟨_, rfl, hEr18.mono H14.chg.size⟩, H20.chg⟩
end Go.Proofs.YteofdmdpaejgaaaDoor.Gb
