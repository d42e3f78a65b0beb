/- What the claim has need of: Mi14. -/
import Derived.Test.YtohngnahcgbfmaaGreatDoorJr6
namespace Go.Proofs.YtohngnahcgbfmaaGreatDoor.Mi
open Go Go.Proofs.YtohngnahcgbfmaaGreatDoor.Vc Go.Proofs.YtohngnahcgbfmaaGreatDoor.Er Go.Proofs.YtohngnahcgbfmaaGreatDoor.Ek Go.Proofs.YtohngnahcgbfmaaGreatDoor.Circ
set_option linter.unusedVariables false
open Go.Proofs.YtohngnahcgbfmaaGreatDoor.Co Go.Proofs.YtohngnahcgbfmaaGreatDoor.Cm
theorem byt36 : byt Tryz.prog 36 = some 48 := by kernel_rfl
theorem call14 : callable Tryz.prog 14 = true := by kernel_rfl
set_option maxRecDepth 20000 in
set_option maxHeartbeats 64000000 in
theorem mjoin_ok (xs ys : List Mo) (xa ya : Option Addr) (xc yc : Nat) (w : World) (hG : Gl w) (hX : Rd EMo w xa xs) (hY : Rd EMo w ya ys) (hxl : xs.length ≤ 140737488355328) (hyl : ys.length ≤ 140737488355328) (hga : Good xs 65536 65536) (hgb : Good ys 65536 65536) : Calls Tryz.prog 4 [.slice xa xs.length xc, .slice ya ys.length yc].toArray w (Ret fun v w' => v = .bool true ∧ Ext w w') := by
 let z17 : Array Value := #[iN (nA ys), iN (nB ys), iN (nO ys), iN (nT0 ys), iN (nT1 ys), i64 (nR ys), iN (nW0 ys), iN (nW1 ys)]
 let z15 : Array Value := #[iN (nA xs), iN (nB xs), iN (nO xs), iN (nT0 xs), iN (nT1 xs), i64 (nR xs), iN (nW0 xs), iN (nW1 xs)]
 let z12 : Array Value := #[i64 0, i64 0, i64 0, i64 0, i64 0, i64 0, i64 0, i64 0]
 let z9 : Value := .agg (cel EI ([(65536 : Int), (65536 : Int)])).toArray
 let z6 : Array Value := #[iN (nA (joinM xs ys)), iN (nB (joinM xs ys)), iN (nO (joinM xs ys)), iN (nT0 (joinM xs ys)), iN (nT1 (joinM xs ys)), i64 (nR (joinM xs ys)), iN (nW0 (joinM xs ys)), iN (nW1 (joinM xs ys))]
 let z2 : Value := .slice xa xs.length xc
 have H := Hp.start No w
 refine enter (n := 233) Tryz.func4 rfl rfl (bLe rfl) ?_
 refine sR ?_
 refine sA (.bool false) rfl ?_
 refine wend ?_
 refine seqAny ?_
 refine sR ?_
 refine c_call (vs := []) call6 rfl (awake_ok w (Chg.gl H.chg (fun x => x) hG)) ?_
 rintro _ w1 ⟨rfl, hE2⟩
 have H3 := H.ext hE2
 refine sq (r_notT rfl) ?_
 refine sM (.bool false) rfl ?_
 refine sqAny (v := .slice xa xs.length xc) (w' := w1) (wantedSome (d' := 21) (b := false) rfl rfl rfl) (r_move (v := .slice xa xs.length xc) rfl) ?_
 refine sqAny (v := iN xs.length) (w' := w1) (wantedSome (d' := 21) (b := false) rfl rfl rfl) (r_lenS sli22 (a := xa) (m := xs.length) (c := xc) rfl) ?_
 refine sqAny (v := .slice ya ys.length yc) (w' := w1) (wantedSome (d' := 21) (b := false) rfl rfl rfl) (r_move (v := .slice ya ys.length yc) rfl) ?_
 refine sqAny (v := iN ys.length) (w' := w1) (wantedSome (d' := 21) (b := false) rfl rfl rfl) (r_lenS sli22 (a := ya) (m := ys.length) (c := yc) rfl) ?_
 refine sqAny (v := i64 ((xs.length : Nat) + (ys.length : Nat))) (w' := w1) (wantedSome (d' := 21) (b := false) rfl rfl rfl) (r_addI (a := (xs.length : Nat)) (b := (ys.length : Nat)) rfl rfl (by omega)) ?_
 refine sqAny (v := .bool (decide (((400 : Int) : Int) < ((xs.length : Nat) + (ys.length : Nat))))) (w' := w1) (wantedSome (d' := 21) (b := false) rfl rfl rfl) (r_gtrI (a := (xs.length : Nat) + (ys.length : Nat)) (b := (400 : Int)) rfl rfl) ?_
 refine sq (r_pickF (v := .bool (decide (((400 : Int) : Int) < ((xs.length : Nat) + (ys.length : Nat))))) rfl rfl) ?_
 refine sM (.bool (decide (((400 : Int) : Int) < ((xs.length : Nat) + (ys.length : Nat))))) rfl ?_
 refine sqGv (B := (!(decide (((400 : Int) : Int) < ((xs.length : Nat) + (ys.length : Nat)))))) (v := .slice xa xs.length xc) (wantedH (d' := 29) (B := true) rfl rfl rfl) (fun hB => r_move (v := .slice xa xs.length xc) rfl) ?_
 refine caGv (B := (!(decide (((400 : Int) : Int) < ((xs.length : Nat) + (ys.length : Nat)))))) (v := .bool ((decide (((xs.length : Nat) : Int) ≤ (400 : Int)) && decide (((cntS fG xs xs.length : Nat) : Int) ≤ (3 : Int))))) (wantedH (d' := 29) (B := true) rfl rfl rfl) (fun hB => by simp only [gvT (v := _) (h := hB)]; exact Enters.callL (vs := [.slice xa xs.length xc]) call7 rfl) (fun hB => by exact light_ok xs xa xc w1 (Chg.gl H3.chg (fun x => x) hG) (hX.ext H3.chg) (by omega)) ?_
 intro w4 hE5
 have H6 := H3.ext hE5
 refine sqGv (B := (!(decide (((400 : Int) : Int) < ((xs.length : Nat) + (ys.length : Nat)))))) (v := .bool (!(decide (((xs.length : Nat) : Int) ≤ (400 : Int)) && decide (((cntS fG xs xs.length : Nat) : Int) ≤ (3 : Int))))) (wantedH (d' := 29) (B := true) rfl rfl rfl) (fun hB => by simp only [gvT (v := _) (h := hB)]; exact r_not (b := (decide (((xs.length : Nat) : Int) ≤ (400 : Int)) && decide (((cntS fG xs xs.length : Nat) : Int) ≤ (3 : Int)))) rfl) ?_
 refine sq (r_pickOr (B := true) rfl rfl rfl rfl) ?_
 refine sM (.bool ((decide (((400 : Int) : Int) < ((xs.length : Nat) + (ys.length : Nat))) || !(decide (((xs.length : Nat) : Int) ≤ (400 : Int)) && decide (((cntS fG xs xs.length : Nat) : Int) ≤ (3 : Int)))))) rfl ?_
 refine sqGv (B := (!(decide (((400 : Int) : Int) < ((xs.length : Nat) + (ys.length : Nat))) || !(decide (((xs.length : Nat) : Int) ≤ (400 : Int)) && decide (((cntS fG xs xs.length : Nat) : Int) ≤ (3 : Int)))))) (v := .slice ya ys.length yc) (wantedH (d' := 34) (B := true) rfl rfl rfl) (fun hB => r_move (v := .slice ya ys.length yc) rfl) ?_
 refine caGv (B := (!(decide (((400 : Int) : Int) < ((xs.length : Nat) + (ys.length : Nat))) || !(decide (((xs.length : Nat) : Int) ≤ (400 : Int)) && decide (((cntS fG xs xs.length : Nat) : Int) ≤ (3 : Int)))))) (v := .bool ((decide (((ys.length : Nat) : Int) ≤ (400 : Int)) && decide (((cntS fG ys ys.length : Nat) : Int) ≤ (3 : Int))))) (wantedH (d' := 34) (B := true) rfl rfl rfl) (fun hB => by simp only [gvT (v := _) (h := hB)]; exact Enters.callL (vs := [.slice ya ys.length yc]) call7 rfl) (fun hB => by exact light_ok ys ya yc w4 (Chg.gl H6.chg (fun x => x) hG) (hY.ext H6.chg) (by omega)) ?_
 intro w7 hE8
 have H9 := H6.ext hE8
 refine sqGv (B := (!(decide (((400 : Int) : Int) < ((xs.length : Nat) + (ys.length : Nat))) || !(decide (((xs.length : Nat) : Int) ≤ (400 : Int)) && decide (((cntS fG xs xs.length : Nat) : Int) ≤ (3 : Int)))))) (v := .bool (!(decide (((ys.length : Nat) : Int) ≤ (400 : Int)) && decide (((cntS fG ys ys.length : Nat) : Int) ≤ (3 : Int))))) (wantedH (d' := 34) (B := true) rfl rfl rfl) (fun hB => by simp only [gvT (v := _) (h := hB)]; exact r_not (b := (decide (((ys.length : Nat) : Int) ≤ (400 : Int)) && decide (((cntS fG ys ys.length : Nat) : Int) ≤ (3 : Int)))) rfl) ?_
 refine sq (r_pickOr (B := true) rfl rfl rfl rfl) ?_
 refine wend ?_
 refine condBool (((decide (((400 : Int) : Int) < ((xs.length : Nat) + (ys.length : Nat))) || !(decide (((xs.length : Nat) : Int) ≤ (400 : Int)) && decide (((cntS fG xs xs.length : Nat) : Int) ≤ (3 : Int)))) || !(decide (((ys.length : Nat) : Int) ≤ (400 : Int)) && decide (((cntS fG ys ys.length : Nat) : Int) ≤ (3 : Int))))) rfl (fun c38 => ?_) (fun c38 => ?_)
 ·refine sR ?_
  refine c_call (vs := []) call6 rfl (awake_ok w7 (Chg.gl H9.chg (fun x => x) hG)) ?_
  rintro _ w10 ⟨rfl, hE11⟩
  have H12 := H9.ext hE11
  refine sA (.bool true) rfl ?_
  refine wend ?_
  refine retAny ?_
  refine thenRet ?_
  refine rG1 4 (.bool true) rfl ⟨rfl, rfl⟩ ?_
  exact ⟨_, rfl, rfl, H12.chg⟩
 ·have hbig := of_decide_eq_false (Bool.or_eq_false_iff.1 (Bool.or_eq_false_iff.1 c38).1).1
  refine skipAny ?_
  refine thenNormal ?_
  refine sR ?_
  refine sq (r_buildA (cs' := (cel EI [(65536 : Int), (65536 : Int)]).toArray) (ps := [(0, i64 65536), (1, i64 65536)]) zer29 arr29 rfl (by rfl)) ?_
  refine q_alloc (o := .cells (cel EI ([0, 0])).toArray 29 (0, 0)) H9 zer29 (by kernel_rfl) ?_
  intro b13 w14 hb13 H15 hE16
  let z3 := re b13 EI ([(65536 : Int), (65536 : Int)]) 29
  refine d_store (k := 0) (v := .agg (cel EI [(65536 : Int), (65536 : Int)]).toArray) (cs' := (cel EI ([(65536 : Int), (65536 : Int)])).toArray) H15 rfl rfl rfl siz29 (by exact celSize (by first | rfl | (show _ * 1 = _; omega))) (by exact celOne _) (by rw [List.size_toArray, cel_length]; show _ ≤ _ * 1; first | omega | (simp only [List.length_set]; omega) | exact bLe rfl | (simp <;> omega)) (by exact putAll (by first | rfl | omega | (simp <;> omega))) ?_
  intro w17 H18 hC19
  have H18' := H18.as (L' := [_]) rfl
  clear H18
  refine wend ?_
  refine seqAny ?_
  refine sR ?_
  refine sM z2 rfl ?_
  refine sq (r_loadA (cs' := (cel EI ([(65536 : Int), (65536 : Int)])).toArray) agg29 siz29 (H18'.get (k := 0) rfl) (off := 0) rfl (by exact bLe rfl) (by exact ext_all rfl)) ?_
  refine c_call (vs := [.slice xa xs.length xc, z9]) call8 rfl (mcheck_yes xs xa xc (65536 : Int) (65536 : Int) xs.length (by rfl) w17 (Chg.gl H18'.chg (fun x => x) hG) (hX.ext H18'.chg) (by omega) hga) ?_
  rintro _ w20 ⟨rfl, hE21⟩
  have H22 := H18'.ext hE21
  refine sq ((r_neqNN isI31 rfl rfl).as (v' := .bool false) (by rfl)) ?_
  refine sM (.bool false) rfl ?_
  refine sqAny (v := .slice ya ys.length yc) (w' := w20) (wantedSome (d' := 45) (b := false) rfl rfl rfl) (r_move (v := .slice ya ys.length yc) rfl) ?_
  refine sqAny (v := .agg (cel EI ([(65536 : Int), (65536 : Int)])).toArray) (w' := w20) (wantedSome (d' := 45) (b := false) rfl rfl rfl) (r_loadA (cs' := (cel EI ([(65536 : Int), (65536 : Int)])).toArray) agg29 siz29 (H22.get (k := 0) rfl) (off := 0) rfl (by exact bLe rfl) (by exact ext_all rfl)) ?_
  refine caAny (wantedSome (d' := 45) (b := false) rfl rfl rfl) (Enters.callL (vs := [.slice ya ys.length yc, z9]) call8 rfl) (mcheck_yes ys ya yc (65536 : Int) (65536 : Int) ys.length (by rfl) w20 (Chg.gl H22.chg (fun x => x) hG) (hY.ext H22.chg) (by omega) hgb) ?_
  rintro _ w23 ⟨rfl, hE24⟩
  have H25 := H22.ext hE24
  refine sqAny (v := .bool false) (w' := w23) (wantedSome (d' := 45) (b := false) rfl rfl rfl) ((r_neqNN isI31 rfl rfl).as (v' := .bool false) (by rfl)) ?_
  refine sq (r_pickF (v := .bool false) rfl rfl) ?_
  refine wend ?_
  refine condFalse rfl ?_
  refine skipAny ?_
  refine thenNormal ?_
  refine sR ?_
  refine q_buildSlice (E := EMo) (l := ([] : List Mo)) H25 sli22 zer36 (bLe rfl) (ps := []) rfl (by exact fillAll rfl rfl) rfl ?_
  intro b26 w28 hS27 H29 hE30
  refine sM z2 rfl ?_
  refine q_append (E := EMo) (k := 0) (l := ([] : List Mo)) (l2 := xs) H29 rfl hS27 sli22 zer36 rfl byt36 (hX.ext H29.chg) rfl (by rfl) rfl (by rfl) (by omega) ?_
  intro key31 c32 sp33 w35 hS34 hne37 H36
  have H36' := H36.as (L' := [_, _]) rfl
  clear H36
  have e38 : ([] : List Mo) ++ xs = jL xs ys 0 := by rw [jl_zero]; rfl
  have hS39 := hS34
  rw [e38] at hS39
  have H40 := H36'.as (L' := [(key31, sob EMo 36 (jL xs ys 0) sp33), (re b13 EI ([(65536 : Int), (65536 : Int)]) 29)]) (by rw [e38])
  refine sA (.slice (ownA key31) (0 + xs.length) c32) rfl ?_
  refine wS ?_
  refine sq (r_buildA (cs' := (cel EI [0, 0]).toArray) (ps := []) zer29 arr29 rfl (by rfl)) ?_
  refine q_alloc (o := .cells (cel EI ([0, 0])).toArray 29 (0, 0)) H40 zer29 (by kernel_rfl) ?_
  intro b41 w42 hb41 H43 hE44
  refine sA (i64 0) rfl ?_
  refine d_store (k := 0) (v := .agg (cel EI [0, 0]).toArray) (cs' := (cel EI ([0, 0])).toArray) H43 rfl rfl rfl siz29 (by exact celSize (by first | rfl | (show _ * 1 = _; omega))) (by exact celOne _) (by rw [List.size_toArray, cel_length]; show _ ≤ _ * 1; first | omega | (simp only [List.length_set]; omega) | exact bLe rfl | (simp <;> omega)) (by exact putAll (by first | rfl | omega | (simp <;> omega))) ?_
  intro w45 H46 hC47
  have H46' := H46.as (L' := [_, _, _]) rfl
  clear H46
  refine wend ?_
  refine seqAny ?_
  refine sR ?_
  refine sM z2 rfl ?_
  refine sq (r_lenS sli22 (a := xa) (m := xs.length) (c := xc) rfl) ?_
  refine sM (i64 0) rfl ?_
  refine wend ?_
  refine blockAny ?_
  refine loopAny (σ := Nat) (fun i => [(0, .slice xa xs.length xc), (1, .slice ya ys.length yc), (5, pT b13), (6, .slice (ownA key31) (0 + xs.length) c32), (7, iN (cntS fTold xs i)), (8, pT b41), (56, iN xs.length), (57, iN i)]) (fun i w' => i ≤ xs.length ∧ Hp No w w' [(key31, sob EMo 36 (jL xs ys 0) sp33), z3, (re b41 EI ([dlI xs i, 0]) 29)]) (fun i => xs.length - i) (0) ?_ ?_ ?_
  ·exact ⟨rfl, rfl, rfl, rfl, rfl, rfl, rfl, rfl, trivial⟩
  ·exact ⟨Nat.zero_le _, (H46'.pick 3 [1, 2, 0] (by decide) (by decide))⟩
  rintro i ρ w48 ⟨hk, H49⟩
  have hct := cnt_bound fTold_le xs i
  refine sR ?_
  refine sq (r_lssI (a := (i : Nat)) (b := (xs.length : Nat)) rfl rfl) ?_
  refine wend ?_
  refine seqAny ?_
  refine condProp (((i : Nat) : Int) < (xs.length : Nat)) rfl (fun c58 => ?_) (fun c58 => ?_)
  ·have hgo := hga.at' i (by omega)
   refine skipAny ?_
   refine thenNormal ?_
   refine seqAny ?_
   refine blockAny ?_
   refine sR ?_
   refine sM (iN i) rfl ?_
   refine sA (iN i) rfl ?_
   refine wend ?_
   refine seqAny ?_
   refine sR ?_
   refine sM z2 rfl ?_
   refine sM (iN i) rfl ?_
   refine sq (r_idxS (E := EMo) (l := xs) (j := i) sli22 (hX.ext H49.chg) rfl rfl (by first | rfl | omega | (simp; omega)) (by rfl) (by omega)) ?_
   refine sq (r_fieldS (E := EMo) (l := xs) fld36_0 (by decide) (hX.ext H49.chg) (by omega) rfl rfl) ?_
   refine sq (r_ldP (E := EMo) (l := xs) (j := i) (o := 0) (v := (xs.getD i mo0)) (u := i64 ((xs.getD i mo0).kd)) one33 (hX.ext H49.chg) (at_getD (by omega)) rfl rfl rfl) ?_
   refine sq (r_geqI (a := (xs.getD i mo0).kd) (b := (18 : Int)) rfl rfl) ?_
   refine wend ?_
   refine condProp (((18 : Int) : Int) ≤ ((xs.getD i mo0).kd)) rfl (fun cj65 => ?_) (fun cj65 => ?_)
   ·refine oneRegion ?_
    refine sM (iN (cntS fTold xs i)) rfl ?_
    refine sq (r_addI (a := ((cntS fTold xs i) : Nat)) (b := (1 : Int)) rfl rfl (by omega)) ?_
    refine sA (i64 (((cntS fTold xs i) : Nat) + (1 : Int))) rfl ?_
    refine wnil ?_
    refine thenNormal ?_
    refine sR ?_
    refine sM z2 rfl ?_
    refine sM (iN i) rfl ?_
    refine sq (r_idxS (E := EMo) (l := xs) (j := i) sli22 (hX.ext H49.chg) rfl rfl (by first | rfl | omega | (simp; omega)) (by rfl) (by omega)) ?_
    refine sq (r_fieldS (E := EMo) (l := xs) fld36_0 (by decide) (hX.ext H49.chg) (by omega) rfl rfl) ?_
    refine sq (r_ldP (E := EMo) (l := xs) (j := i) (o := 0) (v := (xs.getD i mo0)) (u := i64 ((xs.getD i mo0).kd)) one33 (hX.ext H49.chg) (at_getD (by omega)) rfl rfl rfl) ?_
    refine sq (r_eqlI (a := (xs.getD i mo0).kd) (b := (17 : Int)) rfl rfl) ?_
    refine wend ?_
    refine condProp (((xs.getD i mo0).kd : Int) = (17 : Int)) rfl (fun cj73 => ?_) (fun cj73 => ?_)
    ·refine oneRegion ?_
     refine sq (r_indexA (off' := 0) (j := 0) arr29 (b := b41) (off := 0) rfl rfl (by first | rfl | omega | (simp; omega)) (by omega) (by omega)) ?_
     refine d_store (k := 2) (v := i64 2) (cs' := (cel EI ([(2 : Int), 0])).toArray) H49 rfl rfl rfl siz3 (by rfl) (by exact EI.one _) (by rw [List.size_toArray, cel_length]; show _ ≤ _ * 1; first | omega | (simp only [List.length_set]; omega) | exact bLe rfl | (simp <;> omega)) (by exact put1 (E := EI) rfl _ _ _) ?_
     intro w50 H51 hC52
     have H51' := H51.as (L' := [_, _, _]) rfl
     clear H51
     refine wnil ?_
     refine blockNormal ?_
     refine thenNormal ?_
     refine oneRegion ?_
     refine sq (r_addI (a := (i : Nat)) (b := (1 : Int)) rfl rfl (by omega)) ?_
     refine sM (i64 ((i : Nat) + (1 : Int))) rfl ?_
     refine wnil ?_
     refine thenNormal ?_
     exact ⟨i + 1, _, rfl, ⟨rfl, rfl, rfl, rfl, congrArg i64 (by rw [tld_s hgo.ok cj65]; omega), rfl, rfl, rfl, trivial⟩, ⟨by omega, by rw [dl_t cj73]; exact H51'⟩, by show xs.length - (i + 1) < xs.length - i; omega⟩
    ·refine skipAny ?_
     refine blockNormal ?_
     refine thenNormal ?_
     refine oneRegion ?_
     refine sq (r_addI (a := (i : Nat)) (b := (1 : Int)) rfl rfl (by omega)) ?_
     refine sM (i64 ((i : Nat) + (1 : Int))) rfl ?_
     refine wnil ?_
     refine thenNormal ?_
     exact ⟨i + 1, _, rfl, ⟨rfl, rfl, rfl, rfl, congrArg i64 (by rw [tld_s hgo.ok cj65]; omega), rfl, rfl, rfl, trivial⟩, ⟨by omega, by rw [dl_f cj73]; exact H49⟩, by show xs.length - (i + 1) < xs.length - i; omega⟩
   ·refine skipAny ?_
    refine thenNormal ?_
    refine sR ?_
    refine sM z2 rfl ?_
    refine sM (iN i) rfl ?_
    refine sq (r_idxS (E := EMo) (l := xs) (j := i) sli22 (hX.ext H49.chg) rfl rfl (by first | rfl | omega | (simp; omega)) (by rfl) (by omega)) ?_
    refine sq (r_fieldS (E := EMo) (l := xs) fld36_0 (by decide) (hX.ext H49.chg) (by omega) rfl rfl) ?_
    refine sq (r_ldP (E := EMo) (l := xs) (j := i) (o := 0) (v := (xs.getD i mo0)) (u := i64 ((xs.getD i mo0).kd)) one33 (hX.ext H49.chg) (at_getD (by omega)) rfl rfl rfl) ?_
    refine sq (r_eqlI (a := (xs.getD i mo0).kd) (b := (17 : Int)) rfl rfl) ?_
    refine wend ?_
    refine condProp (((xs.getD i mo0).kd : Int) = (17 : Int)) rfl (fun cj73 => ?_) (fun cj73 => ?_)
    ·refine oneRegion ?_
     refine sq (r_indexA (off' := 0) (j := 0) arr29 (b := b41) (off := 0) rfl rfl (by first | rfl | omega | (simp; omega)) (by omega) (by omega)) ?_
     refine d_store (k := 2) (v := i64 2) (cs' := (cel EI ([(2 : Int), 0])).toArray) H49 rfl rfl rfl siz3 (by rfl) (by exact EI.one _) (by rw [List.size_toArray, cel_length]; show _ ≤ _ * 1; first | omega | (simp only [List.length_set]; omega) | exact bLe rfl | (simp <;> omega)) (by exact put1 (E := EI) rfl _ _ _) ?_
     intro w53 H54 hC55
     have H54' := H54.as (L' := [_, _, _]) rfl
     clear H54
     refine wnil ?_
     refine blockNormal ?_
     refine thenNormal ?_
     refine oneRegion ?_
     refine sq (r_addI (a := (i : Nat)) (b := (1 : Int)) rfl rfl (by omega)) ?_
     refine sM (i64 ((i : Nat) + (1 : Int))) rfl ?_
     refine wnil ?_
     refine thenNormal ?_
     exact ⟨i + 1, _, rfl, ⟨rfl, rfl, rfl, rfl, congrArg i64 (by rw [tld_n hgo.ok cj65]), rfl, rfl, rfl, trivial⟩, ⟨by omega, by rw [dl_t cj73]; exact H54'⟩, by show xs.length - (i + 1) < xs.length - i; omega⟩
    ·refine skipAny ?_
     refine blockNormal ?_
     refine thenNormal ?_
     refine oneRegion ?_
     refine sq (r_addI (a := (i : Nat)) (b := (1 : Int)) rfl rfl (by omega)) ?_
     refine sM (i64 ((i : Nat) + (1 : Int))) rfl ?_
     refine wnil ?_
     refine thenNormal ?_
     exact ⟨i + 1, _, rfl, ⟨rfl, rfl, rfl, rfl, congrArg i64 (by rw [tld_n hgo.ok cj65]), rfl, rfl, rfl, trivial⟩, ⟨by omega, by rw [dl_f cj73]; exact H49⟩, by show xs.length - (i + 1) < xs.length - i; omega⟩
  ·have hie : i = xs.length := by omega
   subst hie
   refine exitAny ?_
   refine thenExit ?_
   refine thenExit ?_
   refine blockHere ?_
   refine thenNormal ?_
   refine seqAny ?_
   refine sR ?_
   refine sM (.slice ya ys.length yc) rfl ?_
   refine sq (r_lenS sli22 (a := ya) (m := ys.length) (c := yc) rfl) ?_
   refine sM (i64 0) rfl ?_
   refine wend ?_
   refine blockAny ?_
   refine loopAny (σ := Nat × Option Nat × Nat × List Value) (fun (q, kl, cl, sl) => [(0, .slice xa xs.length xc), (1, .slice ya ys.length yc), (5, pT b13), (6, .slice (ownA kl) (xs.length + q) cl), (7, iN (cntS fTold xs xs.length)), (8, pT b41), (77, iN ys.length), (78, iN q)]) (fun (q, kl, cl, sl) w' => (q ≤ ys.length ∧ Sl EMo kl (jL xs ys q) cl sl) ∧ Hp No w w' [(kl, sob EMo 36 (jL xs ys q) sl), z3, (re b41 EI ([dlI xs xs.length, dlI ys q]) 29)]) (fun (q, kl, cl, sl) => ys.length - q) ((0, key31, c32, sp33)) ?_ ?_ ?_
   ·exact ⟨rfl, rfl, rfl, congrArg (Value.slice _ · _) (by omega), rfl, rfl, rfl, rfl, trivial⟩
   ·exact ⟨⟨Nat.zero_le _, hS39⟩, H49⟩
   rintro ⟨q, kl, cl, sl⟩ ρ w56 ⟨⟨hq, hSl⟩, HL⟩
   refine sR ?_
   refine sq (r_lssI (a := (q : Nat)) (b := (ys.length : Nat)) rfl rfl) ?_
   refine wend ?_
   refine seqAny ?_
   refine condProp (((q : Nat) : Int) < (ys.length : Nat)) rfl (fun c79 => ?_) (fun c79 => ?_)
   ·refine skipAny ?_
    refine thenNormal ?_
    refine seqAny ?_
    refine blockAny ?_
    refine sR ?_
    refine sM (iN q) rfl ?_
    refine sA (iN q) rfl ?_
    refine wS ?_
    refine sM (.slice ya ys.length yc) rfl ?_
    refine sM (iN q) rfl ?_
    refine sq (r_idxS (E := EMo) (l := ys) (j := q) sli22 (hY.ext HL.chg) rfl rfl (by first | rfl | omega | (simp; omega)) (by rfl) (by omega)) ?_
    refine sq ((r_ldS (E := EMo) (l := ys) (j := q) (v := ys.getD q mo0) fits36 (hY.ext HL.chg) rfl rfl (at_getD (by omega))).as (v' := .agg #[i64 ((ys.getD q mo0).kd), i64 ((ys.getD q mo0).a), i64 ((ys.getD q mo0).b), i64 ((ys.getD q mo0).k), u64 ((ys.getD q mo0).c), i64 ((ys.getD q mo0).pt)]) rfl) ?_
    refine q_alloc (o := .cells #[i64 0, i64 0, i64 0, i64 0, u64 0#64, i64 0] 36 (0, 0)) HL zer36 (by kernel_rfl) ?_
    intro b58 w59 hb58 H60 hE61
    refine d_store (k := 0) (v := .agg #[i64 ((ys.getD q mo0).kd), i64 ((ys.getD q mo0).a), i64 ((ys.getD q mo0).b), i64 ((ys.getD q mo0).k), u64 ((ys.getD q mo0).c), i64 ((ys.getD q mo0).pt)]) (cs' := #[i64 ((ys.getD q mo0).kd), i64 ((ys.getD q mo0).a), i64 ((ys.getD q mo0).b), i64 ((ys.getD q mo0).k), u64 ((ys.getD q mo0).c), i64 ((ys.getD q mo0).pt)]) H60 rfl rfl rfl siz36 (by rfl) (oneL rfl) (by exact bLe rfl) (by rfl) ?_
    intro w62 H63 hC64
    have H63' := H63.as (L' := [_, _, _, _]) rfl
    clear H63
    obtain ⟨o, ho⟩ : ∃ q1, q1 = ys.getD q mo0 := ⟨_, rfl⟩
    let z20 : Value := i64 (o.a + (xs.length : Nat))
    let z19 : Value := i64 (o.b + (xs.length : Nat))
    let z18 : Array Value := #[i64 (o.kd), i64 (o.a), i64 (o.b), i64 (o.k), u64 (o.c), i64 (o.pt)]
    let z16 : Array Value := #[i64 (o.kd), i64 (o.a), z19, i64 (o.k), u64 (o.c), i64 (o.pt)]
    let z13 : Array Value := #[i64 (o.kd), z20, i64 (o.b), i64 (o.k), u64 (o.c), i64 (o.pt)]
    let z10 : Array Value := #[i64 (o.kd), z20, z19, i64 (o.k), u64 (o.c), i64 (o.pt)]
    let z7 : Value := .slice (ownA kl) (xs.length + q) cl
    let z4 : Array Value := #[i64 ((ruleS o 65536 65536).1.a), i64 ((ruleS o 65536 65536).1.b), i64 ((ruleS o 65536 65536).1.m), i64 ((ruleS o 65536 65536).1.r)]
    let z1 : Value := i64 (o.k + ((cntS fTold xs xs.length) : Nat))
    let z14 : Array Value := #[i64 (o.kd), i64 (o.a), i64 (o.b), z1, u64 (o.c), i64 (o.pt)]
    let z11 : Array Value := #[i64 (o.kd), i64 (o.a), z19, z1, u64 (o.c), i64 (o.pt)]
    let z8 : Array Value := #[i64 (o.kd), z20, i64 (o.b), z1, u64 (o.c), i64 (o.pt)]
    let z5 : Array Value := #[i64 (o.kd), z20, z19, z1, u64 (o.c), i64 (o.pt)]
    rw [← ho] at H63' ⊢
    have hgo := hgb.at' q (by omega)
    rw [← ho] at hgo
    have hra := good_rng hgo.a
    have hrb := good_rng hgo.b
    have hou := outs_le ys
    have hox := outs_le xs
    refine wS ?_
    refine sq (r_loadA (cs' := z18) agg36 siz36 (H63'.get (k := 0) rfl) (off := 0) rfl (by exact bLe rfl) (by rfl)) ?_
    refine c_call (vs := [.agg z18]) call14 rfl (rwants_ok o hgo.ok w62) ?_
    rintro _ w65 ⟨rfl, hE66⟩
    have H67 := H63'.ext hE66
    refine sM (.tuple z4) rfl ?_
    refine sq (r_extract (vs := z4) rfl rfl) ?_
    refine sq (r_extract (vs := z4) rfl rfl) ?_
    refine sq (r_extract (vs := z4) rfl rfl) ?_
    refine sq (r_extract (vs := z4) rfl rfl) ?_
    refine sA (i64 ((ruleS o 65536 65536).1.a)) rfl ?_
    refine sA (i64 ((ruleS o 65536 65536).1.b)) rfl ?_
    refine sA (i64 ((ruleS o 65536 65536).1.m)) rfl ?_
    refine sA (i64 ((ruleS o 65536 65536).1.r)) rfl ?_
    refine wend ?_
    refine seqAny ?_
    refine sR ?_
    refine sM (i64 ((ruleS o 65536 65536).1.a)) rfl ?_
    refine sq (r_neqI (a := (ruleS o 65536 65536).1.a) (b := (0 : Int)) rfl rfl) ?_
    refine wend ?_
    refine condProp (((ruleS o 65536 65536).1.a : Int) ≠ (0 : Int)) rfl (fun cj93 => ?_) (fun cj93 => ?_)
    ·refine oneRegion ?_
     refine sq (r_fieldAddr (off' := 1) fld36_1 (by decide) (b := b58) (off := 0) rfl (by omega)) ?_
     refine sq (r_loadC (v := i64 (o.a)) one3 (H67.get (k := 0) rfl) (off := 1) rfl (by rfl)) ?_
     refine sM z2 rfl ?_
     refine sq (r_lenS sli22 (a := xa) (m := xs.length) (c := xc) rfl) ?_
     refine sq (r_addI (a := o.a) (b := (xs.length : Nat)) rfl rfl (by omega)) ?_
     refine sq (r_fieldAddr (off' := 1) fld36_1 (by decide) (b := b58) (off := 0) rfl (by omega)) ?_
     refine d_store (k := 0) (v := i64 (o.a + (xs.length : Nat))) (cs' := z13) H67 rfl rfl rfl siz3 (by rfl) (by exact EI.one _) (by exact bLe rfl) (by rfl) ?_
     intro w68 H69 hC70
     have H69' := H69.as (L' := [_, _, _, _]) rfl
     clear H69
     refine wnil ?_
     refine thenNormal ?_
     refine seqAny ?_
     refine sR ?_
     refine sM (i64 ((ruleS o 65536 65536).1.b)) rfl ?_
     refine sq (r_neqI (a := (ruleS o 65536 65536).1.b) (b := (0 : Int)) rfl rfl) ?_
     refine wend ?_
     refine condProp (((ruleS o 65536 65536).1.b : Int) ≠ (0 : Int)) rfl (fun cj101 => ?_) (fun cj101 => ?_)
     ·refine oneRegion ?_
      refine sq (r_fieldAddr (off' := 2) fld36_2 (by decide) (b := b58) (off := 0) rfl (by omega)) ?_
      refine sq (r_loadC (v := i64 (o.b)) one3 (H69'.get (k := 0) rfl) (off := 2) rfl (by rfl)) ?_
      refine sM z2 rfl ?_
      refine sq (r_lenS sli22 (a := xa) (m := xs.length) (c := xc) rfl) ?_
      refine sq (r_addI (a := o.b) (b := (xs.length : Nat)) rfl rfl (by omega)) ?_
      refine sq (r_fieldAddr (off' := 2) fld36_2 (by decide) (b := b58) (off := 0) rfl (by omega)) ?_
      refine d_store (k := 0) (v := i64 (o.b + (xs.length : Nat))) (cs' := z10) H69' rfl rfl rfl siz3 (by rfl) (by exact EI.one _) (by exact bLe rfl) (by rfl) ?_
      intro w71 H72 hC73
      have H72' := H72.as (L' := [_, _, _, _]) rfl
      clear H72
      refine wnil ?_
      refine thenNormal ?_
      refine seqAny ?_
      refine sR ?_
      refine sq (r_fieldAddr (off' := 0) fld36_0 (by decide) (b := b58) (off := 0) rfl (by omega)) ?_
      refine sq (r_loadC (v := i64 (o.kd)) one33 (H72'.get (k := 0) rfl) (off := 0) rfl (by rfl)) ?_
      refine sq (r_geqI (a := o.kd) (b := (18 : Int)) rfl rfl) ?_
      refine wend ?_
      refine condProp (((18 : Int) : Int) ≤ o.kd) rfl (fun cj110 => ?_) (fun cj110 => ?_)
      ·have hkt := hgo.told ((tld_ge hgo.ok).1 cj110)
       refine oneRegion ?_
       refine sq (r_fieldAddr (off' := 3) fld36_3 (by decide) (b := b58) (off := 0) rfl (by omega)) ?_
       refine sq (r_loadC (v := i64 (o.k)) one3 (H72'.get (k := 0) rfl) (off := 3) rfl (by rfl)) ?_
       refine sM (iN (cntS fTold xs xs.length)) rfl ?_
       refine sq (r_addI (a := o.k) (b := ((cntS fTold xs xs.length) : Nat)) rfl rfl (by omega)) ?_
       refine sq (r_fieldAddr (off' := 3) fld36_3 (by decide) (b := b58) (off := 0) rfl (by omega)) ?_
       refine d_store (k := 0) (v := i64 (o.k + ((cntS fTold xs xs.length) : Nat))) (cs' := z5) H72' rfl rfl rfl siz3 (by rfl) (by exact EI.one _) (by exact bLe rfl) (by rfl) ?_
       intro w74 H75 hC76
       have H75' := H75.as (L' := [_, _, _, _]) rfl
       clear H75
       refine wnil ?_
       refine thenNormal ?_
       refine seqAny ?_
       refine sR ?_
       refine sq (r_fieldAddr (off' := 0) fld36_0 (by decide) (b := b58) (off := 0) rfl (by omega)) ?_
       refine sq (r_loadC (v := i64 (o.kd)) one33 (H75'.get (k := 0) rfl) (off := 0) rfl (by rfl)) ?_
       refine sq (r_eqlI (a := o.kd) (b := (17 : Int)) rfl rfl) ?_
       refine wend ?_
       refine condProp ((o.kd : Int) = (17 : Int)) rfl (fun cj118 => ?_) (fun cj118 => ?_)
       ·refine oneRegion ?_
        refine sq (r_indexA (off' := 1) (j := 1) arr29 (b := b41) (off := 0) rfl rfl (by first | rfl | omega | (simp; omega)) (by omega) (by omega)) ?_
        refine d_store (k := 3) (v := i64 2) (cs' := (cel EI ([dlI xs xs.length, (2 : Int)])).toArray) H75' rfl rfl rfl siz3 (by rfl) (by exact EI.one _) (by rw [List.size_toArray, cel_length]; show _ ≤ _ * 1; first | omega | (simp only [List.length_set]; omega) | exact bLe rfl | (simp <;> omega)) (by exact put1 (E := EI) rfl _ _ _) ?_
        intro w77 H78 hC79
        have H78' := H78.as (L' := [_, _, _, _]) rfl
        clear H78
        refine wnil ?_
        refine thenNormal ?_
        refine oneRegion ?_
        refine sM z7 rfl ?_
        refine sq (r_loadA (cs' := z5) agg36 siz36 (H78'.get (k := 0) rfl) (off := 0) rfl (by exact bLe rfl) (by rfl)) ?_
        refine q_buildSlice (E := EMo) (l := ([⟨o.kd, o.a + (xs.length : Nat), o.b + (xs.length : Nat), o.k + ((cntS fTold xs xs.length) : Nat), o.c, o.pt⟩] : List Mo)) H78' sli22 zer36 (bLe rfl) (ps := [(0, .agg z5)]) rfl (by exact fillAll rfl rfl) rfl ?_
        intro b80 w82 hS81 H83 hE84
        refine q_append (E := EMo) (k := 2) (l := jL xs ys q) (l2 := ([⟨o.kd, o.a + (xs.length : Nat), o.b + (xs.length : Nat), o.k + ((cntS fTold xs xs.length) : Nat), o.c, o.pt⟩] : List Mo)) H83 rfl hSl sli22 zer36 rfl byt36 (H83.rd (k := 0) rfl hS81) rfl (by exact (jl_len (by omega)).symm) rfl (by rfl) (by omega) ?_
        intro key85 c86 sp87 w89 hS88 hne91 H90
        have H90' := H90.as (L' := [_, _, _, _, _]) rfl
        clear H90
        refine sA (.slice (ownA key85) ((xs.length + q) + 1) c86) rfl ?_
        refine wnil ?_
        refine blockNormal ?_
        refine thenNormal ?_
        refine oneRegion ?_
        refine sq (r_addI (a := (q : Nat)) (b := (1 : Int)) rfl rfl (by omega)) ?_
        refine sM (i64 ((q : Nat) + (1 : Int))) rfl ?_
        refine wnil ?_
        refine thenNormal ?_
        have e92 : (jL xs ys q) ++ ([⟨o.kd, o.a + (xs.length : Nat), o.b + (xs.length : Nat), o.k + ((cntS fTold xs xs.length) : Nat), o.c, o.pt⟩] : List Mo) = jL xs ys (q + 1) := by exact jl_succ (by omega) (by rw [← ho]; exact sh_is (by rw [if_neg cj93]) (by rw [if_neg cj101]) (by rw [if_pos ((tld_ge hgo.ok).1 cj110)]; rfl))
        have hS93 := hS88
        rw [e92] at hS93
        have H94 := H90'.as (L' := [((some b80), sob EMo 36 ([⟨o.kd, o.a + (xs.length : Nat), o.b + (xs.length : Nat), o.k + ((cntS fTold xs xs.length) : Nat), o.c, o.pt⟩] : List Mo) ([])), (rc b58 #[i64 (o.kd), i64 (o.a + (xs.length : Nat)), i64 (o.b + (xs.length : Nat)), i64 (o.k + ((cntS fTold xs xs.length) : Nat)), u64 (o.c), i64 (o.pt)] 36), (key85, sob EMo 36 (jL xs ys (q + 1)) sp87), (re b13 EI ([(65536 : Int), (65536 : Int)]) 29), (re b41 EI ([dlI xs xs.length, (2 : Int)]) 29)]) (by rw [e92])
        exact ⟨(q + 1, key85, c86, sp87), _, rfl, ⟨rfl, rfl, rfl, rfl, rfl, rfl, rfl, rfl, trivial⟩, ⟨⟨by omega, hS93⟩, by rw [dl_t (by rw [← ho]; exact cj118)]; exact ((H94.dropk 1).dropk 0)⟩, by show ys.length - (q + 1) < ys.length - q; omega⟩
       ·refine skipAny ?_
        refine thenNormal ?_
        refine oneRegion ?_
        refine sM z7 rfl ?_
        refine sq (r_loadA (cs' := z5) agg36 siz36 (H75'.get (k := 0) rfl) (off := 0) rfl (by exact bLe rfl) (by rfl)) ?_
        refine q_buildSlice (E := EMo) (l := ([⟨o.kd, o.a + (xs.length : Nat), o.b + (xs.length : Nat), o.k + ((cntS fTold xs xs.length) : Nat), o.c, o.pt⟩] : List Mo)) H75' sli22 zer36 (bLe rfl) (ps := [(0, .agg z5)]) rfl (by exact fillAll rfl rfl) rfl ?_
        intro b95 w97 hS96 H98 hE99
        refine q_append (E := EMo) (k := 2) (l := jL xs ys q) (l2 := ([⟨o.kd, o.a + (xs.length : Nat), o.b + (xs.length : Nat), o.k + ((cntS fTold xs xs.length) : Nat), o.c, o.pt⟩] : List Mo)) H98 rfl hSl sli22 zer36 rfl byt36 (H98.rd (k := 0) rfl hS96) rfl (by exact (jl_len (by omega)).symm) rfl (by rfl) (by omega) ?_
        intro key100 c101 sp102 w104 hS103 hne106 H105
        have H105' := H105.as (L' := [_, _, _, _, _]) rfl
        clear H105
        refine sA (.slice (ownA key100) ((xs.length + q) + 1) c101) rfl ?_
        refine wnil ?_
        refine blockNormal ?_
        refine thenNormal ?_
        refine oneRegion ?_
        refine sq (r_addI (a := (q : Nat)) (b := (1 : Int)) rfl rfl (by omega)) ?_
        refine sM (i64 ((q : Nat) + (1 : Int))) rfl ?_
        refine wnil ?_
        refine thenNormal ?_
        have e107 : (jL xs ys q) ++ ([⟨o.kd, o.a + (xs.length : Nat), o.b + (xs.length : Nat), o.k + ((cntS fTold xs xs.length) : Nat), o.c, o.pt⟩] : List Mo) = jL xs ys (q + 1) := by exact jl_succ (by omega) (by rw [← ho]; exact sh_is (by rw [if_neg cj93]) (by rw [if_neg cj101]) (by rw [if_pos ((tld_ge hgo.ok).1 cj110)]; rfl))
        have hS108 := hS103
        rw [e107] at hS108
        have H109 := H105'.as (L' := [((some b95), sob EMo 36 ([⟨o.kd, o.a + (xs.length : Nat), o.b + (xs.length : Nat), o.k + ((cntS fTold xs xs.length) : Nat), o.c, o.pt⟩] : List Mo) ([])), (rc b58 #[i64 (o.kd), i64 (o.a + (xs.length : Nat)), i64 (o.b + (xs.length : Nat)), i64 (o.k + ((cntS fTold xs xs.length) : Nat)), u64 (o.c), i64 (o.pt)] 36), (key100, sob EMo 36 (jL xs ys (q + 1)) sp102), (re b13 EI ([(65536 : Int), (65536 : Int)]) 29), (re b41 EI ([dlI xs xs.length, dlI ys q]) 29)]) (by rw [e107])
        exact ⟨(q + 1, key100, c101, sp102), _, rfl, ⟨rfl, rfl, rfl, rfl, rfl, rfl, rfl, rfl, trivial⟩, ⟨⟨by omega, hS108⟩, by rw [dl_f (by rw [← ho]; exact cj118)]; exact ((H109.dropk 1).dropk 0)⟩, by show ys.length - (q + 1) < ys.length - q; omega⟩
      ·refine skipAny ?_
       refine thenNormal ?_
       refine seqAny ?_
       refine sR ?_
       refine sq (r_fieldAddr (off' := 0) fld36_0 (by decide) (b := b58) (off := 0) rfl (by omega)) ?_
       refine sq (r_loadC (v := i64 (o.kd)) one33 (H72'.get (k := 0) rfl) (off := 0) rfl (by rfl)) ?_
       refine sq (r_eqlI (a := o.kd) (b := (17 : Int)) rfl rfl) ?_
       refine wend ?_
       refine condProp ((o.kd : Int) = (17 : Int)) rfl (fun cj118 => ?_) (fun cj118 => ?_)
       ·refine oneRegion ?_
        refine sq (r_indexA (off' := 1) (j := 1) arr29 (b := b41) (off := 0) rfl rfl (by first | rfl | omega | (simp; omega)) (by omega) (by omega)) ?_
        refine d_store (k := 3) (v := i64 2) (cs' := (cel EI ([dlI xs xs.length, (2 : Int)])).toArray) H72' rfl rfl rfl siz3 (by rfl) (by exact EI.one _) (by rw [List.size_toArray, cel_length]; show _ ≤ _ * 1; first | omega | (simp only [List.length_set]; omega) | exact bLe rfl | (simp <;> omega)) (by exact put1 (E := EI) rfl _ _ _) ?_
        intro w110 H111 hC112
        have H111' := H111.as (L' := [_, _, _, _]) rfl
        clear H111
        refine wnil ?_
        refine thenNormal ?_
        refine oneRegion ?_
        refine sM z7 rfl ?_
        refine sq (r_loadA (cs' := z10) agg36 siz36 (H111'.get (k := 0) rfl) (off := 0) rfl (by exact bLe rfl) (by rfl)) ?_
        refine q_buildSlice (E := EMo) (l := ([⟨o.kd, o.a + (xs.length : Nat), o.b + (xs.length : Nat), o.k, o.c, o.pt⟩] : List Mo)) H111' sli22 zer36 (bLe rfl) (ps := [(0, .agg z10)]) rfl (by exact fillAll rfl rfl) rfl ?_
        intro b113 w115 hS114 H116 hE117
        refine q_append (E := EMo) (k := 2) (l := jL xs ys q) (l2 := ([⟨o.kd, o.a + (xs.length : Nat), o.b + (xs.length : Nat), o.k, o.c, o.pt⟩] : List Mo)) H116 rfl hSl sli22 zer36 rfl byt36 (H116.rd (k := 0) rfl hS114) rfl (by exact (jl_len (by omega)).symm) rfl (by rfl) (by omega) ?_
        intro key118 c119 sp120 w122 hS121 hne124 H123
        have H123' := H123.as (L' := [_, _, _, _, _]) rfl
        clear H123
        refine sA (.slice (ownA key118) ((xs.length + q) + 1) c119) rfl ?_
        refine wnil ?_
        refine blockNormal ?_
        refine thenNormal ?_
        refine oneRegion ?_
        refine sq (r_addI (a := (q : Nat)) (b := (1 : Int)) rfl rfl (by omega)) ?_
        refine sM (i64 ((q : Nat) + (1 : Int))) rfl ?_
        refine wnil ?_
        refine thenNormal ?_
        have e125 : (jL xs ys q) ++ ([⟨o.kd, o.a + (xs.length : Nat), o.b + (xs.length : Nat), o.k, o.c, o.pt⟩] : List Mo) = jL xs ys (q + 1) := by exact jl_succ (by omega) (by rw [← ho]; exact sh_is (by rw [if_neg cj93]) (by rw [if_neg cj101]) (by rw [if_neg (fun x => cj110 ((tld_ge hgo.ok).2 x))]))
        have hS126 := hS121
        rw [e125] at hS126
        have H127 := H123'.as (L' := [((some b113), sob EMo 36 ([⟨o.kd, o.a + (xs.length : Nat), o.b + (xs.length : Nat), o.k, o.c, o.pt⟩] : List Mo) ([])), (rc b58 #[i64 (o.kd), i64 (o.a + (xs.length : Nat)), i64 (o.b + (xs.length : Nat)), i64 (o.k), u64 (o.c), i64 (o.pt)] 36), (key118, sob EMo 36 (jL xs ys (q + 1)) sp120), (re b13 EI ([(65536 : Int), (65536 : Int)]) 29), (re b41 EI ([dlI xs xs.length, (2 : Int)]) 29)]) (by rw [e125])
        exact ⟨(q + 1, key118, c119, sp120), _, rfl, ⟨rfl, rfl, rfl, rfl, rfl, rfl, rfl, rfl, trivial⟩, ⟨⟨by omega, hS126⟩, by rw [dl_t (by rw [← ho]; exact cj118)]; exact ((H127.dropk 1).dropk 0)⟩, by show ys.length - (q + 1) < ys.length - q; omega⟩
       ·refine skipAny ?_
        refine thenNormal ?_
        refine oneRegion ?_
        refine sM z7 rfl ?_
        refine sq (r_loadA (cs' := z10) agg36 siz36 (H72'.get (k := 0) rfl) (off := 0) rfl (by exact bLe rfl) (by rfl)) ?_
        refine q_buildSlice (E := EMo) (l := ([⟨o.kd, o.a + (xs.length : Nat), o.b + (xs.length : Nat), o.k, o.c, o.pt⟩] : List Mo)) H72' sli22 zer36 (bLe rfl) (ps := [(0, .agg z10)]) rfl (by exact fillAll rfl rfl) rfl ?_
        intro b128 w130 hS129 H131 hE132
        refine q_append (E := EMo) (k := 2) (l := jL xs ys q) (l2 := ([⟨o.kd, o.a + (xs.length : Nat), o.b + (xs.length : Nat), o.k, o.c, o.pt⟩] : List Mo)) H131 rfl hSl sli22 zer36 rfl byt36 (H131.rd (k := 0) rfl hS129) rfl (by exact (jl_len (by omega)).symm) rfl (by rfl) (by omega) ?_
        intro key133 c134 sp135 w137 hS136 hne139 H138
        have H138' := H138.as (L' := [_, _, _, _, _]) rfl
        clear H138
        refine sA (.slice (ownA key133) ((xs.length + q) + 1) c134) rfl ?_
        refine wnil ?_
        refine blockNormal ?_
        refine thenNormal ?_
        refine oneRegion ?_
        refine sq (r_addI (a := (q : Nat)) (b := (1 : Int)) rfl rfl (by omega)) ?_
        refine sM (i64 ((q : Nat) + (1 : Int))) rfl ?_
        refine wnil ?_
        refine thenNormal ?_
        have e140 : (jL xs ys q) ++ ([⟨o.kd, o.a + (xs.length : Nat), o.b + (xs.length : Nat), o.k, o.c, o.pt⟩] : List Mo) = jL xs ys (q + 1) := by exact jl_succ (by omega) (by rw [← ho]; exact sh_is (by rw [if_neg cj93]) (by rw [if_neg cj101]) (by rw [if_neg (fun x => cj110 ((tld_ge hgo.ok).2 x))]))
        have hS141 := hS136
        rw [e140] at hS141
        have H142 := H138'.as (L' := [((some b128), sob EMo 36 ([⟨o.kd, o.a + (xs.length : Nat), o.b + (xs.length : Nat), o.k, o.c, o.pt⟩] : List Mo) ([])), (rc b58 #[i64 (o.kd), i64 (o.a + (xs.length : Nat)), i64 (o.b + (xs.length : Nat)), i64 (o.k), u64 (o.c), i64 (o.pt)] 36), (key133, sob EMo 36 (jL xs ys (q + 1)) sp135), (re b13 EI ([(65536 : Int), (65536 : Int)]) 29), (re b41 EI ([dlI xs xs.length, dlI ys q]) 29)]) (by rw [e140])
        exact ⟨(q + 1, key133, c134, sp135), _, rfl, ⟨rfl, rfl, rfl, rfl, rfl, rfl, rfl, rfl, trivial⟩, ⟨⟨by omega, hS141⟩, by rw [dl_f (by rw [← ho]; exact cj118)]; exact ((H142.dropk 1).dropk 0)⟩, by show ys.length - (q + 1) < ys.length - q; omega⟩
     ·refine skipAny ?_
      refine thenNormal ?_
      refine seqAny ?_
      refine sR ?_
      refine sq (r_fieldAddr (off' := 0) fld36_0 (by decide) (b := b58) (off := 0) rfl (by omega)) ?_
      refine sq (r_loadC (v := i64 (o.kd)) one33 (H69'.get (k := 0) rfl) (off := 0) rfl (by rfl)) ?_
      refine sq (r_geqI (a := o.kd) (b := (18 : Int)) rfl rfl) ?_
      refine wend ?_
      refine condProp (((18 : Int) : Int) ≤ o.kd) rfl (fun cj110 => ?_) (fun cj110 => ?_)
      ·have hkt := hgo.told ((tld_ge hgo.ok).1 cj110)
       refine oneRegion ?_
       refine sq (r_fieldAddr (off' := 3) fld36_3 (by decide) (b := b58) (off := 0) rfl (by omega)) ?_
       refine sq (r_loadC (v := i64 (o.k)) one3 (H69'.get (k := 0) rfl) (off := 3) rfl (by rfl)) ?_
       refine sM (iN (cntS fTold xs xs.length)) rfl ?_
       refine sq (r_addI (a := o.k) (b := ((cntS fTold xs xs.length) : Nat)) rfl rfl (by omega)) ?_
       refine sq (r_fieldAddr (off' := 3) fld36_3 (by decide) (b := b58) (off := 0) rfl (by omega)) ?_
       refine d_store (k := 0) (v := i64 (o.k + ((cntS fTold xs xs.length) : Nat))) (cs' := z8) H69' rfl rfl rfl siz3 (by rfl) (by exact EI.one _) (by exact bLe rfl) (by rfl) ?_
       intro w143 H144 hC145
       have H144' := H144.as (L' := [_, _, _, _]) rfl
       clear H144
       refine wnil ?_
       refine thenNormal ?_
       refine seqAny ?_
       refine sR ?_
       refine sq (r_fieldAddr (off' := 0) fld36_0 (by decide) (b := b58) (off := 0) rfl (by omega)) ?_
       refine sq (r_loadC (v := i64 (o.kd)) one33 (H144'.get (k := 0) rfl) (off := 0) rfl (by rfl)) ?_
       refine sq (r_eqlI (a := o.kd) (b := (17 : Int)) rfl rfl) ?_
       refine wend ?_
       refine condProp ((o.kd : Int) = (17 : Int)) rfl (fun cj118 => ?_) (fun cj118 => ?_)
       ·refine oneRegion ?_
        refine sq (r_indexA (off' := 1) (j := 1) arr29 (b := b41) (off := 0) rfl rfl (by first | rfl | omega | (simp; omega)) (by omega) (by omega)) ?_
        refine d_store (k := 3) (v := i64 2) (cs' := (cel EI ([dlI xs xs.length, (2 : Int)])).toArray) H144' rfl rfl rfl siz3 (by rfl) (by exact EI.one _) (by rw [List.size_toArray, cel_length]; show _ ≤ _ * 1; first | omega | (simp only [List.length_set]; omega) | exact bLe rfl | (simp <;> omega)) (by exact put1 (E := EI) rfl _ _ _) ?_
        intro w146 H147 hC148
        have H147' := H147.as (L' := [_, _, _, _]) rfl
        clear H147
        refine wnil ?_
        refine thenNormal ?_
        refine oneRegion ?_
        refine sM z7 rfl ?_
        refine sq (r_loadA (cs' := z8) agg36 siz36 (H147'.get (k := 0) rfl) (off := 0) rfl (by exact bLe rfl) (by rfl)) ?_
        refine q_buildSlice (E := EMo) (l := ([⟨o.kd, o.a + (xs.length : Nat), o.b, o.k + ((cntS fTold xs xs.length) : Nat), o.c, o.pt⟩] : List Mo)) H147' sli22 zer36 (bLe rfl) (ps := [(0, .agg z8)]) rfl (by exact fillAll rfl rfl) rfl ?_
        intro b149 w151 hS150 H152 hE153
        refine q_append (E := EMo) (k := 2) (l := jL xs ys q) (l2 := ([⟨o.kd, o.a + (xs.length : Nat), o.b, o.k + ((cntS fTold xs xs.length) : Nat), o.c, o.pt⟩] : List Mo)) H152 rfl hSl sli22 zer36 rfl byt36 (H152.rd (k := 0) rfl hS150) rfl (by exact (jl_len (by omega)).symm) rfl (by rfl) (by omega) ?_
        intro key154 c155 sp156 w158 hS157 hne160 H159
        have H159' := H159.as (L' := [_, _, _, _, _]) rfl
        clear H159
        refine sA (.slice (ownA key154) ((xs.length + q) + 1) c155) rfl ?_
        refine wnil ?_
        refine blockNormal ?_
        refine thenNormal ?_
        refine oneRegion ?_
        refine sq (r_addI (a := (q : Nat)) (b := (1 : Int)) rfl rfl (by omega)) ?_
        refine sM (i64 ((q : Nat) + (1 : Int))) rfl ?_
        refine wnil ?_
        refine thenNormal ?_
        have e161 : (jL xs ys q) ++ ([⟨o.kd, o.a + (xs.length : Nat), o.b, o.k + ((cntS fTold xs xs.length) : Nat), o.c, o.pt⟩] : List Mo) = jL xs ys (q + 1) := by exact jl_succ (by omega) (by rw [← ho]; exact sh_is (by rw [if_neg cj93]) (by rw [if_pos (Decidable.not_not.1 cj101)]) (by rw [if_pos ((tld_ge hgo.ok).1 cj110)]; rfl))
        have hS162 := hS157
        rw [e161] at hS162
        have H163 := H159'.as (L' := [((some b149), sob EMo 36 ([⟨o.kd, o.a + (xs.length : Nat), o.b, o.k + ((cntS fTold xs xs.length) : Nat), o.c, o.pt⟩] : List Mo) ([])), (rc b58 #[i64 (o.kd), i64 (o.a + (xs.length : Nat)), i64 (o.b), i64 (o.k + ((cntS fTold xs xs.length) : Nat)), u64 (o.c), i64 (o.pt)] 36), (key154, sob EMo 36 (jL xs ys (q + 1)) sp156), (re b13 EI ([(65536 : Int), (65536 : Int)]) 29), (re b41 EI ([dlI xs xs.length, (2 : Int)]) 29)]) (by rw [e161])
        exact ⟨(q + 1, key154, c155, sp156), _, rfl, ⟨rfl, rfl, rfl, rfl, rfl, rfl, rfl, rfl, trivial⟩, ⟨⟨by omega, hS162⟩, by rw [dl_t (by rw [← ho]; exact cj118)]; exact ((H163.dropk 1).dropk 0)⟩, by show ys.length - (q + 1) < ys.length - q; omega⟩
       ·refine skipAny ?_
        refine thenNormal ?_
        refine oneRegion ?_
        refine sM z7 rfl ?_
        refine sq (r_loadA (cs' := z8) agg36 siz36 (H144'.get (k := 0) rfl) (off := 0) rfl (by exact bLe rfl) (by rfl)) ?_
        refine q_buildSlice (E := EMo) (l := ([⟨o.kd, o.a + (xs.length : Nat), o.b, o.k + ((cntS fTold xs xs.length) : Nat), o.c, o.pt⟩] : List Mo)) H144' sli22 zer36 (bLe rfl) (ps := [(0, .agg z8)]) rfl (by exact fillAll rfl rfl) rfl ?_
        intro b164 w166 hS165 H167 hE168
        refine q_append (E := EMo) (k := 2) (l := jL xs ys q) (l2 := ([⟨o.kd, o.a + (xs.length : Nat), o.b, o.k + ((cntS fTold xs xs.length) : Nat), o.c, o.pt⟩] : List Mo)) H167 rfl hSl sli22 zer36 rfl byt36 (H167.rd (k := 0) rfl hS165) rfl (by exact (jl_len (by omega)).symm) rfl (by rfl) (by omega) ?_
        intro key169 c170 sp171 w173 hS172 hne175 H174
        have H174' := H174.as (L' := [_, _, _, _, _]) rfl
        clear H174
        refine sA (.slice (ownA key169) ((xs.length + q) + 1) c170) rfl ?_
        refine wnil ?_
        refine blockNormal ?_
        refine thenNormal ?_
        refine oneRegion ?_
        refine sq (r_addI (a := (q : Nat)) (b := (1 : Int)) rfl rfl (by omega)) ?_
        refine sM (i64 ((q : Nat) + (1 : Int))) rfl ?_
        refine wnil ?_
        refine thenNormal ?_
        have e176 : (jL xs ys q) ++ ([⟨o.kd, o.a + (xs.length : Nat), o.b, o.k + ((cntS fTold xs xs.length) : Nat), o.c, o.pt⟩] : List Mo) = jL xs ys (q + 1) := by exact jl_succ (by omega) (by rw [← ho]; exact sh_is (by rw [if_neg cj93]) (by rw [if_pos (Decidable.not_not.1 cj101)]) (by rw [if_pos ((tld_ge hgo.ok).1 cj110)]; rfl))
        have hS177 := hS172
        rw [e176] at hS177
        have H178 := H174'.as (L' := [((some b164), sob EMo 36 ([⟨o.kd, o.a + (xs.length : Nat), o.b, o.k + ((cntS fTold xs xs.length) : Nat), o.c, o.pt⟩] : List Mo) ([])), (rc b58 #[i64 (o.kd), i64 (o.a + (xs.length : Nat)), i64 (o.b), i64 (o.k + ((cntS fTold xs xs.length) : Nat)), u64 (o.c), i64 (o.pt)] 36), (key169, sob EMo 36 (jL xs ys (q + 1)) sp171), (re b13 EI ([(65536 : Int), (65536 : Int)]) 29), (re b41 EI ([dlI xs xs.length, dlI ys q]) 29)]) (by rw [e176])
        exact ⟨(q + 1, key169, c170, sp171), _, rfl, ⟨rfl, rfl, rfl, rfl, rfl, rfl, rfl, rfl, trivial⟩, ⟨⟨by omega, hS177⟩, by rw [dl_f (by rw [← ho]; exact cj118)]; exact ((H178.dropk 1).dropk 0)⟩, by show ys.length - (q + 1) < ys.length - q; omega⟩
      ·refine skipAny ?_
       refine thenNormal ?_
       refine seqAny ?_
       refine sR ?_
       refine sq (r_fieldAddr (off' := 0) fld36_0 (by decide) (b := b58) (off := 0) rfl (by omega)) ?_
       refine sq (r_loadC (v := i64 (o.kd)) one33 (H69'.get (k := 0) rfl) (off := 0) rfl (by rfl)) ?_
       refine sq (r_eqlI (a := o.kd) (b := (17 : Int)) rfl rfl) ?_
       refine wend ?_
       refine condProp ((o.kd : Int) = (17 : Int)) rfl (fun cj118 => ?_) (fun cj118 => ?_)
       ·refine oneRegion ?_
        refine sq (r_indexA (off' := 1) (j := 1) arr29 (b := b41) (off := 0) rfl rfl (by first | rfl | omega | (simp; omega)) (by omega) (by omega)) ?_
        refine d_store (k := 3) (v := i64 2) (cs' := (cel EI ([dlI xs xs.length, (2 : Int)])).toArray) H69' rfl rfl rfl siz3 (by rfl) (by exact EI.one _) (by rw [List.size_toArray, cel_length]; show _ ≤ _ * 1; first | omega | (simp only [List.length_set]; omega) | exact bLe rfl | (simp <;> omega)) (by exact put1 (E := EI) rfl _ _ _) ?_
        intro w179 H180 hC181
        have H180' := H180.as (L' := [_, _, _, _]) rfl
        clear H180
        refine wnil ?_
        refine thenNormal ?_
        refine oneRegion ?_
        refine sM z7 rfl ?_
        refine sq (r_loadA (cs' := z13) agg36 siz36 (H180'.get (k := 0) rfl) (off := 0) rfl (by exact bLe rfl) (by rfl)) ?_
        refine q_buildSlice (E := EMo) (l := ([⟨o.kd, o.a + (xs.length : Nat), o.b, o.k, o.c, o.pt⟩] : List Mo)) H180' sli22 zer36 (bLe rfl) (ps := [(0, .agg z13)]) rfl (by exact fillAll rfl rfl) rfl ?_
        intro b182 w184 hS183 H185 hE186
        refine q_append (E := EMo) (k := 2) (l := jL xs ys q) (l2 := ([⟨o.kd, o.a + (xs.length : Nat), o.b, o.k, o.c, o.pt⟩] : List Mo)) H185 rfl hSl sli22 zer36 rfl byt36 (H185.rd (k := 0) rfl hS183) rfl (by exact (jl_len (by omega)).symm) rfl (by rfl) (by omega) ?_
        intro key187 c188 sp189 w191 hS190 hne193 H192
        have H192' := H192.as (L' := [_, _, _, _, _]) rfl
        clear H192
        refine sA (.slice (ownA key187) ((xs.length + q) + 1) c188) rfl ?_
        refine wnil ?_
        refine blockNormal ?_
        refine thenNormal ?_
        refine oneRegion ?_
        refine sq (r_addI (a := (q : Nat)) (b := (1 : Int)) rfl rfl (by omega)) ?_
        refine sM (i64 ((q : Nat) + (1 : Int))) rfl ?_
        refine wnil ?_
        refine thenNormal ?_
        have e194 : (jL xs ys q) ++ ([⟨o.kd, o.a + (xs.length : Nat), o.b, o.k, o.c, o.pt⟩] : List Mo) = jL xs ys (q + 1) := by exact jl_succ (by omega) (by rw [← ho]; exact sh_is (by rw [if_neg cj93]) (by rw [if_pos (Decidable.not_not.1 cj101)]) (by rw [if_neg (fun x => cj110 ((tld_ge hgo.ok).2 x))]))
        have hS195 := hS190
        rw [e194] at hS195
        have H196 := H192'.as (L' := [((some b182), sob EMo 36 ([⟨o.kd, o.a + (xs.length : Nat), o.b, o.k, o.c, o.pt⟩] : List Mo) ([])), (rc b58 #[i64 (o.kd), i64 (o.a + (xs.length : Nat)), i64 (o.b), i64 (o.k), u64 (o.c), i64 (o.pt)] 36), (key187, sob EMo 36 (jL xs ys (q + 1)) sp189), (re b13 EI ([(65536 : Int), (65536 : Int)]) 29), (re b41 EI ([dlI xs xs.length, (2 : Int)]) 29)]) (by rw [e194])
        exact ⟨(q + 1, key187, c188, sp189), _, rfl, ⟨rfl, rfl, rfl, rfl, rfl, rfl, rfl, rfl, trivial⟩, ⟨⟨by omega, hS195⟩, by rw [dl_t (by rw [← ho]; exact cj118)]; exact ((H196.dropk 1).dropk 0)⟩, by show ys.length - (q + 1) < ys.length - q; omega⟩
       ·refine skipAny ?_
        refine thenNormal ?_
        refine oneRegion ?_
        refine sM z7 rfl ?_
        refine sq (r_loadA (cs' := z13) agg36 siz36 (H69'.get (k := 0) rfl) (off := 0) rfl (by exact bLe rfl) (by rfl)) ?_
        refine q_buildSlice (E := EMo) (l := ([⟨o.kd, o.a + (xs.length : Nat), o.b, o.k, o.c, o.pt⟩] : List Mo)) H69' sli22 zer36 (bLe rfl) (ps := [(0, .agg z13)]) rfl (by exact fillAll rfl rfl) rfl ?_
        intro b197 w199 hS198 H200 hE201
        refine q_append (E := EMo) (k := 2) (l := jL xs ys q) (l2 := ([⟨o.kd, o.a + (xs.length : Nat), o.b, o.k, o.c, o.pt⟩] : List Mo)) H200 rfl hSl sli22 zer36 rfl byt36 (H200.rd (k := 0) rfl hS198) rfl (by exact (jl_len (by omega)).symm) rfl (by rfl) (by omega) ?_
        intro key202 c203 sp204 w206 hS205 hne208 H207
        have H207' := H207.as (L' := [_, _, _, _, _]) rfl
        clear H207
        refine sA (.slice (ownA key202) ((xs.length + q) + 1) c203) rfl ?_
        refine wnil ?_
        refine blockNormal ?_
        refine thenNormal ?_
        refine oneRegion ?_
        refine sq (r_addI (a := (q : Nat)) (b := (1 : Int)) rfl rfl (by omega)) ?_
        refine sM (i64 ((q : Nat) + (1 : Int))) rfl ?_
        refine wnil ?_
        refine thenNormal ?_
        have e209 : (jL xs ys q) ++ ([⟨o.kd, o.a + (xs.length : Nat), o.b, o.k, o.c, o.pt⟩] : List Mo) = jL xs ys (q + 1) := by exact jl_succ (by omega) (by rw [← ho]; exact sh_is (by rw [if_neg cj93]) (by rw [if_pos (Decidable.not_not.1 cj101)]) (by rw [if_neg (fun x => cj110 ((tld_ge hgo.ok).2 x))]))
        have hS210 := hS205
        rw [e209] at hS210
        have H211 := H207'.as (L' := [((some b197), sob EMo 36 ([⟨o.kd, o.a + (xs.length : Nat), o.b, o.k, o.c, o.pt⟩] : List Mo) ([])), (rc b58 #[i64 (o.kd), i64 (o.a + (xs.length : Nat)), i64 (o.b), i64 (o.k), u64 (o.c), i64 (o.pt)] 36), (key202, sob EMo 36 (jL xs ys (q + 1)) sp204), (re b13 EI ([(65536 : Int), (65536 : Int)]) 29), (re b41 EI ([dlI xs xs.length, dlI ys q]) 29)]) (by rw [e209])
        exact ⟨(q + 1, key202, c203, sp204), _, rfl, ⟨rfl, rfl, rfl, rfl, rfl, rfl, rfl, rfl, trivial⟩, ⟨⟨by omega, hS210⟩, by rw [dl_f (by rw [← ho]; exact cj118)]; exact ((H211.dropk 1).dropk 0)⟩, by show ys.length - (q + 1) < ys.length - q; omega⟩
    ·refine skipAny ?_
     refine thenNormal ?_
     refine seqAny ?_
     refine sR ?_
     refine sM (i64 ((ruleS o 65536 65536).1.b)) rfl ?_
     refine sq (r_neqI (a := (ruleS o 65536 65536).1.b) (b := (0 : Int)) rfl rfl) ?_
     refine wend ?_
     refine condProp (((ruleS o 65536 65536).1.b : Int) ≠ (0 : Int)) rfl (fun cj101 => ?_) (fun cj101 => ?_)
     ·refine oneRegion ?_
      refine sq (r_fieldAddr (off' := 2) fld36_2 (by decide) (b := b58) (off := 0) rfl (by omega)) ?_
      refine sq (r_loadC (v := i64 (o.b)) one3 (H67.get (k := 0) rfl) (off := 2) rfl (by rfl)) ?_
      refine sM z2 rfl ?_
      refine sq (r_lenS sli22 (a := xa) (m := xs.length) (c := xc) rfl) ?_
      refine sq (r_addI (a := o.b) (b := (xs.length : Nat)) rfl rfl (by omega)) ?_
      refine sq (r_fieldAddr (off' := 2) fld36_2 (by decide) (b := b58) (off := 0) rfl (by omega)) ?_
      refine d_store (k := 0) (v := i64 (o.b + (xs.length : Nat))) (cs' := z16) H67 rfl rfl rfl siz3 (by rfl) (by exact EI.one _) (by exact bLe rfl) (by rfl) ?_
      intro w212 H213 hC214
      have H213' := H213.as (L' := [_, _, _, _]) rfl
      clear H213
      refine wnil ?_
      refine thenNormal ?_
      refine seqAny ?_
      refine sR ?_
      refine sq (r_fieldAddr (off' := 0) fld36_0 (by decide) (b := b58) (off := 0) rfl (by omega)) ?_
      refine sq (r_loadC (v := i64 (o.kd)) one33 (H213'.get (k := 0) rfl) (off := 0) rfl (by rfl)) ?_
      refine sq (r_geqI (a := o.kd) (b := (18 : Int)) rfl rfl) ?_
      refine wend ?_
      refine condProp (((18 : Int) : Int) ≤ o.kd) rfl (fun cj110 => ?_) (fun cj110 => ?_)
      ·have hkt := hgo.told ((tld_ge hgo.ok).1 cj110)
       refine oneRegion ?_
       refine sq (r_fieldAddr (off' := 3) fld36_3 (by decide) (b := b58) (off := 0) rfl (by omega)) ?_
       refine sq (r_loadC (v := i64 (o.k)) one3 (H213'.get (k := 0) rfl) (off := 3) rfl (by rfl)) ?_
       refine sM (iN (cntS fTold xs xs.length)) rfl ?_
       refine sq (r_addI (a := o.k) (b := ((cntS fTold xs xs.length) : Nat)) rfl rfl (by omega)) ?_
       refine sq (r_fieldAddr (off' := 3) fld36_3 (by decide) (b := b58) (off := 0) rfl (by omega)) ?_
       refine d_store (k := 0) (v := i64 (o.k + ((cntS fTold xs xs.length) : Nat))) (cs' := z11) H213' rfl rfl rfl siz3 (by rfl) (by exact EI.one _) (by exact bLe rfl) (by rfl) ?_
       intro w215 H216 hC217
       have H216' := H216.as (L' := [_, _, _, _]) rfl
       clear H216
       refine wnil ?_
       refine thenNormal ?_
       refine seqAny ?_
       refine sR ?_
       refine sq (r_fieldAddr (off' := 0) fld36_0 (by decide) (b := b58) (off := 0) rfl (by omega)) ?_
       refine sq (r_loadC (v := i64 (o.kd)) one33 (H216'.get (k := 0) rfl) (off := 0) rfl (by rfl)) ?_
       refine sq (r_eqlI (a := o.kd) (b := (17 : Int)) rfl rfl) ?_
       refine wend ?_
       refine condProp ((o.kd : Int) = (17 : Int)) rfl (fun cj118 => ?_) (fun cj118 => ?_)
       ·refine oneRegion ?_
        refine sq (r_indexA (off' := 1) (j := 1) arr29 (b := b41) (off := 0) rfl rfl (by first | rfl | omega | (simp; omega)) (by omega) (by omega)) ?_
        refine d_store (k := 3) (v := i64 2) (cs' := (cel EI ([dlI xs xs.length, (2 : Int)])).toArray) H216' rfl rfl rfl siz3 (by rfl) (by exact EI.one _) (by rw [List.size_toArray, cel_length]; show _ ≤ _ * 1; first | omega | (simp only [List.length_set]; omega) | exact bLe rfl | (simp <;> omega)) (by exact put1 (E := EI) rfl _ _ _) ?_
        intro w218 H219 hC220
        have H219' := H219.as (L' := [_, _, _, _]) rfl
        clear H219
        refine wnil ?_
        refine thenNormal ?_
        refine oneRegion ?_
        refine sM z7 rfl ?_
        refine sq (r_loadA (cs' := z11) agg36 siz36 (H219'.get (k := 0) rfl) (off := 0) rfl (by exact bLe rfl) (by rfl)) ?_
        refine q_buildSlice (E := EMo) (l := ([⟨o.kd, o.a, o.b + (xs.length : Nat), o.k + ((cntS fTold xs xs.length) : Nat), o.c, o.pt⟩] : List Mo)) H219' sli22 zer36 (bLe rfl) (ps := [(0, .agg z11)]) rfl (by exact fillAll rfl rfl) rfl ?_
        intro b221 w223 hS222 H224 hE225
        refine q_append (E := EMo) (k := 2) (l := jL xs ys q) (l2 := ([⟨o.kd, o.a, o.b + (xs.length : Nat), o.k + ((cntS fTold xs xs.length) : Nat), o.c, o.pt⟩] : List Mo)) H224 rfl hSl sli22 zer36 rfl byt36 (H224.rd (k := 0) rfl hS222) rfl (by exact (jl_len (by omega)).symm) rfl (by rfl) (by omega) ?_
        intro key226 c227 sp228 w230 hS229 hne232 H231
        have H231' := H231.as (L' := [_, _, _, _, _]) rfl
        clear H231
        refine sA (.slice (ownA key226) ((xs.length + q) + 1) c227) rfl ?_
        refine wnil ?_
        refine blockNormal ?_
        refine thenNormal ?_
        refine oneRegion ?_
        refine sq (r_addI (a := (q : Nat)) (b := (1 : Int)) rfl rfl (by omega)) ?_
        refine sM (i64 ((q : Nat) + (1 : Int))) rfl ?_
        refine wnil ?_
        refine thenNormal ?_
        have e233 : (jL xs ys q) ++ ([⟨o.kd, o.a, o.b + (xs.length : Nat), o.k + ((cntS fTold xs xs.length) : Nat), o.c, o.pt⟩] : List Mo) = jL xs ys (q + 1) := by exact jl_succ (by omega) (by rw [← ho]; exact sh_is (by rw [if_pos (Decidable.not_not.1 cj93)]) (by rw [if_neg cj101]) (by rw [if_pos ((tld_ge hgo.ok).1 cj110)]; rfl))
        have hS234 := hS229
        rw [e233] at hS234
        have H235 := H231'.as (L' := [((some b221), sob EMo 36 ([⟨o.kd, o.a, o.b + (xs.length : Nat), o.k + ((cntS fTold xs xs.length) : Nat), o.c, o.pt⟩] : List Mo) ([])), (rc b58 #[i64 (o.kd), i64 (o.a), i64 (o.b + (xs.length : Nat)), i64 (o.k + ((cntS fTold xs xs.length) : Nat)), u64 (o.c), i64 (o.pt)] 36), (key226, sob EMo 36 (jL xs ys (q + 1)) sp228), (re b13 EI ([(65536 : Int), (65536 : Int)]) 29), (re b41 EI ([dlI xs xs.length, (2 : Int)]) 29)]) (by rw [e233])
        exact ⟨(q + 1, key226, c227, sp228), _, rfl, ⟨rfl, rfl, rfl, rfl, rfl, rfl, rfl, rfl, trivial⟩, ⟨⟨by omega, hS234⟩, by rw [dl_t (by rw [← ho]; exact cj118)]; exact ((H235.dropk 1).dropk 0)⟩, by show ys.length - (q + 1) < ys.length - q; omega⟩
       ·refine skipAny ?_
        refine thenNormal ?_
        refine oneRegion ?_
        refine sM z7 rfl ?_
        refine sq (r_loadA (cs' := z11) agg36 siz36 (H216'.get (k := 0) rfl) (off := 0) rfl (by exact bLe rfl) (by rfl)) ?_
        refine q_buildSlice (E := EMo) (l := ([⟨o.kd, o.a, o.b + (xs.length : Nat), o.k + ((cntS fTold xs xs.length) : Nat), o.c, o.pt⟩] : List Mo)) H216' sli22 zer36 (bLe rfl) (ps := [(0, .agg z11)]) rfl (by exact fillAll rfl rfl) rfl ?_
        intro b236 w238 hS237 H239 hE240
        refine q_append (E := EMo) (k := 2) (l := jL xs ys q) (l2 := ([⟨o.kd, o.a, o.b + (xs.length : Nat), o.k + ((cntS fTold xs xs.length) : Nat), o.c, o.pt⟩] : List Mo)) H239 rfl hSl sli22 zer36 rfl byt36 (H239.rd (k := 0) rfl hS237) rfl (by exact (jl_len (by omega)).symm) rfl (by rfl) (by omega) ?_
        intro key241 c242 sp243 w245 hS244 hne247 H246
        have H246' := H246.as (L' := [_, _, _, _, _]) rfl
        clear H246
        refine sA (.slice (ownA key241) ((xs.length + q) + 1) c242) rfl ?_
        refine wnil ?_
        refine blockNormal ?_
        refine thenNormal ?_
        refine oneRegion ?_
        refine sq (r_addI (a := (q : Nat)) (b := (1 : Int)) rfl rfl (by omega)) ?_
        refine sM (i64 ((q : Nat) + (1 : Int))) rfl ?_
        refine wnil ?_
        refine thenNormal ?_
        have e248 : (jL xs ys q) ++ ([⟨o.kd, o.a, o.b + (xs.length : Nat), o.k + ((cntS fTold xs xs.length) : Nat), o.c, o.pt⟩] : List Mo) = jL xs ys (q + 1) := by exact jl_succ (by omega) (by rw [← ho]; exact sh_is (by rw [if_pos (Decidable.not_not.1 cj93)]) (by rw [if_neg cj101]) (by rw [if_pos ((tld_ge hgo.ok).1 cj110)]; rfl))
        have hS249 := hS244
        rw [e248] at hS249
        have H250 := H246'.as (L' := [((some b236), sob EMo 36 ([⟨o.kd, o.a, o.b + (xs.length : Nat), o.k + ((cntS fTold xs xs.length) : Nat), o.c, o.pt⟩] : List Mo) ([])), (rc b58 #[i64 (o.kd), i64 (o.a), i64 (o.b + (xs.length : Nat)), i64 (o.k + ((cntS fTold xs xs.length) : Nat)), u64 (o.c), i64 (o.pt)] 36), (key241, sob EMo 36 (jL xs ys (q + 1)) sp243), (re b13 EI ([(65536 : Int), (65536 : Int)]) 29), (re b41 EI ([dlI xs xs.length, dlI ys q]) 29)]) (by rw [e248])
        exact ⟨(q + 1, key241, c242, sp243), _, rfl, ⟨rfl, rfl, rfl, rfl, rfl, rfl, rfl, rfl, trivial⟩, ⟨⟨by omega, hS249⟩, by rw [dl_f (by rw [← ho]; exact cj118)]; exact ((H250.dropk 1).dropk 0)⟩, by show ys.length - (q + 1) < ys.length - q; omega⟩
      ·refine skipAny ?_
       refine thenNormal ?_
       refine seqAny ?_
       refine sR ?_
       refine sq (r_fieldAddr (off' := 0) fld36_0 (by decide) (b := b58) (off := 0) rfl (by omega)) ?_
       refine sq (r_loadC (v := i64 (o.kd)) one33 (H213'.get (k := 0) rfl) (off := 0) rfl (by rfl)) ?_
       refine sq (r_eqlI (a := o.kd) (b := (17 : Int)) rfl rfl) ?_
       refine wend ?_
       refine condProp ((o.kd : Int) = (17 : Int)) rfl (fun cj118 => ?_) (fun cj118 => ?_)
       ·refine oneRegion ?_
        refine sq (r_indexA (off' := 1) (j := 1) arr29 (b := b41) (off := 0) rfl rfl (by first | rfl | omega | (simp; omega)) (by omega) (by omega)) ?_
        refine d_store (k := 3) (v := i64 2) (cs' := (cel EI ([dlI xs xs.length, (2 : Int)])).toArray) H213' rfl rfl rfl siz3 (by rfl) (by exact EI.one _) (by rw [List.size_toArray, cel_length]; show _ ≤ _ * 1; first | omega | (simp only [List.length_set]; omega) | exact bLe rfl | (simp <;> omega)) (by exact put1 (E := EI) rfl _ _ _) ?_
        intro w251 H252 hC253
        have H252' := H252.as (L' := [_, _, _, _]) rfl
        clear H252
        refine wnil ?_
        refine thenNormal ?_
        refine oneRegion ?_
        refine sM z7 rfl ?_
        refine sq (r_loadA (cs' := z16) agg36 siz36 (H252'.get (k := 0) rfl) (off := 0) rfl (by exact bLe rfl) (by rfl)) ?_
        refine q_buildSlice (E := EMo) (l := ([⟨o.kd, o.a, o.b + (xs.length : Nat), o.k, o.c, o.pt⟩] : List Mo)) H252' sli22 zer36 (bLe rfl) (ps := [(0, .agg z16)]) rfl (by exact fillAll rfl rfl) rfl ?_
        intro b254 w256 hS255 H257 hE258
        refine q_append (E := EMo) (k := 2) (l := jL xs ys q) (l2 := ([⟨o.kd, o.a, o.b + (xs.length : Nat), o.k, o.c, o.pt⟩] : List Mo)) H257 rfl hSl sli22 zer36 rfl byt36 (H257.rd (k := 0) rfl hS255) rfl (by exact (jl_len (by omega)).symm) rfl (by rfl) (by omega) ?_
        intro key259 c260 sp261 w263 hS262 hne265 H264
        have H264' := H264.as (L' := [_, _, _, _, _]) rfl
        clear H264
        refine sA (.slice (ownA key259) ((xs.length + q) + 1) c260) rfl ?_
        refine wnil ?_
        refine blockNormal ?_
        refine thenNormal ?_
        refine oneRegion ?_
        refine sq (r_addI (a := (q : Nat)) (b := (1 : Int)) rfl rfl (by omega)) ?_
        refine sM (i64 ((q : Nat) + (1 : Int))) rfl ?_
        refine wnil ?_
        refine thenNormal ?_
        have e266 : (jL xs ys q) ++ ([⟨o.kd, o.a, o.b + (xs.length : Nat), o.k, o.c, o.pt⟩] : List Mo) = jL xs ys (q + 1) := by exact jl_succ (by omega) (by rw [← ho]; exact sh_is (by rw [if_pos (Decidable.not_not.1 cj93)]) (by rw [if_neg cj101]) (by rw [if_neg (fun x => cj110 ((tld_ge hgo.ok).2 x))]))
        have hS267 := hS262
        rw [e266] at hS267
        have H268 := H264'.as (L' := [((some b254), sob EMo 36 ([⟨o.kd, o.a, o.b + (xs.length : Nat), o.k, o.c, o.pt⟩] : List Mo) ([])), (rc b58 #[i64 (o.kd), i64 (o.a), i64 (o.b + (xs.length : Nat)), i64 (o.k), u64 (o.c), i64 (o.pt)] 36), (key259, sob EMo 36 (jL xs ys (q + 1)) sp261), (re b13 EI ([(65536 : Int), (65536 : Int)]) 29), (re b41 EI ([dlI xs xs.length, (2 : Int)]) 29)]) (by rw [e266])
        exact ⟨(q + 1, key259, c260, sp261), _, rfl, ⟨rfl, rfl, rfl, rfl, rfl, rfl, rfl, rfl, trivial⟩, ⟨⟨by omega, hS267⟩, by rw [dl_t (by rw [← ho]; exact cj118)]; exact ((H268.dropk 1).dropk 0)⟩, by show ys.length - (q + 1) < ys.length - q; omega⟩
       ·refine skipAny ?_
        refine thenNormal ?_
        refine oneRegion ?_
        refine sM z7 rfl ?_
        refine sq (r_loadA (cs' := z16) agg36 siz36 (H213'.get (k := 0) rfl) (off := 0) rfl (by exact bLe rfl) (by rfl)) ?_
        refine q_buildSlice (E := EMo) (l := ([⟨o.kd, o.a, o.b + (xs.length : Nat), o.k, o.c, o.pt⟩] : List Mo)) H213' sli22 zer36 (bLe rfl) (ps := [(0, .agg z16)]) rfl (by exact fillAll rfl rfl) rfl ?_
        intro b269 w271 hS270 H272 hE273
        refine q_append (E := EMo) (k := 2) (l := jL xs ys q) (l2 := ([⟨o.kd, o.a, o.b + (xs.length : Nat), o.k, o.c, o.pt⟩] : List Mo)) H272 rfl hSl sli22 zer36 rfl byt36 (H272.rd (k := 0) rfl hS270) rfl (by exact (jl_len (by omega)).symm) rfl (by rfl) (by omega) ?_
        intro key274 c275 sp276 w278 hS277 hne280 H279
        have H279' := H279.as (L' := [_, _, _, _, _]) rfl
        clear H279
        refine sA (.slice (ownA key274) ((xs.length + q) + 1) c275) rfl ?_
        refine wnil ?_
        refine blockNormal ?_
        refine thenNormal ?_
        refine oneRegion ?_
        refine sq (r_addI (a := (q : Nat)) (b := (1 : Int)) rfl rfl (by omega)) ?_
        refine sM (i64 ((q : Nat) + (1 : Int))) rfl ?_
        refine wnil ?_
        refine thenNormal ?_
        have e281 : (jL xs ys q) ++ ([⟨o.kd, o.a, o.b + (xs.length : Nat), o.k, o.c, o.pt⟩] : List Mo) = jL xs ys (q + 1) := by exact jl_succ (by omega) (by rw [← ho]; exact sh_is (by rw [if_pos (Decidable.not_not.1 cj93)]) (by rw [if_neg cj101]) (by rw [if_neg (fun x => cj110 ((tld_ge hgo.ok).2 x))]))
        have hS282 := hS277
        rw [e281] at hS282
        have H283 := H279'.as (L' := [((some b269), sob EMo 36 ([⟨o.kd, o.a, o.b + (xs.length : Nat), o.k, o.c, o.pt⟩] : List Mo) ([])), (rc b58 #[i64 (o.kd), i64 (o.a), i64 (o.b + (xs.length : Nat)), i64 (o.k), u64 (o.c), i64 (o.pt)] 36), (key274, sob EMo 36 (jL xs ys (q + 1)) sp276), (re b13 EI ([(65536 : Int), (65536 : Int)]) 29), (re b41 EI ([dlI xs xs.length, dlI ys q]) 29)]) (by rw [e281])
        exact ⟨(q + 1, key274, c275, sp276), _, rfl, ⟨rfl, rfl, rfl, rfl, rfl, rfl, rfl, rfl, trivial⟩, ⟨⟨by omega, hS282⟩, by rw [dl_f (by rw [← ho]; exact cj118)]; exact ((H283.dropk 1).dropk 0)⟩, by show ys.length - (q + 1) < ys.length - q; omega⟩
     ·refine skipAny ?_
      refine thenNormal ?_
      refine seqAny ?_
      refine sR ?_
      refine sq (r_fieldAddr (off' := 0) fld36_0 (by decide) (b := b58) (off := 0) rfl (by omega)) ?_
      refine sq (r_loadC (v := i64 (o.kd)) one33 (H67.get (k := 0) rfl) (off := 0) rfl (by rfl)) ?_
      refine sq (r_geqI (a := o.kd) (b := (18 : Int)) rfl rfl) ?_
      refine wend ?_
      refine condProp (((18 : Int) : Int) ≤ o.kd) rfl (fun cj110 => ?_) (fun cj110 => ?_)
      ·have hkt := hgo.told ((tld_ge hgo.ok).1 cj110)
       refine oneRegion ?_
       refine sq (r_fieldAddr (off' := 3) fld36_3 (by decide) (b := b58) (off := 0) rfl (by omega)) ?_
       refine sq (r_loadC (v := i64 (o.k)) one3 (H67.get (k := 0) rfl) (off := 3) rfl (by rfl)) ?_
       refine sM (iN (cntS fTold xs xs.length)) rfl ?_
       refine sq (r_addI (a := o.k) (b := ((cntS fTold xs xs.length) : Nat)) rfl rfl (by omega)) ?_
       refine sq (r_fieldAddr (off' := 3) fld36_3 (by decide) (b := b58) (off := 0) rfl (by omega)) ?_
       refine d_store (k := 0) (v := i64 (o.k + ((cntS fTold xs xs.length) : Nat))) (cs' := z14) H67 rfl rfl rfl siz3 (by rfl) (by exact EI.one _) (by exact bLe rfl) (by rfl) ?_
       intro w284 H285 hC286
       have H285' := H285.as (L' := [_, _, _, _]) rfl
       clear H285
       refine wnil ?_
       refine thenNormal ?_
       refine seqAny ?_
       refine sR ?_
       refine sq (r_fieldAddr (off' := 0) fld36_0 (by decide) (b := b58) (off := 0) rfl (by omega)) ?_
       refine sq (r_loadC (v := i64 (o.kd)) one33 (H285'.get (k := 0) rfl) (off := 0) rfl (by rfl)) ?_
       refine sq (r_eqlI (a := o.kd) (b := (17 : Int)) rfl rfl) ?_
       refine wend ?_
       refine condProp ((o.kd : Int) = (17 : Int)) rfl (fun cj118 => ?_) (fun cj118 => ?_)
       ·refine oneRegion ?_
        refine sq (r_indexA (off' := 1) (j := 1) arr29 (b := b41) (off := 0) rfl rfl (by first | rfl | omega | (simp; omega)) (by omega) (by omega)) ?_
        refine d_store (k := 3) (v := i64 2) (cs' := (cel EI ([dlI xs xs.length, (2 : Int)])).toArray) H285' rfl rfl rfl siz3 (by rfl) (by exact EI.one _) (by rw [List.size_toArray, cel_length]; show _ ≤ _ * 1; first | omega | (simp only [List.length_set]; omega) | exact bLe rfl | (simp <;> omega)) (by exact put1 (E := EI) rfl _ _ _) ?_
        intro w287 H288 hC289
        have H288' := H288.as (L' := [_, _, _, _]) rfl
        clear H288
        refine wnil ?_
        refine thenNormal ?_
        refine oneRegion ?_
        refine sM z7 rfl ?_
        refine sq (r_loadA (cs' := z14) agg36 siz36 (H288'.get (k := 0) rfl) (off := 0) rfl (by exact bLe rfl) (by rfl)) ?_
        refine q_buildSlice (E := EMo) (l := ([⟨o.kd, o.a, o.b, o.k + ((cntS fTold xs xs.length) : Nat), o.c, o.pt⟩] : List Mo)) H288' sli22 zer36 (bLe rfl) (ps := [(0, .agg z14)]) rfl (by exact fillAll rfl rfl) rfl ?_
        intro b290 w292 hS291 H293 hE294
        refine q_append (E := EMo) (k := 2) (l := jL xs ys q) (l2 := ([⟨o.kd, o.a, o.b, o.k + ((cntS fTold xs xs.length) : Nat), o.c, o.pt⟩] : List Mo)) H293 rfl hSl sli22 zer36 rfl byt36 (H293.rd (k := 0) rfl hS291) rfl (by exact (jl_len (by omega)).symm) rfl (by rfl) (by omega) ?_
        intro key295 c296 sp297 w299 hS298 hne301 H300
        have H300' := H300.as (L' := [_, _, _, _, _]) rfl
        clear H300
        refine sA (.slice (ownA key295) ((xs.length + q) + 1) c296) rfl ?_
        refine wnil ?_
        refine blockNormal ?_
        refine thenNormal ?_
        refine oneRegion ?_
        refine sq (r_addI (a := (q : Nat)) (b := (1 : Int)) rfl rfl (by omega)) ?_
        refine sM (i64 ((q : Nat) + (1 : Int))) rfl ?_
        refine wnil ?_
        refine thenNormal ?_
        have e302 : (jL xs ys q) ++ ([⟨o.kd, o.a, o.b, o.k + ((cntS fTold xs xs.length) : Nat), o.c, o.pt⟩] : List Mo) = jL xs ys (q + 1) := by exact jl_succ (by omega) (by rw [← ho]; exact sh_is (by rw [if_pos (Decidable.not_not.1 cj93)]) (by rw [if_pos (Decidable.not_not.1 cj101)]) (by rw [if_pos ((tld_ge hgo.ok).1 cj110)]; rfl))
        have hS303 := hS298
        rw [e302] at hS303
        have H304 := H300'.as (L' := [((some b290), sob EMo 36 ([⟨o.kd, o.a, o.b, o.k + ((cntS fTold xs xs.length) : Nat), o.c, o.pt⟩] : List Mo) ([])), (rc b58 #[i64 (o.kd), i64 (o.a), i64 (o.b), i64 (o.k + ((cntS fTold xs xs.length) : Nat)), u64 (o.c), i64 (o.pt)] 36), (key295, sob EMo 36 (jL xs ys (q + 1)) sp297), (re b13 EI ([(65536 : Int), (65536 : Int)]) 29), (re b41 EI ([dlI xs xs.length, (2 : Int)]) 29)]) (by rw [e302])
        exact ⟨(q + 1, key295, c296, sp297), _, rfl, ⟨rfl, rfl, rfl, rfl, rfl, rfl, rfl, rfl, trivial⟩, ⟨⟨by omega, hS303⟩, by rw [dl_t (by rw [← ho]; exact cj118)]; exact ((H304.dropk 1).dropk 0)⟩, by show ys.length - (q + 1) < ys.length - q; omega⟩
       ·refine skipAny ?_
        refine thenNormal ?_
        refine oneRegion ?_
        refine sM z7 rfl ?_
        refine sq (r_loadA (cs' := z14) agg36 siz36 (H285'.get (k := 0) rfl) (off := 0) rfl (by exact bLe rfl) (by rfl)) ?_
        refine q_buildSlice (E := EMo) (l := ([⟨o.kd, o.a, o.b, o.k + ((cntS fTold xs xs.length) : Nat), o.c, o.pt⟩] : List Mo)) H285' sli22 zer36 (bLe rfl) (ps := [(0, .agg z14)]) rfl (by exact fillAll rfl rfl) rfl ?_
        intro b305 w307 hS306 H308 hE309
        refine q_append (E := EMo) (k := 2) (l := jL xs ys q) (l2 := ([⟨o.kd, o.a, o.b, o.k + ((cntS fTold xs xs.length) : Nat), o.c, o.pt⟩] : List Mo)) H308 rfl hSl sli22 zer36 rfl byt36 (H308.rd (k := 0) rfl hS306) rfl (by exact (jl_len (by omega)).symm) rfl (by rfl) (by omega) ?_
        intro key310 c311 sp312 w314 hS313 hne316 H315
        have H315' := H315.as (L' := [_, _, _, _, _]) rfl
        clear H315
        refine sA (.slice (ownA key310) ((xs.length + q) + 1) c311) rfl ?_
        refine wnil ?_
        refine blockNormal ?_
        refine thenNormal ?_
        refine oneRegion ?_
        refine sq (r_addI (a := (q : Nat)) (b := (1 : Int)) rfl rfl (by omega)) ?_
        refine sM (i64 ((q : Nat) + (1 : Int))) rfl ?_
        refine wnil ?_
        refine thenNormal ?_
        have e317 : (jL xs ys q) ++ ([⟨o.kd, o.a, o.b, o.k + ((cntS fTold xs xs.length) : Nat), o.c, o.pt⟩] : List Mo) = jL xs ys (q + 1) := by exact jl_succ (by omega) (by rw [← ho]; exact sh_is (by rw [if_pos (Decidable.not_not.1 cj93)]) (by rw [if_pos (Decidable.not_not.1 cj101)]) (by rw [if_pos ((tld_ge hgo.ok).1 cj110)]; rfl))
        have hS318 := hS313
        rw [e317] at hS318
        have H319 := H315'.as (L' := [((some b305), sob EMo 36 ([⟨o.kd, o.a, o.b, o.k + ((cntS fTold xs xs.length) : Nat), o.c, o.pt⟩] : List Mo) ([])), (rc b58 #[i64 (o.kd), i64 (o.a), i64 (o.b), i64 (o.k + ((cntS fTold xs xs.length) : Nat)), u64 (o.c), i64 (o.pt)] 36), (key310, sob EMo 36 (jL xs ys (q + 1)) sp312), (re b13 EI ([(65536 : Int), (65536 : Int)]) 29), (re b41 EI ([dlI xs xs.length, dlI ys q]) 29)]) (by rw [e317])
        exact ⟨(q + 1, key310, c311, sp312), _, rfl, ⟨rfl, rfl, rfl, rfl, rfl, rfl, rfl, rfl, trivial⟩, ⟨⟨by omega, hS318⟩, by rw [dl_f (by rw [← ho]; exact cj118)]; exact ((H319.dropk 1).dropk 0)⟩, by show ys.length - (q + 1) < ys.length - q; omega⟩
      ·refine skipAny ?_
       refine thenNormal ?_
       refine seqAny ?_
       refine sR ?_
       refine sq (r_fieldAddr (off' := 0) fld36_0 (by decide) (b := b58) (off := 0) rfl (by omega)) ?_
       refine sq (r_loadC (v := i64 (o.kd)) one33 (H67.get (k := 0) rfl) (off := 0) rfl (by rfl)) ?_
       refine sq (r_eqlI (a := o.kd) (b := (17 : Int)) rfl rfl) ?_
       refine wend ?_
       refine condProp ((o.kd : Int) = (17 : Int)) rfl (fun cj118 => ?_) (fun cj118 => ?_)
       ·refine oneRegion ?_
        refine sq (r_indexA (off' := 1) (j := 1) arr29 (b := b41) (off := 0) rfl rfl (by first | rfl | omega | (simp; omega)) (by omega) (by omega)) ?_
        refine d_store (k := 3) (v := i64 2) (cs' := (cel EI ([dlI xs xs.length, (2 : Int)])).toArray) H67 rfl rfl rfl siz3 (by rfl) (by exact EI.one _) (by rw [List.size_toArray, cel_length]; show _ ≤ _ * 1; first | omega | (simp only [List.length_set]; omega) | exact bLe rfl | (simp <;> omega)) (by exact put1 (E := EI) rfl _ _ _) ?_
        intro w320 H321 hC322
        have H321' := H321.as (L' := [_, _, _, _]) rfl
        clear H321
        refine wnil ?_
        refine thenNormal ?_
        refine oneRegion ?_
        refine sM z7 rfl ?_
        refine sq (r_loadA (cs' := z18) agg36 siz36 (H321'.get (k := 0) rfl) (off := 0) rfl (by exact bLe rfl) (by rfl)) ?_
        refine q_buildSlice (E := EMo) (l := ([⟨o.kd, o.a, o.b, o.k, o.c, o.pt⟩] : List Mo)) H321' sli22 zer36 (bLe rfl) (ps := [(0, .agg z18)]) rfl (by exact fillAll rfl rfl) rfl ?_
        intro b323 w325 hS324 H326 hE327
        refine q_append (E := EMo) (k := 2) (l := jL xs ys q) (l2 := ([⟨o.kd, o.a, o.b, o.k, o.c, o.pt⟩] : List Mo)) H326 rfl hSl sli22 zer36 rfl byt36 (H326.rd (k := 0) rfl hS324) rfl (by exact (jl_len (by omega)).symm) rfl (by rfl) (by omega) ?_
        intro key328 c329 sp330 w332 hS331 hne334 H333
        have H333' := H333.as (L' := [_, _, _, _, _]) rfl
        clear H333
        refine sA (.slice (ownA key328) ((xs.length + q) + 1) c329) rfl ?_
        refine wnil ?_
        refine blockNormal ?_
        refine thenNormal ?_
        refine oneRegion ?_
        refine sq (r_addI (a := (q : Nat)) (b := (1 : Int)) rfl rfl (by omega)) ?_
        refine sM (i64 ((q : Nat) + (1 : Int))) rfl ?_
        refine wnil ?_
        refine thenNormal ?_
        have e335 : (jL xs ys q) ++ ([⟨o.kd, o.a, o.b, o.k, o.c, o.pt⟩] : List Mo) = jL xs ys (q + 1) := by exact jl_succ (by omega) (by rw [← ho]; exact sh_is (by rw [if_pos (Decidable.not_not.1 cj93)]) (by rw [if_pos (Decidable.not_not.1 cj101)]) (by rw [if_neg (fun x => cj110 ((tld_ge hgo.ok).2 x))]))
        have hS336 := hS331
        rw [e335] at hS336
        have H337 := H333'.as (L' := [((some b323), sob EMo 36 ([⟨o.kd, o.a, o.b, o.k, o.c, o.pt⟩] : List Mo) ([])), (rc b58 #[i64 (o.kd), i64 (o.a), i64 (o.b), i64 (o.k), u64 (o.c), i64 (o.pt)] 36), (key328, sob EMo 36 (jL xs ys (q + 1)) sp330), (re b13 EI ([(65536 : Int), (65536 : Int)]) 29), (re b41 EI ([dlI xs xs.length, (2 : Int)]) 29)]) (by rw [e335])
        exact ⟨(q + 1, key328, c329, sp330), _, rfl, ⟨rfl, rfl, rfl, rfl, rfl, rfl, rfl, rfl, trivial⟩, ⟨⟨by omega, hS336⟩, by rw [dl_t (by rw [← ho]; exact cj118)]; exact ((H337.dropk 1).dropk 0)⟩, by show ys.length - (q + 1) < ys.length - q; omega⟩
       ·refine skipAny ?_
        refine thenNormal ?_
        refine oneRegion ?_
        refine sM z7 rfl ?_
        refine sq (r_loadA (cs' := z18) agg36 siz36 (H67.get (k := 0) rfl) (off := 0) rfl (by exact bLe rfl) (by rfl)) ?_
        refine q_buildSlice (E := EMo) (l := ([⟨o.kd, o.a, o.b, o.k, o.c, o.pt⟩] : List Mo)) H67 sli22 zer36 (bLe rfl) (ps := [(0, .agg z18)]) rfl (by exact fillAll rfl rfl) rfl ?_
        intro b338 w340 hS339 H341 hE342
        refine q_append (E := EMo) (k := 2) (l := jL xs ys q) (l2 := ([⟨o.kd, o.a, o.b, o.k, o.c, o.pt⟩] : List Mo)) H341 rfl hSl sli22 zer36 rfl byt36 (H341.rd (k := 0) rfl hS339) rfl (by exact (jl_len (by omega)).symm) rfl (by rfl) (by omega) ?_
        intro key343 c344 sp345 w347 hS346 hne349 H348
        have H348' := H348.as (L' := [_, _, _, _, _]) rfl
        clear H348
        refine sA (.slice (ownA key343) ((xs.length + q) + 1) c344) rfl ?_
        refine wnil ?_
        refine blockNormal ?_
        refine thenNormal ?_
        refine oneRegion ?_
        refine sq (r_addI (a := (q : Nat)) (b := (1 : Int)) rfl rfl (by omega)) ?_
        refine sM (i64 ((q : Nat) + (1 : Int))) rfl ?_
        refine wnil ?_
        refine thenNormal ?_
        have e350 : (jL xs ys q) ++ ([⟨o.kd, o.a, o.b, o.k, o.c, o.pt⟩] : List Mo) = jL xs ys (q + 1) := by exact jl_succ (by omega) (by rw [← ho]; exact sh_is (by rw [if_pos (Decidable.not_not.1 cj93)]) (by rw [if_pos (Decidable.not_not.1 cj101)]) (by rw [if_neg (fun x => cj110 ((tld_ge hgo.ok).2 x))]))
        have hS351 := hS346
        rw [e350] at hS351
        have H352 := H348'.as (L' := [((some b338), sob EMo 36 ([⟨o.kd, o.a, o.b, o.k, o.c, o.pt⟩] : List Mo) ([])), (rc b58 #[i64 (o.kd), i64 (o.a), i64 (o.b), i64 (o.k), u64 (o.c), i64 (o.pt)] 36), (key343, sob EMo 36 (jL xs ys (q + 1)) sp345), (re b13 EI ([(65536 : Int), (65536 : Int)]) 29), (re b41 EI ([dlI xs xs.length, dlI ys q]) 29)]) (by rw [e350])
        exact ⟨(q + 1, key343, c344, sp345), _, rfl, ⟨rfl, rfl, rfl, rfl, rfl, rfl, rfl, rfl, trivial⟩, ⟨⟨by omega, hS351⟩, by rw [dl_f (by rw [← ho]; exact cj118)]; exact ((H352.dropk 1).dropk 0)⟩, by show ys.length - (q + 1) < ys.length - q; omega⟩
   ·have hie : q = ys.length := by omega
    subst hie
    have e353 : jL xs ys ys.length = joinM xs ys := by exact jl_end xs ys
    have hS354 := hSl
    rw [e353] at hS354
    have H355 := HL.as (L' := [(kl, sob EMo 36 (joinM xs ys) sl), (re b13 EI ([(65536 : Int), (65536 : Int)]) 29), (re b41 EI ([dlI xs xs.length, dlI ys ys.length]) 29)]) (by rw [e353])
    have hgl : Good (joinM xs ys) 65536 65536 := good_join hga hgb (by omega)
    have hj1 : nA (joinM xs ys) = nA xs + nA ys := cnt_join fun _ _ _ => rfl
    have hj2 : nB (joinM xs ys) = nB xs + nB ys := cnt_join fun _ _ _ => rfl
    have hj3 : nO (joinM xs ys) = nO xs + nO ys := cnt_join fun _ _ _ => shM_fO
    have hj4 : nR (joinM xs ys) = max (nR xs) (nR ys) := rounds_join hgb
    have hj5 : nW0 (joinM xs ys) = nW0 xs + nW0 ys := cnt_join fun _ _ _ => shM_fW0
    have hj6 : nW1 (joinM xs ys) = nW1 xs + nW1 ys := cnt_join fun _ _ _ => shM_fW1
    have hj7 : nT1 (joinM xs ys) = nT1 xs + nT1 ys := cnt_join fun _ _ _ => rfl
    have hj8 := nT0_join (a := xs) (b := ys)
    have hd1 := dl_dlt xs
    have hd2 := dl_dlt ys
    obtain ⟨x1, x2, x3, x4, x5, x6, x7, x8, x9⟩ := nLe xs
    obtain ⟨y1, y2, y3, y4, y5, y6, y7, y8, y9⟩ := nLe ys
    refine exitAny ?_
    refine thenExit ?_
    refine thenExit ?_
    refine blockHere ?_
    refine thenNormal ?_
    refine sR ?_
    refine sM z2 rfl ?_
    refine c_call (vs := [.slice xa xs.length xc]) call15 rfl (need_ok xs xa xc w56 (Chg.gl H355.chg (fun x => x) hG) (hX.ext H355.chg) (by omega) hga) ?_
    rintro _ w356 ⟨rfl, hE357⟩
    have H358 := H355.ext hE357
    refine sM (.slice ya ys.length yc) rfl ?_
    refine c_call (vs := [.slice ya ys.length yc]) call15 rfl (need_ok ys ya yc w356 (Chg.gl H358.chg (fun x => x) hG) (hY.ext H358.chg) (by omega) hgb) ?_
    rintro _ w359 ⟨rfl, hE360⟩
    have H361 := H358.ext hE360
    refine sM (.slice (ownA kl) (xs.length + ys.length) cl) rfl ?_
    refine c_call (vs := [.slice (ownA kl) (xs.length + ys.length) cl]) call15 rfl ((by have h := need_ok (joinM xs ys) (ownA kl) cl w359 (Chg.gl H361.chg (fun x => x) hG) (H361.rd (k := 0) rfl hS354) (by rw [join_len]; omega) hgl; rw [join_len] at h; exact h)) ?_
    rintro _ w362 ⟨rfl, hE363⟩
    have H364 := H361.ext hE363
    refine q_alloc (o := .cells z12 57 (0, 0)) H364 zer57 (by kernel_rfl) ?_
    intro b365 w366 hb365 H367 hE368
    refine q_alloc (o := .cells z12 57 (0, 0)) H367 zer57 (by kernel_rfl) ?_
    intro b369 w370 hb369 H371 hE372
    refine q_alloc (o := .cells z12 57 (0, 0)) H371 zer57 (by kernel_rfl) ?_
    intro b373 w374 hb373 H375 hE376
    refine d_store (k := 2) (v := .agg z15) (cs' := z15) H375 rfl rfl rfl siz57 (by rfl) (oneL rfl) (by exact bLe rfl) (by rfl) ?_
    intro w377 H378 hC379
    have H378' := H378.as (L' := [_, _, _, _, _, _]) rfl
    clear H378
    refine d_store (k := 1) (v := .agg z17) (cs' := z17) H378' rfl rfl rfl siz57 (by rfl) (oneL rfl) (by exact bLe rfl) (by rfl) ?_
    intro w380 H381 hC382
    have H381' := H381.as (L' := [_, _, _, _, _, _]) rfl
    clear H381
    refine d_store (k := 0) (v := .agg z6) (cs' := z6) H381' rfl rfl rfl siz57 (by rfl) (oneL rfl) (by exact bLe rfl) (by rfl) ?_
    intro w383 H384 hC385
    have H384' := H384.as (L' := [_, _, _, _, _, _]) rfl
    clear H384
    refine wS ?_
    refine sM (.slice (ownA kl) (xs.length + ys.length) cl) rfl ?_
    refine sq (r_loadA (cs' := (cel EI ([(65536 : Int), (65536 : Int)])).toArray) agg29 siz29 (H384'.get (k := 4) rfl) (off := 0) rfl (by exact bLe rfl) (by exact ext_all rfl)) ?_
    refine c_call (vs := [.slice (ownA kl) (xs.length + ys.length) cl, z9]) call8 rfl (mcheck_yes (joinM xs ys) (ownA kl) cl (65536 : Int) (65536 : Int) (xs.length + ys.length) (by exact join_len.symm) w383 (Chg.gl H384'.chg (fun x => x) hG) (H384'.rd (k := 3) rfl hS354) (by rw [join_len]; omega) hgl) ?_
    rintro _ w386 ⟨rfl, hE387⟩
    have H388 := H384'.ext hE387
    refine sq ((r_eqlNN isI31 rfl rfl).as (v' := .bool true) (by rfl)) ?_
    refine sM (.bool true) rfl ?_
    refine sqAny (v := pT b373) (w' := w386) (wantedSome (d' := 135) (b := true) rfl rfl rfl) (r_fieldAddr (off' := 0) fld57_0 (by decide) (b := b373) (off := 0) rfl (by omega)) ?_
    refine sqAny (v := iN (nA (joinM xs ys))) (w' := w386) (wantedSome (d' := 135) (b := true) rfl rfl rfl) (r_loadC (v := iN (nA (joinM xs ys))) one3 (H388.get (k := 0) rfl) (off := 0) rfl (by rfl)) ?_
    refine sqAny (v := pT b365) (w' := w386) (wantedSome (d' := 135) (b := true) rfl rfl rfl) (r_fieldAddr (off' := 0) fld57_0 (by decide) (b := b365) (off := 0) rfl (by omega)) ?_
    refine sqAny (v := iN (nA xs)) (w' := w386) (wantedSome (d' := 135) (b := true) rfl rfl rfl) (r_loadC (v := iN (nA xs)) one3 (H388.get (k := 2) rfl) (off := 0) rfl (by rfl)) ?_
    refine sqAny (v := pT b369) (w' := w386) (wantedSome (d' := 135) (b := true) rfl rfl rfl) (r_fieldAddr (off' := 0) fld57_0 (by decide) (b := b369) (off := 0) rfl (by omega)) ?_
    refine sqAny (v := iN (nA ys)) (w' := w386) (wantedSome (d' := 135) (b := true) rfl rfl rfl) (r_loadC (v := iN (nA ys)) one3 (H388.get (k := 1) rfl) (off := 0) rfl (by rfl)) ?_
    refine sqAny (v := i64 ((nA xs : Nat) + (nA ys : Nat))) (w' := w386) (wantedSome (d' := 135) (b := true) rfl rfl rfl) (r_addI (a := (nA xs : Nat)) (b := (nA ys : Nat)) rfl rfl (by omega)) ?_
    refine sqAny (v := .bool true) (w' := w386) (wantedSome (d' := 135) (b := true) rfl rfl rfl) ((r_eqlI (a := (nA (joinM xs ys) : Nat)) (b := (nA xs : Nat) + (nA ys : Nat)) rfl rfl).as (v' := .bool true) (by exact congrArg Value.bool (decide_eq_true (by omega)))) ?_
    refine sq (r_pickT (u := .bool true) rfl rfl) ?_
    refine sM (.bool true) rfl ?_
    refine sqAny (v := .pointer (some ⟨b373, 1, none⟩)) (w' := w386) (wantedSome (d' := 145) (b := true) rfl rfl rfl) (r_fieldAddr (off' := 1) fld57_1 (by decide) (b := b373) (off := 0) rfl (by omega)) ?_
    refine sqAny (v := iN (nB (joinM xs ys))) (w' := w386) (wantedSome (d' := 145) (b := true) rfl rfl rfl) (r_loadC (v := iN (nB (joinM xs ys))) one3 (H388.get (k := 0) rfl) (off := 1) rfl (by rfl)) ?_
    refine sqAny (v := .pointer (some ⟨b365, 1, none⟩)) (w' := w386) (wantedSome (d' := 145) (b := true) rfl rfl rfl) (r_fieldAddr (off' := 1) fld57_1 (by decide) (b := b365) (off := 0) rfl (by omega)) ?_
    refine sqAny (v := iN (nB xs)) (w' := w386) (wantedSome (d' := 145) (b := true) rfl rfl rfl) (r_loadC (v := iN (nB xs)) one3 (H388.get (k := 2) rfl) (off := 1) rfl (by rfl)) ?_
    refine sqAny (v := .pointer (some ⟨b369, 1, none⟩)) (w' := w386) (wantedSome (d' := 145) (b := true) rfl rfl rfl) (r_fieldAddr (off' := 1) fld57_1 (by decide) (b := b369) (off := 0) rfl (by omega)) ?_
    refine sqAny (v := iN (nB ys)) (w' := w386) (wantedSome (d' := 145) (b := true) rfl rfl rfl) (r_loadC (v := iN (nB ys)) one3 (H388.get (k := 1) rfl) (off := 1) rfl (by rfl)) ?_
    refine sqAny (v := i64 ((nB xs : Nat) + (nB ys : Nat))) (w' := w386) (wantedSome (d' := 145) (b := true) rfl rfl rfl) (r_addI (a := (nB xs : Nat)) (b := (nB ys : Nat)) rfl rfl (by omega)) ?_
    refine sqAny (v := .bool true) (w' := w386) (wantedSome (d' := 145) (b := true) rfl rfl rfl) ((r_eqlI (a := (nB (joinM xs ys) : Nat)) (b := (nB xs : Nat) + (nB ys : Nat)) rfl rfl).as (v' := .bool true) (by exact congrArg Value.bool (decide_eq_true (by omega)))) ?_
    refine sq (r_pickT (u := .bool true) rfl rfl) ?_
    refine sM (.bool true) rfl ?_
    refine sqAny (v := .pointer (some ⟨b373, 2, none⟩)) (w' := w386) (wantedSome (d' := 155) (b := true) rfl rfl rfl) (r_fieldAddr (off' := 2) fld57_2 (by decide) (b := b373) (off := 0) rfl (by omega)) ?_
    refine sqAny (v := iN (nO (joinM xs ys))) (w' := w386) (wantedSome (d' := 155) (b := true) rfl rfl rfl) (r_loadC (v := iN (nO (joinM xs ys))) one3 (H388.get (k := 0) rfl) (off := 2) rfl (by rfl)) ?_
    refine sqAny (v := .pointer (some ⟨b365, 2, none⟩)) (w' := w386) (wantedSome (d' := 155) (b := true) rfl rfl rfl) (r_fieldAddr (off' := 2) fld57_2 (by decide) (b := b365) (off := 0) rfl (by omega)) ?_
    refine sqAny (v := iN (nO xs)) (w' := w386) (wantedSome (d' := 155) (b := true) rfl rfl rfl) (r_loadC (v := iN (nO xs)) one3 (H388.get (k := 2) rfl) (off := 2) rfl (by rfl)) ?_
    refine sqAny (v := .pointer (some ⟨b369, 2, none⟩)) (w' := w386) (wantedSome (d' := 155) (b := true) rfl rfl rfl) (r_fieldAddr (off' := 2) fld57_2 (by decide) (b := b369) (off := 0) rfl (by omega)) ?_
    refine sqAny (v := iN (nO ys)) (w' := w386) (wantedSome (d' := 155) (b := true) rfl rfl rfl) (r_loadC (v := iN (nO ys)) one3 (H388.get (k := 1) rfl) (off := 2) rfl (by rfl)) ?_
    refine sqAny (v := i64 ((nO xs : Nat) + (nO ys : Nat))) (w' := w386) (wantedSome (d' := 155) (b := true) rfl rfl rfl) (r_addI (a := (nO xs : Nat)) (b := (nO ys : Nat)) rfl rfl (by omega)) ?_
    refine sqAny (v := .bool true) (w' := w386) (wantedSome (d' := 155) (b := true) rfl rfl rfl) ((r_eqlI (a := (nO (joinM xs ys) : Nat)) (b := (nO xs : Nat) + (nO ys : Nat)) rfl rfl).as (v' := .bool true) (by exact congrArg Value.bool (decide_eq_true (by omega)))) ?_
    refine sq (r_pickT (u := .bool true) rfl rfl) ?_
    refine sM (.bool true) rfl ?_
    refine sqAny (v := .pointer (some ⟨b373, 5, none⟩)) (w' := w386) (wantedSome (d' := 165) (b := true) rfl rfl rfl) (r_fieldAddr (off' := 5) fld57_4 (by decide) (b := b373) (off := 0) rfl (by omega)) ?_
    refine sqAny (v := i64 (nR (joinM xs ys))) (w' := w386) (wantedSome (d' := 165) (b := true) rfl rfl rfl) (r_loadC (v := i64 (nR (joinM xs ys))) one3 (H388.get (k := 0) rfl) (off := 5) rfl (by rfl)) ?_
    refine sqAny (v := .pointer (some ⟨b365, 5, none⟩)) (w' := w386) (wantedSome (d' := 165) (b := true) rfl rfl rfl) (r_fieldAddr (off' := 5) fld57_4 (by decide) (b := b365) (off := 0) rfl (by omega)) ?_
    refine sqAny (v := i64 (nR xs)) (w' := w386) (wantedSome (d' := 165) (b := true) rfl rfl rfl) (r_loadC (v := i64 (nR xs)) one3 (H388.get (k := 2) rfl) (off := 5) rfl (by rfl)) ?_
    refine sqAny (v := .pointer (some ⟨b369, 5, none⟩)) (w' := w386) (wantedSome (d' := 165) (b := true) rfl rfl rfl) (r_fieldAddr (off' := 5) fld57_4 (by decide) (b := b369) (off := 0) rfl (by omega)) ?_
    refine sqAny (v := i64 (nR ys)) (w' := w386) (wantedSome (d' := 165) (b := true) rfl rfl rfl) (r_loadC (v := i64 (nR ys)) one3 (H388.get (k := 1) rfl) (off := 5) rfl (by rfl)) ?_
    refine sqAny (v := i64 (max (nR xs) (nR ys))) (w' := w386) (wantedSome (d' := 165) (b := true) rfl rfl rfl) (r_maxI (a := nR xs) (b := nR ys) rfl rfl) ?_
    refine sqAny (v := .bool true) (w' := w386) (wantedSome (d' := 165) (b := true) rfl rfl rfl) ((r_eqlI (a := nR (joinM xs ys)) (b := max (nR xs) (nR ys)) rfl rfl).as (v' := .bool true) (by exact congrArg Value.bool (decide_eq_true (by omega)))) ?_
    refine sq (r_pickT (u := .bool true) rfl rfl) ?_
    refine sM (.bool true) rfl ?_
    refine sqAny (v := .pointer (some ⟨b373, 6, none⟩)) (w' := w386) (wantedSome (d' := 175) (b := true) rfl rfl rfl) (r_fieldAddr (off' := 6) fld57_5 (by decide) (b := b373) (off := 0) rfl (by omega)) ?_
    refine sqAny (v := .pointer (some ⟨b373, 6, none⟩)) (w' := w386) (wantedSome (d' := 175) (b := true) rfl rfl rfl) (r_indexA (off' := 6) (j := 0) arr29 (b := b373) (off := 6) rfl rfl (by first | rfl | omega | (simp; omega)) (by omega) (by omega)) ?_
    refine sqAny (v := iN (nW0 (joinM xs ys))) (w' := w386) (wantedSome (d' := 175) (b := true) rfl rfl rfl) (r_loadC (v := iN (nW0 (joinM xs ys))) one3 (H388.get (k := 0) rfl) (off := 6) rfl (by rfl)) ?_
    refine sqAny (v := .pointer (some ⟨b365, 6, none⟩)) (w' := w386) (wantedSome (d' := 175) (b := true) rfl rfl rfl) (r_fieldAddr (off' := 6) fld57_5 (by decide) (b := b365) (off := 0) rfl (by omega)) ?_
    refine sqAny (v := .pointer (some ⟨b365, 6, none⟩)) (w' := w386) (wantedSome (d' := 175) (b := true) rfl rfl rfl) (r_indexA (off' := 6) (j := 0) arr29 (b := b365) (off := 6) rfl rfl (by first | rfl | omega | (simp; omega)) (by omega) (by omega)) ?_
    refine sqAny (v := iN (nW0 xs)) (w' := w386) (wantedSome (d' := 175) (b := true) rfl rfl rfl) (r_loadC (v := iN (nW0 xs)) one3 (H388.get (k := 2) rfl) (off := 6) rfl (by rfl)) ?_
    refine sqAny (v := .pointer (some ⟨b369, 6, none⟩)) (w' := w386) (wantedSome (d' := 175) (b := true) rfl rfl rfl) (r_fieldAddr (off' := 6) fld57_5 (by decide) (b := b369) (off := 0) rfl (by omega)) ?_
    refine sqAny (v := .pointer (some ⟨b369, 6, none⟩)) (w' := w386) (wantedSome (d' := 175) (b := true) rfl rfl rfl) (r_indexA (off' := 6) (j := 0) arr29 (b := b369) (off := 6) rfl rfl (by first | rfl | omega | (simp; omega)) (by omega) (by omega)) ?_
    refine sqAny (v := iN (nW0 ys)) (w' := w386) (wantedSome (d' := 175) (b := true) rfl rfl rfl) (r_loadC (v := iN (nW0 ys)) one3 (H388.get (k := 1) rfl) (off := 6) rfl (by rfl)) ?_
    refine sqAny (v := i64 ((nW0 xs : Nat) + (nW0 ys : Nat))) (w' := w386) (wantedSome (d' := 175) (b := true) rfl rfl rfl) (r_addI (a := (nW0 xs : Nat)) (b := (nW0 ys : Nat)) rfl rfl (by omega)) ?_
    refine sqAny (v := .bool true) (w' := w386) (wantedSome (d' := 175) (b := true) rfl rfl rfl) ((r_eqlI (a := (nW0 (joinM xs ys) : Nat)) (b := (nW0 xs : Nat) + (nW0 ys : Nat)) rfl rfl).as (v' := .bool true) (by exact congrArg Value.bool (decide_eq_true (by omega)))) ?_
    refine sq (r_pickT (u := .bool true) rfl rfl) ?_
    refine sM (.bool true) rfl ?_
    refine sqAny (v := .pointer (some ⟨b373, 6, none⟩)) (w' := w386) (wantedSome (d' := 188) (b := true) rfl rfl rfl) (r_fieldAddr (off' := 6) fld57_5 (by decide) (b := b373) (off := 0) rfl (by omega)) ?_
    refine sqAny (v := .pointer (some ⟨b373, 7, none⟩)) (w' := w386) (wantedSome (d' := 188) (b := true) rfl rfl rfl) (r_indexA (off' := 7) (j := 1) arr29 (b := b373) (off := 6) rfl rfl (by first | rfl | omega | (simp; omega)) (by omega) (by omega)) ?_
    refine sqAny (v := iN (nW1 (joinM xs ys))) (w' := w386) (wantedSome (d' := 188) (b := true) rfl rfl rfl) (r_loadC (v := iN (nW1 (joinM xs ys))) one3 (H388.get (k := 0) rfl) (off := 7) rfl (by rfl)) ?_
    refine sqAny (v := .pointer (some ⟨b365, 6, none⟩)) (w' := w386) (wantedSome (d' := 188) (b := true) rfl rfl rfl) (r_fieldAddr (off' := 6) fld57_5 (by decide) (b := b365) (off := 0) rfl (by omega)) ?_
    refine sqAny (v := .pointer (some ⟨b365, 7, none⟩)) (w' := w386) (wantedSome (d' := 188) (b := true) rfl rfl rfl) (r_indexA (off' := 7) (j := 1) arr29 (b := b365) (off := 6) rfl rfl (by first | rfl | omega | (simp; omega)) (by omega) (by omega)) ?_
    refine sqAny (v := iN (nW1 xs)) (w' := w386) (wantedSome (d' := 188) (b := true) rfl rfl rfl) (r_loadC (v := iN (nW1 xs)) one3 (H388.get (k := 2) rfl) (off := 7) rfl (by rfl)) ?_
    refine sqAny (v := .pointer (some ⟨b369, 6, none⟩)) (w' := w386) (wantedSome (d' := 188) (b := true) rfl rfl rfl) (r_fieldAddr (off' := 6) fld57_5 (by decide) (b := b369) (off := 0) rfl (by omega)) ?_
    refine sqAny (v := .pointer (some ⟨b369, 7, none⟩)) (w' := w386) (wantedSome (d' := 188) (b := true) rfl rfl rfl) (r_indexA (off' := 7) (j := 1) arr29 (b := b369) (off := 6) rfl rfl (by first | rfl | omega | (simp; omega)) (by omega) (by omega)) ?_
    refine sqAny (v := iN (nW1 ys)) (w' := w386) (wantedSome (d' := 188) (b := true) rfl rfl rfl) (r_loadC (v := iN (nW1 ys)) one3 (H388.get (k := 1) rfl) (off := 7) rfl (by rfl)) ?_
    refine sqAny (v := i64 ((nW1 xs : Nat) + (nW1 ys : Nat))) (w' := w386) (wantedSome (d' := 188) (b := true) rfl rfl rfl) (r_addI (a := (nW1 xs : Nat)) (b := (nW1 ys : Nat)) rfl rfl (by omega)) ?_
    refine sqAny (v := .bool true) (w' := w386) (wantedSome (d' := 188) (b := true) rfl rfl rfl) ((r_eqlI (a := (nW1 (joinM xs ys) : Nat)) (b := (nW1 xs : Nat) + (nW1 ys : Nat)) rfl rfl).as (v' := .bool true) (by exact congrArg Value.bool (decide_eq_true (by omega)))) ?_
    refine sq (r_pickT (u := .bool true) rfl rfl) ?_
    refine sM (.bool true) rfl ?_
    refine sqAny (v := .pointer (some ⟨b373, 3, none⟩)) (w' := w386) (wantedSome (d' := 201) (b := true) rfl rfl rfl) (r_fieldAddr (off' := 3) fld57_3 (by decide) (b := b373) (off := 0) rfl (by omega)) ?_
    refine sqAny (v := .pointer (some ⟨b373, 4, none⟩)) (w' := w386) (wantedSome (d' := 201) (b := true) rfl rfl rfl) (r_indexA (off' := 4) (j := 1) arr29 (b := b373) (off := 3) rfl rfl (by first | rfl | omega | (simp; omega)) (by omega) (by omega)) ?_
    refine sqAny (v := iN (nT1 (joinM xs ys))) (w' := w386) (wantedSome (d' := 201) (b := true) rfl rfl rfl) (r_loadC (v := iN (nT1 (joinM xs ys))) one3 (H388.get (k := 0) rfl) (off := 4) rfl (by rfl)) ?_
    refine sqAny (v := .pointer (some ⟨b365, 3, none⟩)) (w' := w386) (wantedSome (d' := 201) (b := true) rfl rfl rfl) (r_fieldAddr (off' := 3) fld57_3 (by decide) (b := b365) (off := 0) rfl (by omega)) ?_
    refine sqAny (v := .pointer (some ⟨b365, 4, none⟩)) (w' := w386) (wantedSome (d' := 201) (b := true) rfl rfl rfl) (r_indexA (off' := 4) (j := 1) arr29 (b := b365) (off := 3) rfl rfl (by first | rfl | omega | (simp; omega)) (by omega) (by omega)) ?_
    refine sqAny (v := iN (nT1 xs)) (w' := w386) (wantedSome (d' := 201) (b := true) rfl rfl rfl) (r_loadC (v := iN (nT1 xs)) one3 (H388.get (k := 2) rfl) (off := 4) rfl (by rfl)) ?_
    refine sqAny (v := .pointer (some ⟨b369, 3, none⟩)) (w' := w386) (wantedSome (d' := 201) (b := true) rfl rfl rfl) (r_fieldAddr (off' := 3) fld57_3 (by decide) (b := b369) (off := 0) rfl (by omega)) ?_
    refine sqAny (v := .pointer (some ⟨b369, 4, none⟩)) (w' := w386) (wantedSome (d' := 201) (b := true) rfl rfl rfl) (r_indexA (off' := 4) (j := 1) arr29 (b := b369) (off := 3) rfl rfl (by first | rfl | omega | (simp; omega)) (by omega) (by omega)) ?_
    refine sqAny (v := iN (nT1 ys)) (w' := w386) (wantedSome (d' := 201) (b := true) rfl rfl rfl) (r_loadC (v := iN (nT1 ys)) one3 (H388.get (k := 1) rfl) (off := 4) rfl (by rfl)) ?_
    refine sqAny (v := i64 ((nT1 xs : Nat) + (nT1 ys : Nat))) (w' := w386) (wantedSome (d' := 201) (b := true) rfl rfl rfl) (r_addI (a := (nT1 xs : Nat)) (b := (nT1 ys : Nat)) rfl rfl (by omega)) ?_
    refine sqAny (v := .bool true) (w' := w386) (wantedSome (d' := 201) (b := true) rfl rfl rfl) ((r_eqlI (a := (nT1 (joinM xs ys) : Nat)) (b := (nT1 xs : Nat) + (nT1 ys : Nat)) rfl rfl).as (v' := .bool true) (by exact congrArg Value.bool (decide_eq_true (by omega)))) ?_
    refine sq (r_pickT (u := .bool true) rfl rfl) ?_
    refine sM (.bool true) rfl ?_
    refine sqAny (v := .pointer (some ⟨b373, 3, none⟩)) (w' := w386) (wantedSome (d' := 214) (b := true) rfl rfl rfl) (r_fieldAddr (off' := 3) fld57_3 (by decide) (b := b373) (off := 0) rfl (by omega)) ?_
    refine sqAny (v := .pointer (some ⟨b373, 3, none⟩)) (w' := w386) (wantedSome (d' := 214) (b := true) rfl rfl rfl) (r_indexA (off' := 3) (j := 0) arr29 (b := b373) (off := 3) rfl rfl (by first | rfl | omega | (simp; omega)) (by omega) (by omega)) ?_
    refine sqAny (v := iN (nT0 (joinM xs ys))) (w' := w386) (wantedSome (d' := 214) (b := true) rfl rfl rfl) (r_loadC (v := iN (nT0 (joinM xs ys))) one3 (H388.get (k := 0) rfl) (off := 3) rfl (by rfl)) ?_
    refine sqAny (v := .pointer (some ⟨b365, 3, none⟩)) (w' := w386) (wantedSome (d' := 214) (b := true) rfl rfl rfl) (r_fieldAddr (off' := 3) fld57_3 (by decide) (b := b365) (off := 0) rfl (by omega)) ?_
    refine sqAny (v := .pointer (some ⟨b365, 3, none⟩)) (w' := w386) (wantedSome (d' := 214) (b := true) rfl rfl rfl) (r_indexA (off' := 3) (j := 0) arr29 (b := b365) (off := 3) rfl rfl (by first | rfl | omega | (simp; omega)) (by omega) (by omega)) ?_
    refine sqAny (v := iN (nT0 xs)) (w' := w386) (wantedSome (d' := 214) (b := true) rfl rfl rfl) (r_loadC (v := iN (nT0 xs)) one3 (H388.get (k := 2) rfl) (off := 3) rfl (by rfl)) ?_
    refine sqAny (v := .pointer (some ⟨b369, 3, none⟩)) (w' := w386) (wantedSome (d' := 214) (b := true) rfl rfl rfl) (r_fieldAddr (off' := 3) fld57_3 (by decide) (b := b369) (off := 0) rfl (by omega)) ?_
    refine sqAny (v := .pointer (some ⟨b369, 3, none⟩)) (w' := w386) (wantedSome (d' := 214) (b := true) rfl rfl rfl) (r_indexA (off' := 3) (j := 0) arr29 (b := b369) (off := 3) rfl rfl (by first | rfl | omega | (simp; omega)) (by omega) (by omega)) ?_
    refine sqAny (v := iN (nT0 ys)) (w' := w386) (wantedSome (d' := 214) (b := true) rfl rfl rfl) (r_loadC (v := iN (nT0 ys)) one3 (H388.get (k := 1) rfl) (off := 3) rfl (by rfl)) ?_
    refine sqAny (v := i64 ((nT0 xs : Nat) + (nT0 ys : Nat))) (w' := w386) (wantedSome (d' := 214) (b := true) rfl rfl rfl) (r_addI (a := (nT0 xs : Nat)) (b := (nT0 ys : Nat)) rfl rfl (by omega)) ?_
    refine sqAny (v := pT b41) (w' := w386) (wantedSome (d' := 214) (b := true) rfl rfl rfl) (r_indexA (off' := 0) (j := 0) arr29 (b := b41) (off := 0) rfl rfl (by first | rfl | omega | (simp; omega)) (by omega) (by omega)) ?_
    refine sqAny (v := i64 (dlI xs xs.length)) (w' := w386) (wantedSome (d' := 214) (b := true) rfl rfl rfl) (r_ld1 (E := EI) (l := [dlI xs xs.length, dlI ys ys.length]) (j := 0) (a := dlI xs xs.length) fits3 (H388.get (k := 5) rfl) (by rfl) rfl rfl) ?_
    refine sqAny (v := .pointer (some ⟨b41, 1, none⟩)) (w' := w386) (wantedSome (d' := 214) (b := true) rfl rfl rfl) (r_indexA (off' := 1) (j := 1) arr29 (b := b41) (off := 0) rfl rfl (by first | rfl | omega | (simp; omega)) (by omega) (by omega)) ?_
    refine sqAny (v := i64 (dlI ys ys.length)) (w' := w386) (wantedSome (d' := 214) (b := true) rfl rfl rfl) (r_ld1 (E := EI) (l := [dlI xs xs.length, dlI ys ys.length]) (j := 1) (a := dlI ys ys.length) fits3 (H388.get (k := 5) rfl) (by rfl) rfl rfl) ?_
    refine sqAny (v := i64 (min (dlI xs xs.length) (dlI ys ys.length))) (w' := w386) (wantedSome (d' := 214) (b := true) rfl rfl rfl) (r_minI (a := dlI xs xs.length) (b := dlI ys ys.length) rfl rfl) ?_
    refine sqAny (v := i64 (((nT0 xs : Nat) + (nT0 ys : Nat)) - (min (dlI xs xs.length) (dlI ys ys.length)))) (w' := w386) (wantedSome (d' := 214) (b := true) rfl rfl rfl) (r_subI (a := (nT0 xs : Nat) + (nT0 ys : Nat)) (b := min (dlI xs xs.length) (dlI ys ys.length)) rfl rfl (by omega)) ?_
    refine sqAny (v := .bool true) (w' := w386) (wantedSome (d' := 214) (b := true) rfl rfl rfl) ((r_eqlI (a := (nT0 (joinM xs ys) : Nat)) (b := ((nT0 xs : Nat) + (nT0 ys : Nat)) - (min (dlI xs xs.length) (dlI ys ys.length))) rfl rfl).as (v' := .bool true) (by exact congrArg Value.bool (decide_eq_true (by omega)))) ?_
    refine sq (r_pickT (u := .bool true) rfl rfl) ?_
    refine sA (.bool true) rfl ?_
    refine wend ?_
    refine retAny ?_
    refine rG1 4 (.bool true) rfl ⟨rfl, rfl⟩ ?_
    exact ⟨_, rfl, rfl, H388.chg⟩
theorem mjoin_all (xs ys : List Mo) (xa ya : Option Addr) (xc yc : Nat) (w : World) (hG : Gl w) (hX : Rd EMo w xa xs) (hY : Rd EMo w ya ys) (hxl : xs.length ≤ 140737488355328) (hyl : ys.length ≤ 140737488355328) : Calls Tryz.prog 4 [.slice xa xs.length xc, .slice ya ys.length yc].toArray w (Ret fun v w' => v = .bool true ∧ Ext w w') := by
 by_cases hga : Good xs 65536 65536
 ·by_cases hgb : Good ys 65536 65536
  ·exact mjoin_ok xs ys xa ya xc yc w hG hX hY hxl hyl hga hgb
  ·exact mjoin_nb xs ys xa ya xc yc w hG hX hY hxl hyl hga hgb
 ·exact mjoin_na xs ys xa ya xc yc w hG hX hY hxl hyl hga
end Go.Proofs.YtohngnahcgbfmaaGreatDoor.Mi
