/- What the claim has need of: Mi, Mi2, Mi3, Mi4, Mi5, Mi6, TapeW, Corr. -/
import Derived.Test.YtohngnahcgbfmaaGreatDoorJr3
namespace Go.Proofs.YtohngnahcgbfmaaGreatDoor.Mi
open Go Go.Proofs.YtohngnahcgbfmaaGreatDoor.Vc Go.Proofs.YtohngnahcgbfmaaGreatDoor.Er Go.Proofs.YtohngnahcgbfmaaGreatDoor.Ek Go.Proofs.YtohngnahcgbfmaaGreatDoor.Circ
set_option linter.unusedVariables false
theorem agg129 : isAgg' Tryz.prog 129 = true := by kernel_rfl
theorem agg29 : isAgg' Tryz.prog 29 = true := by kernel_rfl
theorem agg36 : isAgg' Tryz.prog 36 = true := by kernel_rfl
theorem arr29 : arr Tryz.prog 29 = some (2, 1) := by kernel_rfl
theorem call35 : callable Tryz.prog 35 = true := by kernel_rfl
theorem call63 : callable Tryz.prog 63 = true := by kernel_rfl
theorem call64 : callable Tryz.prog 64 = true := by kernel_rfl
theorem call81 : callable Tryz.prog 81 = true := by kernel_rfl
theorem fits127 : Fits Tryz.prog 127 EI := fitsI (by kernel_rfl) (by kernel_rfl)
theorem fits3 : Fits Tryz.prog 3 EI := fitsI (by kernel_rfl) (by kernel_rfl)
theorem fld129_1 : fld Tryz.prog 129 1 = some (1, 1, 127) := by kernel_rfl
theorem fld36_0 : fld Tryz.prog 36 0 = some (0, 1, 33) := by kernel_rfl
theorem fld36_3 : fld Tryz.prog 36 3 = some (3, 1, 3) := by kernel_rfl
theorem fld36_4 : fld Tryz.prog 36 4 = some (4, 1, 34) := by kernel_rfl
theorem fld36_5 : fld Tryz.prog 36 5 = some (5, 1, 3) := by kernel_rfl
theorem isI31 : isI Tryz.prog 31 = true := by kernel_rfl
theorem mixed : Tryz.prog.follows .mixedOrders = true := by kernel_rfl
theorem one3 : isOne Tryz.prog 3 = true := by kernel_rfl
theorem one33 : isOne Tryz.prog 33 = true := by kernel_rfl
theorem one34 : isOne Tryz.prog 34 = true := by kernel_rfl
theorem pls129 : pls Tryz.prog 129 = some #[(0, 1), (1, 1), (2, 1), (3, 1), (4, 1), (5, 1), (6, 1)] := by kernel_rfl
theorem siz104 : siz Tryz.prog 104 = some 3 := by kernel_rfl
theorem siz127 : siz Tryz.prog 127 = some 1 := by kernel_rfl
theorem siz129 : siz Tryz.prog 129 = some 7 := by kernel_rfl
theorem siz29 : siz Tryz.prog 29 = some 2 := by kernel_rfl
theorem siz36 : siz Tryz.prog 36 = some 6 := by kernel_rfl
theorem sli74 : sli Tryz.prog 74 = some (127, 1) := by kernel_rfl
theorem zer104 : zer Tryz.prog 104 = some (.agg #[.int .i64 0, sN0, sN0]) := by kernel_rfl
theorem zer129 : zer Tryz.prog 129 = some (.agg #[.int .i64 0, .int .i64 0, .int .i64 0, .int .i64 0, .bool false, .bool false, .int .i64 0]) := by kernel_rfl
theorem zer29 : zer Tryz.prog 29 = some (.agg (List.replicate 2 (.int .i64 0)).toArray) := by kernel_rfl
theorem formof_ok (x : BitVec 64) (w : World) : Calls Tryz.prog 81 [u64 x].toArray w (Ret fun v w' => v = i64 (foS x) ∧ Ext w w') := by
 have H := Hp.start No w
 refine enter (n := 6) Tryz.func81 rfl rfl (bLe rfl) ?_
 refine sR ?_
 refine sA (i64 0) rfl ?_
 refine wend ?_
 refine seqAny ?_
 refine sR ?_
 refine sM (u64 x) rfl ?_
 refine sq (r_and64 (a := x) (b := 1#64) rfl rfl) ?_
 refine sq (r_eql64 (a := x &&& (1#64)) (b := 1#64) rfl rfl) ?_
 refine wend ?_
 refine condProp ((x &&& (1#64)) = (1#64)) rfl (fun c5 => ?_) (fun c5 => ?_)
 ·refine sR ?_
  refine sA (i64 2) rfl ?_
  refine wend ?_
  refine retAny ?_
  refine thenRet ?_
  refine rG1 2 (i64 2) rfl ⟨rfl, rfl⟩ ?_
  exact ⟨_, rfl, congrArg i64 (by rw [foS, if_pos c5]), H.chg⟩
 ·refine skipAny ?_
  refine thenNormal ?_
  refine sR ?_
  refine sA (i64 1) rfl ?_
  refine wend ?_
  refine retAny ?_
  refine rG1 2 (i64 1) rfl ⟨rfl, rfl⟩ ?_
  exact ⟨_, rfl, congrArg i64 (by rw [foS, if_neg c5]), H.chg⟩
theorem fits_ok (m q : Int) (w : World) : Calls Tryz.prog 64 [i64 m, i64 q].toArray w (Ret fun v w' => v = .bool (fitB m q) ∧ Ext w w') := by
 have H := Hp.start No w
 refine enter (n := 16) Tryz.func64 rfl rfl (bLe rfl) ?_
 refine sR ?_
 refine sA (.bool false) rfl ?_
 refine wS ?_
 refine sM (i64 m) rfl ?_
 refine sM (i64 q) rfl ?_
 refine sq (r_eqlI (a := m) (b := q) rfl rfl) ?_
 refine sM (.bool (decide ((m : Int) = q))) rfl ?_
 refine sqGv (B := (!(decide ((m : Int) = q)))) (v := i64 m) (wantedH (d' := 8) (B := true) rfl rfl rfl) (fun hB => r_move (v := i64 m) rfl) ?_
 refine sqGv (B := (!(decide ((m : Int) = q)))) (v := .bool (decide ((m : Int) = (3 : Int)))) (wantedH (d' := 8) (B := true) rfl rfl rfl) (fun hB => by simp only [gvT (v := _) (h := hB)]; exact r_eqlI (a := m) (b := (3 : Int)) rfl rfl) ?_
 refine sqGv (B := (!(decide ((m : Int) = q)))) (v := .bool (decide ((m : Int) = (3 : Int)))) (wantedH (d' := 8) (B := true) rfl rfl rfl) (fun hB => by simp only [gvT (v := _) (h := hB)]; exact r_move (v := .bool (decide ((m : Int) = (3 : Int)))) rfl) ?_
 refine sqGv (B := ((!(decide ((m : Int) = q))) && (decide ((m : Int) = (3 : Int))))) (v := i64 q) (wantedG (d' := 11) (B := (!(decide ((m : Int) = q)))) rfl rfl rfl) (fun hB => r_move (v := i64 q) rfl) ?_
 refine sqGv (B := ((!(decide ((m : Int) = q))) && (decide ((m : Int) = (3 : Int))))) (v := .bool (decide ((q : Int) ≠ (0 : Int)))) (wantedG (d' := 11) (B := (!(decide ((m : Int) = q)))) rfl rfl rfl) (fun hB => by simp only [gvT (v := _) (h := hB)]; exact r_neqI (a := q) (b := (0 : Int)) rfl rfl) ?_
 refine sqGv (B := (!(decide ((m : Int) = q)))) (v := .bool ((decide ((m : Int) = (3 : Int)) && decide ((q : Int) ≠ (0 : Int))))) (wantedH (d' := 8) (B := true) rfl rfl rfl) (fun hB => r_pickAnd (B := (!(decide ((m : Int) = q)))) hB rfl rfl rfl) ?_
 refine sq (r_pickOr (B := true) rfl rfl rfl rfl) ?_
 refine sA (.bool ((decide ((m : Int) = q) || (decide ((m : Int) = (3 : Int)) && decide ((q : Int) ≠ (0 : Int)))))) rfl ?_
 refine wend ?_
 refine retAny ?_
 refine rG1 4 (.bool ((decide ((m : Int) = q) || (decide ((m : Int) = (3 : Int)) && decide ((q : Int) ≠ (0 : Int)))))) rfl ⟨rfl, rfl⟩ ?_
 exact ⟨_, rfl, rfl, H.chg⟩
theorem told_ok (o : Mo) (w : World) : Calls Tryz.prog 32 [.agg #[i64 (o.kd), i64 (o.a), i64 (o.b), i64 (o.k), u64 (o.c), i64 (o.pt)]].toArray w (Ret fun v w' => v = .bool (decide (tld o)) ∧ Ext w w') := by
 have H := Hp.start No w
 refine enter (n := 11) Tryz.func32 rfl rfl (bLe rfl) ?_
 refine sR ?_
 refine q_box (v := .agg #[i64 (o.kd), i64 (o.a), i64 (o.b), i64 (o.k), u64 (o.c), i64 (o.pt)]) (o := .cells #[i64 (o.kd), i64 (o.a), i64 (o.b), i64 (o.k), u64 (o.c), i64 (o.pt)] 36 (0, 0)) H rfl (by rfl) ?_
 intro b1 w2 hb1 H3 hE4
 refine sA (.bool false) rfl ?_
 refine wS ?_
 refine sq (r_fieldAddr (off' := 0) fld36_0 (by decide) (b := b1) (off := 0) rfl (by omega)) ?_
 refine sq (r_loadC (v := i64 (o.kd)) one33 (H3.get (k := 0) rfl) (off := 0) rfl (by rfl)) ?_
 refine sq (r_eqlI (a := o.kd) (b := (18 : Int)) rfl rfl) ?_
 refine sM (.bool (decide ((o.kd : Int) = (18 : Int)))) rfl ?_
 refine sqGv (B := (!(decide ((o.kd : Int) = (18 : Int))))) (v := pT b1) (wantedH (d' := 6) (B := true) rfl rfl rfl) (fun hB => r_fieldAddr (off' := 0) fld36_0 (by decide) (b := b1) (off := 0) rfl (by omega)) ?_
 refine sqGv (B := (!(decide ((o.kd : Int) = (18 : Int))))) (v := i64 (o.kd)) (wantedH (d' := 6) (B := true) rfl rfl rfl) (fun hB => by simp only [gvT (v := _) (h := hB)]; exact r_loadC (v := i64 (o.kd)) one33 (H3.get (k := 0) rfl) (off := 0) rfl (by rfl)) ?_
 refine sqGv (B := (!(decide ((o.kd : Int) = (18 : Int))))) (v := .bool (decide ((o.kd : Int) = (19 : Int)))) (wantedH (d' := 6) (B := true) rfl rfl rfl) (fun hB => by simp only [gvT (v := _) (h := hB)]; exact r_eqlI (a := o.kd) (b := (19 : Int)) rfl rfl) ?_
 refine sq ((r_pickOr (B := true) rfl rfl rfl rfl).as (v' := .bool (decide (tld o))) (by exact congrArg Value.bool (told_b o))) ?_
 refine sA (.bool (decide (tld o))) rfl ?_
 refine wend ?_
 refine retAny ?_
 refine rG1 2 (.bool (decide (tld o))) rfl ⟨rfl, rfl⟩ ?_
 exact ⟨_, rfl, rfl, H3.chg⟩
theorem opnds_ok (o : Mo) (w : World) : Calls Tryz.prog 36 [.agg #[i64 (o.kd), i64 (o.a), i64 (o.b), i64 (o.k), u64 (o.c), i64 (o.pt)]].toArray w (Ret fun v w' => v = i64 ((opG o : Nat) : Int) ∧ Ext w w') := by
 have H := Hp.start No w
 refine enter (n := 6) Tryz.func36 rfl rfl (bLe rfl) ?_
 refine sR ?_
 refine q_box (v := .agg #[i64 (o.kd), i64 (o.a), i64 (o.b), i64 (o.k), u64 (o.c), i64 (o.pt)]) (o := .cells #[i64 (o.kd), i64 (o.a), i64 (o.b), i64 (o.k), u64 (o.c), i64 (o.pt)] 36 (0, 0)) H rfl (by rfl) ?_
 intro b1 w2 hb1 H3 hE4
 refine sA (i64 0) rfl ?_
 refine wend ?_
 refine seqAny ?_
 refine sR ?_
 refine sq (r_fieldAddr (off' := 3) fld36_3 (by decide) (b := b1) (off := 0) rfl (by omega)) ?_
 refine sq (r_loadC (v := i64 (o.k)) one3 (H3.get (k := 0) rfl) (off := 3) rfl (by rfl)) ?_
 refine sq (r_eqlI (a := o.k) (b := (1 : Int)) rfl rfl) ?_
 refine wend ?_
 refine condProp ((o.k : Int) = (1 : Int)) rfl (fun c5 => ?_) (fun c5 => ?_)
 ·refine sR ?_
  refine sA (i64 1) rfl ?_
  refine wend ?_
  refine retAny ?_
  refine thenRet ?_
  refine rG1 2 (i64 1) rfl ⟨rfl, rfl⟩ ?_
  exact ⟨_, rfl, by rw [opG, if_pos c5]; rfl, H3.chg⟩
 ·refine skipAny ?_
  refine thenNormal ?_
  refine sR ?_
  refine sA (i64 2) rfl ?_
  refine wend ?_
  refine retAny ?_
  refine rG1 2 (i64 2) rfl ⟨rfl, rfl⟩ ?_
  exact ⟨_, rfl, by rw [opG, if_neg c5]; rfl, H3.chg⟩
theorem all_ok (w : World) : Calls Tryz.prog 31 [].toArray w (Ret fun v w' => v = .agg (cel EI [65536, 65536]).toArray ∧ Ext w w') := by
 have H := Hp.start No w
 refine enter (n := 2) Tryz.func31 rfl rfl (bLe rfl) ?_
 refine sR ?_
 refine q_alloc (o := .cells (cel EI ([0, 0])).toArray 29 (0, 0)) H zer29 (by kernel_rfl) ?_
 intro b1 w2 hb1 H3 hE4
 refine wS ?_
 refine sq (r_buildA (cs' := (cel EI [(65536 : Int), (65536 : Int)]).toArray) (ps := [(0, i64 65536), (1, i64 65536)]) zer29 arr29 rfl (by rfl)) ?_
 refine d_store (k := 0) (v := .agg (cel EI [(65536 : Int), (65536 : Int)]).toArray) (cs' := (cel EI ([(65536 : Int), (65536 : Int)])).toArray) H3 rfl rfl rfl siz29 (by exact celSize (by first | rfl | (show _ * 1 = _; omega))) (by exact celOne _) (by rw [List.size_toArray, cel_length]; show _ ≤ _ * 1; first | omega | (simp only [List.length_set]; omega) | exact bLe rfl | (simp <;> omega)) (by exact putAll (by first | rfl | omega | (simp <;> omega))) ?_
 intro w5 H6 hC7
 have H6' := H6.as (L' := [_]) rfl
 clear H6
 refine wend ?_
 refine retAny ?_
 refine retG (rs := [.cell 0 29]) (vs := [.agg (cel EI ([(65536 : Int), (65536 : Int)])).toArray]) rfl ⟨r_loadA (cs' := (cel EI ([(65536 : Int), (65536 : Int)])).toArray) agg29 siz29 (H6'.get (k := 0) rfl) (off := 0) rfl (by exact bLe rfl) (by exact ext_all rfl), trivial⟩ ?_
 exact ⟨_, rfl, rfl, H6'.chg⟩
theorem make_all (o : Mo) (h : nopS o.k o.c ≠ 0) (w : World) : Calls Tryz.prog 35 [i64 o.k, u64 o.c].toArray w (Ret fun v w' => ∃ (key : Option Nat) (c : Nat) (sp : List Value) (b : Nat), v = .tuple #[.agg #[i64 (((128 * opG o) : Nat) : Int), .slice (ownA key) (makeG o).1.length c, .slice (some ⟨b, 0, none⟩) 64 64], .nilIface] ∧ Sl EG key (makeG o).1 c sp ∧ Hp No w w' [(key, sob EG 154 (makeG o).1 sp), (re b EI (makeG o).2 145)]) := by
 unfold nopS at h
 by_cases h1 : o.k = 1 ∧ o.c.toNat < 2
 ·have e1 : opG o = 1 := if_pos h1.1
  have e2 : makeG o = mk1 (fbS o.c 0) := if_pos h1.1
  rw [e1, e2, h1.1]; exact Cm.make_k1 o.c h1.2 w
 ·rw [if_neg h1] at h
  by_cases h2 : (o.k = 2 ∨ o.k = 3) ∧ o.c.toNat < 4
  ·have e1 : opG o = 2 := if_neg (by omega)
   rcases h2 with ⟨h3 | h3, h4⟩
   ·have e2 : makeG o = mk2 (fbS o.c 0) (fbS o.c 1) := (if_neg (by omega)).trans (if_pos h3)
    rw [e1, e2, h3]; exact Cm.make_k2 o.c h4 w
   ·have e2 : makeG o = mk3 (fbS o.c 0) (fbS o.c 1) := (if_neg (by omega)).trans (if_neg (by omega))
    rw [e1, e2, h3]; exact Cm.make_k3 o.c h4 w
  ·rw [if_neg h2] at h; exact absurd rfl h
theorem make_none (o : Mo) (h : nopS o.k o.c = 0) (w : World) (hG : Gl w) : Calls Tryz.prog 35 [i64 o.k, u64 o.c].toArray w (Ret fun v w' => (∃ ev, v = .tuple #[.agg #[i64 (0 : Int), sN0, sN0], ev] ∧ Er w.heap.size w' 1 1 ev) ∧ Ext w w') := by
 refine Cm.make_bad o.k o.c w hG ⟨fun h1 => ?_, fun h1 => ?_⟩ <;> unfold nopS at h
 ·rw [if_pos ⟨h1.1, h1.2⟩] at h; exact absurd h (by decide)
 ·rw [if_neg (by omega), if_pos ⟨h1.1, h1.2⟩] at h; exact absurd h (by decide)
set_option maxHeartbeats 4000000 in
theorem grule_no (o : Mo) (h : nopS o.k o.c = 0) (w : World) (hG : Gl w) : Calls Tryz.prog 63 [.agg #[i64 (o.kd), i64 (o.a), i64 (o.b), i64 (o.k), u64 (o.c), i64 (o.pt)]].toArray w (Ret fun v w' => v = .tuple #[.agg #[i64 ((gruS o).1.a), i64 ((gruS o).1.b), i64 ((gruS o).1.m), i64 ((gruS o).1.k), .bool ((gruS o).1.c), .bool ((gruS o).1.p), i64 ((gruS o).1.r)], .bool (gruS o).2] ∧ Ext w w') := by
 let y4 : Array Value := #[i64 (o.kd), i64 (o.a), i64 (o.b), i64 (o.k), u64 (o.c), i64 (o.pt)]
 let y3 : Array Value := #[.int .i64 0, .int .i64 0, .int .i64 0, .int .i64 0, .bool false, .bool false, .int .i64 0]
 let y1 : Array Value := #[i64 0, i64 0, i64 0, i64 0, .bool false, .bool false, i64 0]
 have H := Hp.start No w
 refine enter (n := 31) Tryz.func63 rfl rfl (bLe rfl) ?_
 refine sR ?_
 refine q_box (v := .agg y4) (o := .cells y4 36 (0, 0)) H rfl (by rfl) ?_
 intro b1 w2 hb1 H3 hE4
 refine q_alloc (o := .cells y1 129 (0, 0)) H3 zer129 (by kernel_rfl) ?_
 intro b5 w6 hb5 H7 hE8
 refine sA (.bool false) rfl ?_
 refine wend ?_
 refine seqAny ?_
 refine sR ?_
 refine sq (r_fieldAddr (off' := 3) fld36_3 (by decide) (b := b1) (off := 0) rfl (by omega)) ?_
 refine sq (r_loadC (v := i64 (o.k)) one3 (H7.get (k := 1) rfl) (off := 3) rfl (by rfl)) ?_
 refine sq (r_fieldAddr (off' := 4) fld36_4 (by decide) (b := b1) (off := 0) rfl (by omega)) ?_
 refine sq (r_loadC (v := u64 (o.c)) one34 (H7.get (k := 1) rfl) (off := 4) rfl (by rfl)) ?_
 refine c_call (vs := [i64 (o.k), u64 (o.c)]) call35 rfl (make_none o h w6 (Chg.gl H7.chg (fun x => x) hG)) ?_
 rintro _ w9 ⟨⟨ev11, rfl, hEr12⟩, hE13⟩
 have H14 := H7.ext hE13
 obtain ⟨T15, x16, rfl⟩ := hEr12.iface
 let y2 : Array Value := #[.agg #[i64 0, sN0, sN0], .iface T15 x16]
 refine sM (.tuple y2) rfl ?_
 refine sq (r_extract (vs := y2) rfl rfl) ?_
 refine sq (r_extract (vs := y2) rfl rfl) ?_
 refine q_alloc (o := .cells #[i64 0, sN0, sN0] 104 (0, 0)) H14 zer104 (by kernel_rfl) ?_
 intro b17 w18 hb17 H19 hE20
 refine d_store (k := 0) (v := .agg #[i64 0, sN0, sN0]) (cs' := #[i64 0, sN0, sN0]) H19 rfl rfl rfl siz104 (by rfl) (oneL rfl) (by exact bLe rfl) (by rfl) ?_
 intro w21 H22 hC23
 have H22' := H22.as (L' := [_, _, _]) rfl
 clear H22
 refine sA (.iface T15 x16) rfl ?_
 refine wS ?_
 refine sM (.iface T15 x16) rfl ?_
 refine sq ((r_neqIN isI31 rfl rfl).as (v' := .bool true) (by rfl)) ?_
 refine wend ?_
 refine condTrue rfl ?_
 refine sR ?_
 refine sq (r_build (cs' := y3) (ps := []) zer129 pls129 rfl (by rfl)) ?_
 refine d_store (k := 1) (v := .agg y3) (cs' := y1) H22' rfl rfl rfl siz129 (by rfl) (oneL rfl) (by exact bLe rfl) (by rfl) ?_
 intro w24 H25 hC26
 have H25' := H25.as (L' := [_, _, _]) rfl
 clear H25
 refine sA (.bool false) rfl ?_
 refine wend ?_
 refine retAny ?_
 refine thenRet ?_
 refine retG (rs := [.cell 2 129, .tmp 3]) (vs := [.agg y1, .bool false]) rfl ⟨r_loadA (cs' := y1) agg129 siz129 (H25'.get (k := 1) rfl) (off := 0) rfl (by exact bLe rfl) (by rfl), ⟨rfl, rfl⟩, trivial⟩ ?_
 exact ⟨_, rfl, by unfold gruS; rw [if_pos h] <;> rfl, H25'.chg⟩
set_option maxHeartbeats 4000000 in
theorem grule_yes (o : Mo) (h : nopS o.k o.c ≠ 0) (w : World) : Calls Tryz.prog 63 [.agg #[i64 (o.kd), i64 (o.a), i64 (o.b), i64 (o.k), u64 (o.c), i64 (o.pt)]].toArray w (Ret fun v w' => v = .tuple #[.agg #[i64 ((gruS o).1.a), i64 ((gruS o).1.b), i64 ((gruS o).1.m), i64 ((gruS o).1.k), .bool ((gruS o).1.c), .bool ((gruS o).1.p), i64 ((gruS o).1.r)], .bool (gruS o).2] ∧ Ext w w') := by
 let x5 : Array Value := #[i64 0, i64 0, i64 0, i64 0, .bool false, .bool false, i64 0]
 let x4 : Array Value := #[i64 (o.kd), i64 (o.a), i64 (o.b), i64 (o.k), u64 (o.c), i64 (o.pt)]
 let x3 : Array Value := #[i64 (foS o.c), i64 (foS (o.c >>> (1 : Nat))), i64 2, i64 4, .bool true, .bool false, i64 2]
 let x1 : Array Value := #[i64 (foS o.c), i64 0, i64 2, i64 4, .bool true, .bool false, i64 2]
 have H := Hp.start No w
 refine enter (n := 31) Tryz.func63 rfl rfl (bLe rfl) ?_
 refine sR ?_
 refine q_box (v := .agg x4) (o := .cells x4 36 (0, 0)) H rfl (by rfl) ?_
 intro b1 w2 hb1 H3 hE4
 refine q_alloc (o := .cells x5 129 (0, 0)) H3 zer129 (by kernel_rfl) ?_
 intro b5 w6 hb5 H7 hE8
 refine sA (.bool false) rfl ?_
 refine wend ?_
 refine seqAny ?_
 refine sR ?_
 refine sq (r_fieldAddr (off' := 3) fld36_3 (by decide) (b := b1) (off := 0) rfl (by omega)) ?_
 refine sq (r_loadC (v := i64 (o.k)) one3 (H7.get (k := 1) rfl) (off := 3) rfl (by rfl)) ?_
 refine sq (r_fieldAddr (off' := 4) fld36_4 (by decide) (b := b1) (off := 0) rfl (by omega)) ?_
 refine sq (r_loadC (v := u64 (o.c)) one34 (H7.get (k := 1) rfl) (off := 4) rfl (by rfl)) ?_
 refine c_call (vs := [i64 (o.k), u64 (o.c)]) call35 rfl (make_all o h w6) ?_
 rintro _ w9 ⟨key11, c12, sp13, b14, rfl, hS15, HN16⟩
 let x2 : Option Addr := some ⟨b14, 0, none⟩
 have H17 := (H7.join HN16).as (L' := [_, _, _, _]) rfl
 refine sM (.tuple #[.agg #[iN (128 * opG o), .slice (ownA key11) ((makeG o).1.length) c12, .slice x2 64 64], .nilIface]) rfl ?_
 refine sq (r_extract (vs := #[.agg #[iN (128 * opG o), .slice (ownA key11) ((makeG o).1.length) c12, .slice x2 64 64], .nilIface]) rfl rfl) ?_
 refine sq (r_extract (vs := #[.agg #[iN (128 * opG o), .slice (ownA key11) ((makeG o).1.length) c12, .slice x2 64 64], .nilIface]) rfl rfl) ?_
 refine q_alloc (o := .cells #[i64 0, sN0, sN0] 104 (0, 0)) H17 zer104 (by kernel_rfl) ?_
 intro b18 w19 hb18 H20 hE21
 refine d_store (k := 0) (v := .agg #[iN (128 * opG o), .slice (ownA key11) ((makeG o).1.length) c12, .slice x2 64 64]) (cs' := #[iN (128 * opG o), .slice (ownA key11) ((makeG o).1.length) c12, .slice x2 64 64]) H20 rfl rfl rfl siz104 (by rfl) (oneL rfl) (by exact bLe rfl) (by rfl) ?_
 intro w22 H23 hC24
 have H23' := H23.as (L' := [_, _, _, _, _]) rfl
 clear H23
 refine sA (.nilIface) rfl ?_
 refine wS ?_
 refine sM (.nilIface) rfl ?_
 refine sq ((r_neqNN isI31 rfl rfl).as (v' := .bool false) (by rfl)) ?_
 refine wend ?_
 refine condFalse rfl ?_
 refine skipAny ?_
 refine thenNormal ?_
 refine sR ?_
 refine sq (r_fieldAddr (off' := 4) fld36_4 (by decide) (b := b1) (off := 0) rfl (by omega)) ?_
 refine sq (r_loadC (v := u64 (o.c)) one34 (H23'.get (k := 4) rfl) (off := 4) rfl (by rfl)) ?_
 refine c_call (vs := [u64 (o.c)]) call81 rfl (formof_ok o.c w22) ?_
 rintro _ w25 ⟨rfl, hE26⟩
 have H27 := H23'.ext hE26
 refine sq (r_build (cs' := x1) (ps := [(0, i64 (foS o.c)), (2, i64 2), (3, i64 4), (4, .bool true), (6, i64 2)]) zer129 pls129 rfl (by rfl)) ?_
 refine q_alloc (o := .cells x5 129 (0, 0)) H27 zer129 (by kernel_rfl) ?_
 intro b28 w29 hb28 H30 hE31
 refine d_store (k := 0) (v := .agg x1) (cs' := x1) H30 rfl rfl rfl siz129 (by rfl) (oneL rfl) (by exact bLe rfl) (by rfl) ?_
 intro w32 H33 hC34
 have H33' := H33.as (L' := [_, _, _, _, _, _]) rfl
 clear H33
 refine wend ?_
 refine seqAny ?_
 refine sR ?_
 refine sq (r_fieldAddr (off' := 3) fld36_3 (by decide) (b := b1) (off := 0) rfl (by omega)) ?_
 refine sq (r_loadC (v := i64 (o.k)) one3 (H33'.get (k := 5) rfl) (off := 3) rfl (by rfl)) ?_
 refine sq (r_neqI (a := o.k) (b := (1 : Int)) rfl rfl) ?_
 refine wend ?_
 refine condProp ((o.k : Int) ≠ (1 : Int)) rfl (fun c24 => ?_) (fun c24 => ?_)
 ·refine oneRegion ?_
  refine sq (r_fieldAddr (off' := 4) fld36_4 (by decide) (b := b1) (off := 0) rfl (by omega)) ?_
  refine sq (r_loadC (v := u64 (o.c)) one34 (H33'.get (k := 5) rfl) (off := 4) rfl (by rfl)) ?_
  refine sq (r_shr64 (a := o.c) (c := 1) rfl rfl) ?_
  refine c_call (vs := [u64 (o.c >>> (1 : Nat))]) call81 rfl (formof_ok (o.c >>> (1 : Nat)) w32) ?_
  rintro _ w35 ⟨rfl, hE36⟩
  have H37 := H33'.ext hE36
  refine sq (r_fieldAddr (off' := 1) fld129_1 (by decide) (b := b28) (off := 0) rfl (by omega)) ?_
  refine d_store (k := 0) (v := i64 (foS (o.c >>> (1 : Nat)))) (cs' := x3) H37 rfl rfl rfl siz127 (by rfl) (by exact EI.one _) (by exact bLe rfl) (by rfl) ?_
  intro w38 H39 hC40
  have H39' := H39.as (L' := [_, _, _, _, _, _]) rfl
  clear H39
  refine wnil ?_
  refine thenNormal ?_
  refine sR ?_
  refine sq (r_loadA (cs' := x3) agg129 siz129 (H39'.get (k := 0) rfl) (off := 0) rfl (by exact bLe rfl) (by rfl)) ?_
  refine d_store (k := 4) (v := .agg x3) (cs' := x3) H39' rfl rfl rfl siz129 (by rfl) (oneL rfl) (by exact bLe rfl) (by rfl) ?_
  intro w41 H42 hC43
  have H42' := H42.as (L' := [_, _, _, _, _, _]) rfl
  clear H42
  refine sA (.bool true) rfl ?_
  refine wend ?_
  refine retAny ?_
  refine retG (rs := [.cell 2 129, .tmp 3]) (vs := [.agg x3, .bool true]) rfl ⟨r_loadA (cs' := x3) agg129 siz129 (H42'.get (k := 4) rfl) (off := 0) rfl (by exact bLe rfl) (by rfl), ⟨rfl, rfl⟩, trivial⟩ ?_
  exact ⟨_, rfl, by unfold gruS; rw [if_neg h, if_neg (by simpa using c24)] <;> rfl, H42'.chg⟩
 ·refine skipAny ?_
  refine thenNormal ?_
  refine sR ?_
  refine sq (r_loadA (cs' := x1) agg129 siz129 (H33'.get (k := 0) rfl) (off := 0) rfl (by exact bLe rfl) (by rfl)) ?_
  refine d_store (k := 4) (v := .agg x1) (cs' := x1) H33' rfl rfl rfl siz129 (by rfl) (oneL rfl) (by exact bLe rfl) (by rfl) ?_
  intro w44 H45 hC46
  have H45' := H45.as (L' := [_, _, _, _, _, _]) rfl
  clear H45
  refine sA (.bool true) rfl ?_
  refine wend ?_
  refine retAny ?_
  refine retG (rs := [.cell 2 129, .tmp 3]) (vs := [.agg x1, .bool true]) rfl ⟨r_loadA (cs' := x1) agg129 siz129 (H45'.get (k := 4) rfl) (off := 0) rfl (by exact bLe rfl) (by rfl), ⟨rfl, rfl⟩, trivial⟩ ?_
  exact ⟨_, rfl, by unfold gruS; rw [if_neg h, if_pos (by simpa using c24)] <;> rfl, H45'.chg⟩
theorem grule_ok (o : Mo) (w : World) (hG : Gl w) : Calls Tryz.prog 63 [.agg #[i64 (o.kd), i64 (o.a), i64 (o.b), i64 (o.k), u64 (o.c), i64 (o.pt)]].toArray w (Ret fun v w' => v = .tuple #[.agg #[i64 ((gruS o).1.a), i64 ((gruS o).1.b), i64 ((gruS o).1.m), i64 ((gruS o).1.k), .bool ((gruS o).1.c), .bool ((gruS o).1.p), i64 ((gruS o).1.r)], .bool (gruS o).2] ∧ Ext w w') := by
 by_cases h : nopS o.k o.c = 0
 ·exact grule_no o h w hG
 ·exact grule_yes o h w
set_option maxHeartbeats 4000000 in
theorem rule_ok (o : Mo) (e0 e1 : Int) (w : World) (hG : Gl w) : Calls Tryz.prog 42 [.agg #[i64 (o.kd), i64 (o.a), i64 (o.b), i64 (o.k), u64 (o.c), i64 (o.pt)], .agg (cel EI [e0, e1]).toArray].toArray w (Ret fun v w' => v = .tuple #[.agg #[i64 ((ruleS o e0 e1).1.a), i64 ((ruleS o e0 e1).1.b), i64 ((ruleS o e0 e1).1.m), i64 ((ruleS o e0 e1).1.k), .bool ((ruleS o e0 e1).1.c), .bool ((ruleS o e0 e1).1.p), i64 ((ruleS o e0 e1).1.r)], .bool (ruleS o e0 e1).2] ∧ Ext w w') := by
 let x25 : Array Value := #[i64 1, i64 0, i64 2, i64 0, .bool false, .bool true, i64 0]
 let x24 : Array Value := #[i64 1, i64 0, i64 1, i64 0, .bool true, .bool false, i64 0]
 let x23 : Array Value := #[i64 0, i64 0, i64 3, i64 0, .bool true, .bool false, i64 0]
 let x22 : Array Value := #[i64 2, i64 0, i64 0, i64 0, .bool false, .bool false, i64 1]
 let x21 : Array Value := #[i64 1, i64 0, i64 0, i64 0, .bool false, .bool false, i64 1]
 let x20 : Array Value := #[i64 2, i64 0, i64 1, i64 64, .bool false, .bool true, i64 0]
 let x19 : Array Value := #[i64 2, i64 0, i64 2, i64 0, .bool false, .bool false, i64 0]
 let x18 : Array Value := #[i64 2, i64 2, i64 2, i64 0, .bool false, .bool false, i64 1]
 let x17 : Array Value := #[i64 2, i64 2, i64 2, i64 0, .bool false, .bool false, i64 0]
 let x16 : Array Value := #[i64 1, i64 1, i64 1, i64 0, .bool false, .bool false, i64 1]
 let x15 : Array Value := #[i64 (o.kd), i64 (o.a), i64 (o.b), i64 (o.k), u64 (o.c), i64 (o.pt)]
 let x14 : Array Value := #[.int .i64 0, .int .i64 0, .int .i64 0, .int .i64 0, .bool false, .bool false, .int .i64 0]
 let x13 : Array Value := #[i64 0, i64 0, i64 0, i64 0, .bool false, .bool false, i64 0]
 let x12 : Array Value := #[i64 2, i64 0, i64 2, i64 0, .bool true, .bool false, i64 0]
 let x11 : Array Value := #[i64 1, i64 1, i64 1, i64 0, .bool false, .bool false, i64 0]
 let x10 : Array Value := #[i64 0, i64 0, i64 1, i64 e1, .bool false, .bool true, i64 1]
 let x9 : Array Value := #[i64 ((gruS o).1.a), i64 ((gruS o).1.b), i64 ((gruS o).1.m), i64 ((gruS o).1.k), .bool ((gruS o).1.c), .bool ((gruS o).1.p), i64 ((gruS o).1.r)]
 let x5 : Array Value := #[i64 0, i64 0, i64 1, i64 e0, .bool false, .bool true, i64 1]
 let x1 : Array Value := #[i64 2, i64 0, i64 2, i64 64, .bool false, .bool false, i64 0]
 have H := Hp.start No w
 refine enter (n := 79) Tryz.func42 rfl rfl (bLe rfl) ?_
 refine sR ?_
 refine q_box (v := .agg x15) (o := .cells x15 36 (0, 0)) H rfl (by rfl) ?_
 intro b1 w2 hb1 H3 hE4
 let x6 : Option Addr := some ⟨b1, 5, none⟩
 let x2 := rc b1 x15 36
 refine q_box (v := .agg (cel EI [e0, e1]).toArray) (o := .cells (cel EI ([e0, e1])).toArray 29 (0, 0)) H3 rfl (by rfl) ?_
 intro b5 w6 hb5 H7 hE8
 let x8 : Option Addr := some ⟨b5, 1, none⟩
 let x4 := re b5 EI ([e0, e1]) 29
 refine q_alloc (o := .cells x13 129 (0, 0)) H7 zer129 (by kernel_rfl) ?_
 intro b9 w10 hb9 H11 hE12
 let x7 := rc b9 x10 129
 let x3 := rc b9 x13 129
 refine sA (.bool false) rfl ?_
 refine wend ?_
 refine seqAny ?_
 refine sR ?_
 refine sq (r_fieldAddr (off' := 0) fld36_0 (by decide) (b := b1) (off := 0) rfl (by omega)) ?_
 refine sq (r_loadC (v := i64 (o.kd)) one33 (H11.get (k := 2) rfl) (off := 0) rfl (by rfl)) ?_
 refine wend ?_
 refine blockAny ?_
 refine sR ?_
 refine sq (r_eqlI (a := o.kd) (b := (1 : Int)) rfl rfl) ?_
 refine sA (.bool (decide ((o.kd : Int) = (1 : Int)))) rfl ?_
 refine wend ?_
 refine condProp ((o.kd : Int) = (1 : Int)) rfl (fun k1 => ?_) (fun k1 => ?_)
 ·refine seqAny ?_
  refine sR ?_
  refine sq (r_fieldAddr (off' := 5) fld36_5 (by decide) (b := b1) (off := 0) rfl (by omega)) ?_
  refine sq (r_loadC (v := i64 (o.pt)) one3 (H11.get (k := 2) rfl) (off := 5) rfl (by rfl)) ?_
  refine sq (r_neqI (a := o.pt) (b := (0 : Int)) rfl rfl) ?_
  refine sM (.bool (decide ((o.pt : Int) ≠ (0 : Int)))) rfl ?_
  refine sqGv (B := (decide ((o.pt : Int) ≠ (0 : Int)))) (v := .pointer x6) (wantedG (d' := 13) (B := true) rfl rfl rfl) (fun hB => r_fieldAddr (off' := 5) fld36_5 (by decide) (b := b1) (off := 0) rfl (by omega)) ?_
  refine sqGv (B := (decide ((o.pt : Int) ≠ (0 : Int)))) (v := i64 (o.pt)) (wantedG (d' := 13) (B := true) rfl rfl rfl) (fun hB => by simp only [gvT (v := _) (h := hB)]; exact r_loadC (v := i64 (o.pt)) one3 (H11.get (k := 2) rfl) (off := 5) rfl (by rfl)) ?_
  refine sqGv (B := (decide ((o.pt : Int) ≠ (0 : Int)))) (v := .bool (decide ((o.pt : Int) ≠ (1 : Int)))) (wantedG (d' := 13) (B := true) rfl rfl rfl) (fun hB => by simp only [gvT (v := _) (h := hB)]; exact r_neqI (a := o.pt) (b := (1 : Int)) rfl rfl) ?_
  refine sq (r_pickAnd (B := true) rfl rfl rfl rfl) ?_
  refine wend ?_
  refine condBool ((decide ((o.pt : Int) ≠ (0 : Int)) && decide ((o.pt : Int) ≠ (1 : Int)))) rfl (fun c17 => ?_) (fun c17 => ?_)
  ·simp only [Bool.and_eq_true, decide_eq_true_eq] at c17
   refine sR ?_
   refine sq (r_build (cs' := x14) (ps := []) zer129 pls129 rfl (by rfl)) ?_
   refine d_store (k := 0) (v := .agg x14) (cs' := x13) H11 rfl rfl rfl siz129 (by rfl) (oneL rfl) (by exact bLe rfl) (by rfl) ?_
   intro w13 H14 hC15
   have H14' := H14.as (L' := [_, _, _]) rfl
   clear H14
   refine sA (.bool false) rfl ?_
   refine wend ?_
   refine retAny ?_
   refine thenRet ?_
   refine blockRet ?_
   refine thenRet ?_
   refine retG (rs := [.cell 4 129, .tmp 5]) (vs := [.agg x13, .bool false]) rfl ⟨r_loadA (cs' := x13) agg129 siz129 (H14'.get (k := 0) rfl) (off := 0) rfl (by exact bLe rfl) (by rfl), ⟨rfl, rfl⟩, trivial⟩ ?_
   have hr : ruleS o e0 e1 = (⟨(0 : Int), (0 : Int), (0 : Int), (0 : Int), false, false, (0 : Int)⟩, false) := by simp [ruleS, k1, c17.1, c17.2, ru0]
   exact ⟨_, rfl, by rw [hr] <;> rfl, H14'.chg⟩
  ·have hpt : o.pt = 0 ∨ o.pt = 1 := by
    rcases Decidable.em (o.pt = 0) with h | h
    ·exact .inl h
    ·exact .inr (by simpa [h] using c17)
   refine skipAny ?_
   refine thenNormal ?_
   by_cases hp : o.pt = 0
   ·refine seqAny ?_
    by_cases hp : o.pt = 0
    ·refine drawC (m := 12) [0, 1, 3, 7, 15, 0, 32, 96, 224, 480, 31, 2047] [10] (fun q vs w' => match q, vs with | 0, [] => Hp No w w' [x3, x4, x2] | 1, [_] => True ∧ Hp No w w' [(rc b9 x5 129), x4, x2] | _, _ => False) mixed (by kernel_rfl) (by kernel_rfl) H11.drew ?_
     refine WalkC.look rfl (fun _ => .pointer x6) (fun _ _ _ => rfl) (fun q r uw _ _ _ _ => Gives.run rfl (r_fieldAddr (off' := 5) fld36_5 (by decide) (b := b1) (off := 0) rfl (by omega)) ⟨rfl, rfl⟩) ?_
     refine WalkC.look rfl (fun _ => i64 (o.pt)) (fun _ _ _ => rfl) (fun q r uw hlo hhi hle hF => ?_) ?_
     ·have h1 : 0 ≤ q := Nat.zero_le _
      have h2 : q ≤ 0 := hhi 0 10 rfl rfl
      rcases (show q = 0 by omega) with rfl
      ·have HH := hF
       exact Gives.run rfl (r_loadC (v := i64 (o.pt)) one3 (HH.get (k := 2) rfl) (off := 5) rfl (by rfl)) ⟨rfl, rfl⟩
     refine WalkC.look rfl (fun _ => pT b5) (fun _ _ _ => rfl) (fun q r uw _ _ _ _ => Gives.run rfl (r_indexA (off' := 0) (j := 0) arr29 (b := b5) (off := 0) rfl rfl (by first | rfl | omega | (simp; omega)) (by omega) (by omega)) ⟨rfl, rfl⟩) ?_
     refine WalkC.look rfl (fun _ => i64 e0) (fun _ _ _ => rfl) (fun q r uw hlo hhi hle hF => ?_) ?_
     ·have h1 : 0 ≤ q := Nat.zero_le _
      have h2 : q ≤ 0 := hhi 0 10 rfl rfl
      rcases (show q = 0 by omega) with rfl
      ·have HH := hF
       exact Gives.run rfl (r_ld1 (E := EI) (l := [e0, e1]) (j := 0) (a := e0) fits3 (HH.get (k := 1) rfl) (by rfl) rfl rfl) ⟨rfl, rfl⟩
     refine WalkC.look rfl (fun _ => .agg x5) (fun _ _ _ => rfl) (fun q r uw _ _ _ _ => Gives.run rfl (r_build (cs' := x5) (ps := [(2, i64 1), (3, i64 e0), (5, .bool true), (6, i64 1)]) zer129 pls129 rfl (by rfl)) ⟨rfl, rfl⟩) ?_
     refine WalkC.look rfl (fun _ => .pointer x6) (fun _ _ _ => rfl) (fun q r uw _ _ _ _ => Gives.run rfl (r_fieldAddr (off' := 5) fld36_5 (by decide) (b := b1) (off := 0) rfl (by omega)) ⟨rfl, rfl⟩) ?_
     refine WalkC.look rfl (fun _ => i64 (o.pt)) (fun _ _ _ => rfl) (fun q r uw hlo hhi hle hF => ?_) ?_
     ·have h1 : 0 ≤ q := Nat.zero_le _
      have h2 : q ≤ 1 := hle
      rcases (show q = 0 ∨ q = 1 by omega) with rfl | rfl
      ·have HH := hF
       exact Gives.run rfl (r_loadC (v := i64 (o.pt)) one3 (HH.get (k := 2) rfl) (off := 5) rfl (by rfl)) ⟨rfl, rfl⟩
      ·obtain ⟨e10, HH⟩ := hF
       exact Gives.run rfl (r_loadC (v := i64 (o.pt)) one3 (HH.get (k := 2) rfl) (off := 5) rfl (by rfl)) ⟨rfl, rfl⟩
     refine WalkC.look rfl (fun _ => pT b5) (fun _ _ _ => rfl) (fun q r uw _ _ _ _ => Gives.run rfl (r_indexA (off' := 0) (j := 0) arr29 (b := b5) (off := 0) rfl rfl (by first | rfl | omega | (simp; omega)) (by omega) (by omega)) ⟨rfl, rfl⟩) ?_
     refine WalkC.look rfl (fun _ => i64 e0) (fun _ _ _ => rfl) (fun q r uw hlo hhi hle hF => ?_) ?_
     ·have h1 : 0 ≤ q := Nat.zero_le _
      have h2 : q ≤ 1 := hle
      rcases (show q = 0 ∨ q = 1 by omega) with rfl | rfl
      ·have HH := hF
       exact Gives.run rfl (r_ld1 (E := EI) (l := [e0, e1]) (j := 0) (a := e0) fits3 (HH.get (k := 1) rfl) (by rfl) rfl rfl) ⟨rfl, rfl⟩
      ·obtain ⟨e10, HH⟩ := hF
       exact Gives.run rfl (r_ld1 (E := EI) (l := [e0, e1]) (j := 0) (a := e0) fits3 (HH.get (k := 1) rfl) (by rfl) rfl rfl) ⟨rfl, rfl⟩
     refine WalkC.look rfl (fun _ => .bool (decide (((0 : Int) : Int) < e0))) (fun _ _ _ => rfl) (fun q r uw _ _ _ _ => Gives.run rfl (r_gtrI (a := e0) (b := (0 : Int)) rfl rfl) ⟨rfl, rfl⟩) ?_
     refine WalkC.eff 0 rfl (fun r uw16 hF18 => ?_) ?_
     ·have H17 := hF18
      dsimp only [List.take, List.map, List.cons_append, List.nil_append]
      refine Gives.ofW0 rfl (fun Q' hK => ?_)
      refine d_store (k := 0) (v := .agg x5) (cs' := x5) H17 rfl rfl rfl siz129 (by rfl) (oneL rfl) (by exact bLe rfl) (by rfl) ?_
      intro w19 H20 hC21
      have H20' := H20.as (L' := [_, _, _]) rfl
      clear H20
      exact hK _ (fun _ => ⟨trivial, H20'⟩)
     refine WalkC.look rfl (fun _ => .bool (decide (((0 : Int) : Int) < e0))) (fun _ _ _ => rfl) (fun q r uw _ _ _ _ => Gives.run rfl (r_assign (v := .bool (decide (((0 : Int) : Int) < e0))) rfl) ⟨rfl, rfl⟩) ?_
     refine WalkC.nil ?_
     intro r22 w23 hF25
     obtain ⟨e10, H24⟩ := hF25
     dsimp only
     refine wnil ?_
     refine thenNormal ?_
     refine retAny ?_
     refine blockRet ?_
     refine thenRet ?_
     refine retG (rs := [.cell 4 129, .tmp 5]) (vs := [.agg x5, .bool (decide (((0 : Int) : Int) < e0))]) rfl ⟨r_loadA (cs' := x5) agg129 siz129 (H24.get (k := 0) rfl) (off := 0) rfl (by exact bLe rfl) (by rfl), ⟨rfl, rfl⟩, trivial⟩ ?_
     have hr : ruleS o e0 e1 = (⟨(0 : Int), (0 : Int), (1 : Int), e0, false, true, (1 : Int)⟩, decide (((0 : Int) : Int) < e0)) := by simp [ruleS, inK, k1, hp]
     exact ⟨_, rfl, by rw [hr] <;> rfl, H24.chg⟩
    ·refine drawC (m := 12) [0, 1, 3, 7, 15, 0, 32, 96, 224, 480, 31, 2047] [10] (fun q vs w' => match q, vs with | 0, [] => Hp No w w' [x3, x4, x2] | 1, [_] => True ∧ Hp No w w' [x7, x4, x2] | _, _ => False) mixed (by kernel_rfl) (by kernel_rfl) H11.drew ?_
     refine WalkC.look rfl (fun _ => .pointer x6) (fun _ _ _ => rfl) (fun q r uw _ _ _ _ => Gives.run rfl (r_fieldAddr (off' := 5) fld36_5 (by decide) (b := b1) (off := 0) rfl (by omega)) ⟨rfl, rfl⟩) ?_
     refine WalkC.look rfl (fun _ => i64 (o.pt)) (fun _ _ _ => rfl) (fun q r uw hlo hhi hle hF => ?_) ?_
     ·have h1 : 0 ≤ q := Nat.zero_le _
      have h2 : q ≤ 0 := hhi 0 10 rfl rfl
      rcases (show q = 0 by omega) with rfl
      ·have HH := hF
       exact Gives.run rfl (r_loadC (v := i64 (o.pt)) one3 (HH.get (k := 2) rfl) (off := 5) rfl (by rfl)) ⟨rfl, rfl⟩
     refine WalkC.look rfl (fun _ => .pointer x8) (fun _ _ _ => rfl) (fun q r uw _ _ _ _ => Gives.run rfl (r_indexA (off' := 1) (j := 1) arr29 (b := b5) (off := 0) rfl rfl (by first | rfl | omega | (simp; omega)) (by omega) (by omega)) ⟨rfl, rfl⟩) ?_
     refine WalkC.look rfl (fun _ => i64 e1) (fun _ _ _ => rfl) (fun q r uw hlo hhi hle hF => ?_) ?_
     ·have h1 : 0 ≤ q := Nat.zero_le _
      have h2 : q ≤ 0 := hhi 0 10 rfl rfl
      rcases (show q = 0 by omega) with rfl
      ·have HH := hF
       exact Gives.run rfl (r_ld1 (E := EI) (l := [e0, e1]) (j := 1) (a := e1) fits3 (HH.get (k := 1) rfl) (by rfl) rfl rfl) ⟨rfl, rfl⟩
     refine WalkC.look rfl (fun _ => .agg x10) (fun _ _ _ => rfl) (fun q r uw _ _ _ _ => Gives.run rfl (r_build (cs' := x10) (ps := [(2, i64 1), (3, i64 e1), (5, .bool true), (6, i64 1)]) zer129 pls129 rfl (by rfl)) ⟨rfl, rfl⟩) ?_
     refine WalkC.look rfl (fun _ => .pointer x6) (fun _ _ _ => rfl) (fun q r uw _ _ _ _ => Gives.run rfl (r_fieldAddr (off' := 5) fld36_5 (by decide) (b := b1) (off := 0) rfl (by omega)) ⟨rfl, rfl⟩) ?_
     refine WalkC.look rfl (fun _ => i64 (o.pt)) (fun _ _ _ => rfl) (fun q r uw hlo hhi hle hF => ?_) ?_
     ·have h1 : 0 ≤ q := Nat.zero_le _
      have h2 : q ≤ 1 := hle
      rcases (show q = 0 ∨ q = 1 by omega) with rfl | rfl
      ·have HH := hF
       exact Gives.run rfl (r_loadC (v := i64 (o.pt)) one3 (HH.get (k := 2) rfl) (off := 5) rfl (by rfl)) ⟨rfl, rfl⟩
      ·obtain ⟨e10, HH⟩ := hF
       exact Gives.run rfl (r_loadC (v := i64 (o.pt)) one3 (HH.get (k := 2) rfl) (off := 5) rfl (by rfl)) ⟨rfl, rfl⟩
     refine WalkC.look rfl (fun _ => .pointer x8) (fun _ _ _ => rfl) (fun q r uw _ _ _ _ => Gives.run rfl (r_indexA (off' := 1) (j := 1) arr29 (b := b5) (off := 0) rfl rfl (by first | rfl | omega | (simp; omega)) (by omega) (by omega)) ⟨rfl, rfl⟩) ?_
     refine WalkC.look rfl (fun _ => i64 e1) (fun _ _ _ => rfl) (fun q r uw hlo hhi hle hF => ?_) ?_
     ·have h1 : 0 ≤ q := Nat.zero_le _
      have h2 : q ≤ 1 := hle
      rcases (show q = 0 ∨ q = 1 by omega) with rfl | rfl
      ·have HH := hF
       exact Gives.run rfl (r_ld1 (E := EI) (l := [e0, e1]) (j := 1) (a := e1) fits3 (HH.get (k := 1) rfl) (by rfl) rfl rfl) ⟨rfl, rfl⟩
      ·obtain ⟨e10, HH⟩ := hF
       exact Gives.run rfl (r_ld1 (E := EI) (l := [e0, e1]) (j := 1) (a := e1) fits3 (HH.get (k := 1) rfl) (by rfl) rfl rfl) ⟨rfl, rfl⟩
     refine WalkC.look rfl (fun _ => .bool (decide (((0 : Int) : Int) < e1))) (fun _ _ _ => rfl) (fun q r uw _ _ _ _ => Gives.run rfl (r_gtrI (a := e1) (b := (0 : Int)) rfl rfl) ⟨rfl, rfl⟩) ?_
     refine WalkC.eff 0 rfl (fun r uw26 hF28 => ?_) ?_
     ·have H27 := hF28
      dsimp only [List.take, List.map, List.cons_append, List.nil_append]
      refine Gives.ofW0 rfl (fun Q' hK => ?_)
      refine d_store (k := 0) (v := .agg x10) (cs' := x10) H27 rfl rfl rfl siz129 (by rfl) (oneL rfl) (by exact bLe rfl) (by rfl) ?_
      intro w29 H30 hC31
      have H30' := H30.as (L' := [_, _, _]) rfl
      clear H30
      exact hK _ (fun _ => ⟨trivial, H30'⟩)
     refine WalkC.look rfl (fun _ => .bool (decide (((0 : Int) : Int) < e1))) (fun _ _ _ => rfl) (fun q r uw _ _ _ _ => Gives.run rfl (r_assign (v := .bool (decide (((0 : Int) : Int) < e1))) rfl) ⟨rfl, rfl⟩) ?_
     refine WalkC.nil ?_
     intro r32 w33 hF35
     obtain ⟨e10, H34⟩ := hF35
     dsimp only
     have hp1 : o.pt = 1 := by omega
     refine wnil ?_
     refine thenNormal ?_
     refine retAny ?_
     refine blockRet ?_
     refine thenRet ?_
     refine retG (rs := [.cell 4 129, .tmp 5]) (vs := [.agg x10, .bool (decide (((0 : Int) : Int) < e1))]) rfl ⟨r_loadA (cs' := x10) agg129 siz129 (H34.get (k := 0) rfl) (off := 0) rfl (by exact bLe rfl) (by rfl), ⟨rfl, rfl⟩, trivial⟩ ?_
     have hr : ruleS o e0 e1 = (⟨(0 : Int), (0 : Int), (1 : Int), e1, false, true, (1 : Int)⟩, decide (((0 : Int) : Int) < e1)) := by simp [ruleS, inK, k1, hp1]
     exact ⟨_, rfl, by rw [hr] <;> rfl, H34.chg⟩
   ·refine seqAny ?_
    by_cases hp : o.pt = 0
    ·refine drawC (m := 12) [0, 1, 3, 7, 15, 0, 32, 96, 224, 480, 31, 2047] [10] (fun q vs w' => match q, vs with | 0, [] => Hp No w w' [x3, x4, x2] | 1, [_] => True ∧ Hp No w w' [(rc b9 x5 129), x4, x2] | _, _ => False) mixed (by kernel_rfl) (by kernel_rfl) H11.drew ?_
     refine WalkC.look rfl (fun _ => .pointer x6) (fun _ _ _ => rfl) (fun q r uw _ _ _ _ => Gives.run rfl (r_fieldAddr (off' := 5) fld36_5 (by decide) (b := b1) (off := 0) rfl (by omega)) ⟨rfl, rfl⟩) ?_
     refine WalkC.look rfl (fun _ => i64 (o.pt)) (fun _ _ _ => rfl) (fun q r uw hlo hhi hle hF => ?_) ?_
     ·have h1 : 0 ≤ q := Nat.zero_le _
      have h2 : q ≤ 0 := hhi 0 10 rfl rfl
      rcases (show q = 0 by omega) with rfl
      ·have HH := hF
       exact Gives.run rfl (r_loadC (v := i64 (o.pt)) one3 (HH.get (k := 2) rfl) (off := 5) rfl (by rfl)) ⟨rfl, rfl⟩
     refine WalkC.look rfl (fun _ => pT b5) (fun _ _ _ => rfl) (fun q r uw _ _ _ _ => Gives.run rfl (r_indexA (off' := 0) (j := 0) arr29 (b := b5) (off := 0) rfl rfl (by first | rfl | omega | (simp; omega)) (by omega) (by omega)) ⟨rfl, rfl⟩) ?_
     refine WalkC.look rfl (fun _ => i64 e0) (fun _ _ _ => rfl) (fun q r uw hlo hhi hle hF => ?_) ?_
     ·have h1 : 0 ≤ q := Nat.zero_le _
      have h2 : q ≤ 0 := hhi 0 10 rfl rfl
      rcases (show q = 0 by omega) with rfl
      ·have HH := hF
       exact Gives.run rfl (r_ld1 (E := EI) (l := [e0, e1]) (j := 0) (a := e0) fits3 (HH.get (k := 1) rfl) (by rfl) rfl rfl) ⟨rfl, rfl⟩
     refine WalkC.look rfl (fun _ => .agg x5) (fun _ _ _ => rfl) (fun q r uw _ _ _ _ => Gives.run rfl (r_build (cs' := x5) (ps := [(2, i64 1), (3, i64 e0), (5, .bool true), (6, i64 1)]) zer129 pls129 rfl (by rfl)) ⟨rfl, rfl⟩) ?_
     refine WalkC.look rfl (fun _ => .pointer x6) (fun _ _ _ => rfl) (fun q r uw _ _ _ _ => Gives.run rfl (r_fieldAddr (off' := 5) fld36_5 (by decide) (b := b1) (off := 0) rfl (by omega)) ⟨rfl, rfl⟩) ?_
     refine WalkC.look rfl (fun _ => i64 (o.pt)) (fun _ _ _ => rfl) (fun q r uw hlo hhi hle hF => ?_) ?_
     ·have h1 : 0 ≤ q := Nat.zero_le _
      have h2 : q ≤ 1 := hle
      rcases (show q = 0 ∨ q = 1 by omega) with rfl | rfl
      ·have HH := hF
       exact Gives.run rfl (r_loadC (v := i64 (o.pt)) one3 (HH.get (k := 2) rfl) (off := 5) rfl (by rfl)) ⟨rfl, rfl⟩
      ·obtain ⟨e10, HH⟩ := hF
       exact Gives.run rfl (r_loadC (v := i64 (o.pt)) one3 (HH.get (k := 2) rfl) (off := 5) rfl (by rfl)) ⟨rfl, rfl⟩
     refine WalkC.look rfl (fun _ => pT b5) (fun _ _ _ => rfl) (fun q r uw _ _ _ _ => Gives.run rfl (r_indexA (off' := 0) (j := 0) arr29 (b := b5) (off := 0) rfl rfl (by first | rfl | omega | (simp; omega)) (by omega) (by omega)) ⟨rfl, rfl⟩) ?_
     refine WalkC.look rfl (fun _ => i64 e0) (fun _ _ _ => rfl) (fun q r uw hlo hhi hle hF => ?_) ?_
     ·have h1 : 0 ≤ q := Nat.zero_le _
      have h2 : q ≤ 1 := hle
      rcases (show q = 0 ∨ q = 1 by omega) with rfl | rfl
      ·have HH := hF
       exact Gives.run rfl (r_ld1 (E := EI) (l := [e0, e1]) (j := 0) (a := e0) fits3 (HH.get (k := 1) rfl) (by rfl) rfl rfl) ⟨rfl, rfl⟩
      ·obtain ⟨e10, HH⟩ := hF
       exact Gives.run rfl (r_ld1 (E := EI) (l := [e0, e1]) (j := 0) (a := e0) fits3 (HH.get (k := 1) rfl) (by rfl) rfl rfl) ⟨rfl, rfl⟩
     refine WalkC.look rfl (fun _ => .bool (decide (((0 : Int) : Int) < e0))) (fun _ _ _ => rfl) (fun q r uw _ _ _ _ => Gives.run rfl (r_gtrI (a := e0) (b := (0 : Int)) rfl rfl) ⟨rfl, rfl⟩) ?_
     refine WalkC.eff 0 rfl (fun r uw36 hF38 => ?_) ?_
     ·have H37 := hF38
      dsimp only [List.take, List.map, List.cons_append, List.nil_append]
      refine Gives.ofW0 rfl (fun Q' hK => ?_)
      refine d_store (k := 0) (v := .agg x5) (cs' := x5) H37 rfl rfl rfl siz129 (by rfl) (oneL rfl) (by exact bLe rfl) (by rfl) ?_
      intro w39 H40 hC41
      have H40' := H40.as (L' := [_, _, _]) rfl
      clear H40
      exact hK _ (fun _ => ⟨trivial, H40'⟩)
     refine WalkC.look rfl (fun _ => .bool (decide (((0 : Int) : Int) < e0))) (fun _ _ _ => rfl) (fun q r uw _ _ _ _ => Gives.run rfl (r_assign (v := .bool (decide (((0 : Int) : Int) < e0))) rfl) ⟨rfl, rfl⟩) ?_
     refine WalkC.nil ?_
     intro r42 w43 hF45
     obtain ⟨e10, H44⟩ := hF45
     dsimp only
     refine wnil ?_
     refine thenNormal ?_
     refine retAny ?_
     refine blockRet ?_
     refine thenRet ?_
     refine retG (rs := [.cell 4 129, .tmp 5]) (vs := [.agg x5, .bool (decide (((0 : Int) : Int) < e0))]) rfl ⟨r_loadA (cs' := x5) agg129 siz129 (H44.get (k := 0) rfl) (off := 0) rfl (by exact bLe rfl) (by rfl), ⟨rfl, rfl⟩, trivial⟩ ?_
     have hr : ruleS o e0 e1 = (⟨(0 : Int), (0 : Int), (1 : Int), e0, false, true, (1 : Int)⟩, decide (((0 : Int) : Int) < e0)) := by simp [ruleS, inK, k1, hp]
     exact ⟨_, rfl, by rw [hr] <;> rfl, H44.chg⟩
    ·refine drawC (m := 12) [0, 1, 3, 7, 15, 0, 32, 96, 224, 480, 31, 2047] [10] (fun q vs w' => match q, vs with | 0, [] => Hp No w w' [x3, x4, x2] | 1, [_] => True ∧ Hp No w w' [x7, x4, x2] | _, _ => False) mixed (by kernel_rfl) (by kernel_rfl) H11.drew ?_
     refine WalkC.look rfl (fun _ => .pointer x6) (fun _ _ _ => rfl) (fun q r uw _ _ _ _ => Gives.run rfl (r_fieldAddr (off' := 5) fld36_5 (by decide) (b := b1) (off := 0) rfl (by omega)) ⟨rfl, rfl⟩) ?_
     refine WalkC.look rfl (fun _ => i64 (o.pt)) (fun _ _ _ => rfl) (fun q r uw hlo hhi hle hF => ?_) ?_
     ·have h1 : 0 ≤ q := Nat.zero_le _
      have h2 : q ≤ 0 := hhi 0 10 rfl rfl
      rcases (show q = 0 by omega) with rfl
      ·have HH := hF
       exact Gives.run rfl (r_loadC (v := i64 (o.pt)) one3 (HH.get (k := 2) rfl) (off := 5) rfl (by rfl)) ⟨rfl, rfl⟩
     refine WalkC.look rfl (fun _ => .pointer x8) (fun _ _ _ => rfl) (fun q r uw _ _ _ _ => Gives.run rfl (r_indexA (off' := 1) (j := 1) arr29 (b := b5) (off := 0) rfl rfl (by first | rfl | omega | (simp; omega)) (by omega) (by omega)) ⟨rfl, rfl⟩) ?_
     refine WalkC.look rfl (fun _ => i64 e1) (fun _ _ _ => rfl) (fun q r uw hlo hhi hle hF => ?_) ?_
     ·have h1 : 0 ≤ q := Nat.zero_le _
      have h2 : q ≤ 0 := hhi 0 10 rfl rfl
      rcases (show q = 0 by omega) with rfl
      ·have HH := hF
       exact Gives.run rfl (r_ld1 (E := EI) (l := [e0, e1]) (j := 1) (a := e1) fits3 (HH.get (k := 1) rfl) (by rfl) rfl rfl) ⟨rfl, rfl⟩
     refine WalkC.look rfl (fun _ => .agg x10) (fun _ _ _ => rfl) (fun q r uw _ _ _ _ => Gives.run rfl (r_build (cs' := x10) (ps := [(2, i64 1), (3, i64 e1), (5, .bool true), (6, i64 1)]) zer129 pls129 rfl (by rfl)) ⟨rfl, rfl⟩) ?_
     refine WalkC.look rfl (fun _ => .pointer x6) (fun _ _ _ => rfl) (fun q r uw _ _ _ _ => Gives.run rfl (r_fieldAddr (off' := 5) fld36_5 (by decide) (b := b1) (off := 0) rfl (by omega)) ⟨rfl, rfl⟩) ?_
     refine WalkC.look rfl (fun _ => i64 (o.pt)) (fun _ _ _ => rfl) (fun q r uw hlo hhi hle hF => ?_) ?_
     ·have h1 : 0 ≤ q := Nat.zero_le _
      have h2 : q ≤ 1 := hle
      rcases (show q = 0 ∨ q = 1 by omega) with rfl | rfl
      ·have HH := hF
       exact Gives.run rfl (r_loadC (v := i64 (o.pt)) one3 (HH.get (k := 2) rfl) (off := 5) rfl (by rfl)) ⟨rfl, rfl⟩
      ·obtain ⟨e10, HH⟩ := hF
       exact Gives.run rfl (r_loadC (v := i64 (o.pt)) one3 (HH.get (k := 2) rfl) (off := 5) rfl (by rfl)) ⟨rfl, rfl⟩
     refine WalkC.look rfl (fun _ => .pointer x8) (fun _ _ _ => rfl) (fun q r uw _ _ _ _ => Gives.run rfl (r_indexA (off' := 1) (j := 1) arr29 (b := b5) (off := 0) rfl rfl (by first | rfl | omega | (simp; omega)) (by omega) (by omega)) ⟨rfl, rfl⟩) ?_
     refine WalkC.look rfl (fun _ => i64 e1) (fun _ _ _ => rfl) (fun q r uw hlo hhi hle hF => ?_) ?_
     ·have h1 : 0 ≤ q := Nat.zero_le _
      have h2 : q ≤ 1 := hle
      rcases (show q = 0 ∨ q = 1 by omega) with rfl | rfl
      ·have HH := hF
       exact Gives.run rfl (r_ld1 (E := EI) (l := [e0, e1]) (j := 1) (a := e1) fits3 (HH.get (k := 1) rfl) (by rfl) rfl rfl) ⟨rfl, rfl⟩
      ·obtain ⟨e10, HH⟩ := hF
       exact Gives.run rfl (r_ld1 (E := EI) (l := [e0, e1]) (j := 1) (a := e1) fits3 (HH.get (k := 1) rfl) (by rfl) rfl rfl) ⟨rfl, rfl⟩
     refine WalkC.look rfl (fun _ => .bool (decide (((0 : Int) : Int) < e1))) (fun _ _ _ => rfl) (fun q r uw _ _ _ _ => Gives.run rfl (r_gtrI (a := e1) (b := (0 : Int)) rfl rfl) ⟨rfl, rfl⟩) ?_
     refine WalkC.eff 0 rfl (fun r uw46 hF48 => ?_) ?_
     ·have H47 := hF48
      dsimp only [List.take, List.map, List.cons_append, List.nil_append]
      refine Gives.ofW0 rfl (fun Q' hK => ?_)
      refine d_store (k := 0) (v := .agg x10) (cs' := x10) H47 rfl rfl rfl siz129 (by rfl) (oneL rfl) (by exact bLe rfl) (by rfl) ?_
      intro w49 H50 hC51
      have H50' := H50.as (L' := [_, _, _]) rfl
      clear H50
      exact hK _ (fun _ => ⟨trivial, H50'⟩)
     refine WalkC.look rfl (fun _ => .bool (decide (((0 : Int) : Int) < e1))) (fun _ _ _ => rfl) (fun q r uw _ _ _ _ => Gives.run rfl (r_assign (v := .bool (decide (((0 : Int) : Int) < e1))) rfl) ⟨rfl, rfl⟩) ?_
     refine WalkC.nil ?_
     intro r52 w53 hF55
     obtain ⟨e10, H54⟩ := hF55
     dsimp only
     have hp1 : o.pt = 1 := by omega
     refine wnil ?_
     refine thenNormal ?_
     refine retAny ?_
     refine blockRet ?_
     refine thenRet ?_
     refine retG (rs := [.cell 4 129, .tmp 5]) (vs := [.agg x10, .bool (decide (((0 : Int) : Int) < e1))]) rfl ⟨r_loadA (cs' := x10) agg129 siz129 (H54.get (k := 0) rfl) (off := 0) rfl (by exact bLe rfl) (by rfl), ⟨rfl, rfl⟩, trivial⟩ ?_
     have hr : ruleS o e0 e1 = (⟨(0 : Int), (0 : Int), (1 : Int), e1, false, true, (1 : Int)⟩, decide (((0 : Int) : Int) < e1)) := by simp [ruleS, inK, k1, hp1]
     exact ⟨_, rfl, by rw [hr] <;> rfl, H54.chg⟩
 ·refine sR ?_
  refine sq (r_eqlI (a := o.kd) (b := (2 : Int)) rfl rfl) ?_
  refine sA (.bool (decide ((o.kd : Int) = (2 : Int)))) rfl ?_
  refine wend ?_
  refine condProp ((o.kd : Int) = (2 : Int)) rfl (fun k2 => ?_) (fun k2 => ?_)
  ·refine sR ?_
   refine sq (r_build (cs' := x23) (ps := [(2, i64 3), (4, .bool true)]) zer129 pls129 rfl (by rfl)) ?_
   refine d_store (k := 0) (v := .agg x23) (cs' := x23) H11 rfl rfl rfl siz129 (by rfl) (oneL rfl) (by exact bLe rfl) (by rfl) ?_
   intro w56 H57 hC58
   have H57' := H57.as (L' := [_, _, _]) rfl
   clear H57
   refine sA (.bool true) rfl ?_
   refine wend ?_
   refine retAny ?_
   refine blockRet ?_
   refine thenRet ?_
   refine retG (rs := [.cell 4 129, .tmp 5]) (vs := [.agg x23, .bool true]) rfl ⟨r_loadA (cs' := x23) agg129 siz129 (H57'.get (k := 0) rfl) (off := 0) rfl (by exact bLe rfl) (by rfl), ⟨rfl, rfl⟩, trivial⟩ ?_
   have hr : ruleS o e0 e1 = (⟨(0 : Int), (0 : Int), (3 : Int), (0 : Int), true, false, (0 : Int)⟩, true) := by simp [ruleS, k2]
   exact ⟨_, rfl, by rw [hr] <;> rfl, H57'.chg⟩
  ·refine seqAny ?_
   refine sR ?_
   refine sq (r_eqlI (a := o.kd) (b := (3 : Int)) rfl rfl) ?_
   refine sA (.bool (decide ((o.kd : Int) = (3 : Int)))) rfl ?_
   refine wend ?_
   refine condProp ((o.kd : Int) = (3 : Int)) rfl (fun k3 => ?_) (fun k3 => ?_)
   ·refine skipAny ?_
    refine thenNormal ?_
    refine condTrue (congrArg Value.bool (decide_eq_true k3)) ?_
    refine sR ?_
    refine sq (r_build (cs' := x11) (ps := [(0, i64 1), (1, i64 1), (2, i64 1)]) zer129 pls129 rfl (by rfl)) ?_
    refine d_store (k := 0) (v := .agg x11) (cs' := x11) H11 rfl rfl rfl siz129 (by rfl) (oneL rfl) (by exact bLe rfl) (by rfl) ?_
    intro w59 H60 hC61
    have H60' := H60.as (L' := [_, _, _]) rfl
    clear H60
    refine sA (.bool true) rfl ?_
    refine wend ?_
    refine retAny ?_
    refine blockRet ?_
    refine thenRet ?_
    refine retG (rs := [.cell 4 129, .tmp 5]) (vs := [.agg x11, .bool true]) rfl ⟨r_loadA (cs' := x11) agg129 siz129 (H60'.get (k := 0) rfl) (off := 0) rfl (by exact bLe rfl) (by rfl), ⟨rfl, rfl⟩, trivial⟩ ?_
    have hr : ruleS o e0 e1 = (⟨(1 : Int), (1 : Int), (1 : Int), (0 : Int), false, false, (0 : Int)⟩, true) := by simp [ruleS, k3]
    exact ⟨_, rfl, by rw [hr] <;> rfl, H60'.chg⟩
   ·refine oneRegion ?_
    refine sq (r_eqlI (a := o.kd) (b := (4 : Int)) rfl rfl) ?_
    refine sA (.bool (decide ((o.kd : Int) = (4 : Int)))) rfl ?_
    refine wnil ?_
    refine thenNormal ?_
    refine condProp ((o.kd : Int) = (4 : Int)) rfl (fun k4 => ?_) (fun k4 => ?_)
    ·refine sR ?_
     refine sq (r_build (cs' := x11) (ps := [(0, i64 1), (1, i64 1), (2, i64 1)]) zer129 pls129 rfl (by rfl)) ?_
     refine d_store (k := 0) (v := .agg x11) (cs' := x11) H11 rfl rfl rfl siz129 (by rfl) (oneL rfl) (by exact bLe rfl) (by rfl) ?_
     intro w62 H63 hC64
     have H63' := H63.as (L' := [_, _, _]) rfl
     clear H63
     refine sA (.bool true) rfl ?_
     refine wend ?_
     refine retAny ?_
     refine blockRet ?_
     refine thenRet ?_
     refine retG (rs := [.cell 4 129, .tmp 5]) (vs := [.agg x11, .bool true]) rfl ⟨r_loadA (cs' := x11) agg129 siz129 (H63'.get (k := 0) rfl) (off := 0) rfl (by exact bLe rfl) (by rfl), ⟨rfl, rfl⟩, trivial⟩ ?_
     have hr : ruleS o e0 e1 = (⟨(1 : Int), (1 : Int), (1 : Int), (0 : Int), false, false, (0 : Int)⟩, true) := by simp [ruleS, k4]
     exact ⟨_, rfl, by rw [hr] <;> rfl, H63'.chg⟩
    ·refine sR ?_
     refine sq (r_eqlI (a := o.kd) (b := (5 : Int)) rfl rfl) ?_
     refine sA (.bool (decide ((o.kd : Int) = (5 : Int)))) rfl ?_
     refine wend ?_
     refine condProp ((o.kd : Int) = (5 : Int)) rfl (fun k5 => ?_) (fun k5 => ?_)
     ·refine sR ?_
      refine sq (r_build (cs' := x24) (ps := [(0, i64 1), (2, i64 1), (4, .bool true)]) zer129 pls129 rfl (by rfl)) ?_
      refine d_store (k := 0) (v := .agg x24) (cs' := x24) H11 rfl rfl rfl siz129 (by rfl) (oneL rfl) (by exact bLe rfl) (by rfl) ?_
      intro w65 H66 hC67
      have H66' := H66.as (L' := [_, _, _]) rfl
      clear H66
      refine sA (.bool true) rfl ?_
      refine wend ?_
      refine retAny ?_
      refine blockRet ?_
      refine thenRet ?_
      refine retG (rs := [.cell 4 129, .tmp 5]) (vs := [.agg x24, .bool true]) rfl ⟨r_loadA (cs' := x24) agg129 siz129 (H66'.get (k := 0) rfl) (off := 0) rfl (by exact bLe rfl) (by rfl), ⟨rfl, rfl⟩, trivial⟩ ?_
      have hr : ruleS o e0 e1 = (⟨(1 : Int), (0 : Int), (1 : Int), (0 : Int), true, false, (0 : Int)⟩, true) := by simp [ruleS, k5]
      exact ⟨_, rfl, by rw [hr] <;> rfl, H66'.chg⟩
     ·refine sR ?_
      refine sq (r_eqlI (a := o.kd) (b := (6 : Int)) rfl rfl) ?_
      refine sA (.bool (decide ((o.kd : Int) = (6 : Int)))) rfl ?_
      refine wend ?_
      refine condProp ((o.kd : Int) = (6 : Int)) rfl (fun k6 => ?_) (fun k6 => ?_)
      ·refine sR ?_
       refine sq (r_build (cs' := x16) (ps := [(0, i64 1), (1, i64 1), (2, i64 1), (6, i64 1)]) zer129 pls129 rfl (by rfl)) ?_
       refine d_store (k := 0) (v := .agg x16) (cs' := x16) H11 rfl rfl rfl siz129 (by rfl) (oneL rfl) (by exact bLe rfl) (by rfl) ?_
       intro w68 H69 hC70
       have H69' := H69.as (L' := [_, _, _]) rfl
       clear H69
       refine sA (.bool true) rfl ?_
       refine wend ?_
       refine retAny ?_
       refine blockRet ?_
       refine thenRet ?_
       refine retG (rs := [.cell 4 129, .tmp 5]) (vs := [.agg x16, .bool true]) rfl ⟨r_loadA (cs' := x16) agg129 siz129 (H69'.get (k := 0) rfl) (off := 0) rfl (by exact bLe rfl) (by rfl), ⟨rfl, rfl⟩, trivial⟩ ?_
       have hr : ruleS o e0 e1 = (⟨(1 : Int), (1 : Int), (1 : Int), (0 : Int), false, false, (1 : Int)⟩, true) := by simp [ruleS, k6]
       exact ⟨_, rfl, by rw [hr] <;> rfl, H69'.chg⟩
      ·refine sR ?_
       refine sq (r_eqlI (a := o.kd) (b := (7 : Int)) rfl rfl) ?_
       refine sA (.bool (decide ((o.kd : Int) = (7 : Int)))) rfl ?_
       refine wend ?_
       refine condProp ((o.kd : Int) = (7 : Int)) rfl (fun k7 => ?_) (fun k7 => ?_)
       ·refine sR ?_
        refine sq (r_build (cs' := x17) (ps := [(0, i64 2), (1, i64 2), (2, i64 2)]) zer129 pls129 rfl (by rfl)) ?_
        refine d_store (k := 0) (v := .agg x17) (cs' := x17) H11 rfl rfl rfl siz129 (by rfl) (oneL rfl) (by exact bLe rfl) (by rfl) ?_
        intro w71 H72 hC73
        have H72' := H72.as (L' := [_, _, _]) rfl
        clear H72
        refine sA (.bool true) rfl ?_
        refine wend ?_
        refine retAny ?_
        refine blockRet ?_
        refine thenRet ?_
        refine retG (rs := [.cell 4 129, .tmp 5]) (vs := [.agg x17, .bool true]) rfl ⟨r_loadA (cs' := x17) agg129 siz129 (H72'.get (k := 0) rfl) (off := 0) rfl (by exact bLe rfl) (by rfl), ⟨rfl, rfl⟩, trivial⟩ ?_
        have hr : ruleS o e0 e1 = (⟨(2 : Int), (2 : Int), (2 : Int), (0 : Int), false, false, (0 : Int)⟩, true) := by simp [ruleS, k7]
        exact ⟨_, rfl, by rw [hr] <;> rfl, H72'.chg⟩
       ·refine seqAny ?_
        refine sR ?_
        refine sq (r_eqlI (a := o.kd) (b := (8 : Int)) rfl rfl) ?_
        refine sA (.bool (decide ((o.kd : Int) = (8 : Int)))) rfl ?_
        refine wend ?_
        refine condProp ((o.kd : Int) = (8 : Int)) rfl (fun k8 => ?_) (fun k8 => ?_)
        ·refine skipAny ?_
         refine thenNormal ?_
         refine condTrue (congrArg Value.bool (decide_eq_true k8)) ?_
         refine sR ?_
         refine sq (r_build (cs' := x12) (ps := [(0, i64 2), (2, i64 2), (4, .bool true)]) zer129 pls129 rfl (by rfl)) ?_
         refine d_store (k := 0) (v := .agg x12) (cs' := x12) H11 rfl rfl rfl siz129 (by rfl) (oneL rfl) (by exact bLe rfl) (by rfl) ?_
         intro w74 H75 hC76
         have H75' := H75.as (L' := [_, _, _]) rfl
         clear H75
         refine sA (.bool true) rfl ?_
         refine wend ?_
         refine retAny ?_
         refine blockRet ?_
         refine thenRet ?_
         refine retG (rs := [.cell 4 129, .tmp 5]) (vs := [.agg x12, .bool true]) rfl ⟨r_loadA (cs' := x12) agg129 siz129 (H75'.get (k := 0) rfl) (off := 0) rfl (by exact bLe rfl) (by rfl), ⟨rfl, rfl⟩, trivial⟩ ?_
         have hr : ruleS o e0 e1 = (⟨(2 : Int), (0 : Int), (2 : Int), (0 : Int), true, false, (0 : Int)⟩, true) := by simp [ruleS, k8]
         exact ⟨_, rfl, by rw [hr] <;> rfl, H75'.chg⟩
        ·refine oneRegion ?_
         refine sq (r_eqlI (a := o.kd) (b := (10 : Int)) rfl rfl) ?_
         refine sA (.bool (decide ((o.kd : Int) = (10 : Int)))) rfl ?_
         refine wnil ?_
         refine thenNormal ?_
         refine condProp ((o.kd : Int) = (10 : Int)) rfl (fun k10 => ?_) (fun k10 => ?_)
         ·refine sR ?_
          refine sq (r_build (cs' := x12) (ps := [(0, i64 2), (2, i64 2), (4, .bool true)]) zer129 pls129 rfl (by rfl)) ?_
          refine d_store (k := 0) (v := .agg x12) (cs' := x12) H11 rfl rfl rfl siz129 (by rfl) (oneL rfl) (by exact bLe rfl) (by rfl) ?_
          intro w77 H78 hC79
          have H78' := H78.as (L' := [_, _, _]) rfl
          clear H78
          refine sA (.bool true) rfl ?_
          refine wend ?_
          refine retAny ?_
          refine blockRet ?_
          refine thenRet ?_
          refine retG (rs := [.cell 4 129, .tmp 5]) (vs := [.agg x12, .bool true]) rfl ⟨r_loadA (cs' := x12) agg129 siz129 (H78'.get (k := 0) rfl) (off := 0) rfl (by exact bLe rfl) (by rfl), ⟨rfl, rfl⟩, trivial⟩ ?_
          have hr : ruleS o e0 e1 = (⟨(2 : Int), (0 : Int), (2 : Int), (0 : Int), true, false, (0 : Int)⟩, true) := by simp [ruleS, k10]
          exact ⟨_, rfl, by rw [hr] <;> rfl, H78'.chg⟩
         ·refine sR ?_
          refine sq (r_eqlI (a := o.kd) (b := (9 : Int)) rfl rfl) ?_
          refine sA (.bool (decide ((o.kd : Int) = (9 : Int)))) rfl ?_
          refine wend ?_
          refine condProp ((o.kd : Int) = (9 : Int)) rfl (fun k9 => ?_) (fun k9 => ?_)
          ·refine sR ?_
           refine sq (r_build (cs' := x18) (ps := [(0, i64 2), (1, i64 2), (2, i64 2), (6, i64 1)]) zer129 pls129 rfl (by rfl)) ?_
           refine d_store (k := 0) (v := .agg x18) (cs' := x18) H11 rfl rfl rfl siz129 (by rfl) (oneL rfl) (by exact bLe rfl) (by rfl) ?_
           intro w80 H81 hC82
           have H81' := H81.as (L' := [_, _, _]) rfl
           clear H81
           refine sA (.bool true) rfl ?_
           refine wend ?_
           refine retAny ?_
           refine blockRet ?_
           refine thenRet ?_
           refine retG (rs := [.cell 4 129, .tmp 5]) (vs := [.agg x18, .bool true]) rfl ⟨r_loadA (cs' := x18) agg129 siz129 (H81'.get (k := 0) rfl) (off := 0) rfl (by exact bLe rfl) (by rfl), ⟨rfl, rfl⟩, trivial⟩ ?_
           have hr : ruleS o e0 e1 = (⟨(2 : Int), (2 : Int), (2 : Int), (0 : Int), false, false, (1 : Int)⟩, true) := by simp [ruleS, k9]
           exact ⟨_, rfl, by rw [hr] <;> rfl, H81'.chg⟩
          ·refine seqAny ?_
           refine sR ?_
           refine sq (r_eqlI (a := o.kd) (b := (11 : Int)) rfl rfl) ?_
           refine sA (.bool (decide ((o.kd : Int) = (11 : Int)))) rfl ?_
           refine wend ?_
           refine condProp ((o.kd : Int) = (11 : Int)) rfl (fun k11 => ?_) (fun k11 => ?_)
           ·refine skipAny ?_
            refine thenNormal ?_
            refine condTrue (congrArg Value.bool (decide_eq_true k11)) ?_
            refine sR ?_
            refine sq (r_build (cs' := x1) (ps := [(0, i64 2), (2, i64 2), (3, i64 64)]) zer129 pls129 rfl (by rfl)) ?_
            refine d_store (k := 0) (v := .agg x1) (cs' := x1) H11 rfl rfl rfl siz129 (by rfl) (oneL rfl) (by exact bLe rfl) (by rfl) ?_
            intro w83 H84 hC85
            have H84' := H84.as (L' := [_, _, _]) rfl
            clear H84
            refine sA (.bool true) rfl ?_
            refine wend ?_
            refine retAny ?_
            refine blockRet ?_
            refine thenRet ?_
            refine retG (rs := [.cell 4 129, .tmp 5]) (vs := [.agg x1, .bool true]) rfl ⟨r_loadA (cs' := x1) agg129 siz129 (H84'.get (k := 0) rfl) (off := 0) rfl (by exact bLe rfl) (by rfl), ⟨rfl, rfl⟩, trivial⟩ ?_
            have hr : ruleS o e0 e1 = (⟨(2 : Int), (0 : Int), (2 : Int), (64 : Int), false, false, (0 : Int)⟩, true) := by simp [ruleS, k11]
            exact ⟨_, rfl, by rw [hr] <;> rfl, H84'.chg⟩
           ·refine sR ?_
            refine sq (r_eqlI (a := o.kd) (b := (12 : Int)) rfl rfl) ?_
            refine sA (.bool (decide ((o.kd : Int) = (12 : Int)))) rfl ?_
            refine wend ?_
            refine condProp ((o.kd : Int) = (12 : Int)) rfl (fun k12 => ?_) (fun k12 => ?_)
            ·refine skipAny ?_
             refine thenNormal ?_
             refine condTrue (congrArg Value.bool (decide_eq_true k12)) ?_
             refine sR ?_
             refine sq (r_build (cs' := x1) (ps := [(0, i64 2), (2, i64 2), (3, i64 64)]) zer129 pls129 rfl (by rfl)) ?_
             refine d_store (k := 0) (v := .agg x1) (cs' := x1) H11 rfl rfl rfl siz129 (by rfl) (oneL rfl) (by exact bLe rfl) (by rfl) ?_
             intro w86 H87 hC88
             have H87' := H87.as (L' := [_, _, _]) rfl
             clear H87
             refine sA (.bool true) rfl ?_
             refine wend ?_
             refine retAny ?_
             refine blockRet ?_
             refine thenRet ?_
             refine retG (rs := [.cell 4 129, .tmp 5]) (vs := [.agg x1, .bool true]) rfl ⟨r_loadA (cs' := x1) agg129 siz129 (H87'.get (k := 0) rfl) (off := 0) rfl (by exact bLe rfl) (by rfl), ⟨rfl, rfl⟩, trivial⟩ ?_
             have hr : ruleS o e0 e1 = (⟨(2 : Int), (0 : Int), (2 : Int), (64 : Int), false, false, (0 : Int)⟩, true) := by simp [ruleS, k12]
             exact ⟨_, rfl, by rw [hr] <;> rfl, H87'.chg⟩
            ·refine oneRegion ?_
             refine sq (r_eqlI (a := o.kd) (b := (13 : Int)) rfl rfl) ?_
             refine sA (.bool (decide ((o.kd : Int) = (13 : Int)))) rfl ?_
             refine wnil ?_
             refine thenNormal ?_
             refine condProp ((o.kd : Int) = (13 : Int)) rfl (fun k13 => ?_) (fun k13 => ?_)
             ·refine sR ?_
              refine sq (r_build (cs' := x1) (ps := [(0, i64 2), (2, i64 2), (3, i64 64)]) zer129 pls129 rfl (by rfl)) ?_
              refine d_store (k := 0) (v := .agg x1) (cs' := x1) H11 rfl rfl rfl siz129 (by rfl) (oneL rfl) (by exact bLe rfl) (by rfl) ?_
              intro w89 H90 hC91
              have H90' := H90.as (L' := [_, _, _]) rfl
              clear H90
              refine sA (.bool true) rfl ?_
              refine wend ?_
              refine retAny ?_
              refine blockRet ?_
              refine thenRet ?_
              refine retG (rs := [.cell 4 129, .tmp 5]) (vs := [.agg x1, .bool true]) rfl ⟨r_loadA (cs' := x1) agg129 siz129 (H90'.get (k := 0) rfl) (off := 0) rfl (by exact bLe rfl) (by rfl), ⟨rfl, rfl⟩, trivial⟩ ?_
              have hr : ruleS o e0 e1 = (⟨(2 : Int), (0 : Int), (2 : Int), (64 : Int), false, false, (0 : Int)⟩, true) := by simp [ruleS, k13]
              exact ⟨_, rfl, by rw [hr] <;> rfl, H90'.chg⟩
             ·refine sR ?_
              refine sq (r_eqlI (a := o.kd) (b := (14 : Int)) rfl rfl) ?_
              refine sA (.bool (decide ((o.kd : Int) = (14 : Int)))) rfl ?_
              refine wend ?_
              refine condProp ((o.kd : Int) = (14 : Int)) rfl (fun k14 => ?_) (fun k14 => ?_)
              ·refine sR ?_
               refine sq (r_build (cs' := x19) (ps := [(0, i64 2), (2, i64 2)]) zer129 pls129 rfl (by rfl)) ?_
               refine d_store (k := 0) (v := .agg x19) (cs' := x19) H11 rfl rfl rfl siz129 (by rfl) (oneL rfl) (by exact bLe rfl) (by rfl) ?_
               intro w92 H93 hC94
               have H93' := H93.as (L' := [_, _, _]) rfl
               clear H93
               refine sA (.bool true) rfl ?_
               refine wend ?_
               refine retAny ?_
               refine blockRet ?_
               refine thenRet ?_
               refine retG (rs := [.cell 4 129, .tmp 5]) (vs := [.agg x19, .bool true]) rfl ⟨r_loadA (cs' := x19) agg129 siz129 (H93'.get (k := 0) rfl) (off := 0) rfl (by exact bLe rfl) (by rfl), ⟨rfl, rfl⟩, trivial⟩ ?_
               have hr : ruleS o e0 e1 = (⟨(2 : Int), (0 : Int), (2 : Int), (0 : Int), false, false, (0 : Int)⟩, true) := by simp [ruleS, k14]
               exact ⟨_, rfl, by rw [hr] <;> rfl, H93'.chg⟩
              ·refine sR ?_
               refine sq (r_eqlI (a := o.kd) (b := (15 : Int)) rfl rfl) ?_
               refine sA (.bool (decide ((o.kd : Int) = (15 : Int)))) rfl ?_
               refine wend ?_
               refine condProp ((o.kd : Int) = (15 : Int)) rfl (fun k15 => ?_) (fun k15 => ?_)
               ·refine sR ?_
                refine sq (r_build (cs' := x25) (ps := [(0, i64 1), (2, i64 2), (5, .bool true)]) zer129 pls129 rfl (by rfl)) ?_
                refine d_store (k := 0) (v := .agg x25) (cs' := x25) H11 rfl rfl rfl siz129 (by rfl) (oneL rfl) (by exact bLe rfl) (by rfl) ?_
                intro w95 H96 hC97
                have H96' := H96.as (L' := [_, _, _]) rfl
                clear H96
                refine sA (.bool true) rfl ?_
                refine wend ?_
                refine retAny ?_
                refine blockRet ?_
                refine thenRet ?_
                refine retG (rs := [.cell 4 129, .tmp 5]) (vs := [.agg x25, .bool true]) rfl ⟨r_loadA (cs' := x25) agg129 siz129 (H96'.get (k := 0) rfl) (off := 0) rfl (by exact bLe rfl) (by rfl), ⟨rfl, rfl⟩, trivial⟩ ?_
                have hr : ruleS o e0 e1 = (⟨(1 : Int), (0 : Int), (2 : Int), (0 : Int), false, true, (0 : Int)⟩, true) := by simp [ruleS, k15]
                exact ⟨_, rfl, by rw [hr] <;> rfl, H96'.chg⟩
               ·refine sR ?_
                refine sq (r_eqlI (a := o.kd) (b := (16 : Int)) rfl rfl) ?_
                refine sA (.bool (decide ((o.kd : Int) = (16 : Int)))) rfl ?_
                refine wend ?_
                refine condProp ((o.kd : Int) = (16 : Int)) rfl (fun k16 => ?_) (fun k16 => ?_)
                ·refine sR ?_
                 refine sq (r_build (cs' := x20) (ps := [(0, i64 2), (2, i64 1), (3, i64 64), (5, .bool true)]) zer129 pls129 rfl (by rfl)) ?_
                 refine d_store (k := 0) (v := .agg x20) (cs' := x20) H11 rfl rfl rfl siz129 (by rfl) (oneL rfl) (by exact bLe rfl) (by rfl) ?_
                 intro w98 H99 hC100
                 have H99' := H99.as (L' := [_, _, _]) rfl
                 clear H99
                 refine sA (.bool true) rfl ?_
                 refine wend ?_
                 refine retAny ?_
                 refine blockRet ?_
                 refine thenRet ?_
                 refine retG (rs := [.cell 4 129, .tmp 5]) (vs := [.agg x20, .bool true]) rfl ⟨r_loadA (cs' := x20) agg129 siz129 (H99'.get (k := 0) rfl) (off := 0) rfl (by exact bLe rfl) (by rfl), ⟨rfl, rfl⟩, trivial⟩ ?_
                 have hr : ruleS o e0 e1 = (⟨(2 : Int), (0 : Int), (1 : Int), (64 : Int), false, true, (0 : Int)⟩, true) := by simp [ruleS, k16]
                 exact ⟨_, rfl, by rw [hr] <;> rfl, H99'.chg⟩
                ·refine sR ?_
                 refine sq (r_eqlI (a := o.kd) (b := (17 : Int)) rfl rfl) ?_
                 refine sA (.bool (decide ((o.kd : Int) = (17 : Int)))) rfl ?_
                 refine wend ?_
                 refine condProp ((o.kd : Int) = (17 : Int)) rfl (fun k17 => ?_) (fun k17 => ?_)
                 ·refine sR ?_
                  refine sq (r_loadA (cs' := x15) agg36 siz36 (H11.get (k := 2) rfl) (off := 0) rfl (by exact bLe rfl) (by rfl)) ?_
                  refine c_call (vs := [.agg x15]) call63 rfl (grule_ok o w10 (Chg.gl H11.chg (fun x => x) hG)) ?_
                  rintro _ w101 ⟨rfl, hE102⟩
                  have H103 := H11.ext hE102
                  refine sq (r_extract (vs := #[.agg x9, .bool ((gruS o).2)]) rfl rfl) ?_
                  refine sq (r_extract (vs := #[.agg x9, .bool ((gruS o).2)]) rfl rfl) ?_
                  refine d_store (k := 0) (v := .agg x9) (cs' := x9) H103 rfl rfl rfl siz129 (by rfl) (oneL rfl) (by exact bLe rfl) (by rfl) ?_
                  intro w104 H105 hC106
                  have H105' := H105.as (L' := [_, _, _]) rfl
                  clear H105
                  refine sA (.bool ((gruS o).2)) rfl ?_
                  refine wend ?_
                  refine retAny ?_
                  refine blockRet ?_
                  refine thenRet ?_
                  refine retG (rs := [.cell 4 129, .tmp 5]) (vs := [.agg x9, .bool ((gruS o).2)]) rfl ⟨r_loadA (cs' := x9) agg129 siz129 (H105'.get (k := 0) rfl) (off := 0) rfl (by exact bLe rfl) (by rfl), ⟨rfl, rfl⟩, trivial⟩ ?_
                  exact ⟨_, rfl, by rw [show ruleS o e0 e1 = gruS o from by simp [ruleS, k17]] <;> rfl, H105'.chg⟩
                 ·refine sR ?_
                  refine sq (r_eqlI (a := o.kd) (b := (18 : Int)) rfl rfl) ?_
                  refine sA (.bool (decide ((o.kd : Int) = (18 : Int)))) rfl ?_
                  refine wend ?_
                  refine condProp ((o.kd : Int) = (18 : Int)) rfl (fun k18 => ?_) (fun k18 => ?_)
                  ·refine sR ?_
                   refine sq (r_build (cs' := x21) (ps := [(0, i64 1), (6, i64 1)]) zer129 pls129 rfl (by rfl)) ?_
                   refine d_store (k := 0) (v := .agg x21) (cs' := x21) H11 rfl rfl rfl siz129 (by rfl) (oneL rfl) (by exact bLe rfl) (by rfl) ?_
                   intro w107 H108 hC109
                   have H108' := H108.as (L' := [_, _, _]) rfl
                   clear H108
                   refine sA (.bool true) rfl ?_
                   refine wend ?_
                   refine retAny ?_
                   refine blockRet ?_
                   refine thenRet ?_
                   refine retG (rs := [.cell 4 129, .tmp 5]) (vs := [.agg x21, .bool true]) rfl ⟨r_loadA (cs' := x21) agg129 siz129 (H108'.get (k := 0) rfl) (off := 0) rfl (by exact bLe rfl) (by rfl), ⟨rfl, rfl⟩, trivial⟩ ?_
                   have hr : ruleS o e0 e1 = (⟨(1 : Int), (0 : Int), (0 : Int), (0 : Int), false, false, (1 : Int)⟩, true) := by simp [ruleS, k18]
                   exact ⟨_, rfl, by rw [hr] <;> rfl, H108'.chg⟩
                  ·refine sR ?_
                   refine sq (r_eqlI (a := o.kd) (b := (19 : Int)) rfl rfl) ?_
                   refine sA (.bool (decide ((o.kd : Int) = (19 : Int)))) rfl ?_
                   refine wend ?_
                   refine condProp ((o.kd : Int) = (19 : Int)) rfl (fun k19 => ?_) (fun k19 => ?_)
                   ·refine sR ?_
                    refine sq (r_build (cs' := x22) (ps := [(0, i64 2), (6, i64 1)]) zer129 pls129 rfl (by rfl)) ?_
                    refine d_store (k := 0) (v := .agg x22) (cs' := x22) H11 rfl rfl rfl siz129 (by rfl) (oneL rfl) (by exact bLe rfl) (by rfl) ?_
                    intro w110 H111 hC112
                    have H111' := H111.as (L' := [_, _, _]) rfl
                    clear H111
                    refine sA (.bool true) rfl ?_
                    refine wend ?_
                    refine retAny ?_
                    refine blockRet ?_
                    refine thenRet ?_
                    refine retG (rs := [.cell 4 129, .tmp 5]) (vs := [.agg x22, .bool true]) rfl ⟨r_loadA (cs' := x22) agg129 siz129 (H111'.get (k := 0) rfl) (off := 0) rfl (by exact bLe rfl) (by rfl), ⟨rfl, rfl⟩, trivial⟩ ?_
                    have hr : ruleS o e0 e1 = (⟨(2 : Int), (0 : Int), (0 : Int), (0 : Int), false, false, (1 : Int)⟩, true) := by simp [ruleS, k19]
                    exact ⟨_, rfl, by rw [hr] <;> rfl, H111'.chg⟩
                   ·refine skipAny ?_
                    refine blockNormal ?_
                    refine thenNormal ?_
                    refine sR ?_
                    refine sq (r_build (cs' := x14) (ps := []) zer129 pls129 rfl (by rfl)) ?_
                    refine d_store (k := 0) (v := .agg x14) (cs' := x13) H11 rfl rfl rfl siz129 (by rfl) (oneL rfl) (by exact bLe rfl) (by rfl) ?_
                    intro w113 H114 hC115
                    have H114' := H114.as (L' := [_, _, _]) rfl
                    clear H114
                    refine sA (.bool false) rfl ?_
                    refine wend ?_
                    refine retAny ?_
                    refine retG (rs := [.cell 4 129, .tmp 5]) (vs := [.agg x13, .bool false]) rfl ⟨r_loadA (cs' := x13) agg129 siz129 (H114'.get (k := 0) rfl) (off := 0) rfl (by exact bLe rfl) (by rfl), ⟨rfl, rfl⟩, trivial⟩ ?_
                    have hr : ruleS o e0 e1 = (⟨(0 : Int), (0 : Int), (0 : Int), (0 : Int), false, false, (0 : Int)⟩, false) := by simp [ruleS, k1, k2, k3, k4, k5, k6, k7, k8, k10, k9, k11, k12, k13, k14, k15, k16, k17, k18, k19, ru0]
                    exact ⟨_, rfl, by rw [hr] <;> rfl, H114'.chg⟩
theorem wants_ok (ops : List Mo) (i : Nat) (at' q : Int) (fa : Option Addr) (fc : Nat) (w : World) (hF : Rd EI w fa (formL ops i)) : Calls Tryz.prog 43 [.slice fa i fc, i64 at', i64 q].toArray w (Ret fun v w' => v = .bool (wantB ops i at' q) ∧ Ext w w') := by
 have H := Hp.start No w
 refine enter (n := 27) Tryz.func43 rfl rfl (bLe rfl) ?_
 refine sR ?_
 refine sA (.bool false) rfl ?_
 refine wend ?_
 refine seqAny ?_
 refine sR ?_
 refine sM (i64 q) rfl ?_
 refine sq (r_eqlI (a := q) (b := (0 : Int)) rfl rfl) ?_
 refine wend ?_
 refine condProp ((q : Int) = (0 : Int)) rfl (fun c8 => ?_) (fun c8 => ?_)
 ·refine sR ?_
  refine sM (i64 at') rfl ?_
  refine sq (r_eqlI (a := at') (b := (0 : Int)) rfl rfl) ?_
  refine sA (.bool (decide ((at' : Int) = (0 : Int)))) rfl ?_
  refine wend ?_
  refine retAny ?_
  refine thenRet ?_
  refine rG1 6 (.bool (decide ((at' : Int) = (0 : Int)))) rfl ⟨rfl, rfl⟩ ?_
  exact ⟨_, rfl, congrArg Value.bool (want_zero c8), H.chg⟩
 ·refine skipAny ?_
  refine thenNormal ?_
  refine sR ?_
  refine sM (i64 at') rfl ?_
  refine sq (r_geqI (a := at') (b := (0 : Int)) rfl rfl) ?_
  refine sM (.bool (decide (((0 : Int) : Int) ≤ at'))) rfl ?_
  refine sqGv (B := (decide (((0 : Int) : Int) ≤ at'))) (v := i64 at') (wantedG (d' := 13) (B := true) rfl rfl rfl) (fun hB => r_move (v := i64 at') rfl) ?_
  refine sqGv (B := (decide (((0 : Int) : Int) ≤ at'))) (v := .slice fa i fc) (wantedG (d' := 13) (B := true) rfl rfl rfl) (fun hB => r_move (v := .slice fa i fc) rfl) ?_
  refine sqGv (B := (decide (((0 : Int) : Int) ≤ at'))) (v := iN i) (wantedG (d' := 13) (B := true) rfl rfl rfl) (fun hB => by simp only [gvT (v := _) (h := hB)]; exact r_lenS sli74 (a := fa) (m := i) (c := fc) rfl) ?_
  refine sqGv (B := (decide (((0 : Int) : Int) ≤ at'))) (v := .bool (decide ((at' : Int) < (i : Nat)))) (wantedG (d' := 13) (B := true) rfl rfl rfl) (fun hB => by simp only [gvT (v := _) (h := hB)]; exact r_lssI (a := at') (b := (i : Nat)) rfl rfl) ?_
  refine sq (r_pickAnd (B := true) rfl rfl rfl rfl) ?_
  refine sM (.bool ((decide (((0 : Int) : Int) ≤ at') && decide ((at' : Int) < (i : Nat))))) rfl ?_
  refine sqGv (B := ((decide (((0 : Int) : Int) ≤ at') && decide ((at' : Int) < (i : Nat))))) (v := .slice fa i fc) (wantedG (d' := 19) (B := true) rfl rfl rfl) (fun hB => r_move (v := .slice fa i fc) rfl) ?_
  refine sqGv (B := ((decide (((0 : Int) : Int) ≤ at') && decide ((at' : Int) < (i : Nat))))) (v := i64 at') (wantedG (d' := 19) (B := true) rfl rfl rfl) (fun hB => r_move (v := i64 at') rfl) ?_
  refine sqGv (B := ((decide (((0 : Int) : Int) ≤ at') && decide ((at' : Int) < (i : Nat))))) (v := .pointer (adr fa (at'.toNat * 1))) (wantedG (d' := 19) (B := true) rfl rfl rfl) (fun hB => by have hB2 := hB; simp only [Bool.and_eq_true, decide_eq_true_eq] at hB2; simp only [gvT (v := _) (h := hB)]; exact r_idxS (E := EI) (l := formL ops i) (j := at'.toNat) sli74 (hF.ext H.chg) rfl rfl (by omega) (by exact (formL_len ops i).symm) (by rw [formL_len]; omega)) ?_
  refine sqGv (B := ((decide (((0 : Int) : Int) ≤ at') && decide ((at' : Int) < (i : Nat))))) (v := i64 ((formL ops i).getD at'.toNat 0)) (wantedG (d' := 19) (B := true) rfl rfl rfl) (fun hB => by have hB2 := hB; simp only [Bool.and_eq_true, decide_eq_true_eq] at hB2; simp only [gvT (v := _) (h := hB)]; exact r_ldS (E := EI) (l := formL ops i) (j := at'.toNat) (v := (formL ops i).getD at'.toNat 0) fits127 (hF.ext H.chg) rfl rfl (at_getD (by rw [formL_len]; omega))) ?_
  refine sqGv (B := ((decide (((0 : Int) : Int) ≤ at') && decide ((at' : Int) < (i : Nat))))) (v := i64 q) (wantedG (d' := 19) (B := true) rfl rfl rfl) (fun hB => r_move (v := i64 q) rfl) ?_
  refine caGv (B := ((decide (((0 : Int) : Int) ≤ at') && decide ((at' : Int) < (i : Nat))))) (v := .bool (fitB ((formL ops i).getD at'.toNat 0) q)) (wantedG (d' := 19) (B := true) rfl rfl rfl) (fun hB => by simp only [gvT (v := _) (h := hB)]; exact Enters.callL (vs := [i64 ((formL ops i).getD at'.toNat 0), i64 q]) call64 rfl) (fun hB => by exact fits_ok ((formL ops i).getD at'.toNat 0) q w) ?_
  intro w1 hE2
  have H3 := H.ext hE2
  refine sq (r_pickAnd (B := true) rfl rfl rfl rfl) ?_
  refine sA (.bool (((decide (((0 : Int) : Int) ≤ at') && decide ((at' : Int) < (i : Nat))) && fitB ((formL ops i).getD at'.toNat 0) q))) rfl ?_
  refine wend ?_
  refine retAny ?_
  refine rG1 6 (.bool (((decide (((0 : Int) : Int) ≤ at') && decide ((at' : Int) < (i : Nat))) && fitB ((formL ops i).getD at'.toNat 0) q))) rfl ⟨rfl, rfl⟩ ?_
  exact ⟨_, rfl, congrArg Value.bool (want_some c8), H3.chg⟩
end Go.Proofs.YtohngnahcgbfmaaGreatDoor.Mi
namespace Go.Proofs.YtohngnahcgbfmaaGreatDoor.Mi
open Go Go.Proofs.YtohngnahcgbfmaaGreatDoor.Vc Go.Proofs.YtohngnahcgbfmaaGreatDoor.Er Go.Proofs.YtohngnahcgbfmaaGreatDoor.Ek Go.Proofs.YtohngnahcgbfmaaGreatDoor.Circ
set_option linter.unusedVariables false
theorem byt127 : byt Tryz.prog 127 = some 8 := by kernel_rfl
theorem byt3 : byt Tryz.prog 3 = some 8 := by kernel_rfl
theorem call22 : callable Tryz.prog 22 = true := by kernel_rfl
theorem call32 : callable Tryz.prog 32 = true := by kernel_rfl
theorem call42 : callable Tryz.prog 42 = true := by kernel_rfl
theorem call43 : callable Tryz.prog 43 = true := by kernel_rfl
theorem fits36 : Fits Tryz.prog 36 EMo := fitsMo (by kernel_rfl) (by kernel_rfl)
theorem fld129_0 : fld Tryz.prog 129 0 = some (0, 1, 127) := by kernel_rfl
theorem fld129_2 : fld Tryz.prog 129 2 = some (2, 1, 127) := by kernel_rfl
theorem fld129_3 : fld Tryz.prog 129 3 = some (3, 1, 3) := by kernel_rfl
theorem fld129_4 : fld Tryz.prog 129 4 = some (4, 1, 4) := by kernel_rfl
theorem fld129_5 : fld Tryz.prog 129 5 = some (5, 1, 4) := by kernel_rfl
theorem fld36_1 : fld Tryz.prog 36 1 = some (1, 1, 3) := by kernel_rfl
theorem fld36_2 : fld Tryz.prog 36 2 = some (2, 1, 3) := by kernel_rfl
theorem one127 : isOne Tryz.prog 127 = true := by kernel_rfl
theorem one4 : isOne Tryz.prog 4 = true := by kernel_rfl
theorem siz3 : siz Tryz.prog 3 = some 1 := by kernel_rfl
theorem sli100 : sli Tryz.prog 100 = some (3, 1) := by kernel_rfl
theorem sli22 : sli Tryz.prog 22 = some (36, 6) := by kernel_rfl
theorem und63 : Tryz.prog.underlying 63 = some (.int .i64) := by kernel_rfl
theorem zer127 : zer Tryz.prog 127 = some (.int .i64 0) := by kernel_rfl
theorem zer3 : zer Tryz.prog 3 = some (.int .i64 0) := by kernel_rfl
theorem zer36 : zer Tryz.prog 36 = some (.agg #[.int .i64 0, .int .i64 0, .int .i64 0, .int .i64 0, .int .u64 0, .int .i64 0]) := by kernel_rfl
set_option maxHeartbeats 8000000 in
theorem forms_ok (ops : List Mo) (oa : Option Addr) (oc : Nat) (e0 e1 : Int) (w : World) (hG : Gl w) (hO : Rd EMo w oa ops) (hol : ops.length ≤ 16384) : Calls Tryz.prog 23 [.slice oa ops.length oc, .agg (cel EI [e0, e1]).toArray].toArray w (Ret fun v w' => (((∃ x, v = .tuple #[x, .nilIface]) ∧ ∀ j, j < ops.length → GoodAt ops e0 e1 j (ops.getD j mo0)) ∨ (∃ ev, v = .tuple #[sN0, ev] ∧ Er w.heap.size w' 110 1 ev ∧ ¬ ∀ j, j < ops.length → GoodAt ops e0 e1 j (ops.getD j mo0))) ∧ Ext w w') := by
 have H := Hp.start No w
 refine enter (n := 150) Tryz.func23 rfl rfl (bLe rfl) ?_
 refine sR ?_
 refine q_box (v := .agg (cel EI [e0, e1]).toArray) (o := .cells (cel EI ([e0, e1])).toArray 29 (0, 0)) H rfl (by rfl) ?_
 intro b1 w2 hb1 H3 hE4
 refine sA sN0 rfl ?_
 refine sA (.nilIface) rfl ?_
 refine wS ?_
 refine sA sN0 rfl ?_
 refine wS ?_
 refine sA (i64 0) rfl ?_
 refine wend ?_
 refine seqAny ?_
 refine sR ?_
 refine sM (.slice oa ops.length oc) rfl ?_
 refine sq (r_lenS sli22 (a := oa) (m := ops.length) (c := oc) rfl) ?_
 refine sM (i64 0) rfl ?_
 refine wend ?_
 refine blockAny ?_
 refine loopAny (σ := Nat) (fun i => [(0, .slice oa ops.length oc), (3, pT b1), (4, sN0), (5, .nilIface), (6, sN0), (7, iN (cntS fTold ops i)), (15, .slice oa ops.length oc), (16, iN ops.length), (17, iN i)]) (fun i w' => i ≤ ops.length ∧ Hp No w w' [(re b1 EI ([e0, e1]) 29)]) (fun i => ops.length - i) (0) ?_ ?_ ?_
 ·exact ⟨rfl, rfl, rfl, rfl, rfl, rfl, rfl, rfl, rfl, trivial⟩
 ·exact ⟨Nat.zero_le _, H3⟩
 rintro i ρ w5 ⟨hq, HL⟩
 have hct := cnt_bound fTold_le ops i
 refine sR ?_
 refine sq (r_lssI (a := (i : Nat)) (b := (ops.length : Nat)) rfl rfl) ?_
 refine wend ?_
 refine seqAny ?_
 refine condProp (((i : Nat) : Int) < (ops.length : Nat)) rfl (fun c18 => ?_) (fun c18 => ?_)
 ·refine skipAny ?_
  refine thenNormal ?_
  refine seqAny ?_
  refine blockAny ?_
  refine sR ?_
  refine sq (r_idxS (E := EMo) (l := ops) (j := i) sli22 (hO.ext HL.chg) rfl rfl (by first | rfl | omega | (simp; omega)) (by rfl) (by omega)) ?_
  refine sq ((r_ldS (E := EMo) (l := ops) (j := i) (v := ops.getD i mo0) fits36 (hO.ext HL.chg) rfl rfl (at_getD (by omega))).as (v' := .agg #[i64 ((ops.getD i mo0).kd), i64 ((ops.getD i mo0).a), i64 ((ops.getD i mo0).b), i64 ((ops.getD i mo0).k), u64 ((ops.getD i mo0).c), i64 ((ops.getD i mo0).pt)]) rfl) ?_
  refine q_alloc (o := .cells #[i64 0, i64 0, i64 0, i64 0, u64 0#64, i64 0] 36 (0, 0)) HL zer36 (by kernel_rfl) ?_
  intro b7 w8 hb7 H9 hE10
  refine d_store (k := 0) (v := .agg #[i64 ((ops.getD i mo0).kd), i64 ((ops.getD i mo0).a), i64 ((ops.getD i mo0).b), i64 ((ops.getD i mo0).k), u64 ((ops.getD i mo0).c), i64 ((ops.getD i mo0).pt)]) (cs' := #[i64 ((ops.getD i mo0).kd), i64 ((ops.getD i mo0).a), i64 ((ops.getD i mo0).b), i64 ((ops.getD i mo0).k), u64 ((ops.getD i mo0).c), i64 ((ops.getD i mo0).pt)]) H9 rfl rfl rfl siz36 (by rfl) (oneL rfl) (by exact bLe rfl) (by rfl) ?_
  intro w11 H12 hC13
  have H12' := H12.as (L' := [_, _]) rfl
  clear H12
  refine wS ?_
  refine sq (r_loadA (cs' := #[i64 ((ops.getD i mo0).kd), i64 ((ops.getD i mo0).a), i64 ((ops.getD i mo0).b), i64 ((ops.getD i mo0).k), u64 ((ops.getD i mo0).c), i64 ((ops.getD i mo0).pt)]) agg36 siz36 (H12'.get (k := 0) rfl) (off := 0) rfl (by exact bLe rfl) (by rfl)) ?_
  refine c_call (vs := [.agg #[i64 ((ops.getD i mo0).kd), i64 ((ops.getD i mo0).a), i64 ((ops.getD i mo0).b), i64 ((ops.getD i mo0).k), u64 ((ops.getD i mo0).c), i64 ((ops.getD i mo0).pt)]]) call32 rfl (told_ok (ops.getD i mo0) w11) ?_
  rintro _ w14 ⟨rfl, hE15⟩
  have H16 := H12'.ext hE15
  refine wend ?_
  refine condProp (tld (ops.getD i mo0)) rfl (fun c22 => ?_) (fun c22 => ?_)
  ·refine oneRegion ?_
   refine sM (iN (cntS fTold ops i)) rfl ?_
   refine sq (r_addI (a := ((cntS fTold ops i) : Nat)) (b := (1 : Int)) rfl rfl (by omega)) ?_
   refine sA (i64 (((cntS fTold ops i) : Nat) + (1 : Int))) rfl ?_
   refine wnil ?_
   refine blockNormal ?_
   refine thenNormal ?_
   refine oneRegion ?_
   refine sq (r_addI (a := (i : Nat)) (b := (1 : Int)) rfl rfl (by omega)) ?_
   refine sM (i64 ((i : Nat) + (1 : Int))) rfl ?_
   refine wnil ?_
   refine thenNormal ?_
   exact ⟨i + 1, _, rfl, ⟨rfl, rfl, rfl, rfl, rfl, congrArg i64 (by rw [cntS, fTold, if_pos c22] <;> omega), rfl, rfl, rfl, trivial⟩, ⟨by omega, (H16.dropk 0)⟩, by show ops.length - (i + 1) < ops.length - i; omega⟩
  ·refine skipAny ?_
   refine blockNormal ?_
   refine thenNormal ?_
   refine oneRegion ?_
   refine sq (r_addI (a := (i : Nat)) (b := (1 : Int)) rfl rfl (by omega)) ?_
   refine sM (i64 ((i : Nat) + (1 : Int))) rfl ?_
   refine wnil ?_
   refine thenNormal ?_
   exact ⟨i + 1, _, rfl, ⟨rfl, rfl, rfl, rfl, rfl, congrArg i64 (by rw [cntS, fTold, if_neg c22] <;> omega), rfl, rfl, rfl, trivial⟩, ⟨by omega, (H16.dropk 0)⟩, by show ops.length - (i + 1) < ops.length - i; omega⟩
 ·have hie : i = ops.length := by omega
  subst hie
  have hob := cnt_bound fTold_le ops ops.length
  rw [show cntS fTold ops ops.length = outsS ops from rfl] at hob ⊢
  refine exitAny ?_
  refine thenExit ?_
  refine thenExit ?_
  refine blockHere ?_
  refine thenNormal ?_
  refine sR ?_
  refine sM (iN (outsS ops)) rfl ?_
  refine q_makeSlice (E := EI) (m := (outsS ops)) (c := (outsS ops)) (z0 := 0) HL sli100 zer3 rfl byt3 rfl rfl (by first | rfl | omega | (simp; omega)) (by first | rfl | omega | (simp; omega)) (by omega) (by omega) ?_
  intro b17 w19 hS18 H20 hE21
  refine sA (.slice (ownA (some b17)) (outsS ops) (outsS ops)) rfl ?_
  refine wend ?_
  refine seqAny ?_
  refine sR ?_
  refine sM (.slice oa ops.length oc) rfl ?_
  refine sq (r_lenS sli22 (a := oa) (m := ops.length) (c := oc) rfl) ?_
  refine sM (i64 0) rfl ?_
  have H22 := H20.nil (sob EI 127 [] [])
  refine wend ?_
  refine blockAny ?_
  refine loopAny (σ := Nat × Option Nat × Nat × List Value × List Int) (fun (i, kf, cf, sf, sl) => [(3, pT b1), (4, sN0), (5, .nilIface), (6, .slice (ownA kf) i cf), (7, iN (outsS ops)), (10, .slice (ownA (some b17)) (outsS ops) (outsS ops)), (28, .slice oa ops.length oc), (29, iN ops.length), (30, iN i)]) (fun (i, kf, cf, sf, sl) w' => (i ≤ ops.length ∧ (∀ j, j < i → GoodAt ops e0 e1 j (ops.getD j mo0)) ∧ sl.length = outsS ops ∧ SeenS ops sl i ∧ Sl EI kf (formL ops i) cf sf ∧ Sl EI (some b17) sl (outsS ops) (cel EI (List.replicate ((outsS ops) - (outsS ops)) 0))) ∧ Hp No w w' [(kf, sob EI 127 (formL ops i) sf), ((some b17), sob EI 3 sl (cel EI (List.replicate ((outsS ops) - (outsS ops)) 0))), (re b1 EI ([e0, e1]) 29)]) (fun (i, kf, cf, sf, sl) => ops.length - i) ((0, none, 0, [], List.replicate (outsS ops) 0)) ?_ ?_ ?_
  ·exact ⟨rfl, rfl, rfl, rfl, rfl, rfl, rfl, rfl, rfl, trivial⟩
  ·exact ⟨⟨Nat.zero_le _, fun j h => absurd h (Nat.not_lt_zero _), List.length_replicate, seen_zero _ _, Sl.none, hS18⟩, H22⟩
  rintro ⟨i, kf, cf, sf, sl⟩ ρ w23 ⟨⟨hq2, hga, hsl, hsn, hSf, hSs⟩, HL2⟩
  have hfl := formL_len ops i
  refine sR ?_
  refine sq (r_lssI (a := (i : Nat)) (b := (ops.length : Nat)) rfl rfl) ?_
  refine wend ?_
  refine seqAny ?_
  refine condProp (((i : Nat) : Int) < (ops.length : Nat)) rfl (fun c31 => ?_) (fun c31 => ?_)
  ·refine skipAny ?_
   refine thenNormal ?_
   refine seqAny ?_
   refine blockAny ?_
   refine sR ?_
   refine sM (iN i) rfl ?_
   refine sq (r_idxS (E := EMo) (l := ops) (j := i) sli22 (hO.ext HL2.chg) rfl rfl (by first | rfl | omega | (simp; omega)) (by rfl) (by omega)) ?_
   refine sq ((r_ldS (E := EMo) (l := ops) (j := i) (v := ops.getD i mo0) fits36 (hO.ext HL2.chg) rfl rfl (at_getD (by omega))).as (v' := .agg #[i64 ((ops.getD i mo0).kd), i64 ((ops.getD i mo0).a), i64 ((ops.getD i mo0).b), i64 ((ops.getD i mo0).k), u64 ((ops.getD i mo0).c), i64 ((ops.getD i mo0).pt)]) rfl) ?_
   refine q_alloc (o := .cells #[i64 0, i64 0, i64 0, i64 0, u64 0#64, i64 0] 36 (0, 0)) HL2 zer36 (by kernel_rfl) ?_
   intro b25 w26 hb25 H27 hE28
   let y2 : Option Addr := some ⟨b25, 3, none⟩
   refine sA (iN i) rfl ?_
   refine d_store (k := 0) (v := .agg #[i64 ((ops.getD i mo0).kd), i64 ((ops.getD i mo0).a), i64 ((ops.getD i mo0).b), i64 ((ops.getD i mo0).k), u64 ((ops.getD i mo0).c), i64 ((ops.getD i mo0).pt)]) (cs' := #[i64 ((ops.getD i mo0).kd), i64 ((ops.getD i mo0).a), i64 ((ops.getD i mo0).b), i64 ((ops.getD i mo0).k), u64 ((ops.getD i mo0).c), i64 ((ops.getD i mo0).pt)]) H27 rfl rfl rfl siz36 (by rfl) (oneL rfl) (by exact bLe rfl) (by rfl) ?_
   intro w29 H30 hC31
   have H30' := H30.as (L' := [_, _, _, _]) rfl
   clear H30
   obtain ⟨o, ho⟩ : ∃ q1, q1 = ops.getD i mo0 := ⟨_, rfl⟩
   let y3 : Array Value := #[i64 (o.kd), i64 (o.a), i64 (o.b), i64 (o.k), u64 (o.c), i64 (o.pt)]
   rw [← ho] at H30' ⊢
   refine wS ?_
   refine sq (r_loadA (cs' := y3) agg36 siz36 (H30'.get (k := 0) rfl) (off := 0) rfl (by exact bLe rfl) (by rfl)) ?_
   refine sq (r_loadA (cs' := (cel EI ([e0, e1])).toArray) agg29 siz29 (H30'.get (k := 3) rfl) (off := 0) rfl (by exact bLe rfl) (by exact ext_all rfl)) ?_
   refine c_call (vs := [.agg y3, .agg (cel EI ([e0, e1])).toArray]) call42 rfl (rule_ok o e0 e1 w29 (Chg.gl H30'.chg (fun x => x) hG)) ?_
   rintro _ w32 ⟨rfl, hE33⟩
   have H34 := H30'.ext hE33
   refine sM (.tuple #[.agg #[i64 ((ruleS o e0 e1).1.a), i64 ((ruleS o e0 e1).1.b), i64 ((ruleS o e0 e1).1.m), i64 ((ruleS o e0 e1).1.k), .bool ((ruleS o e0 e1).1.c), .bool ((ruleS o e0 e1).1.p), i64 ((ruleS o e0 e1).1.r)], .bool ((ruleS o e0 e1).2)]) rfl ?_
   refine sq (r_extract (vs := #[.agg #[i64 ((ruleS o e0 e1).1.a), i64 ((ruleS o e0 e1).1.b), i64 ((ruleS o e0 e1).1.m), i64 ((ruleS o e0 e1).1.k), .bool ((ruleS o e0 e1).1.c), .bool ((ruleS o e0 e1).1.p), i64 ((ruleS o e0 e1).1.r)], .bool ((ruleS o e0 e1).2)]) rfl rfl) ?_
   refine sq (r_extract (vs := #[.agg #[i64 ((ruleS o e0 e1).1.a), i64 ((ruleS o e0 e1).1.b), i64 ((ruleS o e0 e1).1.m), i64 ((ruleS o e0 e1).1.k), .bool ((ruleS o e0 e1).1.c), .bool ((ruleS o e0 e1).1.p), i64 ((ruleS o e0 e1).1.r)], .bool ((ruleS o e0 e1).2)]) rfl rfl) ?_
   refine q_alloc (o := .cells #[i64 0, i64 0, i64 0, i64 0, .bool false, .bool false, i64 0] 129 (0, 0)) H34 zer129 (by kernel_rfl) ?_
   intro b35 w36 hb35 H37 hE38
   refine d_store (k := 0) (v := .agg #[i64 ((ruleS o e0 e1).1.a), i64 ((ruleS o e0 e1).1.b), i64 ((ruleS o e0 e1).1.m), i64 ((ruleS o e0 e1).1.k), .bool ((ruleS o e0 e1).1.c), .bool ((ruleS o e0 e1).1.p), i64 ((ruleS o e0 e1).1.r)]) (cs' := #[i64 ((ruleS o e0 e1).1.a), i64 ((ruleS o e0 e1).1.b), i64 ((ruleS o e0 e1).1.m), i64 ((ruleS o e0 e1).1.k), .bool ((ruleS o e0 e1).1.c), .bool ((ruleS o e0 e1).1.p), i64 ((ruleS o e0 e1).1.r)]) H37 rfl rfl rfl siz129 (by rfl) (oneL rfl) (by exact bLe rfl) (by rfl) ?_
   intro w39 H40 hC41
   have H40' := H40.as (L' := [_, _, _, _, _]) rfl
   clear H40
   refine sA (.bool ((ruleS o e0 e1).2)) rfl ?_
   obtain ⟨r, hr⟩ : ∃ q1, q1 = ruleS o e0 e1 := ⟨_, rfl⟩
   let y1 : Array Value := #[i64 (o.kd), i64 (o.a), i64 (o.b), i64 (o.k), u64 (o.c), i64 (o.pt)]
   rw [← hr] at H40' ⊢
   refine wend ?_
   refine seqJoin (σ := List Int × Int × Bool) (fun (sl2, rk, ob) => [(3, pT b1), (4, sN0), (5, .nilIface), (6, .slice (ownA kf) i cf), (7, iN (outsS ops)), (10, .slice (ownA (some b17)) (outsS ops) (outsS ops)), (11, iN i), (12, pT b25), (13, pT b35), (14, .bool ob), (28, .slice oa ops.length oc), (29, iN ops.length), (30, iN i)]) (fun (sl2, rk, ob) w' => (rk = rkS ops o e0 e1 ∧ (ob = true ↔ r.2 = true ∧ (tld o → ToldS ops i o)) ∧ sl2.length = outsS ops ∧ (ob = true → SeenS ops sl2 (i + 1)) ∧ Sl EI (some b17) sl2 (outsS ops) (cel EI (List.replicate ((outsS ops) - (outsS ops)) 0))) ∧ Hp No w w' [(kf, sob EI 127 (formL ops i) sf), ((some b17), sob EI 3 sl2 (cel EI (List.replicate ((outsS ops) - (outsS ops)) 0))), (re b1 EI ([e0, e1]) 29), (rc b25 y1 36), (rc b35 #[i64 (r.1.a), i64 (r.1.b), i64 (r.1.m), i64 rk, .bool (r.1.c), .bool (r.1.p), i64 (r.1.r)] 129)]) ?_ (fun hj42 => ?_)
   ·rintro ⟨sl2, rk, ob⟩ ρ w43 ⟨⟨hrk, hob, hsl2, hsn2, hSs2⟩, H44⟩
    refine sR ?_
    refine sM (.bool ob) rfl ?_
    refine sM (.bool ob) rfl ?_
    refine sqGv (B := ob) (v := .slice (ownA kf) i cf) (wantedG (d' := 71) (B := true) rfl rfl rfl) (fun hB => r_move (v := .slice (ownA kf) i cf) rfl) ?_
    refine sqGv (B := ob) (v := .pointer (some ⟨b25, 1, none⟩)) (wantedG (d' := 71) (B := true) rfl rfl rfl) (fun hB => r_fieldAddr (off' := 1) fld36_1 (by decide) (b := b25) (off := 0) rfl (by omega)) ?_
    refine sqGv (B := ob) (v := i64 (o.a)) (wantedG (d' := 71) (B := true) rfl rfl rfl) (fun hB => by simp only [gvT (v := _) (h := hB)]; exact r_loadC (v := i64 (o.a)) one3 (H44.get (k := 3) rfl) (off := 1) rfl (by rfl)) ?_
    refine sqGv (B := ob) (v := pT b35) (wantedG (d' := 71) (B := true) rfl rfl rfl) (fun hB => r_fieldAddr (off' := 0) fld129_0 (by decide) (b := b35) (off := 0) rfl (by omega)) ?_
    refine sqGv (B := ob) (v := i64 (r.1.a)) (wantedG (d' := 71) (B := true) rfl rfl rfl) (fun hB => by simp only [gvT (v := _) (h := hB)]; exact r_loadC (v := i64 (r.1.a)) one127 (H44.get (k := 4) rfl) (off := 0) rfl (by rfl)) ?_
    refine caGv (B := ob) (v := .bool (wantB ops i o.a r.1.a)) (wantedG (d' := 71) (B := true) rfl rfl rfl) (fun hB => by simp only [gvT (v := _) (h := hB)]; exact Enters.callL (vs := [.slice (ownA kf) i cf, i64 (o.a), i64 (r.1.a)]) call43 rfl) (fun hB => by exact wants_ok ops i o.a r.1.a (ownA kf) cf w43 (H44.rd (k := 0) rfl hSf)) ?_
    intro w45 hE46
    have H47 := H44.ext hE46
    refine sq (r_pickAnd (B := true) rfl rfl rfl rfl) ?_
    refine sM (.bool ((ob && wantB ops i o.a r.1.a))) rfl ?_
    refine sqGv (B := ((ob && wantB ops i o.a r.1.a))) (v := .slice (ownA kf) i cf) (wantedG (d' := 79) (B := true) rfl rfl rfl) (fun hB => r_move (v := .slice (ownA kf) i cf) rfl) ?_
    refine sqGv (B := ((ob && wantB ops i o.a r.1.a))) (v := .pointer (some ⟨b25, 2, none⟩)) (wantedG (d' := 79) (B := true) rfl rfl rfl) (fun hB => r_fieldAddr (off' := 2) fld36_2 (by decide) (b := b25) (off := 0) rfl (by omega)) ?_
    refine sqGv (B := ((ob && wantB ops i o.a r.1.a))) (v := i64 (o.b)) (wantedG (d' := 79) (B := true) rfl rfl rfl) (fun hB => by simp only [gvT (v := _) (h := hB)]; exact r_loadC (v := i64 (o.b)) one3 (H47.get (k := 3) rfl) (off := 2) rfl (by rfl)) ?_
    refine sqGv (B := ((ob && wantB ops i o.a r.1.a))) (v := .pointer (some ⟨b35, 1, none⟩)) (wantedG (d' := 79) (B := true) rfl rfl rfl) (fun hB => r_fieldAddr (off' := 1) fld129_1 (by decide) (b := b35) (off := 0) rfl (by omega)) ?_
    refine sqGv (B := ((ob && wantB ops i o.a r.1.a))) (v := i64 (r.1.b)) (wantedG (d' := 79) (B := true) rfl rfl rfl) (fun hB => by simp only [gvT (v := _) (h := hB)]; exact r_loadC (v := i64 (r.1.b)) one127 (H47.get (k := 4) rfl) (off := 1) rfl (by rfl)) ?_
    refine caGv (B := ((ob && wantB ops i o.a r.1.a))) (v := .bool (wantB ops i o.b r.1.b)) (wantedG (d' := 79) (B := true) rfl rfl rfl) (fun hB => by simp only [gvT (v := _) (h := hB)]; exact Enters.callL (vs := [.slice (ownA kf) i cf, i64 (o.b), i64 (r.1.b)]) call43 rfl) (fun hB => by exact wants_ok ops i o.b r.1.b (ownA kf) cf w45 (H47.rd (k := 0) rfl hSf)) ?_
    intro w48 hE49
    have H50 := H47.ext hE49
    refine sq (r_pickAnd (B := true) rfl rfl rfl rfl) ?_
    refine sA (.bool (((ob && wantB ops i o.a r.1.a) && wantB ops i o.b r.1.b))) rfl ?_
    obtain ⟨o3, ho3⟩ : ∃ q : Bool, q = ((ob && wantB ops i o.a r.1.a) && wantB ops i o.b r.1.b) := ⟨_, rfl⟩
    rw [← ho3]
    refine wS ?_
    refine sM (.bool o3) rfl ?_
    refine sM (.bool o3) rfl ?_
    refine sqGv (B := o3) (v := .pointer (some ⟨b35, 3, none⟩)) (wantedG (d' := 88) (B := true) rfl rfl rfl) (fun hB => r_fieldAddr (off' := 3) fld129_3 (by decide) (b := b35) (off := 0) rfl (by omega)) ?_
    refine sqGv (B := o3) (v := i64 rk) (wantedG (d' := 88) (B := true) rfl rfl rfl) (fun hB => by simp only [gvT (v := _) (h := hB)]; exact r_loadC (v := i64 rk) one3 (H50.get (k := 4) rfl) (off := 3) rfl (by rfl)) ?_
    refine sqGv (B := o3) (v := .bool (decide (((0 : Int) : Int) < rk))) (wantedG (d' := 88) (B := true) rfl rfl rfl) (fun hB => by simp only [gvT (v := _) (h := hB)]; exact r_gtrI (a := rk) (b := (0 : Int)) rfl rfl) ?_
    refine sqGv (B := o3) (v := .bool (decide (((0 : Int) : Int) < rk))) (wantedG (d' := 88) (B := true) rfl rfl rfl) (fun hB => by simp only [gvT (v := _) (h := hB)]; exact r_move (v := .bool (decide (((0 : Int) : Int) < rk))) rfl) ?_
    refine sqGv (B := (o3 && (decide (((0 : Int) : Int) < rk)))) (v := .pointer y2) (wantedG (d' := 92) (B := o3) rfl rfl rfl) (fun hB => r_fieldAddr (off' := 3) fld36_3 (by decide) (b := b25) (off := 0) rfl (by omega)) ?_
    refine sqGv (B := (o3 && (decide (((0 : Int) : Int) < rk)))) (v := i64 (o.k)) (wantedG (d' := 92) (B := o3) rfl rfl rfl) (fun hB => by simp only [gvT (v := _) (h := hB)]; exact r_loadC (v := i64 (o.k)) one3 (H50.get (k := 3) rfl) (off := 3) rfl (by rfl)) ?_
    refine sqGv (B := (o3 && (decide (((0 : Int) : Int) < rk)))) (v := .bool (decide (((0 : Int) : Int) ≤ o.k))) (wantedG (d' := 92) (B := o3) rfl rfl rfl) (fun hB => by simp only [gvT (v := _) (h := hB)]; exact r_geqI (a := o.k) (b := (0 : Int)) rfl rfl) ?_
    refine sqGv (B := o3) (v := .bool ((decide (((0 : Int) : Int) < rk) && decide (((0 : Int) : Int) ≤ o.k)))) (wantedG (d' := 88) (B := true) rfl rfl rfl) (fun hB => r_pickAnd (B := o3) hB rfl rfl rfl) ?_
    refine sqGv (B := o3) (v := .bool ((decide (((0 : Int) : Int) < rk) && decide (((0 : Int) : Int) ≤ o.k)))) (wantedG (d' := 88) (B := true) rfl rfl rfl) (fun hB => by simp only [gvT (v := _) (h := hB)]; exact r_move (v := .bool ((decide (((0 : Int) : Int) < rk) && decide (((0 : Int) : Int) ≤ o.k)))) rfl) ?_
    refine sqGv (B := (o3 && ((decide (((0 : Int) : Int) < rk) && decide (((0 : Int) : Int) ≤ o.k))))) (v := .pointer y2) (wantedG (d' := 97) (B := o3) rfl rfl rfl) (fun hB => r_fieldAddr (off' := 3) fld36_3 (by decide) (b := b25) (off := 0) rfl (by omega)) ?_
    refine sqGv (B := (o3 && ((decide (((0 : Int) : Int) < rk) && decide (((0 : Int) : Int) ≤ o.k))))) (v := i64 (o.k)) (wantedG (d' := 97) (B := o3) rfl rfl rfl) (fun hB => by simp only [gvT (v := _) (h := hB)]; exact r_loadC (v := i64 (o.k)) one3 (H50.get (k := 3) rfl) (off := 3) rfl (by rfl)) ?_
    refine sqGv (B := (o3 && ((decide (((0 : Int) : Int) < rk) && decide (((0 : Int) : Int) ≤ o.k))))) (v := .pointer (some ⟨b35, 3, none⟩)) (wantedG (d' := 97) (B := o3) rfl rfl rfl) (fun hB => r_fieldAddr (off' := 3) fld129_3 (by decide) (b := b35) (off := 0) rfl (by omega)) ?_
    refine sqGv (B := (o3 && ((decide (((0 : Int) : Int) < rk) && decide (((0 : Int) : Int) ≤ o.k))))) (v := i64 rk) (wantedG (d' := 97) (B := o3) rfl rfl rfl) (fun hB => by simp only [gvT (v := _) (h := hB)]; exact r_loadC (v := i64 rk) one3 (H50.get (k := 4) rfl) (off := 3) rfl (by rfl)) ?_
    refine sqGv (B := (o3 && ((decide (((0 : Int) : Int) < rk) && decide (((0 : Int) : Int) ≤ o.k))))) (v := .bool (decide ((o.k : Int) < rk))) (wantedG (d' := 97) (B := o3) rfl rfl rfl) (fun hB => by simp only [gvT (v := _) (h := hB)]; exact r_lssI (a := o.k) (b := rk) rfl rfl) ?_
    refine sqGv (B := o3) (v := .bool (((decide (((0 : Int) : Int) < rk) && decide (((0 : Int) : Int) ≤ o.k)) && decide ((o.k : Int) < rk)))) (wantedG (d' := 88) (B := true) rfl rfl rfl) (fun hB => r_pickAnd (B := o3) hB rfl rfl rfl) ?_
    refine sqGv (B := o3) (v := .bool (((decide (((0 : Int) : Int) < rk) && decide (((0 : Int) : Int) ≤ o.k)) && decide ((o.k : Int) < rk)))) (wantedG (d' := 88) (B := true) rfl rfl rfl) (fun hB => by simp only [gvT (v := _) (h := hB)]; exact r_move (v := .bool (((decide (((0 : Int) : Int) < rk) && decide (((0 : Int) : Int) ≤ o.k)) && decide ((o.k : Int) < rk)))) rfl) ?_
    refine sqGv (B := (o3 && (!((decide (((0 : Int) : Int) < rk) && decide (((0 : Int) : Int) ≤ o.k)) && decide ((o.k : Int) < rk))))) (v := .pointer y2) (wantedH (d' := 104) (B := o3) rfl rfl rfl) (fun hB => r_fieldAddr (off' := 3) fld36_3 (by decide) (b := b25) (off := 0) rfl (by omega)) ?_
    refine sqGv (B := (o3 && (!((decide (((0 : Int) : Int) < rk) && decide (((0 : Int) : Int) ≤ o.k)) && decide ((o.k : Int) < rk))))) (v := i64 (o.k)) (wantedH (d' := 104) (B := o3) rfl rfl rfl) (fun hB => by simp only [gvT (v := _) (h := hB)]; exact r_loadC (v := i64 (o.k)) one3 (H50.get (k := 3) rfl) (off := 3) rfl (by rfl)) ?_
    refine sqGv (B := (o3 && (!((decide (((0 : Int) : Int) < rk) && decide (((0 : Int) : Int) ≤ o.k)) && decide ((o.k : Int) < rk))))) (v := .bool (decide ((o.k : Int) = (0 : Int)))) (wantedH (d' := 104) (B := o3) rfl rfl rfl) (fun hB => by simp only [gvT (v := _) (h := hB)]; exact r_eqlI (a := o.k) (b := (0 : Int)) rfl rfl) ?_
    refine sqGv (B := o3) (v := .bool ((((decide (((0 : Int) : Int) < rk) && decide (((0 : Int) : Int) ≤ o.k)) && decide ((o.k : Int) < rk)) || decide ((o.k : Int) = (0 : Int))))) (wantedG (d' := 88) (B := true) rfl rfl rfl) (fun hB => r_pickOr (B := o3) hB rfl rfl rfl) ?_
    refine sq (r_pickAnd (B := true) rfl rfl rfl rfl) ?_
    refine sM (.bool ((o3 && (((decide (((0 : Int) : Int) < rk) && decide (((0 : Int) : Int) ≤ o.k)) && decide ((o.k : Int) < rk)) || decide ((o.k : Int) = (0 : Int)))))) rfl ?_
    refine sqGv (B := ((o3 && (((decide (((0 : Int) : Int) < rk) && decide (((0 : Int) : Int) ≤ o.k)) && decide ((o.k : Int) < rk)) || decide ((o.k : Int) = (0 : Int)))))) (v := .pointer (some ⟨b35, 4, none⟩)) (wantedG (d' := 110) (B := true) rfl rfl rfl) (fun hB => r_fieldAddr (off' := 4) fld129_4 (by decide) (b := b35) (off := 0) rfl (by omega)) ?_
    refine sqGv (B := ((o3 && (((decide (((0 : Int) : Int) < rk) && decide (((0 : Int) : Int) ≤ o.k)) && decide ((o.k : Int) < rk)) || decide ((o.k : Int) = (0 : Int)))))) (v := .bool (r.1.c)) (wantedG (d' := 110) (B := true) rfl rfl rfl) (fun hB => by simp only [gvT (v := _) (h := hB)]; exact r_loadC (v := .bool (r.1.c)) one4 (H50.get (k := 4) rfl) (off := 4) rfl (by rfl)) ?_
    refine sqGv (B := ((o3 && (((decide (((0 : Int) : Int) < rk) && decide (((0 : Int) : Int) ≤ o.k)) && decide ((o.k : Int) < rk)) || decide ((o.k : Int) = (0 : Int)))))) (v := .bool (r.1.c)) (wantedG (d' := 110) (B := true) rfl rfl rfl) (fun hB => by simp only [gvT (v := _) (h := hB)]; exact r_move (v := .bool (r.1.c)) rfl) ?_
    refine sqGv (B := (((o3 && (((decide (((0 : Int) : Int) < rk) && decide (((0 : Int) : Int) ≤ o.k)) && decide ((o.k : Int) < rk)) || decide ((o.k : Int) = (0 : Int))))) && (!r.1.c))) (v := .pointer (some ⟨b25, 4, none⟩)) (wantedH (d' := 113) (B := ((o3 && (((decide (((0 : Int) : Int) < rk) && decide (((0 : Int) : Int) ≤ o.k)) && decide ((o.k : Int) < rk)) || decide ((o.k : Int) = (0 : Int)))))) rfl rfl rfl) (fun hB => r_fieldAddr (off' := 4) fld36_4 (by decide) (b := b25) (off := 0) rfl (by omega)) ?_
    refine sqGv (B := (((o3 && (((decide (((0 : Int) : Int) < rk) && decide (((0 : Int) : Int) ≤ o.k)) && decide ((o.k : Int) < rk)) || decide ((o.k : Int) = (0 : Int))))) && (!r.1.c))) (v := u64 (o.c)) (wantedH (d' := 113) (B := ((o3 && (((decide (((0 : Int) : Int) < rk) && decide (((0 : Int) : Int) ≤ o.k)) && decide ((o.k : Int) < rk)) || decide ((o.k : Int) = (0 : Int)))))) rfl rfl rfl) (fun hB => by simp only [gvT (v := _) (h := hB)]; exact r_loadC (v := u64 (o.c)) one34 (H50.get (k := 3) rfl) (off := 4) rfl (by rfl)) ?_
    refine sqGv (B := (((o3 && (((decide (((0 : Int) : Int) < rk) && decide (((0 : Int) : Int) ≤ o.k)) && decide ((o.k : Int) < rk)) || decide ((o.k : Int) = (0 : Int))))) && (!r.1.c))) (v := .bool (decide (o.c = (0#64)))) (wantedH (d' := 113) (B := ((o3 && (((decide (((0 : Int) : Int) < rk) && decide (((0 : Int) : Int) ≤ o.k)) && decide ((o.k : Int) < rk)) || decide ((o.k : Int) = (0 : Int)))))) rfl rfl rfl) (fun hB => by simp only [gvT (v := _) (h := hB)]; exact r_eql64 (a := o.c) (b := 0#64) rfl rfl) ?_
    refine sqGv (B := ((o3 && (((decide (((0 : Int) : Int) < rk) && decide (((0 : Int) : Int) ≤ o.k)) && decide ((o.k : Int) < rk)) || decide ((o.k : Int) = (0 : Int)))))) (v := .bool ((r.1.c || decide (o.c = (0#64))))) (wantedG (d' := 110) (B := true) rfl rfl rfl) (fun hB => r_pickOr (B := ((o3 && (((decide (((0 : Int) : Int) < rk) && decide (((0 : Int) : Int) ≤ o.k)) && decide ((o.k : Int) < rk)) || decide ((o.k : Int) = (0 : Int)))))) hB rfl rfl rfl) ?_
    refine sq (r_pickAnd (B := true) rfl rfl rfl rfl) ?_
    refine sM (.bool (((o3 && (((decide (((0 : Int) : Int) < rk) && decide (((0 : Int) : Int) ≤ o.k)) && decide ((o.k : Int) < rk)) || decide ((o.k : Int) = (0 : Int)))) && (r.1.c || decide (o.c = (0#64)))))) rfl ?_
    refine sqGv (B := (((o3 && (((decide (((0 : Int) : Int) < rk) && decide (((0 : Int) : Int) ≤ o.k)) && decide ((o.k : Int) < rk)) || decide ((o.k : Int) = (0 : Int)))) && (r.1.c || decide (o.c = (0#64)))))) (v := .pointer (some ⟨b35, 5, none⟩)) (wantedG (d' := 119) (B := true) rfl rfl rfl) (fun hB => r_fieldAddr (off' := 5) fld129_5 (by decide) (b := b35) (off := 0) rfl (by omega)) ?_
    refine sqGv (B := (((o3 && (((decide (((0 : Int) : Int) < rk) && decide (((0 : Int) : Int) ≤ o.k)) && decide ((o.k : Int) < rk)) || decide ((o.k : Int) = (0 : Int)))) && (r.1.c || decide (o.c = (0#64)))))) (v := .bool (r.1.p)) (wantedG (d' := 119) (B := true) rfl rfl rfl) (fun hB => by simp only [gvT (v := _) (h := hB)]; exact r_loadC (v := .bool (r.1.p)) one4 (H50.get (k := 4) rfl) (off := 5) rfl (by rfl)) ?_
    refine sqGv (B := (((o3 && (((decide (((0 : Int) : Int) < rk) && decide (((0 : Int) : Int) ≤ o.k)) && decide ((o.k : Int) < rk)) || decide ((o.k : Int) = (0 : Int)))) && (r.1.c || decide (o.c = (0#64)))))) (v := .bool (r.1.p)) (wantedG (d' := 119) (B := true) rfl rfl rfl) (fun hB => by simp only [gvT (v := _) (h := hB)]; exact r_move (v := .bool (r.1.p)) rfl) ?_
    refine sqGv (B := ((((o3 && (((decide (((0 : Int) : Int) < rk) && decide (((0 : Int) : Int) ≤ o.k)) && decide ((o.k : Int) < rk)) || decide ((o.k : Int) = (0 : Int)))) && (r.1.c || decide (o.c = (0#64))))) && r.1.p)) (v := .pointer (some ⟨b25, 5, none⟩)) (wantedG (d' := 122) (B := (((o3 && (((decide (((0 : Int) : Int) < rk) && decide (((0 : Int) : Int) ≤ o.k)) && decide ((o.k : Int) < rk)) || decide ((o.k : Int) = (0 : Int)))) && (r.1.c || decide (o.c = (0#64)))))) rfl rfl rfl) (fun hB => r_fieldAddr (off' := 5) fld36_5 (by decide) (b := b25) (off := 0) rfl (by omega)) ?_
    refine sqGv (B := ((((o3 && (((decide (((0 : Int) : Int) < rk) && decide (((0 : Int) : Int) ≤ o.k)) && decide ((o.k : Int) < rk)) || decide ((o.k : Int) = (0 : Int)))) && (r.1.c || decide (o.c = (0#64))))) && r.1.p)) (v := i64 (o.pt)) (wantedG (d' := 122) (B := (((o3 && (((decide (((0 : Int) : Int) < rk) && decide (((0 : Int) : Int) ≤ o.k)) && decide ((o.k : Int) < rk)) || decide ((o.k : Int) = (0 : Int)))) && (r.1.c || decide (o.c = (0#64)))))) rfl rfl rfl) (fun hB => by simp only [gvT (v := _) (h := hB)]; exact r_loadC (v := i64 (o.pt)) one3 (H50.get (k := 3) rfl) (off := 5) rfl (by rfl)) ?_
    refine sqGv (B := ((((o3 && (((decide (((0 : Int) : Int) < rk) && decide (((0 : Int) : Int) ≤ o.k)) && decide ((o.k : Int) < rk)) || decide ((o.k : Int) = (0 : Int)))) && (r.1.c || decide (o.c = (0#64))))) && r.1.p)) (v := .bool (decide ((o.pt : Int) = (0 : Int)))) (wantedG (d' := 122) (B := (((o3 && (((decide (((0 : Int) : Int) < rk) && decide (((0 : Int) : Int) ≤ o.k)) && decide ((o.k : Int) < rk)) || decide ((o.k : Int) = (0 : Int)))) && (r.1.c || decide (o.c = (0#64)))))) rfl rfl rfl) (fun hB => by simp only [gvT (v := _) (h := hB)]; exact r_eqlI (a := o.pt) (b := (0 : Int)) rfl rfl) ?_
    refine sqGv (B := ((((o3 && (((decide (((0 : Int) : Int) < rk) && decide (((0 : Int) : Int) ≤ o.k)) && decide ((o.k : Int) < rk)) || decide ((o.k : Int) = (0 : Int)))) && (r.1.c || decide (o.c = (0#64))))) && r.1.p)) (v := .bool (decide ((o.pt : Int) = (0 : Int)))) (wantedG (d' := 122) (B := (((o3 && (((decide (((0 : Int) : Int) < rk) && decide (((0 : Int) : Int) ≤ o.k)) && decide ((o.k : Int) < rk)) || decide ((o.k : Int) = (0 : Int)))) && (r.1.c || decide (o.c = (0#64)))))) rfl rfl rfl) (fun hB => by simp only [gvT (v := _) (h := hB)]; exact r_move (v := .bool (decide ((o.pt : Int) = (0 : Int)))) rfl) ?_
    refine sqGv (B := (((((o3 && (((decide (((0 : Int) : Int) < rk) && decide (((0 : Int) : Int) ≤ o.k)) && decide ((o.k : Int) < rk)) || decide ((o.k : Int) = (0 : Int)))) && (r.1.c || decide (o.c = (0#64))))) && r.1.p) && (!(decide ((o.pt : Int) = (0 : Int)))))) (v := .pointer (some ⟨b25, 5, none⟩)) (wantedH (d' := 126) (B := ((((o3 && (((decide (((0 : Int) : Int) < rk) && decide (((0 : Int) : Int) ≤ o.k)) && decide ((o.k : Int) < rk)) || decide ((o.k : Int) = (0 : Int)))) && (r.1.c || decide (o.c = (0#64))))) && r.1.p)) rfl rfl rfl) (fun hB => r_fieldAddr (off' := 5) fld36_5 (by decide) (b := b25) (off := 0) rfl (by omega)) ?_
    refine sqGv (B := (((((o3 && (((decide (((0 : Int) : Int) < rk) && decide (((0 : Int) : Int) ≤ o.k)) && decide ((o.k : Int) < rk)) || decide ((o.k : Int) = (0 : Int)))) && (r.1.c || decide (o.c = (0#64))))) && r.1.p) && (!(decide ((o.pt : Int) = (0 : Int)))))) (v := i64 (o.pt)) (wantedH (d' := 126) (B := ((((o3 && (((decide (((0 : Int) : Int) < rk) && decide (((0 : Int) : Int) ≤ o.k)) && decide ((o.k : Int) < rk)) || decide ((o.k : Int) = (0 : Int)))) && (r.1.c || decide (o.c = (0#64))))) && r.1.p)) rfl rfl rfl) (fun hB => by simp only [gvT (v := _) (h := hB)]; exact r_loadC (v := i64 (o.pt)) one3 (H50.get (k := 3) rfl) (off := 5) rfl (by rfl)) ?_
    refine sqGv (B := (((((o3 && (((decide (((0 : Int) : Int) < rk) && decide (((0 : Int) : Int) ≤ o.k)) && decide ((o.k : Int) < rk)) || decide ((o.k : Int) = (0 : Int)))) && (r.1.c || decide (o.c = (0#64))))) && r.1.p) && (!(decide ((o.pt : Int) = (0 : Int)))))) (v := .bool (decide ((o.pt : Int) = (1 : Int)))) (wantedH (d' := 126) (B := ((((o3 && (((decide (((0 : Int) : Int) < rk) && decide (((0 : Int) : Int) ≤ o.k)) && decide ((o.k : Int) < rk)) || decide ((o.k : Int) = (0 : Int)))) && (r.1.c || decide (o.c = (0#64))))) && r.1.p)) rfl rfl rfl) (fun hB => by simp only [gvT (v := _) (h := hB)]; exact r_eqlI (a := o.pt) (b := (1 : Int)) rfl rfl) ?_
    refine sqGv (B := ((((o3 && (((decide (((0 : Int) : Int) < rk) && decide (((0 : Int) : Int) ≤ o.k)) && decide ((o.k : Int) < rk)) || decide ((o.k : Int) = (0 : Int)))) && (r.1.c || decide (o.c = (0#64))))) && r.1.p)) (v := .bool ((decide ((o.pt : Int) = (0 : Int)) || decide ((o.pt : Int) = (1 : Int))))) (wantedG (d' := 122) (B := (((o3 && (((decide (((0 : Int) : Int) < rk) && decide (((0 : Int) : Int) ≤ o.k)) && decide ((o.k : Int) < rk)) || decide ((o.k : Int) = (0 : Int)))) && (r.1.c || decide (o.c = (0#64)))))) rfl rfl rfl) (fun hB => r_pickOr (B := ((((o3 && (((decide (((0 : Int) : Int) < rk) && decide (((0 : Int) : Int) ≤ o.k)) && decide ((o.k : Int) < rk)) || decide ((o.k : Int) = (0 : Int)))) && (r.1.c || decide (o.c = (0#64))))) && r.1.p)) hB rfl rfl rfl) ?_
    refine sqGv (B := (((o3 && (((decide (((0 : Int) : Int) < rk) && decide (((0 : Int) : Int) ≤ o.k)) && decide ((o.k : Int) < rk)) || decide ((o.k : Int) = (0 : Int)))) && (r.1.c || decide (o.c = (0#64)))))) (v := .bool ((r.1.p && (decide ((o.pt : Int) = (0 : Int)) || decide ((o.pt : Int) = (1 : Int)))))) (wantedG (d' := 119) (B := true) rfl rfl rfl) (fun hB => r_pickAnd (B := (((o3 && (((decide (((0 : Int) : Int) < rk) && decide (((0 : Int) : Int) ≤ o.k)) && decide ((o.k : Int) < rk)) || decide ((o.k : Int) = (0 : Int)))) && (r.1.c || decide (o.c = (0#64)))))) hB rfl rfl rfl) ?_
    refine sqGv (B := (((o3 && (((decide (((0 : Int) : Int) < rk) && decide (((0 : Int) : Int) ≤ o.k)) && decide ((o.k : Int) < rk)) || decide ((o.k : Int) = (0 : Int)))) && (r.1.c || decide (o.c = (0#64)))))) (v := .bool ((r.1.p && (decide ((o.pt : Int) = (0 : Int)) || decide ((o.pt : Int) = (1 : Int)))))) (wantedG (d' := 119) (B := true) rfl rfl rfl) (fun hB => by simp only [gvT (v := _) (h := hB)]; exact r_move (v := .bool ((r.1.p && (decide ((o.pt : Int) = (0 : Int)) || decide ((o.pt : Int) = (1 : Int)))))) rfl) ?_
    refine sqGv (B := ((((o3 && (((decide (((0 : Int) : Int) < rk) && decide (((0 : Int) : Int) ≤ o.k)) && decide ((o.k : Int) < rk)) || decide ((o.k : Int) = (0 : Int)))) && (r.1.c || decide (o.c = (0#64))))) && (!(r.1.p && (decide ((o.pt : Int) = (0 : Int)) || decide ((o.pt : Int) = (1 : Int))))))) (v := .pointer (some ⟨b25, 5, none⟩)) (wantedH (d' := 132) (B := (((o3 && (((decide (((0 : Int) : Int) < rk) && decide (((0 : Int) : Int) ≤ o.k)) && decide ((o.k : Int) < rk)) || decide ((o.k : Int) = (0 : Int)))) && (r.1.c || decide (o.c = (0#64)))))) rfl rfl rfl) (fun hB => r_fieldAddr (off' := 5) fld36_5 (by decide) (b := b25) (off := 0) rfl (by omega)) ?_
    refine sqGv (B := ((((o3 && (((decide (((0 : Int) : Int) < rk) && decide (((0 : Int) : Int) ≤ o.k)) && decide ((o.k : Int) < rk)) || decide ((o.k : Int) = (0 : Int)))) && (r.1.c || decide (o.c = (0#64))))) && (!(r.1.p && (decide ((o.pt : Int) = (0 : Int)) || decide ((o.pt : Int) = (1 : Int))))))) (v := i64 (o.pt)) (wantedH (d' := 132) (B := (((o3 && (((decide (((0 : Int) : Int) < rk) && decide (((0 : Int) : Int) ≤ o.k)) && decide ((o.k : Int) < rk)) || decide ((o.k : Int) = (0 : Int)))) && (r.1.c || decide (o.c = (0#64)))))) rfl rfl rfl) (fun hB => by simp only [gvT (v := _) (h := hB)]; exact r_loadC (v := i64 (o.pt)) one3 (H50.get (k := 3) rfl) (off := 5) rfl (by rfl)) ?_
    refine sqGv (B := ((((o3 && (((decide (((0 : Int) : Int) < rk) && decide (((0 : Int) : Int) ≤ o.k)) && decide ((o.k : Int) < rk)) || decide ((o.k : Int) = (0 : Int)))) && (r.1.c || decide (o.c = (0#64))))) && (!(r.1.p && (decide ((o.pt : Int) = (0 : Int)) || decide ((o.pt : Int) = (1 : Int))))))) (v := .bool (decide ((o.pt : Int) = (0 : Int)))) (wantedH (d' := 132) (B := (((o3 && (((decide (((0 : Int) : Int) < rk) && decide (((0 : Int) : Int) ≤ o.k)) && decide ((o.k : Int) < rk)) || decide ((o.k : Int) = (0 : Int)))) && (r.1.c || decide (o.c = (0#64)))))) rfl rfl rfl) (fun hB => by simp only [gvT (v := _) (h := hB)]; exact r_eqlI (a := o.pt) (b := (0 : Int)) rfl rfl) ?_
    refine sqGv (B := (((o3 && (((decide (((0 : Int) : Int) < rk) && decide (((0 : Int) : Int) ≤ o.k)) && decide ((o.k : Int) < rk)) || decide ((o.k : Int) = (0 : Int)))) && (r.1.c || decide (o.c = (0#64)))))) (v := .bool (((r.1.p && (decide ((o.pt : Int) = (0 : Int)) || decide ((o.pt : Int) = (1 : Int)))) || decide ((o.pt : Int) = (0 : Int))))) (wantedG (d' := 119) (B := true) rfl rfl rfl) (fun hB => r_pickOr (B := (((o3 && (((decide (((0 : Int) : Int) < rk) && decide (((0 : Int) : Int) ≤ o.k)) && decide ((o.k : Int) < rk)) || decide ((o.k : Int) = (0 : Int)))) && (r.1.c || decide (o.c = (0#64)))))) hB rfl rfl rfl) ?_
    refine sq (r_pickAnd (B := true) rfl rfl rfl rfl) ?_
    refine sA (.bool ((((o3 && (((decide (((0 : Int) : Int) < rk) && decide (((0 : Int) : Int) ≤ o.k)) && decide ((o.k : Int) < rk)) || decide ((o.k : Int) = (0 : Int)))) && (r.1.c || decide (o.c = (0#64)))) && ((r.1.p && (decide ((o.pt : Int) = (0 : Int)) || decide ((o.pt : Int) = (1 : Int)))) || decide ((o.pt : Int) = (0 : Int)))))) rfl ?_
    obtain ⟨o4, ho4⟩ : ∃ q : Bool, q = (((o3 && (((decide (((0 : Int) : Int) < rk) && decide (((0 : Int) : Int) ≤ o.k)) && decide ((o.k : Int) < rk)) || decide ((o.k : Int) = (0 : Int)))) && (r.1.c || decide (o.c = (0#64)))) && ((r.1.p && (decide ((o.pt : Int) = (0 : Int)) || decide ((o.pt : Int) = (1 : Int)))) || decide ((o.pt : Int) = (0 : Int)))) := ⟨_, rfl⟩
    rw [← ho4]
    rw [ho3] at ho4
    have hgb : o4 = true ↔ GoodAt ops e0 e1 i o := by rw [ho4]; exact good_iff hr hrk hob
    have hsn2 : GoodAt ops e0 e1 i o → SeenS ops sl2 (i + 1) := fun h => hsn2 (hob.2 ⟨hr ▸ h.ok, h.told⟩)
    refine wend ?_
    refine seqAny ?_
    refine sR ?_
    refine sM (.bool o4) rfl ?_
    refine sq (r_not (b := o4) rfl) ?_
    refine wend ?_
    refine condBool (!o4) rfl (fun c139 => ?_) (fun c139 => ?_)
    ·have hgo2 : o4 = false := by simpa using c139
     refine sR ?_
     refine sq (r_mkI und63 (xv := i64 110) rfl) ?_
     refine sM (iN i) rfl ?_
     have := H50.lt (List.mem_of_getElem? (i := 2) rfl) rfl
     have := H50.lt (List.mem_of_getElem? (i := 3) rfl) rfl
     have := H50.lt (List.mem_of_getElem? (i := 4) rfl) rfl
     refine c_call (vs := [.iface 63 (i64 110), .string ({data := #[111, 112]}), iN i]) call22 rfl (wrap0_ok (110 : Int) (i : Nat) ({data := #[111, 112]}) w48 (Chg.gl H50.chg (fun x => x) hG)) ?_
     rintro v53 w51 ⟨hEr54, hE55⟩
     have H56 := H50.ext hE55
     obtain ⟨T57, x58, rfl⟩ := hEr54.iface
     refine sA sN0 rfl ?_
     refine sA (.iface T57 x58) rfl ?_
     refine wend ?_
     refine retAny ?_
     refine thenRet ?_
     refine blockRet ?_
     refine thenRet ?_
     refine thenRet ?_
     refine blockRet ?_
     refine thenRet ?_
     refine retG (rs := [.tmp 4, .tmp 5]) (vs := [sN0, .iface T57 x58]) rfl ⟨⟨rfl, rfl⟩, ⟨rfl, rfl⟩, trivial⟩ ?_
     exact ⟨_, rfl, .inr ⟨_, rfl, hEr54.mono H50.chg.size, fun h => absurd ((hgb.2 (by have h2 := h i (by omega); rw [← ho] at h2; exact h2)).symm.trans hgo2) (by decide)⟩, H56.chg⟩
    ·have hgo2 : o4 = true := by simpa using c139
     have hgo := hgb.1 hgo2
     refine skipAny ?_
     refine thenNormal ?_
     refine oneRegion ?_
     refine sM (.slice (ownA kf) i cf) rfl ?_
     refine sq (r_fieldAddr (off' := 2) fld129_2 (by decide) (b := b35) (off := 0) rfl (by omega)) ?_
     refine sq (r_loadC (v := i64 (r.1.m)) one127 (H50.get (k := 4) rfl) (off := 2) rfl (by rfl)) ?_
     refine q_buildSlice (E := EI) (l := [r.1.m]) H50 sli74 zer127 (bLe rfl) (ps := [(0, i64 (r.1.m))]) rfl (by exact fillAll rfl rfl) rfl ?_
     intro b59 w61 hS60 H62 hE63
     refine q_append (E := EI) (k := 1) (l := formL ops i) (l2 := [r.1.m]) H62 rfl hSf sli74 zer127 rfl byt127 (H62.rd (k := 0) rfl hS60) rfl (by exact (formL_len ops i).symm) rfl (by rfl) (by omega) ?_
     intro key64 c65 sp66 w68 hS67 hne70 H69
     have H69' := H69.as (L' := [_, _, _, _, _, _]) rfl
     clear H69
     have e71 : (formL ops i) ++ ([r.1.m]) = formL ops (i + 1) := by rw [formL, ← ho, ← rule_m o e0 e1, ← hr]
     have hS72 := hS67
     rw [e71] at hS72
     have H73 := H69'.as (L' := [((some b59), sob EI 127 ([r.1.m]) ([])), (key64, sob EI 127 (formL ops (i + 1)) sp66), ((some b17), sob EI 3 sl2 (cel EI (List.replicate ((outsS ops) - (outsS ops)) 0))), (re b1 EI ([e0, e1]) 29), (rc b25 #[i64 (o.kd), i64 (o.a), i64 (o.b), i64 (o.k), u64 (o.c), i64 (o.pt)] 36), (rc b35 #[i64 (r.1.a), i64 (r.1.b), i64 (r.1.m), i64 rk, .bool (r.1.c), .bool (r.1.p), i64 (r.1.r)] 129)]) (by rw [e71])
     refine sA (.slice (ownA key64) (i + 1) c65) rfl ?_
     refine wnil ?_
     refine blockNormal ?_
     refine thenNormal ?_
     refine oneRegion ?_
     refine sq (r_addI (a := (i : Nat)) (b := (1 : Int)) rfl rfl (by omega)) ?_
     refine sM (i64 ((i : Nat) + (1 : Int))) rfl ?_
     refine wnil ?_
     refine thenNormal ?_
     exact ⟨(i + 1, key64, c65, sp66, sl2), _, rfl, ⟨rfl, rfl, rfl, rfl, rfl, rfl, rfl, rfl, rfl, trivial⟩, ⟨⟨by omega, fun j hj => if h : j < i then hga j h else by (rw [show j = i by omega, ← ho]; exact hgo), hsl2, hsn2 (hgb.1 hgo2), hS72, hSs2⟩, (((H73.dropk 5).dropk 4).dropk 0)⟩, by show ops.length - (i + 1) < ops.length - i; omega⟩
   ·refine sR ?_
    refine sq (r_loadA (cs' := y1) agg36 siz36 (H40'.get (k := 1) rfl) (off := 0) rfl (by exact bLe rfl) (by rfl)) ?_
    refine c_call (vs := [.agg y1]) call32 rfl (told_ok o w39) ?_
    rintro _ w74 ⟨rfl, hE75⟩
    have H76 := H40'.ext hE75
    refine wend ?_
    refine condProp (tld o) rfl (fun c42 => ?_) (fun c42 => ?_)
    ·refine sR ?_
     refine sM (iN (outsS ops)) rfl ?_
     refine sq (r_fieldAddr (off' := 3) fld129_3 (by decide) (b := b35) (off := 0) rfl (by omega)) ?_
     refine d_store (k := 0) (v := iN (outsS ops)) (cs' := #[i64 (r.1.a), i64 (r.1.b), i64 (r.1.m), iN (outsS ops), .bool (r.1.c), .bool (r.1.p), i64 (r.1.r)]) H76 rfl rfl rfl siz3 (by rfl) (by exact EI.one _) (by exact bLe rfl) (by rfl) ?_
     intro w77 H78 hC79
     have H78' := H78.as (L' := [_, _, _, _, _]) rfl
     clear H78
     refine wS ?_
     refine sM (.bool (r.2)) rfl ?_
     refine sM (.bool (r.2)) rfl ?_
     refine sqGv (B := r.2) (v := .pointer y2) (wantedG (d' := 46) (B := true) rfl rfl rfl) (fun hB => r_fieldAddr (off' := 3) fld36_3 (by decide) (b := b25) (off := 0) rfl (by omega)) ?_
     refine sqGv (B := r.2) (v := i64 (o.k)) (wantedG (d' := 46) (B := true) rfl rfl rfl) (fun hB => by simp only [gvT (v := _) (h := hB)]; exact r_loadC (v := i64 (o.k)) one3 (H78'.get (k := 1) rfl) (off := 3) rfl (by rfl)) ?_
     refine sqGv (B := r.2) (v := .bool (decide (((0 : Int) : Int) ≤ o.k))) (wantedG (d' := 46) (B := true) rfl rfl rfl) (fun hB => by simp only [gvT (v := _) (h := hB)]; exact r_geqI (a := o.k) (b := (0 : Int)) rfl rfl) ?_
     refine sq (r_pickAnd (B := true) rfl rfl rfl rfl) ?_
     refine sM (.bool ((r.2 && decide (((0 : Int) : Int) ≤ o.k)))) rfl ?_
     refine sqGv (B := ((r.2 && decide (((0 : Int) : Int) ≤ o.k)))) (v := .pointer y2) (wantedG (d' := 51) (B := true) rfl rfl rfl) (fun hB => r_fieldAddr (off' := 3) fld36_3 (by decide) (b := b25) (off := 0) rfl (by omega)) ?_
     refine sqGv (B := ((r.2 && decide (((0 : Int) : Int) ≤ o.k)))) (v := i64 (o.k)) (wantedG (d' := 51) (B := true) rfl rfl rfl) (fun hB => by simp only [gvT (v := _) (h := hB)]; exact r_loadC (v := i64 (o.k)) one3 (H78'.get (k := 1) rfl) (off := 3) rfl (by rfl)) ?_
     refine sqGv (B := ((r.2 && decide (((0 : Int) : Int) ≤ o.k)))) (v := iN (outsS ops)) (wantedG (d' := 51) (B := true) rfl rfl rfl) (fun hB => r_move (v := iN (outsS ops)) rfl) ?_
     refine sqGv (B := ((r.2 && decide (((0 : Int) : Int) ≤ o.k)))) (v := .bool (decide ((o.k : Int) < ((outsS ops) : Nat)))) (wantedG (d' := 51) (B := true) rfl rfl rfl) (fun hB => by simp only [gvT (v := _) (h := hB)]; exact r_lssI (a := o.k) (b := ((outsS ops) : Nat)) rfl rfl) ?_
     refine sq (r_pickAnd (B := true) rfl rfl rfl rfl) ?_
     refine sM (.bool (((r.2 && decide (((0 : Int) : Int) ≤ o.k)) && decide ((o.k : Int) < ((outsS ops) : Nat))))) rfl ?_
     refine sqGv (B := (((r.2 && decide (((0 : Int) : Int) ≤ o.k)) && decide ((o.k : Int) < ((outsS ops) : Nat))))) (v := .slice (ownA (some b17)) (outsS ops) (outsS ops)) (wantedG (d' := 57) (B := true) rfl rfl rfl) (fun hB => r_move (v := .slice (ownA (some b17)) (outsS ops) (outsS ops)) rfl) ?_
     refine sqGv (B := (((r.2 && decide (((0 : Int) : Int) ≤ o.k)) && decide ((o.k : Int) < ((outsS ops) : Nat))))) (v := .pointer y2) (wantedG (d' := 57) (B := true) rfl rfl rfl) (fun hB => r_fieldAddr (off' := 3) fld36_3 (by decide) (b := b25) (off := 0) rfl (by omega)) ?_
     refine sqGv (B := (((r.2 && decide (((0 : Int) : Int) ≤ o.k)) && decide ((o.k : Int) < ((outsS ops) : Nat))))) (v := i64 (o.k)) (wantedG (d' := 57) (B := true) rfl rfl rfl) (fun hB => by simp only [gvT (v := _) (h := hB)]; exact r_loadC (v := i64 (o.k)) one3 (H78'.get (k := 1) rfl) (off := 3) rfl (by rfl)) ?_
     refine sqGv (B := (((r.2 && decide (((0 : Int) : Int) ≤ o.k)) && decide ((o.k : Int) < ((outsS ops) : Nat))))) (v := .pointer (adr (ownA (some b17)) (o.k.toNat * 1))) (wantedG (d' := 57) (B := true) rfl rfl rfl) (fun hB => by have hB2 := hB; simp only [Bool.and_eq_true, decide_eq_true_eq] at hB2; simp only [gvT (v := _) (h := hB)]; exact r_idxS (E := EI) (l := sl) (j := o.k.toNat) sli100 (H78'.rd (k := 3) rfl hSs) rfl rfl (by omega) (by exact hsl.symm) (by omega)) ?_
     refine sqGv (B := (((r.2 && decide (((0 : Int) : Int) ≤ o.k)) && decide ((o.k : Int) < ((outsS ops) : Nat))))) (v := i64 (sl.getD o.k.toNat 0)) (wantedG (d' := 57) (B := true) rfl rfl rfl) (fun hB => by have hB2 := hB; simp only [Bool.and_eq_true, decide_eq_true_eq] at hB2; simp only [gvT (v := _) (h := hB)]; exact r_ldS (E := EI) (l := sl) (j := o.k.toNat) (v := sl.getD o.k.toNat 0) fits3 (H78'.rd (k := 3) rfl hSs) rfl rfl (at_getD (by omega))) ?_
     refine sqGv (B := (((r.2 && decide (((0 : Int) : Int) ≤ o.k)) && decide ((o.k : Int) < ((outsS ops) : Nat))))) (v := .bool (decide ((sl.getD o.k.toNat 0 : Int) = (0 : Int)))) (wantedG (d' := 57) (B := true) rfl rfl rfl) (fun hB => by simp only [gvT (v := _) (h := hB)]; exact r_eqlI (a := sl.getD o.k.toNat 0) (b := (0 : Int)) rfl rfl) ?_
     refine sq (r_pickAnd (B := true) rfl rfl rfl rfl) ?_
     refine sA (.bool ((((r.2 && decide (((0 : Int) : Int) ≤ o.k)) && decide ((o.k : Int) < ((outsS ops) : Nat))) && decide ((sl.getD o.k.toNat 0 : Int) = (0 : Int))))) rfl ?_
     refine wS ?_
     refine sM (.bool ((((r.2 && decide (((0 : Int) : Int) ≤ o.k)) && decide ((o.k : Int) < ((outsS ops) : Nat))) && decide ((sl.getD o.k.toNat 0 : Int) = (0 : Int))))) rfl ?_
     refine wend ?_
     refine condBool ((((r.2 && decide (((0 : Int) : Int) ≤ o.k)) && decide ((o.k : Int) < ((outsS ops) : Nat))) && decide ((sl.getD o.k.toNat 0 : Int) = (0 : Int)))) rfl (fun c65 => ?_) (fun c65 => ?_)
     ·have hkt := ((told_iff hsn c42).1 c65).2 c42
      unfold ToldS at hkt
      refine oneRegion ?_
      refine sM (.slice (ownA (some b17)) (outsS ops) (outsS ops)) rfl ?_
      refine sq (r_fieldAddr (off' := 3) fld36_3 (by decide) (b := b25) (off := 0) rfl (by omega)) ?_
      refine sq (r_loadC (v := i64 (o.k)) one3 (H78'.get (k := 1) rfl) (off := 3) rfl (by rfl)) ?_
      refine sq (r_idxS (E := EI) (l := sl) (j := o.k.toNat) sli100 (H78'.rd (k := 3) rfl hSs) rfl rfl (by omega) (by exact hsl.symm) (by omega)) ?_
      refine d_storeS (E := EI) (k := 3) (l := sl) (j := o.k.toNat) (b := (1 : Int)) (a := sl.getD o.k.toNat 0) H78' rfl hSs rfl rfl rfl rfl siz3 (at_getD (by omega)) ?_
      intro w81 hS80 H82
      have H82' := H82.as (L' := [_, _, _, _, _]) rfl
      clear H82
      refine wnil ?_
      refine thenNormal ?_
      exact hj42 (sl.set o.k.toNat (1 : Int), ((outsS ops) : Nat), (((r.2 && decide (((0 : Int) : Int) ≤ o.k)) && decide ((o.k : Int) < ((outsS ops) : Nat))) && decide ((sl.getD o.k.toNat 0 : Int) = (0 : Int)))) _ _ ⟨rfl, rfl, rfl, rfl, rfl, rfl, rfl, rfl, rfl, rfl, rfl, rfl, rfl, trivial⟩ ⟨⟨by rw [rkS, if_pos c42], told_iff hsn c42, by rw [List.length_set]; exact hsl, fun _ => by have h := (told_iff hsn c42).1 c65; have h2 := h.2 c42; exact seen_set ho hsn hsl c42 ⟨h2.1, h2.2.1⟩, hS80⟩, (H82'.pick 5 [2, 3, 4, 1, 0] (by decide) (by decide))⟩
     ·refine skipAny ?_
      refine thenNormal ?_
      exact hj42 (sl, ((outsS ops) : Nat), (((r.2 && decide (((0 : Int) : Int) ≤ o.k)) && decide ((o.k : Int) < ((outsS ops) : Nat))) && decide ((sl.getD o.k.toNat 0 : Int) = (0 : Int)))) _ _ ⟨rfl, rfl, rfl, rfl, rfl, rfl, rfl, rfl, rfl, rfl, rfl, rfl, rfl, trivial⟩ ⟨⟨by rw [rkS, if_pos c42], told_iff hsn c42, hsl, fun h => absurd (c65.symm.trans h) (by decide), hSs⟩, (H78'.pick 5 [2, 3, 4, 1, 0] (by decide) (by decide))⟩
    ·refine skipAny ?_
     refine thenNormal ?_
     exact hj42 (sl, r.1.k, r.2) _ _ ⟨rfl, rfl, rfl, rfl, rfl, rfl, rfl, rfl, rfl, rfl, rfl, rfl, rfl, trivial⟩ ⟨⟨by rw [rkS, if_neg c42, ← hr], ⟨fun h => ⟨h, fun t => absurd t c42⟩, fun h => h.1⟩, hsl, fun _ => seen_skip ho hsn c42, hSs⟩, (H76.pick 5 [2, 3, 4, 1, 0] (by decide) (by decide))⟩
  ·have hie : i = ops.length := by omega
   refine exitAny ?_
   refine thenExit ?_
   refine thenExit ?_
   refine blockHere ?_
   refine thenNormal ?_
   refine sR ?_
   refine sM (.slice (ownA kf) i cf) rfl ?_
   refine sA (.slice (ownA kf) i cf) rfl ?_
   refine sA (.nilIface) rfl ?_
   refine wend ?_
   refine retAny ?_
   refine retG (rs := [.tmp 4, .tmp 5]) (vs := [.slice (ownA kf) i cf, .nilIface]) rfl ⟨⟨rfl, rfl⟩, ⟨rfl, rfl⟩, trivial⟩ ?_
   exact ⟨_, rfl, .inl ⟨⟨_, rfl⟩, fun j hj => hga j (by omega)⟩, HL2.chg⟩
end Go.Proofs.YtohngnahcgbfmaaGreatDoor.Mi
namespace Go.Proofs.YtohngnahcgbfmaaGreatDoor.Mi
open Go Go.Proofs.YtohngnahcgbfmaaGreatDoor.Vc Go.Proofs.YtohngnahcgbfmaaGreatDoor.Er Go.Proofs.YtohngnahcgbfmaaGreatDoor.Ek Go.Proofs.YtohngnahcgbfmaaGreatDoor.Circ
set_option linter.unusedVariables false
theorem call23 : callable Tryz.prog 23 = true := by kernel_rfl
theorem und29 : Tryz.prog.underlying 29 = some (.array 2 3) := by kernel_rfl
set_option maxHeartbeats 1000000 in
theorem mcheck_ok (ops : List Mo) (oa : Option Addr) (oc : Nat) (e0 e1 : Int) (w : World) (hG : Gl w) (hO : Rd EMo w oa ops) (hol : ops.length ≤ 140737488355328) : Calls Tryz.prog 8 [.slice oa ops.length oc, .agg (cel EI [e0, e1]).toArray].toArray w (Ret fun v w' => ((v = .nilIface ∧ Good ops e0 e1) ∨ (Er w.heap.size w' 110 1 v ∧ ¬ Good ops e0 e1)) ∧ Ext w w') := by
 have H := Hp.start No w
 refine enter (n := 37) Tryz.func8 rfl rfl (bLe rfl) ?_
 refine sR ?_
 refine q_box (v := .agg (cel EI [e0, e1]).toArray) (o := .cells (cel EI ([e0, e1])).toArray 29 (0, 0)) H rfl (by rfl) ?_
 intro b1 w2 hb1 H3 hE4
 refine sA (.nilIface) rfl ?_
 refine wend ?_
 refine seqAny ?_
 refine sR ?_
 refine sq (r_loadA (cs' := (cel EI ([e0, e1])).toArray) agg29 siz29 (H3.get (k := 0) rfl) (off := 0) rfl (by exact bLe rfl) (by exact ext_all rfl)) ?_
 refine sM (i64 0) rfl ?_
 refine wend ?_
 refine blockAny ?_
 refine loopAny (σ := Nat) (fun q => [(0, .slice oa ops.length oc), (3, pT b1), (4, .nilIface), (9, .agg (cel EI ([e0, e1])).toArray), (10, iN q)]) (fun q w' => (q ≤ 2 ∧ ∀ j, j < q → 0 ≤ [e0, e1].getD j 0 ∧ [e0, e1].getD j 0 ≤ 65536) ∧ Hp No w w' [(re b1 EI ([e0, e1]) 29)]) (fun q => 2 - q) (0) ?_ ?_ ?_
 ·exact ⟨rfl, rfl, rfl, rfl, rfl, trivial⟩
 ·exact ⟨⟨Nat.zero_le _, fun j h => absurd h (Nat.not_lt_zero _)⟩, H3⟩
 rintro q ρ w5 ⟨⟨hq, hqa⟩, HL⟩
 refine sR ?_
 refine sq (r_lssI (a := (q : Nat)) (b := (2 : Int)) rfl rfl) ?_
 refine wend ?_
 refine seqAny ?_
 refine condProp (((q : Nat) : Int) < (2 : Int)) rfl (fun c11 => ?_) (fun c11 => ?_)
 ·refine skipAny ?_
  refine thenNormal ?_
  refine seqAny ?_
  refine blockAny ?_
  refine sR ?_
  refine sq (r_idxE (E := EI) (l := [e0, e1]) (j := q) (a := ([e0, e1]).getD q 0) rfl und29 one3 siz3 rfl rfl (by first | rfl | omega | (simp; omega)) (by omega) (by exact at_getD (by show q < 2; omega)) (fun _ => rfl)) ?_
  refine sA (i64 (([e0, e1]).getD q 0)) rfl ?_
  refine wS ?_
  refine sM (i64 (([e0, e1]).getD q 0)) rfl ?_
  refine sq (r_lssI (a := ([e0, e1]).getD q 0) (b := (0 : Int)) rfl rfl) ?_
  refine sM (.bool (decide ((([e0, e1]).getD q 0 : Int) < (0 : Int)))) rfl ?_
  by_cases g7 : (([e0, e1]).getD q 0 : Int) < (0 : Int)
  ·refine skAny (wantedSome (d' := 15) (b := true) rfl rfl (congrArg Value.bool (decide_eq_true g7))) ?_
   refine skAny (wantedSome (d' := 15) (b := true) rfl rfl (congrArg Value.bool (decide_eq_true g7))) ?_
   refine sq (r_pickT (u := .bool true) (congrArg Value.bool (decide_eq_true g7)) rfl) ?_
   refine wend ?_
   refine condTrue rfl ?_
   refine sR ?_
   refine sq (r_mkI und63 (xv := i64 110) rfl) ?_
   refine sM (i64 (([e0, e1]).getD q 0)) rfl ?_
   have := HL.lt (List.mem_of_getElem? (i := 0) rfl) rfl
   refine c_call (vs := [.iface 63 (i64 110), .string ({data := #[101, 108, 101, 109, 101, 110, 116, 115]}), i64 (([e0, e1]).getD q 0)]) call22 rfl (wrap0_ok (110 : Int) (([e0, e1]).getD q 0) ({data := #[101, 108, 101, 109, 101, 110, 116, 115]}) w5 (Chg.gl HL.chg (fun x => x) hG)) ?_
   rintro v10 w8 ⟨hEr11, hE12⟩
   have H13 := HL.ext hE12
   obtain ⟨T14, x15, rfl⟩ := hEr11.iface
   refine sA (.iface T14 x15) rfl ?_
   refine wend ?_
   refine retAny ?_
   refine blockRet ?_
   refine thenRet ?_
   refine thenRet ?_
   refine blockRet ?_
   refine thenRet ?_
   refine rG1 4 (.iface T14 x15) rfl ⟨rfl, rfl⟩ ?_
   exact ⟨_, rfl, .inr ⟨hEr11.mono HL.chg.size, fun h => by
    have hgd : 0 ≤ [e0, e1].getD q 0 ∧ [e0, e1].getD q 0 ≤ 65536 := by
     rcases (show q = 0 ∨ q = 1 by omega) with rfl | rfl
     ·exact ⟨h.l0, h.h0⟩
     ·exact ⟨h.l1, h.h1⟩
    omega⟩, H13.chg⟩
  ·refine sqAny (v := i64 (([e0, e1]).getD q 0)) (w' := w5) (wantedSome (d' := 15) (b := false) rfl rfl (congrArg Value.bool (decide_eq_false g7))) (r_move (v := i64 (([e0, e1]).getD q 0)) rfl) ?_
   refine sqAny (v := .bool (decide (((65536 : Int) : Int) < (([e0, e1]).getD q 0)))) (w' := w5) (wantedSome (d' := 15) (b := false) rfl rfl (congrArg Value.bool (decide_eq_false g7))) (r_gtrI (a := ([e0, e1]).getD q 0) (b := (65536 : Int)) rfl rfl) ?_
   refine sq (r_pickF (v := .bool (decide (((65536 : Int) : Int) < (([e0, e1]).getD q 0)))) (congrArg Value.bool (decide_eq_false g7)) rfl) ?_
   refine wend ?_
   refine condProp (((65536 : Int) : Int) < (([e0, e1]).getD q 0)) rfl (fun c18 => ?_) (fun c18 => ?_)
   ·refine sR ?_
    refine sq (r_mkI und63 (xv := i64 110) rfl) ?_
    refine sM (i64 (([e0, e1]).getD q 0)) rfl ?_
    have := HL.lt (List.mem_of_getElem? (i := 0) rfl) rfl
    refine c_call (vs := [.iface 63 (i64 110), .string ({data := #[101, 108, 101, 109, 101, 110, 116, 115]}), i64 (([e0, e1]).getD q 0)]) call22 rfl (wrap0_ok (110 : Int) (([e0, e1]).getD q 0) ({data := #[101, 108, 101, 109, 101, 110, 116, 115]}) w5 (Chg.gl HL.chg (fun x => x) hG)) ?_
    rintro v18 w16 ⟨hEr19, hE20⟩
    have H21 := HL.ext hE20
    obtain ⟨T22, x23, rfl⟩ := hEr19.iface
    refine sA (.iface T22 x23) rfl ?_
    refine wend ?_
    refine retAny ?_
    refine blockRet ?_
    refine thenRet ?_
    refine thenRet ?_
    refine blockRet ?_
    refine thenRet ?_
    refine rG1 4 (.iface T22 x23) rfl ⟨rfl, rfl⟩ ?_
    exact ⟨_, rfl, .inr ⟨hEr19.mono HL.chg.size, fun h => by
     have hgd : 0 ≤ [e0, e1].getD q 0 ∧ [e0, e1].getD q 0 ≤ 65536 := by
      rcases (show q = 0 ∨ q = 1 by omega) with rfl | rfl
      ·exact ⟨h.l0, h.h0⟩
      ·exact ⟨h.l1, h.h1⟩
     omega⟩, H21.chg⟩
   ·refine skipAny ?_
    refine blockNormal ?_
    refine thenNormal ?_
    refine oneRegion ?_
    refine sq (r_addI (a := (q : Nat)) (b := (1 : Int)) rfl rfl (by omega)) ?_
    refine sM (i64 ((q : Nat) + (1 : Int))) rfl ?_
    refine wnil ?_
    refine thenNormal ?_
    exact ⟨q + 1, _, rfl, ⟨rfl, rfl, rfl, rfl, rfl, trivial⟩, ⟨⟨by omega, fun j hj => if h : j < q then hqa j h else by (rw [show j = q by omega]; omega)⟩, HL⟩, by show 2 - (q + 1) < 2 - q; omega⟩
 ·have hz0 : 0 ≤ e0 ∧ e0 ≤ 65536 := hqa 0 (by omega)
  have hz1 : 0 ≤ e1 ∧ e1 ≤ 65536 := hqa 1 (by omega)
  refine exitAny ?_
  refine thenExit ?_
  refine thenExit ?_
  refine blockHere ?_
  refine thenNormal ?_
  refine seqAny ?_
  refine sR ?_
  refine sM (.slice oa ops.length oc) rfl ?_
  refine sq (r_lenS sli22 (a := oa) (m := ops.length) (c := oc) rfl) ?_
  refine sq (r_gtrI (a := (ops.length : Nat)) (b := (16384 : Int)) rfl rfl) ?_
  refine wend ?_
  refine condProp (((16384 : Int) : Int) < (ops.length : Nat)) rfl (fun c25 => ?_) (fun c25 => ?_)
  ·refine sR ?_
   refine sq (r_mkI und63 (xv := i64 110) rfl) ?_
   refine sM (.slice oa ops.length oc) rfl ?_
   refine sq (r_lenS sli22 (a := oa) (m := ops.length) (c := oc) rfl) ?_
   have := HL.lt (List.mem_of_getElem? (i := 0) rfl) rfl
   refine c_call (vs := [.iface 63 (i64 110), .string ({data := #[111, 112, 115]}), iN ops.length]) call22 rfl (wrap0_ok (110 : Int) (ops.length : Nat) ({data := #[111, 112, 115]}) w5 (Chg.gl HL.chg (fun x => x) hG)) ?_
   rintro v26 w24 ⟨hEr27, hE28⟩
   have H29 := HL.ext hE28
   obtain ⟨T30, x31, rfl⟩ := hEr27.iface
   refine sA (.iface T30 x31) rfl ?_
   refine wend ?_
   refine retAny ?_
   refine thenRet ?_
   refine rG1 4 (.iface T30 x31) rfl ⟨rfl, rfl⟩ ?_
   exact ⟨_, rfl, .inr ⟨hEr27.mono HL.chg.size, fun h => by have := h.len; omega⟩, H29.chg⟩
  ·refine skipAny ?_
   refine thenNormal ?_
   refine sR ?_
   refine sM (.slice oa ops.length oc) rfl ?_
   refine sq (r_loadA (cs' := (cel EI ([e0, e1])).toArray) agg29 siz29 (HL.get (k := 0) rfl) (off := 0) rfl (by exact bLe rfl) (by exact ext_all rfl)) ?_
   have := HL.lt (List.mem_of_getElem? (i := 0) rfl) rfl
   refine c_call (vs := [.slice oa ops.length oc, .agg (cel EI ([e0, e1])).toArray]) call23 rfl (forms_ok ops oa oc e0 e1 w5 (Chg.gl HL.chg (fun x => x) hG) (hO.ext HL.chg) (by omega)) ?_
   rintro _ w32 ⟨⟨⟨x34, rfl⟩, hga35⟩ | ⟨ev36, rfl, hEr37, hbd38⟩, hE39⟩
   ·have H40 := HL.ext hE39
    refine sM (.tuple #[x34, .nilIface]) rfl ?_
    refine sq (r_extract (vs := #[x34, .nilIface]) rfl rfl) ?_
    refine sq (r_extract (vs := #[x34, .nilIface]) rfl rfl) ?_
    refine sA x34 rfl ?_
    refine sA (.nilIface) rfl ?_
    refine wS ?_
    refine sM (.nilIface) rfl ?_
    refine sA (.nilIface) rfl ?_
    refine wend ?_
    refine retAny ?_
    refine rG1 4 (.nilIface) rfl ⟨rfl, rfl⟩ ?_
    exact ⟨_, rfl, .inl ⟨rfl, ⟨hz0.1, hz0.2, hz1.1, hz1.2, by omega, hga35⟩⟩, H40.chg⟩
   ·have H40 := HL.ext hE39
    obtain ⟨T41, x42, rfl⟩ := hEr37.iface
    refine sM (.tuple #[sN0, .iface T41 x42]) rfl ?_
    refine sq (r_extract (vs := #[sN0, .iface T41 x42]) rfl rfl) ?_
    refine sq (r_extract (vs := #[sN0, .iface T41 x42]) rfl rfl) ?_
    refine sA sN0 rfl ?_
    refine sA (.iface T41 x42) rfl ?_
    refine wS ?_
    refine sM (.iface T41 x42) rfl ?_
    refine sA (.iface T41 x42) rfl ?_
    refine wend ?_
    refine retAny ?_
    refine rG1 4 (.iface T41 x42) rfl ⟨rfl, rfl⟩ ?_
    exact ⟨_, rfl, .inr ⟨hEr37.mono HL.chg.size, fun h => hbd38 h.at'⟩, H40.chg⟩
theorem mcheck_yes (ops : List Mo) (oa : Option Addr) (oc : Nat) (e0 e1 : Int) (mo : Nat) (hmo : mo = ops.length) (w : World) (hG : Gl w) (hO : Rd EMo w oa ops) (hol : ops.length ≤ 140737488355328) (hg : Good ops e0 e1) : Calls Tryz.prog 8 [.slice oa mo oc, .agg (cel EI [e0, e1]).toArray].toArray w (Ret fun v w' => v = .nilIface ∧ Ext w w') := by
 subst hmo
 refine (mcheck_ok ops oa oc e0 e1 w hG hO hol).mono fun e w' ⟨v, he, h, hE⟩ => ?_
 rcases h with ⟨h, _⟩ | ⟨_, h⟩
 ·exact ⟨v, he, h, hE⟩
 ·exact absurd hg h
theorem mcheck_no (ops : List Mo) (oa : Option Addr) (oc : Nat) (e0 e1 : Int) (mo : Nat) (hmo : mo = ops.length) (w : World) (hG : Gl w) (hO : Rd EMo w oa ops) (hol : ops.length ≤ 140737488355328) (hg : ¬ Good ops e0 e1) : Calls Tryz.prog 8 [.slice oa mo oc, .agg (cel EI [e0, e1]).toArray].toArray w (Ret fun v w' => Er w.heap.size w' 110 1 v ∧ Ext w w') := by
 subst hmo
 refine (mcheck_ok ops oa oc e0 e1 w hG hO hol).mono fun e w' ⟨v, he, h, hE⟩ => ?_
 rcases h with ⟨_, h⟩ | ⟨h, _⟩
 ·exact absurd h hg
 ·exact ⟨v, he, h, hE⟩
end Go.Proofs.YtohngnahcgbfmaaGreatDoor.Mi
namespace Go.Proofs.YtohngnahcgbfmaaGreatDoor.Mi
open Go Go.Proofs.YtohngnahcgbfmaaGreatDoor.Vc Go.Proofs.YtohngnahcgbfmaaGreatDoor.Er Go.Proofs.YtohngnahcgbfmaaGreatDoor.Ek Go.Proofs.YtohngnahcgbfmaaGreatDoor.Circ
set_option linter.unusedVariables false
theorem call31 : callable Tryz.prog 31 = true := by kernel_rfl
theorem call8 : callable Tryz.prog 8 = true := by kernel_rfl
theorem fld129_6 : fld Tryz.prog 129 6 = some (6, 1, 3) := by kernel_rfl
set_option maxHeartbeats 4000000 in
theorem rounds_ok (ops : List Mo) (oa : Option Addr) (oc : Nat) (w : World) (hG : Gl w) (hO : Rd EMo w oa ops) (hol : ops.length ≤ 140737488355328) (hg : Good ops 65536 65536) : Calls Tryz.prog 34 [.slice oa ops.length oc].toArray w (Ret fun v w' => SlRes EI 3 (rdS ops ops.length) w v w' ∧ Ext w w') := by
 let x6 : Value := .agg (cel EI [65536, 65536]).toArray
 let x2 : Array Value := #[i64 0, i64 0, i64 0, i64 0, .bool false, .bool false, i64 0]
 have hlen := hg.len
 have H := Hp.start No w
 refine enter (n := 52) Tryz.func34 rfl rfl (bLe rfl) ?_
 refine sR ?_
 refine sA sN0 rfl ?_
 refine wend ?_
 refine seqAny ?_
 refine sR ?_
 refine sM (.slice oa ops.length oc) rfl ?_
 refine c_call (vs := []) call31 rfl (all_ok w) ?_
 rintro _ w1 ⟨rfl, hE2⟩
 have H3 := H.ext hE2
 refine c_call (vs := [.slice oa ops.length oc, x6]) call8 rfl (mcheck_yes ops oa oc 65536 65536 ops.length (by rfl) w1 (Chg.gl H3.chg (fun x => x) hG) (hO.ext H3.chg) (by omega) hg) ?_
 rintro _ w4 ⟨rfl, hE5⟩
 have H6 := H3.ext hE5
 refine sq ((r_neqNN isI31 rfl rfl).as (v' := .bool false) (by rfl)) ?_
 refine wend ?_
 refine condFalse rfl ?_
 refine skipAny ?_
 refine thenNormal ?_
 refine sR ?_
 refine sA sN0 rfl ?_
 refine wend ?_
 refine seqAny ?_
 refine sR ?_
 refine sM (.slice oa ops.length oc) rfl ?_
 refine sq (r_lenS sli22 (a := oa) (m := ops.length) (c := oc) rfl) ?_
 refine sM (i64 0) rfl ?_
 have H7 := H6.nil (sob EI 3 [] [])
 refine wend ?_
 refine blockAny ?_
 refine loopAny (σ := Nat × Option Nat × Nat × List Value) (fun (i, kf, cf, sf) => [(2, sN0), (3, .slice (ownA kf) i cf), (13, .slice oa ops.length oc), (14, iN ops.length), (15, iN i)]) (fun (i, kf, cf, sf) w' => (i ≤ ops.length ∧ Sl EI kf (rdS ops i) cf sf) ∧ Hp No w w' [(kf, sob EI 3 (rdS ops i) sf)]) (fun (i, kf, cf, sf) => ops.length - i) ((0, none, 0, [])) ?_ ?_ ?_
 ·exact ⟨rfl, rfl, rfl, rfl, rfl, trivial⟩
 ·exact ⟨⟨Nat.zero_le _, Sl.none⟩, H7⟩
 rintro ⟨i, kf, cf, sf⟩ ρ w8 ⟨⟨hq, hSf⟩, HL⟩
 let x3 : Value := .slice (ownA kf) ops.length cf
 have hfl := rdS_len ops i
 have hrb0 := rd_bound ops i
 refine sR ?_
 refine sq (r_lssI (a := (i : Nat)) (b := (ops.length : Nat)) rfl rfl) ?_
 refine wend ?_
 refine seqAny ?_
 refine condProp (((i : Nat) : Int) < (ops.length : Nat)) rfl (fun c16 => ?_) (fun c16 => ?_)
 ·refine skipAny ?_
  refine thenNormal ?_
  refine seqAny ?_
  refine blockAny ?_
  refine sR ?_
  refine sq (r_idxS (E := EMo) (l := ops) (j := i) sli22 (hO.ext HL.chg) rfl rfl (by first | rfl | omega | (simp; omega)) (by rfl) (by omega)) ?_
  refine sq ((r_ldS (E := EMo) (l := ops) (j := i) (v := ops.getD i mo0) fits36 (hO.ext HL.chg) rfl rfl (at_getD (by omega))).as (v' := .agg #[i64 ((ops.getD i mo0).kd), i64 ((ops.getD i mo0).a), i64 ((ops.getD i mo0).b), i64 ((ops.getD i mo0).k), u64 ((ops.getD i mo0).c), i64 ((ops.getD i mo0).pt)]) rfl) ?_
  refine q_alloc (o := .cells #[i64 0, i64 0, i64 0, i64 0, u64 0#64, i64 0] 36 (0, 0)) HL zer36 (by kernel_rfl) ?_
  intro b10 w11 hb10 H12 hE13
  refine d_store (k := 0) (v := .agg #[i64 ((ops.getD i mo0).kd), i64 ((ops.getD i mo0).a), i64 ((ops.getD i mo0).b), i64 ((ops.getD i mo0).k), u64 ((ops.getD i mo0).c), i64 ((ops.getD i mo0).pt)]) (cs' := #[i64 ((ops.getD i mo0).kd), i64 ((ops.getD i mo0).a), i64 ((ops.getD i mo0).b), i64 ((ops.getD i mo0).k), u64 ((ops.getD i mo0).c), i64 ((ops.getD i mo0).pt)]) H12 rfl rfl rfl siz36 (by rfl) (oneL rfl) (by exact bLe rfl) (by rfl) ?_
  intro w14 H15 hC16
  have H15' := H15.as (L' := [_, _]) rfl
  clear H15
  obtain ⟨o, ho⟩ : ∃ q1, q1 = ops.getD i mo0 := ⟨_, rfl⟩
  let x7 : Value := .slice (ownA kf) i cf
  let x4 : Option Nat × Obj := (kf, sob EI 3 (rdS ops i) sf)
  let x1 : Array Value := #[i64 (o.kd), i64 (o.a), i64 (o.b), i64 (o.k), u64 (o.c), i64 (o.pt)]
  let x5 := rc b10 x1 36
  rw [← ho] at H15' ⊢
  refine wend ?_
  refine seqAny ?_
  refine drawP (m := 9) [0, 0, 3, 7, 15, 15, 0, 95, 255] [1, 2, 6, 7] (fun bs vs w' => match bs, vs with | [false, false, false, false], [_, _, _, _] => Hp No w w' [x5, x4] | [true, false, false, false], [v1, _, _, _] => v1 = .agg (cel EI [65536, 65536]).toArray ∧ Hp No w w' [x5, x4] | [true, true, false, false], [v1, v2, _, _] => v1 = .agg (cel EI [65536, 65536]).toArray ∧ v2 = .tuple #[.agg #[i64 ((ruleS o 65536 65536).1.a), i64 ((ruleS o 65536 65536).1.b), i64 ((ruleS o 65536 65536).1.m), i64 ((ruleS o 65536 65536).1.k), .bool ((ruleS o 65536 65536).1.c), .bool ((ruleS o 65536 65536).1.p), i64 ((ruleS o 65536 65536).1.r)], .bool ((ruleS o 65536 65536).2)] ∧ Hp No w w' [x5, x4] | [false, false, true, false], [_, _, v6, _] => ∃ (b26 : Nat), v6 = pT b26 ∧ Hp No w w' [(rc b26 x2 129), x5, x4] | [true, false, true, false], [v1, _, v6, _] => ∃ (b31 : Nat), v1 = .agg (cel EI [65536, 65536]).toArray ∧ v6 = pT b31 ∧ Hp No w w' [(rc b31 x2 129), x5, x4] | [true, true, true, false], [v1, v2, v6, _] => ∃ (b36 : Nat), v1 = .agg (cel EI [65536, 65536]).toArray ∧ v2 = .tuple #[.agg #[i64 ((ruleS o 65536 65536).1.a), i64 ((ruleS o 65536 65536).1.b), i64 ((ruleS o 65536 65536).1.m), i64 ((ruleS o 65536 65536).1.k), .bool ((ruleS o 65536 65536).1.c), .bool ((ruleS o 65536 65536).1.p), i64 ((ruleS o 65536 65536).1.r)], .bool ((ruleS o 65536 65536).2)] ∧ v6 = pT b36 ∧ Hp No w w' [(rc b36 x2 129), x5, x4] | [true, true, true, true], [v1, v2, v6, _] => ∃ (b36 : Nat), v1 = .agg (cel EI [65536, 65536]).toArray ∧ v2 = .tuple #[.agg #[i64 ((ruleS o 65536 65536).1.a), i64 ((ruleS o 65536 65536).1.b), i64 ((ruleS o 65536 65536).1.m), i64 ((ruleS o 65536 65536).1.k), .bool ((ruleS o 65536 65536).1.c), .bool ((ruleS o 65536 65536).1.p), i64 ((ruleS o 65536 65536).1.r)], .bool ((ruleS o 65536 65536).2)] ∧ v6 = pT b36 ∧ Hp No w w' [(rc b36 #[i64 ((ruleS o 65536 65536).1.a), i64 ((ruleS o 65536 65536).1.b), i64 ((ruleS o 65536 65536).1.m), i64 ((ruleS o 65536 65536).1.k), .bool ((ruleS o 65536 65536).1.c), .bool ((ruleS o 65536 65536).1.p), i64 ((ruleS o 65536 65536).1.r)] 129), x5, x4] | _, _ => False) mixed (by kernel_rfl) (by kernel_rfl) H15'.drew ?_
  refine WalkP.look rfl (fun _ => .agg x1) (fun _ _ _ => rfl) (fun L r uw hAn hDn hF => ?_) ?_
  ·have b2 := hDn 2 (by decide) rfl
   have b7 := hDn 7 (by decide) rfl
   rcases bTF (L 1) with b1 | b1
   ·rcases bTF (L 6) with b6 | b6
    ·have hb := mp4 b1 b2 b6 b7
     rw [hb] at hF
     obtain ⟨b31, e1, e6, HH⟩ := hF
     exact Gives.run rfl (r_loadA (cs' := x1) agg36 siz36 (HH.get (k := 1) rfl) (off := 0) rfl (by exact bLe rfl) (by rfl)) ⟨rfl, rfl⟩
    ·have hb := mp4 b1 b2 b6 b7
     rw [hb] at hF
     obtain ⟨e1, HH⟩ := hF
     exact Gives.run rfl (r_loadA (cs' := x1) agg36 siz36 (HH.get (k := 0) rfl) (off := 0) rfl (by exact bLe rfl) (by rfl)) ⟨rfl, rfl⟩
   ·rcases bTF (L 6) with b6 | b6
    ·have hb := mp4 b1 b2 b6 b7
     rw [hb] at hF
     obtain ⟨b26, e6, HH⟩ := hF
     exact Gives.run rfl (r_loadA (cs' := x1) agg36 siz36 (HH.get (k := 1) rfl) (off := 0) rfl (by exact bLe rfl) (by rfl)) ⟨rfl, rfl⟩
    ·have hb := mp4 b1 b2 b6 b7
     rw [hb] at hF
     have HH := hF
     exact Gives.run rfl (r_loadA (cs' := x1) agg36 siz36 (HH.get (k := 0) rfl) (off := 0) rfl (by exact bLe rfl) (by rfl)) ⟨rfl, rfl⟩
  refine WalkP.eff 0 rfl (fun L r uw hLn hAn hDn hF => ?_) ?_
  ·have b1 : L 1 = false := hLn
   have b2 := hDn 2 (by decide) rfl
   have b7 := hDn 7 (by decide) rfl
   rcases bTF (L 6) with b6 | b6
   ·have hb := mp4 b1 b2 b6 b7
    rw [hb] at hF ⊢
    obtain ⟨b26, e6, H44⟩ := hF
    dsimp only
    refine Gives.ofW (d := 21) rfl rfl (fun Q' hK => ?_)
    refine c_call (vs := []) call31 rfl (all_ok uw) ?_
    rintro _ w45 ⟨rfl, hE46⟩
    have H47 := H44.ext hE46
    exact hK _ _ (show ∃ (b31 : Nat), (_ : Value) = .agg (cel EI [65536, 65536]).toArray ∧ r 6 = pT b31 ∧ Hp No w w45 [(rc b31 x2 129), x5, x4] from ⟨b26, rfl, e6, H47⟩)
   ·have hb := mp4 b1 b2 b6 b7
    rw [hb] at hF ⊢
    have H48 := hF
    dsimp only
    refine Gives.ofW (d := 21) rfl rfl (fun Q' hK => ?_)
    refine c_call (vs := []) call31 rfl (all_ok uw) ?_
    rintro _ w49 ⟨rfl, hE50⟩
    have H51 := H48.ext hE50
    exact hK _ _ (show (_ : Value) = .agg (cel EI [65536, 65536]).toArray ∧ Hp No w w49 [x5, x4] from ⟨rfl, H51⟩)
  refine WalkP.eff 1 rfl (fun L r uw hLn hAn hDn hF => ?_) ?_
  ·have b1 := hAn 1 (by decide) rfl
   have b2 : L 2 = false := hLn
   have b7 := hDn 7 (by decide) rfl
   rcases bTF (L 6) with b6 | b6
   ·have hb := mp4 b1 b2 b6 b7
    rw [hb] at hF ⊢
    obtain ⟨b31, e1, e6, H52⟩ := hF
    dsimp only
    rw [e1]
    refine Gives.ofW (d := 22) rfl rfl (fun Q' hK => ?_)
    refine c_call (vs := [.agg x1, x6]) call42 rfl (rule_ok o 65536 65536 uw (Chg.gl H52.chg (fun x => x) hG)) ?_
    rintro _ w53 ⟨rfl, hE54⟩
    have H55 := H52.ext hE54
    exact hK _ _ (show ∃ (b36 : Nat), r 1 = .agg (cel EI [65536, 65536]).toArray ∧ (_ : Value) = .tuple #[.agg #[i64 ((ruleS o 65536 65536).1.a), i64 ((ruleS o 65536 65536).1.b), i64 ((ruleS o 65536 65536).1.m), i64 ((ruleS o 65536 65536).1.k), .bool ((ruleS o 65536 65536).1.c), .bool ((ruleS o 65536 65536).1.p), i64 ((ruleS o 65536 65536).1.r)], .bool ((ruleS o 65536 65536).2)] ∧ r 6 = pT b36 ∧ Hp No w w53 [(rc b36 x2 129), x5, x4] from ⟨b31, e1, rfl, e6, H55⟩)
   ·have hb := mp4 b1 b2 b6 b7
    rw [hb] at hF ⊢
    obtain ⟨e1, H56⟩ := hF
    dsimp only
    rw [e1]
    refine Gives.ofW (d := 22) rfl rfl (fun Q' hK => ?_)
    refine c_call (vs := [.agg x1, x6]) call42 rfl (rule_ok o 65536 65536 uw (Chg.gl H56.chg (fun x => x) hG)) ?_
    rintro _ w57 ⟨rfl, hE58⟩
    have H59 := H56.ext hE58
    exact hK _ _ (show r 1 = .agg (cel EI [65536, 65536]).toArray ∧ (_ : Value) = .tuple #[.agg #[i64 ((ruleS o 65536 65536).1.a), i64 ((ruleS o 65536 65536).1.b), i64 ((ruleS o 65536 65536).1.m), i64 ((ruleS o 65536 65536).1.k), .bool ((ruleS o 65536 65536).1.c), .bool ((ruleS o 65536 65536).1.p), i64 ((ruleS o 65536 65536).1.r)], .bool ((ruleS o 65536 65536).2)] ∧ Hp No w w57 [x5, x4] from ⟨e1, rfl, H59⟩)
  refine WalkP.look rfl (fun r => r 2) (fun r r' h => h 2 (by decide) rfl) (fun L r uw _ _ _ => Gives.run rfl (r_move rfl) ⟨rfl, rfl⟩) ?_
  refine WalkP.look rfl (fun r => proj (r 2) 0) (fun r r' h => by rw [h 2 (by decide) rfl]) (fun L r uw hAn hDn hF => ?_) ?_
  ·have b1 := hAn 1 (by decide) rfl
   have b2 := hAn 2 (by decide) rfl
   have b7 := hDn 7 (by decide) rfl
   rcases bTF (L 6) with b6 | b6
   ·have hb := mp4 b1 b2 b6 b7
    rw [hb] at hF
    obtain ⟨b36, e1, e2, e6, HH⟩ := hF
    dsimp only
    rw [e2]
    exact Gives.run rfl (r_extract (vs := #[.agg #[i64 ((ruleS o 65536 65536).1.a), i64 ((ruleS o 65536 65536).1.b), i64 ((ruleS o 65536 65536).1.m), i64 ((ruleS o 65536 65536).1.k), .bool ((ruleS o 65536 65536).1.c), .bool ((ruleS o 65536 65536).1.p), i64 ((ruleS o 65536 65536).1.r)], .bool ((ruleS o 65536 65536).2)]) rfl rfl) ⟨rfl, rfl⟩
   ·have hb := mp4 b1 b2 b6 b7
    rw [hb] at hF
    obtain ⟨e1, e2, HH⟩ := hF
    dsimp only
    rw [e2]
    exact Gives.run rfl (r_extract (vs := #[.agg #[i64 ((ruleS o 65536 65536).1.a), i64 ((ruleS o 65536 65536).1.b), i64 ((ruleS o 65536 65536).1.m), i64 ((ruleS o 65536 65536).1.k), .bool ((ruleS o 65536 65536).1.c), .bool ((ruleS o 65536 65536).1.p), i64 ((ruleS o 65536 65536).1.r)], .bool ((ruleS o 65536 65536).2)]) rfl rfl) ⟨rfl, rfl⟩
  refine WalkP.look rfl (fun r => proj (r 2) 1) (fun r r' h => by rw [h 2 (by decide) rfl]) (fun L r uw hAn hDn hF => ?_) ?_
  ·have b1 := hAn 1 (by decide) rfl
   have b2 := hAn 2 (by decide) rfl
   rcases bTF (L 6) with b6 | b6
   ·rcases bTF (L 7) with b7 | b7
    ·have hb := mp4 b1 b2 b6 b7
     rw [hb] at hF
     obtain ⟨b36, e1, e2, e6, HH⟩ := hF
     dsimp only
     rw [e2]
     exact Gives.run rfl (r_extract (vs := #[.agg #[i64 ((ruleS o 65536 65536).1.a), i64 ((ruleS o 65536 65536).1.b), i64 ((ruleS o 65536 65536).1.m), i64 ((ruleS o 65536 65536).1.k), .bool ((ruleS o 65536 65536).1.c), .bool ((ruleS o 65536 65536).1.p), i64 ((ruleS o 65536 65536).1.r)], .bool ((ruleS o 65536 65536).2)]) rfl rfl) ⟨rfl, rfl⟩
    ·have hb := mp4 b1 b2 b6 b7
     rw [hb] at hF
     obtain ⟨b36, e1, e2, e6, HH⟩ := hF
     dsimp only
     rw [e2]
     exact Gives.run rfl (r_extract (vs := #[.agg #[i64 ((ruleS o 65536 65536).1.a), i64 ((ruleS o 65536 65536).1.b), i64 ((ruleS o 65536 65536).1.m), i64 ((ruleS o 65536 65536).1.k), .bool ((ruleS o 65536 65536).1.c), .bool ((ruleS o 65536 65536).1.p), i64 ((ruleS o 65536 65536).1.r)], .bool ((ruleS o 65536 65536).2)]) rfl rfl) ⟨rfl, rfl⟩
   ·rcases bTF (L 7) with b7 | b7
    ·have hb := mp4 b1 b2 b6 b7
     rw [hb] at hF
     exact False.elim hF
    ·have hb := mp4 b1 b2 b6 b7
     rw [hb] at hF
     obtain ⟨e1, e2, HH⟩ := hF
     dsimp only
     rw [e2]
     exact Gives.run rfl (r_extract (vs := #[.agg #[i64 ((ruleS o 65536 65536).1.a), i64 ((ruleS o 65536 65536).1.b), i64 ((ruleS o 65536 65536).1.m), i64 ((ruleS o 65536 65536).1.k), .bool ((ruleS o 65536 65536).1.c), .bool ((ruleS o 65536 65536).1.p), i64 ((ruleS o 65536 65536).1.r)], .bool ((ruleS o 65536 65536).2)]) rfl rfl) ⟨rfl, rfl⟩
  refine WalkP.eff 2 rfl (fun L r uw hLn hAn hDn hF => ?_) ?_
  ·have b6 : L 6 = false := hLn
   have b7 := hDn 7 (by decide) rfl
   rcases bTF (L 1) with b1 | b1
   ·rcases bTF (L 2) with b2 | b2
    ·have hb := mp4 b1 b2 b6 b7
     rw [hb] at hF ⊢
     obtain ⟨e1, e2, H60⟩ := hF
     dsimp only
     rw [e1, e2]
     refine Gives.ofW (d := 6) rfl rfl (fun Q' hK => ?_)
     refine q_alloc (o := .cells x2 129 (0, 0)) H60 zer129 (by kernel_rfl) ?_
     intro b61 w62 hb61 H63 hE64
     exact hK _ _ (show ∃ (b36 : Nat), r 1 = .agg (cel EI [65536, 65536]).toArray ∧ r 2 = .tuple #[.agg #[i64 ((ruleS o 65536 65536).1.a), i64 ((ruleS o 65536 65536).1.b), i64 ((ruleS o 65536 65536).1.m), i64 ((ruleS o 65536 65536).1.k), .bool ((ruleS o 65536 65536).1.c), .bool ((ruleS o 65536 65536).1.p), i64 ((ruleS o 65536 65536).1.r)], .bool ((ruleS o 65536 65536).2)] ∧ (_ : Value) = pT b36 ∧ Hp No w w62 [(rc b36 x2 129), x5, x4] from ⟨b61, e1, e2, rfl, H63⟩)
    ·have hb := mp4 b1 b2 b6 b7
     rw [hb] at hF ⊢
     obtain ⟨e1, H65⟩ := hF
     dsimp only
     rw [e1]
     refine Gives.ofW (d := 6) rfl rfl (fun Q' hK => ?_)
     refine q_alloc (o := .cells x2 129 (0, 0)) H65 zer129 (by kernel_rfl) ?_
     intro b66 w67 hb66 H68 hE69
     exact hK _ _ (show ∃ (b31 : Nat), r 1 = .agg (cel EI [65536, 65536]).toArray ∧ (_ : Value) = pT b31 ∧ Hp No w w67 [(rc b31 x2 129), x5, x4] from ⟨b66, e1, rfl, H68⟩)
   ·rcases bTF (L 2) with b2 | b2
    ·have hb := mp4 b1 b2 b6 b7
     rw [hb] at hF
     exact False.elim hF
    ·have hb := mp4 b1 b2 b6 b7
     rw [hb] at hF ⊢
     have H70 := hF
     dsimp only
     refine Gives.ofW (d := 6) rfl rfl (fun Q' hK => ?_)
     refine q_alloc (o := .cells x2 129 (0, 0)) H70 zer129 (by kernel_rfl) ?_
     intro b71 w72 hb71 H73 hE74
     exact hK _ _ (show ∃ (b26 : Nat), (_ : Value) = pT b26 ∧ Hp No w w72 [(rc b26 x2 129), x5, x4] from ⟨b71, rfl, H73⟩)
  refine WalkP.eff 3 rfl (fun L r uw hLn hAn hDn hF => ?_) ?_
  ·have b1 := hAn 1 (by decide) rfl
   have b2 := hAn 2 (by decide) rfl
   have b6 := hAn 6 (by decide) rfl
   have b7 : L 7 = false := hLn
   have hb := mp4 b1 b2 b6 b7
   rw [hb] at hF ⊢
   obtain ⟨b36, e1, e2, e6, H75⟩ := hF
   dsimp only
   rw [e1, e2, e6]
   refine Gives.ofW0 rfl (fun Q' hK => ?_)
   refine d_store (k := 0) (v := .agg #[i64 ((ruleS o 65536 65536).1.a), i64 ((ruleS o 65536 65536).1.b), i64 ((ruleS o 65536 65536).1.m), i64 ((ruleS o 65536 65536).1.k), .bool ((ruleS o 65536 65536).1.c), .bool ((ruleS o 65536 65536).1.p), i64 ((ruleS o 65536 65536).1.r)]) (cs' := #[i64 ((ruleS o 65536 65536).1.a), i64 ((ruleS o 65536 65536).1.b), i64 ((ruleS o 65536 65536).1.m), i64 ((ruleS o 65536 65536).1.k), .bool ((ruleS o 65536 65536).1.c), .bool ((ruleS o 65536 65536).1.p), i64 ((ruleS o 65536 65536).1.r)]) H75 rfl rfl rfl siz129 (by rfl) (oneL rfl) (by exact bLe rfl) (by rfl) ?_
   intro w76 H77 hC78
   have H77' := H77.as (L' := [_, _, _]) rfl
   clear H77
   exact hK _ (fun _ => (show ∃ (b36 : Nat), r 1 = .agg (cel EI [65536, 65536]).toArray ∧ r 2 = .tuple #[.agg #[i64 ((ruleS o 65536 65536).1.a), i64 ((ruleS o 65536 65536).1.b), i64 ((ruleS o 65536 65536).1.m), i64 ((ruleS o 65536 65536).1.k), .bool ((ruleS o 65536 65536).1.c), .bool ((ruleS o 65536 65536).1.p), i64 ((ruleS o 65536 65536).1.r)], .bool ((ruleS o 65536 65536).2)] ∧ r 6 = pT b36 ∧ Hp No w w76 [(rc b36 #[i64 ((ruleS o 65536 65536).1.a), i64 ((ruleS o 65536 65536).1.b), i64 ((ruleS o 65536 65536).1.m), i64 ((ruleS o 65536 65536).1.k), .bool ((ruleS o 65536 65536).1.c), .bool ((ruleS o 65536 65536).1.p), i64 ((ruleS o 65536 65536).1.r)] 129), x5, x4] from ⟨b36, e1, e2, e6, H77'⟩))
  refine WalkP.look rfl (fun r => proj (r 2) 1) (fun r r' h => by rw [h 2 (by decide) rfl]) (fun L r uw _ _ _ => Gives.run rfl (r_assign rfl) ⟨rfl, rfl⟩) ?_
  refine WalkP.nil ?_
  intro r79 w80 hF
  obtain ⟨b36, e1, e2, e6, H81⟩ := hF
  dsimp only
  rw [e1, e2, e6]
  obtain ⟨r, hr⟩ : ∃ q1, q1 = ruleS o 65536 65536 := ⟨_, rfl⟩
  rw [← hr] at H81 ⊢
  have hgo := hg.at' i (by omega)
  rw [← ho] at hgo
  have hwa := hgo.a
  have hwb := hgo.b
  rw [← hr] at hwa hwb
  unfold wantP at hwa hwb
  refine wnil ?_
  refine thenNormal ?_
  refine sR ?_
  refine sA (i64 0) rfl ?_
  refine wend ?_
  refine seqAny ?_
  refine sR ?_
  refine sq (r_fieldAddr (off' := 0) fld129_0 (by decide) (b := b36) (off := 0) rfl (by omega)) ?_
  refine sq (r_loadC (v := i64 (r.1.a)) one127 (H81.get (k := 0) rfl) (off := 0) rfl (by rfl)) ?_
  refine sq (r_neqI (a := r.1.a) (b := (0 : Int)) rfl rfl) ?_
  refine wend ?_
  refine condProp ((r.1.a : Int) ≠ (0 : Int)) rfl (fun c27 => ?_) (fun c27 => ?_)
  ·have hra : r.1.a ≠ 0 := by simpa using c27
   rw [if_neg hra] at hwa
   refine oneRegion ?_
   refine sM x7 rfl ?_
   refine sq (r_fieldAddr (off' := 1) fld36_1 (by decide) (b := b10) (off := 0) rfl (by omega)) ?_
   refine sq (r_loadC (v := i64 (o.a)) one3 (H81.get (k := 1) rfl) (off := 1) rfl (by rfl)) ?_
   refine sq (r_idxS (E := EI) (l := rdS ops i) (j := o.a.toNat) sli100 (H81.rd (k := 2) rfl hSf) rfl rfl (by omega) (by exact (rdS_len ops i).symm) (by omega)) ?_
   refine sq (r_ldS (E := EI) (l := rdS ops i) (j := o.a.toNat) (v := (rdS ops i).getD o.a.toNat 0) fits3 (H81.rd (k := 2) rfl hSf) rfl rfl (at_getD (by omega))) ?_
   refine sA (i64 ((rdS ops i).getD o.a.toNat 0)) rfl ?_
   refine wnil ?_
   refine thenNormal ?_
   refine seqAny ?_
   refine sR ?_
   refine sq (r_fieldAddr (off' := 1) fld129_1 (by decide) (b := b36) (off := 0) rfl (by omega)) ?_
   refine sq (r_loadC (v := i64 (r.1.b)) one127 (H81.get (k := 0) rfl) (off := 1) rfl (by rfl)) ?_
   refine sq (r_neqI (a := r.1.b) (b := (0 : Int)) rfl rfl) ?_
   refine wend ?_
   refine condProp ((r.1.b : Int) ≠ (0 : Int)) rfl (fun c35 => ?_) (fun c35 => ?_)
   ·have hrb : r.1.b ≠ 0 := by simpa using c35
    rw [if_neg hrb] at hwb
    refine oneRegion ?_
    refine sM (i64 ((rdS ops i).getD o.a.toNat 0)) rfl ?_
    refine sM x7 rfl ?_
    refine sq (r_fieldAddr (off' := 2) fld36_2 (by decide) (b := b10) (off := 0) rfl (by omega)) ?_
    refine sq (r_loadC (v := i64 (o.b)) one3 (H81.get (k := 1) rfl) (off := 2) rfl (by rfl)) ?_
    refine sq (r_idxS (E := EI) (l := rdS ops i) (j := o.b.toNat) sli100 (H81.rd (k := 2) rfl hSf) rfl rfl (by omega) (by exact (rdS_len ops i).symm) (by omega)) ?_
    refine sq (r_ldS (E := EI) (l := rdS ops i) (j := o.b.toNat) (v := (rdS ops i).getD o.b.toNat 0) fits3 (H81.rd (k := 2) rfl hSf) rfl rfl (at_getD (by omega))) ?_
    refine sq (r_maxI (a := (rdS ops i).getD o.a.toNat 0) (b := (rdS ops i).getD o.b.toNat 0) rfl rfl) ?_
    refine sA (i64 (max ((rdS ops i).getD o.a.toNat 0) ((rdS ops i).getD o.b.toNat 0))) rfl ?_
    refine wnil ?_
    refine thenNormal ?_
    refine oneRegion ?_
    refine sM x7 rfl ?_
    refine sM (i64 (max ((rdS ops i).getD o.a.toNat 0) ((rdS ops i).getD o.b.toNat 0))) rfl ?_
    refine sq (r_fieldAddr (off' := 6) fld129_6 (by decide) (b := b36) (off := 0) rfl (by omega)) ?_
    refine sq (r_loadC (v := i64 (r.1.r)) one3 (H81.get (k := 0) rfl) (off := 6) rfl (by rfl)) ?_
    refine sq (r_addI (a := max ((rdS ops i).getD o.a.toNat 0) ((rdS ops i).getD o.b.toNat 0)) (b := r.1.r) rfl rfl (by have h1 := hrb0.2 o.a.toNat; have h2 := hrb0.2 o.b.toNat; have h3 := rule_r o 65536 65536; rw [← hr] at h3; omega)) ?_
    refine q_buildSlice (E := EI) (l := [(max ((rdS ops i).getD o.a.toNat 0) ((rdS ops i).getD o.b.toNat 0)) + r.1.r]) H81 sli100 zer3 (bLe rfl) (ps := [(0, i64 ((max ((rdS ops i).getD o.a.toNat 0) ((rdS ops i).getD o.b.toNat 0)) + r.1.r))]) rfl (by exact fillAll rfl rfl) rfl ?_
    intro b82 w84 hS83 H85 hE86
    refine q_append (E := EI) (k := 3) (l := rdS ops i) (l2 := [(max ((rdS ops i).getD o.a.toNat 0) ((rdS ops i).getD o.b.toNat 0)) + r.1.r]) H85 rfl hSf sli100 zer3 rfl byt3 (H85.rd (k := 0) rfl hS83) rfl (by exact (rdS_len ops i).symm) rfl (by rfl) (by omega) ?_
    intro key87 c88 sp89 w91 hS90 hne93 H92
    have H92' := H92.as (L' := [_, _, _, _]) rfl
    clear H92
    have e94 : (rdS ops i) ++ ([(max ((rdS ops i).getD o.a.toNat 0) ((rdS ops i).getD o.b.toNat 0)) + r.1.r]) = rdS ops (i + 1) := by rw [rdS, ← ho, ← hr, aheadS, if_neg hrb, if_neg hra]
    have hS95 := hS90
    rw [e94] at hS95
    have H96 := H92'.as (L' := [((some b82), sob EI 3 ([(max ((rdS ops i).getD o.a.toNat 0) ((rdS ops i).getD o.b.toNat 0)) + r.1.r]) ([])), (rc b36 #[i64 (r.1.a), i64 (r.1.b), i64 (r.1.m), i64 (r.1.k), .bool (r.1.c), .bool (r.1.p), i64 (r.1.r)] 129), (rc b10 #[i64 (o.kd), i64 (o.a), i64 (o.b), i64 (o.k), u64 (o.c), i64 (o.pt)] 36), (key87, sob EI 3 (rdS ops (i + 1)) sp89)]) (by rw [e94])
    refine sA (.slice (ownA key87) (i + 1) c88) rfl ?_
    refine wnil ?_
    refine blockNormal ?_
    refine thenNormal ?_
    refine oneRegion ?_
    refine sq (r_addI (a := (i : Nat)) (b := (1 : Int)) rfl rfl (by omega)) ?_
    refine sM (i64 ((i : Nat) + (1 : Int))) rfl ?_
    refine wnil ?_
    refine thenNormal ?_
    exact ⟨(i + 1, key87, c88, sp89), _, rfl, ⟨rfl, rfl, rfl, rfl, rfl, trivial⟩, ⟨⟨by omega, hS95⟩, (((H96.dropk 2).dropk 1).dropk 0)⟩, by show ops.length - (i + 1) < ops.length - i; omega⟩
   ·have hrb : r.1.b = 0 := by simpa using c35
    rw [if_pos hrb] at hwb
    refine skipAny ?_
    refine thenNormal ?_
    refine oneRegion ?_
    refine sM x7 rfl ?_
    refine sM (i64 ((rdS ops i).getD o.a.toNat 0)) rfl ?_
    refine sq (r_fieldAddr (off' := 6) fld129_6 (by decide) (b := b36) (off := 0) rfl (by omega)) ?_
    refine sq (r_loadC (v := i64 (r.1.r)) one3 (H81.get (k := 0) rfl) (off := 6) rfl (by rfl)) ?_
    refine sq (r_addI (a := (rdS ops i).getD o.a.toNat 0) (b := r.1.r) rfl rfl (by have h1 := hrb0.2 o.a.toNat; have h2 := hrb0.2 o.b.toNat; have h3 := rule_r o 65536 65536; rw [← hr] at h3; omega)) ?_
    refine q_buildSlice (E := EI) (l := [((rdS ops i).getD o.a.toNat 0) + r.1.r]) H81 sli100 zer3 (bLe rfl) (ps := [(0, i64 (((rdS ops i).getD o.a.toNat 0) + r.1.r))]) rfl (by exact fillAll rfl rfl) rfl ?_
    intro b97 w99 hS98 H100 hE101
    refine q_append (E := EI) (k := 3) (l := rdS ops i) (l2 := [((rdS ops i).getD o.a.toNat 0) + r.1.r]) H100 rfl hSf sli100 zer3 rfl byt3 (H100.rd (k := 0) rfl hS98) rfl (by exact (rdS_len ops i).symm) rfl (by rfl) (by omega) ?_
    intro key102 c103 sp104 w106 hS105 hne108 H107
    have H107' := H107.as (L' := [_, _, _, _]) rfl
    clear H107
    have e109 : (rdS ops i) ++ ([((rdS ops i).getD o.a.toNat 0) + r.1.r]) = rdS ops (i + 1) := by rw [rdS, ← ho, ← hr, aheadS, if_pos hrb, if_neg hra]
    have hS110 := hS105
    rw [e109] at hS110
    have H111 := H107'.as (L' := [((some b97), sob EI 3 ([((rdS ops i).getD o.a.toNat 0) + r.1.r]) ([])), (rc b36 #[i64 (r.1.a), i64 (r.1.b), i64 (r.1.m), i64 (r.1.k), .bool (r.1.c), .bool (r.1.p), i64 (r.1.r)] 129), (rc b10 #[i64 (o.kd), i64 (o.a), i64 (o.b), i64 (o.k), u64 (o.c), i64 (o.pt)] 36), (key102, sob EI 3 (rdS ops (i + 1)) sp104)]) (by rw [e109])
    refine sA (.slice (ownA key102) (i + 1) c103) rfl ?_
    refine wnil ?_
    refine blockNormal ?_
    refine thenNormal ?_
    refine oneRegion ?_
    refine sq (r_addI (a := (i : Nat)) (b := (1 : Int)) rfl rfl (by omega)) ?_
    refine sM (i64 ((i : Nat) + (1 : Int))) rfl ?_
    refine wnil ?_
    refine thenNormal ?_
    exact ⟨(i + 1, key102, c103, sp104), _, rfl, ⟨rfl, rfl, rfl, rfl, rfl, trivial⟩, ⟨⟨by omega, hS110⟩, (((H111.dropk 2).dropk 1).dropk 0)⟩, by show ops.length - (i + 1) < ops.length - i; omega⟩
  ·have hra : r.1.a = 0 := by simpa using c27
   rw [if_pos hra] at hwa
   refine skipAny ?_
   refine thenNormal ?_
   refine seqAny ?_
   refine sR ?_
   refine sq (r_fieldAddr (off' := 1) fld129_1 (by decide) (b := b36) (off := 0) rfl (by omega)) ?_
   refine sq (r_loadC (v := i64 (r.1.b)) one127 (H81.get (k := 0) rfl) (off := 1) rfl (by rfl)) ?_
   refine sq (r_neqI (a := r.1.b) (b := (0 : Int)) rfl rfl) ?_
   refine wend ?_
   refine condProp ((r.1.b : Int) ≠ (0 : Int)) rfl (fun c35 => ?_) (fun c35 => ?_)
   ·have hrb : r.1.b ≠ 0 := by simpa using c35
    rw [if_neg hrb] at hwb
    refine oneRegion ?_
    refine sM (i64 0) rfl ?_
    refine sM x7 rfl ?_
    refine sq (r_fieldAddr (off' := 2) fld36_2 (by decide) (b := b10) (off := 0) rfl (by omega)) ?_
    refine sq (r_loadC (v := i64 (o.b)) one3 (H81.get (k := 1) rfl) (off := 2) rfl (by rfl)) ?_
    refine sq (r_idxS (E := EI) (l := rdS ops i) (j := o.b.toNat) sli100 (H81.rd (k := 2) rfl hSf) rfl rfl (by omega) (by exact (rdS_len ops i).symm) (by omega)) ?_
    refine sq (r_ldS (E := EI) (l := rdS ops i) (j := o.b.toNat) (v := (rdS ops i).getD o.b.toNat 0) fits3 (H81.rd (k := 2) rfl hSf) rfl rfl (at_getD (by omega))) ?_
    refine sq (r_maxI (a := (0 : Int)) (b := (rdS ops i).getD o.b.toNat 0) rfl rfl) ?_
    refine sA (i64 (max (0 : Int) ((rdS ops i).getD o.b.toNat 0))) rfl ?_
    refine wnil ?_
    refine thenNormal ?_
    refine oneRegion ?_
    refine sM x7 rfl ?_
    refine sM (i64 (max (0 : Int) ((rdS ops i).getD o.b.toNat 0))) rfl ?_
    refine sq (r_fieldAddr (off' := 6) fld129_6 (by decide) (b := b36) (off := 0) rfl (by omega)) ?_
    refine sq (r_loadC (v := i64 (r.1.r)) one3 (H81.get (k := 0) rfl) (off := 6) rfl (by rfl)) ?_
    refine sq (r_addI (a := max (0 : Int) ((rdS ops i).getD o.b.toNat 0)) (b := r.1.r) rfl rfl (by have h1 := hrb0.2 o.a.toNat; have h2 := hrb0.2 o.b.toNat; have h3 := rule_r o 65536 65536; rw [← hr] at h3; omega)) ?_
    refine q_buildSlice (E := EI) (l := [(max (0 : Int) ((rdS ops i).getD o.b.toNat 0)) + r.1.r]) H81 sli100 zer3 (bLe rfl) (ps := [(0, i64 ((max (0 : Int) ((rdS ops i).getD o.b.toNat 0)) + r.1.r))]) rfl (by exact fillAll rfl rfl) rfl ?_
    intro b112 w114 hS113 H115 hE116
    refine q_append (E := EI) (k := 3) (l := rdS ops i) (l2 := [(max (0 : Int) ((rdS ops i).getD o.b.toNat 0)) + r.1.r]) H115 rfl hSf sli100 zer3 rfl byt3 (H115.rd (k := 0) rfl hS113) rfl (by exact (rdS_len ops i).symm) rfl (by rfl) (by omega) ?_
    intro key117 c118 sp119 w121 hS120 hne123 H122
    have H122' := H122.as (L' := [_, _, _, _]) rfl
    clear H122
    have e124 : (rdS ops i) ++ ([(max (0 : Int) ((rdS ops i).getD o.b.toNat 0)) + r.1.r]) = rdS ops (i + 1) := by rw [rdS, ← ho, ← hr, aheadS, if_neg hrb, if_pos hra]
    have hS125 := hS120
    rw [e124] at hS125
    have H126 := H122'.as (L' := [((some b112), sob EI 3 ([(max (0 : Int) ((rdS ops i).getD o.b.toNat 0)) + r.1.r]) ([])), (rc b36 #[i64 (r.1.a), i64 (r.1.b), i64 (r.1.m), i64 (r.1.k), .bool (r.1.c), .bool (r.1.p), i64 (r.1.r)] 129), (rc b10 #[i64 (o.kd), i64 (o.a), i64 (o.b), i64 (o.k), u64 (o.c), i64 (o.pt)] 36), (key117, sob EI 3 (rdS ops (i + 1)) sp119)]) (by rw [e124])
    refine sA (.slice (ownA key117) (i + 1) c118) rfl ?_
    refine wnil ?_
    refine blockNormal ?_
    refine thenNormal ?_
    refine oneRegion ?_
    refine sq (r_addI (a := (i : Nat)) (b := (1 : Int)) rfl rfl (by omega)) ?_
    refine sM (i64 ((i : Nat) + (1 : Int))) rfl ?_
    refine wnil ?_
    refine thenNormal ?_
    exact ⟨(i + 1, key117, c118, sp119), _, rfl, ⟨rfl, rfl, rfl, rfl, rfl, trivial⟩, ⟨⟨by omega, hS125⟩, (((H126.dropk 2).dropk 1).dropk 0)⟩, by show ops.length - (i + 1) < ops.length - i; omega⟩
   ·have hrb : r.1.b = 0 := by simpa using c35
    rw [if_pos hrb] at hwb
    refine skipAny ?_
    refine thenNormal ?_
    refine oneRegion ?_
    refine sM x7 rfl ?_
    refine sM (i64 0) rfl ?_
    refine sq (r_fieldAddr (off' := 6) fld129_6 (by decide) (b := b36) (off := 0) rfl (by omega)) ?_
    refine sq (r_loadC (v := i64 (r.1.r)) one3 (H81.get (k := 0) rfl) (off := 6) rfl (by rfl)) ?_
    refine sq (r_addI (a := (0 : Int)) (b := r.1.r) rfl rfl (by have h1 := hrb0.2 o.a.toNat; have h2 := hrb0.2 o.b.toNat; have h3 := rule_r o 65536 65536; rw [← hr] at h3; omega)) ?_
    refine q_buildSlice (E := EI) (l := [(0 : Int) + r.1.r]) H81 sli100 zer3 (bLe rfl) (ps := [(0, i64 ((0 : Int) + r.1.r))]) rfl (by exact fillAll rfl rfl) rfl ?_
    intro b127 w129 hS128 H130 hE131
    refine q_append (E := EI) (k := 3) (l := rdS ops i) (l2 := [(0 : Int) + r.1.r]) H130 rfl hSf sli100 zer3 rfl byt3 (H130.rd (k := 0) rfl hS128) rfl (by exact (rdS_len ops i).symm) rfl (by rfl) (by omega) ?_
    intro key132 c133 sp134 w136 hS135 hne138 H137
    have H137' := H137.as (L' := [_, _, _, _]) rfl
    clear H137
    have e139 : (rdS ops i) ++ ([(0 : Int) + r.1.r]) = rdS ops (i + 1) := by rw [rdS, ← ho, ← hr, aheadS, if_pos hrb, if_pos hra]
    have hS140 := hS135
    rw [e139] at hS140
    have H141 := H137'.as (L' := [((some b127), sob EI 3 ([(0 : Int) + r.1.r]) ([])), (rc b36 #[i64 (r.1.a), i64 (r.1.b), i64 (r.1.m), i64 (r.1.k), .bool (r.1.c), .bool (r.1.p), i64 (r.1.r)] 129), (rc b10 #[i64 (o.kd), i64 (o.a), i64 (o.b), i64 (o.k), u64 (o.c), i64 (o.pt)] 36), (key132, sob EI 3 (rdS ops (i + 1)) sp134)]) (by rw [e139])
    refine sA (.slice (ownA key132) (i + 1) c133) rfl ?_
    refine wnil ?_
    refine blockNormal ?_
    refine thenNormal ?_
    refine oneRegion ?_
    refine sq (r_addI (a := (i : Nat)) (b := (1 : Int)) rfl rfl (by omega)) ?_
    refine sM (i64 ((i : Nat) + (1 : Int))) rfl ?_
    refine wnil ?_
    refine thenNormal ?_
    exact ⟨(i + 1, key132, c133, sp134), _, rfl, ⟨rfl, rfl, rfl, rfl, rfl, trivial⟩, ⟨⟨by omega, hS140⟩, (((H141.dropk 2).dropk 1).dropk 0)⟩, by show ops.length - (i + 1) < ops.length - i; omega⟩
 ·have hie : i = ops.length := by omega
  subst hie
  refine exitAny ?_
  refine thenExit ?_
  refine thenExit ?_
  refine blockHere ?_
  refine thenNormal ?_
  refine sR ?_
  refine sM x3 rfl ?_
  refine sA x3 rfl ?_
  refine wend ?_
  refine retAny ?_
  refine rG1 2 x3 rfl ⟨rfl, rfl⟩ ?_
  exact ⟨_, rfl, HL.resN (k := 0) rfl hSf (rdS_len _ _).symm, HL.chg⟩
end Go.Proofs.YtohngnahcgbfmaaGreatDoor.Mi
namespace Go.Proofs.YtohngnahcgbfmaaGreatDoor.Mi
open Go Go.Proofs.YtohngnahcgbfmaaGreatDoor.Vc Go.Proofs.YtohngnahcgbfmaaGreatDoor.Er Go.Proofs.YtohngnahcgbfmaaGreatDoor.Ek Go.Proofs.YtohngnahcgbfmaaGreatDoor.Circ
set_option linter.unusedVariables false
theorem agg104 : isAgg' Tryz.prog 104 = true := by kernel_rfl
theorem agg57 : isAgg' Tryz.prog 57 = true := by kernel_rfl
theorem call34 : callable Tryz.prog 34 = true := by kernel_rfl
theorem call36 : callable Tryz.prog 36 = true := by kernel_rfl
theorem call37 : callable Tryz.prog 37 = true := by kernel_rfl
theorem fld104_0 : fld Tryz.prog 104 0 = some (0, 1, 3) := by kernel_rfl
theorem fld57_0 : fld Tryz.prog 57 0 = some (0, 1, 3) := by kernel_rfl
theorem fld57_1 : fld Tryz.prog 57 1 = some (1, 1, 3) := by kernel_rfl
theorem fld57_2 : fld Tryz.prog 57 2 = some (2, 1, 3) := by kernel_rfl
theorem fld57_3 : fld Tryz.prog 57 3 = some (3, 2, 29) := by kernel_rfl
theorem fld57_4 : fld Tryz.prog 57 4 = some (5, 1, 3) := by kernel_rfl
theorem fld57_5 : fld Tryz.prog 57 5 = some (6, 2, 29) := by kernel_rfl
theorem siz57 : siz Tryz.prog 57 = some 8 := by kernel_rfl
theorem zer57 : zer Tryz.prog 57 = some (.agg #[.int .i64 0, .int .i64 0, .int .i64 0, .int .i64 0, .int .i64 0, .int .i64 0, .int .i64 0, .int .i64 0]) := by kernel_rfl
theorem ands_okN (n : Int) (gs : List Gt) (ol : List Int) (ga oa : Option Addr) (gc oc mg mo : Nat) (hmg : mg = gs.length) (hmo : mo = ol.length) (w : World) (hGs : Rd EG w ga gs) (hgl : gs.length ≤ 140737488355328) : Calls Tryz.prog 37 [.agg #[i64 n, .slice ga mg gc, .slice oa mo oc]].toArray w (Ret fun v w' => v = iN (andsS gs gs.length) ∧ Ext w w') := by
 subst hmg hmo; exact ands_ok n gs ol ga oa gc oc w hGs hgl
set_option maxHeartbeats 8000000 in
theorem need_ok (ops : List Mo) (oa : Option Addr) (oc : Nat) (w : World) (hG : Gl w) (hO : Rd EMo w oa ops) (hol : ops.length ≤ 140737488355328) (hg : Good ops 65536 65536) : Calls Tryz.prog 15 [.slice oa ops.length oc].toArray w (Ret fun v w' => v = .agg #[iN (nA ops), iN (nB ops), iN (nO ops), iN (nT0 ops), iN (nT1 ops), i64 (nR ops), iN (nW0 ops), iN (nW1 ops)] ∧ Ext w w') := by
 let x10 : Array Value := #[i64 0, i64 0, i64 0, i64 0, i64 0, i64 0, i64 0, i64 0]
 let x6 : Array Value := #[iN (cntS fA ops ops.length), iN (cntS fB ops ops.length), iN (cntS fO ops ops.length), iN (cntS fT0 ops ops.length), iN (cntS fT1 ops ops.length), i64 (nR ops), iN (cntS fW0 ops ops.length), iN (cntS fW1 ops ops.length)]
 let x1 : Array Value := #[iN (cntS fA ops ops.length), iN (cntS fB ops ops.length), iN (cntS fO ops ops.length), i64 (((cntS fT0 ops ops.length) : Nat) + (2 : Int)), iN (cntS fT1 ops ops.length), i64 (nR ops), iN (cntS fW0 ops ops.length), iN (cntS fW1 ops ops.length)]
 have hlen := hg.len
 have H := Hp.start No w
 refine enter (n := 166) Tryz.func15 rfl rfl (bLe rfl) ?_
 refine sR ?_
 refine q_alloc (o := .cells x10 57 (0, 0)) H zer57 (by kernel_rfl) ?_
 intro b1 w2 hb1 H3 hE4
 let x3 := rc b1 x10 57
 refine wS ?_
 refine q_alloc (o := .cells x10 57 (0, 0)) H3 zer57 (by kernel_rfl) ?_
 intro b5 w6 hb5 H7 hE8
 let x5 : Option Addr := some ⟨b5, 6, none⟩
 refine wend ?_
 refine seqAny ?_
 refine sR ?_
 refine sM (.slice oa ops.length oc) rfl ?_
 refine c_call (vs := [.slice oa ops.length oc]) call34 rfl (rounds_ok ops oa oc w6 (Chg.gl H7.chg (fun x => x) hG) (hO.ext H7.chg) (by omega) hg) ?_
 rintro _ w9 ⟨⟨key11, c12, sp13, rfl, hS14, hk15⟩, hE16⟩
 rw [show (rdS ops ops.length).length = ops.length from rdS_len _ _]
 have H17 := H7.add hE16 hk15
 refine sq (r_lenS sli100 (a := ownA key11) (m := ops.length) (c := c12) rfl) ?_
 refine sM (i64 0) rfl ?_
 refine wend ?_
 refine blockAny ?_
 refine loopAny (σ := Nat) (fun i => [(0, .slice oa ops.length oc), (2, pT b1), (3, pT b5), (13, .slice (ownA key11) ops.length c12), (14, iN ops.length), (15, iN i)]) (fun i w' => i ≤ ops.length ∧ Hp No w w' [(rc b5 #[i64 0, i64 0, i64 0, i64 0, i64 0, i64 (mxS (rdS ops ops.length) i), i64 0, i64 0] 57), x3, (key11, sob EI 3 (rdS ops ops.length) sp13)]) (fun i => ops.length - i) (0) ?_ ?_ ?_
 ·exact ⟨rfl, rfl, rfl, rfl, rfl, rfl, trivial⟩
 ·exact ⟨Nat.zero_le _, (H17.pick 3 [1, 2, 0] (by decide) (by decide))⟩
 rintro i ρ w18 ⟨hq, HL⟩
 have hrl := rdS_len ops ops.length
 have hmx := mx_bound ops ops.length i
 have hrb := rd_bound ops ops.length
 refine sR ?_
 refine sq (r_lssI (a := (i : Nat)) (b := (ops.length : Nat)) rfl rfl) ?_
 refine wend ?_
 refine seqAny ?_
 refine condProp (((i : Nat) : Int) < (ops.length : Nat)) rfl (fun c16 => ?_) (fun c16 => ?_)
 ·refine skipAny ?_
  refine thenNormal ?_
  refine seqAny ?_
  refine blockAny ?_
  refine sR ?_
  refine sq (r_idxS (E := EI) (l := rdS ops ops.length) (j := i) sli100 (HL.rd (k := 2) rfl hS14) rfl rfl (by first | rfl | omega | (simp; omega)) (by exact (rdS_len _ _).symm) (by omega)) ?_
  refine sq (r_ldS (E := EI) (l := rdS ops ops.length) (j := i) (v := (rdS ops ops.length).getD i 0) fits3 (HL.rd (k := 2) rfl hS14) rfl rfl (at_getD (by omega))) ?_
  refine sA (i64 ((rdS ops ops.length).getD i 0)) rfl ?_
  refine wend ?_
  refine oneRegion ?_
  refine sq (r_fieldAddr (off' := 5) fld57_4 (by decide) (b := b5) (off := 0) rfl (by omega)) ?_
  refine sq (r_loadC (v := i64 (mxS (rdS ops ops.length) i)) one3 (HL.get (k := 0) rfl) (off := 5) rfl (by rfl)) ?_
  refine sM (i64 ((rdS ops ops.length).getD i 0)) rfl ?_
  refine sq (r_maxI (a := mxS (rdS ops ops.length) i) (b := (rdS ops ops.length).getD i 0) rfl rfl) ?_
  refine sq (r_fieldAddr (off' := 5) fld57_4 (by decide) (b := b5) (off := 0) rfl (by omega)) ?_
  refine d_store (k := 0) (v := i64 (max (mxS (rdS ops ops.length) i) ((rdS ops ops.length).getD i 0))) (cs' := #[i64 0, i64 0, i64 0, i64 0, i64 0, i64 (max (mxS (rdS ops ops.length) i) ((rdS ops ops.length).getD i 0)), i64 0, i64 0]) HL rfl rfl rfl siz3 (by rfl) (by exact EI.one _) (by exact bLe rfl) (by rfl) ?_
  intro w20 H21 hC22
  have H21' := H21.as (L' := [_, _, _]) rfl
  clear H21
  refine wnil ?_
  refine blockNormal ?_
  refine thenNormal ?_
  refine oneRegion ?_
  refine sq (r_addI (a := (i : Nat)) (b := (1 : Int)) rfl rfl (by omega)) ?_
  refine sM (i64 ((i : Nat) + (1 : Int))) rfl ?_
  refine wnil ?_
  refine thenNormal ?_
  exact ⟨i + 1, _, rfl, ⟨rfl, rfl, rfl, rfl, rfl, rfl, trivial⟩, ⟨by omega, H21'⟩, by show ops.length - (i + 1) < ops.length - i; omega⟩
 ·have hie : i = ops.length := by omega
  rw [hie, show mxS (rdS ops ops.length) ops.length = nR ops from rfl] at HL
  refine exitAny ?_
  refine thenExit ?_
  refine thenExit ?_
  refine blockHere ?_
  refine thenNormal ?_
  refine seqAny ?_
  refine sR ?_
  refine sM (.slice oa ops.length oc) rfl ?_
  refine c_call (vs := []) call31 rfl (all_ok w18) ?_
  rintro _ w23 ⟨rfl, hE24⟩
  have H25 := HL.ext hE24
  refine c_call (vs := [.slice oa ops.length oc, .agg (cel EI [65536, 65536]).toArray]) call8 rfl (mcheck_yes ops oa oc 65536 65536 ops.length (by rfl) w23 (Chg.gl H25.chg (fun x => x) hG) (hO.ext H25.chg) (by omega) hg) ?_
  rintro _ w26 ⟨rfl, hE27⟩
  have H28 := H25.ext hE27
  refine sq ((r_neqNN isI31 rfl rfl).as (v' := .bool false) (by rfl)) ?_
  refine wend ?_
  refine condFalse rfl ?_
  refine skipAny ?_
  refine thenNormal ?_
  refine sR ?_
  refine sA (i64 0) rfl ?_
  refine wend ?_
  refine seqAny ?_
  refine sR ?_
  refine sM (.slice oa ops.length oc) rfl ?_
  refine sq (r_lenS sli22 (a := oa) (m := ops.length) (c := oc) rfl) ?_
  refine sM (i64 0) rfl ?_
  refine wend ?_
  refine blockAny ?_
  refine loopAny (σ := Nat) (fun i => [(2, pT b1), (3, pT b5), (6, iN (cntS fG ops i)), (30, .slice oa ops.length oc), (31, iN ops.length), (32, iN i)]) (fun i w' => i ≤ ops.length ∧ Hp No w w' [(rc b5 #[iN (cntS fA ops i), iN (cntS fB ops i), iN (cntS fO ops i), iN (cntS fT0 ops i), iN (cntS fT1 ops i), i64 (nR ops), iN (cntS fW0 ops i), iN (cntS fW1 ops i)] 57), x3]) (fun i => ops.length - i) (0) ?_ ?_ ?_
  ·exact ⟨rfl, rfl, rfl, rfl, rfl, rfl, trivial⟩
  ·exact ⟨Nat.zero_le _, (H28.dropk 2)⟩
  rintro i ρ w29 ⟨hq2, HL2⟩
  obtain ⟨hcA, hcB, hcO, hcT0, hcT1, hcW0, hcW1, hcG⟩ := cntLe ops i
  refine sR ?_
  refine sq (r_lssI (a := (i : Nat)) (b := (ops.length : Nat)) rfl rfl) ?_
  refine wend ?_
  refine seqAny ?_
  refine condProp (((i : Nat) : Int) < (ops.length : Nat)) rfl (fun c33 => ?_) (fun c33 => ?_)
  ·refine skipAny ?_
   refine thenNormal ?_
   refine seqAny ?_
   refine blockAny ?_
   refine sR ?_
   refine sq (r_idxS (E := EMo) (l := ops) (j := i) sli22 (hO.ext HL2.chg) rfl rfl (by first | rfl | omega | (simp; omega)) (by rfl) (by omega)) ?_
   refine sq ((r_ldS (E := EMo) (l := ops) (j := i) (v := ops.getD i mo0) fits36 (hO.ext HL2.chg) rfl rfl (at_getD (by omega))).as (v' := .agg #[i64 ((ops.getD i mo0).kd), i64 ((ops.getD i mo0).a), i64 ((ops.getD i mo0).b), i64 ((ops.getD i mo0).k), u64 ((ops.getD i mo0).c), i64 ((ops.getD i mo0).pt)]) rfl) ?_
   refine q_alloc (o := .cells #[i64 0, i64 0, i64 0, i64 0, u64 0#64, i64 0] 36 (0, 0)) HL2 zer36 (by kernel_rfl) ?_
   intro b31 w32 hb31 H33 hE34
   refine d_store (k := 0) (v := .agg #[i64 ((ops.getD i mo0).kd), i64 ((ops.getD i mo0).a), i64 ((ops.getD i mo0).b), i64 ((ops.getD i mo0).k), u64 ((ops.getD i mo0).c), i64 ((ops.getD i mo0).pt)]) (cs' := #[i64 ((ops.getD i mo0).kd), i64 ((ops.getD i mo0).a), i64 ((ops.getD i mo0).b), i64 ((ops.getD i mo0).k), u64 ((ops.getD i mo0).c), i64 ((ops.getD i mo0).pt)]) H33 rfl rfl rfl siz36 (by rfl) (oneL rfl) (by exact bLe rfl) (by rfl) ?_
   intro w35 H36 hC37
   have H36' := H36.as (L' := [_, _, _]) rfl
   clear H36
   obtain ⟨o, ho⟩ : ∃ q1, q1 = ops.getD i mo0 := ⟨_, rfl⟩
   let x26 : Value := i64 (((cntS fW0 ops i) : Nat) + ((2 * (192 * opG o + 2 * andG o)) : Nat))
   let x25 : Value := i64 (((cntS fB ops i) : Nat) + (1 : Int))
   let x24 : Value := i64 (((cntS fA ops i) : Nat) + (1 : Int))
   let x23 : Value := iN (cntS fO ops i + 64 * opG o)
   let x22 : Value := iN (cntS fW0 ops i)
   let x21 : Value := i64 (((cntS fT0 ops i) : Nat) + ((256 * opG o) : Nat))
   let x20 : Value := i64 (((cntS fW0 ops i) : Nat) + (2 : Int))
   let x19 : Value := i64 (((cntS fW0 ops i) : Nat) + (1 : Int))
   let x17 : Value := iN (cntS fW1 ops i)
   let x16 : Value := iN (cntS fT0 ops i)
   let x15 : Value := iN (cntS fB ops i)
   let x14 : Value := iN (cntS fA ops i)
   let x13 : Value := iN (cntS fO ops i)
   let x9 : Value := iN (cntS fT1 ops i)
   let x18 : Array Value := #[x14, x15, x13, x16, x9, i64 (nR ops), x19, i64 (((cntS fW1 ops i) : Nat) + (1 : Int))]
   let x12 : Array Value := #[x14, x15, x23, x21, x9, i64 (nR ops), x26, x17]
   let x7 : Array Value := #[i64 (o.kd), i64 (o.a), i64 (o.b), i64 (o.k), u64 (o.c), i64 (o.pt)]
   let x2 : Array Value := #[x14, x15, x23, x21, x9, i64 (nR ops), x22, x17]
   rw [← ho] at H36' ⊢
   have hgo := hg.at' i (by omega)
   rw [← ho] at hgo
   have hog := opG_le o
   have hag := andG_le o
   refine wS ?_
   refine sq (r_fieldAddr (off' := 0) fld36_0 (by decide) (b := b31) (off := 0) rfl (by omega)) ?_
   refine sq (r_loadC (v := i64 (o.kd)) one33 (H36'.get (k := 0) rfl) (off := 0) rfl (by rfl)) ?_
   refine wend ?_
   refine blockAny ?_
   refine sR ?_
   refine sq (r_eqlI (a := o.kd) (b := (1 : Int)) rfl rfl) ?_
   refine sA (.bool (decide ((o.kd : Int) = (1 : Int)))) rfl ?_
   refine wend ?_
   refine condProp ((o.kd : Int) = (1 : Int)) rfl (fun k1 => ?_) (fun k1 => ?_)
   ·by_cases hp : o.pt = 0
    ·refine sR ?_
     refine sq (r_fieldAddr (off' := 5) fld36_5 (by decide) (b := b31) (off := 0) rfl (by omega)) ?_
     refine sq (r_loadC (v := i64 (o.pt)) one3 (H36'.get (k := 0) rfl) (off := 5) rfl (by rfl)) ?_
     refine sq (r_fieldAddr (off' := 3) fld57_3 (by decide) (b := b5) (off := 0) rfl (by omega)) ?_
     refine sq (r_indexA (off' := 3) (j := 0) arr29 (b := b5) (off := 3) rfl rfl (by first | rfl | omega | (simp; omega)) (by omega) (by omega)) ?_
     refine sq (r_loadC (v := iN (cntS fT0 ops i)) one3 (H36'.get (k := 1) rfl) (off := 3) rfl (by rfl)) ?_
     refine sq (r_addI (a := ((cntS fT0 ops i) : Nat)) (b := (1 : Int)) rfl rfl (by omega)) ?_
     refine sq (r_fieldAddr (off' := 3) fld57_3 (by decide) (b := b5) (off := 0) rfl (by omega)) ?_
     refine sq (r_indexA (off' := 3) (j := 0) arr29 (b := b5) (off := 3) rfl rfl (by first | rfl | omega | (simp; omega)) (by omega) (by omega)) ?_
     refine d_store (k := 1) (v := i64 (((cntS fT0 ops i) : Nat) + (1 : Int))) (cs' := #[x14, x15, x13, i64 (((cntS fT0 ops i) : Nat) + (1 : Int)), x9, i64 (nR ops), x22, x17]) H36' rfl rfl rfl siz3 (by rfl) (by exact EI.one _) (by exact bLe rfl) (by rfl) ?_
     intro w38 H39 hC40
     have H39' := H39.as (L' := [_, _, _]) rfl
     clear H39
     refine wend ?_
     refine oneRegion ?_
     refine sq (r_fieldAddr (off' := 5) fld36_5 (by decide) (b := b31) (off := 0) rfl (by omega)) ?_
     refine sq (r_loadC (v := i64 (o.pt)) one3 (H39'.get (k := 0) rfl) (off := 5) rfl (by rfl)) ?_
     refine sq (r_fieldAddr (off' := 6) fld57_5 (by decide) (b := b5) (off := 0) rfl (by omega)) ?_
     refine sq (r_indexA (off' := 6) (j := 0) arr29 (b := b5) (off := 6) rfl rfl (by first | rfl | omega | (simp; omega)) (by omega) (by omega)) ?_
     refine sq (r_loadC (v := iN (cntS fW0 ops i)) one3 (H39'.get (k := 1) rfl) (off := 6) rfl (by rfl)) ?_
     refine sq (r_addI (a := ((cntS fW0 ops i) : Nat)) (b := (1 : Int)) rfl rfl (by omega)) ?_
     refine sq (r_fieldAddr (off' := 6) fld57_5 (by decide) (b := b5) (off := 0) rfl (by omega)) ?_
     refine sq (r_indexA (off' := 6) (j := 0) arr29 (b := b5) (off := 6) rfl rfl (by first | rfl | omega | (simp; omega)) (by omega) (by omega)) ?_
     refine d_store (k := 1) (v := i64 (((cntS fW0 ops i) : Nat) + (1 : Int))) (cs' := #[x14, x15, x13, i64 (((cntS fT0 ops i) : Nat) + (1 : Int)), x9, i64 (nR ops), x19, x17]) H39' rfl rfl rfl siz3 (by rfl) (by exact EI.one _) (by exact bLe rfl) (by rfl) ?_
     intro w41 H42 hC43
     have H42' := H42.as (L' := [_, _, _]) rfl
     clear H42
     refine wnil ?_
     refine blockNormal ?_
     refine blockNormal ?_
     refine thenNormal ?_
     refine oneRegion ?_
     refine sq (r_addI (a := (i : Nat)) (b := (1 : Int)) rfl rfl (by omega)) ?_
     refine sM (i64 ((i : Nat) + (1 : Int))) rfl ?_
     refine wnil ?_
     refine thenNormal ?_
     have hi := inc1a k1 hp
     have H44 := ((H42'.dropk 0)).as (L' := [(rc b5 #[iN (cntS fA ops (i + 1)), iN (cntS fB ops (i + 1)), iN (cntS fO ops (i + 1)), iN (cntS fT0 ops (i + 1)), iN (cntS fT1 ops (i + 1)), i64 (nR ops), iN (cntS fW0 ops (i + 1)), iN (cntS fW1 ops (i + 1))] 57), (rc b1 #[i64 0, i64 0, i64 0, i64 0, i64 0, i64 0, i64 0, i64 0] 57)]) (by rw [cnt_succ ho hi.A, cnt_succ ho hi.B, cnt_succ ho hi.O, cnt_succ ho hi.T0, cnt_succ ho hi.T1, cnt_succ ho hi.W0, cnt_succ ho hi.W1] <;> rfl)
     exact ⟨i + 1, _, rfl, ⟨rfl, rfl, congrArg (fun q : Nat => i64 (q : Int)) (cnt_succ ho hi.G).symm, rfl, rfl, rfl, trivial⟩, ⟨by omega, H44⟩, by show ops.length - (i + 1) < ops.length - i; omega⟩
    ·refine sR ?_
     have hp1 : o.pt = 1 := by have := hgo.p; omega
     refine sq (r_fieldAddr (off' := 5) fld36_5 (by decide) (b := b31) (off := 0) rfl (by omega)) ?_
     refine sq (r_loadC (v := i64 (o.pt)) one3 (H36'.get (k := 0) rfl) (off := 5) rfl (by rfl)) ?_
     refine sq (r_fieldAddr (off' := 3) fld57_3 (by decide) (b := b5) (off := 0) rfl (by omega)) ?_
     refine sq (r_indexA (off' := 4) (j := 1) arr29 (b := b5) (off := 3) rfl rfl (by first | rfl | omega | (simp; omega)) (by omega) (by omega)) ?_
     refine sq (r_loadC (v := iN (cntS fT1 ops i)) one3 (H36'.get (k := 1) rfl) (off := 4) rfl (by rfl)) ?_
     refine sq (r_addI (a := ((cntS fT1 ops i) : Nat)) (b := (1 : Int)) rfl rfl (by omega)) ?_
     refine sq (r_fieldAddr (off' := 3) fld57_3 (by decide) (b := b5) (off := 0) rfl (by omega)) ?_
     refine sq (r_indexA (off' := 4) (j := 1) arr29 (b := b5) (off := 3) rfl rfl (by first | rfl | omega | (simp; omega)) (by omega) (by omega)) ?_
     refine d_store (k := 1) (v := i64 (((cntS fT1 ops i) : Nat) + (1 : Int))) (cs' := #[x14, x15, x13, x16, i64 (((cntS fT1 ops i) : Nat) + (1 : Int)), i64 (nR ops), x22, x17]) H36' rfl rfl rfl siz3 (by rfl) (by exact EI.one _) (by exact bLe rfl) (by rfl) ?_
     intro w45 H46 hC47
     have H46' := H46.as (L' := [_, _, _]) rfl
     clear H46
     refine wend ?_
     refine oneRegion ?_
     refine sq (r_fieldAddr (off' := 5) fld36_5 (by decide) (b := b31) (off := 0) rfl (by omega)) ?_
     refine sq (r_loadC (v := i64 (o.pt)) one3 (H46'.get (k := 0) rfl) (off := 5) rfl (by rfl)) ?_
     refine sq (r_fieldAddr (off' := 6) fld57_5 (by decide) (b := b5) (off := 0) rfl (by omega)) ?_
     refine sq (r_indexA (off' := 7) (j := 1) arr29 (b := b5) (off := 6) rfl rfl (by first | rfl | omega | (simp; omega)) (by omega) (by omega)) ?_
     refine sq (r_loadC (v := iN (cntS fW1 ops i)) one3 (H46'.get (k := 1) rfl) (off := 7) rfl (by rfl)) ?_
     refine sq (r_addI (a := ((cntS fW1 ops i) : Nat)) (b := (1 : Int)) rfl rfl (by omega)) ?_
     refine sq (r_fieldAddr (off' := 6) fld57_5 (by decide) (b := b5) (off := 0) rfl (by omega)) ?_
     refine sq (r_indexA (off' := 7) (j := 1) arr29 (b := b5) (off := 6) rfl rfl (by first | rfl | omega | (simp; omega)) (by omega) (by omega)) ?_
     refine d_store (k := 1) (v := i64 (((cntS fW1 ops i) : Nat) + (1 : Int))) (cs' := #[x14, x15, x13, x16, i64 (((cntS fT1 ops i) : Nat) + (1 : Int)), i64 (nR ops), x22, i64 (((cntS fW1 ops i) : Nat) + (1 : Int))]) H46' rfl rfl rfl siz3 (by rfl) (by exact EI.one _) (by exact bLe rfl) (by rfl) ?_
     intro w48 H49 hC50
     have H49' := H49.as (L' := [_, _, _]) rfl
     clear H49
     refine wnil ?_
     refine blockNormal ?_
     refine blockNormal ?_
     refine thenNormal ?_
     refine oneRegion ?_
     refine sq (r_addI (a := (i : Nat)) (b := (1 : Int)) rfl rfl (by omega)) ?_
     refine sM (i64 ((i : Nat) + (1 : Int))) rfl ?_
     refine wnil ?_
     refine thenNormal ?_
     have hi := inc1b k1 hp1
     have H51 := ((H49'.dropk 0)).as (L' := [(rc b5 #[iN (cntS fA ops (i + 1)), iN (cntS fB ops (i + 1)), iN (cntS fO ops (i + 1)), iN (cntS fT0 ops (i + 1)), iN (cntS fT1 ops (i + 1)), i64 (nR ops), iN (cntS fW0 ops (i + 1)), iN (cntS fW1 ops (i + 1))] 57), (rc b1 #[i64 0, i64 0, i64 0, i64 0, i64 0, i64 0, i64 0, i64 0] 57)]) (by rw [cnt_succ ho hi.A, cnt_succ ho hi.B, cnt_succ ho hi.O, cnt_succ ho hi.T0, cnt_succ ho hi.T1, cnt_succ ho hi.W0, cnt_succ ho hi.W1] <;> rfl)
     exact ⟨i + 1, _, rfl, ⟨rfl, rfl, congrArg (fun q : Nat => i64 (q : Int)) (cnt_succ ho hi.G).symm, rfl, rfl, rfl, trivial⟩, ⟨by omega, H51⟩, by show ops.length - (i + 1) < ops.length - i; omega⟩
   ·refine sR ?_
    refine sq (r_eqlI (a := o.kd) (b := (6 : Int)) rfl rfl) ?_
    refine sA (.bool (decide ((o.kd : Int) = (6 : Int)))) rfl ?_
    refine wend ?_
    refine condProp ((o.kd : Int) = (6 : Int)) rfl (fun k6 => ?_) (fun k6 => ?_)
    ·refine sR ?_
     refine sq (r_fieldAddr (off' := 0) fld57_0 (by decide) (b := b5) (off := 0) rfl (by omega)) ?_
     refine sq (r_loadC (v := iN (cntS fA ops i)) one3 (H36'.get (k := 1) rfl) (off := 0) rfl (by rfl)) ?_
     refine sq (r_addI (a := ((cntS fA ops i) : Nat)) (b := (1 : Int)) rfl rfl (by omega)) ?_
     refine sq (r_fieldAddr (off' := 0) fld57_0 (by decide) (b := b5) (off := 0) rfl (by omega)) ?_
     refine d_store (k := 1) (v := i64 (((cntS fA ops i) : Nat) + (1 : Int))) (cs' := #[x24, x15, x13, x16, x9, i64 (nR ops), x22, x17]) H36' rfl rfl rfl siz3 (by rfl) (by exact EI.one _) (by exact bLe rfl) (by rfl) ?_
     intro w52 H53 hC54
     have H53' := H53.as (L' := [_, _, _]) rfl
     clear H53
     refine wS ?_
     refine sq (r_fieldAddr (off' := 6) fld57_5 (by decide) (b := b5) (off := 0) rfl (by omega)) ?_
     refine sq (r_indexA (off' := 6) (j := 0) arr29 (b := b5) (off := 6) rfl rfl (by first | rfl | omega | (simp; omega)) (by omega) (by omega)) ?_
     refine sq (r_loadC (v := iN (cntS fW0 ops i)) one3 (H53'.get (k := 1) rfl) (off := 6) rfl (by rfl)) ?_
     refine sq (r_addI (a := ((cntS fW0 ops i) : Nat)) (b := (2 : Int)) rfl rfl (by omega)) ?_
     refine sq (r_fieldAddr (off' := 6) fld57_5 (by decide) (b := b5) (off := 0) rfl (by omega)) ?_
     refine sq (r_indexA (off' := 6) (j := 0) arr29 (b := b5) (off := 6) rfl rfl (by first | rfl | omega | (simp; omega)) (by omega) (by omega)) ?_
     refine d_store (k := 1) (v := i64 (((cntS fW0 ops i) : Nat) + (2 : Int))) (cs' := #[x24, x15, x13, x16, x9, i64 (nR ops), x20, x17]) H53' rfl rfl rfl siz3 (by rfl) (by exact EI.one _) (by exact bLe rfl) (by rfl) ?_
     intro w55 H56 hC57
     have H56' := H56.as (L' := [_, _, _]) rfl
     clear H56
     refine wend ?_
     refine oneRegion ?_
     refine sq (r_fieldAddr (off' := 6) fld57_5 (by decide) (b := b5) (off := 0) rfl (by omega)) ?_
     refine sq (r_indexA (off' := 7) (j := 1) arr29 (b := b5) (off := 6) rfl rfl (by first | rfl | omega | (simp; omega)) (by omega) (by omega)) ?_
     refine sq (r_loadC (v := iN (cntS fW1 ops i)) one3 (H56'.get (k := 1) rfl) (off := 7) rfl (by rfl)) ?_
     refine sq (r_addI (a := ((cntS fW1 ops i) : Nat)) (b := (2 : Int)) rfl rfl (by omega)) ?_
     refine sq (r_fieldAddr (off' := 6) fld57_5 (by decide) (b := b5) (off := 0) rfl (by omega)) ?_
     refine sq (r_indexA (off' := 7) (j := 1) arr29 (b := b5) (off := 6) rfl rfl (by first | rfl | omega | (simp; omega)) (by omega) (by omega)) ?_
     refine d_store (k := 1) (v := i64 (((cntS fW1 ops i) : Nat) + (2 : Int))) (cs' := #[x24, x15, x13, x16, x9, i64 (nR ops), x20, i64 (((cntS fW1 ops i) : Nat) + (2 : Int))]) H56' rfl rfl rfl siz3 (by rfl) (by exact EI.one _) (by exact bLe rfl) (by rfl) ?_
     intro w58 H59 hC60
     have H59' := H59.as (L' := [_, _, _]) rfl
     clear H59
     refine wnil ?_
     refine blockNormal ?_
     refine blockNormal ?_
     refine thenNormal ?_
     refine oneRegion ?_
     refine sq (r_addI (a := (i : Nat)) (b := (1 : Int)) rfl rfl (by omega)) ?_
     refine sM (i64 ((i : Nat) + (1 : Int))) rfl ?_
     refine wnil ?_
     refine thenNormal ?_
     have hi := inc6 k6
     have H61 := ((H59'.dropk 0)).as (L' := [(rc b5 #[iN (cntS fA ops (i + 1)), iN (cntS fB ops (i + 1)), iN (cntS fO ops (i + 1)), iN (cntS fT0 ops (i + 1)), iN (cntS fT1 ops (i + 1)), i64 (nR ops), iN (cntS fW0 ops (i + 1)), iN (cntS fW1 ops (i + 1))] 57), (rc b1 #[i64 0, i64 0, i64 0, i64 0, i64 0, i64 0, i64 0, i64 0] 57)]) (by rw [cnt_succ ho hi.A, cnt_succ ho hi.B, cnt_succ ho hi.O, cnt_succ ho hi.T0, cnt_succ ho hi.T1, cnt_succ ho hi.W0, cnt_succ ho hi.W1] <;> rfl)
     exact ⟨i + 1, _, rfl, ⟨rfl, rfl, congrArg (fun q : Nat => i64 (q : Int)) (cnt_succ ho hi.G).symm, rfl, rfl, rfl, trivial⟩, ⟨by omega, H61⟩, by show ops.length - (i + 1) < ops.length - i; omega⟩
    ·refine sR ?_
     refine sq (r_eqlI (a := o.kd) (b := (9 : Int)) rfl rfl) ?_
     refine sA (.bool (decide ((o.kd : Int) = (9 : Int)))) rfl ?_
     refine wend ?_
     refine condProp ((o.kd : Int) = (9 : Int)) rfl (fun k9 => ?_) (fun k9 => ?_)
     ·refine sR ?_
      refine sq (r_fieldAddr (off' := 1) fld57_1 (by decide) (b := b5) (off := 0) rfl (by omega)) ?_
      refine sq (r_loadC (v := iN (cntS fB ops i)) one3 (H36'.get (k := 1) rfl) (off := 1) rfl (by rfl)) ?_
      refine sq (r_addI (a := ((cntS fB ops i) : Nat)) (b := (1 : Int)) rfl rfl (by omega)) ?_
      refine sq (r_fieldAddr (off' := 1) fld57_1 (by decide) (b := b5) (off := 0) rfl (by omega)) ?_
      refine d_store (k := 1) (v := i64 (((cntS fB ops i) : Nat) + (1 : Int))) (cs' := #[x14, x25, x13, x16, x9, i64 (nR ops), x22, x17]) H36' rfl rfl rfl siz3 (by rfl) (by exact EI.one _) (by exact bLe rfl) (by rfl) ?_
      intro w62 H63 hC64
      have H63' := H63.as (L' := [_, _, _]) rfl
      clear H63
      refine wS ?_
      refine sq (r_fieldAddr (off' := 6) fld57_5 (by decide) (b := b5) (off := 0) rfl (by omega)) ?_
      refine sq (r_indexA (off' := 6) (j := 0) arr29 (b := b5) (off := 6) rfl rfl (by first | rfl | omega | (simp; omega)) (by omega) (by omega)) ?_
      refine sq (r_loadC (v := iN (cntS fW0 ops i)) one3 (H63'.get (k := 1) rfl) (off := 6) rfl (by rfl)) ?_
      refine sq (r_addI (a := ((cntS fW0 ops i) : Nat)) (b := (2 : Int)) rfl rfl (by omega)) ?_
      refine sq (r_fieldAddr (off' := 6) fld57_5 (by decide) (b := b5) (off := 0) rfl (by omega)) ?_
      refine sq (r_indexA (off' := 6) (j := 0) arr29 (b := b5) (off := 6) rfl rfl (by first | rfl | omega | (simp; omega)) (by omega) (by omega)) ?_
      refine d_store (k := 1) (v := i64 (((cntS fW0 ops i) : Nat) + (2 : Int))) (cs' := #[x14, x25, x13, x16, x9, i64 (nR ops), x20, x17]) H63' rfl rfl rfl siz3 (by rfl) (by exact EI.one _) (by exact bLe rfl) (by rfl) ?_
      intro w65 H66 hC67
      have H66' := H66.as (L' := [_, _, _]) rfl
      clear H66
      refine wend ?_
      refine oneRegion ?_
      refine sq (r_fieldAddr (off' := 6) fld57_5 (by decide) (b := b5) (off := 0) rfl (by omega)) ?_
      refine sq (r_indexA (off' := 7) (j := 1) arr29 (b := b5) (off := 6) rfl rfl (by first | rfl | omega | (simp; omega)) (by omega) (by omega)) ?_
      refine sq (r_loadC (v := iN (cntS fW1 ops i)) one3 (H66'.get (k := 1) rfl) (off := 7) rfl (by rfl)) ?_
      refine sq (r_addI (a := ((cntS fW1 ops i) : Nat)) (b := (2 : Int)) rfl rfl (by omega)) ?_
      refine sq (r_fieldAddr (off' := 6) fld57_5 (by decide) (b := b5) (off := 0) rfl (by omega)) ?_
      refine sq (r_indexA (off' := 7) (j := 1) arr29 (b := b5) (off := 6) rfl rfl (by first | rfl | omega | (simp; omega)) (by omega) (by omega)) ?_
      refine d_store (k := 1) (v := i64 (((cntS fW1 ops i) : Nat) + (2 : Int))) (cs' := #[x14, x25, x13, x16, x9, i64 (nR ops), x20, i64 (((cntS fW1 ops i) : Nat) + (2 : Int))]) H66' rfl rfl rfl siz3 (by rfl) (by exact EI.one _) (by exact bLe rfl) (by rfl) ?_
      intro w68 H69 hC70
      have H69' := H69.as (L' := [_, _, _]) rfl
      clear H69
      refine wnil ?_
      refine blockNormal ?_
      refine blockNormal ?_
      refine thenNormal ?_
      refine oneRegion ?_
      refine sq (r_addI (a := (i : Nat)) (b := (1 : Int)) rfl rfl (by omega)) ?_
      refine sM (i64 ((i : Nat) + (1 : Int))) rfl ?_
      refine wnil ?_
      refine thenNormal ?_
      have hi := inc9 k9
      have H71 := ((H69'.dropk 0)).as (L' := [(rc b5 #[iN (cntS fA ops (i + 1)), iN (cntS fB ops (i + 1)), iN (cntS fO ops (i + 1)), iN (cntS fT0 ops (i + 1)), iN (cntS fT1 ops (i + 1)), i64 (nR ops), iN (cntS fW0 ops (i + 1)), iN (cntS fW1 ops (i + 1))] 57), (rc b1 #[i64 0, i64 0, i64 0, i64 0, i64 0, i64 0, i64 0, i64 0] 57)]) (by rw [cnt_succ ho hi.A, cnt_succ ho hi.B, cnt_succ ho hi.O, cnt_succ ho hi.T0, cnt_succ ho hi.T1, cnt_succ ho hi.W0, cnt_succ ho hi.W1] <;> rfl)
      exact ⟨i + 1, _, rfl, ⟨rfl, rfl, congrArg (fun q : Nat => i64 (q : Int)) (cnt_succ ho hi.G).symm, rfl, rfl, rfl, trivial⟩, ⟨by omega, H71⟩, by show ops.length - (i + 1) < ops.length - i; omega⟩
     ·refine seqAny ?_
      refine sR ?_
      refine sq (r_eqlI (a := o.kd) (b := (18 : Int)) rfl rfl) ?_
      refine sA (.bool (decide ((o.kd : Int) = (18 : Int)))) rfl ?_
      refine wend ?_
      refine condProp ((o.kd : Int) = (18 : Int)) rfl (fun k18 => ?_) (fun k18 => ?_)
      ·refine skipAny ?_
       refine thenNormal ?_
       refine condTrue (congrArg Value.bool (decide_eq_true k18)) ?_
       refine sR ?_
       refine sq (r_fieldAddr (off' := 6) fld57_5 (by decide) (b := b5) (off := 0) rfl (by omega)) ?_
       refine sq (r_indexA (off' := 6) (j := 0) arr29 (b := b5) (off := 6) rfl rfl (by first | rfl | omega | (simp; omega)) (by omega) (by omega)) ?_
       refine sq (r_loadC (v := iN (cntS fW0 ops i)) one3 (H36'.get (k := 1) rfl) (off := 6) rfl (by rfl)) ?_
       refine sq (r_addI (a := ((cntS fW0 ops i) : Nat)) (b := (1 : Int)) rfl rfl (by omega)) ?_
       refine sq (r_fieldAddr (off' := 6) fld57_5 (by decide) (b := b5) (off := 0) rfl (by omega)) ?_
       refine sq (r_indexA (off' := 6) (j := 0) arr29 (b := b5) (off := 6) rfl rfl (by first | rfl | omega | (simp; omega)) (by omega) (by omega)) ?_
       refine d_store (k := 1) (v := i64 (((cntS fW0 ops i) : Nat) + (1 : Int))) (cs' := #[x14, x15, x13, x16, x9, i64 (nR ops), x19, x17]) H36' rfl rfl rfl siz3 (by rfl) (by exact EI.one _) (by exact bLe rfl) (by rfl) ?_
       intro w72 H73 hC74
       have H73' := H73.as (L' := [_, _, _]) rfl
       clear H73
       refine wend ?_
       refine oneRegion ?_
       refine sq (r_fieldAddr (off' := 6) fld57_5 (by decide) (b := b5) (off := 0) rfl (by omega)) ?_
       refine sq (r_indexA (off' := 7) (j := 1) arr29 (b := b5) (off := 6) rfl rfl (by first | rfl | omega | (simp; omega)) (by omega) (by omega)) ?_
       refine sq (r_loadC (v := iN (cntS fW1 ops i)) one3 (H73'.get (k := 1) rfl) (off := 7) rfl (by rfl)) ?_
       refine sq (r_addI (a := ((cntS fW1 ops i) : Nat)) (b := (1 : Int)) rfl rfl (by omega)) ?_
       refine sq (r_fieldAddr (off' := 6) fld57_5 (by decide) (b := b5) (off := 0) rfl (by omega)) ?_
       refine sq (r_indexA (off' := 7) (j := 1) arr29 (b := b5) (off := 6) rfl rfl (by first | rfl | omega | (simp; omega)) (by omega) (by omega)) ?_
       refine d_store (k := 1) (v := i64 (((cntS fW1 ops i) : Nat) + (1 : Int))) (cs' := x18) H73' rfl rfl rfl siz3 (by rfl) (by exact EI.one _) (by exact bLe rfl) (by rfl) ?_
       intro w75 H76 hC77
       have H76' := H76.as (L' := [_, _, _]) rfl
       clear H76
       refine wnil ?_
       refine blockNormal ?_
       refine blockNormal ?_
       refine thenNormal ?_
       refine oneRegion ?_
       refine sq (r_addI (a := (i : Nat)) (b := (1 : Int)) rfl rfl (by omega)) ?_
       refine sM (i64 ((i : Nat) + (1 : Int))) rfl ?_
       refine wnil ?_
       refine thenNormal ?_
       have hi := incT (.inl k18)
       have H78 := ((H76'.dropk 0)).as (L' := [(rc b5 #[iN (cntS fA ops (i + 1)), iN (cntS fB ops (i + 1)), iN (cntS fO ops (i + 1)), iN (cntS fT0 ops (i + 1)), iN (cntS fT1 ops (i + 1)), i64 (nR ops), iN (cntS fW0 ops (i + 1)), iN (cntS fW1 ops (i + 1))] 57), (rc b1 #[i64 0, i64 0, i64 0, i64 0, i64 0, i64 0, i64 0, i64 0] 57)]) (by rw [cnt_succ ho hi.A, cnt_succ ho hi.B, cnt_succ ho hi.O, cnt_succ ho hi.T0, cnt_succ ho hi.T1, cnt_succ ho hi.W0, cnt_succ ho hi.W1] <;> rfl)
       exact ⟨i + 1, _, rfl, ⟨rfl, rfl, congrArg (fun q : Nat => i64 (q : Int)) (cnt_succ ho hi.G).symm, rfl, rfl, rfl, trivial⟩, ⟨by omega, H78⟩, by show ops.length - (i + 1) < ops.length - i; omega⟩
      ·refine oneRegion ?_
       refine sq (r_eqlI (a := o.kd) (b := (19 : Int)) rfl rfl) ?_
       refine sA (.bool (decide ((o.kd : Int) = (19 : Int)))) rfl ?_
       refine wnil ?_
       refine thenNormal ?_
       refine condProp ((o.kd : Int) = (19 : Int)) rfl (fun k19 => ?_) (fun k19 => ?_)
       ·refine sR ?_
        refine sq (r_fieldAddr (off' := 6) fld57_5 (by decide) (b := b5) (off := 0) rfl (by omega)) ?_
        refine sq (r_indexA (off' := 6) (j := 0) arr29 (b := b5) (off := 6) rfl rfl (by first | rfl | omega | (simp; omega)) (by omega) (by omega)) ?_
        refine sq (r_loadC (v := iN (cntS fW0 ops i)) one3 (H36'.get (k := 1) rfl) (off := 6) rfl (by rfl)) ?_
        refine sq (r_addI (a := ((cntS fW0 ops i) : Nat)) (b := (1 : Int)) rfl rfl (by omega)) ?_
        refine sq (r_fieldAddr (off' := 6) fld57_5 (by decide) (b := b5) (off := 0) rfl (by omega)) ?_
        refine sq (r_indexA (off' := 6) (j := 0) arr29 (b := b5) (off := 6) rfl rfl (by first | rfl | omega | (simp; omega)) (by omega) (by omega)) ?_
        refine d_store (k := 1) (v := i64 (((cntS fW0 ops i) : Nat) + (1 : Int))) (cs' := #[x14, x15, x13, x16, x9, i64 (nR ops), x19, x17]) H36' rfl rfl rfl siz3 (by rfl) (by exact EI.one _) (by exact bLe rfl) (by rfl) ?_
        intro w79 H80 hC81
        have H80' := H80.as (L' := [_, _, _]) rfl
        clear H80
        refine wend ?_
        refine oneRegion ?_
        refine sq (r_fieldAddr (off' := 6) fld57_5 (by decide) (b := b5) (off := 0) rfl (by omega)) ?_
        refine sq (r_indexA (off' := 7) (j := 1) arr29 (b := b5) (off := 6) rfl rfl (by first | rfl | omega | (simp; omega)) (by omega) (by omega)) ?_
        refine sq (r_loadC (v := iN (cntS fW1 ops i)) one3 (H80'.get (k := 1) rfl) (off := 7) rfl (by rfl)) ?_
        refine sq (r_addI (a := ((cntS fW1 ops i) : Nat)) (b := (1 : Int)) rfl rfl (by omega)) ?_
        refine sq (r_fieldAddr (off' := 6) fld57_5 (by decide) (b := b5) (off := 0) rfl (by omega)) ?_
        refine sq (r_indexA (off' := 7) (j := 1) arr29 (b := b5) (off := 6) rfl rfl (by first | rfl | omega | (simp; omega)) (by omega) (by omega)) ?_
        refine d_store (k := 1) (v := i64 (((cntS fW1 ops i) : Nat) + (1 : Int))) (cs' := x18) H80' rfl rfl rfl siz3 (by rfl) (by exact EI.one _) (by exact bLe rfl) (by rfl) ?_
        intro w82 H83 hC84
        have H83' := H83.as (L' := [_, _, _]) rfl
        clear H83
        refine wnil ?_
        refine blockNormal ?_
        refine blockNormal ?_
        refine thenNormal ?_
        refine oneRegion ?_
        refine sq (r_addI (a := (i : Nat)) (b := (1 : Int)) rfl rfl (by omega)) ?_
        refine sM (i64 ((i : Nat) + (1 : Int))) rfl ?_
        refine wnil ?_
        refine thenNormal ?_
        have hi := incT (.inr k19)
        have H85 := ((H83'.dropk 0)).as (L' := [(rc b5 #[iN (cntS fA ops (i + 1)), iN (cntS fB ops (i + 1)), iN (cntS fO ops (i + 1)), iN (cntS fT0 ops (i + 1)), iN (cntS fT1 ops (i + 1)), i64 (nR ops), iN (cntS fW0 ops (i + 1)), iN (cntS fW1 ops (i + 1))] 57), (rc b1 #[i64 0, i64 0, i64 0, i64 0, i64 0, i64 0, i64 0, i64 0] 57)]) (by rw [cnt_succ ho hi.A, cnt_succ ho hi.B, cnt_succ ho hi.O, cnt_succ ho hi.T0, cnt_succ ho hi.T1, cnt_succ ho hi.W0, cnt_succ ho hi.W1] <;> rfl)
        exact ⟨i + 1, _, rfl, ⟨rfl, rfl, congrArg (fun q : Nat => i64 (q : Int)) (cnt_succ ho hi.G).symm, rfl, rfl, rfl, trivial⟩, ⟨by omega, H85⟩, by show ops.length - (i + 1) < ops.length - i; omega⟩
       ·refine sR ?_
        refine sq (r_eqlI (a := o.kd) (b := (17 : Int)) rfl rfl) ?_
        refine sA (.bool (decide ((o.kd : Int) = (17 : Int)))) rfl ?_
        refine wend ?_
        refine condProp ((o.kd : Int) = (17 : Int)) rfl (fun k17 => ?_) (fun k17 => ?_)
        ·refine sR ?_
         refine sq (r_fieldAddr (off' := 3) fld36_3 (by decide) (b := b31) (off := 0) rfl (by omega)) ?_
         refine sq (r_loadC (v := i64 (o.k)) one3 (H36'.get (k := 0) rfl) (off := 3) rfl (by rfl)) ?_
         refine sq (r_fieldAddr (off' := 4) fld36_4 (by decide) (b := b31) (off := 0) rfl (by omega)) ?_
         refine sq (r_loadC (v := u64 (o.c)) one34 (H36'.get (k := 0) rfl) (off := 4) rfl (by rfl)) ?_
         refine c_call (vs := [i64 (o.k), u64 (o.c)]) call35 rfl (make_all o (garb_of k17 hgo.ok).1 w35) ?_
         rintro _ w86 ⟨key88, c89, sp90, b91, rfl, hS92, HN93⟩
         let x11 : Option Nat × Obj := (key88, sob EG 154 ((makeG o).1) sp90)
         let x8 := re b91 EI ((makeG o).2) 145
         let x4 : Option Addr := some ⟨b91, 0, none⟩
         have H94 := (H36'.join HN93).as (L' := [_, _, _, _, _]) rfl
         refine sM (.tuple #[.agg #[iN (128 * opG o), .slice (ownA key88) ((makeG o).1.length) c89, .slice x4 64 64], .nilIface]) rfl ?_
         refine sq (r_extract (vs := #[.agg #[iN (128 * opG o), .slice (ownA key88) ((makeG o).1.length) c89, .slice x4 64 64], .nilIface]) rfl rfl) ?_
         refine sq (r_extract (vs := #[.agg #[iN (128 * opG o), .slice (ownA key88) ((makeG o).1.length) c89, .slice x4 64 64], .nilIface]) rfl rfl) ?_
         refine q_alloc (o := .cells #[i64 0, sN0, sN0] 104 (0, 0)) H94 zer104 (by kernel_rfl) ?_
         intro b95 w96 hb95 H97 hE98
         refine d_store (k := 0) (v := .agg #[iN (128 * opG o), .slice (ownA key88) ((makeG o).1.length) c89, .slice x4 64 64]) (cs' := #[iN (128 * opG o), .slice (ownA key88) ((makeG o).1.length) c89, .slice x4 64 64]) H97 rfl rfl rfl siz104 (by rfl) (oneL rfl) (by exact bLe rfl) (by rfl) ?_
         intro w99 H100 hC101
         have H100' := H100.as (L' := [_, _, _, _, _, _]) rfl
         clear H100
         refine sA (.nilIface) rfl ?_
         refine wS ?_
         refine sq (r_loadA (cs' := x7) agg36 siz36 (H100'.get (k := 3) rfl) (off := 0) rfl (by exact bLe rfl) (by rfl)) ?_
         refine c_call (vs := [.agg x7]) call36 rfl (opnds_ok o w99) ?_
         rintro _ w102 ⟨rfl, hE103⟩
         have H104 := H100'.ext hE103
         refine sA (iN (opG o)) rfl ?_
         refine wS ?_
         refine sM (iN (cntS fG ops i)) rfl ?_
         refine sq (r_addI (a := ((cntS fG ops i) : Nat)) (b := (1 : Int)) rfl rfl (by omega)) ?_
         refine sA (i64 (((cntS fG ops i) : Nat) + (1 : Int))) rfl ?_
         refine wS ?_
         refine sq (r_fieldAddr (off' := 2) fld57_2 (by decide) (b := b5) (off := 0) rfl (by omega)) ?_
         refine sq (r_loadC (v := iN (cntS fO ops i)) one3 (H104.get (k := 4) rfl) (off := 2) rfl (by rfl)) ?_
         refine sM (iN (opG o)) rfl ?_
         refine sq ((r_mulI (a := (64 : Int)) (b := (opG o : Nat)) rfl rfl (by omega)).as (v' := iN (64 * opG o)) (by rfl)) ?_
         refine sq ((r_addI (a := ((cntS fO ops i) : Nat)) (b := ((64 * opG o) : Nat)) rfl rfl (by omega)).as (v' := iN (cntS fO ops i + 64 * opG o)) (by rfl)) ?_
         refine sq (r_fieldAddr (off' := 2) fld57_2 (by decide) (b := b5) (off := 0) rfl (by omega)) ?_
         refine d_store (k := 4) (v := iN (cntS fO ops i + 64 * opG o)) (cs' := #[x14, x15, x23, x16, x9, i64 (nR ops), x22, x17]) H104 rfl rfl rfl siz3 (by rfl) (by exact EI.one _) (by exact bLe rfl) (by rfl) ?_
         intro w105 H106 hC107
         have H106' := H106.as (L' := [_, _, _, _, _, _]) rfl
         clear H106
         refine wS ?_
         refine sq (r_fieldAddr (off' := 3) fld57_3 (by decide) (b := b5) (off := 0) rfl (by omega)) ?_
         refine sq (r_indexA (off' := 3) (j := 0) arr29 (b := b5) (off := 3) rfl rfl (by first | rfl | omega | (simp; omega)) (by omega) (by omega)) ?_
         refine sq (r_loadC (v := iN (cntS fT0 ops i)) one3 (H106'.get (k := 4) rfl) (off := 3) rfl (by rfl)) ?_
         refine sq (r_fieldAddr (off' := 0) fld104_0 (by decide) (b := b95) (off := 0) rfl (by omega)) ?_
         refine sq (r_loadC (v := iN (128 * opG o)) one3 (H106'.get (k := 0) rfl) (off := 0) rfl (by rfl)) ?_
         refine sq ((r_mulI (a := (2 : Int)) (b := ((128 * opG o) : Nat)) rfl rfl (by omega)).as (v' := iN (256 * opG o)) (by exact congrArg i64 (by omega))) ?_
         refine sq (r_addI (a := ((cntS fT0 ops i) : Nat)) (b := ((256 * opG o) : Nat)) rfl rfl (by omega)) ?_
         refine sq (r_fieldAddr (off' := 3) fld57_3 (by decide) (b := b5) (off := 0) rfl (by omega)) ?_
         refine sq (r_indexA (off' := 3) (j := 0) arr29 (b := b5) (off := 3) rfl rfl (by first | rfl | omega | (simp; omega)) (by omega) (by omega)) ?_
         refine d_store (k := 4) (v := i64 (((cntS fT0 ops i) : Nat) + ((256 * opG o) : Nat))) (cs' := x2) H106' rfl rfl rfl siz3 (by rfl) (by exact EI.one _) (by exact bLe rfl) (by rfl) ?_
         intro w108 H109 hC110
         have H109' := H109.as (L' := [_, _, _, _, _, _]) rfl
         clear H109
         refine wend ?_
         refine seqAny ?_
         refine drawC (m := 14) [0, 1, 3, 0, 8, 0, 32, 96, 248, 504, 1023, 0, 4095, 8191] [6, 13] (fun q vs w' => match q, vs with | 0, [] => Hp No w w' [(rc b95 #[iN (128 * opG o), .slice (ownA key88) ((makeG o).1.length) c89, .slice x4 64 64] 104), x11, x8, (rc b31 x7 36), (rc b5 x2 57), x3] | 1, [v0] => v0 = iN (andG o) ∧ Hp No w w' [(rc b95 #[iN (128 * opG o), .slice (ownA key88) ((makeG o).1.length) c89, .slice x4 64 64] 104), x11, x8, (rc b31 x7 36), (rc b5 x2 57), x3] | 2, [v0, _] => v0 = iN (andG o) ∧ True ∧ Hp No w w' [(rc b95 #[iN (128 * opG o), .slice (ownA key88) ((makeG o).1.length) c89, .slice x4 64 64] 104), x11, x8, (rc b31 x7 36), (rc b5 x12 57), x3] | _, _ => False) mixed (by kernel_rfl) (by kernel_rfl) H109'.drew ?_
         refine WalkC.look rfl (fun _ => .pointer x5) (fun _ _ _ => rfl) (fun q r uw _ _ _ _ => Gives.run rfl (r_fieldAddr (off' := 6) fld57_5 (by decide) (b := b5) (off := 0) rfl (by omega)) ⟨rfl, rfl⟩) ?_
         refine WalkC.look rfl (fun _ => .pointer x5) (fun _ _ _ => rfl) (fun q r uw _ _ _ _ => Gives.run rfl (r_indexA (off' := 6) (j := 0) arr29 (b := b5) (off := 6) rfl rfl (by first | rfl | omega | (simp; omega)) (by omega) (by omega)) ⟨rfl, rfl⟩) ?_
         refine WalkC.look rfl (fun _ => iN (cntS fW0 ops i)) (fun _ _ _ => rfl) (fun q r uw hlo hhi hle hF => ?_) ?_
         ·have h1 : 0 ≤ q := Nat.zero_le _
          have h2 : q ≤ 1 := hhi 1 13 rfl rfl
          rcases (show q = 0 ∨ q = 1 by omega) with rfl | rfl
          ·have HH := hF
           exact Gives.run rfl (r_loadC (v := iN (cntS fW0 ops i)) one3 (HH.get (k := 4) rfl) (off := 6) rfl (by rfl)) ⟨rfl, rfl⟩
          ·obtain ⟨e6, HH⟩ := hF
           exact Gives.run rfl (r_loadC (v := iN (cntS fW0 ops i)) one3 (HH.get (k := 4) rfl) (off := 6) rfl (by rfl)) ⟨rfl, rfl⟩
         refine WalkC.look rfl (fun _ => iN (opG o)) (fun _ _ _ => rfl) (fun q r uw _ _ _ _ => Gives.run rfl (r_move (v := iN (opG o)) rfl) ⟨rfl, rfl⟩) ?_
         refine WalkC.look rfl (fun _ => i64 ((192 : Int) * (opG o : Nat))) (fun _ _ _ => rfl) (fun q r uw _ _ _ _ => Gives.run rfl (r_mulI (a := (192 : Int)) (b := (opG o : Nat)) rfl rfl (by omega)) ⟨rfl, rfl⟩) ?_
         refine WalkC.look rfl (fun _ => .agg #[iN (128 * opG o), .slice (ownA key88) ((makeG o).1.length) c89, .slice x4 64 64]) (fun _ _ _ => rfl) (fun q r uw hlo hhi hle hF => ?_) ?_
         ·have h1 : 0 ≤ q := Nat.zero_le _
          have h2 : q ≤ 0 := hhi 0 6 rfl rfl
          rcases (show q = 0 by omega) with rfl
          ·have HH := hF
           exact Gives.run rfl (r_loadA (cs' := #[iN (128 * opG o), .slice (ownA key88) ((makeG o).1.length) c89, .slice x4 64 64]) agg104 siz104 (HH.get (k := 0) rfl) (off := 0) rfl (by exact bLe rfl) (by rfl)) ⟨rfl, rfl⟩
         refine WalkC.eff 0 rfl (fun r uw111 hF113 => ?_) ?_
         ·have H112 := hF113
          dsimp only [List.take, List.map, List.cons_append, List.nil_append]
          refine Gives.ofW (d := 142) rfl rfl (fun Q' hK => ?_)
          refine c_call (vs := [.agg #[iN (128 * opG o), .slice (ownA key88) ((makeG o).1.length) c89, .slice x4 64 64]]) call37 rfl (ands_okN ((128 * opG o) : Nat) (makeG o).1 (makeG o).2 (ownA key88) x4 c89 64 ((makeG o).1.length) 64 (by rfl) (by exact (makeG_outs _).symm) uw111 (H112.rd (k := 1) rfl hS92) (by have := makeG_len o; omega)) ?_
          rintro _ w114 ⟨rfl, hE115⟩
          have H116 := H112.ext hE115
          exact hK _ _ ⟨rfl, H116⟩
         refine WalkC.look rfl (fun _ => i64 ((2 : Int) * (andG o : Nat))) (fun _ _ _ => rfl) (fun q r uw hlo hhi hle hF => ?_) ?_
         ·have h1 : 1 ≤ q := hlo 0 6 rfl rfl
          have h2 : q ≤ 1 := hhi 1 13 rfl rfl
          rcases (show q = 1 by omega) with rfl
          ·obtain ⟨e6, HH⟩ := hF
           dsimp only
           rw [e6]
           exact Gives.run rfl (r_mulI (a := (2 : Int)) (b := (andG o : Nat)) rfl rfl (by omega)) ⟨rfl, rfl⟩
         refine WalkC.look rfl (fun _ => i64 (((192 : Int) * (opG o : Nat)) + ((2 : Int) * (andG o : Nat)))) (fun _ _ _ => rfl) (fun q r uw _ _ _ _ => Gives.run rfl (r_addI (a := (192 : Int) * (opG o : Nat)) (b := (2 : Int) * (andG o : Nat)) rfl rfl (by omega)) ⟨rfl, rfl⟩) ?_
         refine WalkC.look rfl (fun _ => iN (2 * (192 * opG o + 2 * andG o))) (fun _ _ _ => rfl) (fun q r uw _ _ _ _ => Gives.run rfl ((r_mulI (a := (2 : Int)) (b := ((192 : Int) * (opG o : Nat)) + ((2 : Int) * (andG o : Nat))) rfl rfl (by omega)).as (v' := iN (2 * (192 * opG o + 2 * andG o))) (by rfl)) ⟨rfl, rfl⟩) ?_
         refine WalkC.look rfl (fun _ => i64 (((cntS fW0 ops i) : Nat) + ((2 * (192 * opG o + 2 * andG o)) : Nat))) (fun _ _ _ => rfl) (fun q r uw _ _ _ _ => Gives.run rfl (r_addI (a := ((cntS fW0 ops i) : Nat)) (b := ((2 * (192 * opG o + 2 * andG o)) : Nat)) rfl rfl (by omega)) ⟨rfl, rfl⟩) ?_
         refine WalkC.look rfl (fun _ => .pointer x5) (fun _ _ _ => rfl) (fun q r uw _ _ _ _ => Gives.run rfl (r_fieldAddr (off' := 6) fld57_5 (by decide) (b := b5) (off := 0) rfl (by omega)) ⟨rfl, rfl⟩) ?_
         refine WalkC.look rfl (fun _ => .pointer x5) (fun _ _ _ => rfl) (fun q r uw _ _ _ _ => Gives.run rfl (r_indexA (off' := 6) (j := 0) arr29 (b := b5) (off := 6) rfl rfl (by first | rfl | omega | (simp; omega)) (by omega) (by omega)) ⟨rfl, rfl⟩) ?_
         refine WalkC.eff 1 rfl (fun r uw117 hF119 => ?_) ?_
         ·obtain ⟨e6, H118⟩ := hF119
          dsimp only [List.take, List.map, List.cons_append, List.nil_append]
          rw [e6]
          refine Gives.ofW0 rfl (fun Q' hK => ?_)
          refine d_store (k := 4) (v := i64 (((cntS fW0 ops i) : Nat) + ((2 * (192 * opG o + 2 * andG o)) : Nat))) (cs' := x12) H118 rfl rfl rfl siz3 (by rfl) (by exact EI.one _) (by exact bLe rfl) (by rfl) ?_
          intro w120 H121 hC122
          have H121' := H121.as (L' := [_, _, _, _, _, _]) rfl
          clear H121
          exact hK _ (fun _ => ⟨rfl, trivial, H121'⟩)
         refine WalkC.nil ?_
         intro r123 w124 hF126
         obtain ⟨e6, e13, H125⟩ := hF126
         dsimp only
         rw [e6]
         refine wnil ?_
         refine thenNormal ?_
         refine oneRegion ?_
         refine sq (r_fieldAddr (off' := 6) fld57_5 (by decide) (b := b5) (off := 0) rfl (by omega)) ?_
         refine sq (r_indexA (off' := 7) (j := 1) arr29 (b := b5) (off := 6) rfl rfl (by first | rfl | omega | (simp; omega)) (by omega) (by omega)) ?_
         refine sq (r_loadC (v := iN (cntS fW1 ops i)) one3 (H125.get (k := 4) rfl) (off := 7) rfl (by rfl)) ?_
         refine sM (iN (opG o)) rfl ?_
         refine sq (r_addI (a := ((cntS fW1 ops i) : Nat)) (b := (opG o : Nat)) rfl rfl (by omega)) ?_
         refine sq (r_fieldAddr (off' := 6) fld57_5 (by decide) (b := b5) (off := 0) rfl (by omega)) ?_
         refine sq (r_indexA (off' := 7) (j := 1) arr29 (b := b5) (off := 6) rfl rfl (by first | rfl | omega | (simp; omega)) (by omega) (by omega)) ?_
         refine d_store (k := 4) (v := i64 (((cntS fW1 ops i) : Nat) + (opG o : Nat))) (cs' := #[x14, x15, x23, x21, x9, i64 (nR ops), x26, i64 (((cntS fW1 ops i) : Nat) + (opG o : Nat))]) H125 rfl rfl rfl siz3 (by rfl) (by exact EI.one _) (by exact bLe rfl) (by rfl) ?_
         intro w127 H128 hC129
         have H128' := H128.as (L' := [_, _, _, _, _, _]) rfl
         clear H128
         refine wnil ?_
         refine blockNormal ?_
         refine blockNormal ?_
         refine thenNormal ?_
         refine oneRegion ?_
         refine sq (r_addI (a := (i : Nat)) (b := (1 : Int)) rfl rfl (by omega)) ?_
         refine sM (i64 ((i : Nat) + (1 : Int))) rfl ?_
         refine wnil ?_
         refine thenNormal ?_
         have hi := inc17 k17
         have H130 := (((((H128'.dropk 3).dropk 2).dropk 1).dropk 0)).as (L' := [(rc b5 #[iN (cntS fA ops (i + 1)), iN (cntS fB ops (i + 1)), iN (cntS fO ops (i + 1)), iN (cntS fT0 ops (i + 1)), iN (cntS fT1 ops (i + 1)), i64 (nR ops), iN (cntS fW0 ops (i + 1)), iN (cntS fW1 ops (i + 1))] 57), (rc b1 #[i64 0, i64 0, i64 0, i64 0, i64 0, i64 0, i64 0, i64 0] 57)]) (by rw [cnt_succ ho hi.A, cnt_succ ho hi.B, cnt_succ ho hi.O, cnt_succ ho hi.T0, cnt_succ ho hi.T1, cnt_succ ho hi.W0, cnt_succ ho hi.W1] <;> rfl)
         exact ⟨i + 1, _, rfl, ⟨rfl, rfl, congrArg (fun q : Nat => i64 (q : Int)) (cnt_succ ho hi.G).symm, rfl, rfl, rfl, trivial⟩, ⟨by omega, H130⟩, by show ops.length - (i + 1) < ops.length - i; omega⟩
        ·refine skipAny ?_
         refine blockNormal ?_
         refine blockNormal ?_
         refine thenNormal ?_
         refine oneRegion ?_
         refine sq (r_addI (a := (i : Nat)) (b := (1 : Int)) rfl rfl (by omega)) ?_
         refine sM (i64 ((i : Nat) + (1 : Int))) rfl ?_
         refine wnil ?_
         refine thenNormal ?_
         have hi := inc0 k1 k6 k9 k18 k19 k17
         have H131 := ((H36'.dropk 0)).as (L' := [(rc b5 #[iN (cntS fA ops (i + 1)), iN (cntS fB ops (i + 1)), iN (cntS fO ops (i + 1)), iN (cntS fT0 ops (i + 1)), iN (cntS fT1 ops (i + 1)), i64 (nR ops), iN (cntS fW0 ops (i + 1)), iN (cntS fW1 ops (i + 1))] 57), (rc b1 #[i64 0, i64 0, i64 0, i64 0, i64 0, i64 0, i64 0, i64 0] 57)]) (by rw [cnt_succ ho hi.A, cnt_succ ho hi.B, cnt_succ ho hi.O, cnt_succ ho hi.T0, cnt_succ ho hi.T1, cnt_succ ho hi.W0, cnt_succ ho hi.W1] <;> rfl)
         exact ⟨i + 1, _, rfl, ⟨rfl, rfl, congrArg (fun q : Nat => i64 (q : Int)) (cnt_succ ho hi.G).symm, rfl, rfl, rfl, trivial⟩, ⟨by omega, H131⟩, by show ops.length - (i + 1) < ops.length - i; omega⟩
  ·have hie : i = ops.length := by omega
   subst hie
   refine exitAny ?_
   refine thenExit ?_
   refine thenExit ?_
   refine blockHere ?_
   refine thenNormal ?_
   refine seqAny ?_
   refine sR ?_
   refine sM (iN (cntS fG ops ops.length)) rfl ?_
   refine sq (r_gtrI (a := ((cntS fG ops ops.length) : Nat)) (b := (0 : Int)) rfl rfl) ?_
   refine wend ?_
   refine condProp (((0 : Int) : Int) < ((cntS fG ops ops.length) : Nat)) rfl (fun c158 => ?_) (fun c158 => ?_)
   ·refine oneRegion ?_
    refine sq (r_fieldAddr (off' := 3) fld57_3 (by decide) (b := b5) (off := 0) rfl (by omega)) ?_
    refine sq (r_indexA (off' := 3) (j := 0) arr29 (b := b5) (off := 3) rfl rfl (by first | rfl | omega | (simp; omega)) (by omega) (by omega)) ?_
    refine sq (r_loadC (v := iN (cntS fT0 ops ops.length)) one3 (HL2.get (k := 0) rfl) (off := 3) rfl (by rfl)) ?_
    refine sq (r_addI (a := ((cntS fT0 ops ops.length) : Nat)) (b := (2 : Int)) rfl rfl (by omega)) ?_
    refine sq (r_fieldAddr (off' := 3) fld57_3 (by decide) (b := b5) (off := 0) rfl (by omega)) ?_
    refine sq (r_indexA (off' := 3) (j := 0) arr29 (b := b5) (off := 3) rfl rfl (by first | rfl | omega | (simp; omega)) (by omega) (by omega)) ?_
    refine d_store (k := 0) (v := i64 (((cntS fT0 ops ops.length) : Nat) + (2 : Int))) (cs' := x1) HL2 rfl rfl rfl siz3 (by rfl) (by exact EI.one _) (by exact bLe rfl) (by rfl) ?_
    intro w132 H133 hC134
    have H133' := H133.as (L' := [_, _]) rfl
    clear H133
    refine wnil ?_
    refine thenNormal ?_
    refine sR ?_
    refine sq (r_loadA (cs' := x1) agg57 siz57 (H133'.get (k := 0) rfl) (off := 0) rfl (by exact bLe rfl) (by rfl)) ?_
    refine d_store (k := 1) (v := .agg x1) (cs' := x1) H133' rfl rfl rfl siz57 (by rfl) (oneL rfl) (by exact bLe rfl) (by rfl) ?_
    intro w135 H136 hC137
    have H136' := H136.as (L' := [_, _]) rfl
    clear H136
    refine wend ?_
    refine retAny ?_
    refine retG (rs := [.cell 2 57]) (vs := [.agg x1]) rfl ⟨r_loadA (cs' := x1) agg57 siz57 (H136'.get (k := 1) rfl) (off := 0) rfl (by exact bLe rfl) (by rfl), trivial⟩ ?_
    have hd : nT0 ops = cntS fT0 ops ops.length + 2 := by unfold nT0 dlt; rw [if_pos (by omega)]
    exact ⟨_, rfl, by rw [hd] <;> rfl, H136'.chg⟩
   ·refine skipAny ?_
    refine thenNormal ?_
    refine sR ?_
    refine sq (r_loadA (cs' := x6) agg57 siz57 (HL2.get (k := 0) rfl) (off := 0) rfl (by exact bLe rfl) (by rfl)) ?_
    refine d_store (k := 1) (v := .agg x6) (cs' := x6) HL2 rfl rfl rfl siz57 (by rfl) (oneL rfl) (by exact bLe rfl) (by rfl) ?_
    intro w138 H139 hC140
    have H139' := H139.as (L' := [_, _]) rfl
    clear H139
    refine wend ?_
    refine retAny ?_
    refine retG (rs := [.cell 2 57]) (vs := [.agg x6]) rfl ⟨r_loadA (cs' := x6) agg57 siz57 (H139'.get (k := 1) rfl) (off := 0) rfl (by exact bLe rfl) (by rfl), trivial⟩ ?_
    have hd : nT0 ops = cntS fT0 ops ops.length + 0 := by unfold nT0 dlt; rw [if_neg (by omega)]
    exact ⟨_, rfl, by rw [hd] <;> rfl, H139'.chg⟩
end Go.Proofs.YtohngnahcgbfmaaGreatDoor.Mi
namespace Go.Proofs.YtohngnahcgbfmaaGreatDoor.Mi
open Go Go.Proofs.YtohngnahcgbfmaaGreatDoor.Vc Go.Proofs.YtohngnahcgbfmaaGreatDoor.Er Go.Proofs.YtohngnahcgbfmaaGreatDoor.Ek Go.Proofs.YtohngnahcgbfmaaGreatDoor.Circ
set_option linter.unusedVariables false
theorem byt34 : byt Tryz.prog 34 = some 8 := by kernel_rfl
theorem fits34 : Fits Tryz.prog 34 E64 := fits64 (by kernel_rfl) (by kernel_rfl)
theorem siz34 : siz Tryz.prog 34 = some 1 := by kernel_rfl
theorem sli23 : sli Tryz.prog 23 = some (34, 1) := by kernel_rfl
theorem zer34 : zer Tryz.prog 34 = some (.int .u64 0) := by kernel_rfl
set_option maxHeartbeats 4000000 in
theorem outs_ok (ops : List Mo) (oa : Option Addr) (oc : Nat) (sh : List (BitVec 64)) (ha : Option Addr) (hc n0 n1 : Nat) (hn0 : n0 = ops.length) (hn1 : n1 = sh.length) (w : World) (hG : Gl w) (hO : Rd EMo w oa ops) (hol : ops.length ≤ 140737488355328) (hSh : Rd E64 w ha sh) (hsl : sh.length = ops.length) (hg : Good ops 65536 65536) : Calls Tryz.prog 13 [.slice oa n0 oc, .slice ha n1 hc].toArray w (Ret fun v w' => (∃ a, v = .slice a (outsS ops) (outsS ops) ∧ Rd E64 w' a (outsL ops sh)) ∧ Ext w w') := by
 subst hn0 hn1
 have hlen := hg.len
 have H := Hp.start No w
 refine enter (n := 47) Tryz.func13 rfl rfl (bLe rfl) ?_
 refine sR ?_
 refine sA sN0 rfl ?_
 refine wend ?_
 refine seqAny ?_
 refine sR ?_
 refine sM (.slice oa ops.length oc) rfl ?_
 refine c_call (vs := []) call31 rfl (all_ok w) ?_
 rintro _ w1 ⟨rfl, hE2⟩
 have H3 := H.ext hE2
 refine c_call (vs := [.slice oa ops.length oc, .agg (cel EI [65536, 65536]).toArray]) call8 rfl (mcheck_yes ops oa oc 65536 65536 ops.length (by rfl) w1 (Chg.gl H3.chg (fun x => x) hG) (hO.ext H3.chg) (by omega) hg) ?_
 rintro _ w4 ⟨rfl, hE5⟩
 have H6 := H3.ext hE5
 refine sq ((r_neqNN isI31 rfl rfl).as (v' := .bool false) (by rfl)) ?_
 refine sM (.bool false) rfl ?_
 refine sqAny (v := .slice ha sh.length hc) (w' := w4) (wantedSome (d' := 13) (b := false) rfl rfl rfl) (r_move (v := .slice ha sh.length hc) rfl) ?_
 refine sqAny (v := iN sh.length) (w' := w4) (wantedSome (d' := 13) (b := false) rfl rfl rfl) (r_lenS sli23 (a := ha) (m := sh.length) (c := hc) rfl) ?_
 refine sqAny (v := .slice oa ops.length oc) (w' := w4) (wantedSome (d' := 13) (b := false) rfl rfl rfl) (r_move (v := .slice oa ops.length oc) rfl) ?_
 refine sqAny (v := iN ops.length) (w' := w4) (wantedSome (d' := 13) (b := false) rfl rfl rfl) (r_lenS sli22 (a := oa) (m := ops.length) (c := oc) rfl) ?_
 refine sqAny (v := .bool false) (w' := w4) (wantedSome (d' := 13) (b := false) rfl rfl rfl) ((r_neqI (a := (sh.length : Nat)) (b := (ops.length : Nat)) rfl rfl).as (v' := .bool false) (by exact congrArg Value.bool (decide_eq_false (by omega)))) ?_
 refine sq (r_pickF (v := .bool false) rfl rfl) ?_
 refine wend ?_
 refine condFalse rfl ?_
 refine skipAny ?_
 refine thenNormal ?_
 refine sR ?_
 refine sM (.slice oa ops.length oc) rfl ?_
 refine sq (r_lenS sli22 (a := oa) (m := ops.length) (c := oc) rfl) ?_
 refine q_makeSlice (E := E64) (m := ops.length) (c := ops.length) (z0 := 0#64) H6 sli23 zer34 rfl byt34 rfl rfl (by first | rfl | omega | (simp; omega)) (by first | rfl | omega | (simp; omega)) (by omega) (by omega) ?_
 intro b7 w9 hS8 H10 hE11
 refine sA (.slice (ownA (some b7)) ops.length ops.length) rfl ?_
 refine wS ?_
 refine sA (i64 0) rfl ?_
 refine wend ?_
 refine seqAny ?_
 refine sR ?_
 refine sM (.slice oa ops.length oc) rfl ?_
 refine sq (r_lenS sli22 (a := oa) (m := ops.length) (c := oc) rfl) ?_
 refine sM (i64 0) rfl ?_
 refine wend ?_
 refine blockAny ?_
 refine loopAny (σ := Nat) (fun i => [(0, .slice oa ops.length oc), (1, .slice ha sh.length hc), (5, .slice (ownA (some b7)) ops.length ops.length), (6, iN (cntS fTold ops i)), (23, .slice oa ops.length oc), (24, iN ops.length), (25, iN i)]) (fun i w' => (i ≤ ops.length ∧ Sl E64 (some b7) (otS ops sh i) ops.length (cel E64 (List.replicate (ops.length - ops.length) 0#64))) ∧ Hp No w w' [((some b7), sob E64 34 (otS ops sh i) (cel E64 (List.replicate (ops.length - ops.length) 0#64)))]) (fun i => ops.length - i) (0) ?_ ?_ ?_
 ·exact ⟨rfl, rfl, rfl, rfl, rfl, rfl, rfl, trivial⟩
 ·exact ⟨⟨Nat.zero_le _, hS8⟩, H10⟩
 rintro i ρ w12 ⟨⟨hq, hSo⟩, HL⟩
 have hol2 := otS_len ops sh i
 have hct := cnt_bound fTold_le ops i
 refine sR ?_
 refine sq (r_lssI (a := (i : Nat)) (b := (ops.length : Nat)) rfl rfl) ?_
 refine wend ?_
 refine seqAny ?_
 refine condProp (((i : Nat) : Int) < (ops.length : Nat)) rfl (fun c26 => ?_) (fun c26 => ?_)
 ·refine skipAny ?_
  refine thenNormal ?_
  refine seqAny ?_
  refine blockAny ?_
  refine sR ?_
  refine sM (iN i) rfl ?_
  refine sq (r_idxS (E := EMo) (l := ops) (j := i) sli22 (hO.ext HL.chg) rfl rfl (by first | rfl | omega | (simp; omega)) (by rfl) (by omega)) ?_
  refine sq ((r_ldS (E := EMo) (l := ops) (j := i) (v := ops.getD i mo0) fits36 (hO.ext HL.chg) rfl rfl (at_getD (by omega))).as (v' := .agg #[i64 ((ops.getD i mo0).kd), i64 ((ops.getD i mo0).a), i64 ((ops.getD i mo0).b), i64 ((ops.getD i mo0).k), u64 ((ops.getD i mo0).c), i64 ((ops.getD i mo0).pt)]) rfl) ?_
  refine q_alloc (o := .cells #[i64 0, i64 0, i64 0, i64 0, u64 0#64, i64 0] 36 (0, 0)) HL zer36 (by kernel_rfl) ?_
  intro b14 w15 hb14 H16 hE17
  refine sA (iN i) rfl ?_
  refine d_store (k := 0) (v := .agg #[i64 ((ops.getD i mo0).kd), i64 ((ops.getD i mo0).a), i64 ((ops.getD i mo0).b), i64 ((ops.getD i mo0).k), u64 ((ops.getD i mo0).c), i64 ((ops.getD i mo0).pt)]) (cs' := #[i64 ((ops.getD i mo0).kd), i64 ((ops.getD i mo0).a), i64 ((ops.getD i mo0).b), i64 ((ops.getD i mo0).k), u64 ((ops.getD i mo0).c), i64 ((ops.getD i mo0).pt)]) H16 rfl rfl rfl siz36 (by rfl) (oneL rfl) (by exact bLe rfl) (by rfl) ?_
  intro w18 H19 hC20
  have H19' := H19.as (L' := [_, _]) rfl
  clear H19
  obtain ⟨o, ho⟩ : ∃ q1, q1 = ops.getD i mo0 := ⟨_, rfl⟩
  let x1 : Array Value := #[i64 (o.kd), i64 (o.a), i64 (o.b), i64 (o.k), u64 (o.c), i64 (o.pt)]
  rw [← ho] at H19' ⊢
  refine wS ?_
  refine sq (r_loadA (cs' := x1) agg36 siz36 (H19'.get (k := 0) rfl) (off := 0) rfl (by exact bLe rfl) (by rfl)) ?_
  refine c_call (vs := [.agg x1]) call32 rfl (told_ok o w18) ?_
  rintro _ w21 ⟨rfl, hE22⟩
  have H23 := H19'.ext hE22
  refine wend ?_
  refine condProp (tld o) rfl (fun c31 => ?_) (fun c31 => ?_)
  ·have hgo := hg.at' i (by omega)
   rw [← ho] at hgo
   have hkt := hgo.told c31
   have hou := outs_le ops
   refine seqAny ?_
   refine drawC (m := 9) [0, 0, 2, 0, 0, 24, 56, 127, 255] [8] (fun q vs w' => match q, vs with | 0, [] => Hp No w w' [(rc b14 x1 36), ((some b7), sob E64 34 (otS ops sh i) (cel E64 (List.replicate (ops.length - ops.length) 0#64)))] | 1, [_] => True ∧ Sl E64 (some b7) ((otS ops sh i).set o.k.toNat (sh.getD i 0#64)) ops.length (cel E64 (List.replicate (ops.length - ops.length) 0#64)) ∧ Hp No w w' [(rc b14 x1 36), ((some b7), sob E64 34 ((otS ops sh i).set o.k.toNat (sh.getD i 0#64)) (cel E64 (List.replicate (ops.length - ops.length) 0#64)))] | _, _ => False) mixed (by kernel_rfl) (by kernel_rfl) H23.drew ?_
   refine WalkC.look rfl (fun _ => .slice (ownA (some b7)) ops.length ops.length) (fun _ _ _ => rfl) (fun q r uw _ _ _ _ => Gives.run rfl (r_move (v := .slice (ownA (some b7)) ops.length ops.length) rfl) ⟨rfl, rfl⟩) ?_
   refine WalkC.look rfl (fun _ => .pointer (some ⟨b14, 3, none⟩)) (fun _ _ _ => rfl) (fun q r uw _ _ _ _ => Gives.run rfl (r_fieldAddr (off' := 3) fld36_3 (by decide) (b := b14) (off := 0) rfl (by omega)) ⟨rfl, rfl⟩) ?_
   refine WalkC.look rfl (fun _ => i64 (o.k)) (fun _ _ _ => rfl) (fun q r uw hlo hhi hle hF => ?_) ?_
   ·have h1 : 0 ≤ q := Nat.zero_le _
    have h2 : q ≤ 0 := hhi 0 8 rfl rfl
    rcases (show q = 0 by omega) with rfl
    ·have HH := hF
     exact Gives.run rfl (r_loadC (v := i64 (o.k)) one3 (HH.get (k := 0) rfl) (off := 3) rfl (by rfl)) ⟨rfl, rfl⟩
   refine WalkC.look rfl (fun _ => .slice ha sh.length hc) (fun _ _ _ => rfl) (fun q r uw _ _ _ _ => Gives.run rfl (r_move (v := .slice ha sh.length hc) rfl) ⟨rfl, rfl⟩) ?_
   refine WalkC.look rfl (fun _ => iN i) (fun _ _ _ => rfl) (fun q r uw _ _ _ _ => Gives.run rfl (r_move (v := iN i) rfl) ⟨rfl, rfl⟩) ?_
   refine WalkC.look rfl (fun _ => .pointer (adr ha (i * 1))) (fun _ _ _ => rfl) (fun q r uw hlo hhi hle hF => ?_) ?_
   ·have h1 : 0 ≤ q := Nat.zero_le _
    have h2 : q ≤ 0 := hhi 0 8 rfl rfl
    rcases (show q = 0 by omega) with rfl
    ·have HH := hF
     exact Gives.run rfl (r_idxS (E := E64) (l := sh) (j := i) sli23 (hSh.ext HH.chg) rfl rfl (by first | rfl | omega | (simp; omega)) (by rfl) (by omega)) ⟨rfl, rfl⟩
   refine WalkC.look rfl (fun _ => u64 (sh.getD i 0#64)) (fun _ _ _ => rfl) (fun q r uw hlo hhi hle hF => ?_) ?_
   ·have h1 : 0 ≤ q := Nat.zero_le _
    have h2 : q ≤ 0 := hhi 0 8 rfl rfl
    rcases (show q = 0 by omega) with rfl
    ·have HH := hF
     exact Gives.run rfl (r_ldS (E := E64) (l := sh) (j := i) (v := sh.getD i 0#64) fits34 (hSh.ext HH.chg) rfl rfl (at_getD (by omega))) ⟨rfl, rfl⟩
   refine WalkC.look rfl (fun _ => .pointer (adr (ownA (some b7)) (o.k.toNat * 1))) (fun _ _ _ => rfl) (fun q r uw hlo hhi hle hF => ?_) ?_
   ·have h1 : 0 ≤ q := Nat.zero_le _
    have h2 : q ≤ 0 := hhi 0 8 rfl rfl
    rcases (show q = 0 by omega) with rfl
    ·have HH := hF
     exact Gives.run rfl (r_idxS (E := E64) (l := otS ops sh i) (j := o.k.toNat) sli23 (HH.rd (k := 1) rfl hSo) rfl rfl (by omega) (by exact (otS_len _ _ _).symm) (by omega)) ⟨rfl, rfl⟩
   refine WalkC.eff 0 rfl (fun r uw24 hF26 => ?_) ?_
   ·have H25 := hF26
    dsimp only [List.take, List.map, List.cons_append, List.nil_append]
    refine Gives.ofW0 rfl (fun Q' hK => ?_)
    refine d_storeS (E := E64) (k := 1) (l := otS ops sh i) (j := o.k.toNat) (b := sh.getD i 0#64) (a := (otS ops sh i).getD o.k.toNat 0#64) H25 rfl hSo rfl rfl rfl rfl siz34 (at_getD (by omega)) ?_
    intro w28 hS27 H29
    have H29' := H29.as (L' := [_, _]) rfl
    clear H29
    exact hK _ (fun _ => ⟨trivial, hS27, H29'⟩)
   refine WalkC.nil ?_
   intro r30 w31 hF33
   obtain ⟨e8, hS27, H32⟩ := hF33
   dsimp only
   refine wnil ?_
   refine thenNormal ?_
   refine oneRegion ?_
   refine sM (iN (cntS fTold ops i)) rfl ?_
   refine sq (r_addI (a := ((cntS fTold ops i) : Nat)) (b := (1 : Int)) rfl rfl (by omega)) ?_
   refine sA (i64 (((cntS fTold ops i) : Nat) + (1 : Int))) rfl ?_
   refine wnil ?_
   refine blockNormal ?_
   refine thenNormal ?_
   refine oneRegion ?_
   refine sq (r_addI (a := (i : Nat)) (b := (1 : Int)) rfl rfl (by omega)) ?_
   refine sM (i64 ((i : Nat) + (1 : Int))) rfl ?_
   refine wnil ?_
   refine thenNormal ?_
   have e34 : (otS ops sh i).set o.k.toNat (sh.getD i 0#64) = otS ops sh (i + 1) := by rw [otS, ← ho, if_pos c31]
   have hS35 := hS27
   rw [e34] at hS35
   have H36 := H32.as (L' := [(rc b14 #[i64 (o.kd), i64 (o.a), i64 (o.b), i64 (o.k), u64 (o.c), i64 (o.pt)] 36), ((some b7), sob E64 34 (otS ops sh (i + 1)) (cel E64 (List.replicate (ops.length - ops.length) 0#64)))]) (by rw [e34])
   exact ⟨i + 1, _, rfl, ⟨rfl, rfl, rfl, congrArg i64 (by rw [cntS, ← ho, fTold, if_pos c31] <;> omega), rfl, rfl, rfl, trivial⟩, ⟨⟨by omega, hS35⟩, (H36.dropk 0)⟩, by show ops.length - (i + 1) < ops.length - i; omega⟩
  ·refine skipAny ?_
   refine blockNormal ?_
   refine thenNormal ?_
   refine oneRegion ?_
   refine sq (r_addI (a := (i : Nat)) (b := (1 : Int)) rfl rfl (by omega)) ?_
   refine sM (i64 ((i : Nat) + (1 : Int))) rfl ?_
   refine wnil ?_
   refine thenNormal ?_
   have e37 : otS ops sh i = otS ops sh (i + 1) := by rw [otS, ← ho, if_neg c31]
   have hS38 := hSo
   rw [e37] at hS38
   have H39 := H23.as (L' := [(rc b14 #[i64 (o.kd), i64 (o.a), i64 (o.b), i64 (o.k), u64 (o.c), i64 (o.pt)] 36), ((some b7), sob E64 34 (otS ops sh (i + 1)) (cel E64 (List.replicate (ops.length - ops.length) 0#64)))]) (by rw [e37])
   exact ⟨i + 1, _, rfl, ⟨rfl, rfl, rfl, congrArg i64 (by rw [cntS, ← ho, fTold, if_neg c31] <;> omega), rfl, rfl, rfl, trivial⟩, ⟨⟨by omega, hS38⟩, (H39.dropk 0)⟩, by show ops.length - (i + 1) < ops.length - i; omega⟩
 ·have hie : i = ops.length := by omega
  subst hie
  have hou := outs_le ops
  rw [show cntS fTold ops ops.length = outsS ops from rfl]
  refine exitAny ?_
  refine thenExit ?_
  refine thenExit ?_
  refine blockHere ?_
  refine thenNormal ?_
  refine sR ?_
  refine sM (.slice (ownA (some b7)) ops.length ops.length) rfl ?_
  refine sM (iN (outsS ops)) rfl ?_
  refine sM (iN (outsS ops)) rfl ?_
  refine sq (r_slice3n (h := (outsS ops)) (q := (outsS ops)) sli23 rfl rfl rfl (by first | rfl | omega) (by first | rfl | omega) (by omega) (by omega)) ?_
  refine sA (.slice (if (outsS ops) = 0 then ownA (some b7) else adr (ownA (some b7)) (0 * 1)) (outsS ops) (outsS ops)) rfl ?_
  refine wend ?_
  refine retAny ?_
  refine rG1 4 (.slice (if (outsS ops) = 0 then ownA (some b7) else adr (ownA (some b7)) (0 * 1)) (outsS ops) (outsS ops)) rfl ⟨rfl, rfl⟩ ?_
  exact ⟨_, rfl, ⟨_, rfl, (Rd.sub (HL.rd (k := 0) rfl hSo) 0 (outsS ops) (m := (outsS ops)) (fun e => by rw [e]; rfl))⟩, HL.chg⟩
end Go.Proofs.YtohngnahcgbfmaaGreatDoor.Mi
namespace Go.Proofs.YtohngnahcgbfmaaGreatDoor.Er
open Go Go.Proofs.YtohngnahcgbfmaaGreatDoor.Vc
theorem agg83 : isAgg' Tryz.prog 83 = true := by kernel_rfl
theorem arr83 : arr Tryz.prog 83 = some (2, 1) := by kernel_rfl
theorem byt34 : byt Tryz.prog 34 = some 8 := by kernel_rfl
theorem call17 : callable Tryz.prog 17 = true := by kernel_rfl
theorem call30 : callable Tryz.prog 30 = true := by kernel_rfl
theorem call47 : callable Tryz.prog 47 = true := by kernel_rfl
theorem fits34 : Fits Tryz.prog 34 E64 := fits64 (by kernel_rfl) (by kernel_rfl)
theorem fld96_0 : fld Tryz.prog 96 0 = some (0, 1, 23) := by kernel_rfl
theorem fld96_1 : fld Tryz.prog 96 1 = some (1, 1, 94) := by kernel_rfl
theorem fld96_2 : fld Tryz.prog 96 2 = some (2, 1, 3) := by kernel_rfl
theorem fld96_3 : fld Tryz.prog 96 3 = some (3, 1, 3) := by kernel_rfl
theorem mixed : Tryz.prog.follows .mixedOrders = true := by kernel_rfl
theorem one23 : isOne Tryz.prog 23 = true := by kernel_rfl
theorem one94 : isOne Tryz.prog 94 = true := by kernel_rfl
theorem pls96 : pls Tryz.prog 96 = some #[(0, 1), (1, 1), (2, 1), (3, 1)] := by kernel_rfl
theorem siz3 : siz Tryz.prog 3 = some 1 := by kernel_rfl
theorem siz83 : siz Tryz.prog 83 = some 2 := by kernel_rfl
theorem sli23 : sli Tryz.prog 23 = some (34, 1) := by kernel_rfl
theorem und23 : Tryz.prog.underlying 23 = some (.slice 34) := by kernel_rfl
theorem und94 : Tryz.prog.underlying 94 = some (.pointer 232) := by kernel_rfl
theorem zer34 : zer Tryz.prog 34 = some (.int .u64 0) := by kernel_rfl
theorem zer83 : zer Tryz.prog 83 = some (.agg (List.replicate 2 (.int .u64 0)).toArray) := by kernel_rfl
theorem zer96 : zer Tryz.prog 96 = some (.agg #[sN0, .pointer none, .int .i64 0, .int .i64 0]) := by kernel_rfl
theorem clone64_ok (ws : List (BitVec 64)) (hroom : ws.length * 8 ≤ 140737488355328) (a0 : Option Addr) (n0 c0 : Nat) (hn0 : n0 = ws.length) (w : World) (hW : Rd E64 w a0 ws) : Calls Tryz.prog 30 [.slice a0 n0 c0].toArray w (Ret fun v w' => SlRes E64 34 ws w v w' ∧ Ext w w') := by
 subst hn0
 have H := Hp.start No w
 refine enter (n := 8) Tryz.func30 rfl rfl (bLe rfl) ?_
 refine sR ?_
 refine sA sN0 rfl ?_
 refine wend ?_
 refine seqAny ?_
 refine sR ?_
 refine sM (.slice a0 ws.length c0) rfl ?_
 refine sq (r_eqlSN und23 rfl rfl) ?_
 refine wend ?_
 refine condBool (a0.isNone) rfl (fun c4 => ?_) (fun c4 => ?_)
 ·refine sR ?_
  refine sA sN0 rfl ?_
  refine wend ?_
  refine retAny ?_
  refine thenRet ?_
  refine rG1 2 (sN0) rfl ⟨rfl, rfl⟩ ?_
  obtain rfl := nilOfRd hW c4
  exact ⟨_, rfl, ⟨none, 0, [], rfl, Sl.none, fun _ h => by cases h⟩, H.chg⟩
 ·refine skipAny ?_
  refine thenNormal ?_
  refine sR ?_
  refine q_buildSlice (E := E64) (l := []) H sli23 zer34 (bLe rfl) (ps := []) rfl (by exact fillAll rfl rfl) rfl ?_
  intro b1 w3 hS2 H4 hE5
  refine sM (.slice a0 ws.length c0) rfl ?_
  refine q_append (E := E64) (k := 0) (l := []) (l2 := ws) H4 rfl hS2 sli23 zer34 rfl byt34 (hW.ext H4.chg) rfl (by rfl) rfl (by rfl) (by omega) ?_
  intro key6 c7 sp8 w10 hS9 hne12 H11
  have H11' := H11.as (L' := [_]) rfl
  clear H11
  have e13 : ([]) ++ ws = ws := by rw [List.nil_append]
  have hS14 := hS9
  rw [e13] at hS14
  have H15 := H11'.as (L' := [(key6, sob E64 34 ws sp8)]) (by rw [e13])
  refine sA (.slice (ownA key6) (0 + ws.length) c7) rfl ?_
  refine wend ?_
  refine retAny ?_
  refine rG1 2 (.slice (ownA key6) (0 + ws.length) c7) rfl ⟨rfl, rfl⟩ ?_
  exact ⟨_, rfl, H15.resN (k := 0) rfl hS14 (Nat.zero_add _), H15.chg⟩
theorem load_ok (ws : List (BitVec 64)) (hroom : ws.length * 8 ≤ 140737488355328) (a0 : Option Addr) (n0 c0 : Nat) (hn0 : n0 = ws.length) (w : World) (hW : Rd E64 w a0 ws) : Calls Tryz.prog 11 [.slice a0 n0 c0].toArray w (Ret fun v w' => (∃ b key c sp, v = pT b ∧ Sl E64 key ws c sp ∧ Hp No w w' [(rc b #[.slice (ownA key) ws.length c, .pointer none, iN ws.length, iN 0] 96), (key, sob E64 34 ws sp)]) ∧ Ext w w') := by
 subst hn0
 have H := Hp.start No w
 refine enter (n := 9) Tryz.func11 rfl rfl (bLe rfl) ?_
 refine sR ?_
 refine sA (.pointer none) rfl ?_
 refine wS ?_
 refine sM (.slice a0 ws.length c0) rfl ?_
 refine c_call (vs := [.slice a0 ws.length c0]) call30 rfl (clone64_ok ws (by omega) a0 ws.length c0 (by rfl) w (hW.ext H.chg)) ?_
 rintro _ w1 ⟨⟨key3, c4, sp5, rfl, hS6, hk7⟩, hE8⟩
 rw [show ws.length = ws.length from rfl]
 have H9 := H.add hE8 hk7
 refine sM (.slice a0 ws.length c0) rfl ?_
 refine sq (r_lenS sli23 (a := a0) (m := ws.length) (c := c0) rfl) ?_
 refine sq (r_build (cs' := #[.slice (ownA key3) ws.length c4, .pointer none, iN ws.length, i64 0]) (ps := [(0, .slice (ownA key3) ws.length c4), (2, iN ws.length)]) zer96 pls96 rfl (by rfl)) ?_
 refine q_box (v := .agg #[.slice (ownA key3) ws.length c4, .pointer none, iN ws.length, i64 0]) (o := .cells #[.slice (ownA key3) ws.length c4, .pointer none, iN ws.length, i64 0] 96 (0, 0)) H9 rfl (by rfl) ?_
 intro b10 w11 hb10 H12 hE13
 refine sA (pT b10) rfl ?_
 refine wend ?_
 refine retAny ?_
 refine rG1 2 (pT b10) rfl ⟨rfl, rfl⟩ ?_
 exact ⟨_, rfl, ⟨b10, key3, c4, sp5, rfl, hS6, H12⟩, H12.chg⟩
theorem left_ok (b n u : Nat) (x0 x1 : Value) (w : World) (hb : w.heap[b]? = some (.cells #[x0, x1, iN n, iN u] 96 (0, 0))) (hu : u ≤ n) (hn : n ≤ 140737488355328) : Calls Tryz.prog 17 [pT b].toArray w (Ret fun v w' => v = i64 ((n : Nat) - (u : Nat)) ∧ Ext w w') := by
 have H := Hp.start No w
 refine enter (n := 12) Tryz.func17 rfl rfl (bLe rfl) ?_
 refine sR ?_
 refine sA (i64 0) rfl ?_
 refine wend ?_
 refine seqAny ?_
 refine drawAny (K := [none, none, none, none, none, none, none, none, none, none]) [0, 1, 3, 7, 0, 16, 48, 112, 255, 511] (fun w' => Ext w w') (fun w' w'' => Ext w' w'') mixed (by kernel_rfl) (Ext.drew _) (fun _ _ h h' => h.trans h') ?_ ?_
 ·exact relNone (by decide)
 refine ⟨pT b, fun _ uw1 hC2 _ => Gives.run rfl (r_move (v := pT b) rfl) ⟨rfl, Chg.refl _ _⟩, ?_⟩
 refine ⟨pT b, fun _ uw3 hC4 _ => Gives.run rfl (r_nilCheck rfl) ⟨rfl, Chg.refl _ _⟩, ?_⟩
 refine ⟨.pointer (some ⟨b, 2, none⟩), fun _ uw5 hC6 _ => Gives.run rfl (r_fieldAddr (off' := 2) fld96_2 (by decide) (b := b) (off := 0) rfl (by omega)) ⟨rfl, Chg.refl _ _⟩, ?_⟩
 refine ⟨iN n, fun _ uw7 hC8 _ => Gives.run rfl (r_loadC (v := iN n) one3 ((H.ext hC8).keepE hb) (off := 2) rfl (by rfl)) ⟨rfl, Chg.refl _ _⟩, ?_⟩
 refine ⟨pT b, fun _ uw9 hC10 _ => Gives.run rfl (r_move (v := pT b) rfl) ⟨rfl, Chg.refl _ _⟩, ?_⟩
 refine ⟨pT b, fun _ uw11 hC12 _ => Gives.run rfl (r_nilCheck rfl) ⟨rfl, Chg.refl _ _⟩, ?_⟩
 refine ⟨.pointer (some ⟨b, 3, none⟩), fun _ uw13 hC14 _ => Gives.run rfl (r_fieldAddr (off' := 3) fld96_3 (by decide) (b := b) (off := 0) rfl (by omega)) ⟨rfl, Chg.refl _ _⟩, ?_⟩
 refine ⟨iN u, fun _ uw15 hC16 _ => Gives.run rfl (r_loadC (v := iN u) one3 ((H.ext hC16).keepE hb) (off := 3) rfl (by rfl)) ⟨rfl, Chg.refl _ _⟩, ?_⟩
 refine ⟨i64 ((n : Nat) - (u : Nat)), fun _ uw17 hC18 _ => Gives.run rfl (r_subI (a := (n : Nat)) (b := (u : Nat)) rfl rfl (by omega)) ⟨rfl, Chg.refl _ _⟩, ?_⟩
 refine ⟨i64 ((n : Nat) - (u : Nat)), fun _ uw19 hC20 _ => Gives.run rfl (r_assign (v := i64 ((n : Nat) - (u : Nat))) rfl) ⟨rfl, Chg.refl _ _⟩, ?_⟩
 intro r24 w21 hE23 hF
 have H22 := H.ext hE23
 refine wnil ?_
 refine thenNormal ?_
 refine retAny ?_
 refine rG1 2 (i64 ((n : Nat) - (u : Nat))) rfl ⟨rfl, rfl⟩ ?_
 exact ⟨_, rfl, rfl, H22.chg⟩
theorem next_hit (b c u : Nat) (a : Option Addr) (ws : List (BitVec 64)) (w : World) (hb : w.heap[b]? = some (.cells #[.slice a ws.length c, .pointer none, iN ws.length, iN u] 96 (0, 0))) (hR : ∀ w', Chg (· = b) w w' → Rd E64 w' a ws) (hlen : ws.length ≤ 140737488355328) (hu : u < ws.length) : Calls Tryz.prog 47 [pT b].toArray w (Ret fun v w' => v = .tuple #[u64 (ws.getD u 0#64), .nilIface] ∧ Chg (· = b) w w' ∧ w'.heap[b]? = some (.cells #[.slice a ws.length c, .pointer none, iN ws.length, iN (u + 1)] 96 (0, 0))) := by
 have H := Hp.start1 (M := (· = b)) rfl hb
 refine enter (n := 50) Tryz.func47 rfl rfl (bLe rfl) ?_
 refine sR ?_
 refine sA (u64 0#64) rfl ?_
 refine sA (.nilIface) rfl ?_
 refine wend ?_
 refine seqAny ?_
 refine seqAny ?_
 refine drawAny (K := [none, none, none, none, none, none, none, none, none]) [0, 1, 3, 7, 0, 16, 48, 112, 255] (fun w' => Ext w w') (fun w' w'' => Ext w' w'') mixed (by kernel_rfl) (Ext.drew _) (fun _ _ h h' => h.trans h') ?_ ?_
 ·exact relNone (by decide)
 refine ⟨pT b, fun _ uw1 hC2 _ => Gives.run rfl (r_move (v := pT b) rfl) ⟨rfl, Chg.refl _ _⟩, ?_⟩
 refine ⟨pT b, fun _ uw3 hC4 _ => Gives.run rfl (r_nilCheck rfl) ⟨rfl, Chg.refl _ _⟩, ?_⟩
 refine ⟨.pointer (some ⟨b, 3, none⟩), fun _ uw5 hC6 _ => Gives.run rfl (r_fieldAddr (off' := 3) fld96_3 (by decide) (b := b) (off := 0) rfl (by omega)) ⟨rfl, Chg.refl _ _⟩, ?_⟩
 refine ⟨iN u, fun _ uw7 hC8 _ => Gives.run rfl (r_loadC (v := iN u) one3 ((H.ext hC8).get (k := 0) rfl) (off := 3) rfl (by rfl)) ⟨rfl, Chg.refl _ _⟩, ?_⟩
 refine ⟨pT b, fun _ uw9 hC10 _ => Gives.run rfl (r_move (v := pT b) rfl) ⟨rfl, Chg.refl _ _⟩, ?_⟩
 refine ⟨pT b, fun _ uw11 hC12 _ => Gives.run rfl (r_nilCheck rfl) ⟨rfl, Chg.refl _ _⟩, ?_⟩
 refine ⟨.pointer (some ⟨b, 2, none⟩), fun _ uw13 hC14 _ => Gives.run rfl (r_fieldAddr (off' := 2) fld96_2 (by decide) (b := b) (off := 0) rfl (by omega)) ⟨rfl, Chg.refl _ _⟩, ?_⟩
 refine ⟨iN ws.length, fun _ uw15 hC16 _ => Gives.run rfl (r_loadC (v := iN ws.length) one3 ((H.ext hC16).get (k := 0) rfl) (off := 2) rfl (by rfl)) ⟨rfl, Chg.refl _ _⟩, ?_⟩
 refine ⟨.bool (decide (((ws.length : Nat) : Int) ≤ (u : Nat))), fun _ uw17 hC18 _ => Gives.run rfl (r_geqI (a := (u : Nat)) (b := (ws.length : Nat)) rfl rfl) ⟨rfl, Chg.refl _ _⟩, ?_⟩
 intro r22 w19 hE21 hF
 have H20 := H.ext hE21
 refine wnil ?_
 refine thenNormal ?_
 refine condProp (((ws.length : Nat) : Int) ≤ (u : Nat)) rfl (fun c13 => ?_) (fun c13 => ?_)
 ·exfalso
  omega
 ·refine skipAny ?_
  refine thenNormal ?_
  refine sR ?_
  refine sM (pT b) rfl ?_
  refine sq (r_nilCheck rfl) ?_
  refine sq (r_fieldAddr (off' := 3) fld96_3 (by decide) (b := b) (off := 0) rfl (by omega)) ?_
  refine sq (r_loadC (v := iN u) one3 (H20.get (k := 0) rfl) (off := 3) rfl (by rfl)) ?_
  refine sA (iN u) rfl ?_
  refine wS ?_
  refine sM (pT b) rfl ?_
  refine sq (r_nilCheck rfl) ?_
  refine sq (r_fieldAddr (off' := 3) fld96_3 (by decide) (b := b) (off := 0) rfl (by omega)) ?_
  refine sq (r_loadC (v := iN u) one3 (H20.get (k := 0) rfl) (off := 3) rfl (by rfl)) ?_
  refine sq (r_addI (a := (u : Nat)) (b := (1 : Int)) rfl rfl (by omega)) ?_
  refine sq (r_nilCheck rfl) ?_
  refine sq (r_fieldAddr (off' := 3) fld96_3 (by decide) (b := b) (off := 0) rfl (by omega)) ?_
  refine d_store (k := 0) (v := i64 ((u : Nat) + (1 : Int))) (cs' := #[.slice a ws.length c, .pointer none, iN ws.length, i64 ((u : Nat) + (1 : Int))]) H20 rfl rfl rfl siz3 (by rfl) (by exact EI.one _) (by exact bLe rfl) (by rfl) ?_
  intro w23 H24 hC25
  have H24' := H24.as (L' := [_]) rfl
  clear H24
  refine wend ?_
  refine seqAny ?_
  refine sR ?_
  refine sM (pT b) rfl ?_
  refine sq (r_nilCheck rfl) ?_
  refine sq (r_fieldAddr (off' := 1) fld96_1 (by decide) (b := b) (off := 0) rfl (by omega)) ?_
  refine sq (r_loadC (v := .pointer none) one94 (H24'.get (k := 0) rfl) (off := 1) rfl (by rfl)) ?_
  refine sq (r_neqPO und94 rfl rfl) ?_
  refine wend ?_
  refine condFalse rfl ?_
  refine skipAny ?_
  refine thenNormal ?_
  refine sR ?_
  refine sM (pT b) rfl ?_
  refine sq (r_nilCheck rfl) ?_
  refine sq (r_fieldAddr (off' := 0) fld96_0 (by decide) (b := b) (off := 0) rfl (by omega)) ?_
  refine sq (r_loadC (v := .slice a ws.length c) one23 (H24'.get (k := 0) rfl) (off := 0) rfl (by rfl)) ?_
  refine sM (iN u) rfl ?_
  refine sq (r_idxS (E := E64) (l := ws) (j := u) sli23 (hR _ H24'.chg) rfl rfl (by first | rfl | omega | (simp; omega)) (by rfl) (by omega)) ?_
  refine sq (r_ldS (E := E64) (l := ws) (j := u) (v := ws.getD u 0#64) fits34 (hR _ H24'.chg) rfl rfl (at_getD (by omega))) ?_
  refine sA (u64 (ws.getD u 0#64)) rfl ?_
  refine sA (.nilIface) rfl ?_
  refine wend ?_
  refine retAny ?_
  refine retG (rs := [.tmp 2, .tmp 3]) (vs := [u64 (ws.getD u 0#64), .nilIface]) rfl ⟨⟨rfl, rfl⟩, ⟨rfl, rfl⟩, trivial⟩ ?_
  exact ⟨_, rfl, rfl, H24'.chg, H24'.get (k := 0) rfl⟩
end Go.Proofs.YtohngnahcgbfmaaGreatDoor.Er
namespace Go.Proofs.YtohngnahcgbfmaaGreatDoor.Co
open Go Go.Proofs.YtohngnahcgbfmaaGreatDoor.Vc Go.Proofs.YtohngnahcgbfmaaGreatDoor.Er
set_option linter.unusedVariables false
theorem agg117 : isAgg' Tryz.prog 117 = true := by kernel_rfl
theorem agg121 : isAgg' Tryz.prog 121 = true := by kernel_rfl
theorem agg66 : isAgg' Tryz.prog 66 = true := by kernel_rfl
theorem arr117 : arr Tryz.prog 117 = some (5, 1) := by kernel_rfl
theorem call22 : callable Tryz.prog 22 = true := by kernel_rfl
theorem call38 : callable Tryz.prog 38 = true := by kernel_rfl
theorem call47 : callable Tryz.prog 47 = true := by kernel_rfl
theorem fits66 : Fits Tryz.prog 66 ETr := fitsTr (by kernel_rfl) (by kernel_rfl)
theorem fld110_0 : fld Tryz.prog 110 0 = some (0, 1, 39) := by kernel_rfl
theorem fld112_0 : fld Tryz.prog 112 0 = some (0, 1, 40) := by kernel_rfl
theorem fld114_0 : fld Tryz.prog 114 0 = some (0, 1, 110) := by kernel_rfl
theorem fld114_1 : fld Tryz.prog 114 1 = some (1, 1, 110) := by kernel_rfl
theorem fld114_2 : fld Tryz.prog 114 2 = some (2, 1, 112) := by kernel_rfl
theorem mixed : Tryz.prog.follows .mixedOrders = true := by kernel_rfl
theorem one39 : isOne Tryz.prog 39 = true := by kernel_rfl
theorem one40 : isOne Tryz.prog 40 = true := by kernel_rfl
theorem siz117 : siz Tryz.prog 117 = some 5 := by kernel_rfl
theorem siz121 : siz Tryz.prog 121 = some 5 := by kernel_rfl
theorem siz34 : siz Tryz.prog 34 = some 1 := by kernel_rfl
theorem siz39 : siz Tryz.prog 39 = some 1 := by kernel_rfl
theorem siz40 : siz Tryz.prog 40 = some 1 := by kernel_rfl
theorem siz66 : siz Tryz.prog 66 = some 3 := by kernel_rfl
theorem sli39 : sli Tryz.prog 39 = some (66, 3) := by kernel_rfl
theorem sli40 : sli Tryz.prog 40 = some (121, 5) := by kernel_rfl
theorem und63 : Tryz.prog.underlying 63 = some (.int .i64) := by kernel_rfl
theorem zer117 : zer Tryz.prog 117 = some (.agg (List.replicate 5 (.int .u64 0)).toArray) := by kernel_rfl
theorem zer121 : zer Tryz.prog 121 = some (.agg #[.int .u64 0, .int .u64 0, .int .u64 0, .int .u64 0, .bool false]) := by kernel_rfl
theorem zer66 : zer Tryz.prog 66 = some (.agg #[.int .u64 0, .int .u64 0, .int .u64 0]) := by kernel_rfl
set_option maxHeartbeats 4000000 in
theorem five_ok (b : Nat) (key : Option Nat) (c : Nat) (sp : List Value) (ws : List (BitVec 64)) (hSw : Sl E64 key ws c sp) (hlen : ws.length ≤ 140737488355328) (u : Nat) (hu : u + 5 ≤ ws.length) (R : List (Option Nat × Obj)) (w₀ w : World) (H : Hp No w₀ w ((rc b #[.slice (ownA key) ws.length c, .pointer none, iN ws.length, iN u] 96) :: (key, sob E64 34 ws sp) :: R)) : Calls Tryz.prog 40 [pT b].toArray w (Ret fun v w' => v = .agg (cel E64 [ws.getD u 0#64, ws.getD (u + 1) 0#64, ws.getD (u + 2) 0#64, ws.getD (u + 3) 0#64, ws.getD (u + 4) 0#64]).toArray ∧ Hp No w₀ w' ((rc b #[.slice (ownA key) ws.length c, .pointer none, iN ws.length, iN (u + 5)] 96) :: (key, sob E64 34 ws sp) :: R)) := by
 skip
 refine enter (n := 17) Tryz.func40 rfl rfl (bLe rfl) ?_
 refine sR ?_
 refine q_alloc (o := .cells (cel E64 (List.replicate 5 0#64)).toArray 117 (0, 0)) H zer117 (by kernel_rfl) ?_
 intro b1 w2 hb1 H3 hE4
 refine wS ?_
 refine q_alloc (o := .cells (cel E64 (List.replicate 5 0#64)).toArray 117 (0, 0)) H3 zer117 (by kernel_rfl) ?_
 intro b5 w6 hb5 H7 hE8
 refine wend ?_
 refine seqAny ?_
 refine sR ?_
 refine sM (i64 0) rfl ?_
 refine wend ?_
 refine blockAny ?_
 refine loopAny (σ := Nat) (fun q => [(0, pT b), (2, pT b1), (3, pT b5), (5, iN q)]) (fun q w' => q ≤ 5 ∧ Hp No w₀ w' ((re b5 E64 (fiveL ws u q) 117) :: (re b1 E64 (List.replicate 5 0#64) 117) :: (rc b #[.slice (ownA key) ws.length c, .pointer none, iN ws.length, iN (u + q)] 96) :: (key, sob E64 34 ws sp) :: R)) (fun q => 5 - q) (0) ?_ ?_ ?_
 ·exact ⟨rfl, rfl, rfl, rfl, trivial⟩
 ·exact ⟨by omega, H7⟩
 rintro q ρ w9 ⟨hq, HL⟩
 let x1 : Array Value := #[u64 (ws.getD (u + q) 0#64), .nilIface]
 refine sR ?_
 refine sq (r_lssI (a := (q : Nat)) (b := (5 : Int)) rfl rfl) ?_
 refine wend ?_
 refine seqAny ?_
 refine condProp (((q : Nat) : Int) < (5 : Int)) rfl (fun c6 => ?_) (fun c6 => ?_)
 ·have c6 : q < 5 := by omega
  refine skipAny ?_
  refine thenNormal ?_
  refine seqAny ?_
  refine blockAny ?_
  refine sR ?_
  refine sM (iN q) rfl ?_
  refine sA (iN q) rfl ?_
  refine wend ?_
  refine oneRegion ?_
  refine sM (iN q) rfl ?_
  refine sM (pT b) rfl ?_
  refine c_call (vs := [pT b]) call47 rfl (next_hit b c (u + q) (ownA key) ws w9 (HL.get (k := 2) rfl) (hpRdSt HL (i := 2) (j := 3) rfl rfl rfl hSw) (by omega) (by omega)) ?_
  rintro _ w11 ⟨rfl, hC13, hn14⟩
  have H15 := (HL.set (k := 2) rfl hC13 hn14).as (L' := (_ :: _ :: _ :: _ :: R)) rfl
  refine sM (.tuple x1) rfl ?_
  refine sq (r_extract (vs := x1) rfl rfl) ?_
  refine sq (r_extract (vs := x1) rfl rfl) ?_
  refine sq (r_indexA (off' := q) (j := q) arr117 (b := b5) (off := 0) rfl rfl (by first | rfl | omega | (simp; omega)) (by omega) (by omega)) ?_
  refine d_store (k := 0) (v := u64 (ws.getD (u + q) 0#64)) (cs' := (cel E64 ((fiveL ws u q).set q (ws.getD (u + q) 0#64))).toArray) H15 rfl rfl rfl siz34 (by rfl) (by exact E64.one _) (by rw [List.size_toArray, cel_length]; show _ ≤ _ * 1; rw [fiveL_len]; omega) (by exact put1 (E := E64) rfl _ _ _) ?_
  intro w16 H17 hC18
  have H17' := H17.as (L' := (_ :: _ :: _ :: _ :: R)) rfl
  clear H17
  refine wnil ?_
  refine blockNormal ?_
  refine thenNormal ?_
  refine oneRegion ?_
  refine sq (r_addI (a := (q : Nat)) (b := (1 : Int)) rfl rfl (by omega)) ?_
  refine sM (i64 ((q : Nat) + (1 : Int))) rfl ?_
  refine wnil ?_
  refine thenNormal ?_
  rw [five_set (ws := ws) (u := u) c6] at H17'
  exact ⟨q + 1, _, rfl, ⟨rfl, rfl, rfl, rfl, trivial⟩, ⟨by omega, H17'⟩, by show 5 - (q + 1) < 5 - q; omega⟩
 ·obtain rfl : q = 5 := by omega
  refine exitAny ?_
  refine thenExit ?_
  refine thenExit ?_
  refine blockHere ?_
  refine thenNormal ?_
  refine sR ?_
  refine sq ((r_loadA (cs' := (cel E64 (fiveL ws u 5)).toArray) agg117 siz117 (HL.get (k := 0) rfl) (off := 0) rfl (by rw [List.size_toArray, cel_length, fiveL_len]; exact Nat.le_refl _) (by exact ext_all (by rw [cel_length, fiveL_len]; rfl))).as (v' := .agg (cel E64 [ws.getD u 0#64, ws.getD (u + 1) 0#64, ws.getD (u + 2) 0#64, ws.getD (u + 3) 0#64, ws.getD (u + 4) 0#64]).toArray) (by rfl)) ?_
  refine d_store (k := 1) (v := .agg (cel E64 [ws.getD u 0#64, ws.getD (u + 1) 0#64, ws.getD (u + 2) 0#64, ws.getD (u + 3) 0#64, ws.getD (u + 4) 0#64]).toArray) (cs' := (cel E64 ([ws.getD u 0#64, ws.getD (u + 1) 0#64, ws.getD (u + 2) 0#64, ws.getD (u + 3) 0#64, ws.getD (u + 4) 0#64])).toArray) HL rfl rfl rfl siz117 (by exact celSize (by first | rfl | (show _ * 1 = _; omega))) (by exact celOne _) (by rw [List.size_toArray, cel_length]; show _ ≤ _ * 1; first | omega | (simp only [List.length_set]; omega) | exact bLe rfl | (simp <;> omega)) (by exact putAll (by first | rfl | omega | (simp <;> omega))) ?_
  intro w19 H20 hC21
  have H20' := H20.as (L' := (_ :: _ :: _ :: _ :: R)) rfl
  clear H20
  refine wend ?_
  refine retAny ?_
  refine retG (rs := [.cell 2 117]) (vs := [.agg (cel E64 ([ws.getD u 0#64, ws.getD (u + 1) 0#64, ws.getD (u + 2) 0#64, ws.getD (u + 3) 0#64, ws.getD (u + 4) 0#64])).toArray]) rfl ⟨r_loadA (cs' := (cel E64 ([ws.getD u 0#64, ws.getD (u + 1) 0#64, ws.getD (u + 2) 0#64, ws.getD (u + 3) 0#64, ws.getD (u + 4) 0#64])).toArray) agg117 siz117 (H20'.get (k := 1) rfl) (off := 0) rfl (by exact bLe rfl) (by exact ext_all rfl), trivial⟩ ?_
  exact ⟨_, rfl, rfl, ((H20'.dropk 1).dropk 0)⟩
set_option maxHeartbeats 4000000 in
theorem next0_hit (b : Nat) (s : Sk) (hs : s.ok) (R : List (Option Nat × Obj)) (w₀ w : World) (H : Hp No w₀ w (skR 66 121 114 b s ++ R)) (kd : Int) (hl : 0 < s.t.l.length) : Calls Tryz.prog 38 [pT b, i64 kd].toArray w (Ret fun v w' => v = .tuple #[.agg #[u64 ((s.t.l).getD 0 tr0).a, u64 ((s.t.l).getD 0 tr0).b, u64 ((s.t.l).getD 0 tr0).c], .nilIface] ∧ ∃ s' : Sk, Hp No w₀ w' (skR 66 121 114 b s' ++ R) ∧ s'.ok ∧ s'.t.l = s.t.l.drop 1 ∧ s'.b = s.b ∧ s'.o = s.o) := by
 let x3 : Array Value := #[u64 0#64, u64 0#64, u64 0#64]
 let x2 : Array Value := #[u64 ((s.t.l).getD 0 tr0).a, u64 ((s.t.l).getD 0 tr0).b, u64 ((s.t.l).getD 0 tr0).c]
 let x1 : Array Value := #[u64 (((s.t.l).getD 0 tr0).a), u64 (((s.t.l).getD 0 tr0).b), u64 (((s.t.l).getD 0 tr0).c)]
 have hct := hs.t.cap
 have hcb := hs.b.cap
 have hco := hs.o.cap
 have H := H.as (L' := (_ :: _ :: _ :: _ :: R)) rfl
 refine enter (n := 33) Tryz.func38 rfl rfl (bLe rfl) ?_
 refine sR ?_
 refine q_alloc (o := .cells x3 66 (0, 0)) H zer66 (by kernel_rfl) ?_
 intro b1 w2 hb1 H3 hE4
 refine sA (.nilIface) rfl ?_
 refine wS ?_
 refine q_alloc (o := .cells x3 66 (0, 0)) H3 zer66 (by kernel_rfl) ?_
 intro b5 w6 hb5 H7 hE8
 refine wend ?_
 refine seqAny ?_
 refine sR ?_
 refine sM (pT b) rfl ?_
 refine sq (r_nilCheck rfl) ?_
 refine sq (r_fieldAddr (off' := 0) fld110_0 (by decide) (b := b) (off := 0) rfl (by omega)) ?_
 refine sq (r_loadC (v := .slice s.t.a s.t.l.length s.t.c) one39 (H7.get (k := 2) rfl) (off := 0) rfl (by rfl)) ?_
 refine sq (r_lenS sli39 (a := s.t.a) (m := s.t.l.length) (c := s.t.c) rfl) ?_
 refine sq ((r_eqlI (a := (s.t.l.length : Nat)) (b := (0 : Int)) rfl rfl).as (v' := .bool false) (by exact congrArg Value.bool (decide_eq_false (by omega)))) ?_
 refine wend ?_
 refine condFalse rfl ?_
 refine skipAny ?_
 refine thenNormal ?_
 refine sR ?_
 refine sM (pT b) rfl ?_
 refine sq (r_nilCheck rfl) ?_
 refine sq (r_fieldAddr (off' := 0) fld110_0 (by decide) (b := b) (off := 0) rfl (by omega)) ?_
 refine sq (r_loadC (v := .slice s.t.a s.t.l.length s.t.c) one39 (H7.get (k := 2) rfl) (off := 0) rfl (by rfl)) ?_
 refine sq (r_idxS (E := ETr) (l := s.t.l) (j := 0) sli39 (H7.rdP (k := 3) rfl hs.t) rfl rfl (by first | rfl | omega | (simp; omega)) (by rfl) (by omega)) ?_
 refine sq (((r_ldS (E := ETr) (l := s.t.l) (j := 0) (v := (s.t.l).getD 0 tr0) fits66 (H7.rdP (k := 3) rfl hs.t) rfl rfl (at_getD (by omega))).as (v' := .agg x1) rfl).as (v' := .agg x2) (by rfl)) ?_
 refine q_alloc (o := .cells x3 66 (0, 0)) H7 zer66 (by kernel_rfl) ?_
 intro b9 w10 hb9 H11 hE12
 refine d_store (k := 0) (v := .agg x2) (cs' := x1) H11 rfl rfl rfl siz66 (by rfl) (oneL rfl) (by exact bLe rfl) (by rfl) ?_
 intro w13 H14 hC15
 have H14' := H14.as (L' := (_ :: _ :: _ :: _ :: _ :: _ :: _ :: R)) rfl
 clear H14
 refine wS ?_
 refine sM (pT b) rfl ?_
 refine sM (pT b) rfl ?_
 refine sq (r_nilCheck rfl) ?_
 refine sq (r_fieldAddr (off' := 0) fld110_0 (by decide) (b := b) (off := 0) rfl (by omega)) ?_
 refine sq (r_loadC (v := .slice s.t.a s.t.l.length s.t.c) one39 (H14'.get (k := 3) rfl) (off := 0) rfl (by rfl)) ?_
 refine sq ((r_sliceS (l := 1) (h := s.t.l.length) sli39 rfl (.inl ⟨_, _, _, rfl, rfl, by first | rfl | omega | (simp; omega)⟩) (.inr ⟨rfl, rfl⟩) (by omega) (by omega)).as (v' := .slice (if s.t.c = 1 then s.t.a else adr s.t.a (1 * 3)) (s.t.l.length - 1) (s.t.c - 1)) (by first | rfl | (congr 1; omega) | (simp; omega) | simp)) ?_
 refine sq (r_nilCheck rfl) ?_
 refine sq (r_fieldAddr (off' := 0) fld110_0 (by decide) (b := b) (off := 0) rfl (by omega)) ?_
 refine d_store (k := 3) (v := .slice (if s.t.c = 1 then s.t.a else adr s.t.a (1 * 3)) (s.t.l.length - 1) (s.t.c - 1)) (cs' := #[.slice (if s.t.c = 1 then s.t.a else adr s.t.a (1 * 3)) (s.t.l.length - 1) (s.t.c - 1), .slice s.b.a s.b.l.length s.b.c, .slice s.o.a s.o.l.length s.o.c]) H14' rfl rfl rfl siz39 (by rfl) (oneL rfl) (by exact bLe rfl) (by rfl) ?_
 intro w16 H17 hC18
 have H17' := H17.as (L' := (_ :: _ :: _ :: _ :: _ :: _ :: _ :: R)) rfl
 clear H17
 refine wS ?_
 refine sq (r_loadA (cs' := x1) agg66 siz66 (H17'.get (k := 0) rfl) (off := 0) rfl (by exact bLe rfl) (by rfl)) ?_
 refine d_store (k := 2) (v := .agg x1) (cs' := x1) H17' rfl rfl rfl siz66 (by rfl) (oneL rfl) (by exact bLe rfl) (by rfl) ?_
 intro w19 H20 hC21
 have H20' := H20.as (L' := (_ :: _ :: _ :: _ :: _ :: _ :: _ :: R)) rfl
 clear H20
 refine sA (.nilIface) rfl ?_
 refine wend ?_
 refine retAny ?_
 refine retG (rs := [.cell 4 66, .tmp 5]) (vs := [.agg x1, .nilIface]) rfl ⟨r_loadA (cs' := x1) agg66 siz66 (H20'.get (k := 2) rfl) (off := 0) rfl (by exact bLe rfl) (by rfl), ⟨rfl, rfl⟩, trivial⟩ ?_
 refine ⟨_, rfl, rfl, { s with t := s.t.cut ETr }, ?_, ⟨Cp.cut_ok hs.t (by omega), hs.b, hs.o⟩, rfl, rfl, rfl⟩
 unfold skR Sk.ob
 dsimp only
 rw [Cp.cut_row (E := ETr) (by omega)]
 unfold Cp.cut
 dsimp only
 rw [List.length_drop]
 exact (((H20'.dropk 2).dropk 1).dropk 0)
set_option maxHeartbeats 4000000 in
theorem take0_hit (b : Nat) (s : Sk) (hs : s.ok) (R : List (Option Nat × Obj)) (w₀ w : World) (H : Hp No w₀ w (skR 66 121 114 b s ++ R)) (hl : 0 < s.t.l.length) : Calls Tryz.prog 18 [pT b].toArray w (Ret fun v w' => v = .tuple #[.agg #[u64 ((s.t.l).getD 0 tr0).a, u64 ((s.t.l).getD 0 tr0).b, u64 ((s.t.l).getD 0 tr0).c], .nilIface] ∧ ∃ s' : Sk, Hp No w₀ w' (skR 66 121 114 b s' ++ R) ∧ s'.ok ∧ s'.t.l = s.t.l.drop 1 ∧ s'.b = s.b ∧ s'.o = s.o) := by
 let x3 : Array Value := #[u64 ((s.t.l).getD 0 tr0).a, u64 ((s.t.l).getD 0 tr0).b, u64 ((s.t.l).getD 0 tr0).c]
 let x1 : Array Value := #[u64 (((s.t.l).getD 0 tr0).a), u64 (((s.t.l).getD 0 tr0).b), u64 (((s.t.l).getD 0 tr0).c)]
 have hct := hs.t.cap
 have hcb := hs.b.cap
 have hco := hs.o.cap
 have H := H.as (L' := (_ :: _ :: _ :: _ :: R)) rfl
 refine enter (n := 10) Tryz.func18 rfl rfl (bLe rfl) ?_
 refine sR ?_
 refine q_alloc (o := .cells #[u64 0#64, u64 0#64, u64 0#64] 66 (0, 0)) H zer66 (by kernel_rfl) ?_
 intro b1 w2 hb1 H3 hE4
 let x2 := rc b1 #[u64 0#64, u64 0#64, u64 0#64] 66
 refine sA (.nilIface) rfl ?_
 refine wS ?_
 refine sM (pT b) rfl ?_
 refine sq (r_nilCheck rfl) ?_
 refine sq (r_fieldAddr (off' := 0) fld114_0 (by decide) (b := b) (off := 0) rfl (by omega)) ?_
 have H5 := (Hp.midQ (X := [x2]) (A := skR 66 121 114 b s) (Y := R) H3).as (L' := skR 66 121 114 b s ++ ([x2] ++ R)) rfl
 refine c_call (vs := [pT b, i64 0]) call38 rfl (next0_hit b s hs ([x2] ++ R) w₀ w2 H5 (0 : Int) hl) ?_
 rintro _ w6 ⟨rfl, s8, HN9, hok10, hd11, he12, he13⟩
 have H14 := (Hp.midQ (X := skR 66 121 114 b s8) (A := [x2]) (Y := R) HN9).as (L' := (_ :: (skR 66 121 114 b s8 ++ R))) rfl
 refine sq (r_extract (vs := #[.agg x3, .nilIface]) rfl rfl) ?_
 refine sq (r_extract (vs := #[.agg x3, .nilIface]) rfl rfl) ?_
 refine d_store (k := 0) (v := .agg x3) (cs' := x1) H14 rfl rfl rfl siz66 (by rfl) (oneL rfl) (by exact bLe rfl) (by rfl) ?_
 intro w15 H16 hC17
 have H16' := H16.as (L' := (_ :: (skR 66 121 114 b s8 ++ R))) rfl
 clear H16
 refine sA (.nilIface) rfl ?_
 refine wend ?_
 refine retAny ?_
 refine retG (rs := [.cell 2 66, .tmp 3]) (vs := [.agg x1, .nilIface]) rfl ⟨r_loadA (cs' := x1) agg66 siz66 (H16'.get (k := 0) rfl) (off := 0) rfl (by exact bLe rfl) (by rfl), ⟨rfl, rfl⟩, trivial⟩ ?_
 exact ⟨_, rfl, rfl, s8, (H16'.dropk 0), hok10, hd11, he12, he13⟩
set_option maxHeartbeats 4000000 in
theorem next1_hit (b : Nat) (s : Sk) (hs : s.ok) (R : List (Option Nat × Obj)) (w₀ w : World) (H : Hp No w₀ w (skR 66 121 114 b s ++ R)) (kd : Int) (hl : 0 < s.b.l.length) : Calls Tryz.prog 38 [.pointer (some ⟨b, 1, none⟩), i64 kd].toArray w (Ret fun v w' => v = .tuple #[.agg #[u64 ((s.b.l).getD 0 tr0).a, u64 ((s.b.l).getD 0 tr0).b, u64 ((s.b.l).getD 0 tr0).c], .nilIface] ∧ ∃ s' : Sk, Hp No w₀ w' (skR 66 121 114 b s' ++ R) ∧ s'.ok ∧ s'.b.l = s.b.l.drop 1 ∧ s'.t = s.t ∧ s'.o = s.o) := by
 let x4 : Array Value := #[u64 0#64, u64 0#64, u64 0#64]
 let x3 : Array Value := #[u64 ((s.b.l).getD 0 tr0).a, u64 ((s.b.l).getD 0 tr0).b, u64 ((s.b.l).getD 0 tr0).c]
 let x2 : Value := .pointer (some ⟨b, 1, none⟩)
 let x1 : Array Value := #[u64 (((s.b.l).getD 0 tr0).a), u64 (((s.b.l).getD 0 tr0).b), u64 (((s.b.l).getD 0 tr0).c)]
 have hct := hs.t.cap
 have hcb := hs.b.cap
 have hco := hs.o.cap
 have H := H.as (L' := (_ :: _ :: _ :: _ :: R)) rfl
 refine enter (n := 33) Tryz.func38 rfl rfl (bLe rfl) ?_
 refine sR ?_
 refine q_alloc (o := .cells x4 66 (0, 0)) H zer66 (by kernel_rfl) ?_
 intro b1 w2 hb1 H3 hE4
 refine sA (.nilIface) rfl ?_
 refine wS ?_
 refine q_alloc (o := .cells x4 66 (0, 0)) H3 zer66 (by kernel_rfl) ?_
 intro b5 w6 hb5 H7 hE8
 refine wend ?_
 refine seqAny ?_
 refine sR ?_
 refine sM x2 rfl ?_
 refine sq (r_nilCheck rfl) ?_
 refine sq (r_fieldAddr (off' := 1) fld110_0 (by decide) (b := b) (off := 1) rfl (by omega)) ?_
 refine sq (r_loadC (v := .slice s.b.a s.b.l.length s.b.c) one39 (H7.get (k := 2) rfl) (off := 1) rfl (by rfl)) ?_
 refine sq (r_lenS sli39 (a := s.b.a) (m := s.b.l.length) (c := s.b.c) rfl) ?_
 refine sq ((r_eqlI (a := (s.b.l.length : Nat)) (b := (0 : Int)) rfl rfl).as (v' := .bool false) (by exact congrArg Value.bool (decide_eq_false (by omega)))) ?_
 refine wend ?_
 refine condFalse rfl ?_
 refine skipAny ?_
 refine thenNormal ?_
 refine sR ?_
 refine sM x2 rfl ?_
 refine sq (r_nilCheck rfl) ?_
 refine sq (r_fieldAddr (off' := 1) fld110_0 (by decide) (b := b) (off := 1) rfl (by omega)) ?_
 refine sq (r_loadC (v := .slice s.b.a s.b.l.length s.b.c) one39 (H7.get (k := 2) rfl) (off := 1) rfl (by rfl)) ?_
 refine sq (r_idxS (E := ETr) (l := s.b.l) (j := 0) sli39 (H7.rdP (k := 4) rfl hs.b) rfl rfl (by first | rfl | omega | (simp; omega)) (by rfl) (by omega)) ?_
 refine sq (((r_ldS (E := ETr) (l := s.b.l) (j := 0) (v := (s.b.l).getD 0 tr0) fits66 (H7.rdP (k := 4) rfl hs.b) rfl rfl (at_getD (by omega))).as (v' := .agg x1) rfl).as (v' := .agg x3) (by rfl)) ?_
 refine q_alloc (o := .cells x4 66 (0, 0)) H7 zer66 (by kernel_rfl) ?_
 intro b9 w10 hb9 H11 hE12
 refine d_store (k := 0) (v := .agg x3) (cs' := x1) H11 rfl rfl rfl siz66 (by rfl) (oneL rfl) (by exact bLe rfl) (by rfl) ?_
 intro w13 H14 hC15
 have H14' := H14.as (L' := (_ :: _ :: _ :: _ :: _ :: _ :: _ :: R)) rfl
 clear H14
 refine wS ?_
 refine sM x2 rfl ?_
 refine sM x2 rfl ?_
 refine sq (r_nilCheck rfl) ?_
 refine sq (r_fieldAddr (off' := 1) fld110_0 (by decide) (b := b) (off := 1) rfl (by omega)) ?_
 refine sq (r_loadC (v := .slice s.b.a s.b.l.length s.b.c) one39 (H14'.get (k := 3) rfl) (off := 1) rfl (by rfl)) ?_
 refine sq ((r_sliceS (l := 1) (h := s.b.l.length) sli39 rfl (.inl ⟨_, _, _, rfl, rfl, by first | rfl | omega | (simp; omega)⟩) (.inr ⟨rfl, rfl⟩) (by omega) (by omega)).as (v' := .slice (if s.b.c = 1 then s.b.a else adr s.b.a (1 * 3)) (s.b.l.length - 1) (s.b.c - 1)) (by first | rfl | (congr 1; omega) | (simp; omega) | simp)) ?_
 refine sq (r_nilCheck rfl) ?_
 refine sq (r_fieldAddr (off' := 1) fld110_0 (by decide) (b := b) (off := 1) rfl (by omega)) ?_
 refine d_store (k := 3) (v := .slice (if s.b.c = 1 then s.b.a else adr s.b.a (1 * 3)) (s.b.l.length - 1) (s.b.c - 1)) (cs' := #[.slice s.t.a s.t.l.length s.t.c, .slice (if s.b.c = 1 then s.b.a else adr s.b.a (1 * 3)) (s.b.l.length - 1) (s.b.c - 1), .slice s.o.a s.o.l.length s.o.c]) H14' rfl rfl rfl siz39 (by rfl) (oneL rfl) (by exact bLe rfl) (by rfl) ?_
 intro w16 H17 hC18
 have H17' := H17.as (L' := (_ :: _ :: _ :: _ :: _ :: _ :: _ :: R)) rfl
 clear H17
 refine wS ?_
 refine sq (r_loadA (cs' := x1) agg66 siz66 (H17'.get (k := 0) rfl) (off := 0) rfl (by exact bLe rfl) (by rfl)) ?_
 refine d_store (k := 2) (v := .agg x1) (cs' := x1) H17' rfl rfl rfl siz66 (by rfl) (oneL rfl) (by exact bLe rfl) (by rfl) ?_
 intro w19 H20 hC21
 have H20' := H20.as (L' := (_ :: _ :: _ :: _ :: _ :: _ :: _ :: R)) rfl
 clear H20
 refine sA (.nilIface) rfl ?_
 refine wend ?_
 refine retAny ?_
 refine retG (rs := [.cell 4 66, .tmp 5]) (vs := [.agg x1, .nilIface]) rfl ⟨r_loadA (cs' := x1) agg66 siz66 (H20'.get (k := 2) rfl) (off := 0) rfl (by exact bLe rfl) (by rfl), ⟨rfl, rfl⟩, trivial⟩ ?_
 refine ⟨_, rfl, rfl, { s with b := s.b.cut ETr }, ?_, ⟨hs.t, Cp.cut_ok hs.b (by omega), hs.o⟩, rfl, rfl, rfl⟩
 unfold skR Sk.ob
 dsimp only
 rw [Cp.cut_row (E := ETr) (by omega)]
 unfold Cp.cut
 dsimp only
 rw [List.length_drop]
 exact (((H20'.dropk 2).dropk 1).dropk 0)
set_option maxHeartbeats 4000000 in
theorem take1_hit (b : Nat) (s : Sk) (hs : s.ok) (R : List (Option Nat × Obj)) (w₀ w : World) (H : Hp No w₀ w (skR 66 121 114 b s ++ R)) (hl : 0 < s.b.l.length) : Calls Tryz.prog 19 [pT b].toArray w (Ret fun v w' => v = .tuple #[.agg #[u64 ((s.b.l).getD 0 tr0).a, u64 ((s.b.l).getD 0 tr0).b, u64 ((s.b.l).getD 0 tr0).c], .nilIface] ∧ ∃ s' : Sk, Hp No w₀ w' (skR 66 121 114 b s' ++ R) ∧ s'.ok ∧ s'.b.l = s.b.l.drop 1 ∧ s'.t = s.t ∧ s'.o = s.o) := by
 let x3 : Array Value := #[u64 ((s.b.l).getD 0 tr0).a, u64 ((s.b.l).getD 0 tr0).b, u64 ((s.b.l).getD 0 tr0).c]
 let x1 : Array Value := #[u64 (((s.b.l).getD 0 tr0).a), u64 (((s.b.l).getD 0 tr0).b), u64 (((s.b.l).getD 0 tr0).c)]
 have hct := hs.t.cap
 have hcb := hs.b.cap
 have hco := hs.o.cap
 have H := H.as (L' := (_ :: _ :: _ :: _ :: R)) rfl
 refine enter (n := 10) Tryz.func19 rfl rfl (bLe rfl) ?_
 refine sR ?_
 refine q_alloc (o := .cells #[u64 0#64, u64 0#64, u64 0#64] 66 (0, 0)) H zer66 (by kernel_rfl) ?_
 intro b1 w2 hb1 H3 hE4
 let x2 := rc b1 #[u64 0#64, u64 0#64, u64 0#64] 66
 refine sA (.nilIface) rfl ?_
 refine wS ?_
 refine sM (pT b) rfl ?_
 refine sq (r_nilCheck rfl) ?_
 refine sq (r_fieldAddr (off' := 1) fld114_1 (by decide) (b := b) (off := 0) rfl (by omega)) ?_
 have H5 := (Hp.midQ (X := [x2]) (A := skR 66 121 114 b s) (Y := R) H3).as (L' := skR 66 121 114 b s ++ ([x2] ++ R)) rfl
 refine c_call (vs := [.pointer (some ⟨b, 1, none⟩), i64 1]) call38 rfl (next1_hit b s hs ([x2] ++ R) w₀ w2 H5 (1 : Int) hl) ?_
 rintro _ w6 ⟨rfl, s8, HN9, hok10, hd11, he12, he13⟩
 have H14 := (Hp.midQ (X := skR 66 121 114 b s8) (A := [x2]) (Y := R) HN9).as (L' := (_ :: (skR 66 121 114 b s8 ++ R))) rfl
 refine sq (r_extract (vs := #[.agg x3, .nilIface]) rfl rfl) ?_
 refine sq (r_extract (vs := #[.agg x3, .nilIface]) rfl rfl) ?_
 refine d_store (k := 0) (v := .agg x3) (cs' := x1) H14 rfl rfl rfl siz66 (by rfl) (oneL rfl) (by exact bLe rfl) (by rfl) ?_
 intro w15 H16 hC17
 have H16' := H16.as (L' := (_ :: (skR 66 121 114 b s8 ++ R))) rfl
 clear H16
 refine sA (.nilIface) rfl ?_
 refine wend ?_
 refine retAny ?_
 refine retG (rs := [.cell 2 66, .tmp 3]) (vs := [.agg x1, .nilIface]) rfl ⟨r_loadA (cs' := x1) agg66 siz66 (H16'.get (k := 0) rfl) (off := 0) rfl (by exact bLe rfl) (by rfl), ⟨rfl, rfl⟩, trivial⟩ ?_
 exact ⟨_, rfl, rfl, s8, (H16'.dropk 0), hok10, hd11, he12, he13⟩
end Go.Proofs.YtohngnahcgbfmaaGreatDoor.Co
