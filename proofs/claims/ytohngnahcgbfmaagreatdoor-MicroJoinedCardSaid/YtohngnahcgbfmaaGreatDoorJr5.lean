/- What the claim has need of: Corr2, Mi7, Mi8. -/
import Derived.Test.YtohngnahcgbfmaaGreatDoorJr4
namespace Go.Proofs.YtohngnahcgbfmaaGreatDoor.Co
open Go Go.Proofs.YtohngnahcgbfmaaGreatDoor.Vc Go.Proofs.YtohngnahcgbfmaaGreatDoor.Er
set_option linter.unusedVariables false
theorem agg38 : isAgg' Tryz.prog 38 = true := by kernel_rfl
theorem agg83 : isAgg' Tryz.prog 83 = true := by kernel_rfl
theorem arr119 : arr Tryz.prog 119 = some (2, 2) := by kernel_rfl
theorem arr38 : arr Tryz.prog 38 = some (2, 1) := by kernel_rfl
theorem arr83 : arr Tryz.prog 83 = some (2, 1) := by kernel_rfl
theorem byt121 : byt Tryz.prog 121 = some 40 := by kernel_rfl
theorem byt66 : byt Tryz.prog 66 = some 24 := by kernel_rfl
theorem call17 : callable Tryz.prog 17 = true := by kernel_rfl
theorem call40 : callable Tryz.prog 40 = true := by kernel_rfl
theorem fits3 : Fits Tryz.prog 3 EI := fitsI (by kernel_rfl) (by kernel_rfl)
theorem fits34 : Fits Tryz.prog 34 E64 := fits64 (by kernel_rfl) (by kernel_rfl)
theorem fld121_0 : fld Tryz.prog 121 0 = some (0, 4, 119) := by kernel_rfl
theorem one37 : isOne Tryz.prog 37 = true := by kernel_rfl
theorem pls114 : pls Tryz.prog 114 = some #[(0, 1), (1, 1), (2, 1)] := by kernel_rfl
theorem pls121 : pls Tryz.prog 121 = some #[(0, 4), (4, 1)] := by kernel_rfl
theorem pls66 : pls Tryz.prog 66 = some #[(0, 1), (1, 1), (2, 1)] := by kernel_rfl
theorem siz38 : siz Tryz.prog 38 = some 2 := by kernel_rfl
theorem siz83 : siz Tryz.prog 83 = some 2 := by kernel_rfl
theorem sli100 : sli Tryz.prog 100 = some (3, 1) := by kernel_rfl
theorem zer114 : zer Tryz.prog 114 = some (.agg #[sN0, sN0, sN0]) := by kernel_rfl
theorem zer119 : zer Tryz.prog 119 = some (.agg (List.replicate 4 (.int .u64 0)).toArray) := by kernel_rfl
theorem zer3 : zer Tryz.prog 3 = some (.int .i64 0) := by kernel_rfl
theorem zer38 : zer Tryz.prog 38 = some (.agg (List.replicate 2 (.pointer none)).toArray) := by kernel_rfl
theorem zer83 : zer Tryz.prog 83 = some (.agg (List.replicate 2 (.int .u64 0)).toArray) := by kernel_rfl
set_option maxHeartbeats 4000000 in
theorem deal_ok (b : Nat) (key : Option Nat) (c : Nat) (sp : List Value) (ws : List (BitVec 64)) (hSw : Sl E64 key ws c sp) (hlen : ws.length ≤ 140737488355328) (n1 n2 n3 : Nat) (hn1 : n1 ≤ 65536) (hn2 : n2 ≤ 65536) (hn3 : n3 ≤ 65536) (hfit : 5 * (n1 + n2 + n3) ≤ ws.length) (R : List (Option Nat × Obj)) (w₀ w : World) (H : Hp No w₀ w ((rc b #[.slice (ownA key) ws.length c, .pointer none, iN ws.length, iN 0] 96) :: (key, sob E64 34 ws sp) :: R)) : Calls Tryz.prog 21 [pT b, iN n1, iN n2, iN n3].toArray w (Ret fun v w' => ∃ (b1 b2 : Nat) (s1 s2 : Sk), v = .tuple #[.agg #[pT b1, pT b2], .nilIface] ∧ s1.ok ∧ s2.ok ∧ Dealt ws n1 n2 n3 s1 s2 ∧ Hp No w₀ w' (skR 66 121 114 b1 s1 ++ (skR 66 121 114 b2 s2 ++ ((rc b #[.slice (ownA key) ws.length c, .pointer none, iN ws.length, iN (5 * (n1 + n2) + 5 * n3)] 96) :: (key, sob E64 34 ws sp) :: R)))) := by
 let x37 : Array Value := #[.pointer none, .pointer none]
 let x31 : Array Value := #[sN0, sN0, sN0]
 let x9 : Option Nat × Obj := (key, sob E64 34 ws sp)
 have hin : ∀ q, q < 3 → 0 ≤ ([((n1 : Nat) : Int), ((n2 : Nat) : Int), ((n3 : Nat) : Int)] : List Int).getD q 0 ∧ ([((n1 : Nat) : Int), ((n2 : Nat) : Int), ((n3 : Nat) : Int)] : List Int).getD q 0 ≤ 65536 := by
  intro q hq
  rcases (show q = 0 ∨ q = 1 ∨ q = 2 by omega) with rfl | rfl | rfl <;> exact ⟨by simp, by simp; omega⟩
 refine enter (n := 230) Tryz.func21 rfl rfl (bLe rfl) ?_
 refine sR ?_
 refine q_alloc (o := .cells x37 38 (0, 0)) H zer38 (by kernel_rfl) ?_
 intro b1 w2 hb1 H3 hE4
 let x3 := rc b1 x37 38
 refine sA (.nilIface) rfl ?_
 refine wend ?_
 refine seqAny ?_
 refine sR ?_
 refine sM (iN n1) rfl ?_
 refine sM (iN n2) rfl ?_
 refine sM (iN n3) rfl ?_
 refine q_buildSlice (E := EI) (l := ([(n1 : Nat), (n2 : Nat), (n3 : Nat)] : List Int)) H3 sli100 zer3 (bLe rfl) (ps := [(0, iN n1), (1, iN n2), (2, iN n3)]) rfl (by exact fillAll rfl rfl) rfl ?_
 intro b5 w7 hS6 H8 hE9
 refine sq (r_lenS sli100 (a := ownA (some b5)) (m := 3) (c := 3) rfl) ?_
 refine sM (i64 0) rfl ?_
 refine wend ?_
 refine blockAny ?_
 refine loopAny (σ := Nat) (fun q => [(0, pT b), (1, iN n1), (2, iN n2), (3, iN n3), (8, pT b1), (9, .nilIface), (21, .slice (ownA (some b5)) 3 3), (22, iN 3), (23, iN q)]) (fun q w' => q ≤ 3 ∧ Hp No w₀ w' (((some b5), sob EI 3 ([(n1 : Nat), (n2 : Nat), (n3 : Nat)] : List Int) ([])) :: x3 :: (rc b #[.slice (ownA key) ws.length c, .pointer none, iN ws.length, iN 0] 96) :: x9 :: R)) (fun q => 3 - q) (0) ?_ ?_ ?_
 ·exact ⟨rfl, rfl, rfl, rfl, rfl, rfl, rfl, rfl, rfl, trivial⟩
 ·exact ⟨Nat.zero_le _, H8⟩
 rintro q ρ w10 ⟨hq, HQ⟩
 refine sR ?_
 refine sq (r_lssI (a := (q : Nat)) (b := (3 : Nat)) rfl rfl) ?_
 refine wend ?_
 refine seqAny ?_
 refine condProp (((q : Nat) : Int) < (3 : Nat)) rfl (fun c24 => ?_) (fun c24 => ?_)
 ·refine skipAny ?_
  refine thenNormal ?_
  refine seqAny ?_
  refine blockAny ?_
  refine sR ?_
  refine sq (r_idxS (E := EI) (l := ([(n1 : Nat), (n2 : Nat), (n3 : Nat)] : List Int)) (j := q) sli100 (HQ.rd (k := 0) rfl hS6) rfl rfl (by first | rfl | omega | (simp; omega)) (by rfl) (by show q < 3; omega)) ?_
  refine sq (r_ldS (E := EI) (l := ([(n1 : Nat), (n2 : Nat), (n3 : Nat)] : List Int)) (j := q) (v := (([(n1 : Nat), (n2 : Nat), (n3 : Nat)] : List Int)).getD q 0) fits3 (HQ.rd (k := 0) rfl hS6) rfl rfl (at_getD (l := ([((n1 : Nat) : Int), ((n2 : Nat) : Int), ((n3 : Nat) : Int)] : List Int)) (j := q) (by show q < 3; omega))) ?_
  refine sA (i64 ((([(n1 : Nat), (n2 : Nat), (n3 : Nat)] : List Int)).getD q 0)) rfl ?_
  refine wS ?_
  refine sM (i64 ((([(n1 : Nat), (n2 : Nat), (n3 : Nat)] : List Int)).getD q 0)) rfl ?_
  refine sq ((r_lssI (a := (([(n1 : Nat), (n2 : Nat), (n3 : Nat)] : List Int)).getD q 0) (b := (0 : Int)) rfl rfl).as (v' := .bool false) (by exact congrArg Value.bool (decide_eq_false (by have := hin q (by omega); omega)))) ?_
  refine sM (.bool false) rfl ?_
  refine sqAny (v := i64 ((([(n1 : Nat), (n2 : Nat), (n3 : Nat)] : List Int)).getD q 0)) (w' := w10) (wantedSome (d' := 29) (b := false) rfl rfl rfl) (r_move (v := i64 ((([(n1 : Nat), (n2 : Nat), (n3 : Nat)] : List Int)).getD q 0)) rfl) ?_
  refine sqAny (v := .bool false) (w' := w10) (wantedSome (d' := 29) (b := false) rfl rfl rfl) ((r_gtrI (a := (([(n1 : Nat), (n2 : Nat), (n3 : Nat)] : List Int)).getD q 0) (b := (65536 : Int)) rfl rfl).as (v' := .bool false) (by exact congrArg Value.bool (decide_eq_false (by have := hin q (by omega); omega)))) ?_
  refine sq (r_pickF (v := .bool false) rfl rfl) ?_
  refine wend ?_
  refine condFalse rfl ?_
  refine skipAny ?_
  refine blockNormal ?_
  refine thenNormal ?_
  refine oneRegion ?_
  refine sq (r_addI (a := (q : Nat)) (b := (1 : Int)) rfl rfl (by omega)) ?_
  refine sM (i64 ((q : Nat) + (1 : Int))) rfl ?_
  refine wnil ?_
  refine thenNormal ?_
  exact ⟨q + 1, _, rfl, ⟨rfl, rfl, rfl, rfl, rfl, rfl, rfl, rfl, rfl, trivial⟩, ⟨by omega, HQ⟩, by show 3 - (q + 1) < 3 - q; omega⟩
 ·obtain rfl : q = 3 := by omega
  refine exitAny ?_
  refine thenExit ?_
  refine thenExit ?_
  refine blockHere ?_
  refine thenNormal ?_
  refine seqAny ?_
  refine sR ?_
  refine sM (pT b) rfl ?_
  refine c_call (vs := [pT b]) call17 rfl (left_ok b ws.length 0 (.slice (ownA key) ws.length c) (.pointer none) w10 (HQ.get (k := 2) rfl) (by omega) (by omega)) ?_
  rintro _ w12 ⟨rfl, hE13⟩
  have H14 := HQ.ext hE13
  refine sM (iN n1) rfl ?_
  refine sM (iN n2) rfl ?_
  refine sq (r_addI (a := (n1 : Nat)) (b := (n2 : Nat)) rfl rfl (by omega)) ?_
  refine sM (iN n3) rfl ?_
  refine sq (r_addI (a := (n1 : Nat) + (n2 : Nat)) (b := (n3 : Nat)) rfl rfl (by omega)) ?_
  refine sq (r_mulI (a := (5 : Int)) (b := ((n1 : Nat) + (n2 : Nat)) + (n3 : Nat)) rfl rfl (by omega)) ?_
  refine sq ((r_lssI (a := (ws.length : Nat) - (0 : Nat)) (b := (5 : Int) * (((n1 : Nat) + (n2 : Nat)) + (n3 : Nat))) rfl rfl).as (v' := .bool false) (by exact congrArg Value.bool (decide_eq_false (by omega)))) ?_
  refine wend ?_
  refine condFalse rfl ?_
  refine skipAny ?_
  refine thenNormal ?_
  refine sR ?_
  refine sq (r_build (cs' := x31) (ps := []) zer114 pls114 rfl (by rfl)) ?_
  refine q_box (v := .agg x31) (o := .cells x31 114 (0, 0)) H14 rfl (by rfl) ?_
  intro b15 w16 hb15 H17 hE18
  let x32 : Option Addr := some ⟨b15, 1, none⟩
  let x22 : Option Addr := some ⟨b15, 2, none⟩
  refine sq (r_build (cs' := x31) (ps := []) zer114 pls114 rfl (by rfl)) ?_
  refine q_box (v := .agg x31) (o := .cells x31 114 (0, 0)) H17 rfl (by rfl) ?_
  intro b19 w20 hb19 H21 hE22
  let x36 : Option Addr := some ⟨b19, 1, none⟩
  let x30 : Array Value := #[pT b15, pT b19]
  let x23 : Option Addr := some ⟨b19, 2, none⟩
  refine sq (r_buildA (cs' := x30) (ps := [(0, pT b15), (1, pT b19)]) zer38 arr38 rfl (by rfl)) ?_
  refine q_alloc (o := .cells x37 38 (0, 0)) H21 zer38 (by kernel_rfl) ?_
  intro b23 w24 hb23 H25 hE26
  let x21 : Option Addr := some ⟨b23, 1, none⟩
  let x7 := rc b23 x30 38
  refine d_store (k := 0) (v := .agg x30) (cs' := x30) H25 rfl rfl rfl siz38 (by rfl) (oneL rfl) (by exact bLe rfl) (by rfl) ?_
  intro w27 H28 hC29
  have H28' := H28.as (L' := (_ :: _ :: _ :: _ :: _ :: _ :: _ :: R)) rfl
  clear H28
  refine wend ?_
  refine seqAny ?_
  refine sR ?_
  refine sM (iN n1) rfl ?_
  refine sM (i64 0) rfl ?_
  refine wend ?_
  refine blockAny ?_
  refine loopAny (σ := Nat × Option Nat × Nat × List Value × Option Nat × Nat × List Value) (fun (zi, kyta, ccta, zzta, kytb, cctb, zztb) => [(0, pT b), (1, iN n1), (2, iN n2), (3, iN n3), (8, pT b1), (9, .nilIface), (12, pT b23), (57, iN n1), (58, iN zi)]) (fun (zi, kyta, ccta, zzta, kytb, cctb, zztb) w' => (zi ≤ n1 ∧ Sl ETr kyta (rowsOf (trA ws) 0 zi) ccta zzta ∧ Sl ETr kytb (rowsOf (trB ws) 0 zi) cctb zztb) ∧ Hp No w₀ w' (x7 :: (rc b15 #[.slice (ownA kyta) zi ccta, sN0, sN0] 114) :: (rc b19 #[.slice (ownA kytb) zi cctb, sN0, sN0] 114) :: (kyta, sob ETr 66 (rowsOf (trA ws) 0 zi) zzta) :: (kytb, sob ETr 66 (rowsOf (trB ws) 0 zi) zztb) :: x3 :: (rc b #[.slice (ownA key) ws.length c, .pointer none, iN ws.length, iN (0 + 5 * zi)] 96) :: x9 :: R)) (fun (zi, kyta, ccta, zzta, kytb, cctb, zztb) => n1 - zi) ((0, none, 0, [], none, 0, [])) ?_ ?_ ?_
  ·exact ⟨rfl, rfl, rfl, rfl, rfl, rfl, rfl, rfl, rfl, trivial⟩
  rw [show 0 = 0 + 5 * 0 by omega] at H28'
  ·exact ⟨⟨Nat.zero_le _, Sl.none, Sl.none⟩, (((H28'.nil (sob ETr 66 [] [])).nil (sob ETr 66 [] [])).pick 9 [2, 4, 3, 1, 0, 6, 7, 8] (by decide) (by decide))⟩
  rintro ⟨zi, kyta, ccta, zzta, kytb, cctb, zztb⟩ ρ w30 ⟨⟨hzi, hkyta, hkytb⟩, HL0⟩
  let x45 : Option Nat × Obj := (kyta, sob ETr 66 (rowsOf (trA ws) 0 zi) zzta)
  let x39 := rc b15 #[.slice (ownA kyta) zi ccta, sN0, sN0] 114
  let x35 : Array Value := #[u64 (ws.getD (0 + 5 * zi) 0#64), u64 (ws.getD ((0 + 5 * zi) + 2) 0#64), u64 (ws.getD ((0 + 5 * zi) + 4) 0#64)]
  let x27 : Option Nat × Obj := (kytb, sob ETr 66 (rowsOf (trB ws) 0 zi) zztb)
  let x17 := rc b19 #[.slice (ownA kytb) zi cctb, sN0, sN0] 114
  let x11 : Array Value := #[u64 (ws.getD ((0 + 5 * zi) + 1) 0#64), u64 (ws.getD ((0 + 5 * zi) + 3) 0#64), u64 ((((ws.getD (0 + 5 * zi) 0#64) + (ws.getD ((0 + 5 * zi) + 1) 0#64)) * ((ws.getD ((0 + 5 * zi) + 2) 0#64) + (ws.getD ((0 + 5 * zi) + 3) 0#64))) - (ws.getD ((0 + 5 * zi) + 4) 0#64))]
  refine sR ?_
  refine sq (r_lssI (a := (zi : Nat)) (b := (n1 : Nat)) rfl rfl) ?_
  refine wend ?_
  refine seqAny ?_
  refine condProp (((zi : Nat) : Int) < (n1 : Nat)) rfl (fun c59 => ?_) (fun c59 => ?_)
  ·refine skipAny ?_
   refine thenNormal ?_
   refine seqAny ?_
   refine blockAny ?_
   refine sR ?_
   refine sM (pT b) rfl ?_
   have H32 := ((HL0.pick 8 [6, 7, 0, 1, 2, 3, 4, 5] (by decide) (by decide))).as (L' := (_ :: _ :: _)) rfl
   refine c_call (vs := [pT b]) call40 rfl (five_ok b key c sp ws hSw hlen (0 + 5 * zi) (by omega) (x7 :: x39 :: x17 :: x45 :: x27 :: x3 :: R) w₀ w30 H32) ?_
   rintro _ w33 ⟨rfl, HN35⟩
   have H36 := HN35.as (L' := (_ :: _ :: _ :: _ :: _ :: _ :: _ :: _ :: R)) rfl
   refine q_alloc (o := .cells (cel E64 (List.replicate 5 0#64)).toArray 117 (0, 0)) H36 zer117 (by kernel_rfl) ?_
   intro b37 w38 hb37 H39 hE40
   let x5 := re b37 E64 ([ws.getD (0 + 5 * zi) 0#64, ws.getD ((0 + 5 * zi) + 1) 0#64, ws.getD ((0 + 5 * zi) + 2) 0#64, ws.getD ((0 + 5 * zi) + 3) 0#64, ws.getD ((0 + 5 * zi) + 4) 0#64]) 117
   refine d_store (k := 0) (v := .agg (cel E64 [ws.getD (0 + 5 * zi) 0#64, ws.getD ((0 + 5 * zi) + 1) 0#64, ws.getD ((0 + 5 * zi) + 2) 0#64, ws.getD ((0 + 5 * zi) + 3) 0#64, ws.getD ((0 + 5 * zi) + 4) 0#64]).toArray) (cs' := (cel E64 ([ws.getD (0 + 5 * zi) 0#64, ws.getD ((0 + 5 * zi) + 1) 0#64, ws.getD ((0 + 5 * zi) + 2) 0#64, ws.getD ((0 + 5 * zi) + 3) 0#64, ws.getD ((0 + 5 * zi) + 4) 0#64])).toArray) H39 rfl rfl rfl siz117 (by exact celSize (by first | rfl | (show _ * 1 = _; omega))) (by exact celOne _) (by rw [List.size_toArray, cel_length]; show _ ≤ _ * 1; first | omega | (simp only [List.length_set]; omega) | exact bLe rfl | (simp <;> omega)) (by exact putAll (by first | rfl | omega | (simp <;> omega))) ?_
   intro w41 H42 hC43
   have H42' := H42.as (L' := (_ :: _ :: _ :: _ :: _ :: _ :: _ :: _ :: _ :: R)) rfl
   clear H42
   refine wend ?_
   refine seqAny ?_
   refine drawC (m := 21) [0, 1, 0, 4, 12, 28, 60, 124, 0, 256, 0, 1024, 0, 4096, 16128, 32512, 65532, 131071, 262143, 524287, 1048575] [15, 16, 20] (fun q vs w' => match q, vs with | 0, [] => Hp No w₀ w' (x5 :: (rc b #[.slice (ownA key) ws.length c, .pointer none, iN ws.length, iN ((0 + 5 * zi) + 5)] 96) :: x9 :: x7 :: x39 :: x17 :: x45 :: x27 :: x3 :: R) | 1, [v0] => ∃ (b47 : Nat), v0 = .slice (ownA (some b47)) 1 1 ∧ Sl ETr (some b47) ([⟨ws.getD (0 + 5 * zi) 0#64, ws.getD ((0 + 5 * zi) + 2) 0#64, ws.getD ((0 + 5 * zi) + 4) 0#64⟩] : List Tr) 1 ([]) ∧ Hp No w₀ w' (((some b47), sob ETr 66 ([⟨ws.getD (0 + 5 * zi) 0#64, ws.getD ((0 + 5 * zi) + 2) 0#64, ws.getD ((0 + 5 * zi) + 4) 0#64⟩] : List Tr) ([])) :: x5 :: (rc b #[.slice (ownA key) ws.length c, .pointer none, iN ws.length, iN ((0 + 5 * zi) + 5)] 96) :: x9 :: x7 :: x39 :: x17 :: x45 :: x27 :: x3 :: R) | 2, [v0, v1] => ∃ (b47 : Nat) (key55 : Option Nat) (c56 : Nat) (sp57 : List Value), v0 = .slice (ownA (some b47)) 1 1 ∧ v1 = .slice (ownA key55) (zi + 1) c56 ∧ Sl ETr (some b47) ([⟨ws.getD (0 + 5 * zi) 0#64, ws.getD ((0 + 5 * zi) + 2) 0#64, ws.getD ((0 + 5 * zi) + 4) 0#64⟩] : List Tr) 1 ([]) ∧ Sl ETr key55 (rowsOf (trA ws) 0 (zi + 1)) c56 sp57 ∧ Hp No w₀ w' (((some b47), sob ETr 66 ([⟨ws.getD (0 + 5 * zi) 0#64, ws.getD ((0 + 5 * zi) + 2) 0#64, ws.getD ((0 + 5 * zi) + 4) 0#64⟩] : List Tr) ([])) :: x5 :: (rc b #[.slice (ownA key) ws.length c, .pointer none, iN ws.length, iN ((0 + 5 * zi) + 5)] 96) :: x9 :: x7 :: x39 :: x17 :: (key55, sob ETr 66 (rowsOf (trA ws) 0 (zi + 1)) sp57) :: x27 :: x3 :: R) | 3, [v0, v1, _] => ∃ (b47 : Nat) (key55 : Option Nat) (c56 : Nat) (sp57 : List Value), v0 = .slice (ownA (some b47)) 1 1 ∧ v1 = .slice (ownA key55) (zi + 1) c56 ∧ True ∧ Sl ETr (some b47) ([⟨ws.getD (0 + 5 * zi) 0#64, ws.getD ((0 + 5 * zi) + 2) 0#64, ws.getD ((0 + 5 * zi) + 4) 0#64⟩] : List Tr) 1 ([]) ∧ Sl ETr key55 (rowsOf (trA ws) 0 (zi + 1)) c56 sp57 ∧ Hp No w₀ w' (((some b47), sob ETr 66 ([⟨ws.getD (0 + 5 * zi) 0#64, ws.getD ((0 + 5 * zi) + 2) 0#64, ws.getD ((0 + 5 * zi) + 4) 0#64⟩] : List Tr) ([])) :: x5 :: (rc b #[.slice (ownA key) ws.length c, .pointer none, iN ws.length, iN ((0 + 5 * zi) + 5)] 96) :: x9 :: x7 :: (rc b15 #[.slice (ownA key55) (zi + 1) c56, sN0, sN0] 114) :: x17 :: (key55, sob ETr 66 (rowsOf (trA ws) 0 (zi + 1)) sp57) :: x27 :: x3 :: R) | _, _ => False) mixed (by kernel_rfl) (by kernel_rfl) H42'.drew ?_
   refine WalkC.look rfl (fun _ => pT b23) (fun _ _ _ => rfl) (fun q r uw _ _ _ _ => Gives.run rfl (r_indexA (off' := 0) (j := 0) arr38 (b := b23) (off := 0) rfl rfl (by first | rfl | omega | (simp; omega)) (by omega) (by omega)) ⟨rfl, rfl⟩) ?_
   refine WalkC.look rfl (fun _ => pT b15) (fun _ _ _ => rfl) (fun q r uw hlo hhi hle hF => ?_) ?_
   ·have h1 : 0 ≤ q := Nat.zero_le _
    have h2 : q ≤ 2 := hhi 2 20 rfl rfl
    rcases (show q = 0 ∨ q = 1 ∨ q = 2 by omega) with rfl | rfl | rfl
    ·have HH := hF
     exact Gives.run rfl (r_loadC (v := pT b15) one37 (HH.get (k := 3) rfl) (off := 0) rfl (by rfl)) ⟨rfl, rfl⟩
    ·obtain ⟨b47, e15, hS48, HH⟩ := hF
     exact Gives.run rfl (r_loadC (v := pT b15) one37 (HH.get (k := 4) rfl) (off := 0) rfl (by rfl)) ⟨rfl, rfl⟩
    ·obtain ⟨b47, key55, c56, sp57, e15, e16, hS48, hS63, HH⟩ := hF
     exact Gives.run rfl (r_loadC (v := pT b15) one37 (HH.get (k := 4) rfl) (off := 0) rfl (by rfl)) ⟨rfl, rfl⟩
   refine WalkC.look rfl (fun _ => pT b23) (fun _ _ _ => rfl) (fun q r uw _ _ _ _ => Gives.run rfl (r_indexA (off' := 0) (j := 0) arr38 (b := b23) (off := 0) rfl rfl (by first | rfl | omega | (simp; omega)) (by omega) (by omega)) ⟨rfl, rfl⟩) ?_
   refine WalkC.look rfl (fun _ => pT b15) (fun _ _ _ => rfl) (fun q r uw hlo hhi hle hF => ?_) ?_
   ·have h1 : 0 ≤ q := Nat.zero_le _
    have h2 : q ≤ 1 := hhi 1 16 rfl rfl
    rcases (show q = 0 ∨ q = 1 by omega) with rfl | rfl
    ·have HH := hF
     exact Gives.run rfl (r_loadC (v := pT b15) one37 (HH.get (k := 3) rfl) (off := 0) rfl (by rfl)) ⟨rfl, rfl⟩
    ·obtain ⟨b47, e15, hS48, HH⟩ := hF
     exact Gives.run rfl (r_loadC (v := pT b15) one37 (HH.get (k := 4) rfl) (off := 0) rfl (by rfl)) ⟨rfl, rfl⟩
   refine WalkC.look rfl (fun _ => pT b15) (fun _ _ _ => rfl) (fun q r uw _ _ _ _ => Gives.run rfl (r_nilCheck rfl) ⟨rfl, rfl⟩) ?_
   refine WalkC.look rfl (fun _ => pT b15) (fun _ _ _ => rfl) (fun q r uw _ _ _ _ => Gives.run rfl (r_fieldAddr (off' := 0) fld114_0 (by decide) (b := b15) (off := 0) rfl (by omega)) ⟨rfl, rfl⟩) ?_
   refine WalkC.look rfl (fun _ => pT b15) (fun _ _ _ => rfl) (fun q r uw _ _ _ _ => Gives.run rfl (r_fieldAddr (off' := 0) fld110_0 (by decide) (b := b15) (off := 0) rfl (by omega)) ⟨rfl, rfl⟩) ?_
   refine WalkC.look rfl (fun _ => .slice (ownA kyta) zi ccta) (fun _ _ _ => rfl) (fun q r uw hlo hhi hle hF => ?_) ?_
   ·have h1 : 0 ≤ q := Nat.zero_le _
    have h2 : q ≤ 1 := hhi 1 16 rfl rfl
    rcases (show q = 0 ∨ q = 1 by omega) with rfl | rfl
    ·have HH := hF
     exact Gives.run rfl (r_loadC (v := .slice (ownA kyta) zi ccta) one39 (HH.get (k := 4) rfl) (off := 0) rfl (by rfl)) ⟨rfl, rfl⟩
    ·obtain ⟨b47, e15, hS48, HH⟩ := hF
     exact Gives.run rfl (r_loadC (v := .slice (ownA kyta) zi ccta) one39 (HH.get (k := 5) rfl) (off := 0) rfl (by rfl)) ⟨rfl, rfl⟩
   refine WalkC.look rfl (fun _ => pT b37) (fun _ _ _ => rfl) (fun q r uw _ _ _ _ => Gives.run rfl (r_indexA (off' := 0) (j := 0) arr117 (b := b37) (off := 0) rfl rfl (by first | rfl | omega | (simp; omega)) (by omega) (by omega)) ⟨rfl, rfl⟩) ?_
   refine WalkC.look rfl (fun _ => u64 (ws.getD (0 + 5 * zi) 0#64)) (fun _ _ _ => rfl) (fun q r uw hlo hhi hle hF => ?_) ?_
   ·have h1 : 0 ≤ q := Nat.zero_le _
    have h2 : q ≤ 0 := hhi 0 15 rfl rfl
    rcases (show q = 0 by omega) with rfl
    ·have HH := hF
     exact Gives.run rfl (r_ld1 (E := E64) (l := [ws.getD (0 + 5 * zi) 0#64, ws.getD ((0 + 5 * zi) + 1) 0#64, ws.getD ((0 + 5 * zi) + 2) 0#64, ws.getD ((0 + 5 * zi) + 3) 0#64, ws.getD ((0 + 5 * zi) + 4) 0#64]) (j := 0) (a := ws.getD (0 + 5 * zi) 0#64) fits34 (HH.get (k := 0) rfl) (by rfl) rfl rfl) ⟨rfl, rfl⟩
   refine WalkC.look rfl (fun _ => .pointer (some ⟨b37, 2, none⟩)) (fun _ _ _ => rfl) (fun q r uw _ _ _ _ => Gives.run rfl (r_indexA (off' := 2) (j := 2) arr117 (b := b37) (off := 0) rfl rfl (by first | rfl | omega | (simp; omega)) (by omega) (by omega)) ⟨rfl, rfl⟩) ?_
   refine WalkC.look rfl (fun _ => u64 (ws.getD ((0 + 5 * zi) + 2) 0#64)) (fun _ _ _ => rfl) (fun q r uw hlo hhi hle hF => ?_) ?_
   ·have h1 : 0 ≤ q := Nat.zero_le _
    have h2 : q ≤ 0 := hhi 0 15 rfl rfl
    rcases (show q = 0 by omega) with rfl
    ·have HH := hF
     exact Gives.run rfl (r_ld1 (E := E64) (l := [ws.getD (0 + 5 * zi) 0#64, ws.getD ((0 + 5 * zi) + 1) 0#64, ws.getD ((0 + 5 * zi) + 2) 0#64, ws.getD ((0 + 5 * zi) + 3) 0#64, ws.getD ((0 + 5 * zi) + 4) 0#64]) (j := 2) (a := ws.getD ((0 + 5 * zi) + 2) 0#64) fits34 (HH.get (k := 0) rfl) (by rfl) rfl rfl) ⟨rfl, rfl⟩
   refine WalkC.look rfl (fun _ => .pointer (some ⟨b37, 4, none⟩)) (fun _ _ _ => rfl) (fun q r uw _ _ _ _ => Gives.run rfl (r_indexA (off' := 4) (j := 4) arr117 (b := b37) (off := 0) rfl rfl (by first | rfl | omega | (simp; omega)) (by omega) (by omega)) ⟨rfl, rfl⟩) ?_
   refine WalkC.look rfl (fun _ => u64 (ws.getD ((0 + 5 * zi) + 4) 0#64)) (fun _ _ _ => rfl) (fun q r uw hlo hhi hle hF => ?_) ?_
   ·have h1 : 0 ≤ q := Nat.zero_le _
    have h2 : q ≤ 0 := hhi 0 15 rfl rfl
    rcases (show q = 0 by omega) with rfl
    ·have HH := hF
     exact Gives.run rfl (r_ld1 (E := E64) (l := [ws.getD (0 + 5 * zi) 0#64, ws.getD ((0 + 5 * zi) + 1) 0#64, ws.getD ((0 + 5 * zi) + 2) 0#64, ws.getD ((0 + 5 * zi) + 3) 0#64, ws.getD ((0 + 5 * zi) + 4) 0#64]) (j := 4) (a := ws.getD ((0 + 5 * zi) + 4) 0#64) fits34 (HH.get (k := 0) rfl) (by rfl) rfl rfl) ⟨rfl, rfl⟩
   refine WalkC.look rfl (fun _ => .agg x35) (fun _ _ _ => rfl) (fun q r uw _ _ _ _ => Gives.run rfl (r_build (cs' := x35) (ps := [(0, u64 (ws.getD (0 + 5 * zi) 0#64)), (1, u64 (ws.getD ((0 + 5 * zi) + 2) 0#64)), (2, u64 (ws.getD ((0 + 5 * zi) + 4) 0#64))]) zer66 pls66 rfl (by rfl)) ⟨rfl, rfl⟩) ?_
   refine WalkC.eff 0 rfl (fun r uw44 hF46 => ?_) ?_
   ·have H45 := hF46
    dsimp only [List.take, List.map, List.cons_append, List.nil_append]
    refine Gives.ofW (d := 77) rfl rfl (fun Q' hK => ?_)
    refine q_buildSlice (E := ETr) (l := ([⟨ws.getD (0 + 5 * zi) 0#64, ws.getD ((0 + 5 * zi) + 2) 0#64, ws.getD ((0 + 5 * zi) + 4) 0#64⟩] : List Tr)) H45 sli39 zer66 (bLe rfl) (ps := [(0, .agg x35)]) rfl (by exact fillAll rfl rfl) rfl ?_
    intro b47 w49 hS48 H50 hE51
    exact hK _ _ ⟨b47, rfl, hS48, H50⟩
   refine WalkC.eff 1 rfl (fun r uw52 hF54 => ?_) ?_
   ·obtain ⟨b47, e15, hS48, H53⟩ := hF54
    dsimp only [List.take, List.map, List.cons_append, List.nil_append]
    rw [e15]
    refine Gives.ofW (d := 78) rfl rfl (fun Q' hK => ?_)
    refine q_append (E := ETr) (k := 7) (l := rowsOf (trA ws) 0 zi) (l2 := ([⟨ws.getD (0 + 5 * zi) 0#64, ws.getD ((0 + 5 * zi) + 2) 0#64, ws.getD ((0 + 5 * zi) + 4) 0#64⟩] : List Tr)) H53 rfl hkyta sli39 zer66 rfl byt66 (H53.rd (k := 0) rfl hS48) rfl (by rw [rowsOf_len]) rfl (by rfl) (by omega) ?_
    intro key55 c56 sp57 w59 hS58 hne61 H60
    have H60' := H60.as (L' := (_ :: _ :: _ :: _ :: _ :: _ :: _ :: _ :: _ :: _ :: R)) rfl
    clear H60
    have e62 : (rowsOf (trA ws) 0 zi) ++ ([⟨ws.getD (0 + 5 * zi) 0#64, ws.getD ((0 + 5 * zi) + 2) 0#64, ws.getD ((0 + 5 * zi) + 4) 0#64⟩] : List Tr) = rowsOf (trA ws) 0 (zi + 1) := by rw [rowsOf_succ]; rfl
    have hS63 := hS58
    rw [e62] at hS63
    have H64 := H60'.as (L' := (((some b47), sob ETr 66 ([⟨ws.getD (0 + 5 * zi) 0#64, ws.getD ((0 + 5 * zi) + 2) 0#64, ws.getD ((0 + 5 * zi) + 4) 0#64⟩] : List Tr) ([])) :: (re b37 E64 ([ws.getD (0 + 5 * zi) 0#64, ws.getD ((0 + 5 * zi) + 1) 0#64, ws.getD ((0 + 5 * zi) + 2) 0#64, ws.getD ((0 + 5 * zi) + 3) 0#64, ws.getD ((0 + 5 * zi) + 4) 0#64]) 117) :: (rc b #[.slice (ownA key) ws.length c, .pointer none, iN ws.length, iN ((0 + 5 * zi) + 5)] 96) :: (key, sob E64 34 ws sp) :: (rc b23 #[pT b15, pT b19] 38) :: (rc b15 #[.slice (ownA kyta) zi ccta, sN0, sN0] 114) :: (rc b19 #[.slice (ownA kytb) zi cctb, sN0, sN0] 114) :: (key55, sob ETr 66 (rowsOf (trA ws) 0 (zi + 1)) sp57) :: (kytb, sob ETr 66 (rowsOf (trB ws) 0 zi) zztb) :: (rc b1 #[.pointer none, .pointer none] 38) :: R)) (by rw [e62])
    exact hK _ _ ⟨b47, key55, c56, sp57, rfl, rfl, hS48, hS63, H64⟩
   refine WalkC.look rfl (fun _ => pT b15) (fun _ _ _ => rfl) (fun q r uw _ _ _ _ => Gives.run rfl (r_nilCheck rfl) ⟨rfl, rfl⟩) ?_
   refine WalkC.look rfl (fun _ => pT b15) (fun _ _ _ => rfl) (fun q r uw _ _ _ _ => Gives.run rfl (r_fieldAddr (off' := 0) fld114_0 (by decide) (b := b15) (off := 0) rfl (by omega)) ⟨rfl, rfl⟩) ?_
   refine WalkC.look rfl (fun _ => pT b15) (fun _ _ _ => rfl) (fun q r uw _ _ _ _ => Gives.run rfl (r_fieldAddr (off' := 0) fld110_0 (by decide) (b := b15) (off := 0) rfl (by omega)) ⟨rfl, rfl⟩) ?_
   refine WalkC.eff 2 rfl (fun r uw65 hF67 => ?_) ?_
   ·obtain ⟨b47, key55, c56, sp57, e15, e16, hS48, hS63, H66⟩ := hF67
    dsimp only [List.take, List.map, List.cons_append, List.nil_append]
    rw [e15, e16]
    refine Gives.ofW0 rfl (fun Q' hK => ?_)
    refine d_store (k := 5) (v := .slice (ownA key55) (zi + 1) c56) (cs' := #[.slice (ownA key55) (zi + 1) c56, sN0, sN0]) H66 rfl rfl rfl siz39 (by rfl) (oneL rfl) (by exact bLe rfl) (by rfl) ?_
    intro w68 H69 hC70
    have H69' := H69.as (L' := (_ :: _ :: _ :: _ :: _ :: _ :: _ :: _ :: _ :: _ :: R)) rfl
    clear H69
    exact hK _ (fun _ => ⟨b47, key55, c56, sp57, rfl, rfl, trivial, hS48, hS63, H69'⟩)
   refine WalkC.nil ?_
   intro r71 w72 hF74
   obtain ⟨b47, key55, c56, sp57, e15, e16, e20, hS48, hS63, H73⟩ := hF74
   let x24 : Option Nat × Obj := (key55, sob ETr 66 (rowsOf (trA ws) 0 (zi + 1)) sp57)
   dsimp only
   rw [e15, e16]
   refine wnil ?_
   refine thenNormal ?_
   refine drawC (m := 33) [0, 1, 0, 4, 12, 28, 60, 124, 0, 256, 0, 1024, 0, 4096, 0, 16384, 61440, 0, 131072, 0, 524288, 1966080, 4190208, 0, 8388608, 33550336, 67108608, 134217472, 268435452, 536870911, 1073741823, 2147483647, 4294967295] [27, 28, 32] (fun q vs w' => match q, vs with | 0, [] => Hp No w₀ w' (((some b47), sob ETr 66 ([⟨ws.getD (0 + 5 * zi) 0#64, ws.getD ((0 + 5 * zi) + 2) 0#64, ws.getD ((0 + 5 * zi) + 4) 0#64⟩] : List Tr) ([])) :: x5 :: (rc b #[.slice (ownA key) ws.length c, .pointer none, iN ws.length, iN ((0 + 5 * zi) + 5)] 96) :: x9 :: x7 :: (rc b15 #[.slice (ownA key55) (zi + 1) c56, sN0, sN0] 114) :: x17 :: x24 :: x27 :: x3 :: R) | 1, [v0] => ∃ (b78 : Nat), v0 = .slice (ownA (some b78)) 1 1 ∧ Sl ETr (some b78) ([⟨ws.getD ((0 + 5 * zi) + 1) 0#64, ws.getD ((0 + 5 * zi) + 3) 0#64, (((ws.getD (0 + 5 * zi) 0#64) + (ws.getD ((0 + 5 * zi) + 1) 0#64)) * ((ws.getD ((0 + 5 * zi) + 2) 0#64) + (ws.getD ((0 + 5 * zi) + 3) 0#64))) - (ws.getD ((0 + 5 * zi) + 4) 0#64)⟩] : List Tr) 1 ([]) ∧ Hp No w₀ w' (((some b78), sob ETr 66 ([⟨ws.getD ((0 + 5 * zi) + 1) 0#64, ws.getD ((0 + 5 * zi) + 3) 0#64, (((ws.getD (0 + 5 * zi) 0#64) + (ws.getD ((0 + 5 * zi) + 1) 0#64)) * ((ws.getD ((0 + 5 * zi) + 2) 0#64) + (ws.getD ((0 + 5 * zi) + 3) 0#64))) - (ws.getD ((0 + 5 * zi) + 4) 0#64)⟩] : List Tr) ([])) :: ((some b47), sob ETr 66 ([⟨ws.getD (0 + 5 * zi) 0#64, ws.getD ((0 + 5 * zi) + 2) 0#64, ws.getD ((0 + 5 * zi) + 4) 0#64⟩] : List Tr) ([])) :: x5 :: (rc b #[.slice (ownA key) ws.length c, .pointer none, iN ws.length, iN ((0 + 5 * zi) + 5)] 96) :: x9 :: x7 :: (rc b15 #[.slice (ownA key55) (zi + 1) c56, sN0, sN0] 114) :: x17 :: x24 :: x27 :: x3 :: R) | 2, [v0, v1] => ∃ (b78 : Nat) (key86 : Option Nat) (c87 : Nat) (sp88 : List Value), v0 = .slice (ownA (some b78)) 1 1 ∧ v1 = .slice (ownA key86) (zi + 1) c87 ∧ Sl ETr (some b78) ([⟨ws.getD ((0 + 5 * zi) + 1) 0#64, ws.getD ((0 + 5 * zi) + 3) 0#64, (((ws.getD (0 + 5 * zi) 0#64) + (ws.getD ((0 + 5 * zi) + 1) 0#64)) * ((ws.getD ((0 + 5 * zi) + 2) 0#64) + (ws.getD ((0 + 5 * zi) + 3) 0#64))) - (ws.getD ((0 + 5 * zi) + 4) 0#64)⟩] : List Tr) 1 ([]) ∧ Sl ETr key86 (rowsOf (trB ws) 0 (zi + 1)) c87 sp88 ∧ Hp No w₀ w' (((some b78), sob ETr 66 ([⟨ws.getD ((0 + 5 * zi) + 1) 0#64, ws.getD ((0 + 5 * zi) + 3) 0#64, (((ws.getD (0 + 5 * zi) 0#64) + (ws.getD ((0 + 5 * zi) + 1) 0#64)) * ((ws.getD ((0 + 5 * zi) + 2) 0#64) + (ws.getD ((0 + 5 * zi) + 3) 0#64))) - (ws.getD ((0 + 5 * zi) + 4) 0#64)⟩] : List Tr) ([])) :: ((some b47), sob ETr 66 ([⟨ws.getD (0 + 5 * zi) 0#64, ws.getD ((0 + 5 * zi) + 2) 0#64, ws.getD ((0 + 5 * zi) + 4) 0#64⟩] : List Tr) ([])) :: x5 :: (rc b #[.slice (ownA key) ws.length c, .pointer none, iN ws.length, iN ((0 + 5 * zi) + 5)] 96) :: x9 :: x7 :: (rc b15 #[.slice (ownA key55) (zi + 1) c56, sN0, sN0] 114) :: x17 :: x24 :: (key86, sob ETr 66 (rowsOf (trB ws) 0 (zi + 1)) sp88) :: x3 :: R) | 3, [v0, v1, _] => ∃ (b78 : Nat) (key86 : Option Nat) (c87 : Nat) (sp88 : List Value), v0 = .slice (ownA (some b78)) 1 1 ∧ v1 = .slice (ownA key86) (zi + 1) c87 ∧ True ∧ Sl ETr (some b78) ([⟨ws.getD ((0 + 5 * zi) + 1) 0#64, ws.getD ((0 + 5 * zi) + 3) 0#64, (((ws.getD (0 + 5 * zi) 0#64) + (ws.getD ((0 + 5 * zi) + 1) 0#64)) * ((ws.getD ((0 + 5 * zi) + 2) 0#64) + (ws.getD ((0 + 5 * zi) + 3) 0#64))) - (ws.getD ((0 + 5 * zi) + 4) 0#64)⟩] : List Tr) 1 ([]) ∧ Sl ETr key86 (rowsOf (trB ws) 0 (zi + 1)) c87 sp88 ∧ Hp No w₀ w' (((some b78), sob ETr 66 ([⟨ws.getD ((0 + 5 * zi) + 1) 0#64, ws.getD ((0 + 5 * zi) + 3) 0#64, (((ws.getD (0 + 5 * zi) 0#64) + (ws.getD ((0 + 5 * zi) + 1) 0#64)) * ((ws.getD ((0 + 5 * zi) + 2) 0#64) + (ws.getD ((0 + 5 * zi) + 3) 0#64))) - (ws.getD ((0 + 5 * zi) + 4) 0#64)⟩] : List Tr) ([])) :: ((some b47), sob ETr 66 ([⟨ws.getD (0 + 5 * zi) 0#64, ws.getD ((0 + 5 * zi) + 2) 0#64, ws.getD ((0 + 5 * zi) + 4) 0#64⟩] : List Tr) ([])) :: x5 :: (rc b #[.slice (ownA key) ws.length c, .pointer none, iN ws.length, iN ((0 + 5 * zi) + 5)] 96) :: x9 :: x7 :: (rc b15 #[.slice (ownA key55) (zi + 1) c56, sN0, sN0] 114) :: (rc b19 #[.slice (ownA key86) (zi + 1) c87, sN0, sN0] 114) :: x24 :: (key86, sob ETr 66 (rowsOf (trB ws) 0 (zi + 1)) sp88) :: x3 :: R) | _, _ => False) mixed (by kernel_rfl) (by kernel_rfl) H73.drew ?_
   refine WalkC.look rfl (fun _ => .pointer x21) (fun _ _ _ => rfl) (fun q r uw _ _ _ _ => Gives.run rfl (r_indexA (off' := 1) (j := 1) arr38 (b := b23) (off := 0) rfl rfl (by first | rfl | omega | (simp; omega)) (by omega) (by omega)) ⟨rfl, rfl⟩) ?_
   refine WalkC.look rfl (fun _ => pT b19) (fun _ _ _ => rfl) (fun q r uw hlo hhi hle hF => ?_) ?_
   ·have h1 : 0 ≤ q := Nat.zero_le _
    have h2 : q ≤ 2 := hhi 2 32 rfl rfl
    rcases (show q = 0 ∨ q = 1 ∨ q = 2 by omega) with rfl | rfl | rfl
    ·have HH := hF
     exact Gives.run rfl (r_loadC (v := pT b19) one37 (HH.get (k := 4) rfl) (off := 1) rfl (by rfl)) ⟨rfl, rfl⟩
    ·obtain ⟨b78, e27, hS79, HH⟩ := hF
     exact Gives.run rfl (r_loadC (v := pT b19) one37 (HH.get (k := 5) rfl) (off := 1) rfl (by rfl)) ⟨rfl, rfl⟩
    ·obtain ⟨b78, key86, c87, sp88, e27, e28, hS79, hS94, HH⟩ := hF
     exact Gives.run rfl (r_loadC (v := pT b19) one37 (HH.get (k := 5) rfl) (off := 1) rfl (by rfl)) ⟨rfl, rfl⟩
   refine WalkC.look rfl (fun _ => .pointer x21) (fun _ _ _ => rfl) (fun q r uw _ _ _ _ => Gives.run rfl (r_indexA (off' := 1) (j := 1) arr38 (b := b23) (off := 0) rfl rfl (by first | rfl | omega | (simp; omega)) (by omega) (by omega)) ⟨rfl, rfl⟩) ?_
   refine WalkC.look rfl (fun _ => pT b19) (fun _ _ _ => rfl) (fun q r uw hlo hhi hle hF => ?_) ?_
   ·have h1 : 0 ≤ q := Nat.zero_le _
    have h2 : q ≤ 1 := hhi 1 28 rfl rfl
    rcases (show q = 0 ∨ q = 1 by omega) with rfl | rfl
    ·have HH := hF
     exact Gives.run rfl (r_loadC (v := pT b19) one37 (HH.get (k := 4) rfl) (off := 1) rfl (by rfl)) ⟨rfl, rfl⟩
    ·obtain ⟨b78, e27, hS79, HH⟩ := hF
     exact Gives.run rfl (r_loadC (v := pT b19) one37 (HH.get (k := 5) rfl) (off := 1) rfl (by rfl)) ⟨rfl, rfl⟩
   refine WalkC.look rfl (fun _ => pT b19) (fun _ _ _ => rfl) (fun q r uw _ _ _ _ => Gives.run rfl (r_nilCheck rfl) ⟨rfl, rfl⟩) ?_
   refine WalkC.look rfl (fun _ => pT b19) (fun _ _ _ => rfl) (fun q r uw _ _ _ _ => Gives.run rfl (r_fieldAddr (off' := 0) fld114_0 (by decide) (b := b19) (off := 0) rfl (by omega)) ⟨rfl, rfl⟩) ?_
   refine WalkC.look rfl (fun _ => pT b19) (fun _ _ _ => rfl) (fun q r uw _ _ _ _ => Gives.run rfl (r_fieldAddr (off' := 0) fld110_0 (by decide) (b := b19) (off := 0) rfl (by omega)) ⟨rfl, rfl⟩) ?_
   refine WalkC.look rfl (fun _ => .slice (ownA kytb) zi cctb) (fun _ _ _ => rfl) (fun q r uw hlo hhi hle hF => ?_) ?_
   ·have h1 : 0 ≤ q := Nat.zero_le _
    have h2 : q ≤ 1 := hhi 1 28 rfl rfl
    rcases (show q = 0 ∨ q = 1 by omega) with rfl | rfl
    ·have HH := hF
     exact Gives.run rfl (r_loadC (v := .slice (ownA kytb) zi cctb) one39 (HH.get (k := 6) rfl) (off := 0) rfl (by rfl)) ⟨rfl, rfl⟩
    ·obtain ⟨b78, e27, hS79, HH⟩ := hF
     exact Gives.run rfl (r_loadC (v := .slice (ownA kytb) zi cctb) one39 (HH.get (k := 7) rfl) (off := 0) rfl (by rfl)) ⟨rfl, rfl⟩
   refine WalkC.look rfl (fun _ => .pointer (some ⟨b37, 1, none⟩)) (fun _ _ _ => rfl) (fun q r uw _ _ _ _ => Gives.run rfl (r_indexA (off' := 1) (j := 1) arr117 (b := b37) (off := 0) rfl rfl (by first | rfl | omega | (simp; omega)) (by omega) (by omega)) ⟨rfl, rfl⟩) ?_
   refine WalkC.look rfl (fun _ => u64 (ws.getD ((0 + 5 * zi) + 1) 0#64)) (fun _ _ _ => rfl) (fun q r uw hlo hhi hle hF => ?_) ?_
   ·have h1 : 0 ≤ q := Nat.zero_le _
    have h2 : q ≤ 0 := hhi 0 27 rfl rfl
    rcases (show q = 0 by omega) with rfl
    ·have HH := hF
     exact Gives.run rfl (r_ld1 (E := E64) (l := [ws.getD (0 + 5 * zi) 0#64, ws.getD ((0 + 5 * zi) + 1) 0#64, ws.getD ((0 + 5 * zi) + 2) 0#64, ws.getD ((0 + 5 * zi) + 3) 0#64, ws.getD ((0 + 5 * zi) + 4) 0#64]) (j := 1) (a := ws.getD ((0 + 5 * zi) + 1) 0#64) fits34 (HH.get (k := 1) rfl) (by rfl) rfl rfl) ⟨rfl, rfl⟩
   refine WalkC.look rfl (fun _ => .pointer (some ⟨b37, 3, none⟩)) (fun _ _ _ => rfl) (fun q r uw _ _ _ _ => Gives.run rfl (r_indexA (off' := 3) (j := 3) arr117 (b := b37) (off := 0) rfl rfl (by first | rfl | omega | (simp; omega)) (by omega) (by omega)) ⟨rfl, rfl⟩) ?_
   refine WalkC.look rfl (fun _ => u64 (ws.getD ((0 + 5 * zi) + 3) 0#64)) (fun _ _ _ => rfl) (fun q r uw hlo hhi hle hF => ?_) ?_
   ·have h1 : 0 ≤ q := Nat.zero_le _
    have h2 : q ≤ 0 := hhi 0 27 rfl rfl
    rcases (show q = 0 by omega) with rfl
    ·have HH := hF
     exact Gives.run rfl (r_ld1 (E := E64) (l := [ws.getD (0 + 5 * zi) 0#64, ws.getD ((0 + 5 * zi) + 1) 0#64, ws.getD ((0 + 5 * zi) + 2) 0#64, ws.getD ((0 + 5 * zi) + 3) 0#64, ws.getD ((0 + 5 * zi) + 4) 0#64]) (j := 3) (a := ws.getD ((0 + 5 * zi) + 3) 0#64) fits34 (HH.get (k := 1) rfl) (by rfl) rfl rfl) ⟨rfl, rfl⟩
   refine WalkC.look rfl (fun _ => pT b37) (fun _ _ _ => rfl) (fun q r uw _ _ _ _ => Gives.run rfl (r_indexA (off' := 0) (j := 0) arr117 (b := b37) (off := 0) rfl rfl (by first | rfl | omega | (simp; omega)) (by omega) (by omega)) ⟨rfl, rfl⟩) ?_
   refine WalkC.look rfl (fun _ => u64 (ws.getD (0 + 5 * zi) 0#64)) (fun _ _ _ => rfl) (fun q r uw hlo hhi hle hF => ?_) ?_
   ·have h1 : 0 ≤ q := Nat.zero_le _
    have h2 : q ≤ 0 := hhi 0 27 rfl rfl
    rcases (show q = 0 by omega) with rfl
    ·have HH := hF
     exact Gives.run rfl (r_ld1 (E := E64) (l := [ws.getD (0 + 5 * zi) 0#64, ws.getD ((0 + 5 * zi) + 1) 0#64, ws.getD ((0 + 5 * zi) + 2) 0#64, ws.getD ((0 + 5 * zi) + 3) 0#64, ws.getD ((0 + 5 * zi) + 4) 0#64]) (j := 0) (a := ws.getD (0 + 5 * zi) 0#64) fits34 (HH.get (k := 1) rfl) (by rfl) rfl rfl) ⟨rfl, rfl⟩
   refine WalkC.look rfl (fun _ => .pointer (some ⟨b37, 1, none⟩)) (fun _ _ _ => rfl) (fun q r uw _ _ _ _ => Gives.run rfl (r_indexA (off' := 1) (j := 1) arr117 (b := b37) (off := 0) rfl rfl (by first | rfl | omega | (simp; omega)) (by omega) (by omega)) ⟨rfl, rfl⟩) ?_
   refine WalkC.look rfl (fun _ => u64 (ws.getD ((0 + 5 * zi) + 1) 0#64)) (fun _ _ _ => rfl) (fun q r uw hlo hhi hle hF => ?_) ?_
   ·have h1 : 0 ≤ q := Nat.zero_le _
    have h2 : q ≤ 0 := hhi 0 27 rfl rfl
    rcases (show q = 0 by omega) with rfl
    ·have HH := hF
     exact Gives.run rfl (r_ld1 (E := E64) (l := [ws.getD (0 + 5 * zi) 0#64, ws.getD ((0 + 5 * zi) + 1) 0#64, ws.getD ((0 + 5 * zi) + 2) 0#64, ws.getD ((0 + 5 * zi) + 3) 0#64, ws.getD ((0 + 5 * zi) + 4) 0#64]) (j := 1) (a := ws.getD ((0 + 5 * zi) + 1) 0#64) fits34 (HH.get (k := 1) rfl) (by rfl) rfl rfl) ⟨rfl, rfl⟩
   refine WalkC.look rfl (fun _ => u64 ((ws.getD (0 + 5 * zi) 0#64) + (ws.getD ((0 + 5 * zi) + 1) 0#64))) (fun _ _ _ => rfl) (fun q r uw _ _ _ _ => Gives.run rfl (r_add64 (a := ws.getD (0 + 5 * zi) 0#64) (b := ws.getD ((0 + 5 * zi) + 1) 0#64) rfl rfl) ⟨rfl, rfl⟩) ?_
   refine WalkC.look rfl (fun _ => .pointer (some ⟨b37, 2, none⟩)) (fun _ _ _ => rfl) (fun q r uw _ _ _ _ => Gives.run rfl (r_indexA (off' := 2) (j := 2) arr117 (b := b37) (off := 0) rfl rfl (by first | rfl | omega | (simp; omega)) (by omega) (by omega)) ⟨rfl, rfl⟩) ?_
   refine WalkC.look rfl (fun _ => u64 (ws.getD ((0 + 5 * zi) + 2) 0#64)) (fun _ _ _ => rfl) (fun q r uw hlo hhi hle hF => ?_) ?_
   ·have h1 : 0 ≤ q := Nat.zero_le _
    have h2 : q ≤ 0 := hhi 0 27 rfl rfl
    rcases (show q = 0 by omega) with rfl
    ·have HH := hF
     exact Gives.run rfl (r_ld1 (E := E64) (l := [ws.getD (0 + 5 * zi) 0#64, ws.getD ((0 + 5 * zi) + 1) 0#64, ws.getD ((0 + 5 * zi) + 2) 0#64, ws.getD ((0 + 5 * zi) + 3) 0#64, ws.getD ((0 + 5 * zi) + 4) 0#64]) (j := 2) (a := ws.getD ((0 + 5 * zi) + 2) 0#64) fits34 (HH.get (k := 1) rfl) (by rfl) rfl rfl) ⟨rfl, rfl⟩
   refine WalkC.look rfl (fun _ => .pointer (some ⟨b37, 3, none⟩)) (fun _ _ _ => rfl) (fun q r uw _ _ _ _ => Gives.run rfl (r_indexA (off' := 3) (j := 3) arr117 (b := b37) (off := 0) rfl rfl (by first | rfl | omega | (simp; omega)) (by omega) (by omega)) ⟨rfl, rfl⟩) ?_
   refine WalkC.look rfl (fun _ => u64 (ws.getD ((0 + 5 * zi) + 3) 0#64)) (fun _ _ _ => rfl) (fun q r uw hlo hhi hle hF => ?_) ?_
   ·have h1 : 0 ≤ q := Nat.zero_le _
    have h2 : q ≤ 0 := hhi 0 27 rfl rfl
    rcases (show q = 0 by omega) with rfl
    ·have HH := hF
     exact Gives.run rfl (r_ld1 (E := E64) (l := [ws.getD (0 + 5 * zi) 0#64, ws.getD ((0 + 5 * zi) + 1) 0#64, ws.getD ((0 + 5 * zi) + 2) 0#64, ws.getD ((0 + 5 * zi) + 3) 0#64, ws.getD ((0 + 5 * zi) + 4) 0#64]) (j := 3) (a := ws.getD ((0 + 5 * zi) + 3) 0#64) fits34 (HH.get (k := 1) rfl) (by rfl) rfl rfl) ⟨rfl, rfl⟩
   refine WalkC.look rfl (fun _ => u64 ((ws.getD ((0 + 5 * zi) + 2) 0#64) + (ws.getD ((0 + 5 * zi) + 3) 0#64))) (fun _ _ _ => rfl) (fun q r uw _ _ _ _ => Gives.run rfl (r_add64 (a := ws.getD ((0 + 5 * zi) + 2) 0#64) (b := ws.getD ((0 + 5 * zi) + 3) 0#64) rfl rfl) ⟨rfl, rfl⟩) ?_
   refine WalkC.look rfl (fun _ => u64 (((ws.getD (0 + 5 * zi) 0#64) + (ws.getD ((0 + 5 * zi) + 1) 0#64)) * ((ws.getD ((0 + 5 * zi) + 2) 0#64) + (ws.getD ((0 + 5 * zi) + 3) 0#64)))) (fun _ _ _ => rfl) (fun q r uw _ _ _ _ => Gives.run rfl (r_mul64 (a := (ws.getD (0 + 5 * zi) 0#64) + (ws.getD ((0 + 5 * zi) + 1) 0#64)) (b := (ws.getD ((0 + 5 * zi) + 2) 0#64) + (ws.getD ((0 + 5 * zi) + 3) 0#64)) rfl rfl) ⟨rfl, rfl⟩) ?_
   refine WalkC.look rfl (fun _ => .pointer (some ⟨b37, 4, none⟩)) (fun _ _ _ => rfl) (fun q r uw _ _ _ _ => Gives.run rfl (r_indexA (off' := 4) (j := 4) arr117 (b := b37) (off := 0) rfl rfl (by first | rfl | omega | (simp; omega)) (by omega) (by omega)) ⟨rfl, rfl⟩) ?_
   refine WalkC.look rfl (fun _ => u64 (ws.getD ((0 + 5 * zi) + 4) 0#64)) (fun _ _ _ => rfl) (fun q r uw hlo hhi hle hF => ?_) ?_
   ·have h1 : 0 ≤ q := Nat.zero_le _
    have h2 : q ≤ 0 := hhi 0 27 rfl rfl
    rcases (show q = 0 by omega) with rfl
    ·have HH := hF
     exact Gives.run rfl (r_ld1 (E := E64) (l := [ws.getD (0 + 5 * zi) 0#64, ws.getD ((0 + 5 * zi) + 1) 0#64, ws.getD ((0 + 5 * zi) + 2) 0#64, ws.getD ((0 + 5 * zi) + 3) 0#64, ws.getD ((0 + 5 * zi) + 4) 0#64]) (j := 4) (a := ws.getD ((0 + 5 * zi) + 4) 0#64) fits34 (HH.get (k := 1) rfl) (by rfl) rfl rfl) ⟨rfl, rfl⟩
   refine WalkC.look rfl (fun _ => u64 ((((ws.getD (0 + 5 * zi) 0#64) + (ws.getD ((0 + 5 * zi) + 1) 0#64)) * ((ws.getD ((0 + 5 * zi) + 2) 0#64) + (ws.getD ((0 + 5 * zi) + 3) 0#64))) - (ws.getD ((0 + 5 * zi) + 4) 0#64))) (fun _ _ _ => rfl) (fun q r uw _ _ _ _ => Gives.run rfl (r_sub64 (a := ((ws.getD (0 + 5 * zi) 0#64) + (ws.getD ((0 + 5 * zi) + 1) 0#64)) * ((ws.getD ((0 + 5 * zi) + 2) 0#64) + (ws.getD ((0 + 5 * zi) + 3) 0#64))) (b := ws.getD ((0 + 5 * zi) + 4) 0#64) rfl rfl) ⟨rfl, rfl⟩) ?_
   refine WalkC.look rfl (fun _ => .agg x11) (fun _ _ _ => rfl) (fun q r uw _ _ _ _ => Gives.run rfl (r_build (cs' := x11) (ps := [(0, u64 (ws.getD ((0 + 5 * zi) + 1) 0#64)), (1, u64 (ws.getD ((0 + 5 * zi) + 3) 0#64)), (2, u64 ((((ws.getD (0 + 5 * zi) 0#64) + (ws.getD ((0 + 5 * zi) + 1) 0#64)) * ((ws.getD ((0 + 5 * zi) + 2) 0#64) + (ws.getD ((0 + 5 * zi) + 3) 0#64))) - (ws.getD ((0 + 5 * zi) + 4) 0#64)))]) zer66 pls66 rfl (by rfl)) ⟨rfl, rfl⟩) ?_
   refine WalkC.eff 0 rfl (fun r uw75 hF77 => ?_) ?_
   ·have H76 := hF77
    dsimp only [List.take, List.map, List.cons_append, List.nil_append]
    refine Gives.ofW (d := 109) rfl rfl (fun Q' hK => ?_)
    refine q_buildSlice (E := ETr) (l := ([⟨ws.getD ((0 + 5 * zi) + 1) 0#64, ws.getD ((0 + 5 * zi) + 3) 0#64, (((ws.getD (0 + 5 * zi) 0#64) + (ws.getD ((0 + 5 * zi) + 1) 0#64)) * ((ws.getD ((0 + 5 * zi) + 2) 0#64) + (ws.getD ((0 + 5 * zi) + 3) 0#64))) - (ws.getD ((0 + 5 * zi) + 4) 0#64)⟩] : List Tr)) H76 sli39 zer66 (bLe rfl) (ps := [(0, .agg x11)]) rfl (by exact fillAll rfl rfl) rfl ?_
    intro b78 w80 hS79 H81 hE82
    exact hK _ _ ⟨b78, rfl, hS79, H81⟩
   refine WalkC.eff 1 rfl (fun r uw83 hF85 => ?_) ?_
   ·obtain ⟨b78, e27, hS79, H84⟩ := hF85
    dsimp only [List.take, List.map, List.cons_append, List.nil_append]
    rw [e27]
    refine Gives.ofW (d := 110) rfl rfl (fun Q' hK => ?_)
    refine q_append (E := ETr) (k := 9) (l := rowsOf (trB ws) 0 zi) (l2 := ([⟨ws.getD ((0 + 5 * zi) + 1) 0#64, ws.getD ((0 + 5 * zi) + 3) 0#64, (((ws.getD (0 + 5 * zi) 0#64) + (ws.getD ((0 + 5 * zi) + 1) 0#64)) * ((ws.getD ((0 + 5 * zi) + 2) 0#64) + (ws.getD ((0 + 5 * zi) + 3) 0#64))) - (ws.getD ((0 + 5 * zi) + 4) 0#64)⟩] : List Tr)) H84 rfl hkytb sli39 zer66 rfl byt66 (H84.rd (k := 0) rfl hS79) rfl (by rw [rowsOf_len]) rfl (by rfl) (by omega) ?_
    intro key86 c87 sp88 w90 hS89 hne92 H91
    have H91' := H91.as (L' := (_ :: _ :: _ :: _ :: _ :: _ :: _ :: _ :: _ :: _ :: _ :: R)) rfl
    clear H91
    have e93 : (rowsOf (trB ws) 0 zi) ++ ([⟨ws.getD ((0 + 5 * zi) + 1) 0#64, ws.getD ((0 + 5 * zi) + 3) 0#64, (((ws.getD (0 + 5 * zi) 0#64) + (ws.getD ((0 + 5 * zi) + 1) 0#64)) * ((ws.getD ((0 + 5 * zi) + 2) 0#64) + (ws.getD ((0 + 5 * zi) + 3) 0#64))) - (ws.getD ((0 + 5 * zi) + 4) 0#64)⟩] : List Tr) = rowsOf (trB ws) 0 (zi + 1) := by rw [rowsOf_succ]; rfl
    have hS94 := hS89
    rw [e93] at hS94
    have H95 := H91'.as (L' := (((some b78), sob ETr 66 ([⟨ws.getD ((0 + 5 * zi) + 1) 0#64, ws.getD ((0 + 5 * zi) + 3) 0#64, (((ws.getD (0 + 5 * zi) 0#64) + (ws.getD ((0 + 5 * zi) + 1) 0#64)) * ((ws.getD ((0 + 5 * zi) + 2) 0#64) + (ws.getD ((0 + 5 * zi) + 3) 0#64))) - (ws.getD ((0 + 5 * zi) + 4) 0#64)⟩] : List Tr) ([])) :: ((some b47), sob ETr 66 ([⟨ws.getD (0 + 5 * zi) 0#64, ws.getD ((0 + 5 * zi) + 2) 0#64, ws.getD ((0 + 5 * zi) + 4) 0#64⟩] : List Tr) ([])) :: (re b37 E64 ([ws.getD (0 + 5 * zi) 0#64, ws.getD ((0 + 5 * zi) + 1) 0#64, ws.getD ((0 + 5 * zi) + 2) 0#64, ws.getD ((0 + 5 * zi) + 3) 0#64, ws.getD ((0 + 5 * zi) + 4) 0#64]) 117) :: (rc b #[.slice (ownA key) ws.length c, .pointer none, iN ws.length, iN ((0 + 5 * zi) + 5)] 96) :: (key, sob E64 34 ws sp) :: (rc b23 #[pT b15, pT b19] 38) :: (rc b15 #[.slice (ownA key55) (zi + 1) c56, sN0, sN0] 114) :: (rc b19 #[.slice (ownA kytb) zi cctb, sN0, sN0] 114) :: (key55, sob ETr 66 (rowsOf (trA ws) 0 (zi + 1)) sp57) :: (key86, sob ETr 66 (rowsOf (trB ws) 0 (zi + 1)) sp88) :: (rc b1 #[.pointer none, .pointer none] 38) :: R)) (by rw [e93])
    exact hK _ _ ⟨b78, key86, c87, sp88, rfl, rfl, hS79, hS94, H95⟩
   refine WalkC.look rfl (fun _ => pT b19) (fun _ _ _ => rfl) (fun q r uw _ _ _ _ => Gives.run rfl (r_nilCheck rfl) ⟨rfl, rfl⟩) ?_
   refine WalkC.look rfl (fun _ => pT b19) (fun _ _ _ => rfl) (fun q r uw _ _ _ _ => Gives.run rfl (r_fieldAddr (off' := 0) fld114_0 (by decide) (b := b19) (off := 0) rfl (by omega)) ⟨rfl, rfl⟩) ?_
   refine WalkC.look rfl (fun _ => pT b19) (fun _ _ _ => rfl) (fun q r uw _ _ _ _ => Gives.run rfl (r_fieldAddr (off' := 0) fld110_0 (by decide) (b := b19) (off := 0) rfl (by omega)) ⟨rfl, rfl⟩) ?_
   refine WalkC.eff 2 rfl (fun r uw96 hF98 => ?_) ?_
   ·obtain ⟨b78, key86, c87, sp88, e27, e28, hS79, hS94, H97⟩ := hF98
    dsimp only [List.take, List.map, List.cons_append, List.nil_append]
    rw [e27, e28]
    refine Gives.ofW0 rfl (fun Q' hK => ?_)
    refine d_store (k := 7) (v := .slice (ownA key86) (zi + 1) c87) (cs' := #[.slice (ownA key86) (zi + 1) c87, sN0, sN0]) H97 rfl rfl rfl siz39 (by rfl) (oneL rfl) (by exact bLe rfl) (by rfl) ?_
    intro w99 H100 hC101
    have H100' := H100.as (L' := (_ :: _ :: _ :: _ :: _ :: _ :: _ :: _ :: _ :: _ :: _ :: R)) rfl
    clear H100
    exact hK _ (fun _ => ⟨b78, key86, c87, sp88, rfl, rfl, trivial, hS79, hS94, H100'⟩)
   refine WalkC.nil ?_
   intro r102 w103 hF105
   obtain ⟨b78, key86, c87, sp88, e27, e28, e32, hS79, hS94, H104⟩ := hF105
   dsimp only
   rw [e27, e28]
   refine wnil ?_
   refine blockNormal ?_
   refine thenNormal ?_
   refine oneRegion ?_
   refine sq (r_addI (a := (zi : Nat)) (b := (1 : Int)) rfl rfl (by omega)) ?_
   refine sM (i64 ((zi : Nat) + (1 : Int))) rfl ?_
   refine wnil ?_
   refine thenNormal ?_
   rw [show (0 + 5 * zi) + 5 = 0 + 5 * (zi + 1) by omega] at H104
   exact ⟨(zi + 1, key55, c56, sp57, key86, c87, sp88), _, rfl, ⟨rfl, rfl, rfl, rfl, rfl, rfl, rfl, rfl, rfl, trivial⟩, ⟨⟨by omega, hS63, hS94⟩, (H104.pick 11 [5, 6, 7, 8, 9, 10, 3, 4] (by decide) (by decide))⟩, by show n1 - (zi + 1) < n1 - zi; omega⟩
  ·obtain rfl : n1 = zi := by omega
   let x28 : Value := .slice (ownA kyta) n1 ccta
   let x14 : Option Nat × Obj := (kytb, sob ETr 66 (rowsOf (trB ws) 0 n1) zztb)
   let x6 : Option Nat × Obj := (kyta, sob ETr 66 (rowsOf (trA ws) 0 n1) zzta)
   refine exitAny ?_
   refine thenExit ?_
   refine thenExit ?_
   refine blockHere ?_
   refine thenNormal ?_
   refine seqAny ?_
   refine sR ?_
   refine sM (iN n2) rfl ?_
   refine sM (i64 0) rfl ?_
   refine wend ?_
   refine blockAny ?_
   refine loopAny (σ := Nat × Option Nat × Nat × List Value × Option Nat × Nat × List Value) (fun (zi, kyba, ccba, zzba, kybb, ccbb, zzbb) => [(0, pT b), (1, iN n1), (2, iN n2), (3, iN n3), (8, pT b1), (9, .nilIface), (12, pT b23), (115, iN n2), (116, iN zi)]) (fun (zi, kyba, ccba, zzba, kybb, ccbb, zzbb) w' => (zi ≤ n2 ∧ Sl ETr kyba (rowsOf (trA ws) (5 * n1) zi) ccba zzba ∧ Sl ETr kybb (rowsOf (biB ws) (5 * n1) zi) ccbb zzbb) ∧ Hp No w₀ w' (x7 :: (rc b15 #[.slice (ownA kyta) n1 ccta, .slice (ownA kyba) zi ccba, sN0] 114) :: (rc b19 #[.slice (ownA kytb) n1 cctb, .slice (ownA kybb) zi ccbb, sN0] 114) :: x6 :: x14 :: (kyba, sob ETr 66 (rowsOf (trA ws) (5 * n1) zi) zzba) :: (kybb, sob ETr 66 (rowsOf (biB ws) (5 * n1) zi) zzbb) :: x3 :: (rc b #[.slice (ownA key) ws.length c, .pointer none, iN ws.length, iN (5 * n1 + 5 * zi)] 96) :: x9 :: R)) (fun (zi, kyba, ccba, zzba, kybb, ccbb, zzbb) => n2 - zi) ((0, none, 0, [], none, 0, [])) ?_ ?_ ?_
   ·exact ⟨rfl, rfl, rfl, rfl, rfl, rfl, rfl, rfl, rfl, trivial⟩
   rw [show 0 + 5 * n1 = 5 * n1 + 5 * 0 by omega] at HL0
   ·exact ⟨⟨Nat.zero_le _, Sl.none, Sl.none⟩, (((HL0.nil (sob ETr 66 [] [])).nil (sob ETr 66 [] [])).pick 10 [2, 3, 4, 5, 6, 1, 0, 7, 8, 9] (by decide) (by decide))⟩
   rintro ⟨zi, kyba, ccba, zzba, kybb, ccbb, zzbb⟩ ρ w106 ⟨⟨hzi, hkyba, hkybb⟩, HL1⟩
   let x44 : Option Nat × Obj := (kyba, sob ETr 66 (rowsOf (trA ws) (5 * n1) zi) zzba)
   let x40 := rc b15 #[x28, .slice (ownA kyba) zi ccba, sN0] 114
   let x34 : Array Value := #[u64 (ws.getD (5 * n1 + 5 * zi) 0#64), u64 (ws.getD ((5 * n1 + 5 * zi) + 2) 0#64), u64 (ws.getD ((5 * n1 + 5 * zi) + 4) 0#64)]
   let x26 : Option Nat × Obj := (kybb, sob ETr 66 (rowsOf (biB ws) (5 * n1) zi) zzbb)
   let x16 := rc b19 #[.slice (ownA kytb) n1 cctb, .slice (ownA kybb) zi ccbb, sN0] 114
   let x10 : Array Value := #[u64 (ws.getD ((5 * n1 + 5 * zi) + 1) 0#64), u64 (ws.getD ((5 * n1 + 5 * zi) + 3) 0#64), u64 ((((ws.getD (5 * n1 + 5 * zi) 0#64) ^^^ (ws.getD ((5 * n1 + 5 * zi) + 1) 0#64)) &&& ((ws.getD ((5 * n1 + 5 * zi) + 2) 0#64) ^^^ (ws.getD ((5 * n1 + 5 * zi) + 3) 0#64))) ^^^ (ws.getD ((5 * n1 + 5 * zi) + 4) 0#64))]
   refine sR ?_
   refine sq (r_lssI (a := (zi : Nat)) (b := (n2 : Nat)) rfl rfl) ?_
   refine wend ?_
   refine seqAny ?_
   refine condProp (((zi : Nat) : Int) < (n2 : Nat)) rfl (fun c117 => ?_) (fun c117 => ?_)
   ·refine skipAny ?_
    refine thenNormal ?_
    refine seqAny ?_
    refine blockAny ?_
    refine sR ?_
    refine sM (pT b) rfl ?_
    have H108 := ((HL1.pick 10 [8, 9, 0, 1, 2, 3, 4, 5, 6, 7] (by decide) (by decide))).as (L' := (_ :: _ :: _)) rfl
    refine c_call (vs := [pT b]) call40 rfl (five_ok b key c sp ws hSw hlen (5 * n1 + 5 * zi) (by omega) (x7 :: x40 :: x16 :: x6 :: x14 :: x44 :: x26 :: x3 :: R) w₀ w106 H108) ?_
    rintro _ w109 ⟨rfl, HN111⟩
    have H112 := HN111.as (L' := (_ :: _ :: _ :: _ :: _ :: _ :: _ :: _ :: _ :: _ :: R)) rfl
    refine q_alloc (o := .cells (cel E64 (List.replicate 5 0#64)).toArray 117 (0, 0)) H112 zer117 (by kernel_rfl) ?_
    intro b113 w114 hb113 H115 hE116
    let x4 := re b113 E64 ([ws.getD (5 * n1 + 5 * zi) 0#64, ws.getD ((5 * n1 + 5 * zi) + 1) 0#64, ws.getD ((5 * n1 + 5 * zi) + 2) 0#64, ws.getD ((5 * n1 + 5 * zi) + 3) 0#64, ws.getD ((5 * n1 + 5 * zi) + 4) 0#64]) 117
    refine d_store (k := 0) (v := .agg (cel E64 [ws.getD (5 * n1 + 5 * zi) 0#64, ws.getD ((5 * n1 + 5 * zi) + 1) 0#64, ws.getD ((5 * n1 + 5 * zi) + 2) 0#64, ws.getD ((5 * n1 + 5 * zi) + 3) 0#64, ws.getD ((5 * n1 + 5 * zi) + 4) 0#64]).toArray) (cs' := (cel E64 ([ws.getD (5 * n1 + 5 * zi) 0#64, ws.getD ((5 * n1 + 5 * zi) + 1) 0#64, ws.getD ((5 * n1 + 5 * zi) + 2) 0#64, ws.getD ((5 * n1 + 5 * zi) + 3) 0#64, ws.getD ((5 * n1 + 5 * zi) + 4) 0#64])).toArray) H115 rfl rfl rfl siz117 (by exact celSize (by first | rfl | (show _ * 1 = _; omega))) (by exact celOne _) (by rw [List.size_toArray, cel_length]; show _ ≤ _ * 1; first | omega | (simp only [List.length_set]; omega) | exact bLe rfl | (simp <;> omega)) (by exact putAll (by first | rfl | omega | (simp <;> omega))) ?_
    intro w117 H118 hC119
    have H118' := H118.as (L' := (_ :: _ :: _ :: _ :: _ :: _ :: _ :: _ :: _ :: _ :: _ :: R)) rfl
    clear H118
    refine wend ?_
    refine seqAny ?_
    refine drawC (m := 21) [0, 1, 0, 4, 12, 28, 60, 124, 0, 256, 0, 1024, 0, 4096, 16128, 32512, 65532, 131071, 262143, 524287, 1048575] [15, 16, 20] (fun q vs w' => match q, vs with | 0, [] => Hp No w₀ w' (x4 :: (rc b #[.slice (ownA key) ws.length c, .pointer none, iN ws.length, iN ((5 * n1 + 5 * zi) + 5)] 96) :: x9 :: x7 :: x40 :: x16 :: x6 :: x14 :: x44 :: x26 :: x3 :: R) | 1, [v0] => ∃ (b123 : Nat), v0 = .slice (ownA (some b123)) 1 1 ∧ Sl ETr (some b123) ([⟨ws.getD (5 * n1 + 5 * zi) 0#64, ws.getD ((5 * n1 + 5 * zi) + 2) 0#64, ws.getD ((5 * n1 + 5 * zi) + 4) 0#64⟩] : List Tr) 1 ([]) ∧ Hp No w₀ w' (((some b123), sob ETr 66 ([⟨ws.getD (5 * n1 + 5 * zi) 0#64, ws.getD ((5 * n1 + 5 * zi) + 2) 0#64, ws.getD ((5 * n1 + 5 * zi) + 4) 0#64⟩] : List Tr) ([])) :: x4 :: (rc b #[.slice (ownA key) ws.length c, .pointer none, iN ws.length, iN ((5 * n1 + 5 * zi) + 5)] 96) :: x9 :: x7 :: x40 :: x16 :: x6 :: x14 :: x44 :: x26 :: x3 :: R) | 2, [v0, v1] => ∃ (b123 : Nat) (key131 : Option Nat) (c132 : Nat) (sp133 : List Value), v0 = .slice (ownA (some b123)) 1 1 ∧ v1 = .slice (ownA key131) (zi + 1) c132 ∧ Sl ETr (some b123) ([⟨ws.getD (5 * n1 + 5 * zi) 0#64, ws.getD ((5 * n1 + 5 * zi) + 2) 0#64, ws.getD ((5 * n1 + 5 * zi) + 4) 0#64⟩] : List Tr) 1 ([]) ∧ Sl ETr key131 (rowsOf (trA ws) (5 * n1) (zi + 1)) c132 sp133 ∧ Hp No w₀ w' (((some b123), sob ETr 66 ([⟨ws.getD (5 * n1 + 5 * zi) 0#64, ws.getD ((5 * n1 + 5 * zi) + 2) 0#64, ws.getD ((5 * n1 + 5 * zi) + 4) 0#64⟩] : List Tr) ([])) :: x4 :: (rc b #[.slice (ownA key) ws.length c, .pointer none, iN ws.length, iN ((5 * n1 + 5 * zi) + 5)] 96) :: x9 :: x7 :: x40 :: x16 :: x6 :: x14 :: (key131, sob ETr 66 (rowsOf (trA ws) (5 * n1) (zi + 1)) sp133) :: x26 :: x3 :: R) | 3, [v0, v1, _] => ∃ (b123 : Nat) (key131 : Option Nat) (c132 : Nat) (sp133 : List Value), v0 = .slice (ownA (some b123)) 1 1 ∧ v1 = .slice (ownA key131) (zi + 1) c132 ∧ True ∧ Sl ETr (some b123) ([⟨ws.getD (5 * n1 + 5 * zi) 0#64, ws.getD ((5 * n1 + 5 * zi) + 2) 0#64, ws.getD ((5 * n1 + 5 * zi) + 4) 0#64⟩] : List Tr) 1 ([]) ∧ Sl ETr key131 (rowsOf (trA ws) (5 * n1) (zi + 1)) c132 sp133 ∧ Hp No w₀ w' (((some b123), sob ETr 66 ([⟨ws.getD (5 * n1 + 5 * zi) 0#64, ws.getD ((5 * n1 + 5 * zi) + 2) 0#64, ws.getD ((5 * n1 + 5 * zi) + 4) 0#64⟩] : List Tr) ([])) :: x4 :: (rc b #[.slice (ownA key) ws.length c, .pointer none, iN ws.length, iN ((5 * n1 + 5 * zi) + 5)] 96) :: x9 :: x7 :: (rc b15 #[.slice (ownA kyta) n1 ccta, .slice (ownA key131) (zi + 1) c132, sN0] 114) :: x16 :: x6 :: x14 :: (key131, sob ETr 66 (rowsOf (trA ws) (5 * n1) (zi + 1)) sp133) :: x26 :: x3 :: R) | _, _ => False) mixed (by kernel_rfl) (by kernel_rfl) H118'.drew ?_
    refine WalkC.look rfl (fun _ => pT b23) (fun _ _ _ => rfl) (fun q r uw _ _ _ _ => Gives.run rfl (r_indexA (off' := 0) (j := 0) arr38 (b := b23) (off := 0) rfl rfl (by first | rfl | omega | (simp; omega)) (by omega) (by omega)) ⟨rfl, rfl⟩) ?_
    refine WalkC.look rfl (fun _ => pT b15) (fun _ _ _ => rfl) (fun q r uw hlo hhi hle hF => ?_) ?_
    ·have h1 : 0 ≤ q := Nat.zero_le _
     have h2 : q ≤ 2 := hhi 2 20 rfl rfl
     rcases (show q = 0 ∨ q = 1 ∨ q = 2 by omega) with rfl | rfl | rfl
     ·have HH := hF
      exact Gives.run rfl (r_loadC (v := pT b15) one37 (HH.get (k := 3) rfl) (off := 0) rfl (by rfl)) ⟨rfl, rfl⟩
     ·obtain ⟨b123, e15, hS124, HH⟩ := hF
      exact Gives.run rfl (r_loadC (v := pT b15) one37 (HH.get (k := 4) rfl) (off := 0) rfl (by rfl)) ⟨rfl, rfl⟩
     ·obtain ⟨b123, key131, c132, sp133, e15, e16, hS124, hS139, HH⟩ := hF
      exact Gives.run rfl (r_loadC (v := pT b15) one37 (HH.get (k := 4) rfl) (off := 0) rfl (by rfl)) ⟨rfl, rfl⟩
    refine WalkC.look rfl (fun _ => pT b23) (fun _ _ _ => rfl) (fun q r uw _ _ _ _ => Gives.run rfl (r_indexA (off' := 0) (j := 0) arr38 (b := b23) (off := 0) rfl rfl (by first | rfl | omega | (simp; omega)) (by omega) (by omega)) ⟨rfl, rfl⟩) ?_
    refine WalkC.look rfl (fun _ => pT b15) (fun _ _ _ => rfl) (fun q r uw hlo hhi hle hF => ?_) ?_
    ·have h1 : 0 ≤ q := Nat.zero_le _
     have h2 : q ≤ 1 := hhi 1 16 rfl rfl
     rcases (show q = 0 ∨ q = 1 by omega) with rfl | rfl
     ·have HH := hF
      exact Gives.run rfl (r_loadC (v := pT b15) one37 (HH.get (k := 3) rfl) (off := 0) rfl (by rfl)) ⟨rfl, rfl⟩
     ·obtain ⟨b123, e15, hS124, HH⟩ := hF
      exact Gives.run rfl (r_loadC (v := pT b15) one37 (HH.get (k := 4) rfl) (off := 0) rfl (by rfl)) ⟨rfl, rfl⟩
    refine WalkC.look rfl (fun _ => pT b15) (fun _ _ _ => rfl) (fun q r uw _ _ _ _ => Gives.run rfl (r_nilCheck rfl) ⟨rfl, rfl⟩) ?_
    refine WalkC.look rfl (fun _ => .pointer x32) (fun _ _ _ => rfl) (fun q r uw _ _ _ _ => Gives.run rfl (r_fieldAddr (off' := 1) fld114_1 (by decide) (b := b15) (off := 0) rfl (by omega)) ⟨rfl, rfl⟩) ?_
    refine WalkC.look rfl (fun _ => .pointer x32) (fun _ _ _ => rfl) (fun q r uw _ _ _ _ => Gives.run rfl (r_fieldAddr (off' := 1) fld110_0 (by decide) (b := b15) (off := 1) rfl (by omega)) ⟨rfl, rfl⟩) ?_
    refine WalkC.look rfl (fun _ => .slice (ownA kyba) zi ccba) (fun _ _ _ => rfl) (fun q r uw hlo hhi hle hF => ?_) ?_
    ·have h1 : 0 ≤ q := Nat.zero_le _
     have h2 : q ≤ 1 := hhi 1 16 rfl rfl
     rcases (show q = 0 ∨ q = 1 by omega) with rfl | rfl
     ·have HH := hF
      exact Gives.run rfl (r_loadC (v := .slice (ownA kyba) zi ccba) one39 (HH.get (k := 4) rfl) (off := 1) rfl (by rfl)) ⟨rfl, rfl⟩
     ·obtain ⟨b123, e15, hS124, HH⟩ := hF
      exact Gives.run rfl (r_loadC (v := .slice (ownA kyba) zi ccba) one39 (HH.get (k := 5) rfl) (off := 1) rfl (by rfl)) ⟨rfl, rfl⟩
    refine WalkC.look rfl (fun _ => pT b113) (fun _ _ _ => rfl) (fun q r uw _ _ _ _ => Gives.run rfl (r_indexA (off' := 0) (j := 0) arr117 (b := b113) (off := 0) rfl rfl (by first | rfl | omega | (simp; omega)) (by omega) (by omega)) ⟨rfl, rfl⟩) ?_
    refine WalkC.look rfl (fun _ => u64 (ws.getD (5 * n1 + 5 * zi) 0#64)) (fun _ _ _ => rfl) (fun q r uw hlo hhi hle hF => ?_) ?_
    ·have h1 : 0 ≤ q := Nat.zero_le _
     have h2 : q ≤ 0 := hhi 0 15 rfl rfl
     rcases (show q = 0 by omega) with rfl
     ·have HH := hF
      exact Gives.run rfl (r_ld1 (E := E64) (l := [ws.getD (5 * n1 + 5 * zi) 0#64, ws.getD ((5 * n1 + 5 * zi) + 1) 0#64, ws.getD ((5 * n1 + 5 * zi) + 2) 0#64, ws.getD ((5 * n1 + 5 * zi) + 3) 0#64, ws.getD ((5 * n1 + 5 * zi) + 4) 0#64]) (j := 0) (a := ws.getD (5 * n1 + 5 * zi) 0#64) fits34 (HH.get (k := 0) rfl) (by rfl) rfl rfl) ⟨rfl, rfl⟩
    refine WalkC.look rfl (fun _ => .pointer (some ⟨b113, 2, none⟩)) (fun _ _ _ => rfl) (fun q r uw _ _ _ _ => Gives.run rfl (r_indexA (off' := 2) (j := 2) arr117 (b := b113) (off := 0) rfl rfl (by first | rfl | omega | (simp; omega)) (by omega) (by omega)) ⟨rfl, rfl⟩) ?_
    refine WalkC.look rfl (fun _ => u64 (ws.getD ((5 * n1 + 5 * zi) + 2) 0#64)) (fun _ _ _ => rfl) (fun q r uw hlo hhi hle hF => ?_) ?_
    ·have h1 : 0 ≤ q := Nat.zero_le _
     have h2 : q ≤ 0 := hhi 0 15 rfl rfl
     rcases (show q = 0 by omega) with rfl
     ·have HH := hF
      exact Gives.run rfl (r_ld1 (E := E64) (l := [ws.getD (5 * n1 + 5 * zi) 0#64, ws.getD ((5 * n1 + 5 * zi) + 1) 0#64, ws.getD ((5 * n1 + 5 * zi) + 2) 0#64, ws.getD ((5 * n1 + 5 * zi) + 3) 0#64, ws.getD ((5 * n1 + 5 * zi) + 4) 0#64]) (j := 2) (a := ws.getD ((5 * n1 + 5 * zi) + 2) 0#64) fits34 (HH.get (k := 0) rfl) (by rfl) rfl rfl) ⟨rfl, rfl⟩
    refine WalkC.look rfl (fun _ => .pointer (some ⟨b113, 4, none⟩)) (fun _ _ _ => rfl) (fun q r uw _ _ _ _ => Gives.run rfl (r_indexA (off' := 4) (j := 4) arr117 (b := b113) (off := 0) rfl rfl (by first | rfl | omega | (simp; omega)) (by omega) (by omega)) ⟨rfl, rfl⟩) ?_
    refine WalkC.look rfl (fun _ => u64 (ws.getD ((5 * n1 + 5 * zi) + 4) 0#64)) (fun _ _ _ => rfl) (fun q r uw hlo hhi hle hF => ?_) ?_
    ·have h1 : 0 ≤ q := Nat.zero_le _
     have h2 : q ≤ 0 := hhi 0 15 rfl rfl
     rcases (show q = 0 by omega) with rfl
     ·have HH := hF
      exact Gives.run rfl (r_ld1 (E := E64) (l := [ws.getD (5 * n1 + 5 * zi) 0#64, ws.getD ((5 * n1 + 5 * zi) + 1) 0#64, ws.getD ((5 * n1 + 5 * zi) + 2) 0#64, ws.getD ((5 * n1 + 5 * zi) + 3) 0#64, ws.getD ((5 * n1 + 5 * zi) + 4) 0#64]) (j := 4) (a := ws.getD ((5 * n1 + 5 * zi) + 4) 0#64) fits34 (HH.get (k := 0) rfl) (by rfl) rfl rfl) ⟨rfl, rfl⟩
    refine WalkC.look rfl (fun _ => .agg x34) (fun _ _ _ => rfl) (fun q r uw _ _ _ _ => Gives.run rfl (r_build (cs' := x34) (ps := [(0, u64 (ws.getD (5 * n1 + 5 * zi) 0#64)), (1, u64 (ws.getD ((5 * n1 + 5 * zi) + 2) 0#64)), (2, u64 (ws.getD ((5 * n1 + 5 * zi) + 4) 0#64))]) zer66 pls66 rfl (by rfl)) ⟨rfl, rfl⟩) ?_
    refine WalkC.eff 0 rfl (fun r uw120 hF122 => ?_) ?_
    ·have H121 := hF122
     dsimp only [List.take, List.map, List.cons_append, List.nil_append]
     refine Gives.ofW (d := 135) rfl rfl (fun Q' hK => ?_)
     refine q_buildSlice (E := ETr) (l := ([⟨ws.getD (5 * n1 + 5 * zi) 0#64, ws.getD ((5 * n1 + 5 * zi) + 2) 0#64, ws.getD ((5 * n1 + 5 * zi) + 4) 0#64⟩] : List Tr)) H121 sli39 zer66 (bLe rfl) (ps := [(0, .agg x34)]) rfl (by exact fillAll rfl rfl) rfl ?_
     intro b123 w125 hS124 H126 hE127
     exact hK _ _ ⟨b123, rfl, hS124, H126⟩
    refine WalkC.eff 1 rfl (fun r uw128 hF130 => ?_) ?_
    ·obtain ⟨b123, e15, hS124, H129⟩ := hF130
     dsimp only [List.take, List.map, List.cons_append, List.nil_append]
     rw [e15]
     refine Gives.ofW (d := 136) rfl rfl (fun Q' hK => ?_)
     refine q_append (E := ETr) (k := 9) (l := rowsOf (trA ws) (5 * n1) zi) (l2 := ([⟨ws.getD (5 * n1 + 5 * zi) 0#64, ws.getD ((5 * n1 + 5 * zi) + 2) 0#64, ws.getD ((5 * n1 + 5 * zi) + 4) 0#64⟩] : List Tr)) H129 rfl hkyba sli39 zer66 rfl byt66 (H129.rd (k := 0) rfl hS124) rfl (by rw [rowsOf_len]) rfl (by rfl) (by omega) ?_
     intro key131 c132 sp133 w135 hS134 hne137 H136
     have H136' := H136.as (L' := (_ :: _ :: _ :: _ :: _ :: _ :: _ :: _ :: _ :: _ :: _ :: _ :: R)) rfl
     clear H136
     have e138 : (rowsOf (trA ws) (5 * n1) zi) ++ ([⟨ws.getD (5 * n1 + 5 * zi) 0#64, ws.getD ((5 * n1 + 5 * zi) + 2) 0#64, ws.getD ((5 * n1 + 5 * zi) + 4) 0#64⟩] : List Tr) = rowsOf (trA ws) (5 * n1) (zi + 1) := by rw [rowsOf_succ]; rfl
     have hS139 := hS134
     rw [e138] at hS139
     have H140 := H136'.as (L' := (((some b123), sob ETr 66 ([⟨ws.getD (5 * n1 + 5 * zi) 0#64, ws.getD ((5 * n1 + 5 * zi) + 2) 0#64, ws.getD ((5 * n1 + 5 * zi) + 4) 0#64⟩] : List Tr) ([])) :: (re b113 E64 ([ws.getD (5 * n1 + 5 * zi) 0#64, ws.getD ((5 * n1 + 5 * zi) + 1) 0#64, ws.getD ((5 * n1 + 5 * zi) + 2) 0#64, ws.getD ((5 * n1 + 5 * zi) + 3) 0#64, ws.getD ((5 * n1 + 5 * zi) + 4) 0#64]) 117) :: (rc b #[.slice (ownA key) ws.length c, .pointer none, iN ws.length, iN ((5 * n1 + 5 * zi) + 5)] 96) :: (key, sob E64 34 ws sp) :: (rc b23 #[pT b15, pT b19] 38) :: (rc b15 #[.slice (ownA kyta) n1 ccta, .slice (ownA kyba) zi ccba, sN0] 114) :: (rc b19 #[.slice (ownA kytb) n1 cctb, .slice (ownA kybb) zi ccbb, sN0] 114) :: (kyta, sob ETr 66 (rowsOf (trA ws) 0 n1) zzta) :: (kytb, sob ETr 66 (rowsOf (trB ws) 0 n1) zztb) :: (key131, sob ETr 66 (rowsOf (trA ws) (5 * n1) (zi + 1)) sp133) :: (kybb, sob ETr 66 (rowsOf (biB ws) (5 * n1) zi) zzbb) :: (rc b1 #[.pointer none, .pointer none] 38) :: R)) (by rw [e138])
     exact hK _ _ ⟨b123, key131, c132, sp133, rfl, rfl, hS124, hS139, H140⟩
    refine WalkC.look rfl (fun _ => pT b15) (fun _ _ _ => rfl) (fun q r uw _ _ _ _ => Gives.run rfl (r_nilCheck rfl) ⟨rfl, rfl⟩) ?_
    refine WalkC.look rfl (fun _ => .pointer x32) (fun _ _ _ => rfl) (fun q r uw _ _ _ _ => Gives.run rfl (r_fieldAddr (off' := 1) fld114_1 (by decide) (b := b15) (off := 0) rfl (by omega)) ⟨rfl, rfl⟩) ?_
    refine WalkC.look rfl (fun _ => .pointer x32) (fun _ _ _ => rfl) (fun q r uw _ _ _ _ => Gives.run rfl (r_fieldAddr (off' := 1) fld110_0 (by decide) (b := b15) (off := 1) rfl (by omega)) ⟨rfl, rfl⟩) ?_
    refine WalkC.eff 2 rfl (fun r uw141 hF143 => ?_) ?_
    ·obtain ⟨b123, key131, c132, sp133, e15, e16, hS124, hS139, H142⟩ := hF143
     dsimp only [List.take, List.map, List.cons_append, List.nil_append]
     rw [e15, e16]
     refine Gives.ofW0 rfl (fun Q' hK => ?_)
     refine d_store (k := 5) (v := .slice (ownA key131) (zi + 1) c132) (cs' := #[.slice (ownA kyta) n1 ccta, .slice (ownA key131) (zi + 1) c132, sN0]) H142 rfl rfl rfl siz39 (by rfl) (oneL rfl) (by exact bLe rfl) (by rfl) ?_
     intro w144 H145 hC146
     have H145' := H145.as (L' := (_ :: _ :: _ :: _ :: _ :: _ :: _ :: _ :: _ :: _ :: _ :: _ :: R)) rfl
     clear H145
     exact hK _ (fun _ => ⟨b123, key131, c132, sp133, rfl, rfl, trivial, hS124, hS139, H145'⟩)
    refine WalkC.nil ?_
    intro r147 w148 hF150
    obtain ⟨b123, key131, c132, sp133, e15, e16, e20, hS124, hS139, H149⟩ := hF150
    let x20 : Option Nat × Obj := (key131, sob ETr 66 (rowsOf (trA ws) (5 * n1) (zi + 1)) sp133)
    dsimp only
    rw [e15, e16]
    refine wnil ?_
    refine thenNormal ?_
    refine drawC (m := 33) [0, 1, 0, 4, 12, 28, 60, 124, 0, 256, 0, 1024, 0, 4096, 0, 16384, 61440, 0, 131072, 0, 524288, 1966080, 4190208, 0, 8388608, 33550336, 67108608, 134217472, 268435452, 536870911, 1073741823, 2147483647, 4294967295] [27, 28, 32] (fun q vs w' => match q, vs with | 0, [] => Hp No w₀ w' (((some b123), sob ETr 66 ([⟨ws.getD (5 * n1 + 5 * zi) 0#64, ws.getD ((5 * n1 + 5 * zi) + 2) 0#64, ws.getD ((5 * n1 + 5 * zi) + 4) 0#64⟩] : List Tr) ([])) :: x4 :: (rc b #[.slice (ownA key) ws.length c, .pointer none, iN ws.length, iN ((5 * n1 + 5 * zi) + 5)] 96) :: x9 :: x7 :: (rc b15 #[.slice (ownA kyta) n1 ccta, .slice (ownA key131) (zi + 1) c132, sN0] 114) :: x16 :: x6 :: x14 :: x20 :: x26 :: x3 :: R) | 1, [v0] => ∃ (b154 : Nat), v0 = .slice (ownA (some b154)) 1 1 ∧ Sl ETr (some b154) ([⟨ws.getD ((5 * n1 + 5 * zi) + 1) 0#64, ws.getD ((5 * n1 + 5 * zi) + 3) 0#64, (((ws.getD (5 * n1 + 5 * zi) 0#64) ^^^ (ws.getD ((5 * n1 + 5 * zi) + 1) 0#64)) &&& ((ws.getD ((5 * n1 + 5 * zi) + 2) 0#64) ^^^ (ws.getD ((5 * n1 + 5 * zi) + 3) 0#64))) ^^^ (ws.getD ((5 * n1 + 5 * zi) + 4) 0#64)⟩] : List Tr) 1 ([]) ∧ Hp No w₀ w' (((some b154), sob ETr 66 ([⟨ws.getD ((5 * n1 + 5 * zi) + 1) 0#64, ws.getD ((5 * n1 + 5 * zi) + 3) 0#64, (((ws.getD (5 * n1 + 5 * zi) 0#64) ^^^ (ws.getD ((5 * n1 + 5 * zi) + 1) 0#64)) &&& ((ws.getD ((5 * n1 + 5 * zi) + 2) 0#64) ^^^ (ws.getD ((5 * n1 + 5 * zi) + 3) 0#64))) ^^^ (ws.getD ((5 * n1 + 5 * zi) + 4) 0#64)⟩] : List Tr) ([])) :: ((some b123), sob ETr 66 ([⟨ws.getD (5 * n1 + 5 * zi) 0#64, ws.getD ((5 * n1 + 5 * zi) + 2) 0#64, ws.getD ((5 * n1 + 5 * zi) + 4) 0#64⟩] : List Tr) ([])) :: x4 :: (rc b #[.slice (ownA key) ws.length c, .pointer none, iN ws.length, iN ((5 * n1 + 5 * zi) + 5)] 96) :: x9 :: x7 :: (rc b15 #[.slice (ownA kyta) n1 ccta, .slice (ownA key131) (zi + 1) c132, sN0] 114) :: x16 :: x6 :: x14 :: x20 :: x26 :: x3 :: R) | 2, [v0, v1] => ∃ (b154 : Nat) (key162 : Option Nat) (c163 : Nat) (sp164 : List Value), v0 = .slice (ownA (some b154)) 1 1 ∧ v1 = .slice (ownA key162) (zi + 1) c163 ∧ Sl ETr (some b154) ([⟨ws.getD ((5 * n1 + 5 * zi) + 1) 0#64, ws.getD ((5 * n1 + 5 * zi) + 3) 0#64, (((ws.getD (5 * n1 + 5 * zi) 0#64) ^^^ (ws.getD ((5 * n1 + 5 * zi) + 1) 0#64)) &&& ((ws.getD ((5 * n1 + 5 * zi) + 2) 0#64) ^^^ (ws.getD ((5 * n1 + 5 * zi) + 3) 0#64))) ^^^ (ws.getD ((5 * n1 + 5 * zi) + 4) 0#64)⟩] : List Tr) 1 ([]) ∧ Sl ETr key162 (rowsOf (biB ws) (5 * n1) (zi + 1)) c163 sp164 ∧ Hp No w₀ w' (((some b154), sob ETr 66 ([⟨ws.getD ((5 * n1 + 5 * zi) + 1) 0#64, ws.getD ((5 * n1 + 5 * zi) + 3) 0#64, (((ws.getD (5 * n1 + 5 * zi) 0#64) ^^^ (ws.getD ((5 * n1 + 5 * zi) + 1) 0#64)) &&& ((ws.getD ((5 * n1 + 5 * zi) + 2) 0#64) ^^^ (ws.getD ((5 * n1 + 5 * zi) + 3) 0#64))) ^^^ (ws.getD ((5 * n1 + 5 * zi) + 4) 0#64)⟩] : List Tr) ([])) :: ((some b123), sob ETr 66 ([⟨ws.getD (5 * n1 + 5 * zi) 0#64, ws.getD ((5 * n1 + 5 * zi) + 2) 0#64, ws.getD ((5 * n1 + 5 * zi) + 4) 0#64⟩] : List Tr) ([])) :: x4 :: (rc b #[.slice (ownA key) ws.length c, .pointer none, iN ws.length, iN ((5 * n1 + 5 * zi) + 5)] 96) :: x9 :: x7 :: (rc b15 #[.slice (ownA kyta) n1 ccta, .slice (ownA key131) (zi + 1) c132, sN0] 114) :: x16 :: x6 :: x14 :: x20 :: (key162, sob ETr 66 (rowsOf (biB ws) (5 * n1) (zi + 1)) sp164) :: x3 :: R) | 3, [v0, v1, _] => ∃ (b154 : Nat) (key162 : Option Nat) (c163 : Nat) (sp164 : List Value), v0 = .slice (ownA (some b154)) 1 1 ∧ v1 = .slice (ownA key162) (zi + 1) c163 ∧ True ∧ Sl ETr (some b154) ([⟨ws.getD ((5 * n1 + 5 * zi) + 1) 0#64, ws.getD ((5 * n1 + 5 * zi) + 3) 0#64, (((ws.getD (5 * n1 + 5 * zi) 0#64) ^^^ (ws.getD ((5 * n1 + 5 * zi) + 1) 0#64)) &&& ((ws.getD ((5 * n1 + 5 * zi) + 2) 0#64) ^^^ (ws.getD ((5 * n1 + 5 * zi) + 3) 0#64))) ^^^ (ws.getD ((5 * n1 + 5 * zi) + 4) 0#64)⟩] : List Tr) 1 ([]) ∧ Sl ETr key162 (rowsOf (biB ws) (5 * n1) (zi + 1)) c163 sp164 ∧ Hp No w₀ w' (((some b154), sob ETr 66 ([⟨ws.getD ((5 * n1 + 5 * zi) + 1) 0#64, ws.getD ((5 * n1 + 5 * zi) + 3) 0#64, (((ws.getD (5 * n1 + 5 * zi) 0#64) ^^^ (ws.getD ((5 * n1 + 5 * zi) + 1) 0#64)) &&& ((ws.getD ((5 * n1 + 5 * zi) + 2) 0#64) ^^^ (ws.getD ((5 * n1 + 5 * zi) + 3) 0#64))) ^^^ (ws.getD ((5 * n1 + 5 * zi) + 4) 0#64)⟩] : List Tr) ([])) :: ((some b123), sob ETr 66 ([⟨ws.getD (5 * n1 + 5 * zi) 0#64, ws.getD ((5 * n1 + 5 * zi) + 2) 0#64, ws.getD ((5 * n1 + 5 * zi) + 4) 0#64⟩] : List Tr) ([])) :: x4 :: (rc b #[.slice (ownA key) ws.length c, .pointer none, iN ws.length, iN ((5 * n1 + 5 * zi) + 5)] 96) :: x9 :: x7 :: (rc b15 #[.slice (ownA kyta) n1 ccta, .slice (ownA key131) (zi + 1) c132, sN0] 114) :: (rc b19 #[.slice (ownA kytb) n1 cctb, .slice (ownA key162) (zi + 1) c163, sN0] 114) :: x6 :: x14 :: x20 :: (key162, sob ETr 66 (rowsOf (biB ws) (5 * n1) (zi + 1)) sp164) :: x3 :: R) | _, _ => False) mixed (by kernel_rfl) (by kernel_rfl) H149.drew ?_
    refine WalkC.look rfl (fun _ => .pointer x21) (fun _ _ _ => rfl) (fun q r uw _ _ _ _ => Gives.run rfl (r_indexA (off' := 1) (j := 1) arr38 (b := b23) (off := 0) rfl rfl (by first | rfl | omega | (simp; omega)) (by omega) (by omega)) ⟨rfl, rfl⟩) ?_
    refine WalkC.look rfl (fun _ => pT b19) (fun _ _ _ => rfl) (fun q r uw hlo hhi hle hF => ?_) ?_
    ·have h1 : 0 ≤ q := Nat.zero_le _
     have h2 : q ≤ 2 := hhi 2 32 rfl rfl
     rcases (show q = 0 ∨ q = 1 ∨ q = 2 by omega) with rfl | rfl | rfl
     ·have HH := hF
      exact Gives.run rfl (r_loadC (v := pT b19) one37 (HH.get (k := 4) rfl) (off := 1) rfl (by rfl)) ⟨rfl, rfl⟩
     ·obtain ⟨b154, e27, hS155, HH⟩ := hF
      exact Gives.run rfl (r_loadC (v := pT b19) one37 (HH.get (k := 5) rfl) (off := 1) rfl (by rfl)) ⟨rfl, rfl⟩
     ·obtain ⟨b154, key162, c163, sp164, e27, e28, hS155, hS170, HH⟩ := hF
      exact Gives.run rfl (r_loadC (v := pT b19) one37 (HH.get (k := 5) rfl) (off := 1) rfl (by rfl)) ⟨rfl, rfl⟩
    refine WalkC.look rfl (fun _ => .pointer x21) (fun _ _ _ => rfl) (fun q r uw _ _ _ _ => Gives.run rfl (r_indexA (off' := 1) (j := 1) arr38 (b := b23) (off := 0) rfl rfl (by first | rfl | omega | (simp; omega)) (by omega) (by omega)) ⟨rfl, rfl⟩) ?_
    refine WalkC.look rfl (fun _ => pT b19) (fun _ _ _ => rfl) (fun q r uw hlo hhi hle hF => ?_) ?_
    ·have h1 : 0 ≤ q := Nat.zero_le _
     have h2 : q ≤ 1 := hhi 1 28 rfl rfl
     rcases (show q = 0 ∨ q = 1 by omega) with rfl | rfl
     ·have HH := hF
      exact Gives.run rfl (r_loadC (v := pT b19) one37 (HH.get (k := 4) rfl) (off := 1) rfl (by rfl)) ⟨rfl, rfl⟩
     ·obtain ⟨b154, e27, hS155, HH⟩ := hF
      exact Gives.run rfl (r_loadC (v := pT b19) one37 (HH.get (k := 5) rfl) (off := 1) rfl (by rfl)) ⟨rfl, rfl⟩
    refine WalkC.look rfl (fun _ => pT b19) (fun _ _ _ => rfl) (fun q r uw _ _ _ _ => Gives.run rfl (r_nilCheck rfl) ⟨rfl, rfl⟩) ?_
    refine WalkC.look rfl (fun _ => .pointer x36) (fun _ _ _ => rfl) (fun q r uw _ _ _ _ => Gives.run rfl (r_fieldAddr (off' := 1) fld114_1 (by decide) (b := b19) (off := 0) rfl (by omega)) ⟨rfl, rfl⟩) ?_
    refine WalkC.look rfl (fun _ => .pointer x36) (fun _ _ _ => rfl) (fun q r uw _ _ _ _ => Gives.run rfl (r_fieldAddr (off' := 1) fld110_0 (by decide) (b := b19) (off := 1) rfl (by omega)) ⟨rfl, rfl⟩) ?_
    refine WalkC.look rfl (fun _ => .slice (ownA kybb) zi ccbb) (fun _ _ _ => rfl) (fun q r uw hlo hhi hle hF => ?_) ?_
    ·have h1 : 0 ≤ q := Nat.zero_le _
     have h2 : q ≤ 1 := hhi 1 28 rfl rfl
     rcases (show q = 0 ∨ q = 1 by omega) with rfl | rfl
     ·have HH := hF
      exact Gives.run rfl (r_loadC (v := .slice (ownA kybb) zi ccbb) one39 (HH.get (k := 6) rfl) (off := 1) rfl (by rfl)) ⟨rfl, rfl⟩
     ·obtain ⟨b154, e27, hS155, HH⟩ := hF
      exact Gives.run rfl (r_loadC (v := .slice (ownA kybb) zi ccbb) one39 (HH.get (k := 7) rfl) (off := 1) rfl (by rfl)) ⟨rfl, rfl⟩
    refine WalkC.look rfl (fun _ => .pointer (some ⟨b113, 1, none⟩)) (fun _ _ _ => rfl) (fun q r uw _ _ _ _ => Gives.run rfl (r_indexA (off' := 1) (j := 1) arr117 (b := b113) (off := 0) rfl rfl (by first | rfl | omega | (simp; omega)) (by omega) (by omega)) ⟨rfl, rfl⟩) ?_
    refine WalkC.look rfl (fun _ => u64 (ws.getD ((5 * n1 + 5 * zi) + 1) 0#64)) (fun _ _ _ => rfl) (fun q r uw hlo hhi hle hF => ?_) ?_
    ·have h1 : 0 ≤ q := Nat.zero_le _
     have h2 : q ≤ 0 := hhi 0 27 rfl rfl
     rcases (show q = 0 by omega) with rfl
     ·have HH := hF
      exact Gives.run rfl (r_ld1 (E := E64) (l := [ws.getD (5 * n1 + 5 * zi) 0#64, ws.getD ((5 * n1 + 5 * zi) + 1) 0#64, ws.getD ((5 * n1 + 5 * zi) + 2) 0#64, ws.getD ((5 * n1 + 5 * zi) + 3) 0#64, ws.getD ((5 * n1 + 5 * zi) + 4) 0#64]) (j := 1) (a := ws.getD ((5 * n1 + 5 * zi) + 1) 0#64) fits34 (HH.get (k := 1) rfl) (by rfl) rfl rfl) ⟨rfl, rfl⟩
    refine WalkC.look rfl (fun _ => .pointer (some ⟨b113, 3, none⟩)) (fun _ _ _ => rfl) (fun q r uw _ _ _ _ => Gives.run rfl (r_indexA (off' := 3) (j := 3) arr117 (b := b113) (off := 0) rfl rfl (by first | rfl | omega | (simp; omega)) (by omega) (by omega)) ⟨rfl, rfl⟩) ?_
    refine WalkC.look rfl (fun _ => u64 (ws.getD ((5 * n1 + 5 * zi) + 3) 0#64)) (fun _ _ _ => rfl) (fun q r uw hlo hhi hle hF => ?_) ?_
    ·have h1 : 0 ≤ q := Nat.zero_le _
     have h2 : q ≤ 0 := hhi 0 27 rfl rfl
     rcases (show q = 0 by omega) with rfl
     ·have HH := hF
      exact Gives.run rfl (r_ld1 (E := E64) (l := [ws.getD (5 * n1 + 5 * zi) 0#64, ws.getD ((5 * n1 + 5 * zi) + 1) 0#64, ws.getD ((5 * n1 + 5 * zi) + 2) 0#64, ws.getD ((5 * n1 + 5 * zi) + 3) 0#64, ws.getD ((5 * n1 + 5 * zi) + 4) 0#64]) (j := 3) (a := ws.getD ((5 * n1 + 5 * zi) + 3) 0#64) fits34 (HH.get (k := 1) rfl) (by rfl) rfl rfl) ⟨rfl, rfl⟩
    refine WalkC.look rfl (fun _ => pT b113) (fun _ _ _ => rfl) (fun q r uw _ _ _ _ => Gives.run rfl (r_indexA (off' := 0) (j := 0) arr117 (b := b113) (off := 0) rfl rfl (by first | rfl | omega | (simp; omega)) (by omega) (by omega)) ⟨rfl, rfl⟩) ?_
    refine WalkC.look rfl (fun _ => u64 (ws.getD (5 * n1 + 5 * zi) 0#64)) (fun _ _ _ => rfl) (fun q r uw hlo hhi hle hF => ?_) ?_
    ·have h1 : 0 ≤ q := Nat.zero_le _
     have h2 : q ≤ 0 := hhi 0 27 rfl rfl
     rcases (show q = 0 by omega) with rfl
     ·have HH := hF
      exact Gives.run rfl (r_ld1 (E := E64) (l := [ws.getD (5 * n1 + 5 * zi) 0#64, ws.getD ((5 * n1 + 5 * zi) + 1) 0#64, ws.getD ((5 * n1 + 5 * zi) + 2) 0#64, ws.getD ((5 * n1 + 5 * zi) + 3) 0#64, ws.getD ((5 * n1 + 5 * zi) + 4) 0#64]) (j := 0) (a := ws.getD (5 * n1 + 5 * zi) 0#64) fits34 (HH.get (k := 1) rfl) (by rfl) rfl rfl) ⟨rfl, rfl⟩
    refine WalkC.look rfl (fun _ => .pointer (some ⟨b113, 1, none⟩)) (fun _ _ _ => rfl) (fun q r uw _ _ _ _ => Gives.run rfl (r_indexA (off' := 1) (j := 1) arr117 (b := b113) (off := 0) rfl rfl (by first | rfl | omega | (simp; omega)) (by omega) (by omega)) ⟨rfl, rfl⟩) ?_
    refine WalkC.look rfl (fun _ => u64 (ws.getD ((5 * n1 + 5 * zi) + 1) 0#64)) (fun _ _ _ => rfl) (fun q r uw hlo hhi hle hF => ?_) ?_
    ·have h1 : 0 ≤ q := Nat.zero_le _
     have h2 : q ≤ 0 := hhi 0 27 rfl rfl
     rcases (show q = 0 by omega) with rfl
     ·have HH := hF
      exact Gives.run rfl (r_ld1 (E := E64) (l := [ws.getD (5 * n1 + 5 * zi) 0#64, ws.getD ((5 * n1 + 5 * zi) + 1) 0#64, ws.getD ((5 * n1 + 5 * zi) + 2) 0#64, ws.getD ((5 * n1 + 5 * zi) + 3) 0#64, ws.getD ((5 * n1 + 5 * zi) + 4) 0#64]) (j := 1) (a := ws.getD ((5 * n1 + 5 * zi) + 1) 0#64) fits34 (HH.get (k := 1) rfl) (by rfl) rfl rfl) ⟨rfl, rfl⟩
    refine WalkC.look rfl (fun _ => u64 ((ws.getD (5 * n1 + 5 * zi) 0#64) ^^^ (ws.getD ((5 * n1 + 5 * zi) + 1) 0#64))) (fun _ _ _ => rfl) (fun q r uw _ _ _ _ => Gives.run rfl (r_xor64 (a := ws.getD (5 * n1 + 5 * zi) 0#64) (b := ws.getD ((5 * n1 + 5 * zi) + 1) 0#64) rfl rfl) ⟨rfl, rfl⟩) ?_
    refine WalkC.look rfl (fun _ => .pointer (some ⟨b113, 2, none⟩)) (fun _ _ _ => rfl) (fun q r uw _ _ _ _ => Gives.run rfl (r_indexA (off' := 2) (j := 2) arr117 (b := b113) (off := 0) rfl rfl (by first | rfl | omega | (simp; omega)) (by omega) (by omega)) ⟨rfl, rfl⟩) ?_
    refine WalkC.look rfl (fun _ => u64 (ws.getD ((5 * n1 + 5 * zi) + 2) 0#64)) (fun _ _ _ => rfl) (fun q r uw hlo hhi hle hF => ?_) ?_
    ·have h1 : 0 ≤ q := Nat.zero_le _
     have h2 : q ≤ 0 := hhi 0 27 rfl rfl
     rcases (show q = 0 by omega) with rfl
     ·have HH := hF
      exact Gives.run rfl (r_ld1 (E := E64) (l := [ws.getD (5 * n1 + 5 * zi) 0#64, ws.getD ((5 * n1 + 5 * zi) + 1) 0#64, ws.getD ((5 * n1 + 5 * zi) + 2) 0#64, ws.getD ((5 * n1 + 5 * zi) + 3) 0#64, ws.getD ((5 * n1 + 5 * zi) + 4) 0#64]) (j := 2) (a := ws.getD ((5 * n1 + 5 * zi) + 2) 0#64) fits34 (HH.get (k := 1) rfl) (by rfl) rfl rfl) ⟨rfl, rfl⟩
    refine WalkC.look rfl (fun _ => .pointer (some ⟨b113, 3, none⟩)) (fun _ _ _ => rfl) (fun q r uw _ _ _ _ => Gives.run rfl (r_indexA (off' := 3) (j := 3) arr117 (b := b113) (off := 0) rfl rfl (by first | rfl | omega | (simp; omega)) (by omega) (by omega)) ⟨rfl, rfl⟩) ?_
    refine WalkC.look rfl (fun _ => u64 (ws.getD ((5 * n1 + 5 * zi) + 3) 0#64)) (fun _ _ _ => rfl) (fun q r uw hlo hhi hle hF => ?_) ?_
    ·have h1 : 0 ≤ q := Nat.zero_le _
     have h2 : q ≤ 0 := hhi 0 27 rfl rfl
     rcases (show q = 0 by omega) with rfl
     ·have HH := hF
      exact Gives.run rfl (r_ld1 (E := E64) (l := [ws.getD (5 * n1 + 5 * zi) 0#64, ws.getD ((5 * n1 + 5 * zi) + 1) 0#64, ws.getD ((5 * n1 + 5 * zi) + 2) 0#64, ws.getD ((5 * n1 + 5 * zi) + 3) 0#64, ws.getD ((5 * n1 + 5 * zi) + 4) 0#64]) (j := 3) (a := ws.getD ((5 * n1 + 5 * zi) + 3) 0#64) fits34 (HH.get (k := 1) rfl) (by rfl) rfl rfl) ⟨rfl, rfl⟩
    refine WalkC.look rfl (fun _ => u64 ((ws.getD ((5 * n1 + 5 * zi) + 2) 0#64) ^^^ (ws.getD ((5 * n1 + 5 * zi) + 3) 0#64))) (fun _ _ _ => rfl) (fun q r uw _ _ _ _ => Gives.run rfl (r_xor64 (a := ws.getD ((5 * n1 + 5 * zi) + 2) 0#64) (b := ws.getD ((5 * n1 + 5 * zi) + 3) 0#64) rfl rfl) ⟨rfl, rfl⟩) ?_
    refine WalkC.look rfl (fun _ => u64 (((ws.getD (5 * n1 + 5 * zi) 0#64) ^^^ (ws.getD ((5 * n1 + 5 * zi) + 1) 0#64)) &&& ((ws.getD ((5 * n1 + 5 * zi) + 2) 0#64) ^^^ (ws.getD ((5 * n1 + 5 * zi) + 3) 0#64)))) (fun _ _ _ => rfl) (fun q r uw _ _ _ _ => Gives.run rfl (r_and64 (a := (ws.getD (5 * n1 + 5 * zi) 0#64) ^^^ (ws.getD ((5 * n1 + 5 * zi) + 1) 0#64)) (b := (ws.getD ((5 * n1 + 5 * zi) + 2) 0#64) ^^^ (ws.getD ((5 * n1 + 5 * zi) + 3) 0#64)) rfl rfl) ⟨rfl, rfl⟩) ?_
    refine WalkC.look rfl (fun _ => .pointer (some ⟨b113, 4, none⟩)) (fun _ _ _ => rfl) (fun q r uw _ _ _ _ => Gives.run rfl (r_indexA (off' := 4) (j := 4) arr117 (b := b113) (off := 0) rfl rfl (by first | rfl | omega | (simp; omega)) (by omega) (by omega)) ⟨rfl, rfl⟩) ?_
    refine WalkC.look rfl (fun _ => u64 (ws.getD ((5 * n1 + 5 * zi) + 4) 0#64)) (fun _ _ _ => rfl) (fun q r uw hlo hhi hle hF => ?_) ?_
    ·have h1 : 0 ≤ q := Nat.zero_le _
     have h2 : q ≤ 0 := hhi 0 27 rfl rfl
     rcases (show q = 0 by omega) with rfl
     ·have HH := hF
      exact Gives.run rfl (r_ld1 (E := E64) (l := [ws.getD (5 * n1 + 5 * zi) 0#64, ws.getD ((5 * n1 + 5 * zi) + 1) 0#64, ws.getD ((5 * n1 + 5 * zi) + 2) 0#64, ws.getD ((5 * n1 + 5 * zi) + 3) 0#64, ws.getD ((5 * n1 + 5 * zi) + 4) 0#64]) (j := 4) (a := ws.getD ((5 * n1 + 5 * zi) + 4) 0#64) fits34 (HH.get (k := 1) rfl) (by rfl) rfl rfl) ⟨rfl, rfl⟩
    refine WalkC.look rfl (fun _ => u64 ((((ws.getD (5 * n1 + 5 * zi) 0#64) ^^^ (ws.getD ((5 * n1 + 5 * zi) + 1) 0#64)) &&& ((ws.getD ((5 * n1 + 5 * zi) + 2) 0#64) ^^^ (ws.getD ((5 * n1 + 5 * zi) + 3) 0#64))) ^^^ (ws.getD ((5 * n1 + 5 * zi) + 4) 0#64))) (fun _ _ _ => rfl) (fun q r uw _ _ _ _ => Gives.run rfl (r_xor64 (a := ((ws.getD (5 * n1 + 5 * zi) 0#64) ^^^ (ws.getD ((5 * n1 + 5 * zi) + 1) 0#64)) &&& ((ws.getD ((5 * n1 + 5 * zi) + 2) 0#64) ^^^ (ws.getD ((5 * n1 + 5 * zi) + 3) 0#64))) (b := ws.getD ((5 * n1 + 5 * zi) + 4) 0#64) rfl rfl) ⟨rfl, rfl⟩) ?_
    refine WalkC.look rfl (fun _ => .agg x10) (fun _ _ _ => rfl) (fun q r uw _ _ _ _ => Gives.run rfl (r_build (cs' := x10) (ps := [(0, u64 (ws.getD ((5 * n1 + 5 * zi) + 1) 0#64)), (1, u64 (ws.getD ((5 * n1 + 5 * zi) + 3) 0#64)), (2, u64 ((((ws.getD (5 * n1 + 5 * zi) 0#64) ^^^ (ws.getD ((5 * n1 + 5 * zi) + 1) 0#64)) &&& ((ws.getD ((5 * n1 + 5 * zi) + 2) 0#64) ^^^ (ws.getD ((5 * n1 + 5 * zi) + 3) 0#64))) ^^^ (ws.getD ((5 * n1 + 5 * zi) + 4) 0#64)))]) zer66 pls66 rfl (by rfl)) ⟨rfl, rfl⟩) ?_
    refine WalkC.eff 0 rfl (fun r uw151 hF153 => ?_) ?_
    ·have H152 := hF153
     dsimp only [List.take, List.map, List.cons_append, List.nil_append]
     refine Gives.ofW (d := 167) rfl rfl (fun Q' hK => ?_)
     refine q_buildSlice (E := ETr) (l := ([⟨ws.getD ((5 * n1 + 5 * zi) + 1) 0#64, ws.getD ((5 * n1 + 5 * zi) + 3) 0#64, (((ws.getD (5 * n1 + 5 * zi) 0#64) ^^^ (ws.getD ((5 * n1 + 5 * zi) + 1) 0#64)) &&& ((ws.getD ((5 * n1 + 5 * zi) + 2) 0#64) ^^^ (ws.getD ((5 * n1 + 5 * zi) + 3) 0#64))) ^^^ (ws.getD ((5 * n1 + 5 * zi) + 4) 0#64)⟩] : List Tr)) H152 sli39 zer66 (bLe rfl) (ps := [(0, .agg x10)]) rfl (by exact fillAll rfl rfl) rfl ?_
     intro b154 w156 hS155 H157 hE158
     exact hK _ _ ⟨b154, rfl, hS155, H157⟩
    refine WalkC.eff 1 rfl (fun r uw159 hF161 => ?_) ?_
    ·obtain ⟨b154, e27, hS155, H160⟩ := hF161
     dsimp only [List.take, List.map, List.cons_append, List.nil_append]
     rw [e27]
     refine Gives.ofW (d := 168) rfl rfl (fun Q' hK => ?_)
     refine q_append (E := ETr) (k := 11) (l := rowsOf (biB ws) (5 * n1) zi) (l2 := ([⟨ws.getD ((5 * n1 + 5 * zi) + 1) 0#64, ws.getD ((5 * n1 + 5 * zi) + 3) 0#64, (((ws.getD (5 * n1 + 5 * zi) 0#64) ^^^ (ws.getD ((5 * n1 + 5 * zi) + 1) 0#64)) &&& ((ws.getD ((5 * n1 + 5 * zi) + 2) 0#64) ^^^ (ws.getD ((5 * n1 + 5 * zi) + 3) 0#64))) ^^^ (ws.getD ((5 * n1 + 5 * zi) + 4) 0#64)⟩] : List Tr)) H160 rfl hkybb sli39 zer66 rfl byt66 (H160.rd (k := 0) rfl hS155) rfl (by rw [rowsOf_len]) rfl (by rfl) (by omega) ?_
     intro key162 c163 sp164 w166 hS165 hne168 H167
     have H167' := H167.as (L' := (_ :: _ :: _ :: _ :: _ :: _ :: _ :: _ :: _ :: _ :: _ :: _ :: _ :: R)) rfl
     clear H167
     have e169 : (rowsOf (biB ws) (5 * n1) zi) ++ ([⟨ws.getD ((5 * n1 + 5 * zi) + 1) 0#64, ws.getD ((5 * n1 + 5 * zi) + 3) 0#64, (((ws.getD (5 * n1 + 5 * zi) 0#64) ^^^ (ws.getD ((5 * n1 + 5 * zi) + 1) 0#64)) &&& ((ws.getD ((5 * n1 + 5 * zi) + 2) 0#64) ^^^ (ws.getD ((5 * n1 + 5 * zi) + 3) 0#64))) ^^^ (ws.getD ((5 * n1 + 5 * zi) + 4) 0#64)⟩] : List Tr) = rowsOf (biB ws) (5 * n1) (zi + 1) := by rw [rowsOf_succ]; rfl
     have hS170 := hS165
     rw [e169] at hS170
     have H171 := H167'.as (L' := (((some b154), sob ETr 66 ([⟨ws.getD ((5 * n1 + 5 * zi) + 1) 0#64, ws.getD ((5 * n1 + 5 * zi) + 3) 0#64, (((ws.getD (5 * n1 + 5 * zi) 0#64) ^^^ (ws.getD ((5 * n1 + 5 * zi) + 1) 0#64)) &&& ((ws.getD ((5 * n1 + 5 * zi) + 2) 0#64) ^^^ (ws.getD ((5 * n1 + 5 * zi) + 3) 0#64))) ^^^ (ws.getD ((5 * n1 + 5 * zi) + 4) 0#64)⟩] : List Tr) ([])) :: ((some b123), sob ETr 66 ([⟨ws.getD (5 * n1 + 5 * zi) 0#64, ws.getD ((5 * n1 + 5 * zi) + 2) 0#64, ws.getD ((5 * n1 + 5 * zi) + 4) 0#64⟩] : List Tr) ([])) :: (re b113 E64 ([ws.getD (5 * n1 + 5 * zi) 0#64, ws.getD ((5 * n1 + 5 * zi) + 1) 0#64, ws.getD ((5 * n1 + 5 * zi) + 2) 0#64, ws.getD ((5 * n1 + 5 * zi) + 3) 0#64, ws.getD ((5 * n1 + 5 * zi) + 4) 0#64]) 117) :: (rc b #[.slice (ownA key) ws.length c, .pointer none, iN ws.length, iN ((5 * n1 + 5 * zi) + 5)] 96) :: (key, sob E64 34 ws sp) :: (rc b23 #[pT b15, pT b19] 38) :: (rc b15 #[.slice (ownA kyta) n1 ccta, .slice (ownA key131) (zi + 1) c132, sN0] 114) :: (rc b19 #[.slice (ownA kytb) n1 cctb, .slice (ownA kybb) zi ccbb, sN0] 114) :: (kyta, sob ETr 66 (rowsOf (trA ws) 0 n1) zzta) :: (kytb, sob ETr 66 (rowsOf (trB ws) 0 n1) zztb) :: (key131, sob ETr 66 (rowsOf (trA ws) (5 * n1) (zi + 1)) sp133) :: (key162, sob ETr 66 (rowsOf (biB ws) (5 * n1) (zi + 1)) sp164) :: (rc b1 #[.pointer none, .pointer none] 38) :: R)) (by rw [e169])
     exact hK _ _ ⟨b154, key162, c163, sp164, rfl, rfl, hS155, hS170, H171⟩
    refine WalkC.look rfl (fun _ => pT b19) (fun _ _ _ => rfl) (fun q r uw _ _ _ _ => Gives.run rfl (r_nilCheck rfl) ⟨rfl, rfl⟩) ?_
    refine WalkC.look rfl (fun _ => .pointer x36) (fun _ _ _ => rfl) (fun q r uw _ _ _ _ => Gives.run rfl (r_fieldAddr (off' := 1) fld114_1 (by decide) (b := b19) (off := 0) rfl (by omega)) ⟨rfl, rfl⟩) ?_
    refine WalkC.look rfl (fun _ => .pointer x36) (fun _ _ _ => rfl) (fun q r uw _ _ _ _ => Gives.run rfl (r_fieldAddr (off' := 1) fld110_0 (by decide) (b := b19) (off := 1) rfl (by omega)) ⟨rfl, rfl⟩) ?_
    refine WalkC.eff 2 rfl (fun r uw172 hF174 => ?_) ?_
    ·obtain ⟨b154, key162, c163, sp164, e27, e28, hS155, hS170, H173⟩ := hF174
     dsimp only [List.take, List.map, List.cons_append, List.nil_append]
     rw [e27, e28]
     refine Gives.ofW0 rfl (fun Q' hK => ?_)
     refine d_store (k := 7) (v := .slice (ownA key162) (zi + 1) c163) (cs' := #[.slice (ownA kytb) n1 cctb, .slice (ownA key162) (zi + 1) c163, sN0]) H173 rfl rfl rfl siz39 (by rfl) (oneL rfl) (by exact bLe rfl) (by rfl) ?_
     intro w175 H176 hC177
     have H176' := H176.as (L' := (_ :: _ :: _ :: _ :: _ :: _ :: _ :: _ :: _ :: _ :: _ :: _ :: _ :: R)) rfl
     clear H176
     exact hK _ (fun _ => ⟨b154, key162, c163, sp164, rfl, rfl, trivial, hS155, hS170, H176'⟩)
    refine WalkC.nil ?_
    intro r178 w179 hF181
    obtain ⟨b154, key162, c163, sp164, e27, e28, e32, hS155, hS170, H180⟩ := hF181
    dsimp only
    rw [e27, e28]
    refine wnil ?_
    refine blockNormal ?_
    refine thenNormal ?_
    refine oneRegion ?_
    refine sq (r_addI (a := (zi : Nat)) (b := (1 : Int)) rfl rfl (by omega)) ?_
    refine sM (i64 ((zi : Nat) + (1 : Int))) rfl ?_
    refine wnil ?_
    refine thenNormal ?_
    rw [show (5 * n1 + 5 * zi) + 5 = 5 * n1 + 5 * (zi + 1) by omega] at H180
    exact ⟨(zi + 1, key131, c132, sp133, key162, c163, sp164), _, rfl, ⟨rfl, rfl, rfl, rfl, rfl, rfl, rfl, rfl, rfl, trivial⟩, ⟨⟨by omega, hS139, hS170⟩, (H180.pick 13 [5, 6, 7, 8, 9, 10, 11, 12, 3, 4] (by decide) (by decide))⟩, by show n2 - (zi + 1) < n2 - zi; omega⟩
   ·obtain rfl : n2 = zi := by omega
    let x29 : Value := .slice (ownA kyba) n2 ccba
    let x15 : Option Nat × Obj := (kybb, sob ETr 66 (rowsOf (biB ws) (5 * n1) n2) zzbb)
    let x8 : Option Nat × Obj := (kyba, sob ETr 66 (rowsOf (trA ws) (5 * n1) n2) zzba)
    refine exitAny ?_
    refine thenExit ?_
    refine thenExit ?_
    refine blockHere ?_
    refine thenNormal ?_
    refine seqAny ?_
    refine sR ?_
    refine sM (iN n3) rfl ?_
    refine sM (i64 0) rfl ?_
    refine wend ?_
    refine blockAny ?_
    refine loopAny (σ := Nat × Option Nat × Nat × List Value × Option Nat × Nat × List Value) (fun (zi, kyoa, ccoa, zzoa, kyob, ccob, zzob) => [(0, pT b), (1, iN n1), (2, iN n2), (3, iN n3), (8, pT b1), (9, .nilIface), (12, pT b23), (173, iN n3), (174, iN zi)]) (fun (zi, kyoa, ccoa, zzoa, kyob, ccob, zzob) w' => (zi ≤ n3 ∧ Sl EOt kyoa (rowsOf (otA ws) (5 * (n1 + n2)) zi) ccoa zzoa ∧ Sl EOt kyob (rowsOf (otB ws) (5 * (n1 + n2)) zi) ccob zzob) ∧ Hp No w₀ w' (x7 :: (rc b15 #[.slice (ownA kyta) n1 ccta, .slice (ownA kyba) n2 ccba, .slice (ownA kyoa) zi ccoa] 114) :: (rc b19 #[.slice (ownA kytb) n1 cctb, .slice (ownA kybb) n2 ccbb, .slice (ownA kyob) zi ccob] 114) :: x6 :: x14 :: x8 :: x15 :: (kyoa, sob EOt 121 (rowsOf (otA ws) (5 * (n1 + n2)) zi) zzoa) :: (kyob, sob EOt 121 (rowsOf (otB ws) (5 * (n1 + n2)) zi) zzob) :: x3 :: (rc b #[.slice (ownA key) ws.length c, .pointer none, iN ws.length, iN (5 * (n1 + n2) + 5 * zi)] 96) :: x9 :: R)) (fun (zi, kyoa, ccoa, zzoa, kyob, ccob, zzob) => n3 - zi) ((0, none, 0, [], none, 0, [])) ?_ ?_ ?_
    ·exact ⟨rfl, rfl, rfl, rfl, rfl, rfl, rfl, rfl, rfl, trivial⟩
    rw [show 5 * n1 + 5 * n2 = 5 * (n1 + n2) + 5 * 0 by omega] at HL1
    ·exact ⟨⟨Nat.zero_le _, Sl.none, Sl.none⟩, (((HL1.nil (sob EOt 121 [] [])).nil (sob EOt 121 [] [])).pick 12 [2, 3, 4, 5, 6, 7, 8, 1, 0, 9, 10, 11] (by decide) (by decide))⟩
    rintro ⟨zi, kyoa, ccoa, zzoa, kyob, ccob, zzob⟩ ρ w182 ⟨⟨hzi, hkyoa, hkyob⟩, HL2⟩
    let x50 : Value := u64 (ws.getD (5 * (n1 + n2) + 5 * zi) 0#64)
    let x49 : Option Nat × Obj := (kyoa, sob EOt 121 (rowsOf (otA ws) (5 * (n1 + n2)) zi) zzoa)
    let x46 := rc b15 #[x28, x29, .slice (ownA kyoa) zi ccoa] 114
    let x42 : Value := u64 (ws.getD ((5 * (n1 + n2) + 5 * zi) + 3) 0#64)
    let x38 : Value := u64 (ws.getD ((5 * (n1 + n2) + 5 * zi) + 2) 0#64)
    let x47 : Array Value := #[x38, x42, u64 0#64, u64 0#64, .bool true]
    let x33 : Value := u64 (ws.getD ((5 * (n1 + n2) + 5 * zi) + 1) 0#64)
    let x48 : Array Value := #[x50, x33, x38, x42]
    let x43 : Array Value := #[x50, x33, u64 0#64, u64 0#64]
    let x41 : Array Value := #[x50, x33, u64 0#64, u64 0#64, .bool false]
    let x25 : Option Nat × Obj := (kyob, sob EOt 121 (rowsOf (otB ws) (5 * (n1 + n2)) zi) zzob)
    let x13 := rc b19 #[.slice (ownA kytb) n1 cctb, .slice (ownA kybb) n2 ccbb, .slice (ownA kyob) zi ccob] 114
    let x1 : Array Value := #[x50, x33, x38, x42, .bool false]
    refine sR ?_
    refine sq (r_lssI (a := (zi : Nat)) (b := (n3 : Nat)) rfl rfl) ?_
    refine wend ?_
    refine seqAny ?_
    refine condProp (((zi : Nat) : Int) < (n3 : Nat)) rfl (fun c175 => ?_) (fun c175 => ?_)
    ·refine skipAny ?_
     refine thenNormal ?_
     refine seqAny ?_
     refine blockAny ?_
     refine sR ?_
     refine sM (pT b) rfl ?_
     have H184 := ((HL2.pick 12 [10, 11, 0, 1, 2, 3, 4, 5, 6, 7, 8, 9] (by decide) (by decide))).as (L' := (_ :: _ :: _)) rfl
     refine c_call (vs := [pT b]) call40 rfl (five_ok b key c sp ws hSw hlen (5 * (n1 + n2) + 5 * zi) (by omega) (x7 :: x46 :: x13 :: x6 :: x14 :: x8 :: x15 :: x49 :: x25 :: x3 :: R) w₀ w182 H184) ?_
     rintro _ w185 ⟨rfl, HN187⟩
     have H188 := HN187.as (L' := (_ :: _ :: _ :: _ :: _ :: _ :: _ :: _ :: _ :: _ :: _ :: _ :: R)) rfl
     refine q_alloc (o := .cells (cel E64 (List.replicate 5 0#64)).toArray 117 (0, 0)) H188 zer117 (by kernel_rfl) ?_
     intro b189 w190 hb189 H191 hE192
     let x2 := re b189 E64 ([ws.getD (5 * (n1 + n2) + 5 * zi) 0#64, ws.getD ((5 * (n1 + n2) + 5 * zi) + 1) 0#64, ws.getD ((5 * (n1 + n2) + 5 * zi) + 2) 0#64, ws.getD ((5 * (n1 + n2) + 5 * zi) + 3) 0#64, ws.getD ((5 * (n1 + n2) + 5 * zi) + 4) 0#64]) 117
     refine d_store (k := 0) (v := .agg (cel E64 [ws.getD (5 * (n1 + n2) + 5 * zi) 0#64, ws.getD ((5 * (n1 + n2) + 5 * zi) + 1) 0#64, ws.getD ((5 * (n1 + n2) + 5 * zi) + 2) 0#64, ws.getD ((5 * (n1 + n2) + 5 * zi) + 3) 0#64, ws.getD ((5 * (n1 + n2) + 5 * zi) + 4) 0#64]).toArray) (cs' := (cel E64 ([ws.getD (5 * (n1 + n2) + 5 * zi) 0#64, ws.getD ((5 * (n1 + n2) + 5 * zi) + 1) 0#64, ws.getD ((5 * (n1 + n2) + 5 * zi) + 2) 0#64, ws.getD ((5 * (n1 + n2) + 5 * zi) + 3) 0#64, ws.getD ((5 * (n1 + n2) + 5 * zi) + 4) 0#64])).toArray) H191 rfl rfl rfl siz117 (by exact celSize (by first | rfl | (show _ * 1 = _; omega))) (by exact celOne _) (by rw [List.size_toArray, cel_length]; show _ ≤ _ * 1; first | omega | (simp only [List.length_set]; omega) | exact bLe rfl | (simp <;> omega)) (by exact putAll (by first | rfl | omega | (simp <;> omega))) ?_
     intro w193 H194 hC195
     have H194' := H194.as (L' := (_ :: _ :: _ :: _ :: _ :: _ :: _ :: _ :: _ :: _ :: _ :: _ :: _ :: R)) rfl
     clear H194
     refine wS ?_
     refine sq (r_indexA (off' := 0) (j := 0) arr117 (b := b189) (off := 0) rfl rfl (by first | rfl | omega | (simp; omega)) (by omega) (by omega)) ?_
     refine sq (r_ld1 (E := E64) (l := [ws.getD (5 * (n1 + n2) + 5 * zi) 0#64, ws.getD ((5 * (n1 + n2) + 5 * zi) + 1) 0#64, ws.getD ((5 * (n1 + n2) + 5 * zi) + 2) 0#64, ws.getD ((5 * (n1 + n2) + 5 * zi) + 3) 0#64, ws.getD ((5 * (n1 + n2) + 5 * zi) + 4) 0#64]) (j := 0) (a := ws.getD (5 * (n1 + n2) + 5 * zi) 0#64) fits34 (H194'.get (k := 0) rfl) (by rfl) rfl rfl) ?_
     refine sq (r_indexA (off' := 1) (j := 1) arr117 (b := b189) (off := 0) rfl rfl (by first | rfl | omega | (simp; omega)) (by omega) (by omega)) ?_
     refine sq (r_ld1 (E := E64) (l := [ws.getD (5 * (n1 + n2) + 5 * zi) 0#64, ws.getD ((5 * (n1 + n2) + 5 * zi) + 1) 0#64, ws.getD ((5 * (n1 + n2) + 5 * zi) + 2) 0#64, ws.getD ((5 * (n1 + n2) + 5 * zi) + 3) 0#64, ws.getD ((5 * (n1 + n2) + 5 * zi) + 4) 0#64]) (j := 1) (a := ws.getD ((5 * (n1 + n2) + 5 * zi) + 1) 0#64) fits34 (H194'.get (k := 0) rfl) (by rfl) rfl rfl) ?_
     refine sq (r_buildA (cs' := (cel E64 [ws.getD (5 * (n1 + n2) + 5 * zi) 0#64, ws.getD ((5 * (n1 + n2) + 5 * zi) + 1) 0#64]).toArray) (ps := [(0, u64 (ws.getD (5 * (n1 + n2) + 5 * zi) 0#64)), (1, u64 (ws.getD ((5 * (n1 + n2) + 5 * zi) + 1) 0#64))]) zer83 arr83 rfl (by rfl)) ?_
     refine sq (r_indexA (off' := 2) (j := 2) arr117 (b := b189) (off := 0) rfl rfl (by first | rfl | omega | (simp; omega)) (by omega) (by omega)) ?_
     refine sq (r_ld1 (E := E64) (l := [ws.getD (5 * (n1 + n2) + 5 * zi) 0#64, ws.getD ((5 * (n1 + n2) + 5 * zi) + 1) 0#64, ws.getD ((5 * (n1 + n2) + 5 * zi) + 2) 0#64, ws.getD ((5 * (n1 + n2) + 5 * zi) + 3) 0#64, ws.getD ((5 * (n1 + n2) + 5 * zi) + 4) 0#64]) (j := 2) (a := ws.getD ((5 * (n1 + n2) + 5 * zi) + 2) 0#64) fits34 (H194'.get (k := 0) rfl) (by rfl) rfl rfl) ?_
     refine sq (r_indexA (off' := 3) (j := 3) arr117 (b := b189) (off := 0) rfl rfl (by first | rfl | omega | (simp; omega)) (by omega) (by omega)) ?_
     refine sq (r_ld1 (E := E64) (l := [ws.getD (5 * (n1 + n2) + 5 * zi) 0#64, ws.getD ((5 * (n1 + n2) + 5 * zi) + 1) 0#64, ws.getD ((5 * (n1 + n2) + 5 * zi) + 2) 0#64, ws.getD ((5 * (n1 + n2) + 5 * zi) + 3) 0#64, ws.getD ((5 * (n1 + n2) + 5 * zi) + 4) 0#64]) (j := 3) (a := ws.getD ((5 * (n1 + n2) + 5 * zi) + 3) 0#64) fits34 (H194'.get (k := 0) rfl) (by rfl) rfl rfl) ?_
     refine sq (r_buildA (cs' := (cel E64 [ws.getD ((5 * (n1 + n2) + 5 * zi) + 2) 0#64, ws.getD ((5 * (n1 + n2) + 5 * zi) + 3) 0#64]).toArray) (ps := [(0, u64 (ws.getD ((5 * (n1 + n2) + 5 * zi) + 2) 0#64)), (1, u64 (ws.getD ((5 * (n1 + n2) + 5 * zi) + 3) 0#64))]) zer83 arr83 rfl (by rfl)) ?_
     refine sq (r_buildA (cs' := x48) (ps := [(0, .agg (cel E64 [ws.getD (5 * (n1 + n2) + 5 * zi) 0#64, ws.getD ((5 * (n1 + n2) + 5 * zi) + 1) 0#64]).toArray), (1, .agg (cel E64 [ws.getD ((5 * (n1 + n2) + 5 * zi) + 2) 0#64, ws.getD ((5 * (n1 + n2) + 5 * zi) + 3) 0#64]).toArray)]) zer119 arr119 rfl (by rfl)) ?_
     refine sq (r_build (cs' := x1) (ps := [(0, .agg x48)]) zer121 pls121 rfl (by rfl)) ?_
     refine q_alloc (o := .cells #[u64 0#64, u64 0#64, u64 0#64, u64 0#64, .bool false] 121 (0, 0)) H194' zer121 (by kernel_rfl) ?_
     intro b196 w197 hb196 H198 hE199
     let x18 := rc b196 x1 121
     refine d_store (k := 0) (v := .agg x1) (cs' := x1) H198 rfl rfl rfl siz121 (by rfl) (oneL rfl) (by exact bLe rfl) (by rfl) ?_
     intro w200 H201 hC202
     have H201' := H201.as (L' := (_ :: _ :: _ :: _ :: _ :: _ :: _ :: _ :: _ :: _ :: _ :: _ :: _ :: _ :: R)) rfl
     clear H201
     refine wend ?_
     by_cases hodd : gt ws (5 * (n1 + n2) + 5 * zi + 4) &&& 1#64 = 1#64
     ·refine sR ?_
      refine sq (r_indexA (off' := 4) (j := 4) arr117 (b := b189) (off := 0) rfl rfl (by first | rfl | omega | (simp; omega)) (by omega) (by omega)) ?_
      refine sq (r_ld1 (E := E64) (l := [ws.getD (5 * (n1 + n2) + 5 * zi) 0#64, ws.getD ((5 * (n1 + n2) + 5 * zi) + 1) 0#64, ws.getD ((5 * (n1 + n2) + 5 * zi) + 2) 0#64, ws.getD ((5 * (n1 + n2) + 5 * zi) + 3) 0#64, ws.getD ((5 * (n1 + n2) + 5 * zi) + 4) 0#64]) (j := 4) (a := ws.getD ((5 * (n1 + n2) + 5 * zi) + 4) 0#64) fits34 (H201'.get (k := 1) rfl) (by rfl) rfl rfl) ?_
      refine sq ((r_and64 (a := ws.getD ((5 * (n1 + n2) + 5 * zi) + 4) 0#64) (b := 1#64) rfl rfl).as (v' := u64 1#64) (by exact congrArg u64 hodd)) ?_
      refine sA (u64 1#64) rfl ?_
      refine wend ?_
      refine seqAny ?_
      refine drawC (m := 15) [0, 1, 0, 4, 12, 28, 60, 124, 0, 256, 1020, 2047, 4095, 8191, 16383] [9, 10, 14] (fun q vs w' => match q, vs with | 0, [] => Hp No w₀ w' (x18 :: x2 :: (rc b #[.slice (ownA key) ws.length c, .pointer none, iN ws.length, iN ((5 * (n1 + n2) + 5 * zi) + 5)] 96) :: x9 :: x7 :: x46 :: x13 :: x6 :: x14 :: x8 :: x15 :: x49 :: x25 :: x3 :: R) | 1, [v0] => ∃ (b206 : Nat), v0 = .slice (ownA (some b206)) 1 1 ∧ Sl EOt (some b206) ([⟨ws.getD (5 * (n1 + n2) + 5 * zi) 0#64, ws.getD ((5 * (n1 + n2) + 5 * zi) + 1) 0#64, ws.getD ((5 * (n1 + n2) + 5 * zi) + 2) 0#64, ws.getD ((5 * (n1 + n2) + 5 * zi) + 3) 0#64, false⟩] : List Ot) 1 ([]) ∧ Hp No w₀ w' (((some b206), sob EOt 121 ([⟨ws.getD (5 * (n1 + n2) + 5 * zi) 0#64, ws.getD ((5 * (n1 + n2) + 5 * zi) + 1) 0#64, ws.getD ((5 * (n1 + n2) + 5 * zi) + 2) 0#64, ws.getD ((5 * (n1 + n2) + 5 * zi) + 3) 0#64, false⟩] : List Ot) ([])) :: x18 :: x2 :: (rc b #[.slice (ownA key) ws.length c, .pointer none, iN ws.length, iN ((5 * (n1 + n2) + 5 * zi) + 5)] 96) :: x9 :: x7 :: x46 :: x13 :: x6 :: x14 :: x8 :: x15 :: x49 :: x25 :: x3 :: R) | 2, [v0, v1] => ∃ (b206 : Nat) (key214 : Option Nat) (c215 : Nat) (sp216 : List Value), v0 = .slice (ownA (some b206)) 1 1 ∧ v1 = .slice (ownA key214) (zi + 1) c215 ∧ Sl EOt (some b206) ([⟨ws.getD (5 * (n1 + n2) + 5 * zi) 0#64, ws.getD ((5 * (n1 + n2) + 5 * zi) + 1) 0#64, ws.getD ((5 * (n1 + n2) + 5 * zi) + 2) 0#64, ws.getD ((5 * (n1 + n2) + 5 * zi) + 3) 0#64, false⟩] : List Ot) 1 ([]) ∧ Sl EOt key214 (rowsOf (otA ws) (5 * (n1 + n2)) (zi + 1)) c215 sp216 ∧ Hp No w₀ w' (((some b206), sob EOt 121 ([⟨ws.getD (5 * (n1 + n2) + 5 * zi) 0#64, ws.getD ((5 * (n1 + n2) + 5 * zi) + 1) 0#64, ws.getD ((5 * (n1 + n2) + 5 * zi) + 2) 0#64, ws.getD ((5 * (n1 + n2) + 5 * zi) + 3) 0#64, false⟩] : List Ot) ([])) :: x18 :: x2 :: (rc b #[.slice (ownA key) ws.length c, .pointer none, iN ws.length, iN ((5 * (n1 + n2) + 5 * zi) + 5)] 96) :: x9 :: x7 :: x46 :: x13 :: x6 :: x14 :: x8 :: x15 :: (key214, sob EOt 121 (rowsOf (otA ws) (5 * (n1 + n2)) (zi + 1)) sp216) :: x25 :: x3 :: R) | 3, [v0, v1, _] => ∃ (b206 : Nat) (key214 : Option Nat) (c215 : Nat) (sp216 : List Value), v0 = .slice (ownA (some b206)) 1 1 ∧ v1 = .slice (ownA key214) (zi + 1) c215 ∧ True ∧ Sl EOt (some b206) ([⟨ws.getD (5 * (n1 + n2) + 5 * zi) 0#64, ws.getD ((5 * (n1 + n2) + 5 * zi) + 1) 0#64, ws.getD ((5 * (n1 + n2) + 5 * zi) + 2) 0#64, ws.getD ((5 * (n1 + n2) + 5 * zi) + 3) 0#64, false⟩] : List Ot) 1 ([]) ∧ Sl EOt key214 (rowsOf (otA ws) (5 * (n1 + n2)) (zi + 1)) c215 sp216 ∧ Hp No w₀ w' (((some b206), sob EOt 121 ([⟨ws.getD (5 * (n1 + n2) + 5 * zi) 0#64, ws.getD ((5 * (n1 + n2) + 5 * zi) + 1) 0#64, ws.getD ((5 * (n1 + n2) + 5 * zi) + 2) 0#64, ws.getD ((5 * (n1 + n2) + 5 * zi) + 3) 0#64, false⟩] : List Ot) ([])) :: x18 :: x2 :: (rc b #[.slice (ownA key) ws.length c, .pointer none, iN ws.length, iN ((5 * (n1 + n2) + 5 * zi) + 5)] 96) :: x9 :: x7 :: (rc b15 #[.slice (ownA kyta) n1 ccta, .slice (ownA kyba) n2 ccba, .slice (ownA key214) (zi + 1) c215] 114) :: x13 :: x6 :: x14 :: x8 :: x15 :: (key214, sob EOt 121 (rowsOf (otA ws) (5 * (n1 + n2)) (zi + 1)) sp216) :: x25 :: x3 :: R) | _, _ => False) mixed (by kernel_rfl) (by kernel_rfl) H201'.drew ?_
      refine WalkC.look rfl (fun _ => pT b23) (fun _ _ _ => rfl) (fun q r uw _ _ _ _ => Gives.run rfl (r_indexA (off' := 0) (j := 0) arr38 (b := b23) (off := 0) rfl rfl (by first | rfl | omega | (simp; omega)) (by omega) (by omega)) ⟨rfl, rfl⟩) ?_
      refine WalkC.look rfl (fun _ => pT b15) (fun _ _ _ => rfl) (fun q r uw hlo hhi hle hF => ?_) ?_
      ·have h1 : 0 ≤ q := Nat.zero_le _
       have h2 : q ≤ 2 := hhi 2 14 rfl rfl
       rcases (show q = 0 ∨ q = 1 ∨ q = 2 by omega) with rfl | rfl | rfl
       ·have HH := hF
        exact Gives.run rfl (r_loadC (v := pT b15) one37 (HH.get (k := 4) rfl) (off := 0) rfl (by rfl)) ⟨rfl, rfl⟩
       ·obtain ⟨b206, e9, hS207, HH⟩ := hF
        exact Gives.run rfl (r_loadC (v := pT b15) one37 (HH.get (k := 5) rfl) (off := 0) rfl (by rfl)) ⟨rfl, rfl⟩
       ·obtain ⟨b206, key214, c215, sp216, e9, e10, hS207, hS222, HH⟩ := hF
        exact Gives.run rfl (r_loadC (v := pT b15) one37 (HH.get (k := 5) rfl) (off := 0) rfl (by rfl)) ⟨rfl, rfl⟩
      refine WalkC.look rfl (fun _ => pT b23) (fun _ _ _ => rfl) (fun q r uw _ _ _ _ => Gives.run rfl (r_indexA (off' := 0) (j := 0) arr38 (b := b23) (off := 0) rfl rfl (by first | rfl | omega | (simp; omega)) (by omega) (by omega)) ⟨rfl, rfl⟩) ?_
      refine WalkC.look rfl (fun _ => pT b15) (fun _ _ _ => rfl) (fun q r uw hlo hhi hle hF => ?_) ?_
      ·have h1 : 0 ≤ q := Nat.zero_le _
       have h2 : q ≤ 1 := hhi 1 10 rfl rfl
       rcases (show q = 0 ∨ q = 1 by omega) with rfl | rfl
       ·have HH := hF
        exact Gives.run rfl (r_loadC (v := pT b15) one37 (HH.get (k := 4) rfl) (off := 0) rfl (by rfl)) ⟨rfl, rfl⟩
       ·obtain ⟨b206, e9, hS207, HH⟩ := hF
        exact Gives.run rfl (r_loadC (v := pT b15) one37 (HH.get (k := 5) rfl) (off := 0) rfl (by rfl)) ⟨rfl, rfl⟩
      refine WalkC.look rfl (fun _ => pT b15) (fun _ _ _ => rfl) (fun q r uw _ _ _ _ => Gives.run rfl (r_nilCheck rfl) ⟨rfl, rfl⟩) ?_
      refine WalkC.look rfl (fun _ => .pointer x22) (fun _ _ _ => rfl) (fun q r uw _ _ _ _ => Gives.run rfl (r_fieldAddr (off' := 2) fld114_2 (by decide) (b := b15) (off := 0) rfl (by omega)) ⟨rfl, rfl⟩) ?_
      refine WalkC.look rfl (fun _ => .pointer x22) (fun _ _ _ => rfl) (fun q r uw _ _ _ _ => Gives.run rfl (r_fieldAddr (off' := 2) fld112_0 (by decide) (b := b15) (off := 2) rfl (by omega)) ⟨rfl, rfl⟩) ?_
      refine WalkC.look rfl (fun _ => .slice (ownA kyoa) zi ccoa) (fun _ _ _ => rfl) (fun q r uw hlo hhi hle hF => ?_) ?_
      ·have h1 : 0 ≤ q := Nat.zero_le _
       have h2 : q ≤ 1 := hhi 1 10 rfl rfl
       rcases (show q = 0 ∨ q = 1 by omega) with rfl | rfl
       ·have HH := hF
        exact Gives.run rfl (r_loadC (v := .slice (ownA kyoa) zi ccoa) one40 (HH.get (k := 5) rfl) (off := 2) rfl (by rfl)) ⟨rfl, rfl⟩
       ·obtain ⟨b206, e9, hS207, HH⟩ := hF
        exact Gives.run rfl (r_loadC (v := .slice (ownA kyoa) zi ccoa) one40 (HH.get (k := 6) rfl) (off := 2) rfl (by rfl)) ⟨rfl, rfl⟩
      refine WalkC.look rfl (fun _ => .agg x1) (fun _ _ _ => rfl) (fun q r uw hlo hhi hle hF => ?_) ?_
      ·have h1 : 0 ≤ q := Nat.zero_le _
       have h2 : q ≤ 0 := hhi 0 9 rfl rfl
       rcases (show q = 0 by omega) with rfl
       ·have HH := hF
        exact Gives.run rfl (r_loadA (cs' := x1) agg121 siz121 (HH.get (k := 0) rfl) (off := 0) rfl (by exact bLe rfl) (by rfl)) ⟨rfl, rfl⟩
      refine WalkC.eff 0 rfl (fun r uw203 hF205 => ?_) ?_
      ·have H204 := hF205
       dsimp only [List.take, List.map, List.cons_append, List.nil_append]
       refine Gives.ofW (d := 202) rfl rfl (fun Q' hK => ?_)
       refine q_buildSlice (E := EOt) (l := ([⟨ws.getD (5 * (n1 + n2) + 5 * zi) 0#64, ws.getD ((5 * (n1 + n2) + 5 * zi) + 1) 0#64, ws.getD ((5 * (n1 + n2) + 5 * zi) + 2) 0#64, ws.getD ((5 * (n1 + n2) + 5 * zi) + 3) 0#64, false⟩] : List Ot)) H204 sli40 zer121 (bLe rfl) (ps := [(0, .agg x1)]) rfl (by exact fillAll rfl rfl) rfl ?_
       intro b206 w208 hS207 H209 hE210
       exact hK _ _ ⟨b206, rfl, hS207, H209⟩
      refine WalkC.eff 1 rfl (fun r uw211 hF213 => ?_) ?_
      ·obtain ⟨b206, e9, hS207, H212⟩ := hF213
       dsimp only [List.take, List.map, List.cons_append, List.nil_append]
       rw [e9]
       refine Gives.ofW (d := 203) rfl rfl (fun Q' hK => ?_)
       refine q_append (E := EOt) (k := 12) (l := rowsOf (otA ws) (5 * (n1 + n2)) zi) (l2 := ([⟨ws.getD (5 * (n1 + n2) + 5 * zi) 0#64, ws.getD ((5 * (n1 + n2) + 5 * zi) + 1) 0#64, ws.getD ((5 * (n1 + n2) + 5 * zi) + 2) 0#64, ws.getD ((5 * (n1 + n2) + 5 * zi) + 3) 0#64, false⟩] : List Ot)) H212 rfl hkyoa sli40 zer121 rfl byt121 (H212.rd (k := 0) rfl hS207) rfl (by rw [rowsOf_len]) rfl (by rfl) (by omega) ?_
       intro key214 c215 sp216 w218 hS217 hne220 H219
       have H219' := H219.as (L' := (_ :: _ :: _ :: _ :: _ :: _ :: _ :: _ :: _ :: _ :: _ :: _ :: _ :: _ :: _ :: R)) rfl
       clear H219
       have e221 : (rowsOf (otA ws) (5 * (n1 + n2)) zi) ++ ([⟨ws.getD (5 * (n1 + n2) + 5 * zi) 0#64, ws.getD ((5 * (n1 + n2) + 5 * zi) + 1) 0#64, ws.getD ((5 * (n1 + n2) + 5 * zi) + 2) 0#64, ws.getD ((5 * (n1 + n2) + 5 * zi) + 3) 0#64, false⟩] : List Ot) = rowsOf (otA ws) (5 * (n1 + n2)) (zi + 1) := by rw [rowsOf_succ]; rfl
       have hS222 := hS217
       rw [e221] at hS222
       have H223 := H219'.as (L' := (((some b206), sob EOt 121 ([⟨ws.getD (5 * (n1 + n2) + 5 * zi) 0#64, ws.getD ((5 * (n1 + n2) + 5 * zi) + 1) 0#64, ws.getD ((5 * (n1 + n2) + 5 * zi) + 2) 0#64, ws.getD ((5 * (n1 + n2) + 5 * zi) + 3) 0#64, false⟩] : List Ot) ([])) :: (rc b196 #[u64 (ws.getD (5 * (n1 + n2) + 5 * zi) 0#64), u64 (ws.getD ((5 * (n1 + n2) + 5 * zi) + 1) 0#64), u64 (ws.getD ((5 * (n1 + n2) + 5 * zi) + 2) 0#64), u64 (ws.getD ((5 * (n1 + n2) + 5 * zi) + 3) 0#64), .bool false] 121) :: (re b189 E64 ([ws.getD (5 * (n1 + n2) + 5 * zi) 0#64, ws.getD ((5 * (n1 + n2) + 5 * zi) + 1) 0#64, ws.getD ((5 * (n1 + n2) + 5 * zi) + 2) 0#64, ws.getD ((5 * (n1 + n2) + 5 * zi) + 3) 0#64, ws.getD ((5 * (n1 + n2) + 5 * zi) + 4) 0#64]) 117) :: (rc b #[.slice (ownA key) ws.length c, .pointer none, iN ws.length, iN ((5 * (n1 + n2) + 5 * zi) + 5)] 96) :: (key, sob E64 34 ws sp) :: (rc b23 #[pT b15, pT b19] 38) :: (rc b15 #[.slice (ownA kyta) n1 ccta, .slice (ownA kyba) n2 ccba, .slice (ownA kyoa) zi ccoa] 114) :: (rc b19 #[.slice (ownA kytb) n1 cctb, .slice (ownA kybb) n2 ccbb, .slice (ownA kyob) zi ccob] 114) :: (kyta, sob ETr 66 (rowsOf (trA ws) 0 n1) zzta) :: (kytb, sob ETr 66 (rowsOf (trB ws) 0 n1) zztb) :: (kyba, sob ETr 66 (rowsOf (trA ws) (5 * n1) n2) zzba) :: (kybb, sob ETr 66 (rowsOf (biB ws) (5 * n1) n2) zzbb) :: (key214, sob EOt 121 (rowsOf (otA ws) (5 * (n1 + n2)) (zi + 1)) sp216) :: (kyob, sob EOt 121 (rowsOf (otB ws) (5 * (n1 + n2)) zi) zzob) :: (rc b1 #[.pointer none, .pointer none] 38) :: R)) (by rw [e221])
       exact hK _ _ ⟨b206, key214, c215, sp216, rfl, rfl, hS207, hS222, H223⟩
      refine WalkC.look rfl (fun _ => pT b15) (fun _ _ _ => rfl) (fun q r uw _ _ _ _ => Gives.run rfl (r_nilCheck rfl) ⟨rfl, rfl⟩) ?_
      refine WalkC.look rfl (fun _ => .pointer x22) (fun _ _ _ => rfl) (fun q r uw _ _ _ _ => Gives.run rfl (r_fieldAddr (off' := 2) fld114_2 (by decide) (b := b15) (off := 0) rfl (by omega)) ⟨rfl, rfl⟩) ?_
      refine WalkC.look rfl (fun _ => .pointer x22) (fun _ _ _ => rfl) (fun q r uw _ _ _ _ => Gives.run rfl (r_fieldAddr (off' := 2) fld112_0 (by decide) (b := b15) (off := 2) rfl (by omega)) ⟨rfl, rfl⟩) ?_
      refine WalkC.eff 2 rfl (fun r uw224 hF226 => ?_) ?_
      ·obtain ⟨b206, key214, c215, sp216, e9, e10, hS207, hS222, H225⟩ := hF226
       dsimp only [List.take, List.map, List.cons_append, List.nil_append]
       rw [e9, e10]
       refine Gives.ofW0 rfl (fun Q' hK => ?_)
       refine d_store (k := 6) (v := .slice (ownA key214) (zi + 1) c215) (cs' := #[.slice (ownA kyta) n1 ccta, .slice (ownA kyba) n2 ccba, .slice (ownA key214) (zi + 1) c215]) H225 rfl rfl rfl siz40 (by rfl) (oneL rfl) (by exact bLe rfl) (by rfl) ?_
       intro w227 H228 hC229
       have H228' := H228.as (L' := (_ :: _ :: _ :: _ :: _ :: _ :: _ :: _ :: _ :: _ :: _ :: _ :: _ :: _ :: _ :: R)) rfl
       clear H228
       exact hK _ (fun _ => ⟨b206, key214, c215, sp216, rfl, rfl, trivial, hS207, hS222, H228'⟩)
      refine WalkC.nil ?_
      intro r230 w231 hF233
      obtain ⟨b206, key214, c215, sp216, e9, e10, e14, hS207, hS222, H232⟩ := hF233
      let x12 : Option Nat × Obj := (key214, sob EOt 121 (rowsOf (otA ws) (5 * (n1 + n2)) (zi + 1)) sp216)
      dsimp only
      rw [e9, e10]
      refine wnil ?_
      refine thenNormal ?_
      refine drawC (m := 22) [0, 1, 0, 4, 12, 28, 60, 124, 0, 0, 768, 1792, 3840, 0, 8192, 32512, 65280, 131068, 262143, 524287, 1048575, 2097151] [16, 17, 21] (fun q vs w' => match q, vs with | 0, [] => Hp No w₀ w' (((some b206), sob EOt 121 ([⟨ws.getD (5 * (n1 + n2) + 5 * zi) 0#64, ws.getD ((5 * (n1 + n2) + 5 * zi) + 1) 0#64, ws.getD ((5 * (n1 + n2) + 5 * zi) + 2) 0#64, ws.getD ((5 * (n1 + n2) + 5 * zi) + 3) 0#64, false⟩] : List Ot) ([])) :: x18 :: x2 :: (rc b #[.slice (ownA key) ws.length c, .pointer none, iN ws.length, iN ((5 * (n1 + n2) + 5 * zi) + 5)] 96) :: x9 :: x7 :: (rc b15 #[.slice (ownA kyta) n1 ccta, .slice (ownA kyba) n2 ccba, .slice (ownA key214) (zi + 1) c215] 114) :: x13 :: x6 :: x14 :: x8 :: x15 :: x12 :: x25 :: x3 :: R) | 1, [v0] => ∃ (b237 : Nat), v0 = .slice (ownA (some b237)) 1 1 ∧ Sl EOt (some b237) ([⟨ws.getD ((5 * (n1 + n2) + 5 * zi) + 2) 0#64, ws.getD ((5 * (n1 + n2) + 5 * zi) + 3) 0#64, 0#64, 0#64, true⟩] : List Ot) 1 ([]) ∧ Hp No w₀ w' (((some b237), sob EOt 121 ([⟨ws.getD ((5 * (n1 + n2) + 5 * zi) + 2) 0#64, ws.getD ((5 * (n1 + n2) + 5 * zi) + 3) 0#64, 0#64, 0#64, true⟩] : List Ot) ([])) :: ((some b206), sob EOt 121 ([⟨ws.getD (5 * (n1 + n2) + 5 * zi) 0#64, ws.getD ((5 * (n1 + n2) + 5 * zi) + 1) 0#64, ws.getD ((5 * (n1 + n2) + 5 * zi) + 2) 0#64, ws.getD ((5 * (n1 + n2) + 5 * zi) + 3) 0#64, false⟩] : List Ot) ([])) :: x18 :: x2 :: (rc b #[.slice (ownA key) ws.length c, .pointer none, iN ws.length, iN ((5 * (n1 + n2) + 5 * zi) + 5)] 96) :: x9 :: x7 :: (rc b15 #[.slice (ownA kyta) n1 ccta, .slice (ownA kyba) n2 ccba, .slice (ownA key214) (zi + 1) c215] 114) :: x13 :: x6 :: x14 :: x8 :: x15 :: x12 :: x25 :: x3 :: R) | 2, [v0, v1] => ∃ (b237 : Nat) (key245 : Option Nat) (c246 : Nat) (sp247 : List Value), v0 = .slice (ownA (some b237)) 1 1 ∧ v1 = .slice (ownA key245) (zi + 1) c246 ∧ Sl EOt (some b237) ([⟨ws.getD ((5 * (n1 + n2) + 5 * zi) + 2) 0#64, ws.getD ((5 * (n1 + n2) + 5 * zi) + 3) 0#64, 0#64, 0#64, true⟩] : List Ot) 1 ([]) ∧ Sl EOt key245 (rowsOf (otB ws) (5 * (n1 + n2)) (zi + 1)) c246 sp247 ∧ Hp No w₀ w' (((some b237), sob EOt 121 ([⟨ws.getD ((5 * (n1 + n2) + 5 * zi) + 2) 0#64, ws.getD ((5 * (n1 + n2) + 5 * zi) + 3) 0#64, 0#64, 0#64, true⟩] : List Ot) ([])) :: ((some b206), sob EOt 121 ([⟨ws.getD (5 * (n1 + n2) + 5 * zi) 0#64, ws.getD ((5 * (n1 + n2) + 5 * zi) + 1) 0#64, ws.getD ((5 * (n1 + n2) + 5 * zi) + 2) 0#64, ws.getD ((5 * (n1 + n2) + 5 * zi) + 3) 0#64, false⟩] : List Ot) ([])) :: x18 :: x2 :: (rc b #[.slice (ownA key) ws.length c, .pointer none, iN ws.length, iN ((5 * (n1 + n2) + 5 * zi) + 5)] 96) :: x9 :: x7 :: (rc b15 #[.slice (ownA kyta) n1 ccta, .slice (ownA kyba) n2 ccba, .slice (ownA key214) (zi + 1) c215] 114) :: x13 :: x6 :: x14 :: x8 :: x15 :: x12 :: (key245, sob EOt 121 (rowsOf (otB ws) (5 * (n1 + n2)) (zi + 1)) sp247) :: x3 :: R) | 3, [v0, v1, _] => ∃ (b237 : Nat) (key245 : Option Nat) (c246 : Nat) (sp247 : List Value), v0 = .slice (ownA (some b237)) 1 1 ∧ v1 = .slice (ownA key245) (zi + 1) c246 ∧ True ∧ Sl EOt (some b237) ([⟨ws.getD ((5 * (n1 + n2) + 5 * zi) + 2) 0#64, ws.getD ((5 * (n1 + n2) + 5 * zi) + 3) 0#64, 0#64, 0#64, true⟩] : List Ot) 1 ([]) ∧ Sl EOt key245 (rowsOf (otB ws) (5 * (n1 + n2)) (zi + 1)) c246 sp247 ∧ Hp No w₀ w' (((some b237), sob EOt 121 ([⟨ws.getD ((5 * (n1 + n2) + 5 * zi) + 2) 0#64, ws.getD ((5 * (n1 + n2) + 5 * zi) + 3) 0#64, 0#64, 0#64, true⟩] : List Ot) ([])) :: ((some b206), sob EOt 121 ([⟨ws.getD (5 * (n1 + n2) + 5 * zi) 0#64, ws.getD ((5 * (n1 + n2) + 5 * zi) + 1) 0#64, ws.getD ((5 * (n1 + n2) + 5 * zi) + 2) 0#64, ws.getD ((5 * (n1 + n2) + 5 * zi) + 3) 0#64, false⟩] : List Ot) ([])) :: x18 :: x2 :: (rc b #[.slice (ownA key) ws.length c, .pointer none, iN ws.length, iN ((5 * (n1 + n2) + 5 * zi) + 5)] 96) :: x9 :: x7 :: (rc b15 #[.slice (ownA kyta) n1 ccta, .slice (ownA kyba) n2 ccba, .slice (ownA key214) (zi + 1) c215] 114) :: (rc b19 #[.slice (ownA kytb) n1 cctb, .slice (ownA kybb) n2 ccbb, .slice (ownA key245) (zi + 1) c246] 114) :: x6 :: x14 :: x8 :: x15 :: x12 :: (key245, sob EOt 121 (rowsOf (otB ws) (5 * (n1 + n2)) (zi + 1)) sp247) :: x3 :: R) | _, _ => False) mixed (by kernel_rfl) (by kernel_rfl) H232.drew ?_
      refine WalkC.look rfl (fun _ => .pointer x21) (fun _ _ _ => rfl) (fun q r uw _ _ _ _ => Gives.run rfl (r_indexA (off' := 1) (j := 1) arr38 (b := b23) (off := 0) rfl rfl (by first | rfl | omega | (simp; omega)) (by omega) (by omega)) ⟨rfl, rfl⟩) ?_
      refine WalkC.look rfl (fun _ => pT b19) (fun _ _ _ => rfl) (fun q r uw hlo hhi hle hF => ?_) ?_
      ·have h1 : 0 ≤ q := Nat.zero_le _
       have h2 : q ≤ 2 := hhi 2 21 rfl rfl
       rcases (show q = 0 ∨ q = 1 ∨ q = 2 by omega) with rfl | rfl | rfl
       ·have HH := hF
        exact Gives.run rfl (r_loadC (v := pT b19) one37 (HH.get (k := 5) rfl) (off := 1) rfl (by rfl)) ⟨rfl, rfl⟩
       ·obtain ⟨b237, e16, hS238, HH⟩ := hF
        exact Gives.run rfl (r_loadC (v := pT b19) one37 (HH.get (k := 6) rfl) (off := 1) rfl (by rfl)) ⟨rfl, rfl⟩
       ·obtain ⟨b237, key245, c246, sp247, e16, e17, hS238, hS253, HH⟩ := hF
        exact Gives.run rfl (r_loadC (v := pT b19) one37 (HH.get (k := 6) rfl) (off := 1) rfl (by rfl)) ⟨rfl, rfl⟩
      refine WalkC.look rfl (fun _ => .pointer x21) (fun _ _ _ => rfl) (fun q r uw _ _ _ _ => Gives.run rfl (r_indexA (off' := 1) (j := 1) arr38 (b := b23) (off := 0) rfl rfl (by first | rfl | omega | (simp; omega)) (by omega) (by omega)) ⟨rfl, rfl⟩) ?_
      refine WalkC.look rfl (fun _ => pT b19) (fun _ _ _ => rfl) (fun q r uw hlo hhi hle hF => ?_) ?_
      ·have h1 : 0 ≤ q := Nat.zero_le _
       have h2 : q ≤ 1 := hhi 1 17 rfl rfl
       rcases (show q = 0 ∨ q = 1 by omega) with rfl | rfl
       ·have HH := hF
        exact Gives.run rfl (r_loadC (v := pT b19) one37 (HH.get (k := 5) rfl) (off := 1) rfl (by rfl)) ⟨rfl, rfl⟩
       ·obtain ⟨b237, e16, hS238, HH⟩ := hF
        exact Gives.run rfl (r_loadC (v := pT b19) one37 (HH.get (k := 6) rfl) (off := 1) rfl (by rfl)) ⟨rfl, rfl⟩
      refine WalkC.look rfl (fun _ => pT b19) (fun _ _ _ => rfl) (fun q r uw _ _ _ _ => Gives.run rfl (r_nilCheck rfl) ⟨rfl, rfl⟩) ?_
      refine WalkC.look rfl (fun _ => .pointer x23) (fun _ _ _ => rfl) (fun q r uw _ _ _ _ => Gives.run rfl (r_fieldAddr (off' := 2) fld114_2 (by decide) (b := b19) (off := 0) rfl (by omega)) ⟨rfl, rfl⟩) ?_
      refine WalkC.look rfl (fun _ => .pointer x23) (fun _ _ _ => rfl) (fun q r uw _ _ _ _ => Gives.run rfl (r_fieldAddr (off' := 2) fld112_0 (by decide) (b := b19) (off := 2) rfl (by omega)) ⟨rfl, rfl⟩) ?_
      refine WalkC.look rfl (fun _ => .slice (ownA kyob) zi ccob) (fun _ _ _ => rfl) (fun q r uw hlo hhi hle hF => ?_) ?_
      ·have h1 : 0 ≤ q := Nat.zero_le _
       have h2 : q ≤ 1 := hhi 1 17 rfl rfl
       rcases (show q = 0 ∨ q = 1 by omega) with rfl | rfl
       ·have HH := hF
        exact Gives.run rfl (r_loadC (v := .slice (ownA kyob) zi ccob) one40 (HH.get (k := 7) rfl) (off := 2) rfl (by rfl)) ⟨rfl, rfl⟩
       ·obtain ⟨b237, e16, hS238, HH⟩ := hF
        exact Gives.run rfl (r_loadC (v := .slice (ownA kyob) zi ccob) one40 (HH.get (k := 8) rfl) (off := 2) rfl (by rfl)) ⟨rfl, rfl⟩
      refine WalkC.look rfl (fun _ => u64 1#64) (fun _ _ _ => rfl) (fun q r uw _ _ _ _ => Gives.run rfl (r_move (v := u64 1#64) rfl) ⟨rfl, rfl⟩) ?_
      refine WalkC.look rfl (fun _ => pT b196) (fun _ _ _ => rfl) (fun q r uw _ _ _ _ => Gives.run rfl (r_fieldAddr (off' := 0) fld121_0 (by decide) (b := b196) (off := 0) rfl (by omega)) ⟨rfl, rfl⟩) ?_
      refine WalkC.look rfl (fun _ => .pointer (some ⟨b196, 2, none⟩)) (fun _ _ _ => rfl) (fun q r uw _ _ _ _ => Gives.run rfl (r_indexA (off' := 2) (j := 1) arr119 (b := b196) (off := 0) rfl rfl (by first | rfl | omega | (simp; omega)) (by omega) (by omega)) ⟨rfl, rfl⟩) ?_
      refine WalkC.look rfl (fun _ => .agg (cel E64 [ws.getD ((5 * (n1 + n2) + 5 * zi) + 2) 0#64, ws.getD ((5 * (n1 + n2) + 5 * zi) + 3) 0#64]).toArray) (fun _ _ _ => rfl) (fun q r uw hlo hhi hle hF => ?_) ?_
      ·have h1 : 0 ≤ q := Nat.zero_le _
       have h2 : q ≤ 0 := hhi 0 16 rfl rfl
       rcases (show q = 0 by omega) with rfl
       ·have HH := hF
        exact Gives.run rfl (r_loadA (cs' := (cel E64 [ws.getD ((5 * (n1 + n2) + 5 * zi) + 2) 0#64, ws.getD ((5 * (n1 + n2) + 5 * zi) + 3) 0#64]).toArray) agg83 siz83 (HH.get (k := 1) rfl) (off := 2) rfl (by exact bLe rfl) (by rfl)) ⟨rfl, rfl⟩
      refine WalkC.look rfl (fun _ => .agg #[x38, x42, u64 0#64, u64 0#64]) (fun _ _ _ => rfl) (fun q r uw _ _ _ _ => Gives.run rfl (r_buildA (cs' := #[x38, x42, u64 0#64, u64 0#64]) (ps := [(0, .agg (cel E64 [ws.getD ((5 * (n1 + n2) + 5 * zi) + 2) 0#64, ws.getD ((5 * (n1 + n2) + 5 * zi) + 3) 0#64]).toArray)]) zer119 arr119 rfl (by rfl)) ⟨rfl, rfl⟩) ?_
      refine WalkC.look rfl (fun _ => u64 1#64) (fun _ _ _ => rfl) (fun q r uw _ _ _ _ => Gives.run rfl (r_move (v := u64 1#64) rfl) ⟨rfl, rfl⟩) ?_
      refine WalkC.look rfl (fun _ => .bool true) (fun _ _ _ => rfl) (fun q r uw _ _ _ _ => Gives.run rfl ((r_eql64 (a := 1#64) (b := 1#64) rfl rfl).as (v' := .bool true) (by rfl)) ⟨rfl, rfl⟩) ?_
      refine WalkC.look rfl (fun _ => .agg x47) (fun _ _ _ => rfl) (fun q r uw _ _ _ _ => Gives.run rfl (r_build (cs' := x47) (ps := [(0, .agg #[x38, x42, u64 0#64, u64 0#64]), (1, .bool true)]) zer121 pls121 rfl (by rfl)) ⟨rfl, rfl⟩) ?_
      refine WalkC.eff 0 rfl (fun r uw234 hF236 => ?_) ?_
      ·have H235 := hF236
       dsimp only [List.take, List.map, List.cons_append, List.nil_append]
       refine Gives.ofW (d := 223) rfl rfl (fun Q' hK => ?_)
       refine q_buildSlice (E := EOt) (l := ([⟨ws.getD ((5 * (n1 + n2) + 5 * zi) + 2) 0#64, ws.getD ((5 * (n1 + n2) + 5 * zi) + 3) 0#64, 0#64, 0#64, true⟩] : List Ot)) H235 sli40 zer121 (bLe rfl) (ps := [(0, .agg x47)]) rfl (by exact fillAll rfl rfl) rfl ?_
       intro b237 w239 hS238 H240 hE241
       exact hK _ _ ⟨b237, rfl, hS238, H240⟩
      refine WalkC.eff 1 rfl (fun r uw242 hF244 => ?_) ?_
      ·obtain ⟨b237, e16, hS238, H243⟩ := hF244
       dsimp only [List.take, List.map, List.cons_append, List.nil_append]
       rw [e16]
       refine Gives.ofW (d := 224) rfl rfl (fun Q' hK => ?_)
       refine q_append (E := EOt) (k := 14) (l := rowsOf (otB ws) (5 * (n1 + n2)) zi) (l2 := ([⟨ws.getD ((5 * (n1 + n2) + 5 * zi) + 2) 0#64, ws.getD ((5 * (n1 + n2) + 5 * zi) + 3) 0#64, 0#64, 0#64, true⟩] : List Ot)) H243 rfl hkyob sli40 zer121 rfl byt121 (H243.rd (k := 0) rfl hS238) rfl (by rw [rowsOf_len]) rfl (by rfl) (by omega) ?_
       intro key245 c246 sp247 w249 hS248 hne251 H250
       have H250' := H250.as (L' := (_ :: _ :: _ :: _ :: _ :: _ :: _ :: _ :: _ :: _ :: _ :: _ :: _ :: _ :: _ :: _ :: R)) rfl
       clear H250
       have e252 : (rowsOf (otB ws) (5 * (n1 + n2)) zi) ++ ([⟨ws.getD ((5 * (n1 + n2) + 5 * zi) + 2) 0#64, ws.getD ((5 * (n1 + n2) + 5 * zi) + 3) 0#64, 0#64, 0#64, true⟩] : List Ot) = rowsOf (otB ws) (5 * (n1 + n2)) (zi + 1) := by rw [rowsOf_succ, otB_t hodd]; rfl
       have hS253 := hS248
       rw [e252] at hS253
       have H254 := H250'.as (L' := (((some b237), sob EOt 121 ([⟨ws.getD ((5 * (n1 + n2) + 5 * zi) + 2) 0#64, ws.getD ((5 * (n1 + n2) + 5 * zi) + 3) 0#64, 0#64, 0#64, true⟩] : List Ot) ([])) :: ((some b206), sob EOt 121 ([⟨ws.getD (5 * (n1 + n2) + 5 * zi) 0#64, ws.getD ((5 * (n1 + n2) + 5 * zi) + 1) 0#64, ws.getD ((5 * (n1 + n2) + 5 * zi) + 2) 0#64, ws.getD ((5 * (n1 + n2) + 5 * zi) + 3) 0#64, false⟩] : List Ot) ([])) :: (rc b196 #[u64 (ws.getD (5 * (n1 + n2) + 5 * zi) 0#64), u64 (ws.getD ((5 * (n1 + n2) + 5 * zi) + 1) 0#64), u64 (ws.getD ((5 * (n1 + n2) + 5 * zi) + 2) 0#64), u64 (ws.getD ((5 * (n1 + n2) + 5 * zi) + 3) 0#64), .bool false] 121) :: (re b189 E64 ([ws.getD (5 * (n1 + n2) + 5 * zi) 0#64, ws.getD ((5 * (n1 + n2) + 5 * zi) + 1) 0#64, ws.getD ((5 * (n1 + n2) + 5 * zi) + 2) 0#64, ws.getD ((5 * (n1 + n2) + 5 * zi) + 3) 0#64, ws.getD ((5 * (n1 + n2) + 5 * zi) + 4) 0#64]) 117) :: (rc b #[.slice (ownA key) ws.length c, .pointer none, iN ws.length, iN ((5 * (n1 + n2) + 5 * zi) + 5)] 96) :: (key, sob E64 34 ws sp) :: (rc b23 #[pT b15, pT b19] 38) :: (rc b15 #[.slice (ownA kyta) n1 ccta, .slice (ownA kyba) n2 ccba, .slice (ownA key214) (zi + 1) c215] 114) :: (rc b19 #[.slice (ownA kytb) n1 cctb, .slice (ownA kybb) n2 ccbb, .slice (ownA kyob) zi ccob] 114) :: (kyta, sob ETr 66 (rowsOf (trA ws) 0 n1) zzta) :: (kytb, sob ETr 66 (rowsOf (trB ws) 0 n1) zztb) :: (kyba, sob ETr 66 (rowsOf (trA ws) (5 * n1) n2) zzba) :: (kybb, sob ETr 66 (rowsOf (biB ws) (5 * n1) n2) zzbb) :: (key214, sob EOt 121 (rowsOf (otA ws) (5 * (n1 + n2)) (zi + 1)) sp216) :: (key245, sob EOt 121 (rowsOf (otB ws) (5 * (n1 + n2)) (zi + 1)) sp247) :: (rc b1 #[.pointer none, .pointer none] 38) :: R)) (by rw [e252])
       exact hK _ _ ⟨b237, key245, c246, sp247, rfl, rfl, hS238, hS253, H254⟩
      refine WalkC.look rfl (fun _ => pT b19) (fun _ _ _ => rfl) (fun q r uw _ _ _ _ => Gives.run rfl (r_nilCheck rfl) ⟨rfl, rfl⟩) ?_
      refine WalkC.look rfl (fun _ => .pointer x23) (fun _ _ _ => rfl) (fun q r uw _ _ _ _ => Gives.run rfl (r_fieldAddr (off' := 2) fld114_2 (by decide) (b := b19) (off := 0) rfl (by omega)) ⟨rfl, rfl⟩) ?_
      refine WalkC.look rfl (fun _ => .pointer x23) (fun _ _ _ => rfl) (fun q r uw _ _ _ _ => Gives.run rfl (r_fieldAddr (off' := 2) fld112_0 (by decide) (b := b19) (off := 2) rfl (by omega)) ⟨rfl, rfl⟩) ?_
      refine WalkC.eff 2 rfl (fun r uw255 hF257 => ?_) ?_
      ·obtain ⟨b237, key245, c246, sp247, e16, e17, hS238, hS253, H256⟩ := hF257
       dsimp only [List.take, List.map, List.cons_append, List.nil_append]
       rw [e16, e17]
       refine Gives.ofW0 rfl (fun Q' hK => ?_)
       refine d_store (k := 8) (v := .slice (ownA key245) (zi + 1) c246) (cs' := #[.slice (ownA kytb) n1 cctb, .slice (ownA kybb) n2 ccbb, .slice (ownA key245) (zi + 1) c246]) H256 rfl rfl rfl siz40 (by rfl) (oneL rfl) (by exact bLe rfl) (by rfl) ?_
       intro w258 H259 hC260
       have H259' := H259.as (L' := (_ :: _ :: _ :: _ :: _ :: _ :: _ :: _ :: _ :: _ :: _ :: _ :: _ :: _ :: _ :: _ :: R)) rfl
       clear H259
       exact hK _ (fun _ => ⟨b237, key245, c246, sp247, rfl, rfl, trivial, hS238, hS253, H259'⟩)
      refine WalkC.nil ?_
      intro r261 w262 hF264
      obtain ⟨b237, key245, c246, sp247, e16, e17, e21, hS238, hS253, H263⟩ := hF264
      dsimp only
      rw [e16, e17]
      refine wnil ?_
      refine blockNormal ?_
      refine thenNormal ?_
      refine oneRegion ?_
      refine sq (r_addI (a := (zi : Nat)) (b := (1 : Int)) rfl rfl (by omega)) ?_
      refine sM (i64 ((zi : Nat) + (1 : Int))) rfl ?_
      refine wnil ?_
      refine thenNormal ?_
      rw [show (5 * (n1 + n2) + 5 * zi) + 5 = 5 * (n1 + n2) + 5 * (zi + 1) by omega] at H263
      exact ⟨(zi + 1, key214, c215, sp216, key245, c246, sp247), _, rfl, ⟨rfl, rfl, rfl, rfl, rfl, rfl, rfl, rfl, rfl, trivial⟩, ⟨⟨by omega, hS222, hS253⟩, (H263.pick 16 [6, 7, 8, 9, 10, 11, 12, 13, 14, 15, 4, 5] (by decide) (by decide))⟩, by show n3 - (zi + 1) < n3 - zi; omega⟩
     ·refine sR ?_
      have hodd0 := (odd_and _).resolve_right hodd
      refine sq (r_indexA (off' := 4) (j := 4) arr117 (b := b189) (off := 0) rfl rfl (by first | rfl | omega | (simp; omega)) (by omega) (by omega)) ?_
      refine sq (r_ld1 (E := E64) (l := [ws.getD (5 * (n1 + n2) + 5 * zi) 0#64, ws.getD ((5 * (n1 + n2) + 5 * zi) + 1) 0#64, ws.getD ((5 * (n1 + n2) + 5 * zi) + 2) 0#64, ws.getD ((5 * (n1 + n2) + 5 * zi) + 3) 0#64, ws.getD ((5 * (n1 + n2) + 5 * zi) + 4) 0#64]) (j := 4) (a := ws.getD ((5 * (n1 + n2) + 5 * zi) + 4) 0#64) fits34 (H201'.get (k := 1) rfl) (by rfl) rfl rfl) ?_
      refine sq ((r_and64 (a := ws.getD ((5 * (n1 + n2) + 5 * zi) + 4) 0#64) (b := 1#64) rfl rfl).as (v' := u64 0#64) (by exact congrArg u64 hodd0)) ?_
      refine sA (u64 0#64) rfl ?_
      refine wend ?_
      refine seqAny ?_
      refine drawC (m := 15) [0, 1, 0, 4, 12, 28, 60, 124, 0, 256, 1020, 2047, 4095, 8191, 16383] [9, 10, 14] (fun q vs w' => match q, vs with | 0, [] => Hp No w₀ w' (x18 :: x2 :: (rc b #[.slice (ownA key) ws.length c, .pointer none, iN ws.length, iN ((5 * (n1 + n2) + 5 * zi) + 5)] 96) :: x9 :: x7 :: x46 :: x13 :: x6 :: x14 :: x8 :: x15 :: x49 :: x25 :: x3 :: R) | 1, [v0] => ∃ (b268 : Nat), v0 = .slice (ownA (some b268)) 1 1 ∧ Sl EOt (some b268) ([⟨ws.getD (5 * (n1 + n2) + 5 * zi) 0#64, ws.getD ((5 * (n1 + n2) + 5 * zi) + 1) 0#64, ws.getD ((5 * (n1 + n2) + 5 * zi) + 2) 0#64, ws.getD ((5 * (n1 + n2) + 5 * zi) + 3) 0#64, false⟩] : List Ot) 1 ([]) ∧ Hp No w₀ w' (((some b268), sob EOt 121 ([⟨ws.getD (5 * (n1 + n2) + 5 * zi) 0#64, ws.getD ((5 * (n1 + n2) + 5 * zi) + 1) 0#64, ws.getD ((5 * (n1 + n2) + 5 * zi) + 2) 0#64, ws.getD ((5 * (n1 + n2) + 5 * zi) + 3) 0#64, false⟩] : List Ot) ([])) :: x18 :: x2 :: (rc b #[.slice (ownA key) ws.length c, .pointer none, iN ws.length, iN ((5 * (n1 + n2) + 5 * zi) + 5)] 96) :: x9 :: x7 :: x46 :: x13 :: x6 :: x14 :: x8 :: x15 :: x49 :: x25 :: x3 :: R) | 2, [v0, v1] => ∃ (b268 : Nat) (key276 : Option Nat) (c277 : Nat) (sp278 : List Value), v0 = .slice (ownA (some b268)) 1 1 ∧ v1 = .slice (ownA key276) (zi + 1) c277 ∧ Sl EOt (some b268) ([⟨ws.getD (5 * (n1 + n2) + 5 * zi) 0#64, ws.getD ((5 * (n1 + n2) + 5 * zi) + 1) 0#64, ws.getD ((5 * (n1 + n2) + 5 * zi) + 2) 0#64, ws.getD ((5 * (n1 + n2) + 5 * zi) + 3) 0#64, false⟩] : List Ot) 1 ([]) ∧ Sl EOt key276 (rowsOf (otA ws) (5 * (n1 + n2)) (zi + 1)) c277 sp278 ∧ Hp No w₀ w' (((some b268), sob EOt 121 ([⟨ws.getD (5 * (n1 + n2) + 5 * zi) 0#64, ws.getD ((5 * (n1 + n2) + 5 * zi) + 1) 0#64, ws.getD ((5 * (n1 + n2) + 5 * zi) + 2) 0#64, ws.getD ((5 * (n1 + n2) + 5 * zi) + 3) 0#64, false⟩] : List Ot) ([])) :: x18 :: x2 :: (rc b #[.slice (ownA key) ws.length c, .pointer none, iN ws.length, iN ((5 * (n1 + n2) + 5 * zi) + 5)] 96) :: x9 :: x7 :: x46 :: x13 :: x6 :: x14 :: x8 :: x15 :: (key276, sob EOt 121 (rowsOf (otA ws) (5 * (n1 + n2)) (zi + 1)) sp278) :: x25 :: x3 :: R) | 3, [v0, v1, _] => ∃ (b268 : Nat) (key276 : Option Nat) (c277 : Nat) (sp278 : List Value), v0 = .slice (ownA (some b268)) 1 1 ∧ v1 = .slice (ownA key276) (zi + 1) c277 ∧ True ∧ Sl EOt (some b268) ([⟨ws.getD (5 * (n1 + n2) + 5 * zi) 0#64, ws.getD ((5 * (n1 + n2) + 5 * zi) + 1) 0#64, ws.getD ((5 * (n1 + n2) + 5 * zi) + 2) 0#64, ws.getD ((5 * (n1 + n2) + 5 * zi) + 3) 0#64, false⟩] : List Ot) 1 ([]) ∧ Sl EOt key276 (rowsOf (otA ws) (5 * (n1 + n2)) (zi + 1)) c277 sp278 ∧ Hp No w₀ w' (((some b268), sob EOt 121 ([⟨ws.getD (5 * (n1 + n2) + 5 * zi) 0#64, ws.getD ((5 * (n1 + n2) + 5 * zi) + 1) 0#64, ws.getD ((5 * (n1 + n2) + 5 * zi) + 2) 0#64, ws.getD ((5 * (n1 + n2) + 5 * zi) + 3) 0#64, false⟩] : List Ot) ([])) :: x18 :: x2 :: (rc b #[.slice (ownA key) ws.length c, .pointer none, iN ws.length, iN ((5 * (n1 + n2) + 5 * zi) + 5)] 96) :: x9 :: x7 :: (rc b15 #[.slice (ownA kyta) n1 ccta, .slice (ownA kyba) n2 ccba, .slice (ownA key276) (zi + 1) c277] 114) :: x13 :: x6 :: x14 :: x8 :: x15 :: (key276, sob EOt 121 (rowsOf (otA ws) (5 * (n1 + n2)) (zi + 1)) sp278) :: x25 :: x3 :: R) | _, _ => False) mixed (by kernel_rfl) (by kernel_rfl) H201'.drew ?_
      refine WalkC.look rfl (fun _ => pT b23) (fun _ _ _ => rfl) (fun q r uw _ _ _ _ => Gives.run rfl (r_indexA (off' := 0) (j := 0) arr38 (b := b23) (off := 0) rfl rfl (by first | rfl | omega | (simp; omega)) (by omega) (by omega)) ⟨rfl, rfl⟩) ?_
      refine WalkC.look rfl (fun _ => pT b15) (fun _ _ _ => rfl) (fun q r uw hlo hhi hle hF => ?_) ?_
      ·have h1 : 0 ≤ q := Nat.zero_le _
       have h2 : q ≤ 2 := hhi 2 14 rfl rfl
       rcases (show q = 0 ∨ q = 1 ∨ q = 2 by omega) with rfl | rfl | rfl
       ·have HH := hF
        exact Gives.run rfl (r_loadC (v := pT b15) one37 (HH.get (k := 4) rfl) (off := 0) rfl (by rfl)) ⟨rfl, rfl⟩
       ·obtain ⟨b268, e9, hS269, HH⟩ := hF
        exact Gives.run rfl (r_loadC (v := pT b15) one37 (HH.get (k := 5) rfl) (off := 0) rfl (by rfl)) ⟨rfl, rfl⟩
       ·obtain ⟨b268, key276, c277, sp278, e9, e10, hS269, hS284, HH⟩ := hF
        exact Gives.run rfl (r_loadC (v := pT b15) one37 (HH.get (k := 5) rfl) (off := 0) rfl (by rfl)) ⟨rfl, rfl⟩
      refine WalkC.look rfl (fun _ => pT b23) (fun _ _ _ => rfl) (fun q r uw _ _ _ _ => Gives.run rfl (r_indexA (off' := 0) (j := 0) arr38 (b := b23) (off := 0) rfl rfl (by first | rfl | omega | (simp; omega)) (by omega) (by omega)) ⟨rfl, rfl⟩) ?_
      refine WalkC.look rfl (fun _ => pT b15) (fun _ _ _ => rfl) (fun q r uw hlo hhi hle hF => ?_) ?_
      ·have h1 : 0 ≤ q := Nat.zero_le _
       have h2 : q ≤ 1 := hhi 1 10 rfl rfl
       rcases (show q = 0 ∨ q = 1 by omega) with rfl | rfl
       ·have HH := hF
        exact Gives.run rfl (r_loadC (v := pT b15) one37 (HH.get (k := 4) rfl) (off := 0) rfl (by rfl)) ⟨rfl, rfl⟩
       ·obtain ⟨b268, e9, hS269, HH⟩ := hF
        exact Gives.run rfl (r_loadC (v := pT b15) one37 (HH.get (k := 5) rfl) (off := 0) rfl (by rfl)) ⟨rfl, rfl⟩
      refine WalkC.look rfl (fun _ => pT b15) (fun _ _ _ => rfl) (fun q r uw _ _ _ _ => Gives.run rfl (r_nilCheck rfl) ⟨rfl, rfl⟩) ?_
      refine WalkC.look rfl (fun _ => .pointer x22) (fun _ _ _ => rfl) (fun q r uw _ _ _ _ => Gives.run rfl (r_fieldAddr (off' := 2) fld114_2 (by decide) (b := b15) (off := 0) rfl (by omega)) ⟨rfl, rfl⟩) ?_
      refine WalkC.look rfl (fun _ => .pointer x22) (fun _ _ _ => rfl) (fun q r uw _ _ _ _ => Gives.run rfl (r_fieldAddr (off' := 2) fld112_0 (by decide) (b := b15) (off := 2) rfl (by omega)) ⟨rfl, rfl⟩) ?_
      refine WalkC.look rfl (fun _ => .slice (ownA kyoa) zi ccoa) (fun _ _ _ => rfl) (fun q r uw hlo hhi hle hF => ?_) ?_
      ·have h1 : 0 ≤ q := Nat.zero_le _
       have h2 : q ≤ 1 := hhi 1 10 rfl rfl
       rcases (show q = 0 ∨ q = 1 by omega) with rfl | rfl
       ·have HH := hF
        exact Gives.run rfl (r_loadC (v := .slice (ownA kyoa) zi ccoa) one40 (HH.get (k := 5) rfl) (off := 2) rfl (by rfl)) ⟨rfl, rfl⟩
       ·obtain ⟨b268, e9, hS269, HH⟩ := hF
        exact Gives.run rfl (r_loadC (v := .slice (ownA kyoa) zi ccoa) one40 (HH.get (k := 6) rfl) (off := 2) rfl (by rfl)) ⟨rfl, rfl⟩
      refine WalkC.look rfl (fun _ => .agg x1) (fun _ _ _ => rfl) (fun q r uw hlo hhi hle hF => ?_) ?_
      ·have h1 : 0 ≤ q := Nat.zero_le _
       have h2 : q ≤ 0 := hhi 0 9 rfl rfl
       rcases (show q = 0 by omega) with rfl
       ·have HH := hF
        exact Gives.run rfl (r_loadA (cs' := x1) agg121 siz121 (HH.get (k := 0) rfl) (off := 0) rfl (by exact bLe rfl) (by rfl)) ⟨rfl, rfl⟩
      refine WalkC.eff 0 rfl (fun r uw265 hF267 => ?_) ?_
      ·have H266 := hF267
       dsimp only [List.take, List.map, List.cons_append, List.nil_append]
       refine Gives.ofW (d := 202) rfl rfl (fun Q' hK => ?_)
       refine q_buildSlice (E := EOt) (l := ([⟨ws.getD (5 * (n1 + n2) + 5 * zi) 0#64, ws.getD ((5 * (n1 + n2) + 5 * zi) + 1) 0#64, ws.getD ((5 * (n1 + n2) + 5 * zi) + 2) 0#64, ws.getD ((5 * (n1 + n2) + 5 * zi) + 3) 0#64, false⟩] : List Ot)) H266 sli40 zer121 (bLe rfl) (ps := [(0, .agg x1)]) rfl (by exact fillAll rfl rfl) rfl ?_
       intro b268 w270 hS269 H271 hE272
       exact hK _ _ ⟨b268, rfl, hS269, H271⟩
      refine WalkC.eff 1 rfl (fun r uw273 hF275 => ?_) ?_
      ·obtain ⟨b268, e9, hS269, H274⟩ := hF275
       dsimp only [List.take, List.map, List.cons_append, List.nil_append]
       rw [e9]
       refine Gives.ofW (d := 203) rfl rfl (fun Q' hK => ?_)
       refine q_append (E := EOt) (k := 12) (l := rowsOf (otA ws) (5 * (n1 + n2)) zi) (l2 := ([⟨ws.getD (5 * (n1 + n2) + 5 * zi) 0#64, ws.getD ((5 * (n1 + n2) + 5 * zi) + 1) 0#64, ws.getD ((5 * (n1 + n2) + 5 * zi) + 2) 0#64, ws.getD ((5 * (n1 + n2) + 5 * zi) + 3) 0#64, false⟩] : List Ot)) H274 rfl hkyoa sli40 zer121 rfl byt121 (H274.rd (k := 0) rfl hS269) rfl (by rw [rowsOf_len]) rfl (by rfl) (by omega) ?_
       intro key276 c277 sp278 w280 hS279 hne282 H281
       have H281' := H281.as (L' := (_ :: _ :: _ :: _ :: _ :: _ :: _ :: _ :: _ :: _ :: _ :: _ :: _ :: _ :: _ :: R)) rfl
       clear H281
       have e283 : (rowsOf (otA ws) (5 * (n1 + n2)) zi) ++ ([⟨ws.getD (5 * (n1 + n2) + 5 * zi) 0#64, ws.getD ((5 * (n1 + n2) + 5 * zi) + 1) 0#64, ws.getD ((5 * (n1 + n2) + 5 * zi) + 2) 0#64, ws.getD ((5 * (n1 + n2) + 5 * zi) + 3) 0#64, false⟩] : List Ot) = rowsOf (otA ws) (5 * (n1 + n2)) (zi + 1) := by rw [rowsOf_succ]; rfl
       have hS284 := hS279
       rw [e283] at hS284
       have H285 := H281'.as (L' := (((some b268), sob EOt 121 ([⟨ws.getD (5 * (n1 + n2) + 5 * zi) 0#64, ws.getD ((5 * (n1 + n2) + 5 * zi) + 1) 0#64, ws.getD ((5 * (n1 + n2) + 5 * zi) + 2) 0#64, ws.getD ((5 * (n1 + n2) + 5 * zi) + 3) 0#64, false⟩] : List Ot) ([])) :: (rc b196 #[u64 (ws.getD (5 * (n1 + n2) + 5 * zi) 0#64), u64 (ws.getD ((5 * (n1 + n2) + 5 * zi) + 1) 0#64), u64 (ws.getD ((5 * (n1 + n2) + 5 * zi) + 2) 0#64), u64 (ws.getD ((5 * (n1 + n2) + 5 * zi) + 3) 0#64), .bool false] 121) :: (re b189 E64 ([ws.getD (5 * (n1 + n2) + 5 * zi) 0#64, ws.getD ((5 * (n1 + n2) + 5 * zi) + 1) 0#64, ws.getD ((5 * (n1 + n2) + 5 * zi) + 2) 0#64, ws.getD ((5 * (n1 + n2) + 5 * zi) + 3) 0#64, ws.getD ((5 * (n1 + n2) + 5 * zi) + 4) 0#64]) 117) :: (rc b #[.slice (ownA key) ws.length c, .pointer none, iN ws.length, iN ((5 * (n1 + n2) + 5 * zi) + 5)] 96) :: (key, sob E64 34 ws sp) :: (rc b23 #[pT b15, pT b19] 38) :: (rc b15 #[.slice (ownA kyta) n1 ccta, .slice (ownA kyba) n2 ccba, .slice (ownA kyoa) zi ccoa] 114) :: (rc b19 #[.slice (ownA kytb) n1 cctb, .slice (ownA kybb) n2 ccbb, .slice (ownA kyob) zi ccob] 114) :: (kyta, sob ETr 66 (rowsOf (trA ws) 0 n1) zzta) :: (kytb, sob ETr 66 (rowsOf (trB ws) 0 n1) zztb) :: (kyba, sob ETr 66 (rowsOf (trA ws) (5 * n1) n2) zzba) :: (kybb, sob ETr 66 (rowsOf (biB ws) (5 * n1) n2) zzbb) :: (key276, sob EOt 121 (rowsOf (otA ws) (5 * (n1 + n2)) (zi + 1)) sp278) :: (kyob, sob EOt 121 (rowsOf (otB ws) (5 * (n1 + n2)) zi) zzob) :: (rc b1 #[.pointer none, .pointer none] 38) :: R)) (by rw [e283])
       exact hK _ _ ⟨b268, key276, c277, sp278, rfl, rfl, hS269, hS284, H285⟩
      refine WalkC.look rfl (fun _ => pT b15) (fun _ _ _ => rfl) (fun q r uw _ _ _ _ => Gives.run rfl (r_nilCheck rfl) ⟨rfl, rfl⟩) ?_
      refine WalkC.look rfl (fun _ => .pointer x22) (fun _ _ _ => rfl) (fun q r uw _ _ _ _ => Gives.run rfl (r_fieldAddr (off' := 2) fld114_2 (by decide) (b := b15) (off := 0) rfl (by omega)) ⟨rfl, rfl⟩) ?_
      refine WalkC.look rfl (fun _ => .pointer x22) (fun _ _ _ => rfl) (fun q r uw _ _ _ _ => Gives.run rfl (r_fieldAddr (off' := 2) fld112_0 (by decide) (b := b15) (off := 2) rfl (by omega)) ⟨rfl, rfl⟩) ?_
      refine WalkC.eff 2 rfl (fun r uw286 hF288 => ?_) ?_
      ·obtain ⟨b268, key276, c277, sp278, e9, e10, hS269, hS284, H287⟩ := hF288
       dsimp only [List.take, List.map, List.cons_append, List.nil_append]
       rw [e9, e10]
       refine Gives.ofW0 rfl (fun Q' hK => ?_)
       refine d_store (k := 6) (v := .slice (ownA key276) (zi + 1) c277) (cs' := #[.slice (ownA kyta) n1 ccta, .slice (ownA kyba) n2 ccba, .slice (ownA key276) (zi + 1) c277]) H287 rfl rfl rfl siz40 (by rfl) (oneL rfl) (by exact bLe rfl) (by rfl) ?_
       intro w289 H290 hC291
       have H290' := H290.as (L' := (_ :: _ :: _ :: _ :: _ :: _ :: _ :: _ :: _ :: _ :: _ :: _ :: _ :: _ :: _ :: R)) rfl
       clear H290
       exact hK _ (fun _ => ⟨b268, key276, c277, sp278, rfl, rfl, trivial, hS269, hS284, H290'⟩)
      refine WalkC.nil ?_
      intro r292 w293 hF295
      obtain ⟨b268, key276, c277, sp278, e9, e10, e14, hS269, hS284, H294⟩ := hF295
      let x19 : Option Nat × Obj := (key276, sob EOt 121 (rowsOf (otA ws) (5 * (n1 + n2)) (zi + 1)) sp278)
      dsimp only
      rw [e9, e10]
      refine wnil ?_
      refine thenNormal ?_
      refine drawC (m := 22) [0, 1, 0, 4, 12, 28, 60, 124, 0, 0, 768, 1792, 3840, 0, 8192, 32512, 65280, 131068, 262143, 524287, 1048575, 2097151] [16, 17, 21] (fun q vs w' => match q, vs with | 0, [] => Hp No w₀ w' (((some b268), sob EOt 121 ([⟨ws.getD (5 * (n1 + n2) + 5 * zi) 0#64, ws.getD ((5 * (n1 + n2) + 5 * zi) + 1) 0#64, ws.getD ((5 * (n1 + n2) + 5 * zi) + 2) 0#64, ws.getD ((5 * (n1 + n2) + 5 * zi) + 3) 0#64, false⟩] : List Ot) ([])) :: x18 :: x2 :: (rc b #[.slice (ownA key) ws.length c, .pointer none, iN ws.length, iN ((5 * (n1 + n2) + 5 * zi) + 5)] 96) :: x9 :: x7 :: (rc b15 #[.slice (ownA kyta) n1 ccta, .slice (ownA kyba) n2 ccba, .slice (ownA key276) (zi + 1) c277] 114) :: x13 :: x6 :: x14 :: x8 :: x15 :: x19 :: x25 :: x3 :: R) | 1, [v0] => ∃ (b299 : Nat), v0 = .slice (ownA (some b299)) 1 1 ∧ Sl EOt (some b299) ([⟨ws.getD (5 * (n1 + n2) + 5 * zi) 0#64, ws.getD ((5 * (n1 + n2) + 5 * zi) + 1) 0#64, 0#64, 0#64, false⟩] : List Ot) 1 ([]) ∧ Hp No w₀ w' (((some b299), sob EOt 121 ([⟨ws.getD (5 * (n1 + n2) + 5 * zi) 0#64, ws.getD ((5 * (n1 + n2) + 5 * zi) + 1) 0#64, 0#64, 0#64, false⟩] : List Ot) ([])) :: ((some b268), sob EOt 121 ([⟨ws.getD (5 * (n1 + n2) + 5 * zi) 0#64, ws.getD ((5 * (n1 + n2) + 5 * zi) + 1) 0#64, ws.getD ((5 * (n1 + n2) + 5 * zi) + 2) 0#64, ws.getD ((5 * (n1 + n2) + 5 * zi) + 3) 0#64, false⟩] : List Ot) ([])) :: x18 :: x2 :: (rc b #[.slice (ownA key) ws.length c, .pointer none, iN ws.length, iN ((5 * (n1 + n2) + 5 * zi) + 5)] 96) :: x9 :: x7 :: (rc b15 #[.slice (ownA kyta) n1 ccta, .slice (ownA kyba) n2 ccba, .slice (ownA key276) (zi + 1) c277] 114) :: x13 :: x6 :: x14 :: x8 :: x15 :: x19 :: x25 :: x3 :: R) | 2, [v0, v1] => ∃ (b299 : Nat) (key307 : Option Nat) (c308 : Nat) (sp309 : List Value), v0 = .slice (ownA (some b299)) 1 1 ∧ v1 = .slice (ownA key307) (zi + 1) c308 ∧ Sl EOt (some b299) ([⟨ws.getD (5 * (n1 + n2) + 5 * zi) 0#64, ws.getD ((5 * (n1 + n2) + 5 * zi) + 1) 0#64, 0#64, 0#64, false⟩] : List Ot) 1 ([]) ∧ Sl EOt key307 (rowsOf (otB ws) (5 * (n1 + n2)) (zi + 1)) c308 sp309 ∧ Hp No w₀ w' (((some b299), sob EOt 121 ([⟨ws.getD (5 * (n1 + n2) + 5 * zi) 0#64, ws.getD ((5 * (n1 + n2) + 5 * zi) + 1) 0#64, 0#64, 0#64, false⟩] : List Ot) ([])) :: ((some b268), sob EOt 121 ([⟨ws.getD (5 * (n1 + n2) + 5 * zi) 0#64, ws.getD ((5 * (n1 + n2) + 5 * zi) + 1) 0#64, ws.getD ((5 * (n1 + n2) + 5 * zi) + 2) 0#64, ws.getD ((5 * (n1 + n2) + 5 * zi) + 3) 0#64, false⟩] : List Ot) ([])) :: x18 :: x2 :: (rc b #[.slice (ownA key) ws.length c, .pointer none, iN ws.length, iN ((5 * (n1 + n2) + 5 * zi) + 5)] 96) :: x9 :: x7 :: (rc b15 #[.slice (ownA kyta) n1 ccta, .slice (ownA kyba) n2 ccba, .slice (ownA key276) (zi + 1) c277] 114) :: x13 :: x6 :: x14 :: x8 :: x15 :: x19 :: (key307, sob EOt 121 (rowsOf (otB ws) (5 * (n1 + n2)) (zi + 1)) sp309) :: x3 :: R) | 3, [v0, v1, _] => ∃ (b299 : Nat) (key307 : Option Nat) (c308 : Nat) (sp309 : List Value), v0 = .slice (ownA (some b299)) 1 1 ∧ v1 = .slice (ownA key307) (zi + 1) c308 ∧ True ∧ Sl EOt (some b299) ([⟨ws.getD (5 * (n1 + n2) + 5 * zi) 0#64, ws.getD ((5 * (n1 + n2) + 5 * zi) + 1) 0#64, 0#64, 0#64, false⟩] : List Ot) 1 ([]) ∧ Sl EOt key307 (rowsOf (otB ws) (5 * (n1 + n2)) (zi + 1)) c308 sp309 ∧ Hp No w₀ w' (((some b299), sob EOt 121 ([⟨ws.getD (5 * (n1 + n2) + 5 * zi) 0#64, ws.getD ((5 * (n1 + n2) + 5 * zi) + 1) 0#64, 0#64, 0#64, false⟩] : List Ot) ([])) :: ((some b268), sob EOt 121 ([⟨ws.getD (5 * (n1 + n2) + 5 * zi) 0#64, ws.getD ((5 * (n1 + n2) + 5 * zi) + 1) 0#64, ws.getD ((5 * (n1 + n2) + 5 * zi) + 2) 0#64, ws.getD ((5 * (n1 + n2) + 5 * zi) + 3) 0#64, false⟩] : List Ot) ([])) :: x18 :: x2 :: (rc b #[.slice (ownA key) ws.length c, .pointer none, iN ws.length, iN ((5 * (n1 + n2) + 5 * zi) + 5)] 96) :: x9 :: x7 :: (rc b15 #[.slice (ownA kyta) n1 ccta, .slice (ownA kyba) n2 ccba, .slice (ownA key276) (zi + 1) c277] 114) :: (rc b19 #[.slice (ownA kytb) n1 cctb, .slice (ownA kybb) n2 ccbb, .slice (ownA key307) (zi + 1) c308] 114) :: x6 :: x14 :: x8 :: x15 :: x19 :: (key307, sob EOt 121 (rowsOf (otB ws) (5 * (n1 + n2)) (zi + 1)) sp309) :: x3 :: R) | _, _ => False) mixed (by kernel_rfl) (by kernel_rfl) H294.drew ?_
      refine WalkC.look rfl (fun _ => .pointer x21) (fun _ _ _ => rfl) (fun q r uw _ _ _ _ => Gives.run rfl (r_indexA (off' := 1) (j := 1) arr38 (b := b23) (off := 0) rfl rfl (by first | rfl | omega | (simp; omega)) (by omega) (by omega)) ⟨rfl, rfl⟩) ?_
      refine WalkC.look rfl (fun _ => pT b19) (fun _ _ _ => rfl) (fun q r uw hlo hhi hle hF => ?_) ?_
      ·have h1 : 0 ≤ q := Nat.zero_le _
       have h2 : q ≤ 2 := hhi 2 21 rfl rfl
       rcases (show q = 0 ∨ q = 1 ∨ q = 2 by omega) with rfl | rfl | rfl
       ·have HH := hF
        exact Gives.run rfl (r_loadC (v := pT b19) one37 (HH.get (k := 5) rfl) (off := 1) rfl (by rfl)) ⟨rfl, rfl⟩
       ·obtain ⟨b299, e16, hS300, HH⟩ := hF
        exact Gives.run rfl (r_loadC (v := pT b19) one37 (HH.get (k := 6) rfl) (off := 1) rfl (by rfl)) ⟨rfl, rfl⟩
       ·obtain ⟨b299, key307, c308, sp309, e16, e17, hS300, hS315, HH⟩ := hF
        exact Gives.run rfl (r_loadC (v := pT b19) one37 (HH.get (k := 6) rfl) (off := 1) rfl (by rfl)) ⟨rfl, rfl⟩
      refine WalkC.look rfl (fun _ => .pointer x21) (fun _ _ _ => rfl) (fun q r uw _ _ _ _ => Gives.run rfl (r_indexA (off' := 1) (j := 1) arr38 (b := b23) (off := 0) rfl rfl (by first | rfl | omega | (simp; omega)) (by omega) (by omega)) ⟨rfl, rfl⟩) ?_
      refine WalkC.look rfl (fun _ => pT b19) (fun _ _ _ => rfl) (fun q r uw hlo hhi hle hF => ?_) ?_
      ·have h1 : 0 ≤ q := Nat.zero_le _
       have h2 : q ≤ 1 := hhi 1 17 rfl rfl
       rcases (show q = 0 ∨ q = 1 by omega) with rfl | rfl
       ·have HH := hF
        exact Gives.run rfl (r_loadC (v := pT b19) one37 (HH.get (k := 5) rfl) (off := 1) rfl (by rfl)) ⟨rfl, rfl⟩
       ·obtain ⟨b299, e16, hS300, HH⟩ := hF
        exact Gives.run rfl (r_loadC (v := pT b19) one37 (HH.get (k := 6) rfl) (off := 1) rfl (by rfl)) ⟨rfl, rfl⟩
      refine WalkC.look rfl (fun _ => pT b19) (fun _ _ _ => rfl) (fun q r uw _ _ _ _ => Gives.run rfl (r_nilCheck rfl) ⟨rfl, rfl⟩) ?_
      refine WalkC.look rfl (fun _ => .pointer x23) (fun _ _ _ => rfl) (fun q r uw _ _ _ _ => Gives.run rfl (r_fieldAddr (off' := 2) fld114_2 (by decide) (b := b19) (off := 0) rfl (by omega)) ⟨rfl, rfl⟩) ?_
      refine WalkC.look rfl (fun _ => .pointer x23) (fun _ _ _ => rfl) (fun q r uw _ _ _ _ => Gives.run rfl (r_fieldAddr (off' := 2) fld112_0 (by decide) (b := b19) (off := 2) rfl (by omega)) ⟨rfl, rfl⟩) ?_
      refine WalkC.look rfl (fun _ => .slice (ownA kyob) zi ccob) (fun _ _ _ => rfl) (fun q r uw hlo hhi hle hF => ?_) ?_
      ·have h1 : 0 ≤ q := Nat.zero_le _
       have h2 : q ≤ 1 := hhi 1 17 rfl rfl
       rcases (show q = 0 ∨ q = 1 by omega) with rfl | rfl
       ·have HH := hF
        exact Gives.run rfl (r_loadC (v := .slice (ownA kyob) zi ccob) one40 (HH.get (k := 7) rfl) (off := 2) rfl (by rfl)) ⟨rfl, rfl⟩
       ·obtain ⟨b299, e16, hS300, HH⟩ := hF
        exact Gives.run rfl (r_loadC (v := .slice (ownA kyob) zi ccob) one40 (HH.get (k := 8) rfl) (off := 2) rfl (by rfl)) ⟨rfl, rfl⟩
      refine WalkC.look rfl (fun _ => u64 0#64) (fun _ _ _ => rfl) (fun q r uw _ _ _ _ => Gives.run rfl (r_move (v := u64 0#64) rfl) ⟨rfl, rfl⟩) ?_
      refine WalkC.look rfl (fun _ => pT b196) (fun _ _ _ => rfl) (fun q r uw _ _ _ _ => Gives.run rfl (r_fieldAddr (off' := 0) fld121_0 (by decide) (b := b196) (off := 0) rfl (by omega)) ⟨rfl, rfl⟩) ?_
      refine WalkC.look rfl (fun _ => pT b196) (fun _ _ _ => rfl) (fun q r uw _ _ _ _ => Gives.run rfl (r_indexA (off' := 0) (j := 0) arr119 (b := b196) (off := 0) rfl rfl (by first | rfl | omega | (simp; omega)) (by omega) (by omega)) ⟨rfl, rfl⟩) ?_
      refine WalkC.look rfl (fun _ => .agg (cel E64 [ws.getD (5 * (n1 + n2) + 5 * zi) 0#64, ws.getD ((5 * (n1 + n2) + 5 * zi) + 1) 0#64]).toArray) (fun _ _ _ => rfl) (fun q r uw hlo hhi hle hF => ?_) ?_
      ·have h1 : 0 ≤ q := Nat.zero_le _
       have h2 : q ≤ 0 := hhi 0 16 rfl rfl
       rcases (show q = 0 by omega) with rfl
       ·have HH := hF
        exact Gives.run rfl (r_loadA (cs' := (cel E64 [ws.getD (5 * (n1 + n2) + 5 * zi) 0#64, ws.getD ((5 * (n1 + n2) + 5 * zi) + 1) 0#64]).toArray) agg83 siz83 (HH.get (k := 1) rfl) (off := 0) rfl (by exact bLe rfl) (by rfl)) ⟨rfl, rfl⟩
      refine WalkC.look rfl (fun _ => .agg x43) (fun _ _ _ => rfl) (fun q r uw _ _ _ _ => Gives.run rfl (r_buildA (cs' := x43) (ps := [(0, .agg (cel E64 [ws.getD (5 * (n1 + n2) + 5 * zi) 0#64, ws.getD ((5 * (n1 + n2) + 5 * zi) + 1) 0#64]).toArray)]) zer119 arr119 rfl (by rfl)) ⟨rfl, rfl⟩) ?_
      refine WalkC.look rfl (fun _ => u64 0#64) (fun _ _ _ => rfl) (fun q r uw _ _ _ _ => Gives.run rfl (r_move (v := u64 0#64) rfl) ⟨rfl, rfl⟩) ?_
      refine WalkC.look rfl (fun _ => .bool false) (fun _ _ _ => rfl) (fun q r uw _ _ _ _ => Gives.run rfl ((r_eql64 (a := 0#64) (b := 1#64) rfl rfl).as (v' := .bool false) (by rfl)) ⟨rfl, rfl⟩) ?_
      refine WalkC.look rfl (fun _ => .agg x41) (fun _ _ _ => rfl) (fun q r uw _ _ _ _ => Gives.run rfl (r_build (cs' := x41) (ps := [(0, .agg x43), (1, .bool false)]) zer121 pls121 rfl (by rfl)) ⟨rfl, rfl⟩) ?_
      refine WalkC.eff 0 rfl (fun r uw296 hF298 => ?_) ?_
      ·have H297 := hF298
       dsimp only [List.take, List.map, List.cons_append, List.nil_append]
       refine Gives.ofW (d := 223) rfl rfl (fun Q' hK => ?_)
       refine q_buildSlice (E := EOt) (l := ([⟨ws.getD (5 * (n1 + n2) + 5 * zi) 0#64, ws.getD ((5 * (n1 + n2) + 5 * zi) + 1) 0#64, 0#64, 0#64, false⟩] : List Ot)) H297 sli40 zer121 (bLe rfl) (ps := [(0, .agg x41)]) rfl (by exact fillAll rfl rfl) rfl ?_
       intro b299 w301 hS300 H302 hE303
       exact hK _ _ ⟨b299, rfl, hS300, H302⟩
      refine WalkC.eff 1 rfl (fun r uw304 hF306 => ?_) ?_
      ·obtain ⟨b299, e16, hS300, H305⟩ := hF306
       dsimp only [List.take, List.map, List.cons_append, List.nil_append]
       rw [e16]
       refine Gives.ofW (d := 224) rfl rfl (fun Q' hK => ?_)
       refine q_append (E := EOt) (k := 14) (l := rowsOf (otB ws) (5 * (n1 + n2)) zi) (l2 := ([⟨ws.getD (5 * (n1 + n2) + 5 * zi) 0#64, ws.getD ((5 * (n1 + n2) + 5 * zi) + 1) 0#64, 0#64, 0#64, false⟩] : List Ot)) H305 rfl hkyob sli40 zer121 rfl byt121 (H305.rd (k := 0) rfl hS300) rfl (by rw [rowsOf_len]) rfl (by rfl) (by omega) ?_
       intro key307 c308 sp309 w311 hS310 hne313 H312
       have H312' := H312.as (L' := (_ :: _ :: _ :: _ :: _ :: _ :: _ :: _ :: _ :: _ :: _ :: _ :: _ :: _ :: _ :: _ :: R)) rfl
       clear H312
       have e314 : (rowsOf (otB ws) (5 * (n1 + n2)) zi) ++ ([⟨ws.getD (5 * (n1 + n2) + 5 * zi) 0#64, ws.getD ((5 * (n1 + n2) + 5 * zi) + 1) 0#64, 0#64, 0#64, false⟩] : List Ot) = rowsOf (otB ws) (5 * (n1 + n2)) (zi + 1) := by rw [rowsOf_succ, otB_f hodd]; rfl
       have hS315 := hS310
       rw [e314] at hS315
       have H316 := H312'.as (L' := (((some b299), sob EOt 121 ([⟨ws.getD (5 * (n1 + n2) + 5 * zi) 0#64, ws.getD ((5 * (n1 + n2) + 5 * zi) + 1) 0#64, 0#64, 0#64, false⟩] : List Ot) ([])) :: ((some b268), sob EOt 121 ([⟨ws.getD (5 * (n1 + n2) + 5 * zi) 0#64, ws.getD ((5 * (n1 + n2) + 5 * zi) + 1) 0#64, ws.getD ((5 * (n1 + n2) + 5 * zi) + 2) 0#64, ws.getD ((5 * (n1 + n2) + 5 * zi) + 3) 0#64, false⟩] : List Ot) ([])) :: (rc b196 #[u64 (ws.getD (5 * (n1 + n2) + 5 * zi) 0#64), u64 (ws.getD ((5 * (n1 + n2) + 5 * zi) + 1) 0#64), u64 (ws.getD ((5 * (n1 + n2) + 5 * zi) + 2) 0#64), u64 (ws.getD ((5 * (n1 + n2) + 5 * zi) + 3) 0#64), .bool false] 121) :: (re b189 E64 ([ws.getD (5 * (n1 + n2) + 5 * zi) 0#64, ws.getD ((5 * (n1 + n2) + 5 * zi) + 1) 0#64, ws.getD ((5 * (n1 + n2) + 5 * zi) + 2) 0#64, ws.getD ((5 * (n1 + n2) + 5 * zi) + 3) 0#64, ws.getD ((5 * (n1 + n2) + 5 * zi) + 4) 0#64]) 117) :: (rc b #[.slice (ownA key) ws.length c, .pointer none, iN ws.length, iN ((5 * (n1 + n2) + 5 * zi) + 5)] 96) :: (key, sob E64 34 ws sp) :: (rc b23 #[pT b15, pT b19] 38) :: (rc b15 #[.slice (ownA kyta) n1 ccta, .slice (ownA kyba) n2 ccba, .slice (ownA key276) (zi + 1) c277] 114) :: (rc b19 #[.slice (ownA kytb) n1 cctb, .slice (ownA kybb) n2 ccbb, .slice (ownA kyob) zi ccob] 114) :: (kyta, sob ETr 66 (rowsOf (trA ws) 0 n1) zzta) :: (kytb, sob ETr 66 (rowsOf (trB ws) 0 n1) zztb) :: (kyba, sob ETr 66 (rowsOf (trA ws) (5 * n1) n2) zzba) :: (kybb, sob ETr 66 (rowsOf (biB ws) (5 * n1) n2) zzbb) :: (key276, sob EOt 121 (rowsOf (otA ws) (5 * (n1 + n2)) (zi + 1)) sp278) :: (key307, sob EOt 121 (rowsOf (otB ws) (5 * (n1 + n2)) (zi + 1)) sp309) :: (rc b1 #[.pointer none, .pointer none] 38) :: R)) (by rw [e314])
       exact hK _ _ ⟨b299, key307, c308, sp309, rfl, rfl, hS300, hS315, H316⟩
      refine WalkC.look rfl (fun _ => pT b19) (fun _ _ _ => rfl) (fun q r uw _ _ _ _ => Gives.run rfl (r_nilCheck rfl) ⟨rfl, rfl⟩) ?_
      refine WalkC.look rfl (fun _ => .pointer x23) (fun _ _ _ => rfl) (fun q r uw _ _ _ _ => Gives.run rfl (r_fieldAddr (off' := 2) fld114_2 (by decide) (b := b19) (off := 0) rfl (by omega)) ⟨rfl, rfl⟩) ?_
      refine WalkC.look rfl (fun _ => .pointer x23) (fun _ _ _ => rfl) (fun q r uw _ _ _ _ => Gives.run rfl (r_fieldAddr (off' := 2) fld112_0 (by decide) (b := b19) (off := 2) rfl (by omega)) ⟨rfl, rfl⟩) ?_
      refine WalkC.eff 2 rfl (fun r uw317 hF319 => ?_) ?_
      ·obtain ⟨b299, key307, c308, sp309, e16, e17, hS300, hS315, H318⟩ := hF319
       dsimp only [List.take, List.map, List.cons_append, List.nil_append]
       rw [e16, e17]
       refine Gives.ofW0 rfl (fun Q' hK => ?_)
       refine d_store (k := 8) (v := .slice (ownA key307) (zi + 1) c308) (cs' := #[.slice (ownA kytb) n1 cctb, .slice (ownA kybb) n2 ccbb, .slice (ownA key307) (zi + 1) c308]) H318 rfl rfl rfl siz40 (by rfl) (oneL rfl) (by exact bLe rfl) (by rfl) ?_
       intro w320 H321 hC322
       have H321' := H321.as (L' := (_ :: _ :: _ :: _ :: _ :: _ :: _ :: _ :: _ :: _ :: _ :: _ :: _ :: _ :: _ :: _ :: R)) rfl
       clear H321
       exact hK _ (fun _ => ⟨b299, key307, c308, sp309, rfl, rfl, trivial, hS300, hS315, H321'⟩)
      refine WalkC.nil ?_
      intro r323 w324 hF326
      obtain ⟨b299, key307, c308, sp309, e16, e17, e21, hS300, hS315, H325⟩ := hF326
      dsimp only
      rw [e16, e17]
      refine wnil ?_
      refine blockNormal ?_
      refine thenNormal ?_
      refine oneRegion ?_
      refine sq (r_addI (a := (zi : Nat)) (b := (1 : Int)) rfl rfl (by omega)) ?_
      refine sM (i64 ((zi : Nat) + (1 : Int))) rfl ?_
      refine wnil ?_
      refine thenNormal ?_
      rw [show (5 * (n1 + n2) + 5 * zi) + 5 = 5 * (n1 + n2) + 5 * (zi + 1) by omega] at H325
      exact ⟨(zi + 1, key276, c277, sp278, key307, c308, sp309), _, rfl, ⟨rfl, rfl, rfl, rfl, rfl, rfl, rfl, rfl, rfl, trivial⟩, ⟨⟨by omega, hS284, hS315⟩, (H325.pick 16 [6, 7, 8, 9, 10, 11, 12, 13, 14, 15, 4, 5] (by decide) (by decide))⟩, by show n3 - (zi + 1) < n3 - zi; omega⟩
    ·obtain rfl : n3 = zi := by omega
     refine exitAny ?_
     refine thenExit ?_
     refine thenExit ?_
     refine blockHere ?_
     refine thenNormal ?_
     refine sR ?_
     refine sq (r_loadA (cs' := x30) agg38 siz38 (HL2.get (k := 0) rfl) (off := 0) rfl (by exact bLe rfl) (by rfl)) ?_
     refine d_store (k := 9) (v := .agg x30) (cs' := x30) HL2 rfl rfl rfl siz38 (by rfl) (oneL rfl) (by exact bLe rfl) (by rfl) ?_
     intro w327 H328 hC329
     have H328' := H328.as (L' := (_ :: _ :: _ :: _ :: _ :: _ :: _ :: _ :: _ :: _ :: _ :: _ :: R)) rfl
     clear H328
     refine sA (.nilIface) rfl ?_
     refine wend ?_
     refine retAny ?_
     refine retG (rs := [.cell 8 38, .tmp 9]) (vs := [.agg x30, .nilIface]) rfl ⟨r_loadA (cs' := x30) agg38 siz38 (H328'.get (k := 9) rfl) (off := 0) rfl (by exact bLe rfl) (by rfl), ⟨rfl, rfl⟩, trivial⟩ ?_
     refine ⟨_, rfl, b15, b19, ⟨cpOf kyta ccta zzta (rowsOf (trA ws) 0 n1), cpOf kyba ccba zzba (rowsOf (trA ws) (5 * n1) n2), cpOf kyoa ccoa zzoa (rowsOf (otA ws) (5 * (n1 + n2)) n3)⟩, ⟨cpOf kytb cctb zztb (rowsOf (trB ws) 0 n1), cpOf kybb ccbb zzbb (rowsOf (biB ws) (5 * n1) n2), cpOf kyob ccob zzob (rowsOf (otB ws) (5 * (n1 + n2)) n3)⟩, rfl, ⟨cpOf_ok hkyta, cpOf_ok hkyba, cpOf_ok hkyoa⟩, ⟨cpOf_ok hkytb, cpOf_ok hkybb, cpOf_ok hkyob⟩, ⟨rfl, rfl, rfl, rfl, rfl, rfl⟩, ?_⟩
     unfold skR Sk.ob cpOf
     dsimp only
     simp only [rowsOf_len]
     exact (H328'.pick 12 [1, 3, 5, 7, 2, 4, 6, 8, 10, 11] (by decide) (by decide))
end Go.Proofs.YtohngnahcgbfmaaGreatDoor.Co
namespace Go.Proofs.YtohngnahcgbfmaaGreatDoor.Mi
open Go Go.Proofs.YtohngnahcgbfmaaGreatDoor.Vc Go.Proofs.YtohngnahcgbfmaaGreatDoor.Er Go.Proofs.YtohngnahcgbfmaaGreatDoor.Ek Go.Proofs.YtohngnahcgbfmaaGreatDoor.Circ
set_option linter.unusedVariables false
theorem agg83 : isAgg' Tryz.prog 83 = true := by kernel_rfl
theorem byt91 : byt Tryz.prog 91 = some 80 := by kernel_rfl
theorem call18 : callable Tryz.prog 18 = true := by kernel_rfl
theorem call19 : callable Tryz.prog 19 = true := by kernel_rfl
theorem call47 : callable Tryz.prog 47 = true := by kernel_rfl
theorem fld91_0 : fld Tryz.prog 91 0 = some (0, 1, 34) := by kernel_rfl
theorem fld91_1 : fld Tryz.prog 91 1 = some (1, 3, 66) := by kernel_rfl
theorem siz66 : siz Tryz.prog 66 = some 3 := by kernel_rfl
theorem siz83 : siz Tryz.prog 83 = some 2 := by kernel_rfl
theorem sli80 : sli Tryz.prog 80 = some (91, 6) := by kernel_rfl
theorem zer83 : zer Tryz.prog 83 = some (.agg (List.replicate 2 (.int .u64 0)).toArray) := by kernel_rfl
theorem zer91 : zer Tryz.prog 91 = some (.agg #[.int .u64 0, .int .u64 0, .int .u64 0, .int .u64 0, sN0, sN0]) := by kernel_rfl
set_option maxHeartbeats 8000000 in
theorem drawn_ok (ops : List Mo) (oa : Option Addr) (oc : Nat) (me : Nat) (tb : Nat) (tk : Option Nat) (tc : Nat) (ts : List Value) (ws : List (BitVec 64)) (hSw : Sl E64 tk ws tc ts) (hwl : ws.length ≤ 140737488355328) (sb : Nat) (st : Sk) (hst : st.ok) (R : List (Option Nat × Obj)) (w₀ w : World) (hng : ∀ j, j < ops.length → (ops.getD j mo0).kd ≠ 17) (hop : ops.length ≤ 16384) (hT : cntS (fIn ((me : Nat) : Int)) ops ops.length ≤ ws.length) (hA : cntS fA ops ops.length ≤ st.t.l.length) (hB : cntS fB ops ops.length ≤ st.b.l.length) (hO : ∀ w', Ext w₀ w' → (∀ p ∈ R, ∀ b, p.1 = some b → w'.heap[b]? = some p.2) → Rd EMo w' oa ops) (H : Hp No w₀ w ((rc tb #[.slice (ownA tk) ws.length tc, .pointer none, iN ws.length, iN 0] 96) :: (tk, sob E64 34 ws ts) :: (skR 66 121 114 sb st ++ R))) : Calls Tryz.prog 27 [.slice oa ops.length oc, i64 ((me : Nat) : Int), pT tb, pT sb].toArray w (Ret fun v w' => ∃ (kd : Option Nat) (cd : Nat) (sd : List Value) (ds : List Dr) (s' : Sk), v = .tuple #[.slice (ownA kd) ops.length cd, .agg (cel E64 [0#64, 0#64]).toArray, .nilIface] ∧ Sl EDr kd ds cd sd ∧ DrN (dwS ops ((me : Nat) : Int) (fIn ((me : Nat) : Int)) ws 0) (dtS ops st.t.l st.b.l) ops.length ds ops.length ∧ s'.ok ∧ s'.t.l = st.t.l.drop (cntS fA ops ops.length) ∧ s'.b.l = st.b.l.drop (cntS fB ops ops.length) ∧ s'.o = st.o ∧ Hp No w₀ w' ((kd, sob EDr 91 ds sd) :: (rc tb #[.slice (ownA tk) ws.length tc, .pointer none, iN ws.length, iN (0 + cntS (fIn ((me : Nat) : Int)) ops ops.length)] 96) :: (tk, sob E64 34 ws ts) :: (skR 66 121 114 sb s' ++ R))) := by
 let x7 : Value := .slice (ownA tk) ws.length tc
 skip
 refine enter (n := 112) Tryz.func27 rfl rfl (bLe rfl) ?_
 refine sR ?_
 refine sA sN0 rfl ?_
 refine q_alloc (o := .cells (cel E64 ([0#64, 0#64])).toArray 83 (0, 0)) H zer83 (by kernel_rfl) ?_
 intro b1 w2 hb1 H3 hE4
 let x6 := re b1 E64 ([0#64, 0#64]) 83
 refine sA (.nilIface) rfl ?_
 refine wS ?_
 refine sM (.slice oa ops.length oc) rfl ?_
 refine sq (r_lenS sli22 (a := oa) (m := ops.length) (c := oc) rfl) ?_
 refine q_makeSlice (E := EDr) (m := ops.length) (c := ops.length) (z0 := dr0) H3 sli80 zer91 rfl byt91 rfl rfl (by first | rfl | omega | (simp; omega)) (by first | rfl | omega | (simp; omega)) (by omega) (by omega) ?_
 intro b5 w7 hS6 H8 hE9
 refine sA (.slice (ownA (some b5)) ops.length ops.length) rfl ?_
 refine wS ?_
 refine q_alloc (o := .cells (cel E64 ([0#64, 0#64])).toArray 83 (0, 0)) H8 zer83 (by kernel_rfl) ?_
 intro b10 w11 hb10 H12 hE13
 let x5 := re b10 E64 ([0#64, 0#64]) 83
 refine wS ?_
 refine sA (.nilIface) rfl ?_
 refine wend ?_
 refine seqAny ?_
 refine sR ?_
 refine sM (.slice oa ops.length oc) rfl ?_
 refine sq (r_lenS sli22 (a := oa) (m := ops.length) (c := oc) rfl) ?_
 refine sM (i64 0) rfl ?_
 refine wend ?_
 refine blockAny ?_
 refine loopAny (σ := Nat) (fun i => [(0, .slice oa ops.length oc), (1, iN me), (2, pT tb), (3, pT sb), (8, sN0), (9, pT b1), (10, .nilIface), (11, .slice (ownA (some b5)) ops.length ops.length), (12, pT b10), (13, .nilIface), (22, .slice oa ops.length oc), (23, iN ops.length), (24, iN i)]) (fun i w' => i ≤ ops.length ∧ Hp No w₀ w' (((some b5), sob EDr 91 (List.replicate ops.length dr0) (cel EDr (List.replicate (ops.length - ops.length) dr0))) :: (rc tb #[x7, .pointer none, iN ws.length, iN 0] 96) :: (tk, sob E64 34 ws ts) :: x5 :: x6 :: (skR 66 121 114 sb st ++ R))) (fun i => ops.length - i) (0) ?_ ?_ ?_
 ·exact ⟨rfl, rfl, rfl, rfl, rfl, rfl, rfl, rfl, rfl, rfl, rfl, rfl, rfl, trivial⟩
 ·exact ⟨Nat.zero_le _, (H12.pick 5 [1, 3, 4, 0, 2] (by decide) (by decide))⟩
 rintro i ρ w14 ⟨hq, HL⟩
 refine sR ?_
 refine sq (r_lssI (a := (i : Nat)) (b := (ops.length : Nat)) rfl rfl) ?_
 refine wend ?_
 refine seqAny ?_
 refine condProp (((i : Nat) : Int) < (ops.length : Nat)) rfl (fun c25 => ?_) (fun c25 => ?_)
 ·refine skipAny ?_
  refine thenNormal ?_
  refine seqAny ?_
  refine blockAny ?_
  refine sR ?_
  refine sq (r_idxS (E := EMo) (l := ops) (j := i) sli22 (hO _ HL.chg (fun p hp => HL.has p (List.mem_cons_of_mem _ (List.mem_cons_of_mem _ (List.mem_cons_of_mem _ (List.mem_cons_of_mem _ (List.mem_cons_of_mem _ (List.mem_append_right _ hp)))))))) rfl rfl (by first | rfl | omega | (simp; omega)) (by rfl) (by omega)) ?_
  refine sq ((r_ldS (E := EMo) (l := ops) (j := i) (v := ops.getD i mo0) fits36 (hO _ HL.chg (fun p hp => HL.has p (List.mem_cons_of_mem _ (List.mem_cons_of_mem _ (List.mem_cons_of_mem _ (List.mem_cons_of_mem _ (List.mem_cons_of_mem _ (List.mem_append_right _ hp)))))))) rfl rfl (at_getD (by omega))).as (v' := .agg #[i64 ((ops.getD i mo0).kd), i64 ((ops.getD i mo0).a), i64 ((ops.getD i mo0).b), i64 ((ops.getD i mo0).k), u64 ((ops.getD i mo0).c), i64 ((ops.getD i mo0).pt)]) rfl) ?_
  refine q_alloc (o := .cells #[i64 0, i64 0, i64 0, i64 0, u64 0#64, i64 0] 36 (0, 0)) HL zer36 (by kernel_rfl) ?_
  intro b16 w17 hb16 H18 hE19
  refine d_store (k := 0) (v := .agg #[i64 ((ops.getD i mo0).kd), i64 ((ops.getD i mo0).a), i64 ((ops.getD i mo0).b), i64 ((ops.getD i mo0).k), u64 ((ops.getD i mo0).c), i64 ((ops.getD i mo0).pt)]) (cs' := #[i64 ((ops.getD i mo0).kd), i64 ((ops.getD i mo0).a), i64 ((ops.getD i mo0).b), i64 ((ops.getD i mo0).k), u64 ((ops.getD i mo0).c), i64 ((ops.getD i mo0).pt)]) H18 rfl rfl rfl siz36 (by rfl) (oneL rfl) (by exact bLe rfl) (by rfl) ?_
  intro w20 H21 hC22
  have H21' := H21.as (L' := (_ :: _ :: _ :: _ :: _ :: _ :: (skR 66 121 114 sb st ++ R))) rfl
  clear H21
  refine wS ?_
  refine sq (r_fieldAddr (off' := 0) fld36_0 (by decide) (b := b16) (off := 0) rfl (by omega)) ?_
  refine sq (r_loadC (v := i64 ((ops.getD i mo0).kd)) one33 (H21'.get (k := 0) rfl) (off := 0) rfl (by rfl)) ?_
  refine sq ((r_eqlI (a := (ops.getD i mo0).kd) (b := (17 : Int)) rfl rfl).as (v' := .bool false) (by exact congrArg Value.bool (decide_eq_false (hng i (by omega))))) ?_
  refine sM (.bool false) rfl ?_
  refine skAny (wantedSome (d' := 31) (b := false) rfl rfl rfl) ?_
  refine skAny (wantedSome (d' := 31) (b := false) rfl rfl rfl) ?_
  refine sq (r_pickF (v := .bool false) rfl rfl) ?_
  refine wend ?_
  refine condFalse rfl ?_
  refine skipAny ?_
  refine blockNormal ?_
  refine thenNormal ?_
  refine oneRegion ?_
  refine sq (r_addI (a := (i : Nat)) (b := (1 : Int)) rfl rfl (by omega)) ?_
  refine sM (i64 ((i : Nat) + (1 : Int))) rfl ?_
  refine wnil ?_
  refine thenNormal ?_
  exact ⟨i + 1, _, rfl, ⟨rfl, rfl, rfl, rfl, rfl, rfl, rfl, rfl, rfl, rfl, rfl, rfl, rfl, trivial⟩, ⟨by omega, (H21'.dropk 0)⟩, by show ops.length - (i + 1) < ops.length - i; omega⟩
 ·refine exitAny ?_
  refine thenExit ?_
  refine thenExit ?_
  refine blockHere ?_
  refine thenNormal ?_
  refine seqAny ?_
  refine sR ?_
  refine sM (.slice oa ops.length oc) rfl ?_
  refine sq (r_lenS sli22 (a := oa) (m := ops.length) (c := oc) rfl) ?_
  refine sM (i64 0) rfl ?_
  refine wend ?_
  refine blockAny ?_
  refine loopAny (σ := Nat × List Dr × Sk) (fun (i, ds, s1) => [(1, iN me), (2, pT tb), (3, pT sb), (8, sN0), (9, pT b1), (10, .nilIface), (11, .slice (ownA (some b5)) ops.length ops.length), (12, pT b10), (13, .nilIface), (49, .slice oa ops.length oc), (50, iN ops.length), (51, iN i)]) (fun (i, ds, s1) w' => (i ≤ ops.length ∧ DrN (dwS ops ((me : Nat) : Int) (fIn ((me : Nat) : Int)) ws 0) (dtS ops st.t.l st.b.l) ops.length ds i ∧ Sl EDr (some b5) ds ops.length (cel EDr (List.replicate (ops.length - ops.length) dr0)) ∧ s1.ok ∧ s1.t.l = st.t.l.drop (cntS fA ops i) ∧ s1.b.l = st.b.l.drop (cntS fB ops i) ∧ s1.o = st.o) ∧ Hp No w₀ w' (((some b5), sob EDr 91 ds (cel EDr (List.replicate (ops.length - ops.length) dr0))) :: (rc tb #[.slice (ownA tk) ws.length tc, .pointer none, iN ws.length, iN (0 + cntS (fIn ((me : Nat) : Int)) ops i)] 96) :: (tk, sob E64 34 ws ts) :: x5 :: x6 :: (skR 66 121 114 sb s1 ++ R))) (fun (i, ds, s1) => ops.length - i) ((0, List.replicate ops.length dr0, st)) ?_ ?_ ?_
  ·exact ⟨rfl, rfl, rfl, rfl, rfl, rfl, rfl, rfl, rfl, rfl, rfl, rfl, trivial⟩
  ·exact ⟨⟨Nat.zero_le _, dr_zero _, hS6, hst, rfl, rfl, rfl⟩, HL⟩
  rintro ⟨i, ds, s1⟩ ρ w23 ⟨⟨hq2, hdr, hSd, hs1k, hs1t, hs1b, hs1o⟩, HL2⟩
  let x8 : Array Value := #[u64 ((s1.b.l).getD 0 tr0).a, u64 ((s1.b.l).getD 0 tr0).b, u64 ((s1.b.l).getD 0 tr0).c]
  let x3 : Array Value := #[u64 ((s1.t.l).getD 0 tr0).a, u64 ((s1.t.l).getD 0 tr0).b, u64 ((s1.t.l).getD 0 tr0).c]
  let x2 := ((some b5), sob EDr 91 ds (cel EDr (List.replicate (ops.length - ops.length) dr0))) :: (rc tb #[x7, .pointer none, iN ws.length, iN (0 + cntS (fIn ((me : Nat) : Int)) ops ops.length)] 96) :: (tk, sob E64 34 ws ts) :: x5 :: x6 :: (skR 66 121 114 sb s1 ++ R)
  have hdl := hdr.len
  refine sR ?_
  refine sq (r_lssI (a := (i : Nat)) (b := (ops.length : Nat)) rfl rfl) ?_
  refine wend ?_
  refine seqAny ?_
  refine condProp (((i : Nat) : Int) < (ops.length : Nat)) rfl (fun c52 => ?_) (fun c52 => ?_)
  ·refine skipAny ?_
   refine thenNormal ?_
   refine seqAny ?_
   refine blockAny ?_
   refine sR ?_
   refine sM (iN i) rfl ?_
   refine sq (r_idxS (E := EMo) (l := ops) (j := i) sli22 (hO _ HL2.chg (fun p hp => HL2.has p (List.mem_cons_of_mem _ (List.mem_cons_of_mem _ (List.mem_cons_of_mem _ (List.mem_cons_of_mem _ (List.mem_cons_of_mem _ (List.mem_append_right _ hp)))))))) rfl rfl (by first | rfl | omega | (simp; omega)) (by rfl) (by omega)) ?_
   refine sq ((r_ldS (E := EMo) (l := ops) (j := i) (v := ops.getD i mo0) fits36 (hO _ HL2.chg (fun p hp => HL2.has p (List.mem_cons_of_mem _ (List.mem_cons_of_mem _ (List.mem_cons_of_mem _ (List.mem_cons_of_mem _ (List.mem_cons_of_mem _ (List.mem_append_right _ hp)))))))) rfl rfl (at_getD (by omega))).as (v' := .agg #[i64 ((ops.getD i mo0).kd), i64 ((ops.getD i mo0).a), i64 ((ops.getD i mo0).b), i64 ((ops.getD i mo0).k), u64 ((ops.getD i mo0).c), i64 ((ops.getD i mo0).pt)]) rfl) ?_
   refine q_alloc (o := .cells #[i64 0, i64 0, i64 0, i64 0, u64 0#64, i64 0] 36 (0, 0)) HL2 zer36 (by kernel_rfl) ?_
   intro b25 w26 hb25 H27 hE28
   refine sA (iN i) rfl ?_
   refine d_store (k := 0) (v := .agg #[i64 ((ops.getD i mo0).kd), i64 ((ops.getD i mo0).a), i64 ((ops.getD i mo0).b), i64 ((ops.getD i mo0).k), u64 ((ops.getD i mo0).c), i64 ((ops.getD i mo0).pt)]) (cs' := #[i64 ((ops.getD i mo0).kd), i64 ((ops.getD i mo0).a), i64 ((ops.getD i mo0).b), i64 ((ops.getD i mo0).k), u64 ((ops.getD i mo0).c), i64 ((ops.getD i mo0).pt)]) H27 rfl rfl rfl siz36 (by rfl) (oneL rfl) (by exact bLe rfl) (by rfl) ?_
   intro w29 H30 hC31
   have H30' := H30.as (L' := (_ :: _ :: _ :: _ :: _ :: _ :: (skR 66 121 114 sb s1 ++ R))) rfl
   clear H30
   obtain ⟨o, ho⟩ : ∃ q1, q1 = ops.getD i mo0 := ⟨_, rfl⟩
   let x9 : Value := .pointer (adr (ownA (some b5)) (i * 6))
   let x4 : Array Value := #[u64 (ws.getD (0 + cntS (fIn ((me : Nat) : Int)) ops i) 0#64), .nilIface]
   let x1 : List (Option Nat × Obj) := [(rc b25 #[i64 (o.kd), i64 (o.a), i64 (o.b), i64 (o.k), u64 (o.c), i64 (o.pt)] 36), ((some b5), sob EDr 91 ds (cel EDr (List.replicate (ops.length - ops.length) dr0))), (rc tb #[x7, .pointer none, iN ws.length, iN (0 + cntS (fIn ((me : Nat) : Int)) ops i)] 96), (tk, sob E64 34 ws ts), x5, x6]
   rw [← ho] at H30' ⊢
   refine wS ?_
   refine sM (.slice (ownA (some b5)) ops.length ops.length) rfl ?_
   refine sM (iN i) rfl ?_
   refine sq (r_idxS (E := EDr) (l := ds) (j := i) sli80 (H30'.rd (k := 1) rfl hSd) rfl rfl (by first | rfl | omega | (simp; omega)) (by exact hdr.len.symm) (by omega)) ?_
   refine sA x9 rfl ?_
   refine wend ?_
   refine seqAny ?_
   refine sR ?_
   refine sq (r_fieldAddr (off' := 0) fld36_0 (by decide) (b := b25) (off := 0) rfl (by omega)) ?_
   refine sq (r_loadC (v := i64 (o.kd)) one33 (H30'.get (k := 0) rfl) (off := 0) rfl (by rfl)) ?_
   refine wend ?_
   refine blockAny ?_
   refine sR ?_
   refine sq (r_eqlI (a := o.kd) (b := (1 : Int)) rfl rfl) ?_
   refine sA (.bool (decide ((o.kd : Int) = (1 : Int)))) rfl ?_
   refine wend ?_
   refine condProp ((o.kd : Int) = (1 : Int)) rfl (fun k1 => ?_) (fun k1 => ?_)
   ·refine sR ?_
    refine sq (r_fieldAddr (off' := 5) fld36_5 (by decide) (b := b25) (off := 0) rfl (by omega)) ?_
    refine sq (r_loadC (v := i64 (o.pt)) one3 (H30'.get (k := 0) rfl) (off := 5) rfl (by rfl)) ?_
    refine sM (iN me) rfl ?_
    refine sq (r_eqlI (a := o.pt) (b := (me : Nat)) rfl rfl) ?_
    refine wend ?_
    refine condProp ((o.pt : Int) = (me : Nat)) rfl (fun c66 => ?_) (fun c66 => ?_)
    ·refine oneRegion ?_
     have htu : (0 + cntS (fIn ((me : Nat) : Int)) ops i) < ws.length := by have h := cnt_le (f := fIn ((me : Nat) : Int)) (ops := ops) (show i + 1 ≤ ops.length by omega); rw [cnt_succ ho (show fIn ((me : Nat) : Int) o = 1 from if_pos ⟨k1, c66⟩)] at h; omega
     refine sM x9 rfl ?_
     refine sM (pT tb) rfl ?_
     refine c_call (vs := [pT tb]) call47 rfl (next_hit tb tc (0 + cntS (fIn ((me : Nat) : Int)) ops i) (ownA tk) ws w29 (H30'.get (k := 2) rfl) (hpRdSt H30' (i := 2) (j := 3) rfl rfl rfl hSw) (by omega) (by omega)) ?_
     rintro _ w32 ⟨rfl, hC34, hn35⟩
     have H36 := (H30'.set (k := 2) rfl hC34 hn35).as (L' := (_ :: _ :: _ :: _ :: _ :: _ :: (skR 66 121 114 sb s1 ++ R))) rfl
     refine sM (.tuple x4) rfl ?_
     refine sq (r_extract (vs := x4) rfl rfl) ?_
     refine sq (r_extract (vs := x4) rfl rfl) ?_
     refine sq ((r_nilCheck rfl).as (v' := .pointer (adr (ownA (some b5)) (i * 6))) rfl) ?_
     refine sq (r_fieldS (E := EDr) (l := ds) fld91_0 (by decide) (H36.rd (k := 1) rfl hSd) (by omega) rfl rfl) ?_
     refine d_storeP (E := EDr) (k := 1) (l := ds) (j := i) (o := 0) (a := ds.getD i dr0) (b := ({ ds.getD i dr0 with w := ws.getD (0 + cntS (fIn ((me : Nat) : Int)) ops i) 0#64 } : Dr)) (v := u64 (ws.getD (0 + cntS (fIn ((me : Nat) : Int)) ops i) 0#64)) H36 rfl hSd rfl rfl rfl siz34 rfl rfl (by decide) rfl (at_getD (by omega)) ?_
     intro w38 hS37 H39
     have H39' := H39.as (L' := (_ :: _ :: _ :: _ :: _ :: _ :: (skR 66 121 114 sb s1 ++ R))) rfl
     clear H39
     refine sA (.nilIface) rfl ?_
     refine wnil ?_
     refine blockNormal ?_
     refine thenNormal ?_
     refine sR ?_
     refine sM (.nilIface) rfl ?_
     refine sq (r_neqNN isI31 rfl rfl) ?_
     refine wend ?_
     refine condFalse rfl ?_
     refine skipAny ?_
     refine blockNormal ?_
     refine thenNormal ?_
     refine oneRegion ?_
     refine sq (r_addI (a := (i : Nat)) (b := (1 : Int)) rfl rfl (by omega)) ?_
     refine sM (i64 ((i : Nat) + (1 : Int))) rfl ?_
     refine wnil ?_
     refine thenNormal ?_
     have hu2 : cntS (fIn ((me : Nat) : Int)) ops (i + 1) = _ := cnt_succ ho (show fIn ((me : Nat) : Int) o = 1 from if_pos ⟨k1, c66⟩)
     have H40 := ((H39'.dropk 0)).as (L' := (((some b5), sob EDr 91 (ds.set i ({ ds.getD i dr0 with w := ws.getD (0 + cntS (fIn ((me : Nat) : Int)) ops i) 0#64 } : Dr)) (cel EDr (List.replicate (ops.length - ops.length) dr0))) :: (rc tb #[.slice (ownA tk) ws.length tc, .pointer none, iN ws.length, iN (0 + cntS (fIn ((me : Nat) : Int)) ops (i + 1))] 96) :: (tk, sob E64 34 ws ts) :: (re b10 E64 ([0#64, 0#64]) 83) :: (re b1 E64 ([0#64, 0#64]) 83) :: (skR 66 121 114 sb s1 ++ R))) (by rw [hu2] <;> rfl)
     exact ⟨(i + 1, ds.set i ({ ds.getD i dr0 with w := ws.getD (0 + cntS (fIn ((me : Nat) : Int)) ops i) 0#64 } : Dr), s1), _, rfl, ⟨rfl, rfl, rfl, rfl, rfl, rfl, rfl, rfl, rfl, rfl, rfl, rfl, trivial⟩, ⟨⟨by omega, dr_set hdr (by omega) (dw_in ho k1 c66) (by show (ds.getD i dr0).t = _; rw [hdr.z i (Nat.le_refl _)]; exact dt_no ho (by omega) (by omega)), hS37, hs1k, by rw [cnt_succ ho (show fA o = 0 from if_neg (by omega))]; exact hs1t, by rw [cnt_succ ho (show fB o = 0 from if_neg (by omega))]; exact hs1b, hs1o⟩, H40⟩, by show ops.length - (i + 1) < ops.length - i; omega⟩
    ·refine skipAny ?_
     refine blockNormal ?_
     refine thenNormal ?_
     refine sR ?_
     refine sM (.nilIface) rfl ?_
     refine sq (r_neqNN isI31 rfl rfl) ?_
     refine wend ?_
     refine condFalse rfl ?_
     refine skipAny ?_
     refine blockNormal ?_
     refine thenNormal ?_
     refine oneRegion ?_
     refine sq (r_addI (a := (i : Nat)) (b := (1 : Int)) rfl rfl (by omega)) ?_
     refine sM (i64 ((i : Nat) + (1 : Int))) rfl ?_
     refine wnil ?_
     refine thenNormal ?_
     have hu2 : cntS (fIn ((me : Nat) : Int)) ops (i + 1) = _ := cnt_succ ho (show fIn ((me : Nat) : Int) o = 0 from if_neg (by omega))
     have H41 := ((H30'.dropk 0)).as (L' := (((some b5), sob EDr 91 ds (cel EDr (List.replicate (ops.length - ops.length) dr0))) :: (rc tb #[.slice (ownA tk) ws.length tc, .pointer none, iN ws.length, iN (0 + cntS (fIn ((me : Nat) : Int)) ops (i + 1))] 96) :: (tk, sob E64 34 ws ts) :: (re b10 E64 ([0#64, 0#64]) 83) :: (re b1 E64 ([0#64, 0#64]) 83) :: (skR 66 121 114 sb s1 ++ R))) (by rw [hu2] <;> rfl)
     exact ⟨(i + 1, ds, s1), _, rfl, ⟨rfl, rfl, rfl, rfl, rfl, rfl, rfl, rfl, rfl, rfl, rfl, rfl, trivial⟩, ⟨⟨by omega, dr_skip hdr (dw_no ho (by omega)) (dt_no ho (by omega) (by omega)), hSd, hs1k, by rw [cnt_succ ho (show fA o = 0 from if_neg (by omega))]; exact hs1t, by rw [cnt_succ ho (show fB o = 0 from if_neg (by omega))]; exact hs1b, hs1o⟩, H41⟩, by show ops.length - (i + 1) < ops.length - i; omega⟩
   ·refine sR ?_
    refine sq (r_eqlI (a := o.kd) (b := (6 : Int)) rfl rfl) ?_
    refine sA (.bool (decide ((o.kd : Int) = (6 : Int)))) rfl ?_
    refine wend ?_
    refine condProp ((o.kd : Int) = (6 : Int)) rfl (fun k6 => ?_) (fun k6 => ?_)
    ·refine oneRegion ?_
     refine sM x9 rfl ?_
     refine sM (pT sb) rfl ?_
     have H42 := (Hp.midQ (X := x1) (A := skR 66 121 114 sb s1) (Y := R) H30').as (L' := skR 66 121 114 sb s1 ++ (x1 ++ R)) rfl
     refine c_call (vs := [pT sb]) call18 rfl (Co.take0_hit sb s1 hs1k (x1 ++ R) w₀ w29 H42 (by rw [hs1t, List.length_drop]; have h := cnt_le (f := fA) (ops := ops) (show i + 1 ≤ ops.length by omega); rw [cnt_succ ho (show fA o = 1 from if_pos k6)] at h; omega)) ?_
     rintro _ w43 ⟨rfl, s45, HN46, hok47, hd48, he49, he50⟩
     have H51 := (Hp.midQ (X := skR 66 121 114 sb s45) (A := x1) (Y := R) HN46).as (L' := (_ :: _ :: _ :: _ :: _ :: _ :: (skR 66 121 114 sb s45 ++ R))) rfl
     refine sM (.tuple #[.agg x3, .nilIface]) rfl ?_
     refine sq (r_extract (vs := #[.agg x3, .nilIface]) rfl rfl) ?_
     refine sq (r_extract (vs := #[.agg x3, .nilIface]) rfl rfl) ?_
     refine sq ((r_nilCheck rfl).as (v' := .pointer (adr (ownA (some b5)) (i * 6))) rfl) ?_
     refine sq (r_fieldS (E := EDr) (l := ds) fld91_1 (by decide) (H51.rd (k := 1) rfl hSd) (by omega) rfl rfl) ?_
     refine d_storeQ (E := EDr) (k := 1) (l := ds) (j := i) (o := 1) (a := ds.getD i dr0) (b := ({ ds.getD i dr0 with t := (s1.t.l).getD 0 tr0 } : Dr)) (v := .agg x3) (vs := [u64 ((s1.t.l).getD 0 tr0).a, u64 ((s1.t.l).getD 0 tr0).b, u64 ((s1.t.l).getD 0 tr0).c]) H51 rfl hSd rfl rfl rfl siz66 rfl rfl (by intro u hu; simp at hu; rcases hu with rfl | rfl | rfl <;> rfl) (bLe rfl) rfl (at_getD (by omega)) ?_
     intro w53 hS52 H54
     have H54' := H54.as (L' := (_ :: _ :: _ :: _ :: _ :: _ :: (skR 66 121 114 sb s45 ++ R))) rfl
     clear H54
     refine sA (.nilIface) rfl ?_
     refine wnil ?_
     refine blockNormal ?_
     refine thenNormal ?_
     refine sR ?_
     refine sM (.nilIface) rfl ?_
     refine sq (r_neqNN isI31 rfl rfl) ?_
     refine wend ?_
     refine condFalse rfl ?_
     refine skipAny ?_
     refine blockNormal ?_
     refine thenNormal ?_
     refine oneRegion ?_
     refine sq (r_addI (a := (i : Nat)) (b := (1 : Int)) rfl rfl (by omega)) ?_
     refine sM (i64 ((i : Nat) + (1 : Int))) rfl ?_
     refine wnil ?_
     refine thenNormal ?_
     have hu2 : cntS (fIn ((me : Nat) : Int)) ops (i + 1) = _ := cnt_succ ho (show fIn ((me : Nat) : Int) o = 0 from if_neg (by omega))
     have H55 := ((H54'.dropk 0)).as (L' := (((some b5), sob EDr 91 (ds.set i ({ ds.getD i dr0 with t := (s1.t.l).getD 0 tr0 } : Dr)) (cel EDr (List.replicate (ops.length - ops.length) dr0))) :: (rc tb #[.slice (ownA tk) ws.length tc, .pointer none, iN ws.length, iN (0 + cntS (fIn ((me : Nat) : Int)) ops (i + 1))] 96) :: (tk, sob E64 34 ws ts) :: (re b10 E64 ([0#64, 0#64]) 83) :: (re b1 E64 ([0#64, 0#64]) 83) :: (skR 66 121 114 sb s45 ++ R))) (by rw [hu2] <;> rfl)
     exact ⟨(i + 1, ds.set i ({ ds.getD i dr0 with t := (s1.t.l).getD 0 tr0 } : Dr), s45), _, rfl, ⟨rfl, rfl, rfl, rfl, rfl, rfl, rfl, rfl, rfl, rfl, rfl, rfl, trivial⟩, ⟨⟨by omega, dr_set hdr (by omega) (by show (ds.getD i dr0).w = _; rw [hdr.z i (Nat.le_refl _)]; exact dw_no ho (by omega)) (by show (s1.t.l).getD 0 tr0 = _; rw [hs1t, drop_first]; exact dt_a ho k6), hS52, hok47, by rw [hd48, hs1t, List.drop_drop, cnt_succ ho (show fA o = 1 from if_pos k6)], by rw [he49]; rw [cnt_succ ho (show fB o = 0 from if_neg (by omega))]; exact hs1b, by rw [he50]; exact hs1o⟩, H55⟩, by show ops.length - (i + 1) < ops.length - i; omega⟩
    ·refine sR ?_
     refine sq (r_eqlI (a := o.kd) (b := (9 : Int)) rfl rfl) ?_
     refine sA (.bool (decide ((o.kd : Int) = (9 : Int)))) rfl ?_
     refine wend ?_
     refine condProp ((o.kd : Int) = (9 : Int)) rfl (fun k9 => ?_) (fun k9 => ?_)
     ·refine oneRegion ?_
      refine sM x9 rfl ?_
      refine sM (pT sb) rfl ?_
      have H56 := (Hp.midQ (X := x1) (A := skR 66 121 114 sb s1) (Y := R) H30').as (L' := skR 66 121 114 sb s1 ++ (x1 ++ R)) rfl
      refine c_call (vs := [pT sb]) call19 rfl (Co.take1_hit sb s1 hs1k (x1 ++ R) w₀ w29 H56 (by rw [hs1b, List.length_drop]; have h := cnt_le (f := fB) (ops := ops) (show i + 1 ≤ ops.length by omega); rw [cnt_succ ho (show fB o = 1 from if_pos k9)] at h; omega)) ?_
      rintro _ w57 ⟨rfl, s59, HN60, hok61, hd62, he63, he64⟩
      have H65 := (Hp.midQ (X := skR 66 121 114 sb s59) (A := x1) (Y := R) HN60).as (L' := (_ :: _ :: _ :: _ :: _ :: _ :: (skR 66 121 114 sb s59 ++ R))) rfl
      refine sM (.tuple #[.agg x8, .nilIface]) rfl ?_
      refine sq (r_extract (vs := #[.agg x8, .nilIface]) rfl rfl) ?_
      refine sq (r_extract (vs := #[.agg x8, .nilIface]) rfl rfl) ?_
      refine sq ((r_nilCheck rfl).as (v' := .pointer (adr (ownA (some b5)) (i * 6))) rfl) ?_
      refine sq (r_fieldS (E := EDr) (l := ds) fld91_1 (by decide) (H65.rd (k := 1) rfl hSd) (by omega) rfl rfl) ?_
      refine d_storeQ (E := EDr) (k := 1) (l := ds) (j := i) (o := 1) (a := ds.getD i dr0) (b := ({ ds.getD i dr0 with t := (s1.b.l).getD 0 tr0 } : Dr)) (v := .agg x8) (vs := [u64 ((s1.b.l).getD 0 tr0).a, u64 ((s1.b.l).getD 0 tr0).b, u64 ((s1.b.l).getD 0 tr0).c]) H65 rfl hSd rfl rfl rfl siz66 rfl rfl (by intro u hu; simp at hu; rcases hu with rfl | rfl | rfl <;> rfl) (bLe rfl) rfl (at_getD (by omega)) ?_
      intro w67 hS66 H68
      have H68' := H68.as (L' := (_ :: _ :: _ :: _ :: _ :: _ :: (skR 66 121 114 sb s59 ++ R))) rfl
      clear H68
      refine sA (.nilIface) rfl ?_
      refine wnil ?_
      refine blockNormal ?_
      refine thenNormal ?_
      refine sR ?_
      refine sM (.nilIface) rfl ?_
      refine sq (r_neqNN isI31 rfl rfl) ?_
      refine wend ?_
      refine condFalse rfl ?_
      refine skipAny ?_
      refine blockNormal ?_
      refine thenNormal ?_
      refine oneRegion ?_
      refine sq (r_addI (a := (i : Nat)) (b := (1 : Int)) rfl rfl (by omega)) ?_
      refine sM (i64 ((i : Nat) + (1 : Int))) rfl ?_
      refine wnil ?_
      refine thenNormal ?_
      have hu2 : cntS (fIn ((me : Nat) : Int)) ops (i + 1) = _ := cnt_succ ho (show fIn ((me : Nat) : Int) o = 0 from if_neg (by omega))
      have H69 := ((H68'.dropk 0)).as (L' := (((some b5), sob EDr 91 (ds.set i ({ ds.getD i dr0 with t := (s1.b.l).getD 0 tr0 } : Dr)) (cel EDr (List.replicate (ops.length - ops.length) dr0))) :: (rc tb #[.slice (ownA tk) ws.length tc, .pointer none, iN ws.length, iN (0 + cntS (fIn ((me : Nat) : Int)) ops (i + 1))] 96) :: (tk, sob E64 34 ws ts) :: (re b10 E64 ([0#64, 0#64]) 83) :: (re b1 E64 ([0#64, 0#64]) 83) :: (skR 66 121 114 sb s59 ++ R))) (by rw [hu2] <;> rfl)
      exact ⟨(i + 1, ds.set i ({ ds.getD i dr0 with t := (s1.b.l).getD 0 tr0 } : Dr), s59), _, rfl, ⟨rfl, rfl, rfl, rfl, rfl, rfl, rfl, rfl, rfl, rfl, rfl, rfl, trivial⟩, ⟨⟨by omega, dr_set hdr (by omega) (by show (ds.getD i dr0).w = _; rw [hdr.z i (Nat.le_refl _)]; exact dw_no ho (by omega)) (by show (s1.b.l).getD 0 tr0 = _; rw [hs1b, drop_first]; exact dt_b ho k9), hS66, hok61, by rw [he63]; rw [cnt_succ ho (show fA o = 0 from if_neg (by omega))]; exact hs1t, by rw [hd62, hs1b, List.drop_drop, cnt_succ ho (show fB o = 1 from if_pos k9)], by rw [he64]; exact hs1o⟩, H69⟩, by show ops.length - (i + 1) < ops.length - i; omega⟩
     ·refine sR ?_
      refine sq (r_eqlI (a := o.kd) (b := (17 : Int)) rfl rfl) ?_
      refine sA (.bool (decide ((o.kd : Int) = (17 : Int)))) rfl ?_
      refine wend ?_
      refine condProp ((o.kd : Int) = (17 : Int)) rfl (fun k17 => ?_) (fun k17 => ?_)
      ·exfalso
       exact hng i (by omega) (by rw [← ho]; exact k17)
      ·refine skipAny ?_
       refine blockNormal ?_
       refine thenNormal ?_
       refine sR ?_
       refine sM (.nilIface) rfl ?_
       refine sq (r_neqNN isI31 rfl rfl) ?_
       refine wend ?_
       refine condFalse rfl ?_
       refine skipAny ?_
       refine blockNormal ?_
       refine thenNormal ?_
       refine oneRegion ?_
       refine sq (r_addI (a := (i : Nat)) (b := (1 : Int)) rfl rfl (by omega)) ?_
       refine sM (i64 ((i : Nat) + (1 : Int))) rfl ?_
       refine wnil ?_
       refine thenNormal ?_
       have hu2 : cntS (fIn ((me : Nat) : Int)) ops (i + 1) = _ := cnt_succ ho (show fIn ((me : Nat) : Int) o = 0 from if_neg (by omega))
       have H70 := ((H30'.dropk 0)).as (L' := (((some b5), sob EDr 91 ds (cel EDr (List.replicate (ops.length - ops.length) dr0))) :: (rc tb #[.slice (ownA tk) ws.length tc, .pointer none, iN ws.length, iN (0 + cntS (fIn ((me : Nat) : Int)) ops (i + 1))] 96) :: (tk, sob E64 34 ws ts) :: (re b10 E64 ([0#64, 0#64]) 83) :: (re b1 E64 ([0#64, 0#64]) 83) :: (skR 66 121 114 sb s1 ++ R))) (by rw [hu2] <;> rfl)
       exact ⟨(i + 1, ds, s1), _, rfl, ⟨rfl, rfl, rfl, rfl, rfl, rfl, rfl, rfl, rfl, rfl, rfl, rfl, trivial⟩, ⟨⟨by omega, dr_skip hdr (dw_no ho (by omega)) (dt_no ho (by omega) (by omega)), hSd, hs1k, by rw [cnt_succ ho (show fA o = 0 from if_neg (by omega))]; exact hs1t, by rw [cnt_succ ho (show fB o = 0 from if_neg (by omega))]; exact hs1b, hs1o⟩, H70⟩, by show ops.length - (i + 1) < ops.length - i; omega⟩
  ·have hie : i = ops.length := by omega
   subst hie
   refine exitAny ?_
   refine thenExit ?_
   refine thenExit ?_
   refine blockHere ?_
   refine thenNormal ?_
   refine seqAny ?_
   refine drawC (m := 5) [0, 0, 1, 7, 15] [3] (fun q vs w' => match q, vs with | 0, [] => Hp No w₀ w' x2 | 1, [_] => True ∧ Hp No w₀ w' x2 | _, _ => False) mixed (by kernel_rfl) (by kernel_rfl) HL2.drew ?_
   refine WalkC.look rfl (fun _ => .slice (ownA (some b5)) ops.length ops.length) (fun _ _ _ => rfl) (fun q r uw _ _ _ _ => Gives.run rfl (r_move (v := .slice (ownA (some b5)) ops.length ops.length) rfl) ⟨rfl, rfl⟩) ?_
   refine WalkC.look rfl (fun _ => .agg (cel E64 ([0#64, 0#64])).toArray) (fun _ _ _ => rfl) (fun q r uw hlo hhi hle hF => ?_) ?_
   ·have h1 : 0 ≤ q := Nat.zero_le _
    have h2 : q ≤ 0 := hhi 0 3 rfl rfl
    rcases (show q = 0 by omega) with rfl
    ·have HH := hF
     exact Gives.run rfl (r_loadA (cs' := (cel E64 ([0#64, 0#64])).toArray) agg83 siz83 (HH.get (k := 3) rfl) (off := 0) rfl (by exact bLe rfl) (by exact ext_all rfl)) ⟨rfl, rfl⟩
   refine WalkC.look rfl (fun _ => .slice (ownA (some b5)) ops.length ops.length) (fun _ _ _ => rfl) (fun q r uw _ _ _ _ => Gives.run rfl (r_assign (v := .slice (ownA (some b5)) ops.length ops.length) rfl) ⟨rfl, rfl⟩) ?_
   refine WalkC.eff 0 rfl (fun r uw71 hF73 => ?_) ?_
   ·have H72 := hF73
    dsimp only [List.take, List.map, List.cons_append, List.nil_append]
    refine Gives.ofW0 rfl (fun Q' hK => ?_)
    refine d_store (k := 4) (v := .agg (cel E64 ([0#64, 0#64])).toArray) (cs' := (cel E64 ([0#64, 0#64])).toArray) H72 rfl rfl rfl siz83 (by exact celSize (by first | rfl | (show _ * 1 = _; omega))) (by exact celOne _) (by rw [List.size_toArray, cel_length]; show _ ≤ _ * 1; first | omega | (simp only [List.length_set]; omega) | exact bLe rfl | (simp <;> omega)) (by exact putAll (by first | rfl | omega | (simp <;> omega))) ?_
    intro w74 H75 hC76
    have H75' := H75.as (L' := (_ :: _ :: _ :: _ :: _ :: (skR 66 121 114 sb s1 ++ R))) rfl
    clear H75
    exact hK _ (fun _ => ⟨trivial, H75'⟩)
   refine WalkC.look rfl (fun _ => .nilIface) (fun _ _ _ => rfl) (fun q r uw _ _ _ _ => Gives.run rfl (r_assign (v := .nilIface) rfl) ⟨rfl, rfl⟩) ?_
   refine WalkC.nil ?_
   intro r77 w78 hF80
   obtain ⟨e3, H79⟩ := hF80
   dsimp only
   refine wnil ?_
   refine thenNormal ?_
   refine retAny ?_
   refine retG (rs := [.tmp 8, .cell 9 83, .tmp 10]) (vs := [.slice (ownA (some b5)) ops.length ops.length, .agg (cel E64 ([0#64, 0#64])).toArray, .nilIface]) rfl ⟨⟨rfl, rfl⟩, r_loadA (cs' := (cel E64 ([0#64, 0#64])).toArray) agg83 siz83 (H79.get (k := 4) rfl) (off := 0) rfl (by exact bLe rfl) (by exact ext_all rfl), ⟨rfl, rfl⟩, trivial⟩ ?_
   exact ⟨_, rfl, (some b5), ops.length, (cel EDr (List.replicate (ops.length - ops.length) dr0)), ds, s1, rfl, hSd, hdr, hs1k, hs1t, hs1b, hs1o, ((H79.dropk 4).dropk 3)⟩
end Go.Proofs.YtohngnahcgbfmaaGreatDoor.Mi
namespace Go.Proofs.YtohngnahcgbfmaaGreatDoor.Mi
open Go Go.Proofs.YtohngnahcgbfmaaGreatDoor.Vc Go.Proofs.YtohngnahcgbfmaaGreatDoor.Er Go.Proofs.YtohngnahcgbfmaaGreatDoor.Ek Go.Proofs.YtohngnahcgbfmaaGreatDoor.Circ
set_option linter.unusedVariables false
theorem agg66 : isAgg' Tryz.prog 66 = true := by kernel_rfl
theorem agg87 : isAgg' Tryz.prog 87 = true := by kernel_rfl
theorem arr24 : arr Tryz.prog 24 = some (2, 1) := by kernel_rfl
theorem arr87 : arr Tryz.prog 87 = some (2, 1) := by kernel_rfl
theorem arr92 : arr Tryz.prog 92 = some (2, 6) := by kernel_rfl
theorem fld66_0 : fld Tryz.prog 66 0 = some (0, 1, 34) := by kernel_rfl
theorem fld66_1 : fld Tryz.prog 66 1 = some (1, 1, 34) := by kernel_rfl
theorem fld66_2 : fld Tryz.prog 66 2 = some (2, 1, 34) := by kernel_rfl
theorem one23 : isOne Tryz.prog 23 = true := by kernel_rfl
theorem siz87 : siz Tryz.prog 87 = some 2 := by kernel_rfl
theorem zer66 : zer Tryz.prog 66 = some (.agg #[.int .u64 0, .int .u64 0, .int .u64 0]) := by kernel_rfl
theorem zer87 : zer Tryz.prog 87 = some (.agg (List.replicate 2 (.int .u64 0)).toArray) := by kernel_rfl
set_option maxHeartbeats 8000000 in
theorem onea_ok (o : Mo) (q : Int) (a b : W2) (in0 in1 : List (BitVec 64)) (na0 na1 : Option Addr) (nc0 nc1 : Nat) (d0 d1 : Dr) (δ : W2) (hka : KdA o in0.length in1.length) (w : World) (hN0 : Rd E64 w na0 in0) (hN1 : Rd E64 w na1 in1) : Calls Tryz.prog 29 [.agg #[i64 (o.kd), i64 (o.a), i64 (o.b), i64 (o.k), u64 (o.c), i64 (o.pt)], i64 q, .agg (cel E64 [a.1, a.2]).toArray, .agg (cel E64 [b.1, b.2]).toArray, .agg #[.slice na0 in0.length nc0, .slice na1 in1.length nc1], .agg #[u64 (d0.w), u64 (d0.t.a), u64 (d0.t.b), u64 (d0.t.c), .slice d0.os.a d0.os.n d0.os.c, .slice d0.zs.a d0.zs.n d0.zs.c, u64 (d1.w), u64 (d1.t.a), u64 (d1.t.b), u64 (d1.t.c), .slice d1.os.a d1.os.n d1.os.c, .slice d1.zs.a d1.zs.n d1.zs.c], .agg (cel E64 [δ.1, δ.2]).toArray].toArray w (Ret fun v w' => v = .agg (cel E64 [(oneA o a b in0 in1 d0.w d1.w d0.t d1.t).1, (oneA o a b in0 in1 d0.w d1.w d0.t d1.t).2]).toArray ∧ Ext w w') := by
 let x20 : Array Value := #[.slice na0 in0.length nc0, .slice na1 in1.length nc1]
 let x19 : Array Value := #[i64 (o.kd), i64 (o.a), i64 (o.b), i64 (o.k), u64 (o.c), i64 (o.pt)]
 let x16 : Array Value := #[u64 (d1.t.a), u64 (d1.t.b), u64 (d1.t.c)]
 let x14 : Array Value := #[u64 0#64, u64 0#64, u64 0#64]
 let x11 : Array Value := #[u64 (d0.t.a), u64 (d0.t.b), u64 (d0.t.c)]
 let x1 : Array Value := #[u64 (d0.w), u64 (d0.t.a), u64 (d0.t.b), u64 (d0.t.c), .slice d0.os.a d0.os.n d0.os.c, .slice d0.zs.a d0.zs.n d0.zs.c, u64 (d1.w), u64 (d1.t.a), u64 (d1.t.b), u64 (d1.t.c), .slice d1.os.a d1.os.n d1.os.c, .slice d1.zs.a d1.zs.n d1.zs.c]
 have H := Hp.start No w
 refine enter (n := 211) Tryz.func29 rfl rfl (bLe rfl) ?_
 refine sR ?_
 refine q_box (v := .agg x19) (o := .cells x19 36 (0, 0)) H rfl (by rfl) ?_
 intro b41 w42 hb41 H43 hE44
 let x13 : Option Addr := some ⟨b41, 5, none⟩
 let x2 := rc b41 x19 36
 refine q_box (v := .agg (cel E64 [a.1, a.2]).toArray) (o := .cells (cel E64 ([a.1, a.2])).toArray 87 (0, 0)) H43 rfl (by rfl) ?_
 intro b45 w46 hb45 H47 hE48
 let x7 := re b45 E64 ([a.1, a.2]) 87
 refine q_box (v := .agg (cel E64 [b.1, b.2]).toArray) (o := .cells (cel E64 ([b.1, b.2])).toArray 87 (0, 0)) H47 rfl (by rfl) ?_
 intro b49 w50 hb49 H51 hE52
 let x6 := re b49 E64 ([b.1, b.2]) 87
 refine q_box (v := .agg x20) (o := .cells x20 24 (0, 0)) H51 rfl (by rfl) ?_
 intro b53 w54 hb53 H55 hE56
 let x3 := rc b53 x20 24
 refine q_box (v := .agg x1) (o := .cells x1 92 (0, 0)) H55 rfl (by rfl) ?_
 intro b57 w58 hb57 H59 hE60
 let x12 := rc b57 x1 92
 refine q_box (v := .agg (cel E64 [δ.1, δ.2]).toArray) (o := .cells (cel E64 ([δ.1, δ.2])).toArray 83 (0, 0)) H59 rfl (by rfl) ?_
 intro b61 w62 hb61 H63 hE64
 let x5 := re b61 E64 ([δ.1, δ.2]) 83
 refine q_alloc (o := .cells (cel E64 ([0#64, 0#64])).toArray 87 (0, 0)) H63 zer87 (by kernel_rfl) ?_
 intro b65 w66 hb65 H67 hE68
 let x4 := re b65 E64 ([0#64, 0#64]) 87
 refine wend ?_
 refine seqAny ?_
 refine drawP (m := 10) [0, 1, 3, 0, 8, 24, 0, 0, 199, 511] [6, 7, 8, 9] (fun bs vs w' => match bs, vs with | [false, false, false, false], [_, _, _, _] => Hp No w w' [x4, x5, x12, x3, x6, x7, x2] | [true, false, false, false], [v6, _, _, _] => ∃ (b70 : Nat), v6 = pT b70 ∧ Hp No w w' [(rc b70 x14 66), x4, x5, x12, x3, x6, x7, x2] | [false, true, false, false], [_, v7, _, _] => ∃ (b75 : Nat), v7 = pT b75 ∧ Hp No w w' [(rc b75 x14 66), x4, x5, x12, x3, x6, x7, x2] | [true, true, false, false], [v6, v7, _, _] => ∃ (b70 : Nat) (b80 : Nat), v6 = pT b70 ∧ v7 = pT b80 ∧ Hp No w w' [(rc b80 x14 66), (rc b70 x14 66), x4, x5, x12, x3, x6, x7, x2] | [true, true, true, false], [v6, v7, _, _] => ∃ (b70 : Nat) (b80 : Nat), v6 = pT b70 ∧ v7 = pT b80 ∧ Hp No w w' [(rc b80 x14 66), (rc b70 x11 66), x4, x5, x12, x3, x6, x7, x2] | [true, true, true, true], [v6, v7, _, _] => ∃ (b70 : Nat) (b80 : Nat), v6 = pT b70 ∧ v7 = pT b80 ∧ Hp No w w' [(rc b80 x16 66), (rc b70 x11 66), x4, x5, x12, x3, x6, x7, x2] | _, _ => False) mixed (by kernel_rfl) (by kernel_rfl) H67.drew ?_
 refine WalkP.look rfl (fun _ => pT b57) (fun _ _ _ => rfl) (fun L r uw _ _ _ => Gives.run rfl (r_indexA (off' := 0) (j := 0) arr92 (b := b57) (off := 0) rfl rfl (by first | rfl | omega | (simp; omega)) (by omega) (by omega)) ⟨rfl, rfl⟩) ?_
 refine WalkP.look rfl (fun _ => .pointer (some ⟨b57, 1, none⟩)) (fun _ _ _ => rfl) (fun L r uw _ _ _ => Gives.run rfl (r_fieldAddr (off' := 1) fld91_1 (by decide) (b := b57) (off := 0) rfl (by omega)) ⟨rfl, rfl⟩) ?_
 refine WalkP.look rfl (fun _ => .agg x11) (fun _ _ _ => rfl) (fun L r uw hAn hDn hF => ?_) ?_
 ·have b8 := hDn 8 (by decide) rfl
  have b9 := hDn 9 (by decide) rfl
  rcases bTF (L 6) with b6 | b6
  ·rcases bTF (L 7) with b7 | b7
   ·have hb := mp4 b6 b7 b8 b9
    rw [hb] at hF
    obtain ⟨b70, b80, e6, e7, HH⟩ := hF
    exact Gives.run rfl (r_loadA (cs' := x11) agg66 siz66 (HH.get (k := 4) rfl) (off := 1) rfl (by exact bLe rfl) (by rfl)) ⟨rfl, rfl⟩
   ·have hb := mp4 b6 b7 b8 b9
    rw [hb] at hF
    obtain ⟨b70, e6, HH⟩ := hF
    exact Gives.run rfl (r_loadA (cs' := x11) agg66 siz66 (HH.get (k := 3) rfl) (off := 1) rfl (by exact bLe rfl) (by rfl)) ⟨rfl, rfl⟩
  ·rcases bTF (L 7) with b7 | b7
   ·have hb := mp4 b6 b7 b8 b9
    rw [hb] at hF
    obtain ⟨b75, e7, HH⟩ := hF
    exact Gives.run rfl (r_loadA (cs' := x11) agg66 siz66 (HH.get (k := 3) rfl) (off := 1) rfl (by exact bLe rfl) (by rfl)) ⟨rfl, rfl⟩
   ·have hb := mp4 b6 b7 b8 b9
    rw [hb] at hF
    have HH := hF
    exact Gives.run rfl (r_loadA (cs' := x11) agg66 siz66 (HH.get (k := 2) rfl) (off := 1) rfl (by exact bLe rfl) (by rfl)) ⟨rfl, rfl⟩
 refine WalkP.look rfl (fun _ => .pointer (some ⟨b57, 6, none⟩)) (fun _ _ _ => rfl) (fun L r uw _ _ _ => Gives.run rfl (r_indexA (off' := 6) (j := 1) arr92 (b := b57) (off := 0) rfl rfl (by first | rfl | omega | (simp; omega)) (by omega) (by omega)) ⟨rfl, rfl⟩) ?_
 refine WalkP.look rfl (fun _ => .pointer (some ⟨b57, 7, none⟩)) (fun _ _ _ => rfl) (fun L r uw _ _ _ => Gives.run rfl (r_fieldAddr (off' := 7) fld91_1 (by decide) (b := b57) (off := 6) rfl (by omega)) ⟨rfl, rfl⟩) ?_
 refine WalkP.look rfl (fun _ => .agg x16) (fun _ _ _ => rfl) (fun L r uw hAn hDn hF => ?_) ?_
 ·have b9 := hDn 9 (by decide) rfl
  rcases bTF (L 6) with b6 | b6
  ·rcases bTF (L 7) with b7 | b7
   ·rcases bTF (L 8) with b8 | b8
    ·have hb := mp4 b6 b7 b8 b9
     rw [hb] at hF
     obtain ⟨b70, b80, e6, e7, HH⟩ := hF
     exact Gives.run rfl (r_loadA (cs' := x16) agg66 siz66 (HH.get (k := 4) rfl) (off := 7) rfl (by exact bLe rfl) (by rfl)) ⟨rfl, rfl⟩
    ·have hb := mp4 b6 b7 b8 b9
     rw [hb] at hF
     obtain ⟨b70, b80, e6, e7, HH⟩ := hF
     exact Gives.run rfl (r_loadA (cs' := x16) agg66 siz66 (HH.get (k := 4) rfl) (off := 7) rfl (by exact bLe rfl) (by rfl)) ⟨rfl, rfl⟩
   ·rcases bTF (L 8) with b8 | b8
    ·have hb := mp4 b6 b7 b8 b9
     rw [hb] at hF
     exact False.elim hF
    ·have hb := mp4 b6 b7 b8 b9
     rw [hb] at hF
     obtain ⟨b70, e6, HH⟩ := hF
     exact Gives.run rfl (r_loadA (cs' := x16) agg66 siz66 (HH.get (k := 3) rfl) (off := 7) rfl (by exact bLe rfl) (by rfl)) ⟨rfl, rfl⟩
  ·rcases bTF (L 7) with b7 | b7
   ·rcases bTF (L 8) with b8 | b8
    ·have hb := mp4 b6 b7 b8 b9
     rw [hb] at hF
     exact False.elim hF
    ·have hb := mp4 b6 b7 b8 b9
     rw [hb] at hF
     obtain ⟨b75, e7, HH⟩ := hF
     exact Gives.run rfl (r_loadA (cs' := x16) agg66 siz66 (HH.get (k := 3) rfl) (off := 7) rfl (by exact bLe rfl) (by rfl)) ⟨rfl, rfl⟩
   ·rcases bTF (L 8) with b8 | b8
    ·have hb := mp4 b6 b7 b8 b9
     rw [hb] at hF
     exact False.elim hF
    ·have hb := mp4 b6 b7 b8 b9
     rw [hb] at hF
     have HH := hF
     exact Gives.run rfl (r_loadA (cs' := x16) agg66 siz66 (HH.get (k := 2) rfl) (off := 7) rfl (by exact bLe rfl) (by rfl)) ⟨rfl, rfl⟩
 refine WalkP.eff 0 rfl (fun L r uw hLn hAn hDn hF => ?_) ?_
 ·have b6 : L 6 = false := hLn
  have b8 := hDn 8 (by decide) rfl
  have b9 := hDn 9 (by decide) rfl
  rcases bTF (L 7) with b7 | b7
  ·have hb := mp4 b6 b7 b8 b9
   rw [hb] at hF ⊢
   obtain ⟨b75, e7, H92⟩ := hF
   dsimp only
   refine Gives.ofW (d := 15) rfl rfl (fun Q' hK => ?_)
   refine q_alloc (o := .cells x14 66 (0, 0)) H92 zer66 (by kernel_rfl) ?_
   intro b93 w94 hb93 H95 hE96
   exact hK _ _ (show ∃ (b70 : Nat) (b80 : Nat), (_ : Value) = pT b70 ∧ r 7 = pT b80 ∧ Hp No w w94 [(rc b80 x14 66), (rc b70 x14 66), x4, x5, x12, x3, x6, x7, x2] from ⟨b93, b75, rfl, e7, (H95.pull (k := 1) rfl)⟩)
  ·have hb := mp4 b6 b7 b8 b9
   rw [hb] at hF ⊢
   have H97 := hF
   dsimp only
   refine Gives.ofW (d := 15) rfl rfl (fun Q' hK => ?_)
   refine q_alloc (o := .cells x14 66 (0, 0)) H97 zer66 (by kernel_rfl) ?_
   intro b98 w99 hb98 H100 hE101
   exact hK _ _ (show ∃ (b70 : Nat), (_ : Value) = pT b70 ∧ Hp No w w99 [(rc b70 x14 66), x4, x5, x12, x3, x6, x7, x2] from ⟨b98, rfl, H100⟩)
 refine WalkP.eff 1 rfl (fun L r uw hLn hAn hDn hF => ?_) ?_
 ·have b7 : L 7 = false := hLn
  have b8 := hDn 8 (by decide) rfl
  have b9 := hDn 9 (by decide) rfl
  rcases bTF (L 6) with b6 | b6
  ·have hb := mp4 b6 b7 b8 b9
   rw [hb] at hF ⊢
   obtain ⟨b70, e6, H102⟩ := hF
   dsimp only
   rw [e6]
   refine Gives.ofW (d := 16) rfl rfl (fun Q' hK => ?_)
   refine q_alloc (o := .cells x14 66 (0, 0)) H102 zer66 (by kernel_rfl) ?_
   intro b103 w104 hb103 H105 hE106
   exact hK _ _ (show ∃ (b70 : Nat) (b80 : Nat), r 6 = pT b70 ∧ (_ : Value) = pT b80 ∧ Hp No w w104 [(rc b80 x14 66), (rc b70 x14 66), x4, x5, x12, x3, x6, x7, x2] from ⟨b70, b103, e6, rfl, H105⟩)
  ·have hb := mp4 b6 b7 b8 b9
   rw [hb] at hF ⊢
   have H107 := hF
   dsimp only
   refine Gives.ofW (d := 16) rfl rfl (fun Q' hK => ?_)
   refine q_alloc (o := .cells x14 66 (0, 0)) H107 zer66 (by kernel_rfl) ?_
   intro b108 w109 hb108 H110 hE111
   exact hK _ _ (show ∃ (b75 : Nat), (_ : Value) = pT b75 ∧ Hp No w w109 [(rc b75 x14 66), x4, x5, x12, x3, x6, x7, x2] from ⟨b108, rfl, H110⟩)
 refine WalkP.eff 2 rfl (fun L r uw hLn hAn hDn hF => ?_) ?_
 ·have b6 := hAn 6 (by decide) rfl
  have b7 := hAn 7 (by decide) rfl
  have b8 : L 8 = false := hLn
  have b9 := hDn 9 (by decide) rfl
  have hb := mp4 b6 b7 b8 b9
  rw [hb] at hF ⊢
  obtain ⟨b70, b80, e6, e7, H112⟩ := hF
  dsimp only
  rw [e6, e7]
  refine Gives.ofW0 rfl (fun Q' hK => ?_)
  refine d_store (k := 1) (v := .agg x11) (cs' := x11) H112 rfl rfl rfl siz66 (by rfl) (oneL rfl) (by exact bLe rfl) (by rfl) ?_
  intro w113 H114 hC115
  have H114' := H114.as (L' := [_, _, _, _, _, _, _, _, _]) rfl
  clear H114
  exact hK _ (fun _ => (show ∃ (b70 : Nat) (b80 : Nat), r 6 = pT b70 ∧ r 7 = pT b80 ∧ Hp No w w113 [(rc b80 x14 66), (rc b70 x11 66), x4, x5, x12, x3, x6, x7, x2] from ⟨b70, b80, e6, e7, H114'⟩))
 refine WalkP.eff 3 rfl (fun L r uw hLn hAn hDn hF => ?_) ?_
 ·have b6 := hAn 6 (by decide) rfl
  have b7 := hAn 7 (by decide) rfl
  have b8 := hAn 8 (by decide) rfl
  have b9 : L 9 = false := hLn
  have hb := mp4 b6 b7 b8 b9
  rw [hb] at hF ⊢
  obtain ⟨b70, b80, e6, e7, H116⟩ := hF
  dsimp only
  rw [e6, e7]
  refine Gives.ofW0 rfl (fun Q' hK => ?_)
  refine d_store (k := 0) (v := .agg x16) (cs' := x16) H116 rfl rfl rfl siz66 (by rfl) (oneL rfl) (by exact bLe rfl) (by rfl) ?_
  intro w117 H118 hC119
  have H118' := H118.as (L' := [_, _, _, _, _, _, _, _, _]) rfl
  clear H118
  exact hK _ (fun _ => (show ∃ (b70 : Nat) (b80 : Nat), r 6 = pT b70 ∧ r 7 = pT b80 ∧ Hp No w w117 [(rc b80 x16 66), (rc b70 x11 66), x4, x5, x12, x3, x6, x7, x2] from ⟨b70, b80, e6, e7, H118'⟩))
 refine WalkP.nil ?_
 intro r120 w121 hF
 obtain ⟨b70, b80, e6, e7, H122⟩ := hF
 let x15 := rc b70 x11 66
 let x8 := rc b80 x16 66
 dsimp only
 rw [e6, e7]
 refine wnil ?_
 refine thenNormal ?_
 refine seqAny ?_
 refine sR ?_
 refine sq (r_fieldAddr (off' := 0) fld36_0 (by decide) (b := b41) (off := 0) rfl (by omega)) ?_
 refine sq (r_loadC (v := i64 (o.kd)) one33 (H122.get (k := 8) rfl) (off := 0) rfl (by rfl)) ?_
 refine wend ?_
 refine blockAny ?_
 refine sR ?_
 refine sq (r_eqlI (a := o.kd) (b := (1 : Int)) rfl rfl) ?_
 refine sA (.bool (decide ((o.kd : Int) = (1 : Int)))) rfl ?_
 refine wend ?_
 refine condProp ((o.kd : Int) = (1 : Int)) rfl (fun k1 => ?_) (fun k1 => ?_)
 ·have hk := hka.k k1
  by_cases hp : o.pt = 0
  ·refine sR ?_
   refine sq (r_fieldAddr (off' := 5) fld36_5 (by decide) (b := b41) (off := 0) rfl (by omega)) ?_
   refine sq (r_loadC (v := i64 (o.pt)) one3 (H122.get (k := 8) rfl) (off := 5) rfl (by rfl)) ?_
   refine sq (r_indexA (off' := 0) (j := 0) arr92 (b := b57) (off := 0) rfl rfl (by first | rfl | omega | (simp; omega)) (by omega) (by omega)) ?_
   refine sq (r_fieldAddr (off' := 0) fld91_0 (by decide) (b := b57) (off := 0) rfl (by omega)) ?_
   refine sq (r_loadC (v := u64 (d0.w)) one34 (H122.get (k := 4) rfl) (off := 0) rfl (by rfl)) ?_
   refine sA (u64 (d0.w)) rfl ?_
   refine wS ?_
   refine q_alloc (o := .cells (cel E64 ([0#64, 0#64])).toArray 87 (0, 0)) H122 zer87 (by kernel_rfl) ?_
   intro b123 w124 hb123 H125 hE126
   let x17 : List (Option Nat × Obj) := [(re b123 E64 ([d0.w, 0#64]) 87), x8, x15, x4, x5, x12, x3, x6, x7, x2]
   let x9 := re b123 E64 ([d0.w, (in0.getD o.k.toNat 0#64) - d0.w]) 87
   refine wend ?_
   refine seqAny ?_
   refine drawP (m := 20) [0, 1, 0, 4, 12, 0, 0, 64, 192, 448, 0, 1024, 4032, 8128, 0, 32704, 35, 65571, 262143, 524287] [17, 19] (fun bs vs w' => match bs, vs with | [false, false], [_, _] => Hp No w w' [(re b123 E64 ([0#64, 0#64]) 87), x8, x15, x4, x5, x12, x3, x6, x7, x2] | [true, false], [_, _] => Hp No w w' x17 | [true, true], [_, _] => Hp No w w' [x9, x8, x15, x4, x5, x12, x3, x6, x7, x2] | _, _ => False) mixed (by kernel_rfl) (by kernel_rfl) H125.drew ?_
   refine WalkP.look rfl (fun _ => .pointer x13) (fun _ _ _ => rfl) (fun L r uw _ _ _ => Gives.run rfl (r_fieldAddr (off' := 5) fld36_5 (by decide) (b := b41) (off := 0) rfl (by omega)) ⟨rfl, rfl⟩) ?_
   refine WalkP.look rfl (fun _ => i64 (o.pt)) (fun _ _ _ => rfl) (fun L r uw hAn hDn hF => ?_) ?_
   ·have b17 := hDn 17 (by decide) rfl
    have b19 := hDn 19 (by decide) rfl
    have hb := mp2 b17 b19
    rw [hb] at hF
    have HH := hF
    exact Gives.run rfl (r_loadC (v := i64 (o.pt)) one3 (HH.get (k := 9) rfl) (off := 5) rfl (by rfl)) ⟨rfl, rfl⟩
   refine WalkP.look rfl (fun _ => .pointer x13) (fun _ _ _ => rfl) (fun L r uw _ _ _ => Gives.run rfl (r_fieldAddr (off' := 5) fld36_5 (by decide) (b := b41) (off := 0) rfl (by omega)) ⟨rfl, rfl⟩) ?_
   refine WalkP.look rfl (fun _ => i64 (o.pt)) (fun _ _ _ => rfl) (fun L r uw hAn hDn hF => ?_) ?_
   ·have b19 := hDn 19 (by decide) rfl
    rcases bTF (L 17) with b17 | b17
    ·have hb := mp2 b17 b19
     rw [hb] at hF
     have HH := hF
     exact Gives.run rfl (r_loadC (v := i64 (o.pt)) one3 (HH.get (k := 9) rfl) (off := 5) rfl (by rfl)) ⟨rfl, rfl⟩
    ·have hb := mp2 b17 b19
     rw [hb] at hF
     have HH := hF
     exact Gives.run rfl (r_loadC (v := i64 (o.pt)) one3 (HH.get (k := 9) rfl) (off := 5) rfl (by rfl)) ⟨rfl, rfl⟩
   refine WalkP.look rfl (fun _ => i64 ((1 : Int) - o.pt)) (fun _ _ _ => rfl) (fun L r uw _ _ _ => Gives.run rfl (r_subI (a := (1 : Int)) (b := o.pt) rfl rfl (by omega)) ⟨rfl, rfl⟩) ?_
   refine WalkP.look rfl (fun _ => u64 (d0.w)) (fun _ _ _ => rfl) (fun L r uw _ _ _ => Gives.run rfl (r_move (v := u64 (d0.w)) rfl) ⟨rfl, rfl⟩) ?_
   refine WalkP.look rfl (fun _ => .pointer x13) (fun _ _ _ => rfl) (fun L r uw _ _ _ => Gives.run rfl (r_fieldAddr (off' := 5) fld36_5 (by decide) (b := b41) (off := 0) rfl (by omega)) ⟨rfl, rfl⟩) ?_
   refine WalkP.look rfl (fun _ => i64 (o.pt)) (fun _ _ _ => rfl) (fun L r uw hAn hDn hF => ?_) ?_
   ·have b19 := hDn 19 (by decide) rfl
    rcases bTF (L 17) with b17 | b17
    ·have hb := mp2 b17 b19
     rw [hb] at hF
     have HH := hF
     exact Gives.run rfl (r_loadC (v := i64 (o.pt)) one3 (HH.get (k := 9) rfl) (off := 5) rfl (by rfl)) ⟨rfl, rfl⟩
    ·have hb := mp2 b17 b19
     rw [hb] at hF
     have HH := hF
     exact Gives.run rfl (r_loadC (v := i64 (o.pt)) one3 (HH.get (k := 9) rfl) (off := 5) rfl (by rfl)) ⟨rfl, rfl⟩
   refine WalkP.look rfl (fun _ => pT b53) (fun _ _ _ => rfl) (fun L r uw _ _ _ => Gives.run rfl (r_indexA (off' := 0) (j := 0) arr24 (b := b53) (off := 0) rfl rfl (by first | rfl | omega | (simp; omega)) (by omega) (by omega)) ⟨rfl, rfl⟩) ?_
   refine WalkP.look rfl (fun _ => .slice na0 in0.length nc0) (fun _ _ _ => rfl) (fun L r uw hAn hDn hF => ?_) ?_
   ·have b19 := hDn 19 (by decide) rfl
    rcases bTF (L 17) with b17 | b17
    ·have hb := mp2 b17 b19
     rw [hb] at hF
     have HH := hF
     exact Gives.run rfl (r_loadC (v := .slice na0 in0.length nc0) one23 (HH.get (k := 6) rfl) (off := 0) rfl (by rfl)) ⟨rfl, rfl⟩
    ·have hb := mp2 b17 b19
     rw [hb] at hF
     have HH := hF
     exact Gives.run rfl (r_loadC (v := .slice na0 in0.length nc0) one23 (HH.get (k := 6) rfl) (off := 0) rfl (by rfl)) ⟨rfl, rfl⟩
   refine WalkP.look rfl (fun _ => .pointer (some ⟨b41, 3, none⟩)) (fun _ _ _ => rfl) (fun L r uw _ _ _ => Gives.run rfl (r_fieldAddr (off' := 3) fld36_3 (by decide) (b := b41) (off := 0) rfl (by omega)) ⟨rfl, rfl⟩) ?_
   refine WalkP.look rfl (fun _ => i64 (o.k)) (fun _ _ _ => rfl) (fun L r uw hAn hDn hF => ?_) ?_
   ·have b19 := hDn 19 (by decide) rfl
    rcases bTF (L 17) with b17 | b17
    ·have hb := mp2 b17 b19
     rw [hb] at hF
     have HH := hF
     exact Gives.run rfl (r_loadC (v := i64 (o.k)) one3 (HH.get (k := 9) rfl) (off := 3) rfl (by rfl)) ⟨rfl, rfl⟩
    ·have hb := mp2 b17 b19
     rw [hb] at hF
     have HH := hF
     exact Gives.run rfl (r_loadC (v := i64 (o.k)) one3 (HH.get (k := 9) rfl) (off := 3) rfl (by rfl)) ⟨rfl, rfl⟩
   refine WalkP.look rfl (fun _ => .pointer (adr na0 (o.k.toNat * 1))) (fun _ _ _ => rfl) (fun L r uw hAn hDn hF => ?_) ?_
   ·have b19 := hDn 19 (by decide) rfl
    rcases bTF (L 17) with b17 | b17
    ·have hb := mp2 b17 b19
     rw [hb] at hF
     have HH := hF
     exact Gives.run rfl (r_idxS (E := E64) (l := in0) (j := o.k.toNat) sli23 (hN0.ext HH.chg) rfl rfl (by omega) (by rfl) (by omega)) ⟨rfl, rfl⟩
    ·have hb := mp2 b17 b19
     rw [hb] at hF
     have HH := hF
     exact Gives.run rfl (r_idxS (E := E64) (l := in0) (j := o.k.toNat) sli23 (hN0.ext HH.chg) rfl rfl (by omega) (by rfl) (by omega)) ⟨rfl, rfl⟩
   refine WalkP.look rfl (fun _ => u64 (in0.getD o.k.toNat 0#64)) (fun _ _ _ => rfl) (fun L r uw hAn hDn hF => ?_) ?_
   ·have b19 := hDn 19 (by decide) rfl
    rcases bTF (L 17) with b17 | b17
    ·have hb := mp2 b17 b19
     rw [hb] at hF
     have HH := hF
     exact Gives.run rfl (r_ldS (E := E64) (l := in0) (j := o.k.toNat) (v := in0.getD o.k.toNat 0#64) fits34 (hN0.ext HH.chg) rfl rfl (at_getD (by omega))) ⟨rfl, rfl⟩
    ·have hb := mp2 b17 b19
     rw [hb] at hF
     have HH := hF
     exact Gives.run rfl (r_ldS (E := E64) (l := in0) (j := o.k.toNat) (v := in0.getD o.k.toNat 0#64) fits34 (hN0.ext HH.chg) rfl rfl (at_getD (by omega))) ⟨rfl, rfl⟩
   refine WalkP.look rfl (fun _ => u64 (d0.w)) (fun _ _ _ => rfl) (fun L r uw _ _ _ => Gives.run rfl (r_move (v := u64 (d0.w)) rfl) ⟨rfl, rfl⟩) ?_
   refine WalkP.look rfl (fun _ => u64 ((in0.getD o.k.toNat 0#64) - d0.w)) (fun _ _ _ => rfl) (fun L r uw _ _ _ => Gives.run rfl (r_sub64 (a := in0.getD o.k.toNat 0#64) (b := d0.w) rfl rfl) ⟨rfl, rfl⟩) ?_
   refine WalkP.look rfl (fun _ => pT b123) (fun _ _ _ => rfl) (fun L r uw _ _ _ => Gives.run rfl (r_indexA (off' := 0) (j := 0) arr87 (b := b123) (off := 0) rfl rfl (by first | rfl | omega | (simp; omega)) (by omega) (by omega)) ⟨rfl, rfl⟩) ?_
   refine WalkP.eff 0 rfl (fun L r uw hLn hAn hDn hF => ?_) ?_
   ·have b17 : L 17 = false := hLn
    have b19 := hDn 19 (by decide) rfl
    have hb := mp2 b17 b19
    rw [hb] at hF ⊢
    have H135 := hF
    dsimp only
    refine Gives.ofW0 rfl (fun Q' hK => ?_)
    refine d_store (k := 0) (v := u64 (d0.w)) (cs' := (cel E64 ([d0.w, 0#64])).toArray) H135 rfl rfl rfl siz34 (by rfl) (by exact E64.one _) (by rw [List.size_toArray, cel_length]; show _ ≤ _ * 1; first | omega | (simp only [List.length_set]; omega) | exact bLe rfl | (simp <;> omega)) (by exact put1 (E := E64) rfl _ _ _) ?_
    intro w136 H137 hC138
    have H137' := H137.as (L' := [_, _, _, _, _, _, _, _, _, _]) rfl
    clear H137
    exact hK _ (fun _ => (show Hp No w w136 x17 from H137'))
   refine WalkP.look rfl (fun _ => .pointer (some ⟨b123, 1, none⟩)) (fun _ _ _ => rfl) (fun L r uw _ _ _ => Gives.run rfl (r_indexA (off' := 1) (j := 1) arr87 (b := b123) (off := 0) rfl rfl (by first | rfl | omega | (simp; omega)) (by omega) (by omega)) ⟨rfl, rfl⟩) ?_
   refine WalkP.eff 1 rfl (fun L r uw hLn hAn hDn hF => ?_) ?_
   ·have b17 := hAn 17 (by decide) rfl
    have b19 : L 19 = false := hLn
    have hb := mp2 b17 b19
    rw [hb] at hF ⊢
    have H139 := hF
    dsimp only
    refine Gives.ofW0 rfl (fun Q' hK => ?_)
    refine d_store (k := 0) (v := u64 ((in0.getD o.k.toNat 0#64) - d0.w)) (cs' := (cel E64 ([d0.w, (in0.getD o.k.toNat 0#64) - d0.w])).toArray) H139 rfl rfl rfl siz34 (by rfl) (by exact E64.one _) (by rw [List.size_toArray, cel_length]; show _ ≤ _ * 1; first | omega | (simp only [List.length_set]; omega) | exact bLe rfl | (simp <;> omega)) (by exact put1 (E := E64) rfl _ _ _) ?_
    intro w140 H141 hC142
    have H141' := H141.as (L' := [_, _, _, _, _, _, _, _, _, _]) rfl
    clear H141
    exact hK _ (fun _ => (show Hp No w w140 [x9, x8, x15, x4, x5, x12, x3, x6, x7, x2] from H141'))
   refine WalkP.nil ?_
   intro r143 w144 hF
   have H145 := hF
   dsimp only
   refine wnil ?_
   refine thenNormal ?_
   refine sR ?_
   refine sq (r_loadA (cs' := (cel E64 ([d0.w, (in0.getD o.k.toNat 0#64) - d0.w])).toArray) agg87 siz87 (H145.get (k := 0) rfl) (off := 0) rfl (by exact bLe rfl) (by exact ext_all rfl)) ?_
   refine d_store (k := 3) (v := .agg (cel E64 ([d0.w, (in0.getD o.k.toNat 0#64) - d0.w])).toArray) (cs' := (cel E64 ([d0.w, (in0.getD o.k.toNat 0#64) - d0.w])).toArray) H145 rfl rfl rfl siz87 (by exact celSize (by first | rfl | (show _ * 1 = _; omega))) (by exact celOne _) (by rw [List.size_toArray, cel_length]; show _ ≤ _ * 1; first | omega | (simp only [List.length_set]; omega) | exact bLe rfl | (simp <;> omega)) (by exact putAll (by first | rfl | omega | (simp <;> omega))) ?_
   intro w146 H147 hC148
   have H147' := H147.as (L' := [_, _, _, _, _, _, _, _, _, _]) rfl
   clear H147
   refine wend ?_
   refine retAny ?_
   refine blockRet ?_
   refine thenRet ?_
   refine retG (rs := [.cell 14 87]) (vs := [.agg (cel E64 ([d0.w, (in0.getD o.k.toNat 0#64) - d0.w])).toArray]) rfl ⟨r_loadA (cs' := (cel E64 ([d0.w, (in0.getD o.k.toNat 0#64) - d0.w])).toArray) agg87 siz87 (H147'.get (k := 3) rfl) (off := 0) rfl (by exact bLe rfl) (by exact ext_all rfl), trivial⟩ ?_
   have hr : oneA o a b in0 in1 d0.w d1.w d0.t d1.t = (d0.w, (in0.getD o.k.toNat 0#64) - d0.w) := by rw [oneA, if_pos k1, if_pos hp] <;> rfl
   exact ⟨_, rfl, by rw [hr] <;> rfl, H147'.chg⟩
  ·refine sR ?_
   have hp1 : o.pt = 1 := by omega
   refine sq (r_fieldAddr (off' := 5) fld36_5 (by decide) (b := b41) (off := 0) rfl (by omega)) ?_
   refine sq (r_loadC (v := i64 (o.pt)) one3 (H122.get (k := 8) rfl) (off := 5) rfl (by rfl)) ?_
   refine sq (r_indexA (off' := 6) (j := 1) arr92 (b := b57) (off := 0) rfl rfl (by first | rfl | omega | (simp; omega)) (by omega) (by omega)) ?_
   refine sq (r_fieldAddr (off' := 6) fld91_0 (by decide) (b := b57) (off := 6) rfl (by omega)) ?_
   refine sq (r_loadC (v := u64 (d1.w)) one34 (H122.get (k := 4) rfl) (off := 6) rfl (by rfl)) ?_
   refine sA (u64 (d1.w)) rfl ?_
   refine wS ?_
   refine q_alloc (o := .cells (cel E64 ([0#64, 0#64])).toArray 87 (0, 0)) H122 zer87 (by kernel_rfl) ?_
   intro b149 w150 hb149 H151 hE152
   let x18 : List (Option Nat × Obj) := [(re b149 E64 ([0#64, d1.w]) 87), x8, x15, x4, x5, x12, x3, x6, x7, x2]
   let x10 := re b149 E64 ([(in1.getD o.k.toNat 0#64) - d1.w, d1.w]) 87
   refine wend ?_
   refine seqAny ?_
   refine drawP (m := 20) [0, 1, 0, 4, 12, 0, 0, 64, 192, 448, 0, 1024, 4032, 8128, 0, 32704, 35, 65571, 262143, 524287] [17, 19] (fun bs vs w' => match bs, vs with | [false, false], [_, _] => Hp No w w' [(re b149 E64 ([0#64, 0#64]) 87), x8, x15, x4, x5, x12, x3, x6, x7, x2] | [true, false], [_, _] => Hp No w w' x18 | [true, true], [_, _] => Hp No w w' [x10, x8, x15, x4, x5, x12, x3, x6, x7, x2] | _, _ => False) mixed (by kernel_rfl) (by kernel_rfl) H151.drew ?_
   refine WalkP.look rfl (fun _ => .pointer x13) (fun _ _ _ => rfl) (fun L r uw _ _ _ => Gives.run rfl (r_fieldAddr (off' := 5) fld36_5 (by decide) (b := b41) (off := 0) rfl (by omega)) ⟨rfl, rfl⟩) ?_
   refine WalkP.look rfl (fun _ => i64 (o.pt)) (fun _ _ _ => rfl) (fun L r uw hAn hDn hF => ?_) ?_
   ·have b17 := hDn 17 (by decide) rfl
    have b19 := hDn 19 (by decide) rfl
    have hb := mp2 b17 b19
    rw [hb] at hF
    have HH := hF
    exact Gives.run rfl (r_loadC (v := i64 (o.pt)) one3 (HH.get (k := 9) rfl) (off := 5) rfl (by rfl)) ⟨rfl, rfl⟩
   refine WalkP.look rfl (fun _ => .pointer x13) (fun _ _ _ => rfl) (fun L r uw _ _ _ => Gives.run rfl (r_fieldAddr (off' := 5) fld36_5 (by decide) (b := b41) (off := 0) rfl (by omega)) ⟨rfl, rfl⟩) ?_
   refine WalkP.look rfl (fun _ => i64 (o.pt)) (fun _ _ _ => rfl) (fun L r uw hAn hDn hF => ?_) ?_
   ·have b19 := hDn 19 (by decide) rfl
    rcases bTF (L 17) with b17 | b17
    ·have hb := mp2 b17 b19
     rw [hb] at hF
     have HH := hF
     exact Gives.run rfl (r_loadC (v := i64 (o.pt)) one3 (HH.get (k := 9) rfl) (off := 5) rfl (by rfl)) ⟨rfl, rfl⟩
    ·have hb := mp2 b17 b19
     rw [hb] at hF
     have HH := hF
     exact Gives.run rfl (r_loadC (v := i64 (o.pt)) one3 (HH.get (k := 9) rfl) (off := 5) rfl (by rfl)) ⟨rfl, rfl⟩
   refine WalkP.look rfl (fun _ => i64 ((1 : Int) - o.pt)) (fun _ _ _ => rfl) (fun L r uw _ _ _ => Gives.run rfl (r_subI (a := (1 : Int)) (b := o.pt) rfl rfl (by omega)) ⟨rfl, rfl⟩) ?_
   refine WalkP.look rfl (fun _ => u64 (d1.w)) (fun _ _ _ => rfl) (fun L r uw _ _ _ => Gives.run rfl (r_move (v := u64 (d1.w)) rfl) ⟨rfl, rfl⟩) ?_
   refine WalkP.look rfl (fun _ => .pointer x13) (fun _ _ _ => rfl) (fun L r uw _ _ _ => Gives.run rfl (r_fieldAddr (off' := 5) fld36_5 (by decide) (b := b41) (off := 0) rfl (by omega)) ⟨rfl, rfl⟩) ?_
   refine WalkP.look rfl (fun _ => i64 (o.pt)) (fun _ _ _ => rfl) (fun L r uw hAn hDn hF => ?_) ?_
   ·have b19 := hDn 19 (by decide) rfl
    rcases bTF (L 17) with b17 | b17
    ·have hb := mp2 b17 b19
     rw [hb] at hF
     have HH := hF
     exact Gives.run rfl (r_loadC (v := i64 (o.pt)) one3 (HH.get (k := 9) rfl) (off := 5) rfl (by rfl)) ⟨rfl, rfl⟩
    ·have hb := mp2 b17 b19
     rw [hb] at hF
     have HH := hF
     exact Gives.run rfl (r_loadC (v := i64 (o.pt)) one3 (HH.get (k := 9) rfl) (off := 5) rfl (by rfl)) ⟨rfl, rfl⟩
   refine WalkP.look rfl (fun _ => .pointer (some ⟨b53, 1, none⟩)) (fun _ _ _ => rfl) (fun L r uw _ _ _ => Gives.run rfl (r_indexA (off' := 1) (j := 1) arr24 (b := b53) (off := 0) rfl rfl (by first | rfl | omega | (simp; omega)) (by omega) (by omega)) ⟨rfl, rfl⟩) ?_
   refine WalkP.look rfl (fun _ => .slice na1 in1.length nc1) (fun _ _ _ => rfl) (fun L r uw hAn hDn hF => ?_) ?_
   ·have b19 := hDn 19 (by decide) rfl
    rcases bTF (L 17) with b17 | b17
    ·have hb := mp2 b17 b19
     rw [hb] at hF
     have HH := hF
     exact Gives.run rfl (r_loadC (v := .slice na1 in1.length nc1) one23 (HH.get (k := 6) rfl) (off := 1) rfl (by rfl)) ⟨rfl, rfl⟩
    ·have hb := mp2 b17 b19
     rw [hb] at hF
     have HH := hF
     exact Gives.run rfl (r_loadC (v := .slice na1 in1.length nc1) one23 (HH.get (k := 6) rfl) (off := 1) rfl (by rfl)) ⟨rfl, rfl⟩
   refine WalkP.look rfl (fun _ => .pointer (some ⟨b41, 3, none⟩)) (fun _ _ _ => rfl) (fun L r uw _ _ _ => Gives.run rfl (r_fieldAddr (off' := 3) fld36_3 (by decide) (b := b41) (off := 0) rfl (by omega)) ⟨rfl, rfl⟩) ?_
   refine WalkP.look rfl (fun _ => i64 (o.k)) (fun _ _ _ => rfl) (fun L r uw hAn hDn hF => ?_) ?_
   ·have b19 := hDn 19 (by decide) rfl
    rcases bTF (L 17) with b17 | b17
    ·have hb := mp2 b17 b19
     rw [hb] at hF
     have HH := hF
     exact Gives.run rfl (r_loadC (v := i64 (o.k)) one3 (HH.get (k := 9) rfl) (off := 3) rfl (by rfl)) ⟨rfl, rfl⟩
    ·have hb := mp2 b17 b19
     rw [hb] at hF
     have HH := hF
     exact Gives.run rfl (r_loadC (v := i64 (o.k)) one3 (HH.get (k := 9) rfl) (off := 3) rfl (by rfl)) ⟨rfl, rfl⟩
   refine WalkP.look rfl (fun _ => .pointer (adr na1 (o.k.toNat * 1))) (fun _ _ _ => rfl) (fun L r uw hAn hDn hF => ?_) ?_
   ·have b19 := hDn 19 (by decide) rfl
    rcases bTF (L 17) with b17 | b17
    ·have hb := mp2 b17 b19
     rw [hb] at hF
     have HH := hF
     exact Gives.run rfl (r_idxS (E := E64) (l := in1) (j := o.k.toNat) sli23 (hN1.ext HH.chg) rfl rfl (by omega) (by rfl) (by omega)) ⟨rfl, rfl⟩
    ·have hb := mp2 b17 b19
     rw [hb] at hF
     have HH := hF
     exact Gives.run rfl (r_idxS (E := E64) (l := in1) (j := o.k.toNat) sli23 (hN1.ext HH.chg) rfl rfl (by omega) (by rfl) (by omega)) ⟨rfl, rfl⟩
   refine WalkP.look rfl (fun _ => u64 (in1.getD o.k.toNat 0#64)) (fun _ _ _ => rfl) (fun L r uw hAn hDn hF => ?_) ?_
   ·have b19 := hDn 19 (by decide) rfl
    rcases bTF (L 17) with b17 | b17
    ·have hb := mp2 b17 b19
     rw [hb] at hF
     have HH := hF
     exact Gives.run rfl (r_ldS (E := E64) (l := in1) (j := o.k.toNat) (v := in1.getD o.k.toNat 0#64) fits34 (hN1.ext HH.chg) rfl rfl (at_getD (by omega))) ⟨rfl, rfl⟩
    ·have hb := mp2 b17 b19
     rw [hb] at hF
     have HH := hF
     exact Gives.run rfl (r_ldS (E := E64) (l := in1) (j := o.k.toNat) (v := in1.getD o.k.toNat 0#64) fits34 (hN1.ext HH.chg) rfl rfl (at_getD (by omega))) ⟨rfl, rfl⟩
   refine WalkP.look rfl (fun _ => u64 (d1.w)) (fun _ _ _ => rfl) (fun L r uw _ _ _ => Gives.run rfl (r_move (v := u64 (d1.w)) rfl) ⟨rfl, rfl⟩) ?_
   refine WalkP.look rfl (fun _ => u64 ((in1.getD o.k.toNat 0#64) - d1.w)) (fun _ _ _ => rfl) (fun L r uw _ _ _ => Gives.run rfl (r_sub64 (a := in1.getD o.k.toNat 0#64) (b := d1.w) rfl rfl) ⟨rfl, rfl⟩) ?_
   refine WalkP.look rfl (fun _ => .pointer (some ⟨b149, 1, none⟩)) (fun _ _ _ => rfl) (fun L r uw _ _ _ => Gives.run rfl (r_indexA (off' := 1) (j := 1) arr87 (b := b149) (off := 0) rfl rfl (by first | rfl | omega | (simp; omega)) (by omega) (by omega)) ⟨rfl, rfl⟩) ?_
   refine WalkP.eff 0 rfl (fun L r uw hLn hAn hDn hF => ?_) ?_
   ·have b17 : L 17 = false := hLn
    have b19 := hDn 19 (by decide) rfl
    have hb := mp2 b17 b19
    rw [hb] at hF ⊢
    have H161 := hF
    dsimp only
    refine Gives.ofW0 rfl (fun Q' hK => ?_)
    refine d_store (k := 0) (v := u64 (d1.w)) (cs' := (cel E64 ([0#64, d1.w])).toArray) H161 rfl rfl rfl siz34 (by rfl) (by exact E64.one _) (by rw [List.size_toArray, cel_length]; show _ ≤ _ * 1; first | omega | (simp only [List.length_set]; omega) | exact bLe rfl | (simp <;> omega)) (by exact put1 (E := E64) rfl _ _ _) ?_
    intro w162 H163 hC164
    have H163' := H163.as (L' := [_, _, _, _, _, _, _, _, _, _]) rfl
    clear H163
    exact hK _ (fun _ => (show Hp No w w162 x18 from H163'))
   refine WalkP.look rfl (fun _ => pT b149) (fun _ _ _ => rfl) (fun L r uw _ _ _ => Gives.run rfl (r_indexA (off' := 0) (j := 0) arr87 (b := b149) (off := 0) rfl rfl (by first | rfl | omega | (simp; omega)) (by omega) (by omega)) ⟨rfl, rfl⟩) ?_
   refine WalkP.eff 1 rfl (fun L r uw hLn hAn hDn hF => ?_) ?_
   ·have b17 := hAn 17 (by decide) rfl
    have b19 : L 19 = false := hLn
    have hb := mp2 b17 b19
    rw [hb] at hF ⊢
    have H165 := hF
    dsimp only
    refine Gives.ofW0 rfl (fun Q' hK => ?_)
    refine d_store (k := 0) (v := u64 ((in1.getD o.k.toNat 0#64) - d1.w)) (cs' := (cel E64 ([(in1.getD o.k.toNat 0#64) - d1.w, d1.w])).toArray) H165 rfl rfl rfl siz34 (by rfl) (by exact E64.one _) (by rw [List.size_toArray, cel_length]; show _ ≤ _ * 1; first | omega | (simp only [List.length_set]; omega) | exact bLe rfl | (simp <;> omega)) (by exact put1 (E := E64) rfl _ _ _) ?_
    intro w166 H167 hC168
    have H167' := H167.as (L' := [_, _, _, _, _, _, _, _, _, _]) rfl
    clear H167
    exact hK _ (fun _ => (show Hp No w w166 [x10, x8, x15, x4, x5, x12, x3, x6, x7, x2] from H167'))
   refine WalkP.nil ?_
   intro r169 w170 hF
   have H171 := hF
   dsimp only
   refine wnil ?_
   refine thenNormal ?_
   refine sR ?_
   refine sq (r_loadA (cs' := (cel E64 ([(in1.getD o.k.toNat 0#64) - d1.w, d1.w])).toArray) agg87 siz87 (H171.get (k := 0) rfl) (off := 0) rfl (by exact bLe rfl) (by exact ext_all rfl)) ?_
   refine d_store (k := 3) (v := .agg (cel E64 ([(in1.getD o.k.toNat 0#64) - d1.w, d1.w])).toArray) (cs' := (cel E64 ([(in1.getD o.k.toNat 0#64) - d1.w, d1.w])).toArray) H171 rfl rfl rfl siz87 (by exact celSize (by first | rfl | (show _ * 1 = _; omega))) (by exact celOne _) (by rw [List.size_toArray, cel_length]; show _ ≤ _ * 1; first | omega | (simp only [List.length_set]; omega) | exact bLe rfl | (simp <;> omega)) (by exact putAll (by first | rfl | omega | (simp <;> omega))) ?_
   intro w172 H173 hC174
   have H173' := H173.as (L' := [_, _, _, _, _, _, _, _, _, _]) rfl
   clear H173
   refine wend ?_
   refine retAny ?_
   refine blockRet ?_
   refine thenRet ?_
   refine retG (rs := [.cell 14 87]) (vs := [.agg (cel E64 ([(in1.getD o.k.toNat 0#64) - d1.w, d1.w])).toArray]) rfl ⟨r_loadA (cs' := (cel E64 ([(in1.getD o.k.toNat 0#64) - d1.w, d1.w])).toArray) agg87 siz87 (H173'.get (k := 3) rfl) (off := 0) rfl (by exact bLe rfl) (by exact ext_all rfl), trivial⟩ ?_
   have hr : oneA o a b in0 in1 d0.w d1.w d0.t d1.t = ((in1.getD o.k.toNat 0#64) - d1.w, d1.w) := by rw [oneA, if_pos k1, if_neg hp] <;> rfl
   exact ⟨_, rfl, by rw [hr] <;> rfl, H173'.chg⟩
 ·refine sR ?_
  refine sq (r_eqlI (a := o.kd) (b := (6 : Int)) rfl rfl) ?_
  refine sA (.bool (decide ((o.kd : Int) = (6 : Int)))) rfl ?_
  refine wend ?_
  refine condProp ((o.kd : Int) = (6 : Int)) rfl (fun k6 => ?_) (fun k6 => ?_)
  ·refine seqAny ?_
   refine drawAny (K := [none, none, none, none, none, none, none, none, none, none, none, none, none, none, none, none, none, none, none, none, none, none, none, none]) [0, 1, 0, 4, 15, 0, 32, 127, 0, 256, 1023, 0, 2048, 0, 8192, 30720, 0, 65536, 260096, 0, 524288, 2095104, 2047, 8388607] (fun w' => Ext w121 w') (fun w' w'' => Ext w' w'') mixed (by kernel_rfl) (Ext.drew _) (fun _ _ h h' => h.trans h') ?_ ?_
   ·exact relNone (by decide)
   refine ⟨pT b45, fun _ uw175 hC176 _ => Gives.run rfl (r_indexA (off' := 0) (j := 0) arr87 (b := b45) (off := 0) rfl rfl (by first | rfl | omega | (simp; omega)) (by omega) (by omega)) ⟨rfl, Chg.refl _ _⟩, ?_⟩
   refine ⟨u64 (a.1), fun _ uw177 hC178 _ => Gives.run rfl (r_ld1 (E := E64) (l := [a.1, a.2]) (j := 0) (a := a.1) fits34 ((H122.ext hC178).get (k := 7) rfl) (by rfl) rfl rfl) ⟨rfl, Chg.refl _ _⟩, ?_⟩
   refine ⟨.pointer (some ⟨b45, 1, none⟩), fun _ uw179 hC180 _ => Gives.run rfl (r_indexA (off' := 1) (j := 1) arr87 (b := b45) (off := 0) rfl rfl (by first | rfl | omega | (simp; omega)) (by omega) (by omega)) ⟨rfl, Chg.refl _ _⟩, ?_⟩
   refine ⟨u64 (a.2), fun _ uw181 hC182 _ => Gives.run rfl (r_ld1 (E := E64) (l := [a.1, a.2]) (j := 1) (a := a.2) fits34 ((H122.ext hC182).get (k := 7) rfl) (by rfl) rfl rfl) ⟨rfl, Chg.refl _ _⟩, ?_⟩
   refine ⟨u64 (a.1 + a.2), fun _ uw183 hC184 _ => Gives.run rfl (r_add64 (a := a.1) (b := a.2) rfl rfl) ⟨rfl, Chg.refl _ _⟩, ?_⟩
   refine ⟨pT b70, fun _ uw185 hC186 _ => Gives.run rfl (r_fieldAddr (off' := 0) fld66_0 (by decide) (b := b70) (off := 0) rfl (by omega)) ⟨rfl, Chg.refl _ _⟩, ?_⟩
   refine ⟨u64 (d0.t.a), fun _ uw187 hC188 _ => Gives.run rfl (r_loadC (v := u64 (d0.t.a)) one34 ((H122.ext hC188).get (k := 1) rfl) (off := 0) rfl (by rfl)) ⟨rfl, Chg.refl _ _⟩, ?_⟩
   refine ⟨u64 ((a.1 + a.2) - d0.t.a), fun _ uw189 hC190 _ => Gives.run rfl (r_sub64 (a := a.1 + a.2) (b := d0.t.a) rfl rfl) ⟨rfl, Chg.refl _ _⟩, ?_⟩
   refine ⟨pT b80, fun _ uw191 hC192 _ => Gives.run rfl (r_fieldAddr (off' := 0) fld66_0 (by decide) (b := b80) (off := 0) rfl (by omega)) ⟨rfl, Chg.refl _ _⟩, ?_⟩
   refine ⟨u64 (d1.t.a), fun _ uw193 hC194 _ => Gives.run rfl (r_loadC (v := u64 (d1.t.a)) one34 ((H122.ext hC194).get (k := 0) rfl) (off := 0) rfl (by rfl)) ⟨rfl, Chg.refl _ _⟩, ?_⟩
   refine ⟨u64 (((a.1 + a.2) - d0.t.a) - d1.t.a), fun _ uw195 hC196 _ => Gives.run rfl (r_sub64 (a := (a.1 + a.2) - d0.t.a) (b := d1.t.a) rfl rfl) ⟨rfl, Chg.refl _ _⟩, ?_⟩
   refine ⟨pT b49, fun _ uw197 hC198 _ => Gives.run rfl (r_indexA (off' := 0) (j := 0) arr87 (b := b49) (off := 0) rfl rfl (by first | rfl | omega | (simp; omega)) (by omega) (by omega)) ⟨rfl, Chg.refl _ _⟩, ?_⟩
   refine ⟨u64 (b.1), fun _ uw199 hC200 _ => Gives.run rfl (r_ld1 (E := E64) (l := [b.1, b.2]) (j := 0) (a := b.1) fits34 ((H122.ext hC200).get (k := 6) rfl) (by rfl) rfl rfl) ⟨rfl, Chg.refl _ _⟩, ?_⟩
   refine ⟨.pointer (some ⟨b49, 1, none⟩), fun _ uw201 hC202 _ => Gives.run rfl (r_indexA (off' := 1) (j := 1) arr87 (b := b49) (off := 0) rfl rfl (by first | rfl | omega | (simp; omega)) (by omega) (by omega)) ⟨rfl, Chg.refl _ _⟩, ?_⟩
   refine ⟨u64 (b.2), fun _ uw203 hC204 _ => Gives.run rfl (r_ld1 (E := E64) (l := [b.1, b.2]) (j := 1) (a := b.2) fits34 ((H122.ext hC204).get (k := 6) rfl) (by rfl) rfl rfl) ⟨rfl, Chg.refl _ _⟩, ?_⟩
   refine ⟨u64 (b.1 + b.2), fun _ uw205 hC206 _ => Gives.run rfl (r_add64 (a := b.1) (b := b.2) rfl rfl) ⟨rfl, Chg.refl _ _⟩, ?_⟩
   refine ⟨.pointer (some ⟨b70, 1, none⟩), fun _ uw207 hC208 _ => Gives.run rfl (r_fieldAddr (off' := 1) fld66_1 (by decide) (b := b70) (off := 0) rfl (by omega)) ⟨rfl, Chg.refl _ _⟩, ?_⟩
   refine ⟨u64 (d0.t.b), fun _ uw209 hC210 _ => Gives.run rfl (r_loadC (v := u64 (d0.t.b)) one34 ((H122.ext hC210).get (k := 1) rfl) (off := 1) rfl (by rfl)) ⟨rfl, Chg.refl _ _⟩, ?_⟩
   refine ⟨u64 ((b.1 + b.2) - d0.t.b), fun _ uw211 hC212 _ => Gives.run rfl (r_sub64 (a := b.1 + b.2) (b := d0.t.b) rfl rfl) ⟨rfl, Chg.refl _ _⟩, ?_⟩
   refine ⟨.pointer (some ⟨b80, 1, none⟩), fun _ uw213 hC214 _ => Gives.run rfl (r_fieldAddr (off' := 1) fld66_1 (by decide) (b := b80) (off := 0) rfl (by omega)) ⟨rfl, Chg.refl _ _⟩, ?_⟩
   refine ⟨u64 (d1.t.b), fun _ uw215 hC216 _ => Gives.run rfl (r_loadC (v := u64 (d1.t.b)) one34 ((H122.ext hC216).get (k := 0) rfl) (off := 1) rfl (by rfl)) ⟨rfl, Chg.refl _ _⟩, ?_⟩
   refine ⟨u64 (((b.1 + b.2) - d0.t.b) - d1.t.b), fun _ uw217 hC218 _ => Gives.run rfl (r_sub64 (a := (b.1 + b.2) - d0.t.b) (b := d1.t.b) rfl rfl) ⟨rfl, Chg.refl _ _⟩, ?_⟩
   refine ⟨u64 (((a.1 + a.2) - d0.t.a) - d1.t.a), fun _ uw219 hC220 _ => Gives.run rfl (r_assign (v := u64 (((a.1 + a.2) - d0.t.a) - d1.t.a)) rfl) ⟨rfl, Chg.refl _ _⟩, ?_⟩
   refine ⟨u64 (((b.1 + b.2) - d0.t.b) - d1.t.b), fun _ uw221 hC222 _ => Gives.run rfl (r_assign (v := u64 (((b.1 + b.2) - d0.t.b) - d1.t.b)) rfl) ⟨rfl, Chg.refl _ _⟩, ?_⟩
   intro r226 w223 hE225 hF
   have H224 := H122.ext hE225
   refine wnil ?_
   refine thenNormal ?_
   refine sR ?_
   refine sq (r_fieldAddr (off' := 2) fld66_2 (by decide) (b := b70) (off := 0) rfl (by omega)) ?_
   refine sq (r_loadC (v := u64 (d0.t.c)) one34 (H224.get (k := 1) rfl) (off := 2) rfl (by rfl)) ?_
   refine sM (u64 (((a.1 + a.2) - d0.t.a) - d1.t.a)) rfl ?_
   refine sq (r_fieldAddr (off' := 1) fld66_1 (by decide) (b := b70) (off := 0) rfl (by omega)) ?_
   refine sq (r_loadC (v := u64 (d0.t.b)) one34 (H224.get (k := 1) rfl) (off := 1) rfl (by rfl)) ?_
   refine sq (r_mul64 (a := ((a.1 + a.2) - d0.t.a) - d1.t.a) (b := d0.t.b) rfl rfl) ?_
   refine sq (r_add64 (a := d0.t.c) (b := (((a.1 + a.2) - d0.t.a) - d1.t.a) * d0.t.b) rfl rfl) ?_
   refine sM (u64 (((b.1 + b.2) - d0.t.b) - d1.t.b)) rfl ?_
   refine sq (r_fieldAddr (off' := 0) fld66_0 (by decide) (b := b70) (off := 0) rfl (by omega)) ?_
   refine sq (r_loadC (v := u64 (d0.t.a)) one34 (H224.get (k := 1) rfl) (off := 0) rfl (by rfl)) ?_
   refine sq (r_mul64 (a := ((b.1 + b.2) - d0.t.b) - d1.t.b) (b := d0.t.a) rfl rfl) ?_
   refine sq (r_add64 (a := d0.t.c + ((((a.1 + a.2) - d0.t.a) - d1.t.a) * d0.t.b)) (b := (((b.1 + b.2) - d0.t.b) - d1.t.b) * d0.t.a) rfl rfl) ?_
   refine sM (u64 (((a.1 + a.2) - d0.t.a) - d1.t.a)) rfl ?_
   refine sM (u64 (((b.1 + b.2) - d0.t.b) - d1.t.b)) rfl ?_
   refine sq (r_mul64 (a := ((a.1 + a.2) - d0.t.a) - d1.t.a) (b := ((b.1 + b.2) - d0.t.b) - d1.t.b) rfl rfl) ?_
   refine sq (r_add64 (a := (d0.t.c + ((((a.1 + a.2) - d0.t.a) - d1.t.a) * d0.t.b)) + ((((b.1 + b.2) - d0.t.b) - d1.t.b) * d0.t.a)) (b := (((a.1 + a.2) - d0.t.a) - d1.t.a) * (((b.1 + b.2) - d0.t.b) - d1.t.b)) rfl rfl) ?_
   refine sq (r_fieldAddr (off' := 2) fld66_2 (by decide) (b := b80) (off := 0) rfl (by omega)) ?_
   refine sq (r_loadC (v := u64 (d1.t.c)) one34 (H224.get (k := 0) rfl) (off := 2) rfl (by rfl)) ?_
   refine sM (u64 (((a.1 + a.2) - d0.t.a) - d1.t.a)) rfl ?_
   refine sq (r_fieldAddr (off' := 1) fld66_1 (by decide) (b := b80) (off := 0) rfl (by omega)) ?_
   refine sq (r_loadC (v := u64 (d1.t.b)) one34 (H224.get (k := 0) rfl) (off := 1) rfl (by rfl)) ?_
   refine sq (r_mul64 (a := ((a.1 + a.2) - d0.t.a) - d1.t.a) (b := d1.t.b) rfl rfl) ?_
   refine sq (r_add64 (a := d1.t.c) (b := (((a.1 + a.2) - d0.t.a) - d1.t.a) * d1.t.b) rfl rfl) ?_
   refine sM (u64 (((b.1 + b.2) - d0.t.b) - d1.t.b)) rfl ?_
   refine sq (r_fieldAddr (off' := 0) fld66_0 (by decide) (b := b80) (off := 0) rfl (by omega)) ?_
   refine sq (r_loadC (v := u64 (d1.t.a)) one34 (H224.get (k := 0) rfl) (off := 0) rfl (by rfl)) ?_
   refine sq (r_mul64 (a := ((b.1 + b.2) - d0.t.b) - d1.t.b) (b := d1.t.a) rfl rfl) ?_
   refine sq (r_add64 (a := d1.t.c + ((((a.1 + a.2) - d0.t.a) - d1.t.a) * d1.t.b)) (b := (((b.1 + b.2) - d0.t.b) - d1.t.b) * d1.t.a) rfl rfl) ?_
   refine sq (r_buildA (cs' := (cel E64 [((d0.t.c + ((((a.1 + a.2) - d0.t.a) - d1.t.a) * d0.t.b)) + ((((b.1 + b.2) - d0.t.b) - d1.t.b) * d0.t.a)) + ((((a.1 + a.2) - d0.t.a) - d1.t.a) * (((b.1 + b.2) - d0.t.b) - d1.t.b)), (d1.t.c + ((((a.1 + a.2) - d0.t.a) - d1.t.a) * d1.t.b)) + ((((b.1 + b.2) - d0.t.b) - d1.t.b) * d1.t.a)]).toArray) (ps := [(0, u64 (((d0.t.c + ((((a.1 + a.2) - d0.t.a) - d1.t.a) * d0.t.b)) + ((((b.1 + b.2) - d0.t.b) - d1.t.b) * d0.t.a)) + ((((a.1 + a.2) - d0.t.a) - d1.t.a) * (((b.1 + b.2) - d0.t.b) - d1.t.b)))), (1, u64 ((d1.t.c + ((((a.1 + a.2) - d0.t.a) - d1.t.a) * d1.t.b)) + ((((b.1 + b.2) - d0.t.b) - d1.t.b) * d1.t.a)))]) zer87 arr87 rfl (by rfl)) ?_
   refine d_store (k := 2) (v := .agg (cel E64 [((d0.t.c + ((((a.1 + a.2) - d0.t.a) - d1.t.a) * d0.t.b)) + ((((b.1 + b.2) - d0.t.b) - d1.t.b) * d0.t.a)) + ((((a.1 + a.2) - d0.t.a) - d1.t.a) * (((b.1 + b.2) - d0.t.b) - d1.t.b)), (d1.t.c + ((((a.1 + a.2) - d0.t.a) - d1.t.a) * d1.t.b)) + ((((b.1 + b.2) - d0.t.b) - d1.t.b) * d1.t.a)]).toArray) (cs' := (cel E64 ([((d0.t.c + ((((a.1 + a.2) - d0.t.a) - d1.t.a) * d0.t.b)) + ((((b.1 + b.2) - d0.t.b) - d1.t.b) * d0.t.a)) + ((((a.1 + a.2) - d0.t.a) - d1.t.a) * (((b.1 + b.2) - d0.t.b) - d1.t.b)), (d1.t.c + ((((a.1 + a.2) - d0.t.a) - d1.t.a) * d1.t.b)) + ((((b.1 + b.2) - d0.t.b) - d1.t.b) * d1.t.a)])).toArray) H224 rfl rfl rfl siz87 (by exact celSize (by first | rfl | (show _ * 1 = _; omega))) (by exact celOne _) (by rw [List.size_toArray, cel_length]; show _ ≤ _ * 1; first | omega | (simp only [List.length_set]; omega) | exact bLe rfl | (simp <;> omega)) (by exact putAll (by first | rfl | omega | (simp <;> omega))) ?_
   intro w227 H228 hC229
   have H228' := H228.as (L' := [_, _, _, _, _, _, _, _, _]) rfl
   clear H228
   refine wend ?_
   refine retAny ?_
   refine blockRet ?_
   refine thenRet ?_
   refine retG (rs := [.cell 14 87]) (vs := [.agg (cel E64 ([((d0.t.c + ((((a.1 + a.2) - d0.t.a) - d1.t.a) * d0.t.b)) + ((((b.1 + b.2) - d0.t.b) - d1.t.b) * d0.t.a)) + ((((a.1 + a.2) - d0.t.a) - d1.t.a) * (((b.1 + b.2) - d0.t.b) - d1.t.b)), (d1.t.c + ((((a.1 + a.2) - d0.t.a) - d1.t.a) * d1.t.b)) + ((((b.1 + b.2) - d0.t.b) - d1.t.b) * d1.t.a)])).toArray]) rfl ⟨r_loadA (cs' := (cel E64 ([((d0.t.c + ((((a.1 + a.2) - d0.t.a) - d1.t.a) * d0.t.b)) + ((((b.1 + b.2) - d0.t.b) - d1.t.b) * d0.t.a)) + ((((a.1 + a.2) - d0.t.a) - d1.t.a) * (((b.1 + b.2) - d0.t.b) - d1.t.b)), (d1.t.c + ((((a.1 + a.2) - d0.t.a) - d1.t.a) * d1.t.b)) + ((((b.1 + b.2) - d0.t.b) - d1.t.b) * d1.t.a)])).toArray) agg87 siz87 (H228'.get (k := 2) rfl) (off := 0) rfl (by exact bLe rfl) (by exact ext_all rfl), trivial⟩ ?_
   have hr : oneA o a b in0 in1 d0.w d1.w d0.t d1.t = (((d0.t.c + ((((a.1 + a.2) - d0.t.a) - d1.t.a) * d0.t.b)) + ((((b.1 + b.2) - d0.t.b) - d1.t.b) * d0.t.a)) + ((((a.1 + a.2) - d0.t.a) - d1.t.a) * (((b.1 + b.2) - d0.t.b) - d1.t.b)), (d1.t.c + ((((a.1 + a.2) - d0.t.a) - d1.t.a) * d1.t.b)) + ((((b.1 + b.2) - d0.t.b) - d1.t.b) * d1.t.a)) := by rw [oneA, if_neg k1, if_pos k6] <;> rfl
   exact ⟨_, rfl, by rw [hr] <;> rfl, H228'.chg⟩
  ·refine sR ?_
   refine sq (r_eqlI (a := o.kd) (b := (9 : Int)) rfl rfl) ?_
   refine sA (.bool (decide ((o.kd : Int) = (9 : Int)))) rfl ?_
   refine wend ?_
   refine condProp ((o.kd : Int) = (9 : Int)) rfl (fun k9 => ?_) (fun k9 => ?_)
   ·exfalso
    have := hka.kd; omega
   ·refine sR ?_
    refine sq (r_eqlI (a := o.kd) (b := (18 : Int)) rfl rfl) ?_
    refine sA (.bool (decide ((o.kd : Int) = (18 : Int)))) rfl ?_
    refine wend ?_
    refine condProp ((o.kd : Int) = (18 : Int)) rfl (fun k18 => ?_) (fun k18 => ?_)
    ·refine sR ?_
     refine sq (r_indexA (off' := 0) (j := 0) arr87 (b := b45) (off := 0) rfl rfl (by first | rfl | omega | (simp; omega)) (by omega) (by omega)) ?_
     refine sq (r_ld1 (E := E64) (l := [a.1, a.2]) (j := 0) (a := a.1) fits34 (H122.get (k := 7) rfl) (by rfl) rfl rfl) ?_
     refine sq (r_indexA (off' := 1) (j := 1) arr87 (b := b45) (off := 0) rfl rfl (by first | rfl | omega | (simp; omega)) (by omega) (by omega)) ?_
     refine sq (r_ld1 (E := E64) (l := [a.1, a.2]) (j := 1) (a := a.2) fits34 (H122.get (k := 7) rfl) (by rfl) rfl rfl) ?_
     refine sq (r_add64 (a := a.1) (b := a.2) rfl rfl) ?_
     refine sq (r_indexA (off' := 0) (j := 0) arr87 (b := b45) (off := 0) rfl rfl (by first | rfl | omega | (simp; omega)) (by omega) (by omega)) ?_
     refine sq (r_ld1 (E := E64) (l := [a.1, a.2]) (j := 0) (a := a.1) fits34 (H122.get (k := 7) rfl) (by rfl) rfl rfl) ?_
     refine sq (r_indexA (off' := 1) (j := 1) arr87 (b := b45) (off := 0) rfl rfl (by first | rfl | omega | (simp; omega)) (by omega) (by omega)) ?_
     refine sq (r_ld1 (E := E64) (l := [a.1, a.2]) (j := 1) (a := a.2) fits34 (H122.get (k := 7) rfl) (by rfl) rfl rfl) ?_
     refine sq (r_add64 (a := a.1) (b := a.2) rfl rfl) ?_
     refine sq (r_buildA (cs' := (cel E64 [a.1 + a.2, a.1 + a.2]).toArray) (ps := [(0, u64 (a.1 + a.2)), (1, u64 (a.1 + a.2))]) zer87 arr87 rfl (by rfl)) ?_
     refine d_store (k := 2) (v := .agg (cel E64 [a.1 + a.2, a.1 + a.2]).toArray) (cs' := (cel E64 ([a.1 + a.2, a.1 + a.2])).toArray) H122 rfl rfl rfl siz87 (by exact celSize (by first | rfl | (show _ * 1 = _; omega))) (by exact celOne _) (by rw [List.size_toArray, cel_length]; show _ ≤ _ * 1; first | omega | (simp only [List.length_set]; omega) | exact bLe rfl | (simp <;> omega)) (by exact putAll (by first | rfl | omega | (simp <;> omega))) ?_
     intro w230 H231 hC232
     have H231' := H231.as (L' := [_, _, _, _, _, _, _, _, _]) rfl
     clear H231
     refine wend ?_
     refine retAny ?_
     refine blockRet ?_
     refine thenRet ?_
     refine retG (rs := [.cell 14 87]) (vs := [.agg (cel E64 ([a.1 + a.2, a.1 + a.2])).toArray]) rfl ⟨r_loadA (cs' := (cel E64 ([a.1 + a.2, a.1 + a.2])).toArray) agg87 siz87 (H231'.get (k := 2) rfl) (off := 0) rfl (by exact bLe rfl) (by exact ext_all rfl), trivial⟩ ?_
     have hr : oneA o a b in0 in1 d0.w d1.w d0.t d1.t = (a.1 + a.2, a.1 + a.2) := by rw [oneA, if_neg k1, if_neg k6] <;> rfl
     exact ⟨_, rfl, by rw [hr] <;> rfl, H231'.chg⟩
    ·exfalso
     have := hka.kd; omega
end Go.Proofs.YtohngnahcgbfmaaGreatDoor.Mi
