/- What the claim has need of: Cm6, Cm7, Cm9, Cm12, Cm13, Cm16, AesRef, Tape, Gm, Gm2, Gm3. -/
import Derived.Test.YteofdmdpaejgaaaDoorGx5
namespace Go.Proofs.YteofdmdpaejgaaaDoor.Cm
open Go Go.Proofs.YteofdmdpaejgaaaDoor.Vc Go.Proofs.YteofdmdpaejgaaaDoor.Er Go.Proofs.YteofdmdpaejgaaaDoor.Circ
set_option linter.unusedVariables false
theorem agg70 : isAgg' Tryd.prog 70 = true := by kernel_rfl
theorem arr154 : arr Tryd.prog 154 = some (2, 64) := by kernel_rfl
theorem call63 : callable Tryd.prog 63 = true := by kernel_rfl
theorem call73 : callable Tryd.prog 73 = true := by kernel_rfl
theorem call74 : callable Tryd.prog 74 = true := by kernel_rfl
theorem call75 : callable Tryd.prog 75 = true := by kernel_rfl
theorem fld70_2 : fld Tryd.prog 70 2 = some (2, 1, 60) := by kernel_rfl
theorem pls151 : pls Tryd.prog 151 = some #[(0, 3)] := by kernel_rfl
theorem pls70 : pls Tryd.prog 70 = some #[(0, 1), (1, 1), (2, 1)] := by kernel_rfl
theorem siz60 : siz Tryd.prog 60 = some 1 := by kernel_rfl
theorem siz70 : siz Tryd.prog 70 = some 3 := by kernel_rfl
theorem und57 : Tryd.prog.underlying 57 = some (.int .i64) := by kernel_rfl
theorem zer151 : zer Tryd.prog 151 = some (.agg #[.int .i64 0, .slice none 0 0, .slice none 0 0]) := by kernel_rfl
theorem zer154 : zer Tryd.prog 154 = some (.agg (List.replicate 128 (.int .i64 0)).toArray) := by kernel_rfl
theorem zer70 : zer Tryd.prog 70 = some (.agg #[.int .i64 0, .slice none 0 0, .slice none 0 0]) := by kernel_rfl
set_option maxHeartbeats 2000000 in
theorem make_k1 (fm : BitVec 64) (hf : fm < 2#64) (w : World) : Calls Tryd.prog 29 [i64 (1 : Int), u64 fm].toArray w (Ret fun v w' => ∃ (key : Option Nat) (c : Nat) (sp : List Value) (b : Nat), v = .tuple #[.agg #[i64 ((128 : Nat) : Int), .slice (ownA key) (mk1 (fbS fm 0)).1.length c, .slice (some ⟨b, 0, none⟩) 64 64], .nilIface] ∧ Sl EG key (mk1 (fbS fm 0)).1 c sp ∧ Hp No w w' [(key, sob EG 99 (mk1 (fbS fm 0)).1 sp), (some b, .cells (cel EI (mk1 (fbS fm 0)).2).toArray 153 (0, 0))]) := by
 have H := Hp.start No w
 refine enter (n := 131) Tryd.func29 rfl rfl (bLe rfl) ?_
 refine sR ?_
 refine q_alloc (o := .cells #[i64 ((0 : Int)), .slice none 0 0, .slice none 0 0] 70 (0, 0)) H zer70 (by kernel_rfl) ?_
 intro b1 w2 hb1 H3 hE4
 refine sA (.nilIface) rfl ?_
 refine wend ?_
 refine sR ?_
 refine sA (i64 ((2 : Int))) rfl ?_
 refine wend ?_
 refine seqAny ?_
 refine sR ?_
 refine sM (i64 ((1 : Int))) rfl ?_
 refine wend ?_
 refine blockAny ?_
 refine seqAny ?_
 refine blockAny ?_
 refine seqAny ?_
 refine blockAny ?_
 refine seqAny ?_
 refine blockAny ?_
 refine seqAny ?_
 refine seqAny ?_
 refine sR ?_
 refine sq ((r_eqlI (a := (1 : Int)) (b := (1 : Int)) rfl rfl).as (v' := .bool (true)) (by rfl)) ?_
 refine sA (.bool (true)) rfl ?_
 refine wend ?_
 refine condTrue rfl ?_
 refine exitAny ?_
 refine thenExit ?_
 refine thenExit ?_
 refine blockHere ?_
 refine thenNormal ?_
 refine oneRegion ?_
 refine sA (i64 ((1 : Int))) rfl ?_
 refine wnil ?_
 refine blockNormal ?_
 refine thenNormal ?_
 refine sR ?_
 refine sM (u64 (fm)) rfl ?_
 refine sM (i64 ((1 : Int))) rfl ?_
 refine sq (r_shl64 (a := 1#64) (c := 1) rfl rfl) ?_
 refine sq ((r_lss64 (a := fm) (b := (1#64) <<< (1 : Nat)) rfl rfl).as (v' := .bool (true)) (by exact congrArg Value.bool (decide_eq_true hf))) ?_
 refine wend ?_
 refine condTrue rfl ?_
 refine exitAny ?_
 refine blockOut rfl ?_
 refine thenExit ?_
 refine blockHere ?_
 refine thenNormal ?_
 refine sR ?_
 refine sM (i64 ((1 : Int))) rfl ?_
 refine sq ((r_mulI (a := (128 : Int)) (b := (1 : Int)) rfl rfl (by omega)).as (v' := i64 (128 : Nat)) (by rfl)) ?_
 refine sq (r_build (cs' := #[i64 (128 : Nat), .slice none 0 0, .slice none 0 0]) (ps := [(0, i64 (128 : Nat))]) zer70 pls70 rfl (by rfl)) ?_
 refine sq (r_build (cs' := #[i64 (128 : Nat), .slice none 0 0, .slice none 0 0]) (ps := [(0, .agg #[i64 (128 : Nat), .slice none 0 0, .slice none 0 0])]) zer151 pls151 rfl (by rfl)) ?_
 refine q_box (v := .agg #[i64 (128 : Nat), .slice none 0 0, .slice none 0 0]) (o := .cells #[i64 (128 : Nat), .slice none 0 0, .slice none 0 0] 151 (0, 0)) H3 rfl (by rfl) ?_
 intro b5 w6 hb5 H7 hE8
 refine sA (pT b5) rfl ?_
 have H9 := H7.nil (sob EG 99 [] [])
 have H10 := H9.as (L' := [(none, sob EG 99 ([]) ([])), (some b5, .cells #[i64 (128 : Nat), .slice (ownA none) (List.length ([] : List Gt)) 0, .slice none 0 0] 151 (0, 0)), (some b1, .cells #[i64 ((0 : Int)), .slice none 0 0, .slice none 0 0] 70 (0, 0))]) rfl
 refine wend ?_
 refine sR ?_
 refine q_alloc (o := .cells (cel EI (List.replicate 128 0)).toArray 154 (0, 0)) H10 zer154 (by kernel_rfl) ?_
 intro b11 w12 hb11 H13 hE14
 rw [padX_nil] at H13
 refine wend ?_
 refine seqAny ?_
 refine sR ?_
 refine sM (i64 ((1 : Int))) rfl ?_
 refine sM (i64 ((0 : Int))) rfl ?_
 refine wend ?_
 refine blockAny ?_
 refine loopAny (σ := Nat × Option Nat × Nat × List Value) (fun (i, kz, cz, sz) => [(0, i64 ((1 : Int))), (1, u64 (fm)), (4, pT b1), (7, pT b5), (8, pT b11), (36, i64 ((1 : Int))), (37, i64 (i : Nat))]) (fun (i, kz, cz, sz) w' => (i ≤ 1 ∧ Sl EG kz (opsS 128 fm i).1 cz sz) ∧ Hp No w w' [(some b5, .cells #[i64 (128 : Nat), .slice (ownA kz) (List.length ((opsS 128 fm i).1)) cz, .slice none 0 0] 151 (0, 0)), (kz, sob EG 99 ((opsS 128 fm i).1) sz), (some b11, .cells (cel EI (padX ((opsS 128 fm i).2))).toArray 154 (0, 0)), (some b1, .cells #[i64 ((0 : Int)), .slice none 0 0, .slice none 0 0] 70 (0, 0))]) (fun (i, kz, cz, sz) => 1 - i) ((0, none, 0, [])) ?_ ?_ ?_
 ·exact ⟨rfl, rfl, rfl, rfl, rfl, rfl, rfl, trivial⟩
 ·exact ⟨⟨by omega, Sl.none⟩, (H13.pick 4 [2, 1, 0, 3] (by decide) (by decide))⟩
 rintro ⟨i, kz, cz, sz⟩ ρ w15 ⟨⟨hq, hSz⟩, HL⟩
 have hol := opsS_len 128 fm i
 have hi1 := inW_len (64 * (2 * i)) 64
 have hi2 := inW_len (64 * (2 * i + 1)) 64
 have hpx : (padX (opsS 128 fm i).2).length = 128 := padX_len (by rw [hol.2]; omega)
 refine sR ?_
 refine sq (r_lssI (a := (i : Nat)) (b := (1 : Int)) rfl rfl) ?_
 refine wend ?_
 refine seqAny ?_
 refine condProp (((i : Nat) : Int) < (1 : Int)) rfl (fun c38 => ?_) (fun c38 => ?_)
 ·skip
  refine skipAny ?_
  refine thenNormal ?_
  refine seqAny ?_
  refine blockAny ?_
  refine sR ?_
  refine sM (i64 (i : Nat)) rfl ?_
  refine sA (i64 (i : Nat)) rfl ?_
  refine wend ?_
  refine sR ?_
  refine sM (pT b5) rfl ?_
  refine sM (i64 (i : Nat)) rfl ?_
  refine sq ((r_mulI (a := (2 : Int)) (b := (i : Nat)) rfl rfl (by omega)).as (v' := i64 (((2 * i) : Nat))) (by exact congrArg i64 (by omega))) ?_
  refine c_call (vs := [pT b5, i64 (((2 * i) : Nat))]) call73 rfl (input_ok b5 (2 * i) (by omega) w15) ?_
  rintro _ w17 ⟨rfl, hE18⟩
  have H19 := HL.ext hE18
  refine sM (pT b5) rfl ?_
  refine sM (i64 (i : Nat)) rfl ?_
  refine sq ((r_mulI (a := (2 : Int)) (b := (i : Nat)) rfl rfl (by omega)).as (v' := i64 (((2 * i) : Nat))) (by exact congrArg i64 (by omega))) ?_
  refine sq ((r_addI (a := ((2 * i) : Nat)) (b := (1 : Int)) rfl rfl (by omega)).as (v' := i64 (((2 * i + 1) : Nat))) (by exact congrArg i64 (by omega))) ?_
  refine c_call (vs := [pT b5, i64 (((2 * i + 1) : Nat))]) call73 rfl (input_ok b5 (2 * i + 1) (by omega) w17) ?_
  rintro _ w20 ⟨rfl, hE21⟩
  have H22 := H19.ext hE21
  refine q_alloc (o := .cells (cel EI (List.replicate 64 0)).toArray 153 (0, 0)) H22 zer153 (by kernel_rfl) ?_
  intro b23 w24 hb23 H25 hE26
  refine q_alloc (o := .cells (cel EI (List.replicate 64 0)).toArray 153 (0, 0)) H25 zer153 (by kernel_rfl) ?_
  intro b27 w28 hb27 H29 hE30
  refine d_store (k := 1) (v := .agg (cel EI (inW (64 * (2 * i)) 64)).toArray) (cs' := (cel EI (inW (64 * (2 * i)) 64)).toArray) H29 rfl rfl rfl siz153 (by exact celSize (by rw [hi1]; rfl)) (by exact celOne _) (by rw [List.size_toArray, cel_length]; show _ ≤ _ * 1; first | omega | (simp only [List.length_set]; omega) | exact bLe rfl | (simp <;> omega)) (by exact putAll (by rw [List.length_replicate]; exact hi1.symm)) ?_
  intro w31 H32 hC33
  have H32' := H32.as (L' := [(some b27, .cells (cel EI (List.replicate 64 0)).toArray 153 (0, 0)), (some b23, .cells (cel EI (inW (64 * (2 * i)) 64)).toArray 153 (0, 0)), (some b5, .cells #[i64 (128 : Nat), .slice (ownA kz) (List.length ((opsS 128 fm i).1)) cz, .slice none 0 0] 151 (0, 0)), (kz, sob EG 99 ((opsS 128 fm i).1) sz), (some b11, .cells (cel EI (padX ((opsS 128 fm i).2))).toArray 154 (0, 0)), (some b1, .cells #[i64 ((0 : Int)), .slice none 0 0, .slice none 0 0] 70 (0, 0))]) rfl
  clear H32
  refine d_store (k := 0) (v := .agg (cel EI (inW (64 * (2 * i + 1)) 64)).toArray) (cs' := (cel EI (inW (64 * (2 * i + 1)) 64)).toArray) H32' rfl rfl rfl siz153 (by exact celSize (by rw [hi2]; rfl)) (by exact celOne _) (by rw [List.size_toArray, cel_length]; show _ ≤ _ * 1; first | omega | (simp only [List.length_set]; omega) | exact bLe rfl | (simp <;> omega)) (by exact putAll (by rw [List.length_replicate]; exact hi2.symm)) ?_
  intro w34 H35 hC36
  have H35' := H35.as (L' := [(some b27, .cells (cel EI (inW (64 * (2 * i + 1)) 64)).toArray 153 (0, 0)), (some b23, .cells (cel EI (inW (64 * (2 * i)) 64)).toArray 153 (0, 0)), (some b5, .cells #[i64 (128 : Nat), .slice (ownA kz) (List.length ((opsS 128 fm i).1)) cz, .slice none 0 0] 151 (0, 0)), (kz, sob EG 99 ((opsS 128 fm i).1) sz), (some b11, .cells (cel EI (padX ((opsS 128 fm i).2))).toArray 154 (0, 0)), (some b1, .cells #[i64 ((0 : Int)), .slice none 0 0, .slice none 0 0] 70 (0, 0))]) rfl
  clear H35
  refine wend ?_
  refine sR ?_
  refine sM (u64 (fm)) rfl ?_
  refine sM (i64 (i : Nat)) rfl ?_
  refine sq (r_shr64 (a := fm) (c := i) rfl rfl) ?_
  refine sq (r_and64 (a := fm >>> (i : Nat)) (b := 1#64) rfl rfl) ?_
  refine sq (r_eql64 (a := (fm >>> (i : Nat)) &&& (1#64)) (b := 1#64) rfl rfl) ?_
  refine wend ?_
  refine condProp (((fm >>> (i : Nat)) &&& (1#64)) = (1#64)) rfl (fun c53 => ?_) (fun c53 => ?_)
  ·skip
   refine oneRegion ?_
   refine sM (i64 (i : Nat)) rfl ?_
   refine sM (pT b5) rfl ?_
   refine sq (r_loadA (cs' := (cel EI (inW (64 * (2 * i)) 64)).toArray) agg153 siz153 (H35'.get (k := 1) rfl) (off := 0) rfl (by rw [List.size_toArray, cel_length]; show _ ≤ _ * 1; omega) (by exact ext_all (by rw [cel_length]; show _ * 1 = _; omega))) ?_
   refine sq (r_loadA (cs' := (cel EI (inW (64 * (2 * i + 1)) 64)).toArray) agg153 siz153 (H35'.get (k := 0) rfl) (off := 0) rfl (by rw [List.size_toArray, cel_length]; show _ ≤ _ * 1; omega) (by exact ext_all (by rw [cel_length]; show _ * 1 = _; omega))) ?_
   have H37 := ((H35'.pick 6 [2, 3, 0, 1, 4, 5] (by decide) (by decide))).as (L' := ((some b5, .cells #[i64 (128 : Nat), .slice (ownA kz) (List.length ((opsS 128 fm i).1)) cz, .slice none 0 0] 151 (0, 0)) :: (kz, sob EG 99 ((opsS 128 fm i).1) sz) :: [(some b27, .cells (cel EI (inW (64 * (2 * i + 1)) 64)).toArray 153 (0, 0)), (some b23, .cells (cel EI (inW (64 * (2 * i)) 64)).toArray 153 (0, 0)), (some b11, .cells (cel EI (padX ((opsS 128 fm i).2))).toArray 154 (0, 0)), (some b1, .cells #[i64 ((0 : Int)), .slice none 0 0, .slice none 0 0] 70 (0, 0))])) rfl
   refine c_call (vs := [pT b5, .agg (cel EI (inW (64 * (2 * i)) 64)).toArray, .agg (cel EI (inW (64 * (2 * i + 1)) 64)).toArray]) call74 rfl (mxor_ok b5 128 kz cz sz ((opsS 128 fm i).1) hSz (by omega) (by omega) (inW (64 * (2 * i)) 64) (inW (64 * (2 * i + 1)) 64) (by omega) (by omega) [(some b27, .cells (cel EI (inW (64 * (2 * i + 1)) 64)).toArray 153 (0, 0)), (some b23, .cells (cel EI (inW (64 * (2 * i)) 64)).toArray 153 (0, 0)), (some b11, .cells (cel EI (padX ((opsS 128 fm i).2))).toArray 154 (0, 0)), (some b1, .cells #[i64 ((0 : Int)), .slice none 0 0, .slice none 0 0] 70 (0, 0))] w w34 H37) ?_
   rintro _ w38 ⟨rfl, key40, c41, sp42, hS43, HN44⟩
   have H45 := HN44.as (L' := [(some b5, .cells #[i64 (128 : Nat), .slice (ownA key40) (List.length ((xoS 128 ((opsS 128 fm i).1) (inW (64 * (2 * i)) 64) (inW (64 * (2 * i + 1)) 64) 64).1)) c41, .slice none 0 0] 151 (0, 0)), (key40, sob EG 99 ((xoS 128 ((opsS 128 fm i).1) (inW (64 * (2 * i)) 64) (inW (64 * (2 * i + 1)) 64) 64).1) sp42), (some b27, .cells (cel EI (inW (64 * (2 * i + 1)) 64)).toArray 153 (0, 0)), (some b23, .cells (cel EI (inW (64 * (2 * i)) 64)).toArray 153 (0, 0)), (some b11, .cells (cel EI (padX ((opsS 128 fm i).2))).toArray 154 (0, 0)), (some b1, .cells #[i64 ((0 : Int)), .slice none 0 0, .slice none 0 0] 70 (0, 0))]) rfl
   have hnr : (xoS 128 ((opsS 128 fm i).1) (inW (64 * (2 * i)) 64) (inW (64 * (2 * i + 1)) 64) 64).2.length = 64 := (xoS_len 128 ((opsS 128 fm i).1) (inW (64 * (2 * i)) 64) (inW (64 * (2 * i + 1)) 64) 64).2
   refine sq (r_indexA (off' := i * 64) (j := i) arr154 (b := b11) (off := 0) rfl rfl (by first | rfl | omega | (simp; omega)) (by omega) (by omega)) ?_
   refine d_store (k := 4) (v := .agg (cel EI ((xoS 128 ((opsS 128 fm i).1) (inW (64 * (2 * i)) 64) (inW (64 * (2 * i + 1)) 64) 64).2)).toArray) (cs' := (cel EI (padX ((opsS 128 fm i).2 ++ (xoS 128 ((opsS 128 fm i).1) (inW (64 * (2 * i)) 64) (inW (64 * (2 * i + 1)) 64) 64).2))).toArray) H45 rfl rfl rfl siz153 (by exact celSize (by rw [hnr]; rfl)) (by exact celOne _) (by rw [List.size_toArray, cel_length, padX_len (by rw [hol.2]; omega)]; show _ ≤ _ * 1; omega) (by exact padX_put (by rw [hol.2]; omega) (by rw [hol.2]; omega) (by first | exact hnr)) ?_
   intro w46 H47 hC48
   have H47' := H47.as (L' := [(some b5, .cells #[i64 (128 : Nat), .slice (ownA key40) (List.length ((xoS 128 ((opsS 128 fm i).1) (inW (64 * (2 * i)) 64) (inW (64 * (2 * i + 1)) 64) 64).1)) c41, .slice none 0 0] 151 (0, 0)), (key40, sob EG 99 ((xoS 128 ((opsS 128 fm i).1) (inW (64 * (2 * i)) 64) (inW (64 * (2 * i + 1)) 64) 64).1) sp42), (some b27, .cells (cel EI (inW (64 * (2 * i + 1)) 64)).toArray 153 (0, 0)), (some b23, .cells (cel EI (inW (64 * (2 * i)) 64)).toArray 153 (0, 0)), (some b11, .cells (cel EI (padX ((opsS 128 fm i).2 ++ (xoS 128 ((opsS 128 fm i).1) (inW (64 * (2 * i)) 64) (inW (64 * (2 * i + 1)) 64) 64).2))).toArray 154 (0, 0)), (some b1, .cells #[i64 ((0 : Int)), .slice none 0 0, .slice none 0 0] 70 (0, 0))]) rfl
   clear H47
   refine wnil ?_
   refine blockNormal ?_
   refine thenNormal ?_
   refine oneRegion ?_
   refine sq (r_addI (a := (i : Nat)) (b := (1 : Int)) rfl rfl (by omega)) ?_
   refine sM (i64 ((i : Nat) + (1 : Int))) rfl ?_
   refine wnil ?_
   refine thenNormal ?_
   have e49 : (xoS 128 ((opsS 128 fm i).1) (inW (64 * (2 * i)) 64) (inW (64 * (2 * i + 1)) 64) 64).1 = (opsS 128 fm (i + 1)).1 := by rw [opsS, opS_t c53]
   have hS50 := hS43
   rw [e49] at hS50
   have H51 : Hp No w w46 [(some b5, .cells #[i64 (128 : Nat), .slice (ownA key40) (List.length ((opsS 128 fm (i + 1)).1)) c41, .slice none 0 0] 151 (0, 0)), (key40, sob EG 99 ((opsS 128 fm (i + 1)).1) sp42), (some b27, .cells (cel EI (inW (64 * (2 * i + 1)) 64)).toArray 153 (0, 0)), (some b23, .cells (cel EI (inW (64 * (2 * i)) 64)).toArray 153 (0, 0)), (some b11, .cells (cel EI (padX ((opsS 128 fm i).2 ++ (xoS 128 ((opsS 128 fm i).1) (inW (64 * (2 * i)) 64) (inW (64 * (2 * i + 1)) 64) 64).2))).toArray 154 (0, 0)), (some b1, .cells #[i64 ((0 : Int)), .slice none 0 0, .slice none 0 0] 70 (0, 0))] := by rw [← e49]; exact H47'
   rw [show (opsS 128 fm i).2 ++ (xoS 128 ((opsS 128 fm i).1) (inW (64 * (2 * i)) 64) (inW (64 * (2 * i + 1)) 64) 64).2 = (opsS 128 fm (i + 1)).2 from by rw [opsS, opS_t c53]] at H51
   exact ⟨(i + 1, key40, c41, sp42), _, rfl, ⟨rfl, rfl, rfl, rfl, rfl, rfl, rfl, trivial⟩, ⟨⟨by omega, hS50⟩, ((H51.dropk 3).dropk 2)⟩, by show 1 - (i + 1) < 1 - i; omega⟩
  ·skip
   refine oneRegion ?_
   refine sM (i64 (i : Nat)) rfl ?_
   refine sM (pT b5) rfl ?_
   refine sq (r_loadA (cs' := (cel EI (inW (64 * (2 * i)) 64)).toArray) agg153 siz153 (H35'.get (k := 1) rfl) (off := 0) rfl (by rw [List.size_toArray, cel_length]; show _ ≤ _ * 1; omega) (by exact ext_all (by rw [cel_length]; show _ * 1 = _; omega))) ?_
   refine sq (r_loadA (cs' := (cel EI (inW (64 * (2 * i + 1)) 64)).toArray) agg153 siz153 (H35'.get (k := 0) rfl) (off := 0) rfl (by rw [List.size_toArray, cel_length]; show _ ≤ _ * 1; omega) (by exact ext_all (by rw [cel_length]; show _ * 1 = _; omega))) ?_
   have H52 := ((H35'.pick 6 [2, 3, 0, 1, 4, 5] (by decide) (by decide))).as (L' := ((some b5, .cells #[i64 (128 : Nat), .slice (ownA kz) (List.length ((opsS 128 fm i).1)) cz, .slice none 0 0] 151 (0, 0)) :: (kz, sob EG 99 ((opsS 128 fm i).1) sz) :: [(some b27, .cells (cel EI (inW (64 * (2 * i + 1)) 64)).toArray 153 (0, 0)), (some b23, .cells (cel EI (inW (64 * (2 * i)) 64)).toArray 153 (0, 0)), (some b11, .cells (cel EI (padX ((opsS 128 fm i).2))).toArray 154 (0, 0)), (some b1, .cells #[i64 ((0 : Int)), .slice none 0 0, .slice none 0 0] 70 (0, 0))])) rfl
   refine c_call (vs := [pT b5, .agg (cel EI (inW (64 * (2 * i)) 64)).toArray, .agg (cel EI (inW (64 * (2 * i + 1)) 64)).toArray]) call75 rfl (madd_ok b5 128 kz cz sz ((opsS 128 fm i).1) hSz (by omega) (by omega) (inW (64 * (2 * i)) 64) (inW (64 * (2 * i + 1)) 64) (by omega) (by omega) [(some b27, .cells (cel EI (inW (64 * (2 * i + 1)) 64)).toArray 153 (0, 0)), (some b23, .cells (cel EI (inW (64 * (2 * i)) 64)).toArray 153 (0, 0)), (some b11, .cells (cel EI (padX ((opsS 128 fm i).2))).toArray 154 (0, 0)), (some b1, .cells #[i64 ((0 : Int)), .slice none 0 0, .slice none 0 0] 70 (0, 0))] w w34 H52) ?_
   rintro _ w53 ⟨rfl, key55, c56, sp57, hS58, HN59⟩
   have H60 := HN59.as (L' := [(some b5, .cells #[i64 (128 : Nat), .slice (ownA key55) (List.length ((adS 128 ((opsS 128 fm i).1) (inW (64 * (2 * i)) 64) (inW (64 * (2 * i + 1)) 64) 63).1)) c56, .slice none 0 0] 151 (0, 0)), (key55, sob EG 99 ((adS 128 ((opsS 128 fm i).1) (inW (64 * (2 * i)) 64) (inW (64 * (2 * i + 1)) 64) 63).1) sp57), (some b27, .cells (cel EI (inW (64 * (2 * i + 1)) 64)).toArray 153 (0, 0)), (some b23, .cells (cel EI (inW (64 * (2 * i)) 64)).toArray 153 (0, 0)), (some b11, .cells (cel EI (padX ((opsS 128 fm i).2))).toArray 154 (0, 0)), (some b1, .cells #[i64 ((0 : Int)), .slice none 0 0, .slice none 0 0] 70 (0, 0))]) rfl
   have hnr : (adS 128 ((opsS 128 fm i).1) (inW (64 * (2 * i)) 64) (inW (64 * (2 * i + 1)) 64) 63).2.1.length = 64 := (adS_len 128 ((opsS 128 fm i).1) (inW (64 * (2 * i)) 64) (inW (64 * (2 * i + 1)) 64) 63).2
   refine sq (r_indexA (off' := i * 64) (j := i) arr154 (b := b11) (off := 0) rfl rfl (by first | rfl | omega | (simp; omega)) (by omega) (by omega)) ?_
   refine d_store (k := 4) (v := .agg (cel EI ((adS 128 ((opsS 128 fm i).1) (inW (64 * (2 * i)) 64) (inW (64 * (2 * i + 1)) 64) 63).2.1)).toArray) (cs' := (cel EI (padX ((opsS 128 fm i).2 ++ (adS 128 ((opsS 128 fm i).1) (inW (64 * (2 * i)) 64) (inW (64 * (2 * i + 1)) 64) 63).2.1))).toArray) H60 rfl rfl rfl siz153 (by exact celSize (by rw [hnr]; rfl)) (by exact celOne _) (by rw [List.size_toArray, cel_length, padX_len (by rw [hol.2]; omega)]; show _ ≤ _ * 1; omega) (by exact padX_put (by rw [hol.2]; omega) (by rw [hol.2]; omega) (by first | exact hnr)) ?_
   intro w61 H62 hC63
   have H62' := H62.as (L' := [(some b5, .cells #[i64 (128 : Nat), .slice (ownA key55) (List.length ((adS 128 ((opsS 128 fm i).1) (inW (64 * (2 * i)) 64) (inW (64 * (2 * i + 1)) 64) 63).1)) c56, .slice none 0 0] 151 (0, 0)), (key55, sob EG 99 ((adS 128 ((opsS 128 fm i).1) (inW (64 * (2 * i)) 64) (inW (64 * (2 * i + 1)) 64) 63).1) sp57), (some b27, .cells (cel EI (inW (64 * (2 * i + 1)) 64)).toArray 153 (0, 0)), (some b23, .cells (cel EI (inW (64 * (2 * i)) 64)).toArray 153 (0, 0)), (some b11, .cells (cel EI (padX ((opsS 128 fm i).2 ++ (adS 128 ((opsS 128 fm i).1) (inW (64 * (2 * i)) 64) (inW (64 * (2 * i + 1)) 64) 63).2.1))).toArray 154 (0, 0)), (some b1, .cells #[i64 ((0 : Int)), .slice none 0 0, .slice none 0 0] 70 (0, 0))]) rfl
   clear H62
   refine wnil ?_
   refine blockNormal ?_
   refine thenNormal ?_
   refine oneRegion ?_
   refine sq (r_addI (a := (i : Nat)) (b := (1 : Int)) rfl rfl (by omega)) ?_
   refine sM (i64 ((i : Nat) + (1 : Int))) rfl ?_
   refine wnil ?_
   refine thenNormal ?_
   have e64 : (adS 128 ((opsS 128 fm i).1) (inW (64 * (2 * i)) 64) (inW (64 * (2 * i + 1)) 64) 63).1 = (opsS 128 fm (i + 1)).1 := by rw [opsS, opS_f c53]
   have hS65 := hS58
   rw [e64] at hS65
   have H66 : Hp No w w61 [(some b5, .cells #[i64 (128 : Nat), .slice (ownA key55) (List.length ((opsS 128 fm (i + 1)).1)) c56, .slice none 0 0] 151 (0, 0)), (key55, sob EG 99 ((opsS 128 fm (i + 1)).1) sp57), (some b27, .cells (cel EI (inW (64 * (2 * i + 1)) 64)).toArray 153 (0, 0)), (some b23, .cells (cel EI (inW (64 * (2 * i)) 64)).toArray 153 (0, 0)), (some b11, .cells (cel EI (padX ((opsS 128 fm i).2 ++ (adS 128 ((opsS 128 fm i).1) (inW (64 * (2 * i)) 64) (inW (64 * (2 * i + 1)) 64) 63).2.1))).toArray 154 (0, 0)), (some b1, .cells #[i64 ((0 : Int)), .slice none 0 0, .slice none 0 0] 70 (0, 0))] := by rw [← e64]; exact H62'
   rw [show (opsS 128 fm i).2 ++ (adS 128 ((opsS 128 fm i).1) (inW (64 * (2 * i)) 64) (inW (64 * (2 * i + 1)) 64) 63).2.1 = (opsS 128 fm (i + 1)).2 from by rw [opsS, opS_f c53]] at H66
   exact ⟨(i + 1, key55, c56, sp57), _, rfl, ⟨rfl, rfl, rfl, rfl, rfl, rfl, rfl, trivial⟩, ⟨⟨by omega, hS65⟩, ((H66.dropk 3).dropk 2)⟩, by show 1 - (i + 1) < 1 - i; omega⟩
 ·skip
  have hie : i = 1 := by omega
  rw [hie, opsS_one] at HL hSz hol
  obtain ⟨o1, ho1⟩ : ∃ q, q = opS 128 [] 0 64 (fbS fm 0) := ⟨_, rfl⟩
  rw [← ho1] at HL hSz hol
  have hl1 := opS_len 128 [] 0 64 (fbS fm 0)
  rw [← ho1] at hl1
  simp only [List.length_nil] at hl1
  have H67 := HL.as (L' := [(some b5, .cells #[i64 (128 : Nat), .slice (ownA kz) (List.length o1.1) cz, .slice none 0 0] 151 (0, 0)), (kz, sob EG 99 o1.1 sz), (some b11, .cells (cel EI (padX o1.2)).toArray 154 (0, 0)), (some b1, .cells #[i64 ((0 : Int)), .slice none 0 0, .slice none 0 0] 70 (0, 0))]) rfl
  have hpx : (padX o1.2).length = 128 := padX_len (by omega)
  refine exitAny ?_
  refine thenExit ?_
  refine thenExit ?_
  refine blockHere ?_
  refine thenNormal ?_
  refine sR ?_
  refine q_alloc (o := .cells (cel EI (List.replicate 64 0)).toArray 153 (0, 0)) H67 zer153 (by kernel_rfl) ?_
  intro b68 w69 hb68 H70 hE71
  refine wend ?_
  refine seqAny ?_
  refine sR ?_
  refine sM (pT b5) rfl ?_
  have H72 := ((H70.pick 5 [1, 2, 0, 3, 4] (by decide) (by decide))).as (L' := ((some b5, .cells #[i64 (128 : Nat), .slice (ownA kz) (List.length o1.1) cz, .slice none 0 0] 151 (0, 0)) :: (kz, sob EG 99 o1.1 sz) :: [(some b68, .cells (cel EI (List.replicate 64 0)).toArray 153 (0, 0)), (some b11, .cells (cel EI (padX o1.2)).toArray 154 (0, 0)), (some b1, .cells #[i64 ((0 : Int)), .slice none 0 0, .slice none 0 0] 70 (0, 0))])) rfl
  refine c_call (vs := [pT b5, i64 ((1 : Int)), i64 ((0 : Int)), i64 ((0 : Int))]) call76 rfl (gate_ok b5 128 kz cz sz o1.1 hSz (by omega) (by omega) (1 : Int) (0 : Int) (0 : Int) [(some b68, .cells (cel EI (List.replicate 64 0)).toArray 153 (0, 0)), (some b11, .cells (cel EI (padX o1.2)).toArray 154 (0, 0)), (some b1, .cells #[i64 ((0 : Int)), .slice none 0 0, .slice none 0 0] 70 (0, 0))] w w69 H72) ?_
  rintro wv81 w73 ⟨hwv82, key75, c76, sp77, hS78, HN79⟩
  obtain ⟨wx83, hwx83⟩ : ∃ q, q = wrW 128 o1.1 := ⟨_, rfl⟩
  rw [← hwx83] at hwv82
  subst hwv82
  have H80 := HN79.as (L' := [(some b5, .cells #[i64 (128 : Nat), .slice (ownA key75) (List.length (o1.1 ++ [(⟨(1 : Int), (0 : Int), (0 : Int)⟩ : Gt)])) c76, .slice none 0 0] 151 (0, 0)), (key75, sob EG 99 (o1.1 ++ [(⟨(1 : Int), (0 : Int), (0 : Int)⟩ : Gt)]) sp77), (some b68, .cells (cel EI (List.replicate 64 0)).toArray 153 (0, 0)), (some b11, .cells (cel EI (padX o1.2)).toArray 154 (0, 0)), (some b1, .cells #[i64 ((0 : Int)), .slice none 0 0, .slice none 0 0] 70 (0, 0))]) rfl
  refine sA (i64 (wx83)) rfl ?_
  subst hwx83
  have e84 : o1.1 ++ [(⟨(1 : Int), (0 : Int), (0 : Int)⟩ : Gt)] = ze o1.1 := by rfl
  have hS85 := hS78
  rw [e84] at hS85
  have H86 : Hp No w w73 [(some b5, .cells #[i64 (128 : Nat), .slice (ownA key75) (List.length (ze o1.1)) c76, .slice none 0 0] 151 (0, 0)), (key75, sob EG 99 (ze o1.1) sp77), (some b68, .cells (cel EI (List.replicate 64 0)).toArray 153 (0, 0)), (some b11, .cells (cel EI (padX o1.2)).toArray 154 (0, 0)), (some b1, .cells #[i64 ((0 : Int)), .slice none 0 0, .slice none 0 0] 70 (0, 0))] := by rw [← e84]; exact H80
  have hzl : (ze o1.1).length = o1.1.length + 1 := by simp [ze]
  refine wend ?_
  refine sR ?_
  refine sM (i64 ((1 : Int))) rfl ?_
  refine wend ?_
  refine blockAny ?_
  refine sR ?_
  refine sq ((r_eqlI (a := (1 : Int)) (b := (1 : Int)) rfl rfl).as (v' := .bool (true)) (by rfl)) ?_
  refine sA (.bool (true)) rfl ?_
  refine wend ?_
  refine condTrue rfl ?_
  refine sR ?_
  refine sM (pT b5) rfl ?_
  refine sq (r_indexA (off' := 0) (j := 0) arr154 (b := b11) (off := 0) rfl rfl (by first | rfl | omega | (simp; omega)) (by omega) (by omega)) ?_
  refine sq (r_indexA (off' := 63) (j := 63) arr153 (b := b11) (off := 0) rfl rfl (by first | rfl | omega | (simp; omega)) (by omega) (by omega)) ?_
  refine sq ((r_ld1 (E := EI) (l := padX o1.2) (j := 63) (a := (padX o1.2).getD 63 0) fits3 (H86.get (k := 3) rfl) (at_getD (by omega)) rfl rfl).as (v' := i64 (o1.2.getD 63 0)) (by exact congrArg i64 (padX_at (by omega)))) ?_
  have H87 := (H86).as (L' := ((some b5, .cells #[i64 (128 : Nat), .slice (ownA key75) (List.length (ze o1.1)) c76, .slice none 0 0] 151 (0, 0)) :: (key75, sob EG 99 (ze o1.1) sp77) :: [(some b68, .cells (cel EI (List.replicate 64 0)).toArray 153 (0, 0)), (some b11, .cells (cel EI (padX o1.2)).toArray 154 (0, 0)), (some b1, .cells #[i64 ((0 : Int)), .slice none 0 0, .slice none 0 0] 70 (0, 0))])) rfl
  refine c_call (vs := [pT b5, i64 ((3 : Int)), i64 (o1.2.getD 63 0), i64 ((0 : Int))]) call76 rfl (gate_ok b5 128 key75 c76 sp77 (ze o1.1) hS85 (by omega) (by omega) (3 : Int) (o1.2.getD 63 0) (0 : Int) [(some b68, .cells (cel EI (List.replicate 64 0)).toArray 153 (0, 0)), (some b11, .cells (cel EI (padX o1.2)).toArray 154 (0, 0)), (some b1, .cells #[i64 ((0 : Int)), .slice none 0 0, .slice none 0 0] 70 (0, 0))] w w73 H87) ?_
  rintro wv96 w88 ⟨hwv97, key90, c91, sp92, hS93, HN94⟩
  obtain ⟨wx98, hwx98⟩ : ∃ q, q = wrW 128 (ze o1.1) := ⟨_, rfl⟩
  rw [← hwx98] at hwv97
  subst hwv97
  have H95 := HN94.as (L' := [(some b5, .cells #[i64 (128 : Nat), .slice (ownA key90) (List.length ((ze o1.1) ++ [(⟨(3 : Int), o1.2.getD 63 0, (0 : Int)⟩ : Gt)])) c91, .slice none 0 0] 151 (0, 0)), (key90, sob EG 99 ((ze o1.1) ++ [(⟨(3 : Int), o1.2.getD 63 0, (0 : Int)⟩ : Gt)]) sp92), (some b68, .cells (cel EI (List.replicate 64 0)).toArray 153 (0, 0)), (some b11, .cells (cel EI (padX o1.2)).toArray 154 (0, 0)), (some b1, .cells #[i64 ((0 : Int)), .slice none 0 0, .slice none 0 0] 70 (0, 0))]) rfl
  refine sA (i64 (wx98)) rfl ?_
  subst hwx98
  refine wend ?_
  refine seqAny ?_
  refine sR ?_
  refine sM (i64 ((0 : Int))) rfl ?_
  refine wend ?_
  refine blockAny ?_
  refine loopAny (σ := Nat × Option Nat × Nat × List Value) (fun (i, ky, cy, sy) => [(4, pT b1), (7, pT b5), (8, pT b11), (12, pT b68), (13, i64 ((wrW 128 o1.1))), (14, i64 ((wrW 128 (ze o1.1)))), (77, i64 (i : Nat))]) (fun (i, ky, cy, sy) w' => (i ≤ 63 ∧ Sl EG ky (reS 128 (ze o1.1 ++ [(⟨3, o1.2.getD 63 0, 0⟩ : Gt)]) (wrW 128 (ze o1.1)) o1.2 i).1 cy sy) ∧ Hp No w w' [(some b5, .cells #[i64 (128 : Nat), .slice (ownA ky) (List.length ((reS 128 (ze o1.1 ++ [(⟨3, o1.2.getD 63 0, 0⟩ : Gt)]) (wrW 128 (ze o1.1)) o1.2 i).1)) cy, .slice none 0 0] 151 (0, 0)), (ky, sob EG 99 ((reS 128 (ze o1.1 ++ [(⟨3, o1.2.getD 63 0, 0⟩ : Gt)]) (wrW 128 (ze o1.1)) o1.2 i).1) sy), (some b68, .cells (cel EI (padW ((reS 128 (ze o1.1 ++ [(⟨3, o1.2.getD 63 0, 0⟩ : Gt)]) (wrW 128 (ze o1.1)) o1.2 i).2))).toArray 153 (0, 0)), (some b11, .cells (cel EI (padX o1.2)).toArray 154 (0, 0)), (some b1, .cells #[i64 ((0 : Int)), .slice none 0 0, .slice none 0 0] 70 (0, 0))]) (fun (i, ky, cy, sy) => 63 - i) ((0, key90, c91, sp92)) ?_ ?_ ?_
  ·exact ⟨rfl, rfl, rfl, rfl, rfl, rfl, rfl, trivial⟩
  ·exact ⟨⟨by omega, hS93⟩, H95⟩
  rintro ⟨i, ky, cy, sy⟩ ρ w99 ⟨⟨hq2, hSy⟩, HL2⟩
  have hre := reS_len 128 (ze o1.1 ++ [(⟨3, o1.2.getD 63 0, 0⟩ : Gt)]) (wrW 128 (ze o1.1)) o1.2 i
  have hgl : (ze o1.1 ++ [(⟨3, o1.2.getD 63 0, 0⟩ : Gt)]).length = o1.1.length + 2 := by rw [List.length_append, hzl]; rfl
  have hpl : (padW (reS 128 (ze o1.1 ++ [(⟨3, o1.2.getD 63 0, 0⟩ : Gt)]) (wrW 128 (ze o1.1)) o1.2 i).2).length = 64 := padW_len (by rw [hre.2]; omega)
  refine sR ?_
  refine sq (r_lssI (a := (i : Nat)) (b := (63 : Int)) rfl rfl) ?_
  refine wend ?_
  refine seqAny ?_
  refine condProp (((i : Nat) : Int) < (63 : Int)) rfl (fun c78 => ?_) (fun c78 => ?_)
  ·skip
   refine skipAny ?_
   refine thenNormal ?_
   refine seqAny ?_
   refine blockAny ?_
   refine sR ?_
   refine sM (i64 (i : Nat)) rfl ?_
   refine sA (i64 (i : Nat)) rfl ?_
   refine wend ?_
   refine oneRegion ?_
   refine sM (i64 (i : Nat)) rfl ?_
   refine sM (pT b5) rfl ?_
   refine sM (i64 ((wrW 128 (ze o1.1)))) rfl ?_
   refine sM (i64 (i : Nat)) rfl ?_
   refine sq (r_indexA (off' := 0) (j := 0) arr154 (b := b11) (off := 0) rfl rfl (by first | rfl | omega | (simp; omega)) (by omega) (by omega)) ?_
   refine sq (r_indexA (off' := i) (j := i) arr153 (b := b11) (off := 0) rfl rfl (by first | rfl | omega | (simp; omega)) (by omega) (by omega)) ?_
   refine sq ((r_ld1 (E := EI) (l := padX o1.2) (j := i) (a := (padX o1.2).getD i 0) fits3 (HL2.get (k := 3) rfl) (at_getD (by omega)) rfl rfl).as (v' := i64 (o1.2.getD i 0)) (by exact congrArg i64 (padX_at (by omega)))) ?_
   have H101 := (HL2).as (L' := ((some b5, .cells #[i64 (128 : Nat), .slice (ownA ky) (List.length ((reS 128 (ze o1.1 ++ [(⟨3, o1.2.getD 63 0, 0⟩ : Gt)]) (wrW 128 (ze o1.1)) o1.2 i).1)) cy, .slice none 0 0] 151 (0, 0)) :: (ky, sob EG 99 ((reS 128 (ze o1.1 ++ [(⟨3, o1.2.getD 63 0, 0⟩ : Gt)]) (wrW 128 (ze o1.1)) o1.2 i).1) sy) :: [(some b68, .cells (cel EI (padW ((reS 128 (ze o1.1 ++ [(⟨3, o1.2.getD 63 0, 0⟩ : Gt)]) (wrW 128 (ze o1.1)) o1.2 i).2))).toArray 153 (0, 0)), (some b11, .cells (cel EI (padX o1.2)).toArray 154 (0, 0)), (some b1, .cells #[i64 ((0 : Int)), .slice none 0 0, .slice none 0 0] 70 (0, 0))])) rfl
   refine c_call (vs := [pT b5, i64 ((2 : Int)), i64 ((wrW 128 (ze o1.1))), i64 (o1.2.getD i 0)]) call76 rfl (gate_ok b5 128 ky cy sy ((reS 128 (ze o1.1 ++ [(⟨3, o1.2.getD 63 0, 0⟩ : Gt)]) (wrW 128 (ze o1.1)) o1.2 i).1) hSy (by omega) (by omega) (2 : Int) (wrW 128 (ze o1.1)) (o1.2.getD i 0) [(some b68, .cells (cel EI (padW ((reS 128 (ze o1.1 ++ [(⟨3, o1.2.getD 63 0, 0⟩ : Gt)]) (wrW 128 (ze o1.1)) o1.2 i).2))).toArray 153 (0, 0)), (some b11, .cells (cel EI (padX o1.2)).toArray 154 (0, 0)), (some b1, .cells #[i64 ((0 : Int)), .slice none 0 0, .slice none 0 0] 70 (0, 0))] w w99 H101) ?_
   rintro wv110 w102 ⟨hwv111, key104, c105, sp106, hS107, HN108⟩
   obtain ⟨wx112, hwx112⟩ : ∃ q, q = wrW 128 ((reS 128 (ze o1.1 ++ [(⟨3, o1.2.getD 63 0, 0⟩ : Gt)]) (wrW 128 (ze o1.1)) o1.2 i).1) := ⟨_, rfl⟩
   rw [← hwx112] at hwv111
   subst hwv111
   have H109 := HN108.as (L' := [(some b5, .cells #[i64 (128 : Nat), .slice (ownA key104) (List.length ((reS 128 (ze o1.1 ++ [(⟨3, o1.2.getD 63 0, 0⟩ : Gt)]) (wrW 128 (ze o1.1)) o1.2 i).1 ++ [(⟨(2 : Int), (wrW 128 (ze o1.1)), o1.2.getD i 0⟩ : Gt)])) c105, .slice none 0 0] 151 (0, 0)), (key104, sob EG 99 ((reS 128 (ze o1.1 ++ [(⟨3, o1.2.getD 63 0, 0⟩ : Gt)]) (wrW 128 (ze o1.1)) o1.2 i).1 ++ [(⟨(2 : Int), (wrW 128 (ze o1.1)), o1.2.getD i 0⟩ : Gt)]) sp106), (some b68, .cells (cel EI (padW ((reS 128 (ze o1.1 ++ [(⟨3, o1.2.getD 63 0, 0⟩ : Gt)]) (wrW 128 (ze o1.1)) o1.2 i).2))).toArray 153 (0, 0)), (some b11, .cells (cel EI (padX o1.2)).toArray 154 (0, 0)), (some b1, .cells #[i64 ((0 : Int)), .slice none 0 0, .slice none 0 0] 70 (0, 0))]) rfl
   refine sq (r_indexA (off' := i) (j := i) arr153 (b := b68) (off := 0) rfl rfl (by first | rfl | omega | (simp; omega)) (by omega) (by omega)) ?_
   refine d_store (k := 2) (v := i64 (wx112)) (cs' := (cel EI ((padW ((reS 128 (ze o1.1 ++ [(⟨3, o1.2.getD 63 0, 0⟩ : Gt)]) (wrW 128 (ze o1.1)) o1.2 i).2)).set i wx112)).toArray) H109 rfl rfl rfl siz3 (by rfl) (by exact EI.one _) (by rw [List.size_toArray, cel_length]; show _ ≤ _ * 1; first | omega | (simp only [List.length_set]; omega) | exact bLe rfl | (simp <;> omega)) (by exact put1 (E := EI) rfl _ _ _) ?_
   intro w113 H114 hC115
   have H114' := H114.as (L' := [(some b5, .cells #[i64 (128 : Nat), .slice (ownA key104) (List.length ((reS 128 (ze o1.1 ++ [(⟨3, o1.2.getD 63 0, 0⟩ : Gt)]) (wrW 128 (ze o1.1)) o1.2 i).1 ++ [(⟨(2 : Int), (wrW 128 (ze o1.1)), o1.2.getD i 0⟩ : Gt)])) c105, .slice none 0 0] 151 (0, 0)), (key104, sob EG 99 ((reS 128 (ze o1.1 ++ [(⟨3, o1.2.getD 63 0, 0⟩ : Gt)]) (wrW 128 (ze o1.1)) o1.2 i).1 ++ [(⟨(2 : Int), (wrW 128 (ze o1.1)), o1.2.getD i 0⟩ : Gt)]) sp106), (some b68, .cells (cel EI ((padW ((reS 128 (ze o1.1 ++ [(⟨3, o1.2.getD 63 0, 0⟩ : Gt)]) (wrW 128 (ze o1.1)) o1.2 i).2)).set i wx112)).toArray 153 (0, 0)), (some b11, .cells (cel EI (padX o1.2)).toArray 154 (0, 0)), (some b1, .cells #[i64 ((0 : Int)), .slice none 0 0, .slice none 0 0] 70 (0, 0))]) rfl
   clear H114
   refine wnil ?_
   refine blockNormal ?_
   refine thenNormal ?_
   refine oneRegion ?_
   refine sq (r_addI (a := (i : Nat)) (b := (1 : Int)) rfl rfl (by omega)) ?_
   refine sM (i64 ((i : Nat) + (1 : Int))) rfl ?_
   refine wnil ?_
   refine thenNormal ?_
   subst hwx112
   have e116 : (reS 128 (ze o1.1 ++ [(⟨3, o1.2.getD 63 0, 0⟩ : Gt)]) (wrW 128 (ze o1.1)) o1.2 i).1 ++ [(⟨(2 : Int), (wrW 128 (ze o1.1)), o1.2.getD i 0⟩ : Gt)] = (reS 128 (ze o1.1 ++ [(⟨3, o1.2.getD 63 0, 0⟩ : Gt)]) (wrW 128 (ze o1.1)) o1.2 (i + 1)).1 := by rfl
   have hS117 := hS107
   rw [e116] at hS117
   have H118 : Hp No w w113 [(some b5, .cells #[i64 (128 : Nat), .slice (ownA key104) (List.length ((reS 128 (ze o1.1 ++ [(⟨3, o1.2.getD 63 0, 0⟩ : Gt)]) (wrW 128 (ze o1.1)) o1.2 (i + 1)).1)) c105, .slice none 0 0] 151 (0, 0)), (key104, sob EG 99 ((reS 128 (ze o1.1 ++ [(⟨3, o1.2.getD 63 0, 0⟩ : Gt)]) (wrW 128 (ze o1.1)) o1.2 (i + 1)).1) sp106), (some b68, .cells (cel EI ((padW ((reS 128 (ze o1.1 ++ [(⟨3, o1.2.getD 63 0, 0⟩ : Gt)]) (wrW 128 (ze o1.1)) o1.2 i).2)).set i (wrW 128 ((reS 128 (ze o1.1 ++ [(⟨3, o1.2.getD 63 0, 0⟩ : Gt)]) (wrW 128 (ze o1.1)) o1.2 i).1)))).toArray 153 (0, 0)), (some b11, .cells (cel EI (padX o1.2)).toArray 154 (0, 0)), (some b1, .cells #[i64 ((0 : Int)), .slice none 0 0, .slice none 0 0] 70 (0, 0))] := by rw [← e116]; exact H114'
   rw [padW_set (l := (reS 128 (ze o1.1 ++ [(⟨3, o1.2.getD 63 0, 0⟩ : Gt)]) (wrW 128 (ze o1.1)) o1.2 i).2) _ hre.2 (by omega)] at H118
   have H119 := H118.as (L' := [(some b5, .cells #[i64 (128 : Nat), .slice (ownA key104) (List.length ((reS 128 (ze o1.1 ++ [(⟨3, o1.2.getD 63 0, 0⟩ : Gt)]) (wrW 128 (ze o1.1)) o1.2 (i + 1)).1)) c105, .slice none 0 0] 151 (0, 0)), (key104, sob EG 99 ((reS 128 (ze o1.1 ++ [(⟨3, o1.2.getD 63 0, 0⟩ : Gt)]) (wrW 128 (ze o1.1)) o1.2 (i + 1)).1) sp106), (some b68, .cells (cel EI (padW ((reS 128 (ze o1.1 ++ [(⟨3, o1.2.getD 63 0, 0⟩ : Gt)]) (wrW 128 (ze o1.1)) o1.2 (i + 1)).2))).toArray 153 (0, 0)), (some b11, .cells (cel EI (padX o1.2)).toArray 154 (0, 0)), (some b1, .cells #[i64 ((0 : Int)), .slice none 0 0, .slice none 0 0] 70 (0, 0))]) rfl
   exact ⟨(i + 1, key104, c105, sp106), _, rfl, ⟨rfl, rfl, rfl, rfl, rfl, rfl, rfl, trivial⟩, ⟨⟨by omega, hS117⟩, H119⟩, by show 63 - (i + 1) < 63 - i; omega⟩
  ·skip
   have hj : i = 63 := by omega
   refine exitAny ?_
   refine thenExit ?_
   refine thenExit ?_
   refine blockHere ?_
   refine thenNormal ?_
   refine oneRegion ?_
   refine sM (i64 ((wrW 128 o1.1))) rfl ?_
   refine sq (r_indexA (off' := 63) (j := 63) arr153 (b := b68) (off := 0) rfl rfl (by first | rfl | omega | (simp; omega)) (by omega) (by omega)) ?_
   refine d_store (k := 2) (v := i64 ((wrW 128 o1.1))) (cs' := (cel EI ((padW ((reS 128 (ze o1.1 ++ [(⟨3, o1.2.getD 63 0, 0⟩ : Gt)]) (wrW 128 (ze o1.1)) o1.2 i).2)).set 63 (wrW 128 o1.1))).toArray) HL2 rfl rfl rfl siz3 (by rfl) (by exact EI.one _) (by rw [List.size_toArray, cel_length]; show _ ≤ _ * 1; first | omega | (simp only [List.length_set]; omega) | exact bLe rfl | (simp <;> omega)) (by exact put1 (E := EI) rfl _ _ _) ?_
   intro w120 H121 hC122
   have H121' := H121.as (L' := [(some b5, .cells #[i64 (128 : Nat), .slice (ownA ky) (List.length ((reS 128 (ze o1.1 ++ [(⟨3, o1.2.getD 63 0, 0⟩ : Gt)]) (wrW 128 (ze o1.1)) o1.2 i).1)) cy, .slice none 0 0] 151 (0, 0)), (ky, sob EG 99 ((reS 128 (ze o1.1 ++ [(⟨3, o1.2.getD 63 0, 0⟩ : Gt)]) (wrW 128 (ze o1.1)) o1.2 i).1) sy), (some b68, .cells (cel EI ((padW ((reS 128 (ze o1.1 ++ [(⟨3, o1.2.getD 63 0, 0⟩ : Gt)]) (wrW 128 (ze o1.1)) o1.2 i).2)).set 63 (wrW 128 o1.1))).toArray 153 (0, 0)), (some b11, .cells (cel EI (padX o1.2)).toArray 154 (0, 0)), (some b1, .cells #[i64 ((0 : Int)), .slice none 0 0, .slice none 0 0] 70 (0, 0))]) rfl
   clear H121
   rw [padW_last (hre.2.trans hj)] at H121'
   have hrl : ((reS 128 (ze o1.1 ++ [(⟨3, o1.2.getD 63 0, 0⟩ : Gt)]) (wrW 128 (ze o1.1)) o1.2 i).2 ++ [wrW 128 o1.1]).length = 64 := by rw [List.length_append, hre.2, hj]; rfl
   refine wnil ?_
   refine blockNormal ?_
   refine thenNormal ?_
   refine sR ?_
   refine sM (pT b5) rfl ?_
   refine sq (r_sliceA0 arr153 (b := b68) (off := 0) rfl (bLe rfl)) ?_
   refine sq (r_nilCheck rfl) ?_
   refine sq (r_fieldAddr (off' := 0) fld151_0 (by decide) (b := b5) (off := 0) rfl (by omega)) ?_
   refine sq (r_fieldAddr (off' := 2) fld70_2 (by decide) (b := b5) (off := 0) rfl (by omega)) ?_
   refine d_store (k := 0) (v := .slice (some ⟨b68, 0, none⟩) 64 64) (cs' := #[i64 (128 : Nat), .slice (ownA ky) (List.length ((reS 128 (ze o1.1 ++ [(⟨3, o1.2.getD 63 0, 0⟩ : Gt)]) (wrW 128 (ze o1.1)) o1.2 i).1)) cy, .slice (some ⟨b68, 0, none⟩) 64 64]) H121' rfl rfl rfl siz60 (by rfl) (by intro u hu; simp [Value.cells] at hu; first | (subst hu; rfl) | (rcases hu with rfl <;> rfl)) (by exact bLe rfl) (by rfl) ?_
   intro w123 H124 hC125
   have H124' := H124.as (L' := [(some b5, .cells #[i64 (128 : Nat), .slice (ownA ky) (List.length ((reS 128 (ze o1.1 ++ [(⟨3, o1.2.getD 63 0, 0⟩ : Gt)]) (wrW 128 (ze o1.1)) o1.2 i).1)) cy, .slice (some ⟨b68, 0, none⟩) 64 64] 151 (0, 0)), (ky, sob EG 99 ((reS 128 (ze o1.1 ++ [(⟨3, o1.2.getD 63 0, 0⟩ : Gt)]) (wrW 128 (ze o1.1)) o1.2 i).1) sy), (some b68, .cells (cel EI ((reS 128 (ze o1.1 ++ [(⟨3, o1.2.getD 63 0, 0⟩ : Gt)]) (wrW 128 (ze o1.1)) o1.2 i).2 ++ [wrW 128 o1.1])).toArray 153 (0, 0)), (some b11, .cells (cel EI (padX o1.2)).toArray 154 (0, 0)), (some b1, .cells #[i64 ((0 : Int)), .slice none 0 0, .slice none 0 0] 70 (0, 0))]) rfl
   clear H124
   refine wend ?_
   refine sR ?_
   refine sM (pT b5) rfl ?_
   refine sq (r_nilCheck rfl) ?_
   refine sq (r_fieldAddr (off' := 0) fld151_0 (by decide) (b := b5) (off := 0) rfl (by omega)) ?_
   refine sq (r_loadA (cs' := #[i64 (128 : Nat), .slice (ownA ky) (List.length ((reS 128 (ze o1.1 ++ [(⟨3, o1.2.getD 63 0, 0⟩ : Gt)]) (wrW 128 (ze o1.1)) o1.2 i).1)) cy, .slice (some ⟨b68, 0, none⟩) 64 64]) agg70 siz70 (H124'.get (k := 0) rfl) (off := 0) rfl (by exact bLe rfl) (by rfl)) ?_
   refine d_store (k := 4) (v := .agg #[i64 (128 : Nat), .slice (ownA ky) (List.length ((reS 128 (ze o1.1 ++ [(⟨3, o1.2.getD 63 0, 0⟩ : Gt)]) (wrW 128 (ze o1.1)) o1.2 i).1)) cy, .slice (some ⟨b68, 0, none⟩) 64 64]) (cs' := #[i64 (128 : Nat), .slice (ownA ky) (List.length ((reS 128 (ze o1.1 ++ [(⟨3, o1.2.getD 63 0, 0⟩ : Gt)]) (wrW 128 (ze o1.1)) o1.2 i).1)) cy, .slice (some ⟨b68, 0, none⟩) 64 64]) H124' rfl rfl rfl siz70 (by rfl) (by intro u hu; simp [Value.cells] at hu; first | (subst hu; rfl) | (rcases hu with rfl | rfl | rfl <;> rfl)) (by exact bLe rfl) (by rfl) ?_
   intro w126 H127 hC128
   have H127' := H127.as (L' := [(some b5, .cells #[i64 (128 : Nat), .slice (ownA ky) (List.length ((reS 128 (ze o1.1 ++ [(⟨3, o1.2.getD 63 0, 0⟩ : Gt)]) (wrW 128 (ze o1.1)) o1.2 i).1)) cy, .slice (some ⟨b68, 0, none⟩) 64 64] 151 (0, 0)), (ky, sob EG 99 ((reS 128 (ze o1.1 ++ [(⟨3, o1.2.getD 63 0, 0⟩ : Gt)]) (wrW 128 (ze o1.1)) o1.2 i).1) sy), (some b68, .cells (cel EI ((reS 128 (ze o1.1 ++ [(⟨3, o1.2.getD 63 0, 0⟩ : Gt)]) (wrW 128 (ze o1.1)) o1.2 i).2 ++ [wrW 128 o1.1])).toArray 153 (0, 0)), (some b11, .cells (cel EI (padX o1.2)).toArray 154 (0, 0)), (some b1, .cells #[i64 (128 : Nat), .slice (ownA ky) (List.length ((reS 128 (ze o1.1 ++ [(⟨3, o1.2.getD 63 0, 0⟩ : Gt)]) (wrW 128 (ze o1.1)) o1.2 i).1)) cy, .slice (some ⟨b68, 0, none⟩) 64 64] 70 (0, 0))]) rfl
   clear H127
   refine sA (.nilIface) rfl ?_
   refine wend ?_
   refine retAny ?_
   refine retG (rs := [.cell 4 70, .tmp 5]) (vs := [.agg #[i64 (128 : Nat), .slice (ownA ky) (List.length ((reS 128 (ze o1.1 ++ [(⟨3, o1.2.getD 63 0, 0⟩ : Gt)]) (wrW 128 (ze o1.1)) o1.2 i).1)) cy, .slice (some ⟨b68, 0, none⟩) 64 64], .nilIface]) rfl ⟨r_loadA (cs' := #[i64 (128 : Nat), .slice (ownA ky) (List.length ((reS 128 (ze o1.1 ++ [(⟨3, o1.2.getD 63 0, 0⟩ : Gt)]) (wrW 128 (ze o1.1)) o1.2 i).1)) cy, .slice (some ⟨b68, 0, none⟩) 64 64]) agg70 siz70 (H127'.get (k := 4) rfl) (off := 0) rfl (by exact bLe rfl) (by rfl), ⟨rfl, rfl⟩, trivial⟩ ?_
   subst hj
   rw [show (mk1 (fbS fm 0)) = _ from mk1_eq _, ← ho1]
   exact ⟨_, rfl, ky, cy, sy, b68, rfl, hSy, (((H127'.dropk 4).dropk 3).dropk 0)⟩
end Go.Proofs.YteofdmdpaejgaaaDoor.Cm
namespace Go.Proofs.YteofdmdpaejgaaaDoor.Cm
open Go Go.Proofs.YteofdmdpaejgaaaDoor.Vc Go.Proofs.YteofdmdpaejgaaaDoor.Er Go.Proofs.YteofdmdpaejgaaaDoor.Circ
set_option linter.unusedVariables false
theorem call77 : callable Tryd.prog 77 = true := by kernel_rfl
theorem call78 : callable Tryd.prog 78 = true := by kernel_rfl
set_option maxHeartbeats 2000000 in
theorem make_k2 (fm : BitVec 64) (hf : fm < 4#64) (w : World) : Calls Tryd.prog 29 [i64 (2 : Int), u64 fm].toArray w (Ret fun v w' => ∃ (key : Option Nat) (c : Nat) (sp : List Value) (b : Nat), v = .tuple #[.agg #[i64 ((256 : Nat) : Int), .slice (ownA key) (mk2 (fbS fm 0) (fbS fm 1)).1.length c, .slice (some ⟨b, 0, none⟩) 64 64], .nilIface] ∧ Sl EG key (mk2 (fbS fm 0) (fbS fm 1)).1 c sp ∧ Hp No w w' [(key, sob EG 99 (mk2 (fbS fm 0) (fbS fm 1)).1 sp), (some b, .cells (cel EI (mk2 (fbS fm 0) (fbS fm 1)).2).toArray 153 (0, 0))]) := by
 have H := Hp.start No w
 refine enter (n := 131) Tryd.func29 rfl rfl (bLe rfl) ?_
 refine sR ?_
 refine q_alloc (o := .cells #[i64 ((0 : Int)), .slice none 0 0, .slice none 0 0] 70 (0, 0)) H zer70 (by kernel_rfl) ?_
 intro b1 w2 hb1 H3 hE4
 refine sA (.nilIface) rfl ?_
 refine wend ?_
 refine sR ?_
 refine sA (i64 ((2 : Int))) rfl ?_
 refine wend ?_
 refine seqAny ?_
 refine sR ?_
 refine sM (i64 ((2 : Int))) rfl ?_
 refine wend ?_
 refine blockAny ?_
 refine seqAny ?_
 refine blockAny ?_
 refine seqAny ?_
 refine blockAny ?_
 refine seqAny ?_
 refine blockAny ?_
 refine seqAny ?_
 refine seqAny ?_
 refine sR ?_
 refine sq ((r_eqlI (a := (2 : Int)) (b := (1 : Int)) rfl rfl).as (v' := .bool (false)) (by rfl)) ?_
 refine sA (.bool (false)) rfl ?_
 refine wend ?_
 refine condFalse rfl ?_
 refine skipAny ?_
 refine thenNormal ?_
 refine seqAny ?_
 refine sR ?_
 refine sq ((r_eqlI (a := (2 : Int)) (b := (2 : Int)) rfl rfl).as (v' := .bool (true)) (by rfl)) ?_
 refine sA (.bool (true)) rfl ?_
 refine wend ?_
 refine condTrue rfl ?_
 refine skipAny ?_
 refine thenNormal ?_
 refine condTrue rfl ?_
 refine exitAny ?_
 refine thenExit ?_
 refine blockOut rfl ?_
 refine thenExit ?_
 refine blockHere ?_
 refine thenNormal ?_
 refine sR ?_
 refine sM (u64 (fm)) rfl ?_
 refine sM (i64 ((2 : Int))) rfl ?_
 refine sq (r_shl64 (a := 1#64) (c := 2) rfl rfl) ?_
 refine sq ((r_lss64 (a := fm) (b := (1#64) <<< (2 : Nat)) rfl rfl).as (v' := .bool (true)) (by exact congrArg Value.bool (decide_eq_true hf))) ?_
 refine wend ?_
 refine condTrue rfl ?_
 refine exitAny ?_
 refine blockOut rfl ?_
 refine thenExit ?_
 refine blockHere ?_
 refine thenNormal ?_
 refine sR ?_
 refine sM (i64 ((2 : Int))) rfl ?_
 refine sq ((r_mulI (a := (128 : Int)) (b := (2 : Int)) rfl rfl (by omega)).as (v' := i64 (256 : Nat)) (by rfl)) ?_
 refine sq (r_build (cs' := #[i64 (256 : Nat), .slice none 0 0, .slice none 0 0]) (ps := [(0, i64 (256 : Nat))]) zer70 pls70 rfl (by rfl)) ?_
 refine sq (r_build (cs' := #[i64 (256 : Nat), .slice none 0 0, .slice none 0 0]) (ps := [(0, .agg #[i64 (256 : Nat), .slice none 0 0, .slice none 0 0])]) zer151 pls151 rfl (by rfl)) ?_
 refine q_box (v := .agg #[i64 (256 : Nat), .slice none 0 0, .slice none 0 0]) (o := .cells #[i64 (256 : Nat), .slice none 0 0, .slice none 0 0] 151 (0, 0)) H3 rfl (by rfl) ?_
 intro b5 w6 hb5 H7 hE8
 refine sA (pT b5) rfl ?_
 have H9 := H7.nil (sob EG 99 [] [])
 have H10 := H9.as (L' := [(none, sob EG 99 ([]) ([])), (some b5, .cells #[i64 (256 : Nat), .slice (ownA none) (List.length ([] : List Gt)) 0, .slice none 0 0] 151 (0, 0)), (some b1, .cells #[i64 ((0 : Int)), .slice none 0 0, .slice none 0 0] 70 (0, 0))]) rfl
 refine wend ?_
 refine sR ?_
 refine q_alloc (o := .cells (cel EI (List.replicate 128 0)).toArray 154 (0, 0)) H10 zer154 (by kernel_rfl) ?_
 intro b11 w12 hb11 H13 hE14
 rw [padX_nil] at H13
 refine wend ?_
 refine seqAny ?_
 refine sR ?_
 refine sM (i64 ((2 : Int))) rfl ?_
 refine sM (i64 ((0 : Int))) rfl ?_
 refine wend ?_
 refine blockAny ?_
 refine loopAny (σ := Nat × Option Nat × Nat × List Value) (fun (i, kz, cz, sz) => [(0, i64 ((2 : Int))), (1, u64 (fm)), (4, pT b1), (7, pT b5), (8, pT b11), (36, i64 ((2 : Int))), (37, i64 (i : Nat))]) (fun (i, kz, cz, sz) w' => (i ≤ 2 ∧ Sl EG kz (opsS 256 fm i).1 cz sz) ∧ Hp No w w' [(some b5, .cells #[i64 (256 : Nat), .slice (ownA kz) (List.length ((opsS 256 fm i).1)) cz, .slice none 0 0] 151 (0, 0)), (kz, sob EG 99 ((opsS 256 fm i).1) sz), (some b11, .cells (cel EI (padX ((opsS 256 fm i).2))).toArray 154 (0, 0)), (some b1, .cells #[i64 ((0 : Int)), .slice none 0 0, .slice none 0 0] 70 (0, 0))]) (fun (i, kz, cz, sz) => 2 - i) ((0, none, 0, [])) ?_ ?_ ?_
 ·exact ⟨rfl, rfl, rfl, rfl, rfl, rfl, rfl, trivial⟩
 ·exact ⟨⟨by omega, Sl.none⟩, (H13.pick 4 [2, 1, 0, 3] (by decide) (by decide))⟩
 rintro ⟨i, kz, cz, sz⟩ ρ w15 ⟨⟨hq, hSz⟩, HL⟩
 have hol := opsS_len 256 fm i
 have hi1 := inW_len (64 * (2 * i)) 64
 have hi2 := inW_len (64 * (2 * i + 1)) 64
 have hpx : (padX (opsS 256 fm i).2).length = 128 := padX_len (by rw [hol.2]; omega)
 refine sR ?_
 refine sq (r_lssI (a := (i : Nat)) (b := (2 : Int)) rfl rfl) ?_
 refine wend ?_
 refine seqAny ?_
 refine condProp (((i : Nat) : Int) < (2 : Int)) rfl (fun c38 => ?_) (fun c38 => ?_)
 ·skip
  refine skipAny ?_
  refine thenNormal ?_
  refine seqAny ?_
  refine blockAny ?_
  refine sR ?_
  refine sM (i64 (i : Nat)) rfl ?_
  refine sA (i64 (i : Nat)) rfl ?_
  refine wend ?_
  refine sR ?_
  refine sM (pT b5) rfl ?_
  refine sM (i64 (i : Nat)) rfl ?_
  refine sq ((r_mulI (a := (2 : Int)) (b := (i : Nat)) rfl rfl (by omega)).as (v' := i64 (((2 * i) : Nat))) (by exact congrArg i64 (by omega))) ?_
  refine c_call (vs := [pT b5, i64 (((2 * i) : Nat))]) call73 rfl (input_ok b5 (2 * i) (by omega) w15) ?_
  rintro _ w17 ⟨rfl, hE18⟩
  have H19 := HL.ext hE18
  refine sM (pT b5) rfl ?_
  refine sM (i64 (i : Nat)) rfl ?_
  refine sq ((r_mulI (a := (2 : Int)) (b := (i : Nat)) rfl rfl (by omega)).as (v' := i64 (((2 * i) : Nat))) (by exact congrArg i64 (by omega))) ?_
  refine sq ((r_addI (a := ((2 * i) : Nat)) (b := (1 : Int)) rfl rfl (by omega)).as (v' := i64 (((2 * i + 1) : Nat))) (by exact congrArg i64 (by omega))) ?_
  refine c_call (vs := [pT b5, i64 (((2 * i + 1) : Nat))]) call73 rfl (input_ok b5 (2 * i + 1) (by omega) w17) ?_
  rintro _ w20 ⟨rfl, hE21⟩
  have H22 := H19.ext hE21
  refine q_alloc (o := .cells (cel EI (List.replicate 64 0)).toArray 153 (0, 0)) H22 zer153 (by kernel_rfl) ?_
  intro b23 w24 hb23 H25 hE26
  refine q_alloc (o := .cells (cel EI (List.replicate 64 0)).toArray 153 (0, 0)) H25 zer153 (by kernel_rfl) ?_
  intro b27 w28 hb27 H29 hE30
  refine d_store (k := 1) (v := .agg (cel EI (inW (64 * (2 * i)) 64)).toArray) (cs' := (cel EI (inW (64 * (2 * i)) 64)).toArray) H29 rfl rfl rfl siz153 (by exact celSize (by rw [hi1]; rfl)) (by exact celOne _) (by rw [List.size_toArray, cel_length]; show _ ≤ _ * 1; first | omega | (simp only [List.length_set]; omega) | exact bLe rfl | (simp <;> omega)) (by exact putAll (by rw [List.length_replicate]; exact hi1.symm)) ?_
  intro w31 H32 hC33
  have H32' := H32.as (L' := [(some b27, .cells (cel EI (List.replicate 64 0)).toArray 153 (0, 0)), (some b23, .cells (cel EI (inW (64 * (2 * i)) 64)).toArray 153 (0, 0)), (some b5, .cells #[i64 (256 : Nat), .slice (ownA kz) (List.length ((opsS 256 fm i).1)) cz, .slice none 0 0] 151 (0, 0)), (kz, sob EG 99 ((opsS 256 fm i).1) sz), (some b11, .cells (cel EI (padX ((opsS 256 fm i).2))).toArray 154 (0, 0)), (some b1, .cells #[i64 ((0 : Int)), .slice none 0 0, .slice none 0 0] 70 (0, 0))]) rfl
  clear H32
  refine d_store (k := 0) (v := .agg (cel EI (inW (64 * (2 * i + 1)) 64)).toArray) (cs' := (cel EI (inW (64 * (2 * i + 1)) 64)).toArray) H32' rfl rfl rfl siz153 (by exact celSize (by rw [hi2]; rfl)) (by exact celOne _) (by rw [List.size_toArray, cel_length]; show _ ≤ _ * 1; first | omega | (simp only [List.length_set]; omega) | exact bLe rfl | (simp <;> omega)) (by exact putAll (by rw [List.length_replicate]; exact hi2.symm)) ?_
  intro w34 H35 hC36
  have H35' := H35.as (L' := [(some b27, .cells (cel EI (inW (64 * (2 * i + 1)) 64)).toArray 153 (0, 0)), (some b23, .cells (cel EI (inW (64 * (2 * i)) 64)).toArray 153 (0, 0)), (some b5, .cells #[i64 (256 : Nat), .slice (ownA kz) (List.length ((opsS 256 fm i).1)) cz, .slice none 0 0] 151 (0, 0)), (kz, sob EG 99 ((opsS 256 fm i).1) sz), (some b11, .cells (cel EI (padX ((opsS 256 fm i).2))).toArray 154 (0, 0)), (some b1, .cells #[i64 ((0 : Int)), .slice none 0 0, .slice none 0 0] 70 (0, 0))]) rfl
  clear H35
  refine wend ?_
  refine sR ?_
  refine sM (u64 (fm)) rfl ?_
  refine sM (i64 (i : Nat)) rfl ?_
  refine sq (r_shr64 (a := fm) (c := i) rfl rfl) ?_
  refine sq (r_and64 (a := fm >>> (i : Nat)) (b := 1#64) rfl rfl) ?_
  refine sq (r_eql64 (a := (fm >>> (i : Nat)) &&& (1#64)) (b := 1#64) rfl rfl) ?_
  refine wend ?_
  refine condProp (((fm >>> (i : Nat)) &&& (1#64)) = (1#64)) rfl (fun c53 => ?_) (fun c53 => ?_)
  ·skip
   refine oneRegion ?_
   refine sM (i64 (i : Nat)) rfl ?_
   refine sM (pT b5) rfl ?_
   refine sq (r_loadA (cs' := (cel EI (inW (64 * (2 * i)) 64)).toArray) agg153 siz153 (H35'.get (k := 1) rfl) (off := 0) rfl (by rw [List.size_toArray, cel_length]; show _ ≤ _ * 1; omega) (by exact ext_all (by rw [cel_length]; show _ * 1 = _; omega))) ?_
   refine sq (r_loadA (cs' := (cel EI (inW (64 * (2 * i + 1)) 64)).toArray) agg153 siz153 (H35'.get (k := 0) rfl) (off := 0) rfl (by rw [List.size_toArray, cel_length]; show _ ≤ _ * 1; omega) (by exact ext_all (by rw [cel_length]; show _ * 1 = _; omega))) ?_
   have H37 := ((H35'.pick 6 [2, 3, 0, 1, 4, 5] (by decide) (by decide))).as (L' := ((some b5, .cells #[i64 (256 : Nat), .slice (ownA kz) (List.length ((opsS 256 fm i).1)) cz, .slice none 0 0] 151 (0, 0)) :: (kz, sob EG 99 ((opsS 256 fm i).1) sz) :: [(some b27, .cells (cel EI (inW (64 * (2 * i + 1)) 64)).toArray 153 (0, 0)), (some b23, .cells (cel EI (inW (64 * (2 * i)) 64)).toArray 153 (0, 0)), (some b11, .cells (cel EI (padX ((opsS 256 fm i).2))).toArray 154 (0, 0)), (some b1, .cells #[i64 ((0 : Int)), .slice none 0 0, .slice none 0 0] 70 (0, 0))])) rfl
   refine c_call (vs := [pT b5, .agg (cel EI (inW (64 * (2 * i)) 64)).toArray, .agg (cel EI (inW (64 * (2 * i + 1)) 64)).toArray]) call74 rfl (mxor_ok b5 256 kz cz sz ((opsS 256 fm i).1) hSz (by omega) (by omega) (inW (64 * (2 * i)) 64) (inW (64 * (2 * i + 1)) 64) (by omega) (by omega) [(some b27, .cells (cel EI (inW (64 * (2 * i + 1)) 64)).toArray 153 (0, 0)), (some b23, .cells (cel EI (inW (64 * (2 * i)) 64)).toArray 153 (0, 0)), (some b11, .cells (cel EI (padX ((opsS 256 fm i).2))).toArray 154 (0, 0)), (some b1, .cells #[i64 ((0 : Int)), .slice none 0 0, .slice none 0 0] 70 (0, 0))] w w34 H37) ?_
   rintro _ w38 ⟨rfl, key40, c41, sp42, hS43, HN44⟩
   have H45 := HN44.as (L' := [(some b5, .cells #[i64 (256 : Nat), .slice (ownA key40) (List.length ((xoS 256 ((opsS 256 fm i).1) (inW (64 * (2 * i)) 64) (inW (64 * (2 * i + 1)) 64) 64).1)) c41, .slice none 0 0] 151 (0, 0)), (key40, sob EG 99 ((xoS 256 ((opsS 256 fm i).1) (inW (64 * (2 * i)) 64) (inW (64 * (2 * i + 1)) 64) 64).1) sp42), (some b27, .cells (cel EI (inW (64 * (2 * i + 1)) 64)).toArray 153 (0, 0)), (some b23, .cells (cel EI (inW (64 * (2 * i)) 64)).toArray 153 (0, 0)), (some b11, .cells (cel EI (padX ((opsS 256 fm i).2))).toArray 154 (0, 0)), (some b1, .cells #[i64 ((0 : Int)), .slice none 0 0, .slice none 0 0] 70 (0, 0))]) rfl
   have hnr : (xoS 256 ((opsS 256 fm i).1) (inW (64 * (2 * i)) 64) (inW (64 * (2 * i + 1)) 64) 64).2.length = 64 := (xoS_len 256 ((opsS 256 fm i).1) (inW (64 * (2 * i)) 64) (inW (64 * (2 * i + 1)) 64) 64).2
   refine sq (r_indexA (off' := i * 64) (j := i) arr154 (b := b11) (off := 0) rfl rfl (by first | rfl | omega | (simp; omega)) (by omega) (by omega)) ?_
   refine d_store (k := 4) (v := .agg (cel EI ((xoS 256 ((opsS 256 fm i).1) (inW (64 * (2 * i)) 64) (inW (64 * (2 * i + 1)) 64) 64).2)).toArray) (cs' := (cel EI (padX ((opsS 256 fm i).2 ++ (xoS 256 ((opsS 256 fm i).1) (inW (64 * (2 * i)) 64) (inW (64 * (2 * i + 1)) 64) 64).2))).toArray) H45 rfl rfl rfl siz153 (by exact celSize (by rw [hnr]; rfl)) (by exact celOne _) (by rw [List.size_toArray, cel_length, padX_len (by rw [hol.2]; omega)]; show _ ≤ _ * 1; omega) (by exact padX_put (by rw [hol.2]; omega) (by rw [hol.2]; omega) (by first | exact hnr)) ?_
   intro w46 H47 hC48
   have H47' := H47.as (L' := [(some b5, .cells #[i64 (256 : Nat), .slice (ownA key40) (List.length ((xoS 256 ((opsS 256 fm i).1) (inW (64 * (2 * i)) 64) (inW (64 * (2 * i + 1)) 64) 64).1)) c41, .slice none 0 0] 151 (0, 0)), (key40, sob EG 99 ((xoS 256 ((opsS 256 fm i).1) (inW (64 * (2 * i)) 64) (inW (64 * (2 * i + 1)) 64) 64).1) sp42), (some b27, .cells (cel EI (inW (64 * (2 * i + 1)) 64)).toArray 153 (0, 0)), (some b23, .cells (cel EI (inW (64 * (2 * i)) 64)).toArray 153 (0, 0)), (some b11, .cells (cel EI (padX ((opsS 256 fm i).2 ++ (xoS 256 ((opsS 256 fm i).1) (inW (64 * (2 * i)) 64) (inW (64 * (2 * i + 1)) 64) 64).2))).toArray 154 (0, 0)), (some b1, .cells #[i64 ((0 : Int)), .slice none 0 0, .slice none 0 0] 70 (0, 0))]) rfl
   clear H47
   refine wnil ?_
   refine blockNormal ?_
   refine thenNormal ?_
   refine oneRegion ?_
   refine sq (r_addI (a := (i : Nat)) (b := (1 : Int)) rfl rfl (by omega)) ?_
   refine sM (i64 ((i : Nat) + (1 : Int))) rfl ?_
   refine wnil ?_
   refine thenNormal ?_
   have e49 : (xoS 256 ((opsS 256 fm i).1) (inW (64 * (2 * i)) 64) (inW (64 * (2 * i + 1)) 64) 64).1 = (opsS 256 fm (i + 1)).1 := by rw [opsS, opS_t c53]
   have hS50 := hS43
   rw [e49] at hS50
   have H51 : Hp No w w46 [(some b5, .cells #[i64 (256 : Nat), .slice (ownA key40) (List.length ((opsS 256 fm (i + 1)).1)) c41, .slice none 0 0] 151 (0, 0)), (key40, sob EG 99 ((opsS 256 fm (i + 1)).1) sp42), (some b27, .cells (cel EI (inW (64 * (2 * i + 1)) 64)).toArray 153 (0, 0)), (some b23, .cells (cel EI (inW (64 * (2 * i)) 64)).toArray 153 (0, 0)), (some b11, .cells (cel EI (padX ((opsS 256 fm i).2 ++ (xoS 256 ((opsS 256 fm i).1) (inW (64 * (2 * i)) 64) (inW (64 * (2 * i + 1)) 64) 64).2))).toArray 154 (0, 0)), (some b1, .cells #[i64 ((0 : Int)), .slice none 0 0, .slice none 0 0] 70 (0, 0))] := by rw [← e49]; exact H47'
   rw [show (opsS 256 fm i).2 ++ (xoS 256 ((opsS 256 fm i).1) (inW (64 * (2 * i)) 64) (inW (64 * (2 * i + 1)) 64) 64).2 = (opsS 256 fm (i + 1)).2 from by rw [opsS, opS_t c53]] at H51
   exact ⟨(i + 1, key40, c41, sp42), _, rfl, ⟨rfl, rfl, rfl, rfl, rfl, rfl, rfl, trivial⟩, ⟨⟨by omega, hS50⟩, ((H51.dropk 3).dropk 2)⟩, by show 2 - (i + 1) < 2 - i; omega⟩
  ·skip
   refine oneRegion ?_
   refine sM (i64 (i : Nat)) rfl ?_
   refine sM (pT b5) rfl ?_
   refine sq (r_loadA (cs' := (cel EI (inW (64 * (2 * i)) 64)).toArray) agg153 siz153 (H35'.get (k := 1) rfl) (off := 0) rfl (by rw [List.size_toArray, cel_length]; show _ ≤ _ * 1; omega) (by exact ext_all (by rw [cel_length]; show _ * 1 = _; omega))) ?_
   refine sq (r_loadA (cs' := (cel EI (inW (64 * (2 * i + 1)) 64)).toArray) agg153 siz153 (H35'.get (k := 0) rfl) (off := 0) rfl (by rw [List.size_toArray, cel_length]; show _ ≤ _ * 1; omega) (by exact ext_all (by rw [cel_length]; show _ * 1 = _; omega))) ?_
   have H52 := ((H35'.pick 6 [2, 3, 0, 1, 4, 5] (by decide) (by decide))).as (L' := ((some b5, .cells #[i64 (256 : Nat), .slice (ownA kz) (List.length ((opsS 256 fm i).1)) cz, .slice none 0 0] 151 (0, 0)) :: (kz, sob EG 99 ((opsS 256 fm i).1) sz) :: [(some b27, .cells (cel EI (inW (64 * (2 * i + 1)) 64)).toArray 153 (0, 0)), (some b23, .cells (cel EI (inW (64 * (2 * i)) 64)).toArray 153 (0, 0)), (some b11, .cells (cel EI (padX ((opsS 256 fm i).2))).toArray 154 (0, 0)), (some b1, .cells #[i64 ((0 : Int)), .slice none 0 0, .slice none 0 0] 70 (0, 0))])) rfl
   refine c_call (vs := [pT b5, .agg (cel EI (inW (64 * (2 * i)) 64)).toArray, .agg (cel EI (inW (64 * (2 * i + 1)) 64)).toArray]) call75 rfl (madd_ok b5 256 kz cz sz ((opsS 256 fm i).1) hSz (by omega) (by omega) (inW (64 * (2 * i)) 64) (inW (64 * (2 * i + 1)) 64) (by omega) (by omega) [(some b27, .cells (cel EI (inW (64 * (2 * i + 1)) 64)).toArray 153 (0, 0)), (some b23, .cells (cel EI (inW (64 * (2 * i)) 64)).toArray 153 (0, 0)), (some b11, .cells (cel EI (padX ((opsS 256 fm i).2))).toArray 154 (0, 0)), (some b1, .cells #[i64 ((0 : Int)), .slice none 0 0, .slice none 0 0] 70 (0, 0))] w w34 H52) ?_
   rintro _ w53 ⟨rfl, key55, c56, sp57, hS58, HN59⟩
   have H60 := HN59.as (L' := [(some b5, .cells #[i64 (256 : Nat), .slice (ownA key55) (List.length ((adS 256 ((opsS 256 fm i).1) (inW (64 * (2 * i)) 64) (inW (64 * (2 * i + 1)) 64) 63).1)) c56, .slice none 0 0] 151 (0, 0)), (key55, sob EG 99 ((adS 256 ((opsS 256 fm i).1) (inW (64 * (2 * i)) 64) (inW (64 * (2 * i + 1)) 64) 63).1) sp57), (some b27, .cells (cel EI (inW (64 * (2 * i + 1)) 64)).toArray 153 (0, 0)), (some b23, .cells (cel EI (inW (64 * (2 * i)) 64)).toArray 153 (0, 0)), (some b11, .cells (cel EI (padX ((opsS 256 fm i).2))).toArray 154 (0, 0)), (some b1, .cells #[i64 ((0 : Int)), .slice none 0 0, .slice none 0 0] 70 (0, 0))]) rfl
   have hnr : (adS 256 ((opsS 256 fm i).1) (inW (64 * (2 * i)) 64) (inW (64 * (2 * i + 1)) 64) 63).2.1.length = 64 := (adS_len 256 ((opsS 256 fm i).1) (inW (64 * (2 * i)) 64) (inW (64 * (2 * i + 1)) 64) 63).2
   refine sq (r_indexA (off' := i * 64) (j := i) arr154 (b := b11) (off := 0) rfl rfl (by first | rfl | omega | (simp; omega)) (by omega) (by omega)) ?_
   refine d_store (k := 4) (v := .agg (cel EI ((adS 256 ((opsS 256 fm i).1) (inW (64 * (2 * i)) 64) (inW (64 * (2 * i + 1)) 64) 63).2.1)).toArray) (cs' := (cel EI (padX ((opsS 256 fm i).2 ++ (adS 256 ((opsS 256 fm i).1) (inW (64 * (2 * i)) 64) (inW (64 * (2 * i + 1)) 64) 63).2.1))).toArray) H60 rfl rfl rfl siz153 (by exact celSize (by rw [hnr]; rfl)) (by exact celOne _) (by rw [List.size_toArray, cel_length, padX_len (by rw [hol.2]; omega)]; show _ ≤ _ * 1; omega) (by exact padX_put (by rw [hol.2]; omega) (by rw [hol.2]; omega) (by first | exact hnr)) ?_
   intro w61 H62 hC63
   have H62' := H62.as (L' := [(some b5, .cells #[i64 (256 : Nat), .slice (ownA key55) (List.length ((adS 256 ((opsS 256 fm i).1) (inW (64 * (2 * i)) 64) (inW (64 * (2 * i + 1)) 64) 63).1)) c56, .slice none 0 0] 151 (0, 0)), (key55, sob EG 99 ((adS 256 ((opsS 256 fm i).1) (inW (64 * (2 * i)) 64) (inW (64 * (2 * i + 1)) 64) 63).1) sp57), (some b27, .cells (cel EI (inW (64 * (2 * i + 1)) 64)).toArray 153 (0, 0)), (some b23, .cells (cel EI (inW (64 * (2 * i)) 64)).toArray 153 (0, 0)), (some b11, .cells (cel EI (padX ((opsS 256 fm i).2 ++ (adS 256 ((opsS 256 fm i).1) (inW (64 * (2 * i)) 64) (inW (64 * (2 * i + 1)) 64) 63).2.1))).toArray 154 (0, 0)), (some b1, .cells #[i64 ((0 : Int)), .slice none 0 0, .slice none 0 0] 70 (0, 0))]) rfl
   clear H62
   refine wnil ?_
   refine blockNormal ?_
   refine thenNormal ?_
   refine oneRegion ?_
   refine sq (r_addI (a := (i : Nat)) (b := (1 : Int)) rfl rfl (by omega)) ?_
   refine sM (i64 ((i : Nat) + (1 : Int))) rfl ?_
   refine wnil ?_
   refine thenNormal ?_
   have e64 : (adS 256 ((opsS 256 fm i).1) (inW (64 * (2 * i)) 64) (inW (64 * (2 * i + 1)) 64) 63).1 = (opsS 256 fm (i + 1)).1 := by rw [opsS, opS_f c53]
   have hS65 := hS58
   rw [e64] at hS65
   have H66 : Hp No w w61 [(some b5, .cells #[i64 (256 : Nat), .slice (ownA key55) (List.length ((opsS 256 fm (i + 1)).1)) c56, .slice none 0 0] 151 (0, 0)), (key55, sob EG 99 ((opsS 256 fm (i + 1)).1) sp57), (some b27, .cells (cel EI (inW (64 * (2 * i + 1)) 64)).toArray 153 (0, 0)), (some b23, .cells (cel EI (inW (64 * (2 * i)) 64)).toArray 153 (0, 0)), (some b11, .cells (cel EI (padX ((opsS 256 fm i).2 ++ (adS 256 ((opsS 256 fm i).1) (inW (64 * (2 * i)) 64) (inW (64 * (2 * i + 1)) 64) 63).2.1))).toArray 154 (0, 0)), (some b1, .cells #[i64 ((0 : Int)), .slice none 0 0, .slice none 0 0] 70 (0, 0))] := by rw [← e64]; exact H62'
   rw [show (opsS 256 fm i).2 ++ (adS 256 ((opsS 256 fm i).1) (inW (64 * (2 * i)) 64) (inW (64 * (2 * i + 1)) 64) 63).2.1 = (opsS 256 fm (i + 1)).2 from by rw [opsS, opS_f c53]] at H66
   exact ⟨(i + 1, key55, c56, sp57), _, rfl, ⟨rfl, rfl, rfl, rfl, rfl, rfl, rfl, trivial⟩, ⟨⟨by omega, hS65⟩, ((H66.dropk 3).dropk 2)⟩, by show 2 - (i + 1) < 2 - i; omega⟩
 ·skip
  have hie : i = 2 := by omega
  rw [hie, opsS_two] at HL hSz hol
  obtain ⟨o1, ho1⟩ : ∃ q, q = opS 256 [] 0 64 (fbS fm 0) := ⟨_, rfl⟩
  rw [← ho1] at HL hSz hol
  have hl1 := opS_len 256 [] 0 64 (fbS fm 0)
  rw [← ho1] at hl1
  obtain ⟨o2, ho2⟩ : ∃ q, q = opS 256 o1.1 128 192 (fbS fm 1) := ⟨_, rfl⟩
  rw [← ho2] at HL hSz hol
  have hl2 := opS_len 256 o1.1 128 192 (fbS fm 1)
  rw [← ho2] at hl2
  rw [padX_full (by rw [List.length_append]; omega)] at HL
  simp only [List.length_nil] at hl1
  dsimp only at HL hSz
  have H67 := HL.as (L' := [(some b5, .cells #[i64 (256 : Nat), .slice (ownA kz) (List.length o2.1) cz, .slice none 0 0] 151 (0, 0)), (kz, sob EG 99 o2.1 sz), (some b11, .cells (cel EI (o1.2 ++ o2.2)).toArray 154 (0, 0)), (some b1, .cells #[i64 ((0 : Int)), .slice none 0 0, .slice none 0 0] 70 (0, 0))]) rfl
  have hpx : (o1.2 ++ o2.2).length = 128 := by rw [List.length_append]; omega
  refine exitAny ?_
  refine thenExit ?_
  refine thenExit ?_
  refine blockHere ?_
  refine thenNormal ?_
  refine sR ?_
  refine q_alloc (o := .cells (cel EI (List.replicate 64 0)).toArray 153 (0, 0)) H67 zer153 (by kernel_rfl) ?_
  intro b68 w69 hb68 H70 hE71
  refine wend ?_
  refine seqAny ?_
  refine sR ?_
  refine sM (pT b5) rfl ?_
  have H72 := ((H70.pick 5 [1, 2, 0, 3, 4] (by decide) (by decide))).as (L' := ((some b5, .cells #[i64 (256 : Nat), .slice (ownA kz) (List.length o2.1) cz, .slice none 0 0] 151 (0, 0)) :: (kz, sob EG 99 o2.1 sz) :: [(some b68, .cells (cel EI (List.replicate 64 0)).toArray 153 (0, 0)), (some b11, .cells (cel EI (o1.2 ++ o2.2)).toArray 154 (0, 0)), (some b1, .cells #[i64 ((0 : Int)), .slice none 0 0, .slice none 0 0] 70 (0, 0))])) rfl
  refine c_call (vs := [pT b5, i64 ((1 : Int)), i64 ((0 : Int)), i64 ((0 : Int))]) call76 rfl (gate_ok b5 256 kz cz sz o2.1 hSz (by omega) (by omega) (1 : Int) (0 : Int) (0 : Int) [(some b68, .cells (cel EI (List.replicate 64 0)).toArray 153 (0, 0)), (some b11, .cells (cel EI (o1.2 ++ o2.2)).toArray 154 (0, 0)), (some b1, .cells #[i64 ((0 : Int)), .slice none 0 0, .slice none 0 0] 70 (0, 0))] w w69 H72) ?_
  rintro wv81 w73 ⟨hwv82, key75, c76, sp77, hS78, HN79⟩
  obtain ⟨wx83, hwx83⟩ : ∃ q, q = wrW 256 o2.1 := ⟨_, rfl⟩
  rw [← hwx83] at hwv82
  subst hwv82
  have H80 := HN79.as (L' := [(some b5, .cells #[i64 (256 : Nat), .slice (ownA key75) (List.length (o2.1 ++ [(⟨(1 : Int), (0 : Int), (0 : Int)⟩ : Gt)])) c76, .slice none 0 0] 151 (0, 0)), (key75, sob EG 99 (o2.1 ++ [(⟨(1 : Int), (0 : Int), (0 : Int)⟩ : Gt)]) sp77), (some b68, .cells (cel EI (List.replicate 64 0)).toArray 153 (0, 0)), (some b11, .cells (cel EI (o1.2 ++ o2.2)).toArray 154 (0, 0)), (some b1, .cells #[i64 ((0 : Int)), .slice none 0 0, .slice none 0 0] 70 (0, 0))]) rfl
  refine sA (i64 (wx83)) rfl ?_
  subst hwx83
  have e84 : o2.1 ++ [(⟨(1 : Int), (0 : Int), (0 : Int)⟩ : Gt)] = ze o2.1 := by rfl
  have hS85 := hS78
  rw [e84] at hS85
  have H86 : Hp No w w73 [(some b5, .cells #[i64 (256 : Nat), .slice (ownA key75) (List.length (ze o2.1)) c76, .slice none 0 0] 151 (0, 0)), (key75, sob EG 99 (ze o2.1) sp77), (some b68, .cells (cel EI (List.replicate 64 0)).toArray 153 (0, 0)), (some b11, .cells (cel EI (o1.2 ++ o2.2)).toArray 154 (0, 0)), (some b1, .cells #[i64 ((0 : Int)), .slice none 0 0, .slice none 0 0] 70 (0, 0))] := by rw [← e84]; exact H80
  have hzl : (ze o2.1).length = o2.1.length + 1 := by simp [ze]
  refine wend ?_
  refine sR ?_
  refine sM (i64 ((2 : Int))) rfl ?_
  refine wend ?_
  refine blockAny ?_
  refine sR ?_
  refine sq ((r_eqlI (a := (2 : Int)) (b := (1 : Int)) rfl rfl).as (v' := .bool (false)) (by rfl)) ?_
  refine sA (.bool (false)) rfl ?_
  refine wend ?_
  refine condFalse rfl ?_
  refine sR ?_
  refine sq ((r_eqlI (a := (2 : Int)) (b := (2 : Int)) rfl rfl).as (v' := .bool (true)) (by rfl)) ?_
  refine sA (.bool (true)) rfl ?_
  refine wend ?_
  refine condTrue rfl ?_
  refine seqAny ?_
  refine sR ?_
  refine sM (i64 ((0 : Int))) rfl ?_
  refine wend ?_
  refine blockAny ?_
  refine loopAny (σ := Nat) (fun i => [(4, pT b1), (7, pT b5), (8, pT b11), (12, pT b68), (13, i64 ((wrW 256 o2.1))), (94, i64 (i : Nat))]) (fun i w' => i ≤ 64 ∧ Hp No w w' [(some b68, .cells (cel EI (padW (List.replicate i (wrW 256 o2.1)))).toArray 153 (0, 0)), (some b5, .cells #[i64 (256 : Nat), .slice (ownA key75) (List.length (ze o2.1)) c76, .slice none 0 0] 151 (0, 0)), (key75, sob EG 99 (ze o2.1) sp77), (some b11, .cells (cel EI (o1.2 ++ o2.2)).toArray 154 (0, 0)), (some b1, .cells #[i64 ((0 : Int)), .slice none 0 0, .slice none 0 0] 70 (0, 0))]) (fun i => 64 - i) (0) ?_ ?_ ?_
  ·exact ⟨rfl, rfl, rfl, rfl, rfl, rfl, trivial⟩
  ·exact ⟨Nat.zero_le _, (H86.pick 5 [2, 0, 1, 3, 4] (by decide) (by decide))⟩
  rintro i ρ w87 ⟨hq2, HL2⟩
  have hpl : (padW (List.replicate i (wrW 256 o2.1))).length = 64 := padW_len (by rw [List.length_replicate]; exact hq2)
  refine sR ?_
  refine sq (r_lssI (a := (i : Nat)) (b := (64 : Int)) rfl rfl) ?_
  refine wend ?_
  refine seqAny ?_
  refine condProp (((i : Nat) : Int) < (64 : Int)) rfl (fun c95 => ?_) (fun c95 => ?_)
  ·skip
   refine skipAny ?_
   refine thenNormal ?_
   refine seqAny ?_
   refine blockAny ?_
   refine sR ?_
   refine sM (i64 (i : Nat)) rfl ?_
   refine sA (i64 (i : Nat)) rfl ?_
   refine wend ?_
   refine oneRegion ?_
   refine sM (i64 (i : Nat)) rfl ?_
   refine sM (i64 ((wrW 256 o2.1))) rfl ?_
   refine sq (r_indexA (off' := i) (j := i) arr153 (b := b68) (off := 0) rfl rfl (by first | rfl | omega | (simp; omega)) (by omega) (by omega)) ?_
   refine d_store (k := 0) (v := i64 ((wrW 256 o2.1))) (cs' := (cel EI ((padW (List.replicate i (wrW 256 o2.1))).set i (wrW 256 o2.1))).toArray) HL2 rfl rfl rfl siz3 (by rfl) (by exact EI.one _) (by rw [List.size_toArray, cel_length]; show _ ≤ _ * 1; first | omega | (simp only [List.length_set]; omega) | exact bLe rfl | (simp <;> omega)) (by exact put1 (E := EI) rfl _ _ _) ?_
   intro w89 H90 hC91
   have H90' := H90.as (L' := [(some b68, .cells (cel EI ((padW (List.replicate i (wrW 256 o2.1))).set i (wrW 256 o2.1))).toArray 153 (0, 0)), (some b5, .cells #[i64 (256 : Nat), .slice (ownA key75) (List.length (ze o2.1)) c76, .slice none 0 0] 151 (0, 0)), (key75, sob EG 99 (ze o2.1) sp77), (some b11, .cells (cel EI (o1.2 ++ o2.2)).toArray 154 (0, 0)), (some b1, .cells #[i64 ((0 : Int)), .slice none 0 0, .slice none 0 0] 70 (0, 0))]) rfl
   clear H90
   refine wnil ?_
   refine blockNormal ?_
   refine thenNormal ?_
   refine oneRegion ?_
   refine sq (r_addI (a := (i : Nat)) (b := (1 : Int)) rfl rfl (by omega)) ?_
   refine sM (i64 ((i : Nat) + (1 : Int))) rfl ?_
   refine wnil ?_
   refine thenNormal ?_
   rw [padW_rep (by omega)] at H90'
   exact ⟨i + 1, _, rfl, ⟨rfl, rfl, rfl, rfl, rfl, rfl, trivial⟩, ⟨by omega, H90'⟩, by show 64 - (i + 1) < 64 - i; omega⟩
  ·skip
   have hj : i = 64 := by omega
   rw [hj, padW_full List.length_replicate] at HL2
   refine exitAny ?_
   refine thenExit ?_
   refine thenExit ?_
   refine blockHere ?_
   refine thenNormal ?_
   refine oneRegion ?_
   refine sM (pT b5) rfl ?_
   refine sq (r_indexA (off' := 0) (j := 0) arr154 (b := b11) (off := 0) rfl rfl (by first | rfl | omega | (simp; omega)) (by omega) (by omega)) ?_
   refine sq ((r_loadA (cs' := (cel EI (((o1.2 ++ o2.2).drop 0).take 64)).toArray) agg153 siz153 (HL2.get (k := 3) rfl) (off := 0) rfl (by rw [List.size_toArray, cel_length]; show _ ≤ _ * 1; omega) (by exact ext_mid _ _ _ rfl)).as (v' := .agg (cel EI o1.2).toArray) (by exact congrArg (fun q => Value.agg (cel EI q).toArray) (first_of hl1.2))) ?_
   refine sq (r_indexA (off' := 64) (j := 1) arr154 (b := b11) (off := 0) rfl rfl (by first | rfl | omega | (simp; omega)) (by omega) (by omega)) ?_
   refine sq ((r_loadA (cs' := (cel EI (((o1.2 ++ o2.2).drop 64).take 64)).toArray) agg153 siz153 (HL2.get (k := 3) rfl) (off := 64) rfl (by rw [List.size_toArray, cel_length]; show _ ≤ _ * 1; omega) (by exact ext_mid _ _ _ rfl)).as (v' := .agg (cel EI o2.2).toArray) (by exact congrArg (fun q => Value.agg (cel EI q).toArray) (second_of hl1.2 hl2.2))) ?_
   have H92 := ((HL2.pick 5 [1, 2, 0, 3, 4] (by decide) (by decide))).as (L' := ((some b5, .cells #[i64 (256 : Nat), .slice (ownA key75) (List.length (ze o2.1)) c76, .slice none 0 0] 151 (0, 0)) :: (key75, sob EG 99 (ze o2.1) sp77) :: [(some b68, .cells (cel EI (List.replicate 64 (wrW 256 o2.1))).toArray 153 (0, 0)), (some b11, .cells (cel EI (o1.2 ++ o2.2)).toArray 154 (0, 0)), (some b1, .cells #[i64 ((0 : Int)), .slice none 0 0, .slice none 0 0] 70 (0, 0))])) rfl
   refine c_call (vs := [pT b5, .agg (cel EI o1.2).toArray, .agg (cel EI o2.2).toArray]) call77 rfl (mless_ok b5 256 key75 c76 sp77 (ze o2.1) hS85 (by omega) (by omega) o1.2 o2.2 (by omega) (by omega) [(some b68, .cells (cel EI (List.replicate 64 (wrW 256 o2.1))).toArray 153 (0, 0)), (some b11, .cells (cel EI (o1.2 ++ o2.2)).toArray 154 (0, 0)), (some b1, .cells #[i64 ((0 : Int)), .slice none 0 0, .slice none 0 0] 70 (0, 0))] w w87 H92) ?_
   rintro wv101 w93 ⟨hwv102, key95, c96, sp97, hS98, HN99⟩
   obtain ⟨wx103, hwx103⟩ : ∃ q, q = (leG 256 (ze o2.1) o1.2 o2.2).2 := ⟨_, rfl⟩
   rw [← hwx103] at hwv102
   subst hwv102
   have H100 := HN99.as (L' := [(some b5, .cells #[i64 (256 : Nat), .slice (ownA key95) (List.length ((leG 256 (ze o2.1) o1.2 o2.2).1)) c96, .slice none 0 0] 151 (0, 0)), (key95, sob EG 99 ((leG 256 (ze o2.1) o1.2 o2.2).1) sp97), (some b68, .cells (cel EI (List.replicate 64 (wrW 256 o2.1))).toArray 153 (0, 0)), (some b11, .cells (cel EI (o1.2 ++ o2.2)).toArray 154 (0, 0)), (some b1, .cells #[i64 ((0 : Int)), .slice none 0 0, .slice none 0 0] 70 (0, 0))]) rfl
   refine sq (r_indexA (off' := 0) (j := 0) arr153 (b := b68) (off := 0) rfl rfl (by first | rfl | omega | (simp; omega)) (by omega) (by omega)) ?_
   refine d_store (k := 2) (v := i64 (wx103)) (cs' := (cel EI ((List.replicate 64 (wrW 256 o2.1)).set 0 wx103)).toArray) H100 rfl rfl rfl siz3 (by rfl) (by exact EI.one _) (by rw [List.size_toArray, cel_length]; show _ ≤ _ * 1; rw [List.length_replicate]; omega) (by exact put1 (E := EI) rfl _ _ _) ?_
   intro w104 H105 hC106
   have H105' := H105.as (L' := [(some b5, .cells #[i64 (256 : Nat), .slice (ownA key95) (List.length ((leG 256 (ze o2.1) o1.2 o2.2).1)) c96, .slice none 0 0] 151 (0, 0)), (key95, sob EG 99 ((leG 256 (ze o2.1) o1.2 o2.2).1) sp97), (some b68, .cells (cel EI ((List.replicate 64 (wrW 256 o2.1)).set 0 wx103)).toArray 153 (0, 0)), (some b11, .cells (cel EI (o1.2 ++ o2.2)).toArray 154 (0, 0)), (some b1, .cells #[i64 ((0 : Int)), .slice none 0 0, .slice none 0 0] 70 (0, 0))]) rfl
   clear H105
   subst hwx103
   rw [rep_set] at H105'
   have hrl : ((leG 256 (ze o2.1) o1.2 o2.2).2 :: List.replicate 63 (wrW 256 o2.1)).length = 64 := by rw [List.length_cons, List.length_replicate]
   refine wnil ?_
   refine blockNormal ?_
   refine thenNormal ?_
   refine sR ?_
   refine sM (pT b5) rfl ?_
   refine sq (r_sliceA0 arr153 (b := b68) (off := 0) rfl (bLe rfl)) ?_
   refine sq (r_nilCheck rfl) ?_
   refine sq (r_fieldAddr (off' := 0) fld151_0 (by decide) (b := b5) (off := 0) rfl (by omega)) ?_
   refine sq (r_fieldAddr (off' := 2) fld70_2 (by decide) (b := b5) (off := 0) rfl (by omega)) ?_
   refine d_store (k := 0) (v := .slice (some ⟨b68, 0, none⟩) 64 64) (cs' := #[i64 (256 : Nat), .slice (ownA key95) (List.length ((leG 256 (ze o2.1) o1.2 o2.2).1)) c96, .slice (some ⟨b68, 0, none⟩) 64 64]) H105' rfl rfl rfl siz60 (by rfl) (by intro u hu; simp [Value.cells] at hu; first | (subst hu; rfl) | (rcases hu with rfl <;> rfl)) (by exact bLe rfl) (by rfl) ?_
   intro w107 H108 hC109
   have H108' := H108.as (L' := [(some b5, .cells #[i64 (256 : Nat), .slice (ownA key95) (List.length ((leG 256 (ze o2.1) o1.2 o2.2).1)) c96, .slice (some ⟨b68, 0, none⟩) 64 64] 151 (0, 0)), (key95, sob EG 99 ((leG 256 (ze o2.1) o1.2 o2.2).1) sp97), (some b68, .cells (cel EI ((leG 256 (ze o2.1) o1.2 o2.2).2 :: List.replicate 63 (wrW 256 o2.1))).toArray 153 (0, 0)), (some b11, .cells (cel EI (o1.2 ++ o2.2)).toArray 154 (0, 0)), (some b1, .cells #[i64 ((0 : Int)), .slice none 0 0, .slice none 0 0] 70 (0, 0))]) rfl
   clear H108
   refine wend ?_
   refine sR ?_
   refine sM (pT b5) rfl ?_
   refine sq (r_nilCheck rfl) ?_
   refine sq (r_fieldAddr (off' := 0) fld151_0 (by decide) (b := b5) (off := 0) rfl (by omega)) ?_
   refine sq (r_loadA (cs' := #[i64 (256 : Nat), .slice (ownA key95) (List.length ((leG 256 (ze o2.1) o1.2 o2.2).1)) c96, .slice (some ⟨b68, 0, none⟩) 64 64]) agg70 siz70 (H108'.get (k := 0) rfl) (off := 0) rfl (by exact bLe rfl) (by rfl)) ?_
   refine d_store (k := 4) (v := .agg #[i64 (256 : Nat), .slice (ownA key95) (List.length ((leG 256 (ze o2.1) o1.2 o2.2).1)) c96, .slice (some ⟨b68, 0, none⟩) 64 64]) (cs' := #[i64 (256 : Nat), .slice (ownA key95) (List.length ((leG 256 (ze o2.1) o1.2 o2.2).1)) c96, .slice (some ⟨b68, 0, none⟩) 64 64]) H108' rfl rfl rfl siz70 (by rfl) (by intro u hu; simp [Value.cells] at hu; first | (subst hu; rfl) | (rcases hu with rfl | rfl | rfl <;> rfl)) (by exact bLe rfl) (by rfl) ?_
   intro w110 H111 hC112
   have H111' := H111.as (L' := [(some b5, .cells #[i64 (256 : Nat), .slice (ownA key95) (List.length ((leG 256 (ze o2.1) o1.2 o2.2).1)) c96, .slice (some ⟨b68, 0, none⟩) 64 64] 151 (0, 0)), (key95, sob EG 99 ((leG 256 (ze o2.1) o1.2 o2.2).1) sp97), (some b68, .cells (cel EI ((leG 256 (ze o2.1) o1.2 o2.2).2 :: List.replicate 63 (wrW 256 o2.1))).toArray 153 (0, 0)), (some b11, .cells (cel EI (o1.2 ++ o2.2)).toArray 154 (0, 0)), (some b1, .cells #[i64 (256 : Nat), .slice (ownA key95) (List.length ((leG 256 (ze o2.1) o1.2 o2.2).1)) c96, .slice (some ⟨b68, 0, none⟩) 64 64] 70 (0, 0))]) rfl
   clear H111
   refine sA (.nilIface) rfl ?_
   refine wend ?_
   refine retAny ?_
   refine retG (rs := [.cell 4 70, .tmp 5]) (vs := [.agg #[i64 (256 : Nat), .slice (ownA key95) (List.length ((leG 256 (ze o2.1) o1.2 o2.2).1)) c96, .slice (some ⟨b68, 0, none⟩) 64 64], .nilIface]) rfl ⟨r_loadA (cs' := #[i64 (256 : Nat), .slice (ownA key95) (List.length ((leG 256 (ze o2.1) o1.2 o2.2).1)) c96, .slice (some ⟨b68, 0, none⟩) 64 64]) agg70 siz70 (H111'.get (k := 4) rfl) (off := 0) rfl (by exact bLe rfl) (by rfl), ⟨rfl, rfl⟩, trivial⟩ ?_
   rw [mk2_eq ho1 ho2]
   exact ⟨_, rfl, key95, c96, sp97, b68, rfl, hS98, (((H111'.dropk 4).dropk 3).dropk 0)⟩
set_option maxHeartbeats 2000000 in
theorem make_k3 (fm : BitVec 64) (hf : fm < 4#64) (w : World) : Calls Tryd.prog 29 [i64 (3 : Int), u64 fm].toArray w (Ret fun v w' => ∃ (key : Option Nat) (c : Nat) (sp : List Value) (b : Nat), v = .tuple #[.agg #[i64 ((256 : Nat) : Int), .slice (ownA key) (mk3 (fbS fm 0) (fbS fm 1)).1.length c, .slice (some ⟨b, 0, none⟩) 64 64], .nilIface] ∧ Sl EG key (mk3 (fbS fm 0) (fbS fm 1)).1 c sp ∧ Hp No w w' [(key, sob EG 99 (mk3 (fbS fm 0) (fbS fm 1)).1 sp), (some b, .cells (cel EI (mk3 (fbS fm 0) (fbS fm 1)).2).toArray 153 (0, 0))]) := by
 have H := Hp.start No w
 refine enter (n := 131) Tryd.func29 rfl rfl (bLe rfl) ?_
 refine sR ?_
 refine q_alloc (o := .cells #[i64 ((0 : Int)), .slice none 0 0, .slice none 0 0] 70 (0, 0)) H zer70 (by kernel_rfl) ?_
 intro b1 w2 hb1 H3 hE4
 refine sA (.nilIface) rfl ?_
 refine wend ?_
 refine sR ?_
 refine sA (i64 ((2 : Int))) rfl ?_
 refine wend ?_
 refine seqAny ?_
 refine sR ?_
 refine sM (i64 ((3 : Int))) rfl ?_
 refine wend ?_
 refine blockAny ?_
 refine seqAny ?_
 refine blockAny ?_
 refine seqAny ?_
 refine blockAny ?_
 refine seqAny ?_
 refine blockAny ?_
 refine seqAny ?_
 refine seqAny ?_
 refine sR ?_
 refine sq ((r_eqlI (a := (3 : Int)) (b := (1 : Int)) rfl rfl).as (v' := .bool (false)) (by rfl)) ?_
 refine sA (.bool (false)) rfl ?_
 refine wend ?_
 refine condFalse rfl ?_
 refine skipAny ?_
 refine thenNormal ?_
 refine seqAny ?_
 refine sR ?_
 refine sq ((r_eqlI (a := (3 : Int)) (b := (2 : Int)) rfl rfl).as (v' := .bool (false)) (by rfl)) ?_
 refine sA (.bool (false)) rfl ?_
 refine wend ?_
 refine condFalse rfl ?_
 refine oneRegion ?_
 refine sq ((r_eqlI (a := (3 : Int)) (b := (3 : Int)) rfl rfl).as (v' := .bool (true)) (by rfl)) ?_
 refine sA (.bool (true)) rfl ?_
 refine wnil ?_
 refine thenNormal ?_
 refine condTrue rfl ?_
 refine exitAny ?_
 refine thenExit ?_
 refine blockOut rfl ?_
 refine thenExit ?_
 refine blockHere ?_
 refine thenNormal ?_
 refine sR ?_
 refine sM (u64 (fm)) rfl ?_
 refine sM (i64 ((2 : Int))) rfl ?_
 refine sq (r_shl64 (a := 1#64) (c := 2) rfl rfl) ?_
 refine sq ((r_lss64 (a := fm) (b := (1#64) <<< (2 : Nat)) rfl rfl).as (v' := .bool (true)) (by exact congrArg Value.bool (decide_eq_true hf))) ?_
 refine wend ?_
 refine condTrue rfl ?_
 refine exitAny ?_
 refine blockOut rfl ?_
 refine thenExit ?_
 refine blockHere ?_
 refine thenNormal ?_
 refine sR ?_
 refine sM (i64 ((2 : Int))) rfl ?_
 refine sq ((r_mulI (a := (128 : Int)) (b := (2 : Int)) rfl rfl (by omega)).as (v' := i64 (256 : Nat)) (by rfl)) ?_
 refine sq (r_build (cs' := #[i64 (256 : Nat), .slice none 0 0, .slice none 0 0]) (ps := [(0, i64 (256 : Nat))]) zer70 pls70 rfl (by rfl)) ?_
 refine sq (r_build (cs' := #[i64 (256 : Nat), .slice none 0 0, .slice none 0 0]) (ps := [(0, .agg #[i64 (256 : Nat), .slice none 0 0, .slice none 0 0])]) zer151 pls151 rfl (by rfl)) ?_
 refine q_box (v := .agg #[i64 (256 : Nat), .slice none 0 0, .slice none 0 0]) (o := .cells #[i64 (256 : Nat), .slice none 0 0, .slice none 0 0] 151 (0, 0)) H3 rfl (by rfl) ?_
 intro b5 w6 hb5 H7 hE8
 refine sA (pT b5) rfl ?_
 have H9 := H7.nil (sob EG 99 [] [])
 have H10 := H9.as (L' := [(none, sob EG 99 ([]) ([])), (some b5, .cells #[i64 (256 : Nat), .slice (ownA none) (List.length ([] : List Gt)) 0, .slice none 0 0] 151 (0, 0)), (some b1, .cells #[i64 ((0 : Int)), .slice none 0 0, .slice none 0 0] 70 (0, 0))]) rfl
 refine wend ?_
 refine sR ?_
 refine q_alloc (o := .cells (cel EI (List.replicate 128 0)).toArray 154 (0, 0)) H10 zer154 (by kernel_rfl) ?_
 intro b11 w12 hb11 H13 hE14
 rw [padX_nil] at H13
 refine wend ?_
 refine seqAny ?_
 refine sR ?_
 refine sM (i64 ((2 : Int))) rfl ?_
 refine sM (i64 ((0 : Int))) rfl ?_
 refine wend ?_
 refine blockAny ?_
 refine loopAny (σ := Nat × Option Nat × Nat × List Value) (fun (i, kz, cz, sz) => [(0, i64 ((3 : Int))), (1, u64 (fm)), (4, pT b1), (7, pT b5), (8, pT b11), (36, i64 ((2 : Int))), (37, i64 (i : Nat))]) (fun (i, kz, cz, sz) w' => (i ≤ 2 ∧ Sl EG kz (opsS 256 fm i).1 cz sz) ∧ Hp No w w' [(some b5, .cells #[i64 (256 : Nat), .slice (ownA kz) (List.length ((opsS 256 fm i).1)) cz, .slice none 0 0] 151 (0, 0)), (kz, sob EG 99 ((opsS 256 fm i).1) sz), (some b11, .cells (cel EI (padX ((opsS 256 fm i).2))).toArray 154 (0, 0)), (some b1, .cells #[i64 ((0 : Int)), .slice none 0 0, .slice none 0 0] 70 (0, 0))]) (fun (i, kz, cz, sz) => 2 - i) ((0, none, 0, [])) ?_ ?_ ?_
 ·exact ⟨rfl, rfl, rfl, rfl, rfl, rfl, rfl, trivial⟩
 ·exact ⟨⟨by omega, Sl.none⟩, (H13.pick 4 [2, 1, 0, 3] (by decide) (by decide))⟩
 rintro ⟨i, kz, cz, sz⟩ ρ w15 ⟨⟨hq, hSz⟩, HL⟩
 have hol := opsS_len 256 fm i
 have hi1 := inW_len (64 * (2 * i)) 64
 have hi2 := inW_len (64 * (2 * i + 1)) 64
 have hpx : (padX (opsS 256 fm i).2).length = 128 := padX_len (by rw [hol.2]; omega)
 refine sR ?_
 refine sq (r_lssI (a := (i : Nat)) (b := (2 : Int)) rfl rfl) ?_
 refine wend ?_
 refine seqAny ?_
 refine condProp (((i : Nat) : Int) < (2 : Int)) rfl (fun c38 => ?_) (fun c38 => ?_)
 ·skip
  refine skipAny ?_
  refine thenNormal ?_
  refine seqAny ?_
  refine blockAny ?_
  refine sR ?_
  refine sM (i64 (i : Nat)) rfl ?_
  refine sA (i64 (i : Nat)) rfl ?_
  refine wend ?_
  refine sR ?_
  refine sM (pT b5) rfl ?_
  refine sM (i64 (i : Nat)) rfl ?_
  refine sq ((r_mulI (a := (2 : Int)) (b := (i : Nat)) rfl rfl (by omega)).as (v' := i64 (((2 * i) : Nat))) (by exact congrArg i64 (by omega))) ?_
  refine c_call (vs := [pT b5, i64 (((2 * i) : Nat))]) call73 rfl (input_ok b5 (2 * i) (by omega) w15) ?_
  rintro _ w17 ⟨rfl, hE18⟩
  have H19 := HL.ext hE18
  refine sM (pT b5) rfl ?_
  refine sM (i64 (i : Nat)) rfl ?_
  refine sq ((r_mulI (a := (2 : Int)) (b := (i : Nat)) rfl rfl (by omega)).as (v' := i64 (((2 * i) : Nat))) (by exact congrArg i64 (by omega))) ?_
  refine sq ((r_addI (a := ((2 * i) : Nat)) (b := (1 : Int)) rfl rfl (by omega)).as (v' := i64 (((2 * i + 1) : Nat))) (by exact congrArg i64 (by omega))) ?_
  refine c_call (vs := [pT b5, i64 (((2 * i + 1) : Nat))]) call73 rfl (input_ok b5 (2 * i + 1) (by omega) w17) ?_
  rintro _ w20 ⟨rfl, hE21⟩
  have H22 := H19.ext hE21
  refine q_alloc (o := .cells (cel EI (List.replicate 64 0)).toArray 153 (0, 0)) H22 zer153 (by kernel_rfl) ?_
  intro b23 w24 hb23 H25 hE26
  refine q_alloc (o := .cells (cel EI (List.replicate 64 0)).toArray 153 (0, 0)) H25 zer153 (by kernel_rfl) ?_
  intro b27 w28 hb27 H29 hE30
  refine d_store (k := 1) (v := .agg (cel EI (inW (64 * (2 * i)) 64)).toArray) (cs' := (cel EI (inW (64 * (2 * i)) 64)).toArray) H29 rfl rfl rfl siz153 (by exact celSize (by rw [hi1]; rfl)) (by exact celOne _) (by rw [List.size_toArray, cel_length]; show _ ≤ _ * 1; first | omega | (simp only [List.length_set]; omega) | exact bLe rfl | (simp <;> omega)) (by exact putAll (by rw [List.length_replicate]; exact hi1.symm)) ?_
  intro w31 H32 hC33
  have H32' := H32.as (L' := [(some b27, .cells (cel EI (List.replicate 64 0)).toArray 153 (0, 0)), (some b23, .cells (cel EI (inW (64 * (2 * i)) 64)).toArray 153 (0, 0)), (some b5, .cells #[i64 (256 : Nat), .slice (ownA kz) (List.length ((opsS 256 fm i).1)) cz, .slice none 0 0] 151 (0, 0)), (kz, sob EG 99 ((opsS 256 fm i).1) sz), (some b11, .cells (cel EI (padX ((opsS 256 fm i).2))).toArray 154 (0, 0)), (some b1, .cells #[i64 ((0 : Int)), .slice none 0 0, .slice none 0 0] 70 (0, 0))]) rfl
  clear H32
  refine d_store (k := 0) (v := .agg (cel EI (inW (64 * (2 * i + 1)) 64)).toArray) (cs' := (cel EI (inW (64 * (2 * i + 1)) 64)).toArray) H32' rfl rfl rfl siz153 (by exact celSize (by rw [hi2]; rfl)) (by exact celOne _) (by rw [List.size_toArray, cel_length]; show _ ≤ _ * 1; first | omega | (simp only [List.length_set]; omega) | exact bLe rfl | (simp <;> omega)) (by exact putAll (by rw [List.length_replicate]; exact hi2.symm)) ?_
  intro w34 H35 hC36
  have H35' := H35.as (L' := [(some b27, .cells (cel EI (inW (64 * (2 * i + 1)) 64)).toArray 153 (0, 0)), (some b23, .cells (cel EI (inW (64 * (2 * i)) 64)).toArray 153 (0, 0)), (some b5, .cells #[i64 (256 : Nat), .slice (ownA kz) (List.length ((opsS 256 fm i).1)) cz, .slice none 0 0] 151 (0, 0)), (kz, sob EG 99 ((opsS 256 fm i).1) sz), (some b11, .cells (cel EI (padX ((opsS 256 fm i).2))).toArray 154 (0, 0)), (some b1, .cells #[i64 ((0 : Int)), .slice none 0 0, .slice none 0 0] 70 (0, 0))]) rfl
  clear H35
  refine wend ?_
  refine sR ?_
  refine sM (u64 (fm)) rfl ?_
  refine sM (i64 (i : Nat)) rfl ?_
  refine sq (r_shr64 (a := fm) (c := i) rfl rfl) ?_
  refine sq (r_and64 (a := fm >>> (i : Nat)) (b := 1#64) rfl rfl) ?_
  refine sq (r_eql64 (a := (fm >>> (i : Nat)) &&& (1#64)) (b := 1#64) rfl rfl) ?_
  refine wend ?_
  refine condProp (((fm >>> (i : Nat)) &&& (1#64)) = (1#64)) rfl (fun c53 => ?_) (fun c53 => ?_)
  ·skip
   refine oneRegion ?_
   refine sM (i64 (i : Nat)) rfl ?_
   refine sM (pT b5) rfl ?_
   refine sq (r_loadA (cs' := (cel EI (inW (64 * (2 * i)) 64)).toArray) agg153 siz153 (H35'.get (k := 1) rfl) (off := 0) rfl (by rw [List.size_toArray, cel_length]; show _ ≤ _ * 1; omega) (by exact ext_all (by rw [cel_length]; show _ * 1 = _; omega))) ?_
   refine sq (r_loadA (cs' := (cel EI (inW (64 * (2 * i + 1)) 64)).toArray) agg153 siz153 (H35'.get (k := 0) rfl) (off := 0) rfl (by rw [List.size_toArray, cel_length]; show _ ≤ _ * 1; omega) (by exact ext_all (by rw [cel_length]; show _ * 1 = _; omega))) ?_
   have H37 := ((H35'.pick 6 [2, 3, 0, 1, 4, 5] (by decide) (by decide))).as (L' := ((some b5, .cells #[i64 (256 : Nat), .slice (ownA kz) (List.length ((opsS 256 fm i).1)) cz, .slice none 0 0] 151 (0, 0)) :: (kz, sob EG 99 ((opsS 256 fm i).1) sz) :: [(some b27, .cells (cel EI (inW (64 * (2 * i + 1)) 64)).toArray 153 (0, 0)), (some b23, .cells (cel EI (inW (64 * (2 * i)) 64)).toArray 153 (0, 0)), (some b11, .cells (cel EI (padX ((opsS 256 fm i).2))).toArray 154 (0, 0)), (some b1, .cells #[i64 ((0 : Int)), .slice none 0 0, .slice none 0 0] 70 (0, 0))])) rfl
   refine c_call (vs := [pT b5, .agg (cel EI (inW (64 * (2 * i)) 64)).toArray, .agg (cel EI (inW (64 * (2 * i + 1)) 64)).toArray]) call74 rfl (mxor_ok b5 256 kz cz sz ((opsS 256 fm i).1) hSz (by omega) (by omega) (inW (64 * (2 * i)) 64) (inW (64 * (2 * i + 1)) 64) (by omega) (by omega) [(some b27, .cells (cel EI (inW (64 * (2 * i + 1)) 64)).toArray 153 (0, 0)), (some b23, .cells (cel EI (inW (64 * (2 * i)) 64)).toArray 153 (0, 0)), (some b11, .cells (cel EI (padX ((opsS 256 fm i).2))).toArray 154 (0, 0)), (some b1, .cells #[i64 ((0 : Int)), .slice none 0 0, .slice none 0 0] 70 (0, 0))] w w34 H37) ?_
   rintro _ w38 ⟨rfl, key40, c41, sp42, hS43, HN44⟩
   have H45 := HN44.as (L' := [(some b5, .cells #[i64 (256 : Nat), .slice (ownA key40) (List.length ((xoS 256 ((opsS 256 fm i).1) (inW (64 * (2 * i)) 64) (inW (64 * (2 * i + 1)) 64) 64).1)) c41, .slice none 0 0] 151 (0, 0)), (key40, sob EG 99 ((xoS 256 ((opsS 256 fm i).1) (inW (64 * (2 * i)) 64) (inW (64 * (2 * i + 1)) 64) 64).1) sp42), (some b27, .cells (cel EI (inW (64 * (2 * i + 1)) 64)).toArray 153 (0, 0)), (some b23, .cells (cel EI (inW (64 * (2 * i)) 64)).toArray 153 (0, 0)), (some b11, .cells (cel EI (padX ((opsS 256 fm i).2))).toArray 154 (0, 0)), (some b1, .cells #[i64 ((0 : Int)), .slice none 0 0, .slice none 0 0] 70 (0, 0))]) rfl
   have hnr : (xoS 256 ((opsS 256 fm i).1) (inW (64 * (2 * i)) 64) (inW (64 * (2 * i + 1)) 64) 64).2.length = 64 := (xoS_len 256 ((opsS 256 fm i).1) (inW (64 * (2 * i)) 64) (inW (64 * (2 * i + 1)) 64) 64).2
   refine sq (r_indexA (off' := i * 64) (j := i) arr154 (b := b11) (off := 0) rfl rfl (by first | rfl | omega | (simp; omega)) (by omega) (by omega)) ?_
   refine d_store (k := 4) (v := .agg (cel EI ((xoS 256 ((opsS 256 fm i).1) (inW (64 * (2 * i)) 64) (inW (64 * (2 * i + 1)) 64) 64).2)).toArray) (cs' := (cel EI (padX ((opsS 256 fm i).2 ++ (xoS 256 ((opsS 256 fm i).1) (inW (64 * (2 * i)) 64) (inW (64 * (2 * i + 1)) 64) 64).2))).toArray) H45 rfl rfl rfl siz153 (by exact celSize (by rw [hnr]; rfl)) (by exact celOne _) (by rw [List.size_toArray, cel_length, padX_len (by rw [hol.2]; omega)]; show _ ≤ _ * 1; omega) (by exact padX_put (by rw [hol.2]; omega) (by rw [hol.2]; omega) (by first | exact hnr)) ?_
   intro w46 H47 hC48
   have H47' := H47.as (L' := [(some b5, .cells #[i64 (256 : Nat), .slice (ownA key40) (List.length ((xoS 256 ((opsS 256 fm i).1) (inW (64 * (2 * i)) 64) (inW (64 * (2 * i + 1)) 64) 64).1)) c41, .slice none 0 0] 151 (0, 0)), (key40, sob EG 99 ((xoS 256 ((opsS 256 fm i).1) (inW (64 * (2 * i)) 64) (inW (64 * (2 * i + 1)) 64) 64).1) sp42), (some b27, .cells (cel EI (inW (64 * (2 * i + 1)) 64)).toArray 153 (0, 0)), (some b23, .cells (cel EI (inW (64 * (2 * i)) 64)).toArray 153 (0, 0)), (some b11, .cells (cel EI (padX ((opsS 256 fm i).2 ++ (xoS 256 ((opsS 256 fm i).1) (inW (64 * (2 * i)) 64) (inW (64 * (2 * i + 1)) 64) 64).2))).toArray 154 (0, 0)), (some b1, .cells #[i64 ((0 : Int)), .slice none 0 0, .slice none 0 0] 70 (0, 0))]) rfl
   clear H47
   refine wnil ?_
   refine blockNormal ?_
   refine thenNormal ?_
   refine oneRegion ?_
   refine sq (r_addI (a := (i : Nat)) (b := (1 : Int)) rfl rfl (by omega)) ?_
   refine sM (i64 ((i : Nat) + (1 : Int))) rfl ?_
   refine wnil ?_
   refine thenNormal ?_
   have e49 : (xoS 256 ((opsS 256 fm i).1) (inW (64 * (2 * i)) 64) (inW (64 * (2 * i + 1)) 64) 64).1 = (opsS 256 fm (i + 1)).1 := by rw [opsS, opS_t c53]
   have hS50 := hS43
   rw [e49] at hS50
   have H51 : Hp No w w46 [(some b5, .cells #[i64 (256 : Nat), .slice (ownA key40) (List.length ((opsS 256 fm (i + 1)).1)) c41, .slice none 0 0] 151 (0, 0)), (key40, sob EG 99 ((opsS 256 fm (i + 1)).1) sp42), (some b27, .cells (cel EI (inW (64 * (2 * i + 1)) 64)).toArray 153 (0, 0)), (some b23, .cells (cel EI (inW (64 * (2 * i)) 64)).toArray 153 (0, 0)), (some b11, .cells (cel EI (padX ((opsS 256 fm i).2 ++ (xoS 256 ((opsS 256 fm i).1) (inW (64 * (2 * i)) 64) (inW (64 * (2 * i + 1)) 64) 64).2))).toArray 154 (0, 0)), (some b1, .cells #[i64 ((0 : Int)), .slice none 0 0, .slice none 0 0] 70 (0, 0))] := by rw [← e49]; exact H47'
   rw [show (opsS 256 fm i).2 ++ (xoS 256 ((opsS 256 fm i).1) (inW (64 * (2 * i)) 64) (inW (64 * (2 * i + 1)) 64) 64).2 = (opsS 256 fm (i + 1)).2 from by rw [opsS, opS_t c53]] at H51
   exact ⟨(i + 1, key40, c41, sp42), _, rfl, ⟨rfl, rfl, rfl, rfl, rfl, rfl, rfl, trivial⟩, ⟨⟨by omega, hS50⟩, ((H51.dropk 3).dropk 2)⟩, by show 2 - (i + 1) < 2 - i; omega⟩
  ·skip
   refine oneRegion ?_
   refine sM (i64 (i : Nat)) rfl ?_
   refine sM (pT b5) rfl ?_
   refine sq (r_loadA (cs' := (cel EI (inW (64 * (2 * i)) 64)).toArray) agg153 siz153 (H35'.get (k := 1) rfl) (off := 0) rfl (by rw [List.size_toArray, cel_length]; show _ ≤ _ * 1; omega) (by exact ext_all (by rw [cel_length]; show _ * 1 = _; omega))) ?_
   refine sq (r_loadA (cs' := (cel EI (inW (64 * (2 * i + 1)) 64)).toArray) agg153 siz153 (H35'.get (k := 0) rfl) (off := 0) rfl (by rw [List.size_toArray, cel_length]; show _ ≤ _ * 1; omega) (by exact ext_all (by rw [cel_length]; show _ * 1 = _; omega))) ?_
   have H52 := ((H35'.pick 6 [2, 3, 0, 1, 4, 5] (by decide) (by decide))).as (L' := ((some b5, .cells #[i64 (256 : Nat), .slice (ownA kz) (List.length ((opsS 256 fm i).1)) cz, .slice none 0 0] 151 (0, 0)) :: (kz, sob EG 99 ((opsS 256 fm i).1) sz) :: [(some b27, .cells (cel EI (inW (64 * (2 * i + 1)) 64)).toArray 153 (0, 0)), (some b23, .cells (cel EI (inW (64 * (2 * i)) 64)).toArray 153 (0, 0)), (some b11, .cells (cel EI (padX ((opsS 256 fm i).2))).toArray 154 (0, 0)), (some b1, .cells #[i64 ((0 : Int)), .slice none 0 0, .slice none 0 0] 70 (0, 0))])) rfl
   refine c_call (vs := [pT b5, .agg (cel EI (inW (64 * (2 * i)) 64)).toArray, .agg (cel EI (inW (64 * (2 * i + 1)) 64)).toArray]) call75 rfl (madd_ok b5 256 kz cz sz ((opsS 256 fm i).1) hSz (by omega) (by omega) (inW (64 * (2 * i)) 64) (inW (64 * (2 * i + 1)) 64) (by omega) (by omega) [(some b27, .cells (cel EI (inW (64 * (2 * i + 1)) 64)).toArray 153 (0, 0)), (some b23, .cells (cel EI (inW (64 * (2 * i)) 64)).toArray 153 (0, 0)), (some b11, .cells (cel EI (padX ((opsS 256 fm i).2))).toArray 154 (0, 0)), (some b1, .cells #[i64 ((0 : Int)), .slice none 0 0, .slice none 0 0] 70 (0, 0))] w w34 H52) ?_
   rintro _ w53 ⟨rfl, key55, c56, sp57, hS58, HN59⟩
   have H60 := HN59.as (L' := [(some b5, .cells #[i64 (256 : Nat), .slice (ownA key55) (List.length ((adS 256 ((opsS 256 fm i).1) (inW (64 * (2 * i)) 64) (inW (64 * (2 * i + 1)) 64) 63).1)) c56, .slice none 0 0] 151 (0, 0)), (key55, sob EG 99 ((adS 256 ((opsS 256 fm i).1) (inW (64 * (2 * i)) 64) (inW (64 * (2 * i + 1)) 64) 63).1) sp57), (some b27, .cells (cel EI (inW (64 * (2 * i + 1)) 64)).toArray 153 (0, 0)), (some b23, .cells (cel EI (inW (64 * (2 * i)) 64)).toArray 153 (0, 0)), (some b11, .cells (cel EI (padX ((opsS 256 fm i).2))).toArray 154 (0, 0)), (some b1, .cells #[i64 ((0 : Int)), .slice none 0 0, .slice none 0 0] 70 (0, 0))]) rfl
   have hnr : (adS 256 ((opsS 256 fm i).1) (inW (64 * (2 * i)) 64) (inW (64 * (2 * i + 1)) 64) 63).2.1.length = 64 := (adS_len 256 ((opsS 256 fm i).1) (inW (64 * (2 * i)) 64) (inW (64 * (2 * i + 1)) 64) 63).2
   refine sq (r_indexA (off' := i * 64) (j := i) arr154 (b := b11) (off := 0) rfl rfl (by first | rfl | omega | (simp; omega)) (by omega) (by omega)) ?_
   refine d_store (k := 4) (v := .agg (cel EI ((adS 256 ((opsS 256 fm i).1) (inW (64 * (2 * i)) 64) (inW (64 * (2 * i + 1)) 64) 63).2.1)).toArray) (cs' := (cel EI (padX ((opsS 256 fm i).2 ++ (adS 256 ((opsS 256 fm i).1) (inW (64 * (2 * i)) 64) (inW (64 * (2 * i + 1)) 64) 63).2.1))).toArray) H60 rfl rfl rfl siz153 (by exact celSize (by rw [hnr]; rfl)) (by exact celOne _) (by rw [List.size_toArray, cel_length, padX_len (by rw [hol.2]; omega)]; show _ ≤ _ * 1; omega) (by exact padX_put (by rw [hol.2]; omega) (by rw [hol.2]; omega) (by first | exact hnr)) ?_
   intro w61 H62 hC63
   have H62' := H62.as (L' := [(some b5, .cells #[i64 (256 : Nat), .slice (ownA key55) (List.length ((adS 256 ((opsS 256 fm i).1) (inW (64 * (2 * i)) 64) (inW (64 * (2 * i + 1)) 64) 63).1)) c56, .slice none 0 0] 151 (0, 0)), (key55, sob EG 99 ((adS 256 ((opsS 256 fm i).1) (inW (64 * (2 * i)) 64) (inW (64 * (2 * i + 1)) 64) 63).1) sp57), (some b27, .cells (cel EI (inW (64 * (2 * i + 1)) 64)).toArray 153 (0, 0)), (some b23, .cells (cel EI (inW (64 * (2 * i)) 64)).toArray 153 (0, 0)), (some b11, .cells (cel EI (padX ((opsS 256 fm i).2 ++ (adS 256 ((opsS 256 fm i).1) (inW (64 * (2 * i)) 64) (inW (64 * (2 * i + 1)) 64) 63).2.1))).toArray 154 (0, 0)), (some b1, .cells #[i64 ((0 : Int)), .slice none 0 0, .slice none 0 0] 70 (0, 0))]) rfl
   clear H62
   refine wnil ?_
   refine blockNormal ?_
   refine thenNormal ?_
   refine oneRegion ?_
   refine sq (r_addI (a := (i : Nat)) (b := (1 : Int)) rfl rfl (by omega)) ?_
   refine sM (i64 ((i : Nat) + (1 : Int))) rfl ?_
   refine wnil ?_
   refine thenNormal ?_
   have e64 : (adS 256 ((opsS 256 fm i).1) (inW (64 * (2 * i)) 64) (inW (64 * (2 * i + 1)) 64) 63).1 = (opsS 256 fm (i + 1)).1 := by rw [opsS, opS_f c53]
   have hS65 := hS58
   rw [e64] at hS65
   have H66 : Hp No w w61 [(some b5, .cells #[i64 (256 : Nat), .slice (ownA key55) (List.length ((opsS 256 fm (i + 1)).1)) c56, .slice none 0 0] 151 (0, 0)), (key55, sob EG 99 ((opsS 256 fm (i + 1)).1) sp57), (some b27, .cells (cel EI (inW (64 * (2 * i + 1)) 64)).toArray 153 (0, 0)), (some b23, .cells (cel EI (inW (64 * (2 * i)) 64)).toArray 153 (0, 0)), (some b11, .cells (cel EI (padX ((opsS 256 fm i).2 ++ (adS 256 ((opsS 256 fm i).1) (inW (64 * (2 * i)) 64) (inW (64 * (2 * i + 1)) 64) 63).2.1))).toArray 154 (0, 0)), (some b1, .cells #[i64 ((0 : Int)), .slice none 0 0, .slice none 0 0] 70 (0, 0))] := by rw [← e64]; exact H62'
   rw [show (opsS 256 fm i).2 ++ (adS 256 ((opsS 256 fm i).1) (inW (64 * (2 * i)) 64) (inW (64 * (2 * i + 1)) 64) 63).2.1 = (opsS 256 fm (i + 1)).2 from by rw [opsS, opS_f c53]] at H66
   exact ⟨(i + 1, key55, c56, sp57), _, rfl, ⟨rfl, rfl, rfl, rfl, rfl, rfl, rfl, trivial⟩, ⟨⟨by omega, hS65⟩, ((H66.dropk 3).dropk 2)⟩, by show 2 - (i + 1) < 2 - i; omega⟩
 ·skip
  have hie : i = 2 := by omega
  rw [hie, opsS_two] at HL hSz hol
  obtain ⟨o1, ho1⟩ : ∃ q, q = opS 256 [] 0 64 (fbS fm 0) := ⟨_, rfl⟩
  rw [← ho1] at HL hSz hol
  have hl1 := opS_len 256 [] 0 64 (fbS fm 0)
  rw [← ho1] at hl1
  obtain ⟨o2, ho2⟩ : ∃ q, q = opS 256 o1.1 128 192 (fbS fm 1) := ⟨_, rfl⟩
  rw [← ho2] at HL hSz hol
  have hl2 := opS_len 256 o1.1 128 192 (fbS fm 1)
  rw [← ho2] at hl2
  rw [padX_full (by rw [List.length_append]; omega)] at HL
  simp only [List.length_nil] at hl1
  dsimp only at HL hSz
  have H67 := HL.as (L' := [(some b5, .cells #[i64 (256 : Nat), .slice (ownA kz) (List.length o2.1) cz, .slice none 0 0] 151 (0, 0)), (kz, sob EG 99 o2.1 sz), (some b11, .cells (cel EI (o1.2 ++ o2.2)).toArray 154 (0, 0)), (some b1, .cells #[i64 ((0 : Int)), .slice none 0 0, .slice none 0 0] 70 (0, 0))]) rfl
  have hpx : (o1.2 ++ o2.2).length = 128 := by rw [List.length_append]; omega
  refine exitAny ?_
  refine thenExit ?_
  refine thenExit ?_
  refine blockHere ?_
  refine thenNormal ?_
  refine sR ?_
  refine q_alloc (o := .cells (cel EI (List.replicate 64 0)).toArray 153 (0, 0)) H67 zer153 (by kernel_rfl) ?_
  intro b68 w69 hb68 H70 hE71
  refine wend ?_
  refine seqAny ?_
  refine sR ?_
  refine sM (pT b5) rfl ?_
  have H72 := ((H70.pick 5 [1, 2, 0, 3, 4] (by decide) (by decide))).as (L' := ((some b5, .cells #[i64 (256 : Nat), .slice (ownA kz) (List.length o2.1) cz, .slice none 0 0] 151 (0, 0)) :: (kz, sob EG 99 o2.1 sz) :: [(some b68, .cells (cel EI (List.replicate 64 0)).toArray 153 (0, 0)), (some b11, .cells (cel EI (o1.2 ++ o2.2)).toArray 154 (0, 0)), (some b1, .cells #[i64 ((0 : Int)), .slice none 0 0, .slice none 0 0] 70 (0, 0))])) rfl
  refine c_call (vs := [pT b5, i64 ((1 : Int)), i64 ((0 : Int)), i64 ((0 : Int))]) call76 rfl (gate_ok b5 256 kz cz sz o2.1 hSz (by omega) (by omega) (1 : Int) (0 : Int) (0 : Int) [(some b68, .cells (cel EI (List.replicate 64 0)).toArray 153 (0, 0)), (some b11, .cells (cel EI (o1.2 ++ o2.2)).toArray 154 (0, 0)), (some b1, .cells #[i64 ((0 : Int)), .slice none 0 0, .slice none 0 0] 70 (0, 0))] w w69 H72) ?_
  rintro wv81 w73 ⟨hwv82, key75, c76, sp77, hS78, HN79⟩
  obtain ⟨wx83, hwx83⟩ : ∃ q, q = wrW 256 o2.1 := ⟨_, rfl⟩
  rw [← hwx83] at hwv82
  subst hwv82
  have H80 := HN79.as (L' := [(some b5, .cells #[i64 (256 : Nat), .slice (ownA key75) (List.length (o2.1 ++ [(⟨(1 : Int), (0 : Int), (0 : Int)⟩ : Gt)])) c76, .slice none 0 0] 151 (0, 0)), (key75, sob EG 99 (o2.1 ++ [(⟨(1 : Int), (0 : Int), (0 : Int)⟩ : Gt)]) sp77), (some b68, .cells (cel EI (List.replicate 64 0)).toArray 153 (0, 0)), (some b11, .cells (cel EI (o1.2 ++ o2.2)).toArray 154 (0, 0)), (some b1, .cells #[i64 ((0 : Int)), .slice none 0 0, .slice none 0 0] 70 (0, 0))]) rfl
  refine sA (i64 (wx83)) rfl ?_
  subst hwx83
  have e84 : o2.1 ++ [(⟨(1 : Int), (0 : Int), (0 : Int)⟩ : Gt)] = ze o2.1 := by rfl
  have hS85 := hS78
  rw [e84] at hS85
  have H86 : Hp No w w73 [(some b5, .cells #[i64 (256 : Nat), .slice (ownA key75) (List.length (ze o2.1)) c76, .slice none 0 0] 151 (0, 0)), (key75, sob EG 99 (ze o2.1) sp77), (some b68, .cells (cel EI (List.replicate 64 0)).toArray 153 (0, 0)), (some b11, .cells (cel EI (o1.2 ++ o2.2)).toArray 154 (0, 0)), (some b1, .cells #[i64 ((0 : Int)), .slice none 0 0, .slice none 0 0] 70 (0, 0))] := by rw [← e84]; exact H80
  have hzl : (ze o2.1).length = o2.1.length + 1 := by simp [ze]
  refine wend ?_
  refine sR ?_
  refine sM (i64 ((3 : Int))) rfl ?_
  refine wend ?_
  refine blockAny ?_
  refine sR ?_
  refine sq ((r_eqlI (a := (3 : Int)) (b := (1 : Int)) rfl rfl).as (v' := .bool (false)) (by rfl)) ?_
  refine sA (.bool (false)) rfl ?_
  refine wend ?_
  refine condFalse rfl ?_
  refine sR ?_
  refine sq ((r_eqlI (a := (3 : Int)) (b := (2 : Int)) rfl rfl).as (v' := .bool (false)) (by rfl)) ?_
  refine sA (.bool (false)) rfl ?_
  refine wend ?_
  refine condFalse rfl ?_
  refine sR ?_
  refine sq ((r_eqlI (a := (3 : Int)) (b := (3 : Int)) rfl rfl).as (v' := .bool (true)) (by rfl)) ?_
  refine sA (.bool (true)) rfl ?_
  refine wend ?_
  refine condTrue rfl ?_
  refine drawC (m := 13) [0, 0, 0, 4, 0, 16, 62, 0, 128, 0, 512, 2047, 4095] [6, 11, 12] (fun q vs w' => match q, vs with | 0, [] => Hp No w w' [(some b5, .cells #[i64 (256 : Nat), .slice (ownA key75) (List.length (ze o2.1)) c76, .slice none 0 0] 151 (0, 0)), (key75, sob EG 99 (ze o2.1) sp77), (some b68, .cells (cel EI (List.replicate 64 0)).toArray 153 (0, 0)), (some b11, .cells (cel EI (o1.2 ++ o2.2)).toArray 154 (0, 0)), (some b1, .cells #[i64 ((0 : Int)), .slice none 0 0, .slice none 0 0] 70 (0, 0))] | 1, [v0] => ∃ (wx101 : Int) (key93 : Option Nat) (c94 : Nat) (sp95 : List Value), v0 = i64 (wx101) ∧ Sl EG key93 ((leG 256 (ze o2.1) o1.2 o2.2).1) c94 sp95 ∧ wx101 = (leG 256 (ze o2.1) o1.2 o2.2).2 ∧ Hp No w w' [(some b5, .cells #[i64 (256 : Nat), .slice (ownA key93) (List.length ((leG 256 (ze o2.1) o1.2 o2.2).1)) c94, .slice none 0 0] 151 (0, 0)), (key93, sob EG 99 ((leG 256 (ze o2.1) o1.2 o2.2).1) sp95), (some b68, .cells (cel EI (List.replicate 64 0)).toArray 153 (0, 0)), (some b11, .cells (cel EI (o1.2 ++ o2.2)).toArray 154 (0, 0)), (some b1, .cells #[i64 ((0 : Int)), .slice none 0 0, .slice none 0 0] 70 (0, 0))] | 2, [v0, v1] => ∃ (wx101 : Int) (key108 : Option Nat) (c109 : Nat) (sp110 : List Value), v0 = i64 (wx101) ∧ v1 = .agg (cel EI ((piS 256 ((leG 256 (ze o2.1) o1.2 o2.2).1) wx101 o2.2 o1.2 64).2)).toArray ∧ Sl EG key108 ((piS 256 ((leG 256 (ze o2.1) o1.2 o2.2).1) wx101 o2.2 o1.2 64).1) c109 sp110 ∧ wx101 = (leG 256 (ze o2.1) o1.2 o2.2).2 ∧ Hp No w w' [(some b5, .cells #[i64 (256 : Nat), .slice (ownA key108) (List.length ((piS 256 ((leG 256 (ze o2.1) o1.2 o2.2).1) wx101 o2.2 o1.2 64).1)) c109, .slice none 0 0] 151 (0, 0)), (key108, sob EG 99 ((piS 256 ((leG 256 (ze o2.1) o1.2 o2.2).1) wx101 o2.2 o1.2 64).1) sp110), (some b68, .cells (cel EI (List.replicate 64 0)).toArray 153 (0, 0)), (some b11, .cells (cel EI (o1.2 ++ o2.2)).toArray 154 (0, 0)), (some b1, .cells #[i64 ((0 : Int)), .slice none 0 0, .slice none 0 0] 70 (0, 0))] | 3, [v0, v1, _] => ∃ (wx101 : Int) (key108 : Option Nat) (c109 : Nat) (sp110 : List Value), v0 = i64 (wx101) ∧ v1 = .agg (cel EI ((piS 256 ((leG 256 (ze o2.1) o1.2 o2.2).1) wx101 o2.2 o1.2 64).2)).toArray ∧ True ∧ Sl EG key108 ((piS 256 ((leG 256 (ze o2.1) o1.2 o2.2).1) wx101 o2.2 o1.2 64).1) c109 sp110 ∧ wx101 = (leG 256 (ze o2.1) o1.2 o2.2).2 ∧ Hp No w w' [(some b5, .cells #[i64 (256 : Nat), .slice (ownA key108) (List.length ((piS 256 ((leG 256 (ze o2.1) o1.2 o2.2).1) wx101 o2.2 o1.2 64).1)) c109, .slice none 0 0] 151 (0, 0)), (key108, sob EG 99 ((piS 256 ((leG 256 (ze o2.1) o1.2 o2.2).1) wx101 o2.2 o1.2 64).1) sp110), (some b68, .cells (cel EI ((piS 256 ((leG 256 (ze o2.1) o1.2 o2.2).1) wx101 o2.2 o1.2 64).2)).toArray 153 (0, 0)), (some b11, .cells (cel EI (o1.2 ++ o2.2)).toArray 154 (0, 0)), (some b1, .cells #[i64 ((0 : Int)), .slice none 0 0, .slice none 0 0] 70 (0, 0))] | _, _ => False) mixed (by kernel_rfl) (by kernel_rfl) H86.drew ?_
  refine WalkC.look rfl (fun _ => pT b5) (fun _ _ _ => rfl) (fun q r uw _ _ _ _ => Gives.run rfl (r_move (v := pT b5) rfl) ⟨rfl, rfl⟩) ?_
  refine WalkC.look rfl (fun _ => pT b5) (fun _ _ _ => rfl) (fun q r uw _ _ _ _ => Gives.run rfl (r_move (v := pT b5) rfl) ⟨rfl, rfl⟩) ?_
  refine WalkC.look rfl (fun _ => pT b11) (fun _ _ _ => rfl) (fun q r uw _ _ _ _ => Gives.run rfl (r_indexA (off' := 0) (j := 0) arr154 (b := b11) (off := 0) rfl rfl (by first | rfl | omega | (simp; omega)) (by omega) (by omega)) ⟨rfl, rfl⟩) ?_
  refine WalkC.look rfl (fun _ => .agg (cel EI o1.2).toArray) (fun _ _ _ => rfl) (fun q r uw hlo hhi hle hF => ?_) ?_
  ·skip
   have h1 : 0 ≤ q := Nat.zero_le _
   have h2 : q ≤ 0 := hhi 0 6 rfl rfl
   rcases (show q = 0 by omega) with rfl
   ·skip
    have HH := hF
    exact Gives.run rfl ((r_loadA (cs' := (cel EI (((o1.2 ++ o2.2).drop 0).take 64)).toArray) agg153 siz153 (HH.get (k := 3) rfl) (off := 0) rfl (by rw [List.size_toArray, cel_length]; show _ ≤ _ * 1; omega) (by exact ext_mid _ _ _ rfl)).as (v' := .agg (cel EI o1.2).toArray) (by exact congrArg (fun q => Value.agg (cel EI q).toArray) (first_of hl1.2))) ⟨rfl, rfl⟩
  refine WalkC.look rfl (fun _ => .pointer (some ⟨b11, 64, none⟩)) (fun _ _ _ => rfl) (fun q r uw _ _ _ _ => Gives.run rfl (r_indexA (off' := 64) (j := 1) arr154 (b := b11) (off := 0) rfl rfl (by first | rfl | omega | (simp; omega)) (by omega) (by omega)) ⟨rfl, rfl⟩) ?_
  refine WalkC.look rfl (fun _ => .agg (cel EI o2.2).toArray) (fun _ _ _ => rfl) (fun q r uw hlo hhi hle hF => ?_) ?_
  ·skip
   have h1 : 0 ≤ q := Nat.zero_le _
   have h2 : q ≤ 0 := hhi 0 6 rfl rfl
   rcases (show q = 0 by omega) with rfl
   ·skip
    have HH := hF
    exact Gives.run rfl ((r_loadA (cs' := (cel EI (((o1.2 ++ o2.2).drop 64).take 64)).toArray) agg153 siz153 (HH.get (k := 3) rfl) (off := 64) rfl (by rw [List.size_toArray, cel_length]; show _ ≤ _ * 1; omega) (by exact ext_mid _ _ _ rfl)).as (v' := .agg (cel EI o2.2).toArray) (by exact congrArg (fun q => Value.agg (cel EI q).toArray) (second_of hl1.2 hl2.2))) ⟨rfl, rfl⟩
  refine WalkC.eff 0 rfl (fun r uw87 hF89 => ?_) ?_
  ·skip
   have H88 := hF89
   dsimp only [List.take, List.map, List.cons_append, List.nil_append]
   refine Gives.ofW (d := 116) rfl rfl (fun Q' hK => ?_)
   have H90 := (H88).as (L' := ((some b5, .cells #[i64 (256 : Nat), .slice (ownA key75) (List.length (ze o2.1)) c76, .slice none 0 0] 151 (0, 0)) :: (key75, sob EG 99 (ze o2.1) sp77) :: [(some b68, .cells (cel EI (List.replicate 64 0)).toArray 153 (0, 0)), (some b11, .cells (cel EI (o1.2 ++ o2.2)).toArray 154 (0, 0)), (some b1, .cells #[i64 ((0 : Int)), .slice none 0 0, .slice none 0 0] 70 (0, 0))])) rfl
   refine c_call (vs := [pT b5, .agg (cel EI o1.2).toArray, .agg (cel EI o2.2).toArray]) call77 rfl (mless_ok b5 256 key75 c76 sp77 (ze o2.1) hS85 (by omega) (by omega) o1.2 o2.2 (by omega) (by omega) [(some b68, .cells (cel EI (List.replicate 64 0)).toArray 153 (0, 0)), (some b11, .cells (cel EI (o1.2 ++ o2.2)).toArray 154 (0, 0)), (some b1, .cells #[i64 ((0 : Int)), .slice none 0 0, .slice none 0 0] 70 (0, 0))] w uw87 H90) ?_
   rintro wv99 w91 ⟨hwv100, key93, c94, sp95, hS96, HN97⟩
   obtain ⟨wx101, hwx101⟩ : ∃ q, q = (leG 256 (ze o2.1) o1.2 o2.2).2 := ⟨_, rfl⟩
   rw [← hwx101] at hwv100
   subst hwv100
   have H98 := HN97.as (L' := [(some b5, .cells #[i64 (256 : Nat), .slice (ownA key93) (List.length ((leG 256 (ze o2.1) o1.2 o2.2).1)) c94, .slice none 0 0] 151 (0, 0)), (key93, sob EG 99 ((leG 256 (ze o2.1) o1.2 o2.2).1) sp95), (some b68, .cells (cel EI (List.replicate 64 0)).toArray 153 (0, 0)), (some b11, .cells (cel EI (o1.2 ++ o2.2)).toArray 154 (0, 0)), (some b1, .cells #[i64 ((0 : Int)), .slice none 0 0, .slice none 0 0] 70 (0, 0))]) rfl
   exact hK _ _ ⟨wx101, key93, c94, sp95, rfl, hS96, hwx101, H98⟩
  refine WalkC.look rfl (fun _ => .pointer (some ⟨b11, 64, none⟩)) (fun _ _ _ => rfl) (fun q r uw _ _ _ _ => Gives.run rfl (r_indexA (off' := 64) (j := 1) arr154 (b := b11) (off := 0) rfl rfl (by first | rfl | omega | (simp; omega)) (by omega) (by omega)) ⟨rfl, rfl⟩) ?_
  refine WalkC.look rfl (fun _ => .agg (cel EI o2.2).toArray) (fun _ _ _ => rfl) (fun q r uw hlo hhi hle hF => ?_) ?_
  ·skip
   have h1 : 0 ≤ q := Nat.zero_le _
   have h2 : q ≤ 1 := hhi 1 11 rfl rfl
   rcases (show q = 0 ∨ q = 1 by omega) with rfl | rfl
   ·skip
    have HH := hF
    exact Gives.run rfl ((r_loadA (cs' := (cel EI (((o1.2 ++ o2.2).drop 64).take 64)).toArray) agg153 siz153 (HH.get (k := 3) rfl) (off := 64) rfl (by rw [List.size_toArray, cel_length]; show _ ≤ _ * 1; omega) (by exact ext_mid _ _ _ rfl)).as (v' := .agg (cel EI o2.2).toArray) (by exact congrArg (fun q => Value.agg (cel EI q).toArray) (second_of hl1.2 hl2.2))) ⟨rfl, rfl⟩
   ·skip
    obtain ⟨wx101, key93, c94, sp95, e6, hS96, hwx101, HH⟩ := hF
    exact Gives.run rfl ((r_loadA (cs' := (cel EI (((o1.2 ++ o2.2).drop 64).take 64)).toArray) agg153 siz153 (HH.get (k := 3) rfl) (off := 64) rfl (by rw [List.size_toArray, cel_length]; show _ ≤ _ * 1; omega) (by exact ext_mid _ _ _ rfl)).as (v' := .agg (cel EI o2.2).toArray) (by exact congrArg (fun q => Value.agg (cel EI q).toArray) (second_of hl1.2 hl2.2))) ⟨rfl, rfl⟩
  refine WalkC.look rfl (fun _ => pT b11) (fun _ _ _ => rfl) (fun q r uw _ _ _ _ => Gives.run rfl (r_indexA (off' := 0) (j := 0) arr154 (b := b11) (off := 0) rfl rfl (by first | rfl | omega | (simp; omega)) (by omega) (by omega)) ⟨rfl, rfl⟩) ?_
  refine WalkC.look rfl (fun _ => .agg (cel EI o1.2).toArray) (fun _ _ _ => rfl) (fun q r uw hlo hhi hle hF => ?_) ?_
  ·skip
   have h1 : 0 ≤ q := Nat.zero_le _
   have h2 : q ≤ 1 := hhi 1 11 rfl rfl
   rcases (show q = 0 ∨ q = 1 by omega) with rfl | rfl
   ·skip
    have HH := hF
    exact Gives.run rfl ((r_loadA (cs' := (cel EI (((o1.2 ++ o2.2).drop 0).take 64)).toArray) agg153 siz153 (HH.get (k := 3) rfl) (off := 0) rfl (by rw [List.size_toArray, cel_length]; show _ ≤ _ * 1; omega) (by exact ext_mid _ _ _ rfl)).as (v' := .agg (cel EI o1.2).toArray) (by exact congrArg (fun q => Value.agg (cel EI q).toArray) (first_of hl1.2))) ⟨rfl, rfl⟩
   ·skip
    obtain ⟨wx101, key93, c94, sp95, e6, hS96, hwx101, HH⟩ := hF
    exact Gives.run rfl ((r_loadA (cs' := (cel EI (((o1.2 ++ o2.2).drop 0).take 64)).toArray) agg153 siz153 (HH.get (k := 3) rfl) (off := 0) rfl (by rw [List.size_toArray, cel_length]; show _ ≤ _ * 1; omega) (by exact ext_mid _ _ _ rfl)).as (v' := .agg (cel EI o1.2).toArray) (by exact congrArg (fun q => Value.agg (cel EI q).toArray) (first_of hl1.2))) ⟨rfl, rfl⟩
  refine WalkC.eff 1 rfl (fun r uw102 hF104 => ?_) ?_
  ·skip
   obtain ⟨wx101, key93, c94, sp95, e6, hS96, hwx101, H103⟩ := hF104
   dsimp only [List.take, List.map, List.cons_append, List.nil_append]
   rw [e6]
   refine Gives.ofW (d := 121) rfl rfl (fun Q' hK => ?_)
   have hlg := leG_len 256 (ze o2.1) o1.2 o2.2
   have H105 := (H103).as (L' := ((some b5, .cells #[i64 (256 : Nat), .slice (ownA key93) (List.length ((leG 256 (ze o2.1) o1.2 o2.2).1)) c94, .slice none 0 0] 151 (0, 0)) :: (key93, sob EG 99 ((leG 256 (ze o2.1) o1.2 o2.2).1) sp95) :: [(some b68, .cells (cel EI (List.replicate 64 0)).toArray 153 (0, 0)), (some b11, .cells (cel EI (o1.2 ++ o2.2)).toArray 154 (0, 0)), (some b1, .cells #[i64 ((0 : Int)), .slice none 0 0, .slice none 0 0] 70 (0, 0))])) rfl
   refine c_call (vs := [pT b5, i64 (wx101), .agg (cel EI o2.2).toArray, .agg (cel EI o1.2).toArray]) call78 rfl (mpick_ok b5 256 key93 c94 sp95 ((leG 256 (ze o2.1) o1.2 o2.2).1) hS96 (by omega) (by omega) wx101 o2.2 o1.2 (by omega) (by omega) [(some b68, .cells (cel EI (List.replicate 64 0)).toArray 153 (0, 0)), (some b11, .cells (cel EI (o1.2 ++ o2.2)).toArray 154 (0, 0)), (some b1, .cells #[i64 ((0 : Int)), .slice none 0 0, .slice none 0 0] 70 (0, 0))] w uw102 H105) ?_
   rintro _ w106 ⟨rfl, key108, c109, sp110, hS111, HN112⟩
   have H113 := HN112.as (L' := [(some b5, .cells #[i64 (256 : Nat), .slice (ownA key108) (List.length ((piS 256 ((leG 256 (ze o2.1) o1.2 o2.2).1) wx101 o2.2 o1.2 64).1)) c109, .slice none 0 0] 151 (0, 0)), (key108, sob EG 99 ((piS 256 ((leG 256 (ze o2.1) o1.2 o2.2).1) wx101 o2.2 o1.2 64).1) sp110), (some b68, .cells (cel EI (List.replicate 64 0)).toArray 153 (0, 0)), (some b11, .cells (cel EI (o1.2 ++ o2.2)).toArray 154 (0, 0)), (some b1, .cells #[i64 ((0 : Int)), .slice none 0 0, .slice none 0 0] 70 (0, 0))]) rfl
   exact hK _ _ ⟨wx101, key108, c109, sp110, rfl, rfl, hS111, hwx101, H113⟩
  refine WalkC.eff 2 rfl (fun r uw114 hF116 => ?_) ?_
  ·skip
   obtain ⟨wx101, key108, c109, sp110, e6, e11, hS111, hwx101, H115⟩ := hF116
   dsimp only [List.take, List.map, List.cons_append, List.nil_append]
   rw [e6, e11]
   refine Gives.ofW0 rfl (fun Q' hK => ?_)
   have hnr : ((piS 256 ((leG 256 (ze o2.1) o1.2 o2.2).1) wx101 o2.2 o1.2 64).2).length = 64 := (piS_len _ _ _ _ _ _).2
   refine d_store (k := 2) (v := .agg (cel EI ((piS 256 ((leG 256 (ze o2.1) o1.2 o2.2).1) wx101 o2.2 o1.2 64).2)).toArray) (cs' := (cel EI ((piS 256 ((leG 256 (ze o2.1) o1.2 o2.2).1) wx101 o2.2 o1.2 64).2)).toArray) H115 rfl rfl rfl siz153 (by exact celSize (by rw [hnr]; rfl)) (by exact celOne _) (by rw [List.size_toArray, cel_length]; show _ ≤ _ * 1; first | omega | (simp only [List.length_set]; omega) | exact bLe rfl | (simp <;> omega)) (by exact putAll (by rw [List.length_replicate]; exact hnr.symm)) ?_
   intro w117 H118 hC119
   have H118' := H118.as (L' := [(some b5, .cells #[i64 (256 : Nat), .slice (ownA key108) (List.length ((piS 256 ((leG 256 (ze o2.1) o1.2 o2.2).1) wx101 o2.2 o1.2 64).1)) c109, .slice none 0 0] 151 (0, 0)), (key108, sob EG 99 ((piS 256 ((leG 256 (ze o2.1) o1.2 o2.2).1) wx101 o2.2 o1.2 64).1) sp110), (some b68, .cells (cel EI ((piS 256 ((leG 256 (ze o2.1) o1.2 o2.2).1) wx101 o2.2 o1.2 64).2)).toArray 153 (0, 0)), (some b11, .cells (cel EI (o1.2 ++ o2.2)).toArray 154 (0, 0)), (some b1, .cells #[i64 ((0 : Int)), .slice none 0 0, .slice none 0 0] 70 (0, 0))]) rfl
   clear H118
   exact hK _ (fun _ => ⟨wx101, key108, c109, sp110, rfl, rfl, trivial, hS111, hwx101, H118'⟩)
  refine WalkC.nil ?_
  intro r120 w121 hF123
  obtain ⟨wx101, key108, c109, sp110, e6, e11, e12, hS111, hwx101, H122⟩ := hF123
  dsimp only
  rw [e6, e11]
  subst hwx101
  have hrl : (piS 256 (leG 256 (ze o2.1) o1.2 o2.2).1 (leG 256 (ze o2.1) o1.2 o2.2).2 o2.2 o1.2 64).2.length = 64 := (piS_len _ _ _ _ _ _).2
  refine wnil ?_
  refine blockNormal ?_
  refine thenNormal ?_
  refine sR ?_
  refine sM (pT b5) rfl ?_
  refine sq (r_sliceA0 arr153 (b := b68) (off := 0) rfl (bLe rfl)) ?_
  refine sq (r_nilCheck rfl) ?_
  refine sq (r_fieldAddr (off' := 0) fld151_0 (by decide) (b := b5) (off := 0) rfl (by omega)) ?_
  refine sq (r_fieldAddr (off' := 2) fld70_2 (by decide) (b := b5) (off := 0) rfl (by omega)) ?_
  refine d_store (k := 0) (v := .slice (some ⟨b68, 0, none⟩) 64 64) (cs' := #[i64 (256 : Nat), .slice (ownA key108) (List.length ((piS 256 ((leG 256 (ze o2.1) o1.2 o2.2).1) ((leG 256 (ze o2.1) o1.2 o2.2).2) o2.2 o1.2 64).1)) c109, .slice (some ⟨b68, 0, none⟩) 64 64]) H122 rfl rfl rfl siz60 (by rfl) (by intro u hu; simp [Value.cells] at hu; first | (subst hu; rfl) | (rcases hu with rfl <;> rfl)) (by exact bLe rfl) (by rfl) ?_
  intro w124 H125 hC126
  have H125' := H125.as (L' := [(some b5, .cells #[i64 (256 : Nat), .slice (ownA key108) (List.length ((piS 256 ((leG 256 (ze o2.1) o1.2 o2.2).1) ((leG 256 (ze o2.1) o1.2 o2.2).2) o2.2 o1.2 64).1)) c109, .slice (some ⟨b68, 0, none⟩) 64 64] 151 (0, 0)), (key108, sob EG 99 ((piS 256 ((leG 256 (ze o2.1) o1.2 o2.2).1) ((leG 256 (ze o2.1) o1.2 o2.2).2) o2.2 o1.2 64).1) sp110), (some b68, .cells (cel EI ((piS 256 ((leG 256 (ze o2.1) o1.2 o2.2).1) ((leG 256 (ze o2.1) o1.2 o2.2).2) o2.2 o1.2 64).2)).toArray 153 (0, 0)), (some b11, .cells (cel EI (o1.2 ++ o2.2)).toArray 154 (0, 0)), (some b1, .cells #[i64 ((0 : Int)), .slice none 0 0, .slice none 0 0] 70 (0, 0))]) rfl
  clear H125
  refine wend ?_
  refine sR ?_
  refine sM (pT b5) rfl ?_
  refine sq (r_nilCheck rfl) ?_
  refine sq (r_fieldAddr (off' := 0) fld151_0 (by decide) (b := b5) (off := 0) rfl (by omega)) ?_
  refine sq (r_loadA (cs' := #[i64 (256 : Nat), .slice (ownA key108) (List.length ((piS 256 ((leG 256 (ze o2.1) o1.2 o2.2).1) ((leG 256 (ze o2.1) o1.2 o2.2).2) o2.2 o1.2 64).1)) c109, .slice (some ⟨b68, 0, none⟩) 64 64]) agg70 siz70 (H125'.get (k := 0) rfl) (off := 0) rfl (by exact bLe rfl) (by rfl)) ?_
  refine d_store (k := 4) (v := .agg #[i64 (256 : Nat), .slice (ownA key108) (List.length ((piS 256 ((leG 256 (ze o2.1) o1.2 o2.2).1) ((leG 256 (ze o2.1) o1.2 o2.2).2) o2.2 o1.2 64).1)) c109, .slice (some ⟨b68, 0, none⟩) 64 64]) (cs' := #[i64 (256 : Nat), .slice (ownA key108) (List.length ((piS 256 ((leG 256 (ze o2.1) o1.2 o2.2).1) ((leG 256 (ze o2.1) o1.2 o2.2).2) o2.2 o1.2 64).1)) c109, .slice (some ⟨b68, 0, none⟩) 64 64]) H125' rfl rfl rfl siz70 (by rfl) (by intro u hu; simp [Value.cells] at hu; first | (subst hu; rfl) | (rcases hu with rfl | rfl | rfl <;> rfl)) (by exact bLe rfl) (by rfl) ?_
  intro w127 H128 hC129
  have H128' := H128.as (L' := [(some b5, .cells #[i64 (256 : Nat), .slice (ownA key108) (List.length ((piS 256 ((leG 256 (ze o2.1) o1.2 o2.2).1) ((leG 256 (ze o2.1) o1.2 o2.2).2) o2.2 o1.2 64).1)) c109, .slice (some ⟨b68, 0, none⟩) 64 64] 151 (0, 0)), (key108, sob EG 99 ((piS 256 ((leG 256 (ze o2.1) o1.2 o2.2).1) ((leG 256 (ze o2.1) o1.2 o2.2).2) o2.2 o1.2 64).1) sp110), (some b68, .cells (cel EI ((piS 256 ((leG 256 (ze o2.1) o1.2 o2.2).1) ((leG 256 (ze o2.1) o1.2 o2.2).2) o2.2 o1.2 64).2)).toArray 153 (0, 0)), (some b11, .cells (cel EI (o1.2 ++ o2.2)).toArray 154 (0, 0)), (some b1, .cells #[i64 (256 : Nat), .slice (ownA key108) (List.length ((piS 256 ((leG 256 (ze o2.1) o1.2 o2.2).1) ((leG 256 (ze o2.1) o1.2 o2.2).2) o2.2 o1.2 64).1)) c109, .slice (some ⟨b68, 0, none⟩) 64 64] 70 (0, 0))]) rfl
  clear H128
  refine sA (.nilIface) rfl ?_
  refine wend ?_
  refine retAny ?_
  refine retG (rs := [.cell 4 70, .tmp 5]) (vs := [.agg #[i64 (256 : Nat), .slice (ownA key108) (List.length ((piS 256 ((leG 256 (ze o2.1) o1.2 o2.2).1) ((leG 256 (ze o2.1) o1.2 o2.2).2) o2.2 o1.2 64).1)) c109, .slice (some ⟨b68, 0, none⟩) 64 64], .nilIface]) rfl ⟨r_loadA (cs' := #[i64 (256 : Nat), .slice (ownA key108) (List.length ((piS 256 ((leG 256 (ze o2.1) o1.2 o2.2).1) ((leG 256 (ze o2.1) o1.2 o2.2).2) o2.2 o1.2 64).1)) c109, .slice (some ⟨b68, 0, none⟩) 64 64]) agg70 siz70 (H128'.get (k := 4) rfl) (off := 0) rfl (by exact bLe rfl) (by rfl), ⟨rfl, rfl⟩, trivial⟩ ?_
  rw [mk3_eq ho1 ho2]
  exact ⟨_, rfl, key108, c109, sp110, b68, rfl, hS111, (((H128'.dropk 4).dropk 3).dropk 0)⟩
end Go.Proofs.YteofdmdpaejgaaaDoor.Cm
namespace Go.Proofs.YteofdmdpaejgaaaDoor.Cm
open Go Go.Proofs.YteofdmdpaejgaaaDoor.Vc Go.Proofs.YteofdmdpaejgaaaDoor.Er Go.Proofs.YteofdmdpaejgaaaDoor.Circ
set_option linter.unusedVariables false
theorem sli60 : sli Tryd.prog 60 = some (3, 1) := by kernel_rfl
theorem zer3 : zer Tryd.prog 3 = some (.int .i64 0) := by kernel_rfl
end Go.Proofs.YteofdmdpaejgaaaDoor.Cm
namespace Go.Proofs.YteofdmdpaejgaaaDoor.Cm
open Go Go.Proofs.YteofdmdpaejgaaaDoor.Vc Go.Proofs.YteofdmdpaejgaaaDoor.Er Go.Proofs.YteofdmdpaejgaaaDoor.Circ
set_option linter.unusedVariables false
theorem call82 : callable Tryd.prog 82 = true := by kernel_rfl
theorem rls_ok (x y : BitVec 64) (w : World) : Calls Tryd.prog 82 [u64 (x), u64 (y)].toArray w (Ret fun v w' => v = u64 (if lsS x y = true then 1#64 else 0#64) ∧ Ext w w') := by
 have H := Hp.start No w
 refine enter (n := 10) Tryd.func82 rfl rfl (bLe rfl) ?_
 refine sR ?_
 refine sA (u64 (0#64)) rfl ?_
 refine wend ?_
 refine seqAny ?_
 refine sR ?_
 refine sM (u64 (x)) rfl ?_
 refine sq (r_add64 (a := x) (b := 9223372036854775808#64) rfl rfl) ?_
 refine sM (u64 (y)) rfl ?_
 refine sq (r_add64 (a := y) (b := 9223372036854775808#64) rfl rfl) ?_
 refine sq (r_lss64 (a := x + (9223372036854775808#64)) (b := y + (9223372036854775808#64)) rfl rfl) ?_
 refine wend ?_
 refine condProp ((x + (9223372036854775808#64)).toNat < (y + (9223372036854775808#64)).toNat) rfl (fun c9 => ?_) (fun c9 => ?_)
 ·skip
  refine sR ?_
  refine sA (u64 (1#64)) rfl ?_
  refine wend ?_
  refine retAny ?_
  refine thenRet ?_
  refine retG (rs := [.tmp 4]) (vs := [u64 (1#64)]) rfl ⟨⟨rfl, rfl⟩, trivial⟩ ?_
  exact ⟨_, rfl, congrArg u64 (by rw [if_pos (show lsS x y = true from decide_eq_true c9)]), H.chg⟩
 ·skip
  refine skipAny ?_
  refine thenNormal ?_
  refine sR ?_
  refine sA (u64 (0#64)) rfl ?_
  refine wend ?_
  refine retAny ?_
  refine retG (rs := [.tmp 4]) (vs := [u64 (0#64)]) rfl ⟨⟨rfl, rfl⟩, trivial⟩ ?_
  exact ⟨_, rfl, congrArg u64 (by rw [if_neg (by rw [show lsS x y = false from decide_eq_false c9]; decide)]), H.chg⟩
theorem rsays_ok (k : Nat) (x y : BitVec 64) (w : World) : Calls Tryd.prog 40 [i64 (k : Nat), u64 (x), u64 (y)].toArray w (Ret fun v w' => v = u64 (saysS k x y) ∧ Ext w w') := by
 have H := Hp.start No w
 refine enter (n := 25) Tryd.func40 rfl rfl (bLe rfl) ?_
 refine sR ?_
 refine sA (u64 (0#64)) rfl ?_
 refine wend ?_
 refine seqAny ?_
 refine sR ?_
 refine sM (i64 (k : Nat)) rfl ?_
 refine wend ?_
 refine blockAny ?_
 refine sR ?_
 refine sq (r_eqlI (a := (k : Nat)) (b := (1 : Int)) rfl rfl) ?_
 refine sA (.bool (decide (((k : Nat) : Int) = (1 : Int)))) rfl ?_
 refine wend ?_
 refine condProp (((k : Nat) : Int) = (1 : Int)) rfl (fun c8 => ?_) (fun c8 => ?_)
 ·skip
  have hk1 : k = 1 := by omega
  refine seqAny ?_
  refine sR ?_
  refine sM (u64 (x)) rfl ?_
  refine c_call (vs := [u64 (x), u64 (0#64)]) call82 rfl (rls_ok x (0#64) w) ?_
  rintro _ w1 ⟨rfl, hE2⟩
  have H3 := H.ext hE2
  refine sq ((r_eql64 (a := if lsS x (0#64) = true then 1#64 else 0#64) (b := 1#64) rfl rfl).as (v' := .bool (lsS x 0#64)) (by exact congrArg Value.bool (ls_one _))) ?_
  refine wend ?_
  refine condBool (lsS x 0#64) rfl (fun c12 => ?_) (fun c12 => ?_)
  ·skip
   refine sR ?_
   refine sA (u64 (0#64)) rfl ?_
   refine wend ?_
   refine retAny ?_
   refine thenRet ?_
   refine blockRet ?_
   refine thenRet ?_
   refine retG (rs := [.tmp 6]) (vs := [u64 (0#64)]) rfl ⟨⟨rfl, rfl⟩, trivial⟩ ?_
   exact ⟨_, rfl, congrArg u64 (by subst hk1; exact says1_t c12), H3.chg⟩
  ·skip
   refine skipAny ?_
   refine thenNormal ?_
   refine sR ?_
   refine sM (u64 (x)) rfl ?_
   refine sA (u64 (x)) rfl ?_
   refine wend ?_
   refine retAny ?_
   refine blockRet ?_
   refine thenRet ?_
   refine retG (rs := [.tmp 6]) (vs := [u64 (x)]) rfl ⟨⟨rfl, rfl⟩, trivial⟩ ?_
   exact ⟨_, rfl, congrArg u64 (by subst hk1; exact says1_f c12), H3.chg⟩
 ·skip
  have hk1 : k ≠ 1 := by omega
  refine sR ?_
  refine sq (r_eqlI (a := (k : Nat)) (b := (2 : Int)) rfl rfl) ?_
  refine sA (.bool (decide (((k : Nat) : Int) = (2 : Int)))) rfl ?_
  refine wend ?_
  refine condProp (((k : Nat) : Int) = (2 : Int)) rfl (fun c14 => ?_) (fun c14 => ?_)
  ·skip
   have hk2 : k = 2 := by omega
   refine sR ?_
   refine sM (u64 (x)) rfl ?_
   refine sM (u64 (y)) rfl ?_
   refine c_call (vs := [u64 (x), u64 (y)]) call82 rfl (rls_ok x y w) ?_
   rintro _ w4 ⟨rfl, hE5⟩
   have H6 := H.ext hE5
   refine sA (u64 (if lsS x y = true then 1#64 else 0#64)) rfl ?_
   refine wend ?_
   refine retAny ?_
   refine blockRet ?_
   refine thenRet ?_
   refine retG (rs := [.tmp 6]) (vs := [u64 (if lsS x y = true then 1#64 else 0#64)]) rfl ⟨⟨rfl, rfl⟩, trivial⟩ ?_
   exact ⟨_, rfl, congrArg u64 (by subst hk2; exact says2), H6.chg⟩
  ·skip
   have hk2 : k ≠ 2 := by omega
   refine skipAny ?_
   refine blockNormal ?_
   refine thenNormal ?_
   refine seqAny ?_
   refine sR ?_
   refine sM (u64 (x)) rfl ?_
   refine sM (u64 (y)) rfl ?_
   refine c_call (vs := [u64 (x), u64 (y)]) call82 rfl (rls_ok x y w) ?_
   rintro _ w7 ⟨rfl, hE8⟩
   have H9 := H.ext hE8
   refine sq ((r_eql64 (a := if lsS x y = true then 1#64 else 0#64) (b := 1#64) rfl rfl).as (v' := .bool (lsS x y)) (by exact congrArg Value.bool (ls_one _))) ?_
   refine wend ?_
   refine condBool (lsS x y) rfl (fun c22 => ?_) (fun c22 => ?_)
   ·skip
    refine sR ?_
    refine sM (u64 (y)) rfl ?_
    refine sA (u64 (y)) rfl ?_
    refine wend ?_
    refine retAny ?_
    refine thenRet ?_
    refine retG (rs := [.tmp 6]) (vs := [u64 (y)]) rfl ⟨⟨rfl, rfl⟩, trivial⟩ ?_
    exact ⟨_, rfl, congrArg u64 (by exact says3_t hk1 hk2 c22), H9.chg⟩
   ·skip
    refine skipAny ?_
    refine thenNormal ?_
    refine sR ?_
    refine sM (u64 (x)) rfl ?_
    refine sA (u64 (x)) rfl ?_
    refine wend ?_
    refine retAny ?_
    refine retG (rs := [.tmp 6]) (vs := [u64 (x)]) rfl ⟨⟨rfl, rfl⟩, trivial⟩ ?_
    exact ⟨_, rfl, congrArg u64 (by exact says3_f hk1 hk2 c22), H9.chg⟩
theorem rwhole_ok (f : BitVec 64) (i : Nat) (a b : BitVec 64) (w : World) : Calls Tryd.prog 38 [u64 (f), i64 (i : Nat), u64 (a), u64 (b)].toArray w (Ret fun v w' => v = u64 (whS (fbS f i) a b) ∧ Ext w w') := by
 have H := Hp.start No w
 refine enter (n := 20) Tryd.func38 rfl rfl (bLe rfl) ?_
 refine sR ?_
 refine sA (u64 (0#64)) rfl ?_
 refine wend ?_
 refine seqAny ?_
 refine sR ?_
 refine sM (u64 (f)) rfl ?_
 refine sM (i64 (i : Nat)) rfl ?_
 refine sq (r_shr64 (a := f) (c := i) rfl rfl) ?_
 refine sq (r_rem64 (a := f >>> (i : Nat)) (b := 2#64) rfl rfl (by decide)) ?_
 refine sq (r_eql64 (a := (f >>> (i : Nat)) % (2#64)) (b := 1#64) rfl rfl) ?_
 refine wend ?_
 refine condProp (((f >>> (i : Nat)) % (2#64)) = (1#64)) rfl (fun c13 => ?_) (fun c13 => ?_)
 ·skip
  refine sR ?_
  refine sM (u64 (a)) rfl ?_
  refine sM (u64 (b)) rfl ?_
  refine sq (r_xor64 (a := a) (b := b) rfl rfl) ?_
  refine sA (u64 (a ^^^ b)) rfl ?_
  refine wend ?_
  refine retAny ?_
  refine thenRet ?_
  refine retG (rs := [.tmp 8]) (vs := [u64 (a ^^^ b)]) rfl ⟨⟨rfl, rfl⟩, trivial⟩ ?_
  exact ⟨_, rfl, congrArg u64 (wh_t c13), H.chg⟩
 ·skip
  refine skipAny ?_
  refine thenNormal ?_
  refine sR ?_
  refine sM (u64 (a)) rfl ?_
  refine sM (u64 (b)) rfl ?_
  refine sq (r_add64 (a := a) (b := b) rfl rfl) ?_
  refine sA (u64 (a + b)) rfl ?_
  refine wend ?_
  refine retAny ?_
  refine retG (rs := [.tmp 8]) (vs := [u64 (a + b)]) rfl ⟨⟨rfl, rfl⟩, trivial⟩ ?_
  exact ⟨_, rfl, congrArg u64 (wh_f c13), H.chg⟩
end Go.Proofs.YteofdmdpaejgaaaDoor.Cm
namespace Go.Proofs.YteofdmdpaejgaaaDoor.Cm
open Go Go.Proofs.YteofdmdpaejgaaaDoor.Vc Go.Proofs.YteofdmdpaejgaaaDoor.Er Go.Proofs.YteofdmdpaejgaaaDoor.Circ
set_option linter.unusedVariables false
theorem one60 : isOne Tryd.prog 60 = true := by kernel_rfl
end Go.Proofs.YteofdmdpaejgaaaDoor.Cm
namespace Go.Proofs.YteofdmdpaejgaaaDoor.Cm
open Go Go.Proofs.YteofdmdpaejgaaaDoor.Vc Go.Proofs.YteofdmdpaejgaaaDoor.Er Go.Proofs.YteofdmdpaejgaaaDoor.Circ
set_option linter.unusedVariables false
theorem arr67 : arr Tryd.prog 67 = some (4, 1) := by kernel_rfl
theorem byt4 : byt Tryd.prog 4 = some 1 := by kernel_rfl
theorem call29 : callable Tryd.prog 29 = true := by kernel_rfl
theorem call31 : callable Tryd.prog 31 = true := by kernel_rfl
theorem call32 : callable Tryd.prog 32 = true := by kernel_rfl
theorem call38 : callable Tryd.prog 38 = true := by kernel_rfl
theorem call40 : callable Tryd.prog 40 = true := by kernel_rfl
theorem fits32 : Fits Tryd.prog 32 E64 := fits64 (by kernel_rfl) (by kernel_rfl)
theorem isI27 : isI Tryd.prog 27 = true := by kernel_rfl
theorem sli76 : sli Tryd.prog 76 = some (4, 1) := by kernel_rfl
theorem zer4 : zer Tryd.prog 4 = some (.bool false) := by kernel_rfl
end Go.Proofs.YteofdmdpaejgaaaDoor.Cm
namespace Go.Proofs.YteofdmdpaejgaaaDoor.Aes
open Go Go.Proofs.YteofdmdpaejgaaaDoor.Vc Go.Proofs.YteofdmdpaejgaaaDoor.AesSpec
def CiphR (ks bx : List By) (w : World) (v : Value) (w' : World) : Prop := ∃ kk kc ksp kb cb spb, v = .agg #[.slice (ownA kk) 176 kc, .slice (ownA kb) 256 cb] ∧ Sl E8 kk ks kc ksp ∧ Sl E8 kb bx cb spb ∧ Hp No w w' [(kb, sob E8 5 bx spb), (kk, sob E8 5 ks ksp)]
theorem CiphR.ext {ks bx : List By} {w : World} {v : Value} {w1 w2 : World} (h : CiphR ks bx w v w1) (hE : Ext w1 w2) : CiphR ks bx w v w2 := by
 obtain ⟨kk, kc, ksp, kb, cb, spb, h1, h2, h3, h4⟩ := h
 exact ⟨kk, kc, ksp, kb, cb, spb, h1, h2, h3, h4.ext hE⟩
theorem CiphR.rd {ks bx : List By} {w0 w : World} {v : Value} (h : CiphR ks bx w0 v w) (hk : ks.length = 176) : ∃ xk ck xb cb, v = .agg #[.slice xk 176 ck, .slice xb 256 cb] ∧ 176 ≤ ck ∧ Rd E8 w xk ks ∧ Rd E8 w xb bx := by
 obtain ⟨kk, kc, ksp, kb, cb, spb, h1, h2, h3, h4⟩ := h
 exact ⟨_, _, _, _, h1, hk ▸ h2.cap, h4.rd (k := 1) rfl h2, h4.rd (k := 0) rfl h3⟩
end Go.Proofs.YteofdmdpaejgaaaDoor.Aes
namespace Go.Proofs.YteofdmdpaejgaaaDoor.Er
open Go Go.Proofs.YteofdmdpaejgaaaDoor.Vc Go.Proofs.YteofdmdpaejgaaaDoor.Aes Go.Proofs.YteofdmdpaejgaaaDoor.AesSpec
attribute [local irreducible] wordL cipher wordR
theorem call117 : callable Tryd.prog 117 = true := by kernel_rfl
theorem call64 : callable Tryd.prog 64 = true := by kernel_rfl
theorem call97 : callable Tryd.prog 97 = true := by kernel_rfl
theorem fld141_1 : fld Tryd.prog 141 1 = some (1, 1, 139) := by kernel_rfl
theorem fld141_2 : fld Tryd.prog 141 2 = some (2, 1, 3) := by kernel_rfl
theorem fld141_3 : fld Tryd.prog 141 3 = some (3, 1, 3) := by kernel_rfl
theorem one139 : isOne Tryd.prog 139 = true := by kernel_rfl
theorem pls141 : pls Tryd.prog 141 = some #[(0, 1), (1, 1), (2, 1), (3, 1)] := by kernel_rfl
theorem siz3 : siz Tryd.prog 3 = some 1 := by kernel_rfl
theorem und139 : Tryd.prog.underlying 139 = some (.pointer 215) := by kernel_rfl
theorem zer141 : zer Tryd.prog 141 = some (.agg #[.slice none 0 0, .pointer none, .int .i64 0, .int .i64 0]) := by kernel_rfl
theorem left_ok (b n u : Nat) (x0 x1 : Value) (w : World) (hb : w.heap[b]? = some (.cells #[x0, x1, i64 (n : Nat), i64 (u : Nat)] 141 (0, 0))) (hu : u ≤ n) (hn : n ≤ 140737488355328) : Calls Tryd.prog 64 [pT b].toArray w (Ret fun v w' => v = i64 ((n : Nat) - (u : Nat)) ∧ Ext w w') := by
 have H := Hp.start No w
 refine enter (n := 12) Tryd.func64 rfl rfl (bLe rfl) ?_
 refine sR ?_
 refine sA (i64 ((0 : Int))) rfl ?_
 refine wend ?_
 refine seqAny ?_
 refine drawAny (K := [none, none, none, none, none, none, none, none, none, none]) [0, 1, 3, 7, 0, 16, 48, 112, 255, 511] (fun w' => Ext w w') (fun w' w'' => Ext w' w'') mixed (by kernel_rfl) (Ext.drew _) (fun _ _ h h' => h.trans h') ?_ ?_
 ·exact relNone (by decide)
 refine ⟨pT b, fun _ uw1 hC2 _ => Gives.run rfl (r_move (v := pT b) rfl) ⟨rfl, Chg.refl _ _⟩, ?_⟩
 refine ⟨pT b, fun _ uw3 hC4 _ => Gives.run rfl (r_nilCheck rfl) ⟨rfl, Chg.refl _ _⟩, ?_⟩
 refine ⟨.pointer (some ⟨b, 2, none⟩), fun _ uw5 hC6 _ => Gives.run rfl (r_fieldAddr (off' := 2) fld141_2 (by decide) (b := b) (off := 0) rfl (by omega)) ⟨rfl, Chg.refl _ _⟩, ?_⟩
 refine ⟨i64 (n : Nat), fun _ uw7 hC8 _ => Gives.run rfl (r_loadC (v := i64 (n : Nat)) one3 ((H.ext hC8).keepE hb) (off := 2) rfl (by rfl)) ⟨rfl, Chg.refl _ _⟩, ?_⟩
 refine ⟨pT b, fun _ uw9 hC10 _ => Gives.run rfl (r_move (v := pT b) rfl) ⟨rfl, Chg.refl _ _⟩, ?_⟩
 refine ⟨pT b, fun _ uw11 hC12 _ => Gives.run rfl (r_nilCheck rfl) ⟨rfl, Chg.refl _ _⟩, ?_⟩
 refine ⟨.pointer (some ⟨b, 3, none⟩), fun _ uw13 hC14 _ => Gives.run rfl (r_fieldAddr (off' := 3) fld141_3 (by decide) (b := b) (off := 0) rfl (by omega)) ⟨rfl, Chg.refl _ _⟩, ?_⟩
 refine ⟨i64 (u : Nat), fun _ uw15 hC16 _ => Gives.run rfl (r_loadC (v := i64 (u : Nat)) one3 ((H.ext hC16).keepE hb) (off := 3) rfl (by rfl)) ⟨rfl, Chg.refl _ _⟩, ?_⟩
 refine ⟨i64 ((n : Nat) - (u : Nat)), fun _ uw17 hC18 _ => Gives.run rfl (r_subI (a := (n : Nat)) (b := (u : Nat)) rfl rfl (by omega)) ⟨rfl, Chg.refl _ _⟩, ?_⟩
 refine ⟨i64 ((n : Nat) - (u : Nat)), fun _ uw19 hC20 _ => Gives.run rfl (r_assign (v := i64 ((n : Nat) - (u : Nat))) rfl) ⟨rfl, Chg.refl _ _⟩, ?_⟩
 intro r24 w21 hE23 hF
 have H22 := H.ext hE23
 refine wnil ?_
 refine thenNormal ?_
 refine retAny ?_
 refine retG (rs := [.tmp 2]) (vs := [i64 ((n : Nat) - (u : Nat))]) rfl ⟨⟨rfl, rfl⟩, trivial⟩ ?_
 exact ⟨_, rfl, rfl, H22.chg⟩
theorem next_hit_c (b bc u n : Nat) (cl : List By) (hcl : cl.length = 432) (w : World) (hb : w.heap[b]? = some (.cells #[.slice none 0 0, pT bc, i64 (n : Nat), i64 (u : Nat)] 141 (0, 0))) (hc : ∀ w', Chg (· = b) w w' → w'.heap[bc]? = some (.cells (cel E8 cl).toArray 215 (0, 0))) (hn : n ≤ 1048576) (hu : u < n) : Calls Tryd.prog 97 [pT b].toArray w (Ret fun v w' => v = .tuple #[u64 (wordL cl (BitVec.ofInt 64 ((u : Nat)))), .nilIface] ∧ Chg (· = b) w w' ∧ w'.heap[b]? = some (.cells #[.slice none 0 0, pT bc, i64 (n : Nat), i64 ((u + 1 : Nat))] 141 (0, 0))) := by
 have H := Hp.start1 (M := (· = b)) rfl hb
 refine enter (n := 50) Tryd.func97 rfl rfl (bLe rfl) ?_
 refine sR ?_
 refine sA (u64 (0#64)) rfl ?_
 refine sA (.nilIface) rfl ?_
 refine wend ?_
 refine seqAny ?_
 refine seqAny ?_
 refine drawAny (K := [none, none, none, none, none, none, none, none, none]) [0, 1, 3, 7, 0, 16, 48, 112, 255] (fun w' => Ext w w') (fun w' w'' => Ext w' w'') mixed (by kernel_rfl) (Ext.drew _) (fun _ _ h h' => h.trans h') ?_ ?_
 ·exact relNone (by decide)
 refine ⟨pT b, fun _ uw1 hC2 _ => Gives.run rfl (r_move (v := pT b) rfl) ⟨rfl, Chg.refl _ _⟩, ?_⟩
 refine ⟨pT b, fun _ uw3 hC4 _ => Gives.run rfl (r_nilCheck rfl) ⟨rfl, Chg.refl _ _⟩, ?_⟩
 refine ⟨.pointer (some ⟨b, 3, none⟩), fun _ uw5 hC6 _ => Gives.run rfl (r_fieldAddr (off' := 3) fld141_3 (by decide) (b := b) (off := 0) rfl (by omega)) ⟨rfl, Chg.refl _ _⟩, ?_⟩
 refine ⟨i64 (u : Nat), fun _ uw7 hC8 _ => Gives.run rfl (r_loadC (v := i64 (u : Nat)) one3 ((H.ext hC8).get (k := 0) rfl) (off := 3) rfl (by rfl)) ⟨rfl, Chg.refl _ _⟩, ?_⟩
 refine ⟨pT b, fun _ uw9 hC10 _ => Gives.run rfl (r_move (v := pT b) rfl) ⟨rfl, Chg.refl _ _⟩, ?_⟩
 refine ⟨pT b, fun _ uw11 hC12 _ => Gives.run rfl (r_nilCheck rfl) ⟨rfl, Chg.refl _ _⟩, ?_⟩
 refine ⟨.pointer (some ⟨b, 2, none⟩), fun _ uw13 hC14 _ => Gives.run rfl (r_fieldAddr (off' := 2) fld141_2 (by decide) (b := b) (off := 0) rfl (by omega)) ⟨rfl, Chg.refl _ _⟩, ?_⟩
 refine ⟨i64 (n : Nat), fun _ uw15 hC16 _ => Gives.run rfl (r_loadC (v := i64 (n : Nat)) one3 ((H.ext hC16).get (k := 0) rfl) (off := 2) rfl (by rfl)) ⟨rfl, Chg.refl _ _⟩, ?_⟩
 refine ⟨.bool (decide (((n : Nat) : Int) ≤ (u : Nat))), fun _ uw17 hC18 _ => Gives.run rfl (r_geqI (a := (u : Nat)) (b := (n : Nat)) rfl rfl) ⟨rfl, Chg.refl _ _⟩, ?_⟩
 intro r22 w19 hE21 hF
 have H20 := H.ext hE21
 refine wnil ?_
 refine thenNormal ?_
 refine condProp (((n : Nat) : Int) ≤ (u : Nat)) rfl (fun c13 => ?_) (fun c13 => ?_)
 ·skip
  exfalso
  omega
 ·skip
  refine skipAny ?_
  refine thenNormal ?_
  refine sR ?_
  refine sM (pT b) rfl ?_
  refine sq (r_nilCheck rfl) ?_
  refine sq (r_fieldAddr (off' := 3) fld141_3 (by decide) (b := b) (off := 0) rfl (by omega)) ?_
  refine sq (r_loadC (v := i64 (u : Nat)) one3 (H20.get (k := 0) rfl) (off := 3) rfl (by rfl)) ?_
  refine sA (i64 (u : Nat)) rfl ?_
  refine wend ?_
  refine sR ?_
  refine sM (pT b) rfl ?_
  refine sq (r_nilCheck rfl) ?_
  refine sq (r_fieldAddr (off' := 3) fld141_3 (by decide) (b := b) (off := 0) rfl (by omega)) ?_
  refine sq (r_loadC (v := i64 (u : Nat)) one3 (H20.get (k := 0) rfl) (off := 3) rfl (by rfl)) ?_
  refine sq (r_addI (a := (u : Nat)) (b := (1 : Int)) rfl rfl (by omega)) ?_
  refine sq (r_nilCheck rfl) ?_
  refine sq (r_fieldAddr (off' := 3) fld141_3 (by decide) (b := b) (off := 0) rfl (by omega)) ?_
  refine d_store (k := 0) (v := i64 ((u : Nat) + (1 : Int))) (cs' := #[.slice none 0 0, pT bc, i64 (n : Nat), i64 ((u : Nat) + (1 : Int))]) H20 rfl rfl rfl siz3 (by rfl) (by exact EI.one _) (by exact bLe rfl) (by rfl) ?_
  intro w23 H24 hC25
  have H24' := H24.as (L' := [(some b, .cells #[.slice none 0 0, pT bc, i64 (n : Nat), i64 ((u : Nat) + (1 : Int))] 141 (0, 0))]) rfl
  clear H24
  refine wend ?_
  refine seqAny ?_
  refine sR ?_
  refine sM (pT b) rfl ?_
  refine sq (r_nilCheck rfl) ?_
  refine sq (r_fieldAddr (off' := 1) fld141_1 (by decide) (b := b) (off := 0) rfl (by omega)) ?_
  refine sq (r_loadC (v := pT bc) one139 (H24'.get (k := 0) rfl) (off := 1) rfl (by rfl)) ?_
  refine sq (r_neqPN und139 rfl rfl) ?_
  refine wend ?_
  refine condTrue rfl ?_
  refine sR ?_
  refine sM (pT b) rfl ?_
  refine sq (r_nilCheck rfl) ?_
  refine sq (r_fieldAddr (off' := 1) fld141_1 (by decide) (b := b) (off := 0) rfl (by omega)) ?_
  refine sq (r_loadC (v := pT bc) one139 (H24'.get (k := 0) rfl) (off := 1) rfl (by rfl)) ?_
  refine sM (i64 (u : Nat)) rfl ?_
  refine sq (r_Ito64 und3 und32 (a := (u : Nat)) rfl) ?_
  refine c_call (vs := [pT bc, u64 (BitVec.ofInt 64 (u : Nat))]) call117 rfl (word_ok bc cl hcl (BitVec.ofInt 64 (u : Nat)) w23 (hc _ H24'.chg)) ?_
  rintro _ w26 ⟨rfl, hE27⟩
  have H28 := H24'.ext hE27
  refine sA (u64 (wordL cl (BitVec.ofInt 64 (u : Nat)))) rfl ?_
  refine sA (.nilIface) rfl ?_
  refine wend ?_
  refine retAny ?_
  refine thenRet ?_
  refine retG (rs := [.tmp 2, .tmp 3]) (vs := [u64 (wordL cl (BitVec.ofInt 64 (u : Nat))), .nilIface]) rfl ⟨⟨rfl, rfl⟩, ⟨rfl, rfl⟩, trivial⟩ ?_
  exact ⟨_, rfl, rfl, H28.chg, H28.get (k := 0) rfl⟩
theorem label_hit_c (b bc u n : Nat) (cl : List By) (hcl : cl.length = 432) (w : World) (hb : w.heap[b]? = some (.cells #[.slice none 0 0, pT bc, i64 (n : Nat), i64 (u : Nat)] 141 (0, 0))) (hc : ∀ w', Chg (· = b) w w' → w'.heap[bc]? = some (.cells (cel E8 cl).toArray 215 (0, 0))) (hn : n ≤ 1048576) (hu : u + 2 ≤ n) : Calls Tryd.prog 62 [pT b].toArray w (Ret fun v w' => v = .tuple #[.agg (cel E64 [wordL cl (BitVec.ofInt 64 ((u : Nat))), wordL cl (BitVec.ofInt 64 ((u + 1 : Nat)))]).toArray, .nilIface] ∧ Chg (· = b) w w' ∧ w'.heap[b]? = some (.cells #[.slice none 0 0, pT bc, i64 (n : Nat), i64 ((u + 2 : Nat))] 141 (0, 0))) := by
 have H := Hp.start1 (M := (· = b)) rfl hb
 refine enter (n := 31) Tryd.func62 rfl rfl (bLe rfl) ?_
 refine sR ?_
 refine q_alloc (o := .cells (cel E64 ([0#64, 0#64])).toArray 38 (0, 0)) H zer38 (by kernel_rfl) ?_
 intro b1 w2 hb1 H3 hE4
 refine sA (.nilIface) rfl ?_
 refine wend ?_
 refine seqAny ?_
 refine sR ?_
 refine sM (pT b) rfl ?_
 refine c_call (vs := [pT b]) call64 rfl (left_ok b n u (.slice none 0 0) (pT bc) w2 (H3.get (k := 1) rfl) (by omega) (by omega)) ?_
 rintro _ w5 ⟨rfl, hE6⟩
 have H7 := H3.ext hE6
 refine sq (r_lssI (a := (n : Nat) - (u : Nat)) (b := (2 : Int)) rfl rfl) ?_
 refine wend ?_
 refine condProp (((n : Nat) - (u : Nat) : Int) < (2 : Int)) rfl (fun c10 => ?_) (fun c10 => ?_)
 ·skip
  exfalso
  omega
 ·skip
  refine skipAny ?_
  refine thenNormal ?_
  refine sR ?_
  refine sM (pT b) rfl ?_
  refine c_call (vs := [pT b]) call97 rfl (next_hit_c b bc u n cl hcl w5 (H7.get (k := 1) rfl) (fun w' h => hc w' (H7.chg.trans h)) (by omega) (by omega)) ?_
  rintro _ w8 ⟨rfl, hC10, hn11⟩
  have H12 := (H7.set (k := 1) rfl hC10 hn11).as (L' := [(some b1, .cells (cel E64 ([0#64, 0#64])).toArray 38 (0, 0)), (some b, .cells #[.slice none 0 0, pT bc, i64 (n : Nat), i64 ((u + 1 : Nat))] 141 (0, 0))]) rfl
  refine sM (.tuple #[u64 (wordL cl (BitVec.ofInt 64 ((u : Nat)))), .nilIface]) rfl ?_
  refine sq (r_extract (vs := #[u64 (wordL cl (BitVec.ofInt 64 ((u : Nat)))), .nilIface]) rfl rfl) ?_
  refine sq (r_extract (vs := #[u64 (wordL cl (BitVec.ofInt 64 ((u : Nat)))), .nilIface]) rfl rfl) ?_
  refine sA (u64 (wordL cl (BitVec.ofInt 64 ((u : Nat))))) rfl ?_
  refine sA (.nilIface) rfl ?_
  refine wend ?_
  refine sR ?_
  refine sM (pT b) rfl ?_
  refine c_call (vs := [pT b]) call97 rfl (next_hit_c b bc (u + 1) n cl hcl w8 (H12.get (k := 1) rfl) (fun w' h => hc w' (H12.chg.trans h)) (by omega) (by omega)) ?_
  rintro _ w13 ⟨rfl, hC15, hn16⟩
  have H17 := (H12.set (k := 1) rfl hC15 hn16).as (L' := [(some b1, .cells (cel E64 ([0#64, 0#64])).toArray 38 (0, 0)), (some b, .cells #[.slice none 0 0, pT bc, i64 (n : Nat), i64 ((u + 1 + 1 : Nat))] 141 (0, 0))]) rfl
  refine sM (.tuple #[u64 (wordL cl (BitVec.ofInt 64 ((u + 1 : Nat)))), .nilIface]) rfl ?_
  refine sq (r_extract (vs := #[u64 (wordL cl (BitVec.ofInt 64 ((u + 1 : Nat)))), .nilIface]) rfl rfl) ?_
  refine sq (r_extract (vs := #[u64 (wordL cl (BitVec.ofInt 64 ((u + 1 : Nat)))), .nilIface]) rfl rfl) ?_
  refine sA (u64 (wordL cl (BitVec.ofInt 64 ((u + 1 : Nat))))) rfl ?_
  refine sA (.nilIface) rfl ?_
  refine wend ?_
  refine sR ?_
  refine sM (u64 (wordL cl (BitVec.ofInt 64 ((u : Nat))))) rfl ?_
  refine sM (u64 (wordL cl (BitVec.ofInt 64 ((u + 1 : Nat))))) rfl ?_
  refine sq (r_buildA (cs' := (cel E64 [wordL cl (BitVec.ofInt 64 ((u : Nat))), wordL cl (BitVec.ofInt 64 ((u + 1 : Nat)))]).toArray) (ps := [(0, u64 (wordL cl (BitVec.ofInt 64 ((u : Nat))))), (1, u64 (wordL cl (BitVec.ofInt 64 ((u + 1 : Nat)))))]) zer38 arr38 rfl (by rfl)) ?_
  refine d_store (k := 0) (v := .agg (cel E64 [wordL cl (BitVec.ofInt 64 ((u : Nat))), wordL cl (BitVec.ofInt 64 ((u + 1 : Nat)))]).toArray) (cs' := (cel E64 ([wordL cl (BitVec.ofInt 64 ((u : Nat))), wordL cl (BitVec.ofInt 64 ((u + 1 : Nat)))])).toArray) H17 rfl rfl rfl siz38 (by exact celSize (by first | rfl | (show _ * 1 = _; omega))) (by exact celOne _) (by rw [List.size_toArray, cel_length]; show _ ≤ _ * 1; first | omega | (simp only [List.length_set]; omega) | exact bLe rfl | (simp <;> omega)) (by exact putAll (by first | rfl | omega | (simp <;> omega))) ?_
  intro w18 H19 hC20
  have H19' := H19.as (L' := [(some b1, .cells (cel E64 ([wordL cl (BitVec.ofInt 64 ((u : Nat))), wordL cl (BitVec.ofInt 64 ((u + 1 : Nat)))])).toArray 38 (0, 0)), (some b, .cells #[.slice none 0 0, pT bc, i64 (n : Nat), i64 ((u + 1 + 1 : Nat))] 141 (0, 0))]) rfl
  clear H19
  refine sA (.nilIface) rfl ?_
  refine wend ?_
  refine retAny ?_
  refine retG (rs := [.cell 2 38, .tmp 3]) (vs := [.agg (cel E64 ([wordL cl (BitVec.ofInt 64 ((u : Nat))), wordL cl (BitVec.ofInt 64 ((u + 1 : Nat)))])).toArray, .nilIface]) rfl ⟨r_loadA (cs' := (cel E64 ([wordL cl (BitVec.ofInt 64 ((u : Nat))), wordL cl (BitVec.ofInt 64 ((u + 1 : Nat)))])).toArray) agg38 siz38 (H19'.get (k := 0) rfl) (off := 0) rfl (by exact bLe rfl) (by exact ext_all rfl), ⟨rfl, rfl⟩, trivial⟩ ?_
  exact ⟨_, rfl, rfl, H19'.chg, H19'.get (k := 1) rfl⟩
def szT (k : Int) : Nat := (min (max k 0) 1048576).toNat
theorem szT_eq (k : Int) : (szT k : Int) = min (max k 0) 1048576 := by unfold szT; omega
def TapeR (seed : List By) (k : Int) (w : World) (v : Value) (w' : World) : Prop := ∃ b bc, v = pT b ∧ Hp No w w' [(some b, .cells #[.slice none 0 0, pT bc, i64 ((szT k : Nat)), i64 (0 : Nat)] 141 (0, 0)), (some bc, .cells (cel E8 (cipher seed)).toArray 215 (0, 0))]
theorem newtape_ok (seed : List By) (hk : seed.length = 16) (k : Int) (w : World) : Calls Tryd.prog 61 [.agg (cel E8 seed).toArray, i64 (k)].toArray w (Ret fun v w' => TapeR seed k w v w' ∧ Ext w w') := by
 have H := Hp.start No w
 refine enter (n := 12) Tryd.func61 rfl rfl (bLe rfl) ?_
 refine sR ?_
 refine q_box (v := .agg (cel E8 seed).toArray) (o := .cells (cel E8 seed).toArray 124 (0, 0)) H rfl (by rfl) ?_
 intro b1 w2 hb1 H3 hE4
 refine sA (.pointer none) rfl ?_
 refine wend ?_
 refine sR ?_
 refine sq (r_loadA (cs' := (cel E8 seed).toArray) agg124 siz124 (H3.get (k := 0) rfl) (off := 0) rfl (by rw [List.size_toArray, cel_length]; show _ ≤ _ * 1; omega) (by exact ext_all (by rw [cel_length]; show _ * 1 = _; omega))) ?_
 refine c_call (vs := [.agg (cel E8 seed).toArray]) call96 rfl (new_ok seed (hk) w2) ?_
 rintro _ w5 ⟨⟨b7, rfl, hb8, ho9⟩, hE10⟩
 have H11 := H3.add1 hE10 hb8 ho9
 refine sM (i64 (k)) rfl ?_
 refine sq (r_maxI (a := k) (b := (0 : Int)) rfl rfl) ?_
 refine sq ((r_minI (a := max k (0 : Int)) (b := (1048576 : Int)) rfl rfl).as (v' := i64 ((szT k : Nat))) (by exact congrArg i64 (szT_eq k).symm)) ?_
 refine sq (r_build (cs' := #[.slice none 0 0, pT b7, i64 ((szT k : Nat)), i64 ((0 : Int))]) (ps := [(1, pT b7), (2, i64 ((szT k : Nat)))]) zer141 pls141 rfl (by rfl)) ?_
 refine q_box (v := .agg #[.slice none 0 0, pT b7, i64 ((szT k : Nat)), i64 ((0 : Int))]) (o := .cells #[.slice none 0 0, pT b7, i64 ((szT k : Nat)), i64 ((0 : Int))] 141 (0, 0)) H11 rfl (by rfl) ?_
 intro b12 w13 hb12 H14 hE15
 refine sA (pT b12) rfl ?_
 refine wend ?_
 refine retAny ?_
 refine retG (rs := [.tmp 4]) (vs := [pT b12]) rfl ⟨⟨rfl, rfl⟩, trivial⟩ ?_
 exact ⟨_, rfl, ⟨_, _, rfl, (H14.dropk 2)⟩, H14.chg⟩
theorem TapeR.ext {seed : List By} {k : Int} {w w1 w2 : World} {v : Value} (h : TapeR seed k w v w1) (hE : Ext w1 w2) : TapeR seed k w v w2 := by
 obtain ⟨b, bc, h1, h2⟩ := h
 exact ⟨b, bc, h1, h2.ext hE⟩
def TapeR2 (seed : List By) (k1 k2 : Int) (w : World) (v1 v2 : Value) (w' : World) : Prop := ∃ b1 bc1 b2 bc2, v1 = pT b1 ∧ v2 = pT b2 ∧ Hp No w w' [(some b2, .cells #[.slice none 0 0, pT bc2, i64 ((szT k2 : Nat)), i64 (0 : Nat)] 141 (0, 0)), (some bc2, .cells (cel E8 (cipher seed)).toArray 215 (0, 0)), (some b1, .cells #[.slice none 0 0, pT bc1, i64 ((szT k1 : Nat)), i64 (0 : Nat)] 141 (0, 0)), (some bc1, .cells (cel E8 (cipher seed)).toArray 215 (0, 0))]
theorem TapeR2.ext {seed : List By} {k1 k2 : Int} {w w1 w2 : World} {v1 v2 : Value} (h : TapeR2 seed k1 k2 w v1 v2 w1) (hE : Ext w1 w2) : TapeR2 seed k1 k2 w v1 v2 w2 := by
 obtain ⟨b1, bc1, b2, bc2, h1, h2, h3⟩ := h
 exact ⟨b1, bc1, b2, bc2, h1, h2, h3.ext hE⟩
theorem TapeR2.of {seed : List By} {k1 k2 : Int} {w u w' : World} {v1 v2 : Value} (h : TapeR seed k1 w v1 u) (g : TapeR seed k2 u v2 w') : TapeR2 seed k1 k2 w v1 v2 w' := by
 obtain ⟨b1, bc1, h1, h2⟩ := h
 obtain ⟨b2, bc2, g1, g2⟩ := g
 exact ⟨b1, bc1, b2, bc2, h1, g1, h2.join g2⟩
end Go.Proofs.YteofdmdpaejgaaaDoor.Er
namespace Go.Proofs.YteofdmdpaejgaaaDoor.Gm
open Go Go.Proofs.YteofdmdpaejgaaaDoor.Vc Go.Proofs.YteofdmdpaejgaaaDoor.Er Go.Proofs.YteofdmdpaejgaaaDoor.Circ Go.Proofs.YteofdmdpaejgaaaDoor.Gb Go.Proofs.YteofdmdpaejgaaaDoor.Cm Go.Proofs.YteofdmdpaejgaaaDoor.AesSpec
set_option linter.unusedVariables false
attribute [local irreducible] wordL cipher
theorem garble_okM (n : Int) (gs : List Gt) (ol : List Int) (ga oa : Option Addr) (gc oc mg mo : Nat) (hmg : mg = gs.length) (hmo : mo = ol.length) (δ : Lb) (zs : List Lb) (za : Option Addr) (zc : Nat) (first : BitVec 64) (m0 : Nat) (hm0 : m0 = zs.length) (w : World) (hG : Gl w) (hGs : Rd EG w ga gs) (hOl : Rd EI w oa ol) (hgl : gs.length ≤ 140737488355328) (hol : ol.length ≤ 140737488355328) (hZ : Rd ELb w za zs) (hg : IsC n gs ol) (hm : (zs.length : Int) = n) (hc : col δ = true) : Calls Tryd.prog 45 [.agg #[i64 (n), .slice ga mg gc, .slice oa mo oc], .agg (cel E64 [(δ).1, (δ).2]).toArray, .slice za m0 zc, u64 first].toArray w (Ret fun v w' => ∃ (k1 : Option Nat) (c1 : Nat) (z1 : List Value) (k2 : Option Nat) (c2 : Nat) (z2 : List Value), v = .tuple #[.slice (ownA k1) ((gS lhash δ first gs zs gs.length).2).length c1, .slice (ownA k2) (oL (gS lhash δ first gs zs gs.length).1 ol ol.length).length c2, .nilIface] ∧ Sl ELb k1 ((gS lhash δ first gs zs gs.length).2) c1 z1 ∧ Sl ELb k2 (oL (gS lhash δ first gs zs gs.length).1 ol ol.length) c2 z2 ∧ Hp No w w' [(k1, sob ELb 38 ((gS lhash δ first gs zs gs.length).2) z1), (k2, sob ELb 38 (oL (gS lhash δ first gs zs gs.length).1 ol ol.length) z2)]) := by
 subst hmg hmo hm0; exact garble_ok n gs ol ga oa gc oc δ zs za zc first w hG hGs hOl hgl hol hZ hg hm hc
theorem eval_okM (n : Int) (gs : List Gt) (ol : List Int) (ga oa : Option Addr) (gc oc mg mo : Nat) (hmg : mg = gs.length) (hmo : mo = ol.length) (ls tb : List Lb) (lsa tsa : Option Addr) (lsc tsc : Nat) (first : BitVec 64) (m1 m2 : Nat) (hm1 : m1 = ls.length) (hm2 : m2 = tb.length) (w : World) (hG : Gl w) (hGs : Rd EG w ga gs) (hOl : Rd EI w oa ol) (hgl : gs.length ≤ 140737488355328) (hol : ol.length ≤ 140737488355328) (hLs : Rd ELb w lsa ls) (hTb : Rd ELb w tsa tb) (hg : IsC n gs ol) (hm : (ls.length : Int) = n) (hc : tb.length = 2 * andsS gs gs.length) : Calls Tryd.prog 46 [.agg #[i64 (n), .slice ga mg gc, .slice oa mo oc], .slice lsa m1 lsc, .slice tsa m2 tsc, u64 first].toArray w (Ret fun v w' => ∃ (k1 : Option Nat) (c1 : Nat) (z1 : List Value), v = .tuple #[.slice (ownA k1) ol.length c1, .nilIface] ∧ Sl ELb k1 (oL (eS lhash first gs tb ls gs.length).1 ol ol.length) c1 z1 ∧ Hp No w w' [(k1, sob ELb 38 (oL (eS lhash first gs tb ls gs.length).1 ol ol.length) z1)]) := by
 subst hmg hmo hm1 hm2; exact Gb.eval_ok n gs ol ga oa gc oc ls tb lsa tsa lsc tsc first w hG hGs hOl hgl hol hLs hTb hg hm hc
theorem szT_of (n : Nat) (h : n ≤ 256) : szT ((2 * n + 2 : Nat) : Int) = 2 * n + 2 := by unfold szT; omega
end Go.Proofs.YteofdmdpaejgaaaDoor.Gm
namespace Go.Proofs.YteofdmdpaejgaaaDoor.Gm
open Go Go.Proofs.YteofdmdpaejgaaaDoor.Vc Go.Proofs.YteofdmdpaejgaaaDoor.Er Go.Proofs.YteofdmdpaejgaaaDoor.Circ Go.Proofs.YteofdmdpaejgaaaDoor.Gb Go.Proofs.YteofdmdpaejgaaaDoor.Cm Go.Proofs.YteofdmdpaejgaaaDoor.AesSpec
set_option linter.unusedVariables false
attribute [local irreducible] wordL cipher
theorem agg124 : isAgg' Tryd.prog 124 = true := by kernel_rfl
theorem agg38 : isAgg' Tryd.prog 38 = true := by kernel_rfl
theorem agg70 : isAgg' Tryd.prog 70 = true := by kernel_rfl
theorem arr38 : arr Tryd.prog 38 = some (2, 1) := by kernel_rfl
theorem arr67 : arr Tryd.prog 67 = some (4, 1) := by kernel_rfl
theorem byt38 : byt Tryd.prog 38 = some 16 := by kernel_rfl
theorem call29 : callable Tryd.prog 29 = true := by kernel_rfl
theorem call38 : callable Tryd.prog 38 = true := by kernel_rfl
theorem call40 : callable Tryd.prog 40 = true := by kernel_rfl
theorem call41 : callable Tryd.prog 41 = true := by kernel_rfl
theorem call45 : callable Tryd.prog 45 = true := by kernel_rfl
theorem call46 : callable Tryd.prog 46 = true := by kernel_rfl
theorem call48 : callable Tryd.prog 48 = true := by kernel_rfl
theorem call51 : callable Tryd.prog 51 = true := by kernel_rfl
theorem call60 : callable Tryd.prog 60 = true := by kernel_rfl
theorem call61 : callable Tryd.prog 61 = true := by kernel_rfl
theorem call62 : callable Tryd.prog 62 = true := by kernel_rfl
theorem fits32 : Fits Tryd.prog 32 E64 := fits64 (by kernel_rfl) (by kernel_rfl)
theorem fld70_0 : fld Tryd.prog 70 0 = some (0, 1, 3) := by kernel_rfl
theorem isI27 : isI Tryd.prog 27 = true := by kernel_rfl
theorem mixed : Tryd.prog.follows .mixedOrders = true := by kernel_rfl
theorem one3 : isOne Tryd.prog 3 = true := by kernel_rfl
theorem siz124 : siz Tryd.prog 124 = some 16 := by kernel_rfl
theorem siz32 : siz Tryd.prog 32 = some 1 := by kernel_rfl
theorem siz38 : siz Tryd.prog 38 = some 2 := by kernel_rfl
theorem siz70 : siz Tryd.prog 70 = some 3 := by kernel_rfl
theorem sli92 : sli Tryd.prog 92 = some (38, 2) := by kernel_rfl
theorem und3 : Tryd.prog.underlying 3 = some (.int .i64) := by kernel_rfl
theorem und45 : Tryd.prog.underlying 45 = some (.int .u64) := by kernel_rfl
theorem zer38 : zer Tryd.prog 38 = some (.agg (List.replicate 2 (.int .u64 0)).toArray) := by kernel_rfl
theorem zer70 : zer Tryd.prog 70 = some (.agg #[.int .i64 0, .slice none 0 0, .slice none 0 0]) := by kernel_rfl
set_option maxRecDepth 20000 in
set_option maxHeartbeats 16000000 in
theorem gmade_one (kind : Int) (kd n k : Nat) (m : List Gt × List Int) (fm : BitVec 64) (sh : List (BitVec 64)) (hsh : sh.length = 4) (seed : List By) (hk : seed.length = 16) (hkd : (BitVec.ofInt 64 kind % 3#64).toInt + 1 = ((kd : Nat) : Int)) (hk1 : kd = 1) (hfm : fm = sh.getD 0 0#64 % 2#64) (hk2 : k ≤ 2) (hk0 : 1 ≤ k) (hn : n = 128 * k) (hM : ∀ w, Calls Tryd.prog 29 [i64 ((kd : Nat) : Int), u64 fm].toArray w (Ret fun v w' => ∃ (key : Option Nat) (c : Nat) (sp : List Value) (b : Nat), v = .tuple #[.agg #[i64 ((n : Nat) : Int), .slice (ownA key) (m).1.length c, .slice (some ⟨b, 0, none⟩) 64 64], .nilIface] ∧ Sl EG key (m).1 c sp ∧ Hp No w w' [(key, sob EG 99 (m).1 sp), (some b, .cells (cel EI (m).2).toArray 153 (0, 0))])) (hA : Answers n (inpS sh (2 * k)) m (saysS kd (whS (fbS fm 0) (sh.getD 0 0#64) (sh.getD 1 0#64)) (whS (fbS fm 1) (sh.getD 2 0#64) (sh.getD 3 0#64)))) (w : World) (hG : Gl w) : Calls Tryd.prog 14 [i64 kind, .agg (cel E64 sh).toArray, .agg (cel E8 seed).toArray].toArray w (Ret fun v w' => v = .bool true ∧ Ext w w') := by
 have ho := hA.outs
 have hgat := hA.is.gates
 have hil2 := inpS_len sh (2 * k)
 have H := Hp.start No w
 refine enter (n := 136) Tryd.func14 rfl rfl (bLe rfl) ?_
 refine sR ?_
 refine q_box (v := .agg (cel E64 sh).toArray) (o := .cells (cel E64 sh).toArray 67 (0, 0)) H rfl (by rfl) ?_
 intro b1 w2 hb1 H3 hE4
 refine q_box (v := .agg (cel E8 seed).toArray) (o := .cells (cel E8 seed).toArray 124 (0, 0)) H3 rfl (by rfl) ?_
 intro b5 w6 hb5 H7 hE8
 refine sA (.bool (false)) rfl ?_
 refine wend ?_
 refine seqAny ?_
 refine sR ?_
 refine c_call (vs := []) call41 rfl (gawake_ok w6 (Chg.gl H7.chg (fun x => x) hG)) ?_
 rintro _ w9 ⟨rfl, hE10⟩
 have H11 := H7.ext hE10
 refine sq (r_notT rfl) ?_
 refine wend ?_
 refine condFalse rfl ?_
 refine skipAny ?_
 refine thenNormal ?_
 refine sR ?_
 refine sM (i64 (kind)) rfl ?_
 refine sq (r_Ito64 und3 und45 (a := kind) rfl) ?_
 refine sq (r_rem64 (a := BitVec.ofInt 64 kind) (b := 3#64) rfl rfl (by decide)) ?_
 refine sq (r_64toI und45 und3 (a := (BitVec.ofInt 64 kind) % (3#64)) rfl) ?_
 refine sq ((r_addI (a := ((BitVec.ofInt 64 kind) % (3#64)).toInt) (b := (1 : Int)) rfl rfl (by omega)).as (v' := i64 (kd : Nat)) (by exact congrArg i64 hkd)) ?_
 refine sA (i64 (kd : Nat)) rfl ?_
 refine wend ?_
 refine sR ?_
 refine sq (r_indexA (off' := 0) (j := 0) arr67 (b := b1) (off := 0) rfl rfl (by first | rfl | omega | (simp; omega)) (by omega) (by omega)) ?_
 refine sq (r_ld1 (E := E64) (l := sh) (j := 0) (a := (sh).getD 0 0#64) fits32 (H11.get (k := 1) rfl) (at_getD (by first | omega | (simp only [List.length_set]; omega) | exact bLe rfl | (simp <;> omega))) rfl rfl) ?_
 refine sq ((r_rem64 (a := (sh).getD 0 0#64) (b := 2#64) rfl rfl (by decide)).as (v' := u64 (fm)) (by rw [hfm])) ?_
 refine sA (u64 (fm)) rfl ?_
 refine wend ?_
 refine seqAny ?_
 refine sR ?_
 refine sM (i64 (kd : Nat)) rfl ?_
 refine sq ((r_gtrI (a := (kd : Nat)) (b := (1 : Int)) rfl rfl).as (v' := .bool (false)) (by exact congrArg Value.bool (decide_eq_false (by omega)))) ?_
 refine wend ?_
 refine condFalse rfl ?_
 refine skipAny ?_
 refine thenNormal ?_
 refine sR ?_
 refine sM (i64 (kd : Nat)) rfl ?_
 refine sM (u64 (fm)) rfl ?_
 refine c_call (vs := [i64 (kd : Nat), u64 (fm)]) call29 rfl (hM w9) ?_
 rintro _ w12 ⟨key14, c15, sp16, b17, rfl, hS18, HN19⟩
 have H20 := (H11.join HN19).as (L' := [(key14, sob EG 99 m.1 sp16), (some b17, .cells (cel EI m.2).toArray 153 (0, 0)), (some b5, .cells (cel E8 seed).toArray 124 (0, 0)), (some b1, .cells (cel E64 sh).toArray 67 (0, 0))]) rfl
 refine sM (.tuple #[.agg #[i64 (n : Nat), .slice (ownA key14) ((m).1.length) c15, .slice (some ⟨b17, 0, none⟩) 64 64], .nilIface]) rfl ?_
 refine sq (r_extract (vs := #[.agg #[i64 (n : Nat), .slice (ownA key14) ((m).1.length) c15, .slice (some ⟨b17, 0, none⟩) 64 64], .nilIface]) rfl rfl) ?_
 refine sq (r_extract (vs := #[.agg #[i64 (n : Nat), .slice (ownA key14) ((m).1.length) c15, .slice (some ⟨b17, 0, none⟩) 64 64], .nilIface]) rfl rfl) ?_
 refine q_alloc (o := .cells #[i64 ((0 : Int)), .slice none 0 0, .slice none 0 0] 70 (0, 0)) H20 zer70 (by kernel_rfl) ?_
 intro b21 w22 hb21 H23 hE24
 refine d_store (k := 0) (v := .agg #[i64 (n : Nat), .slice (ownA key14) ((m).1.length) c15, .slice (some ⟨b17, 0, none⟩) 64 64]) (cs' := #[i64 (n : Nat), .slice (ownA key14) ((m).1.length) c15, .slice (some ⟨b17, 0, none⟩) 64 64]) H23 rfl rfl rfl siz70 (by rfl) (by intro u hu; simp [Value.cells] at hu; first | (subst hu; rfl) | (rcases hu with rfl | rfl | rfl <;> rfl)) (by exact bLe rfl) (by rfl) ?_
 intro w25 H26 hC27
 have H26' := H26.as (L' := [(some b21, .cells #[i64 (n : Nat), .slice (ownA key14) ((m).1.length) c15, .slice (some ⟨b17, 0, none⟩) 64 64] 70 (0, 0)), (key14, sob EG 99 m.1 sp16), (some b17, .cells (cel EI m.2).toArray 153 (0, 0)), (some b5, .cells (cel E8 seed).toArray 124 (0, 0)), (some b1, .cells (cel E64 sh).toArray 67 (0, 0))]) rfl
 clear H26
 refine sA (.nilIface) rfl ?_
 refine wend ?_
 refine seqAny ?_
 refine sR ?_
 refine sM (.nilIface) rfl ?_
 refine sq ((r_neqNN isI27 rfl rfl).as (v' := .bool (false)) (by rfl)) ?_
 refine wend ?_
 refine condFalse rfl ?_
 refine skipAny ?_
 refine thenNormal ?_
 refine sR ?_
 refine sq (r_loadA (cs' := (cel E8 seed).toArray) agg124 siz124 (H26'.get (k := 3) rfl) (off := 0) rfl (by rw [List.size_toArray, cel_length]; show _ ≤ _ * 1; omega) (by exact ext_all (by rw [cel_length]; show _ * 1 = _; omega))) ?_
 refine sq (r_fieldAddr (off' := 0) fld70_0 (by decide) (b := b21) (off := 0) rfl (by omega)) ?_
 refine sq (r_loadC (v := i64 (n : Nat)) one3 (H26'.get (k := 0) rfl) (off := 0) rfl (by rfl)) ?_
 refine sq (r_mulI (a := (2 : Int)) (b := (n : Nat)) rfl rfl (by omega)) ?_
 refine sq ((r_addI (a := (2 : Int) * (n : Nat)) (b := (2 : Int)) rfl rfl (by omega)).as (v' := i64 (((2 * n + 2) : Nat))) (by rfl)) ?_
 refine c_call (vs := [.agg (cel E8 seed).toArray, i64 (((2 * n + 2) : Nat))]) call61 rfl (newtape_ok seed hk ((2 * n + 2) : Nat) w25) ?_
 rintro _ w28 ⟨⟨b30, bc31, rfl, HN32⟩, hE33⟩
 have H34 := (H26'.join HN32).as (L' := [(some b30, .cells #[.slice none 0 0, pT bc31, i64 ((szT ((2 * n + 2) : Nat) : Nat)), i64 (0 : Nat)] 141 (0, 0)), (some bc31, .cells (cel E8 (cipher seed)).toArray 215 (0, 0)), (some b21, .cells #[i64 (n : Nat), .slice (ownA key14) ((m).1.length) c15, .slice (some ⟨b17, 0, none⟩) 64 64] 70 (0, 0)), (key14, sob EG 99 m.1 sp16), (some b17, .cells (cel EI m.2).toArray 153 (0, 0)), (some b5, .cells (cel E8 seed).toArray 124 (0, 0)), (some b1, .cells (cel E64 sh).toArray 67 (0, 0))]) rfl
 refine sA (pT b30) rfl ?_
 have hszn : szT ((2 * n + 2) : Nat) = 2 * n + 2 := szT_of n (by omega)
 have hszm : 2 * n + 2 ≤ 1048576 := by omega
 refine wend ?_
 refine sR ?_
 refine sM (pT b30) rfl ?_
 refine c_call (vs := [pT b30]) call62 rfl (label_hit_c b30 bc31 0 (szT ((2 * n + 2) : Nat)) (cipher seed) (cipher_len _ hk) w28 (H34.get (k := 0) rfl) (hpGetSt H34 (i := 0) (j := 1) rfl rfl rfl) (by omega) (by omega)) ?_
 rintro _ w35 ⟨rfl, hC37, hn38⟩
 have H39 := (H34.set (k := 0) rfl hC37 hn38).as (L' := [(some b30, .cells #[.slice none 0 0, pT bc31, i64 ((szT ((2 * n + 2) : Nat) : Nat)), i64 ((0 + 2 : Nat))] 141 (0, 0)), (some bc31, .cells (cel E8 (cipher seed)).toArray 215 (0, 0)), (some b21, .cells #[i64 (n : Nat), .slice (ownA key14) ((m).1.length) c15, .slice (some ⟨b17, 0, none⟩) 64 64] 70 (0, 0)), (key14, sob EG 99 m.1 sp16), (some b17, .cells (cel EI m.2).toArray 153 (0, 0)), (some b5, .cells (cel E8 seed).toArray 124 (0, 0)), (some b1, .cells (cel E64 sh).toArray 67 (0, 0))]) rfl
 refine sM (.tuple #[.agg (cel E64 [wordL (cipher seed) (BitVec.ofInt 64 ((0 : Nat))), wordL (cipher seed) (BitVec.ofInt 64 ((0 + 1 : Nat)))]).toArray, .nilIface]) rfl ?_
 refine sq (r_extract (vs := #[.agg (cel E64 [wordL (cipher seed) (BitVec.ofInt 64 ((0 : Nat))), wordL (cipher seed) (BitVec.ofInt 64 ((0 + 1 : Nat)))]).toArray, .nilIface]) rfl rfl) ?_
 refine sq (r_extract (vs := #[.agg (cel E64 [wordL (cipher seed) (BitVec.ofInt 64 ((0 : Nat))), wordL (cipher seed) (BitVec.ofInt 64 ((0 + 1 : Nat)))]).toArray, .nilIface]) rfl rfl) ?_
 refine q_alloc (o := .cells (cel E64 ([0#64, 0#64])).toArray 38 (0, 0)) H39 zer38 (by kernel_rfl) ?_
 intro b40 w41 hb40 H42 hE43
 refine d_store (k := 0) (v := .agg (cel E64 [wordL (cipher seed) (BitVec.ofInt 64 ((0 : Nat))), wordL (cipher seed) (BitVec.ofInt 64 ((0 + 1 : Nat)))]).toArray) (cs' := (cel E64 ([wordL (cipher seed) (BitVec.ofInt 64 ((0 : Nat))), wordL (cipher seed) (BitVec.ofInt 64 ((0 + 1 : Nat)))])).toArray) H42 rfl rfl rfl siz38 (by exact celSize (by first | rfl | (show _ * 1 = _; omega))) (by exact celOne _) (by rw [List.size_toArray, cel_length]; show _ ≤ _ * 1; first | omega | (simp only [List.length_set]; omega) | exact bLe rfl | (simp <;> omega)) (by exact putAll (by first | rfl | omega | (simp <;> omega))) ?_
 intro w44 H45 hC46
 have H45' := H45.as (L' := [(some b40, .cells (cel E64 ([wordL (cipher seed) (BitVec.ofInt 64 ((0 : Nat))), wordL (cipher seed) (BitVec.ofInt 64 ((0 + 1 : Nat)))])).toArray 38 (0, 0)), (some b30, .cells #[.slice none 0 0, pT bc31, i64 ((szT ((2 * n + 2) : Nat) : Nat)), i64 ((0 + 2 : Nat))] 141 (0, 0)), (some bc31, .cells (cel E8 (cipher seed)).toArray 215 (0, 0)), (some b21, .cells #[i64 (n : Nat), .slice (ownA key14) ((m).1.length) c15, .slice (some ⟨b17, 0, none⟩) 64 64] 70 (0, 0)), (key14, sob EG 99 m.1 sp16), (some b17, .cells (cel EI m.2).toArray 153 (0, 0)), (some b5, .cells (cel E8 seed).toArray 124 (0, 0)), (some b1, .cells (cel E64 sh).toArray 67 (0, 0))]) rfl
 clear H45
 refine sA (.nilIface) rfl ?_
 refine wend ?_
 refine sR ?_
 refine sq (r_indexA (off' := 0) (j := 0) arr38 (b := b40) (off := 0) rfl rfl (by first | rfl | omega | (simp; omega)) (by omega) (by omega)) ?_
 refine sq (r_ld1 (E := E64) (l := [wordL (cipher seed) (BitVec.ofInt 64 ((0 : Nat))), wordL (cipher seed) (BitVec.ofInt 64 ((0 + 1 : Nat)))]) (j := 0) (a := wordL (cipher seed) (BitVec.ofInt 64 ((0 : Nat)))) fits32 (H45'.get (k := 0) rfl) (by rfl) rfl rfl) ?_
 refine sq (r_or64 (a := wordL (cipher seed) (BitVec.ofInt 64 ((0 : Nat)))) (b := 1#64) rfl rfl) ?_
 refine sq (r_indexA (off' := 0) (j := 0) arr38 (b := b40) (off := 0) rfl rfl (by first | rfl | omega | (simp; omega)) (by omega) (by omega)) ?_
 refine d_store (k := 0) (v := u64 ((wordL (cipher seed) (BitVec.ofInt 64 ((0 : Nat)))) ||| (1#64))) (cs' := (cel E64 ([(wordL (cipher seed) (BitVec.ofInt 64 ((0 : Nat)))) ||| (1#64), wordL (cipher seed) (BitVec.ofInt 64 ((0 + 1 : Nat)))])).toArray) H45' rfl rfl rfl siz32 (by rfl) (by exact E64.one _) (by rw [List.size_toArray, cel_length]; show _ ≤ _ * 1; first | omega | (simp only [List.length_set]; omega) | exact bLe rfl | (simp <;> omega)) (by exact put1 (E := E64) rfl _ _ _) ?_
 intro w47 H48 hC49
 have H48' := H48.as (L' := [(some b40, .cells (cel E64 ([(wordL (cipher seed) (BitVec.ofInt 64 ((0 : Nat)))) ||| (1#64), wordL (cipher seed) (BitVec.ofInt 64 ((0 + 1 : Nat)))])).toArray 38 (0, 0)), (some b30, .cells #[.slice none 0 0, pT bc31, i64 ((szT ((2 * n + 2) : Nat) : Nat)), i64 ((0 + 2 : Nat))] 141 (0, 0)), (some bc31, .cells (cel E8 (cipher seed)).toArray 215 (0, 0)), (some b21, .cells #[i64 (n : Nat), .slice (ownA key14) ((m).1.length) c15, .slice (some ⟨b17, 0, none⟩) 64 64] 70 (0, 0)), (key14, sob EG 99 m.1 sp16), (some b17, .cells (cel EI m.2).toArray 153 (0, 0)), (some b5, .cells (cel E8 seed).toArray 124 (0, 0)), (some b1, .cells (cel E64 sh).toArray 67 (0, 0))]) rfl
 clear H48
 obtain ⟨δ, hδ⟩ : ∃ x : Lb, x = ((wordL (cipher seed) (BitVec.ofInt 64 ((0 : Nat)))) ||| (1#64), wordL (cipher seed) (BitVec.ofInt 64 ((0 + 1 : Nat)))) := ⟨_, rfl⟩
 have H50 : Hp No w w47 [(some b40, lO (δ)), (some b30, .cells #[.slice none 0 0, pT bc31, i64 ((szT ((2 * n + 2) : Nat) : Nat)), i64 ((0 + 2 : Nat))] 141 (0, 0)), (some bc31, .cells (cel E8 (cipher seed)).toArray 215 (0, 0)), (some b21, .cells #[i64 (n : Nat), .slice (ownA key14) ((m).1.length) c15, .slice (some ⟨b17, 0, none⟩) 64 64] 70 (0, 0)), (key14, sob EG 99 m.1 sp16), (some b17, .cells (cel EI m.2).toArray 153 (0, 0)), (some b5, .cells (cel E8 seed).toArray 124 (0, 0)), (some b1, .cells (cel E64 sh).toArray 67 (0, 0))] := by rw [hδ]; exact H48'
 have hcd : col δ = true := by rw [hδ]; exact col_or _ _
 clear hδ
 refine wend ?_
 refine sR ?_
 refine sA (.slice none 0 0) rfl ?_
 refine sA (.slice none 0 0) rfl ?_
 have H51 := H50.nil (sob ELb 38 [] [])
 have H52 := H51.nil (sob ELb 38 [] [])
 obtain ⟨fw, hfw⟩ : ∃ f, f = (fun q => wordL (cipher seed) (BitVec.ofInt 64 ((q : Nat)))) := ⟨_, rfl⟩
 refine wend ?_
 refine seqAny ?_
 refine sR ?_
 refine sA (i64 ((0 : Int))) rfl ?_
 refine wend ?_
 refine blockAny ?_
 refine loopAny (σ := Nat × Option Nat × Nat × List Value × Option Nat × Nat × List Value) (fun (i, k1, c1, z1, k2, c2, z2) => [(0, i64 (kd : Nat)), (4, pT b1), (7, u64 (fm)), (8, pT b21), (9, .nilIface), (10, pT b30), (11, pT b40), (13, .slice (ownA k1) i c1), (14, .slice (ownA k2) i c2), (15, i64 (i : Nat))]) (fun (i, k1, c1, z1, k2, c2, z2) w' => (i ≤ n ∧ Sl ELb k1 (zT fw i) c1 z1 ∧ Sl ELb k2 (lbS (zT fw n) (inpS sh (2 * k)) δ i) c2 z2) ∧ Hp No w w' [(k1, sob ELb 38 (zT fw i) z1), (k2, sob ELb 38 (lbS (zT fw n) (inpS sh (2 * k)) δ i) z2), (some b30, .cells #[.slice none 0 0, pT bc31, i64 ((szT ((2 * n + 2) : Nat) : Nat)), i64 (((2 + 2 * i) : Nat))] 141 (0, 0)), (some b40, lO (δ)), (some bc31, .cells (cel E8 (cipher seed)).toArray 215 (0, 0)), (some b21, .cells #[i64 (n : Nat), .slice (ownA key14) ((m).1.length) c15, .slice (some ⟨b17, 0, none⟩) 64 64] 70 (0, 0)), (key14, sob EG 99 m.1 sp16), (some b17, .cells (cel EI m.2).toArray 153 (0, 0)), (some b5, .cells (cel E8 seed).toArray 124 (0, 0)), (some b1, .cells (cel E64 sh).toArray 67 (0, 0))]) (fun (i, k1, c1, z1, k2, c2, z2) => n - i) ((0, none, 0, [], none, 0, [])) ?_ ?_ ?_
 ·exact ⟨rfl, rfl, rfl, rfl, rfl, rfl, rfl, rfl, rfl, rfl, trivial⟩
 ·exact ⟨⟨Nat.zero_le _, Sl.none, Sl.none⟩, (H52.pick 10 [1, 0, 3, 2, 4, 5, 6, 7, 8, 9] (by decide) (by decide))⟩
 rintro ⟨i, k1, c1, z1, k2, c2, z2⟩ ρ w53 ⟨⟨hq, h1, h2⟩, HL⟩
 refine seqAny ?_
 refine sR ?_
 refine sM (i64 (i : Nat)) rfl ?_
 refine sq (r_fieldAddr (off' := 0) fld70_0 (by decide) (b := b21) (off := 0) rfl (by omega)) ?_
 refine sq (r_loadC (v := i64 (n : Nat)) one3 (HL.get (k := 5) rfl) (off := 0) rfl (by rfl)) ?_
 refine sq (r_lssI (a := (i : Nat)) (b := (n : Nat)) rfl rfl) ?_
 refine wend ?_
 refine condProp (((i : Nat) : Int) < (n : Nat)) rfl (fun c65 => ?_) (fun c65 => ?_)
 ·skip
  refine skipAny ?_
  refine thenNormal ?_
  refine seqAny ?_
  refine blockAny ?_
  refine sR ?_
  refine sM (pT b30) rfl ?_
  refine c_call (vs := [pT b30]) call62 rfl (label_hit_c b30 bc31 (2 + 2 * i) (szT ((2 * n + 2) : Nat)) (cipher seed) (cipher_len _ hk) w53 (HL.get (k := 2) rfl) (hpGetSt HL (i := 2) (j := 4) rfl rfl rfl) (by omega) (by omega)) ?_
  rintro _ w55 ⟨rfl, hC57, hn58⟩
  have H59 := (HL.set (k := 2) rfl hC57 hn58).as (L' := [(k1, sob ELb 38 (zT fw i) z1), (k2, sob ELb 38 (lbS (zT fw n) (inpS sh (2 * k)) δ i) z2), (some b30, .cells #[.slice none 0 0, pT bc31, i64 ((szT ((2 * n + 2) : Nat) : Nat)), i64 (((2 + 2 * i) + 2 : Nat))] 141 (0, 0)), (some b40, lO (δ)), (some bc31, .cells (cel E8 (cipher seed)).toArray 215 (0, 0)), (some b21, .cells #[i64 (n : Nat), .slice (ownA key14) ((m).1.length) c15, .slice (some ⟨b17, 0, none⟩) 64 64] 70 (0, 0)), (key14, sob EG 99 m.1 sp16), (some b17, .cells (cel EI m.2).toArray 153 (0, 0)), (some b5, .cells (cel E8 seed).toArray 124 (0, 0)), (some b1, .cells (cel E64 sh).toArray 67 (0, 0))]) rfl
  refine sM (.tuple #[.agg (cel E64 [wordL (cipher seed) (BitVec.ofInt 64 (((2 + 2 * i) : Nat))), wordL (cipher seed) (BitVec.ofInt 64 (((2 + 2 * i) + 1 : Nat)))]).toArray, .nilIface]) rfl ?_
  refine sq (r_extract (vs := #[.agg (cel E64 [wordL (cipher seed) (BitVec.ofInt 64 (((2 + 2 * i) : Nat))), wordL (cipher seed) (BitVec.ofInt 64 (((2 + 2 * i) + 1 : Nat)))]).toArray, .nilIface]) rfl rfl) ?_
  refine sq (r_extract (vs := #[.agg (cel E64 [wordL (cipher seed) (BitVec.ofInt 64 (((2 + 2 * i) : Nat))), wordL (cipher seed) (BitVec.ofInt 64 (((2 + 2 * i) + 1 : Nat)))]).toArray, .nilIface]) rfl rfl) ?_
  refine q_alloc (o := .cells (cel E64 ([0#64, 0#64])).toArray 38 (0, 0)) H59 zer38 (by kernel_rfl) ?_
  intro b60 w61 hb60 H62 hE63
  refine d_store (k := 0) (v := .agg (cel E64 [wordL (cipher seed) (BitVec.ofInt 64 (((2 + 2 * i) : Nat))), wordL (cipher seed) (BitVec.ofInt 64 (((2 + 2 * i) + 1 : Nat)))]).toArray) (cs' := (cel E64 ([wordL (cipher seed) (BitVec.ofInt 64 (((2 + 2 * i) : Nat))), wordL (cipher seed) (BitVec.ofInt 64 (((2 + 2 * i) + 1 : Nat)))])).toArray) H62 rfl rfl rfl siz38 (by exact celSize (by first | rfl | (show _ * 1 = _; omega))) (by exact celOne _) (by rw [List.size_toArray, cel_length]; show _ ≤ _ * 1; first | omega | (simp only [List.length_set]; omega) | exact bLe rfl | (simp <;> omega)) (by exact putAll (by first | rfl | omega | (simp <;> omega))) ?_
  intro w64 H65 hC66
  have H65' := H65.as (L' := [(some b60, .cells (cel E64 ([wordL (cipher seed) (BitVec.ofInt 64 (((2 + 2 * i) : Nat))), wordL (cipher seed) (BitVec.ofInt 64 (((2 + 2 * i) + 1 : Nat)))])).toArray 38 (0, 0)), (k1, sob ELb 38 (zT fw i) z1), (k2, sob ELb 38 (lbS (zT fw n) (inpS sh (2 * k)) δ i) z2), (some b30, .cells #[.slice none 0 0, pT bc31, i64 ((szT ((2 * n + 2) : Nat) : Nat)), i64 (((2 + 2 * i) + 2 : Nat))] 141 (0, 0)), (some b40, lO (δ)), (some bc31, .cells (cel E8 (cipher seed)).toArray 215 (0, 0)), (some b21, .cells #[i64 (n : Nat), .slice (ownA key14) ((m).1.length) c15, .slice (some ⟨b17, 0, none⟩) 64 64] 70 (0, 0)), (key14, sob EG 99 m.1 sp16), (some b17, .cells (cel EI m.2).toArray 153 (0, 0)), (some b5, .cells (cel E8 seed).toArray 124 (0, 0)), (some b1, .cells (cel E64 sh).toArray 67 (0, 0))]) rfl
  clear H65
  refine sA (.nilIface) rfl ?_
  refine wend ?_
  refine sR ?_
  refine sM (.slice (ownA k1) i c1) rfl ?_
  refine sq (r_loadA (cs' := (cel E64 ([wordL (cipher seed) (BitVec.ofInt 64 (((2 + 2 * i) : Nat))), wordL (cipher seed) (BitVec.ofInt 64 (((2 + 2 * i) + 1 : Nat)))])).toArray) agg38 siz38 (H65'.get (k := 0) rfl) (off := 0) rfl (by exact bLe rfl) (by exact ext_all rfl)) ?_
  refine q_buildSlice (E := ELb) (l := ([(wordL (cipher seed) (BitVec.ofInt 64 (((2 + 2 * i) : Nat))), wordL (cipher seed) (BitVec.ofInt 64 (((2 + 2 * i) + 1 : Nat))))] : List LbT)) H65' sli92 zer38 (bLe rfl) (ps := [(0, .agg (cel E64 ([wordL (cipher seed) (BitVec.ofInt 64 (((2 + 2 * i) : Nat))), wordL (cipher seed) (BitVec.ofInt 64 (((2 + 2 * i) + 1 : Nat)))])).toArray)]) rfl (by exact fillAll rfl rfl) rfl ?_
  intro b67 w69 hS68 H70 hE71
  refine q_append (E := ELb) (k := 2) (l := zT fw i) (l2 := ([(wordL (cipher seed) (BitVec.ofInt 64 (((2 + 2 * i) : Nat))), wordL (cipher seed) (BitVec.ofInt 64 (((2 + 2 * i) + 1 : Nat))))] : List LbT)) H70 rfl h1 sli92 zer38 rfl byt38 (H70.rd (k := 0) rfl hS68) rfl (by rw [zT_len]) rfl (by rfl) (by omega) ?_
  intro key72 c73 sp74 w76 hS75 hne78 H77
  have H77' := H77.as (L' := [((some b67), sob ELb 38 ([(wordL (cipher seed) (BitVec.ofInt 64 (((2 + 2 * i) : Nat))), wordL (cipher seed) (BitVec.ofInt 64 (((2 + 2 * i) + 1 : Nat))))] : List LbT) ([])), (some b60, .cells (cel E64 ([wordL (cipher seed) (BitVec.ofInt 64 (((2 + 2 * i) : Nat))), wordL (cipher seed) (BitVec.ofInt 64 (((2 + 2 * i) + 1 : Nat)))])).toArray 38 (0, 0)), (key72, sob ELb 38 ((zT fw i) ++ ([(wordL (cipher seed) (BitVec.ofInt 64 (((2 + 2 * i) : Nat))), wordL (cipher seed) (BitVec.ofInt 64 (((2 + 2 * i) + 1 : Nat))))] : List LbT)) sp74), (k2, sob ELb 38 (lbS (zT fw n) (inpS sh (2 * k)) δ i) z2), (some b30, .cells #[.slice none 0 0, pT bc31, i64 ((szT ((2 * n + 2) : Nat) : Nat)), i64 (((2 + 2 * i) + 2 : Nat))] 141 (0, 0)), (some b40, lO (δ)), (some bc31, .cells (cel E8 (cipher seed)).toArray 215 (0, 0)), (some b21, .cells #[i64 (n : Nat), .slice (ownA key14) ((m).1.length) c15, .slice (some ⟨b17, 0, none⟩) 64 64] 70 (0, 0)), (key14, sob EG 99 m.1 sp16), (some b17, .cells (cel EI m.2).toArray 153 (0, 0)), (some b5, .cells (cel E8 seed).toArray 124 (0, 0)), (some b1, .cells (cel E64 sh).toArray 67 (0, 0))]) rfl
  clear H77
  have e79 : (zT fw i) ++ ([(wordL (cipher seed) (BitVec.ofInt 64 (((2 + 2 * i) : Nat))), wordL (cipher seed) (BitVec.ofInt 64 (((2 + 2 * i) + 1 : Nat))))] : List LbT) = zT fw (i + 1) := by rw [zT, hfw]
  have hS80 := hS75
  rw [e79] at hS80
  have H81 := H77'.as (L' := [((some b67), sob ELb 38 ([(wordL (cipher seed) (BitVec.ofInt 64 (((2 + 2 * i) : Nat))), wordL (cipher seed) (BitVec.ofInt 64 (((2 + 2 * i) + 1 : Nat))))] : List LbT) ([])), (some b60, .cells (cel E64 ([wordL (cipher seed) (BitVec.ofInt 64 (((2 + 2 * i) : Nat))), wordL (cipher seed) (BitVec.ofInt 64 (((2 + 2 * i) + 1 : Nat)))])).toArray 38 (0, 0)), (key72, sob ELb 38 (zT fw (i + 1)) sp74), (k2, sob ELb 38 (lbS (zT fw n) (inpS sh (2 * k)) δ i) z2), (some b30, .cells #[.slice none 0 0, pT bc31, i64 ((szT ((2 * n + 2) : Nat) : Nat)), i64 (((2 + 2 * i) + 2 : Nat))] 141 (0, 0)), (some b40, lO (δ)), (some bc31, .cells (cel E8 (cipher seed)).toArray 215 (0, 0)), (some b21, .cells #[i64 (n : Nat), .slice (ownA key14) ((m).1.length) c15, .slice (some ⟨b17, 0, none⟩) 64 64] 70 (0, 0)), (key14, sob EG 99 m.1 sp16), (some b17, .cells (cel EI m.2).toArray 153 (0, 0)), (some b5, .cells (cel E8 seed).toArray 124 (0, 0)), (some b1, .cells (cel E64 sh).toArray 67 (0, 0))]) (by rw [e79])
  refine sA (.slice (ownA key72) (i + 1) c73) rfl ?_
  refine wend ?_
  refine drawE (m := 15) [0, 0, 0, 0, 8, 24, 56, 0, 128, 504, 1016, 2046, 4094, 8191, 16383] [12, 13] (fun bs vs w' => match bs, vs with | [false, false], [_, _] => Hp No w w' [((some b67), sob ELb 38 ([(wordL (cipher seed) (BitVec.ofInt 64 (((2 + 2 * i) : Nat))), wordL (cipher seed) (BitVec.ofInt 64 (((2 + 2 * i) + 1 : Nat))))] : List LbT) ([])), (some b60, .cells (cel E64 ([wordL (cipher seed) (BitVec.ofInt 64 (((2 + 2 * i) : Nat))), wordL (cipher seed) (BitVec.ofInt 64 (((2 + 2 * i) + 1 : Nat)))])).toArray 38 (0, 0)), (key72, sob ELb 38 (zT fw (i + 1)) sp74), (k2, sob ELb 38 (lbS (zT fw n) (inpS sh (2 * k)) δ i) z2), (some b30, .cells #[.slice none 0 0, pT bc31, i64 ((szT ((2 * n + 2) : Nat) : Nat)), i64 (((2 + 2 * i) + 2 : Nat))] 141 (0, 0)), (some b40, lO (δ)), (some bc31, .cells (cel E8 (cipher seed)).toArray 215 (0, 0)), (some b21, .cells #[i64 (n : Nat), .slice (ownA key14) ((m).1.length) c15, .slice (some ⟨b17, 0, none⟩) 64 64] 70 (0, 0)), (key14, sob EG 99 m.1 sp16), (some b17, .cells (cel EI m.2).toArray 153 (0, 0)), (some b5, .cells (cel E8 seed).toArray 124 (0, 0)), (some b1, .cells (cel E64 sh).toArray 67 (0, 0))] | [true, false], [v12, _] => ∃ (b83 : Nat), v12 = .slice (ownA (some b83)) 1 1 ∧ Sl ELb (some b83) ([lx (wordL (cipher seed) (BitVec.ofInt 64 (((2 + 2 * i) : Nat))), wordL (cipher seed) (BitVec.ofInt 64 (((2 + 2 * i) + 1 : Nat)))) (lw (decide (((((sh).getD (i / 64) 0#64) >>> (i % 64)) % 2#64) = (1#64))) δ)] : List LbT) 1 ([]) ∧ Hp No w w' [((some b83), sob ELb 38 ([lx (wordL (cipher seed) (BitVec.ofInt 64 (((2 + 2 * i) : Nat))), wordL (cipher seed) (BitVec.ofInt 64 (((2 + 2 * i) + 1 : Nat)))) (lw (decide (((((sh).getD (i / 64) 0#64) >>> (i % 64)) % 2#64) = (1#64))) δ)] : List LbT) ([])), ((some b67), sob ELb 38 ([(wordL (cipher seed) (BitVec.ofInt 64 (((2 + 2 * i) : Nat))), wordL (cipher seed) (BitVec.ofInt 64 (((2 + 2 * i) + 1 : Nat))))] : List LbT) ([])), (some b60, .cells (cel E64 ([wordL (cipher seed) (BitVec.ofInt 64 (((2 + 2 * i) : Nat))), wordL (cipher seed) (BitVec.ofInt 64 (((2 + 2 * i) + 1 : Nat)))])).toArray 38 (0, 0)), (key72, sob ELb 38 (zT fw (i + 1)) sp74), (k2, sob ELb 38 (lbS (zT fw n) (inpS sh (2 * k)) δ i) z2), (some b30, .cells #[.slice none 0 0, pT bc31, i64 ((szT ((2 * n + 2) : Nat) : Nat)), i64 (((2 + 2 * i) + 2 : Nat))] 141 (0, 0)), (some b40, lO (δ)), (some bc31, .cells (cel E8 (cipher seed)).toArray 215 (0, 0)), (some b21, .cells #[i64 (n : Nat), .slice (ownA key14) ((m).1.length) c15, .slice (some ⟨b17, 0, none⟩) 64 64] 70 (0, 0)), (key14, sob EG 99 m.1 sp16), (some b17, .cells (cel EI m.2).toArray 153 (0, 0)), (some b5, .cells (cel E8 seed).toArray 124 (0, 0)), (some b1, .cells (cel E64 sh).toArray 67 (0, 0))] | [true, true], [v12, v13] => ∃ (b83 : Nat) (key89 : Option Nat) (c90 : Nat) (sp91 : List Value), v12 = .slice (ownA (some b83)) 1 1 ∧ v13 = .slice (ownA key89) (i + 1) c90 ∧ Sl ELb (some b83) ([lx (wordL (cipher seed) (BitVec.ofInt 64 (((2 + 2 * i) : Nat))), wordL (cipher seed) (BitVec.ofInt 64 (((2 + 2 * i) + 1 : Nat)))) (lw (decide (((((sh).getD (i / 64) 0#64) >>> (i % 64)) % 2#64) = (1#64))) δ)] : List LbT) 1 ([]) ∧ Sl ELb key89 (lbS (zT fw n) (inpS sh (2 * k)) δ (i + 1)) c90 sp91 ∧ Hp No w w' [((some b83), sob ELb 38 ([lx (wordL (cipher seed) (BitVec.ofInt 64 (((2 + 2 * i) : Nat))), wordL (cipher seed) (BitVec.ofInt 64 (((2 + 2 * i) + 1 : Nat)))) (lw (decide (((((sh).getD (i / 64) 0#64) >>> (i % 64)) % 2#64) = (1#64))) δ)] : List LbT) ([])), ((some b67), sob ELb 38 ([(wordL (cipher seed) (BitVec.ofInt 64 (((2 + 2 * i) : Nat))), wordL (cipher seed) (BitVec.ofInt 64 (((2 + 2 * i) + 1 : Nat))))] : List LbT) ([])), (some b60, .cells (cel E64 ([wordL (cipher seed) (BitVec.ofInt 64 (((2 + 2 * i) : Nat))), wordL (cipher seed) (BitVec.ofInt 64 (((2 + 2 * i) + 1 : Nat)))])).toArray 38 (0, 0)), (key72, sob ELb 38 (zT fw (i + 1)) sp74), (key89, sob ELb 38 (lbS (zT fw n) (inpS sh (2 * k)) δ (i + 1)) sp91), (some b30, .cells #[.slice none 0 0, pT bc31, i64 ((szT ((2 * n + 2) : Nat) : Nat)), i64 (((2 + 2 * i) + 2 : Nat))] 141 (0, 0)), (some b40, lO (δ)), (some bc31, .cells (cel E8 (cipher seed)).toArray 215 (0, 0)), (some b21, .cells #[i64 (n : Nat), .slice (ownA key14) ((m).1.length) c15, .slice (some ⟨b17, 0, none⟩) 64 64] 70 (0, 0)), (key14, sob EG 99 m.1 sp16), (some b17, .cells (cel EI m.2).toArray 153 (0, 0)), (some b5, .cells (cel E8 seed).toArray 124 (0, 0)), (some b1, .cells (cel E64 sh).toArray 67 (0, 0))] | _, _ => False) mixed (by kernel_rfl) (by kernel_rfl) H81.drew ?_
  refine WalkE.look rfl (fun _ => .slice (ownA k2) i c2) (fun _ _ _ => rfl) (fun L r _ uw _ _ _ _ => Gives.run rfl (r_move (v := .slice (ownA k2) i c2) rfl) ⟨rfl, rfl⟩) ?_
  refine WalkE.look rfl (fun _ => .agg (cel E64 ([wordL (cipher seed) (BitVec.ofInt 64 (((2 + 2 * i) : Nat))), wordL (cipher seed) (BitVec.ofInt 64 (((2 + 2 * i) + 1 : Nat)))])).toArray) (fun _ _ _ => rfl) (fun L r uw0 uw hAn hDn hF hEx => ?_) ?_
  ·skip
   have b12 := hDn 12 (by decide) rfl
   have b13 := hDn 13 (by decide) rfl
   have hb := mp2 b12 b13
   rw [hb] at hF
   have HH := hF
   replace HH := HH.ext hEx
   exact Gives.run rfl (r_loadA (cs' := (cel E64 ([wordL (cipher seed) (BitVec.ofInt 64 (((2 + 2 * i) : Nat))), wordL (cipher seed) (BitVec.ofInt 64 (((2 + 2 * i) + 1 : Nat)))])).toArray) agg38 siz38 (HH.get (k := 1) rfl) (off := 0) rfl (by exact bLe rfl) (by exact ext_all rfl)) ⟨rfl, rfl⟩
  refine WalkE.look rfl (fun _ => lV (δ)) (fun _ _ _ => rfl) (fun L r uw0 uw hAn hDn hF hEx => ?_) ?_
  ·skip
   have b12 := hDn 12 (by decide) rfl
   have b13 := hDn 13 (by decide) rfl
   have hb := mp2 b12 b13
   rw [hb] at hF
   have HH := hF
   replace HH := HH.ext hEx
   exact Gives.run rfl (r_loadA (cs' := (cel E64 ([(δ).1, (δ).2])).toArray) agg38 siz38 (HH.get (k := 5) rfl) (off := 0) rfl (by exact bLe rfl) (by exact ext_all rfl)) ⟨rfl, rfl⟩
  refine WalkE.look rfl (fun _ => i64 (i : Nat)) (fun _ _ _ => rfl) (fun L r _ uw _ _ _ _ => Gives.run rfl (r_move (v := i64 (i : Nat)) rfl) ⟨rfl, rfl⟩) ?_
  refine WalkE.look rfl (fun _ => i64 ((i : Nat) / (64 : Int))) (fun _ _ _ => rfl) (fun L r _ uw _ _ _ _ => Gives.run rfl (r_quoI (a := (i : Nat)) (b := (64 : Int)) rfl rfl (by omega)) ⟨rfl, rfl⟩) ?_
  refine WalkE.look rfl (fun _ => .pointer (some ⟨b1, i / 64, none⟩)) (fun _ _ _ => rfl) (fun L r _ uw _ _ _ _ => Gives.run rfl (r_indexA (off' := i / 64) (j := i / 64) arr67 (b := b1) (off := 0) rfl rfl (by first | rfl | omega | (simp; omega)) (by omega) (by omega)) ⟨rfl, rfl⟩) ?_
  refine WalkE.look rfl (fun _ => u64 ((sh).getD (i / 64) 0#64)) (fun _ _ _ => rfl) (fun L r uw0 uw hAn hDn hF hEx => ?_) ?_
  ·skip
   have b12 := hDn 12 (by decide) rfl
   have b13 := hDn 13 (by decide) rfl
   have hb := mp2 b12 b13
   rw [hb] at hF
   have HH := hF
   replace HH := HH.ext hEx
   exact Gives.run rfl (r_ld1 (E := E64) (l := sh) (j := i / 64) (a := (sh).getD (i / 64) 0#64) fits32 (HH.get (k := 11) rfl) (at_getD (by omega)) rfl rfl) ⟨rfl, rfl⟩
  refine WalkE.look rfl (fun _ => i64 (i : Nat)) (fun _ _ _ => rfl) (fun L r _ uw _ _ _ _ => Gives.run rfl (r_move (v := i64 (i : Nat)) rfl) ⟨rfl, rfl⟩) ?_
  refine WalkE.look rfl (fun _ => i64 ((i : Nat) % (64 : Int))) (fun _ _ _ => rfl) (fun L r _ uw _ _ _ _ => Gives.run rfl (r_remI (a := (i : Nat)) (b := (64 : Int)) rfl rfl (by omega)) ⟨rfl, rfl⟩) ?_
  refine WalkE.call rfl (fun _ => u64 ((((sh).getD (i / 64) 0#64) >>> (i % 64)) % 2#64)) (fun _ _ _ => rfl) (fun L r uw0 uw hAn hDn hF hEx => ?_) ?_
  ·skip
   have b12 := hDn 12 (by decide) rfl
   have b13 := hDn 13 (by decide) rfl
   have hb := mp2 b12 b13
   rw [hb] at hF
   have HH := hF
   replace HH := HH.ext hEx
   exact Gives.call rfl (Enters.callL (vs := [u64 ((sh).getD (i / 64) 0#64), i64 ((i : Nat) % (64 : Int))]) call60 rfl) (bit_ok ((sh).getD (i / 64) 0#64) (i % 64) uw)
  refine WalkE.look rfl (fun _ => .bool (decide (((((sh).getD (i / 64) 0#64) >>> (i % 64)) % 2#64) = (1#64)))) (fun _ _ _ => rfl) (fun L r _ uw _ _ _ _ => Gives.run rfl (r_eql64 (a := (((sh).getD (i / 64) 0#64) >>> (i % 64)) % 2#64) (b := 1#64) rfl rfl) ⟨rfl, rfl⟩) ?_
  refine WalkE.call rfl (fun _ => .agg (cel E64 [(lx (wordL (cipher seed) (BitVec.ofInt 64 (((2 + 2 * i) : Nat))), wordL (cipher seed) (BitVec.ofInt 64 (((2 + 2 * i) + 1 : Nat)))) (lw (decide (((((sh).getD (i / 64) 0#64) >>> (i % 64)) % 2#64) = (1#64))) δ)).1, (lx (wordL (cipher seed) (BitVec.ofInt 64 (((2 + 2 * i) : Nat))), wordL (cipher seed) (BitVec.ofInt 64 (((2 + 2 * i) + 1 : Nat)))) (lw (decide (((((sh).getD (i / 64) 0#64) >>> (i % 64)) % 2#64) = (1#64))) δ)).2]).toArray) (fun _ _ _ => rfl) (fun L r uw0 uw hAn hDn hF hEx => ?_) ?_
  ·skip
   have b12 := hDn 12 (by decide) rfl
   have b13 := hDn 13 (by decide) rfl
   have hb := mp2 b12 b13
   rw [hb] at hF
   have HH := hF
   replace HH := HH.ext hEx
   exact Gives.call rfl (Enters.callL (vs := [.agg (cel E64 ([wordL (cipher seed) (BitVec.ofInt 64 (((2 + 2 * i) : Nat))), wordL (cipher seed) (BitVec.ofInt 64 (((2 + 2 * i) + 1 : Nat)))])).toArray, lV (δ), .bool (decide (((((sh).getD (i / 64) 0#64) >>> (i % 64)) % 2#64) = (1#64)))]) call48 rfl) (label_ok (wordL (cipher seed) (BitVec.ofInt 64 (((2 + 2 * i) : Nat))), wordL (cipher seed) (BitVec.ofInt 64 (((2 + 2 * i) + 1 : Nat)))) δ (decide (((((sh).getD (i / 64) 0#64) >>> (i % 64)) % 2#64) = (1#64))) uw)
  refine WalkE.eff 0 rfl (fun L r uw0 uw hLn hAn hDn hF hEx => ?_) ?_
  ·skip
   have b12 : L 12 = false := hLn
   have b13 := hDn 13 (by decide) rfl
   have hb := mp2 b12 b13
   rw [hb] at hF ⊢
   have H99 := hF
   replace H99 := H99.ext hEx
   dsimp only
   refine Gives.ofW (d := 89) rfl rfl (fun Q' hK => ?_)
   refine q_buildSlice (E := ELb) (l := ([lx (wordL (cipher seed) (BitVec.ofInt 64 (((2 + 2 * i) : Nat))), wordL (cipher seed) (BitVec.ofInt 64 (((2 + 2 * i) + 1 : Nat)))) (lw (decide (((((sh).getD (i / 64) 0#64) >>> (i % 64)) % 2#64) = (1#64))) δ)] : List LbT)) H99 sli92 zer38 (bLe rfl) (ps := [(0, .agg (cel E64 [(lx (wordL (cipher seed) (BitVec.ofInt 64 (((2 + 2 * i) : Nat))), wordL (cipher seed) (BitVec.ofInt 64 (((2 + 2 * i) + 1 : Nat)))) (lw (decide (((((sh).getD (i / 64) 0#64) >>> (i % 64)) % 2#64) = (1#64))) δ)).1, (lx (wordL (cipher seed) (BitVec.ofInt 64 (((2 + 2 * i) : Nat))), wordL (cipher seed) (BitVec.ofInt 64 (((2 + 2 * i) + 1 : Nat)))) (lw (decide (((((sh).getD (i / 64) 0#64) >>> (i % 64)) % 2#64) = (1#64))) δ)).2]).toArray)]) rfl (by exact fillAll rfl rfl) rfl ?_
   intro b100 w102 hS101 H103 hE104
   exact hK _ _ (show ∃ (b83 : Nat), (_ : Value) = .slice (ownA (some b83)) 1 1 ∧ Sl ELb (some b83) ([lx (wordL (cipher seed) (BitVec.ofInt 64 (((2 + 2 * i) : Nat))), wordL (cipher seed) (BitVec.ofInt 64 (((2 + 2 * i) + 1 : Nat)))) (lw (decide (((((sh).getD (i / 64) 0#64) >>> (i % 64)) % 2#64) = (1#64))) δ)] : List LbT) 1 ([]) ∧ Hp No w w102 [((some b83), sob ELb 38 ([lx (wordL (cipher seed) (BitVec.ofInt 64 (((2 + 2 * i) : Nat))), wordL (cipher seed) (BitVec.ofInt 64 (((2 + 2 * i) + 1 : Nat)))) (lw (decide (((((sh).getD (i / 64) 0#64) >>> (i % 64)) % 2#64) = (1#64))) δ)] : List LbT) ([])), ((some b67), sob ELb 38 ([(wordL (cipher seed) (BitVec.ofInt 64 (((2 + 2 * i) : Nat))), wordL (cipher seed) (BitVec.ofInt 64 (((2 + 2 * i) + 1 : Nat))))] : List LbT) ([])), (some b60, .cells (cel E64 ([wordL (cipher seed) (BitVec.ofInt 64 (((2 + 2 * i) : Nat))), wordL (cipher seed) (BitVec.ofInt 64 (((2 + 2 * i) + 1 : Nat)))])).toArray 38 (0, 0)), (key72, sob ELb 38 (zT fw (i + 1)) sp74), (k2, sob ELb 38 (lbS (zT fw n) (inpS sh (2 * k)) δ i) z2), (some b30, .cells #[.slice none 0 0, pT bc31, i64 ((szT ((2 * n + 2) : Nat) : Nat)), i64 (((2 + 2 * i) + 2 : Nat))] 141 (0, 0)), (some b40, lO (δ)), (some bc31, .cells (cel E8 (cipher seed)).toArray 215 (0, 0)), (some b21, .cells #[i64 (n : Nat), .slice (ownA key14) ((m).1.length) c15, .slice (some ⟨b17, 0, none⟩) 64 64] 70 (0, 0)), (key14, sob EG 99 m.1 sp16), (some b17, .cells (cel EI m.2).toArray 153 (0, 0)), (some b5, .cells (cel E8 seed).toArray 124 (0, 0)), (some b1, .cells (cel E64 sh).toArray 67 (0, 0))] from ⟨b100, rfl, hS101, (((((((((((((H103.pull (k := 12) rfl).pull (k := 12) rfl).pull (k := 12) rfl).pull (k := 12) rfl).pull (k := 12) rfl).pull (k := 12) rfl).pull (k := 12) rfl).pull (k := 12) rfl).pull (k := 12) rfl).pull (k := 12) rfl).pull (k := 12) rfl).pull (k := 12) rfl).pull (k := 12) rfl)⟩)
  refine WalkE.eff 1 rfl (fun L r uw0 uw hLn hAn hDn hF hEx => ?_) ?_
  ·skip
   have b12 := hAn 12 (by decide) rfl
   have b13 : L 13 = false := hLn
   have hb := mp2 b12 b13
   rw [hb] at hF ⊢
   obtain ⟨b83, e12, hS84, H105⟩ := hF
   replace H105 := H105.ext hEx
   dsimp only
   rw [e12]
   refine Gives.ofW (d := 90) rfl rfl (fun Q' hK => ?_)
   refine q_append (E := ELb) (k := 4) (l := lbS (zT fw n) (inpS sh (2 * k)) δ i) (l2 := ([lx (wordL (cipher seed) (BitVec.ofInt 64 (((2 + 2 * i) : Nat))), wordL (cipher seed) (BitVec.ofInt 64 (((2 + 2 * i) + 1 : Nat)))) (lw (decide (((((sh).getD (i / 64) 0#64) >>> (i % 64)) % 2#64) = (1#64))) δ)] : List LbT)) H105 rfl h2 sli92 zer38 rfl byt38 (H105.rd (k := 0) rfl hS84) rfl (by rw [lbS_len]) rfl (by rfl) (by omega) ?_
   intro key106 c107 sp108 w110 hS109 hne112 H111
   have H111' := H111.as (L' := [((some b83), sob ELb 38 ([lx (wordL (cipher seed) (BitVec.ofInt 64 (((2 + 2 * i) : Nat))), wordL (cipher seed) (BitVec.ofInt 64 (((2 + 2 * i) + 1 : Nat)))) (lw (decide (((((sh).getD (i / 64) 0#64) >>> (i % 64)) % 2#64) = (1#64))) δ)] : List LbT) ([])), ((some b67), sob ELb 38 ([(wordL (cipher seed) (BitVec.ofInt 64 (((2 + 2 * i) : Nat))), wordL (cipher seed) (BitVec.ofInt 64 (((2 + 2 * i) + 1 : Nat))))] : List LbT) ([])), (some b60, .cells (cel E64 ([wordL (cipher seed) (BitVec.ofInt 64 (((2 + 2 * i) : Nat))), wordL (cipher seed) (BitVec.ofInt 64 (((2 + 2 * i) + 1 : Nat)))])).toArray 38 (0, 0)), (key72, sob ELb 38 (zT fw (i + 1)) sp74), (key106, sob ELb 38 ((lbS (zT fw n) (inpS sh (2 * k)) δ i) ++ ([lx (wordL (cipher seed) (BitVec.ofInt 64 (((2 + 2 * i) : Nat))), wordL (cipher seed) (BitVec.ofInt 64 (((2 + 2 * i) + 1 : Nat)))) (lw (decide (((((sh).getD (i / 64) 0#64) >>> (i % 64)) % 2#64) = (1#64))) δ)] : List LbT)) sp108), (some b30, .cells #[.slice none 0 0, pT bc31, i64 ((szT ((2 * n + 2) : Nat) : Nat)), i64 (((2 + 2 * i) + 2 : Nat))] 141 (0, 0)), (some b40, lO (δ)), (some bc31, .cells (cel E8 (cipher seed)).toArray 215 (0, 0)), (some b21, .cells #[i64 (n : Nat), .slice (ownA key14) ((m).1.length) c15, .slice (some ⟨b17, 0, none⟩) 64 64] 70 (0, 0)), (key14, sob EG 99 m.1 sp16), (some b17, .cells (cel EI m.2).toArray 153 (0, 0)), (some b5, .cells (cel E8 seed).toArray 124 (0, 0)), (some b1, .cells (cel E64 sh).toArray 67 (0, 0))]) rfl
   clear H111
   have e113 : (lbS (zT fw n) (inpS sh (2 * k)) δ i) ++ ([lx (wordL (cipher seed) (BitVec.ofInt 64 (((2 + 2 * i) : Nat))), wordL (cipher seed) (BitVec.ofInt 64 (((2 + 2 * i) + 1 : Nat)))) (lw (decide (((((sh).getD (i / 64) 0#64) >>> (i % 64)) % 2#64) = (1#64))) δ)] : List LbT) = lbS (zT fw n) (inpS sh (2 * k)) δ (i + 1) := by rw [lbS, zT_at fw n i (by omega), inpS_bit sh (2 * k) i (by omega), hfw]
   have hS114 := hS109
   rw [e113] at hS114
   have H115 := H111'.as (L' := [((some b83), sob ELb 38 ([lx (wordL (cipher seed) (BitVec.ofInt 64 (((2 + 2 * i) : Nat))), wordL (cipher seed) (BitVec.ofInt 64 (((2 + 2 * i) + 1 : Nat)))) (lw (decide (((((sh).getD (i / 64) 0#64) >>> (i % 64)) % 2#64) = (1#64))) δ)] : List LbT) ([])), ((some b67), sob ELb 38 ([(wordL (cipher seed) (BitVec.ofInt 64 (((2 + 2 * i) : Nat))), wordL (cipher seed) (BitVec.ofInt 64 (((2 + 2 * i) + 1 : Nat))))] : List LbT) ([])), (some b60, .cells (cel E64 ([wordL (cipher seed) (BitVec.ofInt 64 (((2 + 2 * i) : Nat))), wordL (cipher seed) (BitVec.ofInt 64 (((2 + 2 * i) + 1 : Nat)))])).toArray 38 (0, 0)), (key72, sob ELb 38 (zT fw (i + 1)) sp74), (key106, sob ELb 38 (lbS (zT fw n) (inpS sh (2 * k)) δ (i + 1)) sp108), (some b30, .cells #[.slice none 0 0, pT bc31, i64 ((szT ((2 * n + 2) : Nat) : Nat)), i64 (((2 + 2 * i) + 2 : Nat))] 141 (0, 0)), (some b40, lO (δ)), (some bc31, .cells (cel E8 (cipher seed)).toArray 215 (0, 0)), (some b21, .cells #[i64 (n : Nat), .slice (ownA key14) ((m).1.length) c15, .slice (some ⟨b17, 0, none⟩) 64 64] 70 (0, 0)), (key14, sob EG 99 m.1 sp16), (some b17, .cells (cel EI m.2).toArray 153 (0, 0)), (some b5, .cells (cel E8 seed).toArray 124 (0, 0)), (some b1, .cells (cel E64 sh).toArray 67 (0, 0))]) (by rw [e113])
   exact hK _ _ (show ∃ (b83 : Nat) (key89 : Option Nat) (c90 : Nat) (sp91 : List Value), r 12 = .slice (ownA (some b83)) 1 1 ∧ (_ : Value) = .slice (ownA key89) (i + 1) c90 ∧ Sl ELb (some b83) ([lx (wordL (cipher seed) (BitVec.ofInt 64 (((2 + 2 * i) : Nat))), wordL (cipher seed) (BitVec.ofInt 64 (((2 + 2 * i) + 1 : Nat)))) (lw (decide (((((sh).getD (i / 64) 0#64) >>> (i % 64)) % 2#64) = (1#64))) δ)] : List LbT) 1 ([]) ∧ Sl ELb key89 (lbS (zT fw n) (inpS sh (2 * k)) δ (i + 1)) c90 sp91 ∧ Hp No w w110 [((some b83), sob ELb 38 ([lx (wordL (cipher seed) (BitVec.ofInt 64 (((2 + 2 * i) : Nat))), wordL (cipher seed) (BitVec.ofInt 64 (((2 + 2 * i) + 1 : Nat)))) (lw (decide (((((sh).getD (i / 64) 0#64) >>> (i % 64)) % 2#64) = (1#64))) δ)] : List LbT) ([])), ((some b67), sob ELb 38 ([(wordL (cipher seed) (BitVec.ofInt 64 (((2 + 2 * i) : Nat))), wordL (cipher seed) (BitVec.ofInt 64 (((2 + 2 * i) + 1 : Nat))))] : List LbT) ([])), (some b60, .cells (cel E64 ([wordL (cipher seed) (BitVec.ofInt 64 (((2 + 2 * i) : Nat))), wordL (cipher seed) (BitVec.ofInt 64 (((2 + 2 * i) + 1 : Nat)))])).toArray 38 (0, 0)), (key72, sob ELb 38 (zT fw (i + 1)) sp74), (key89, sob ELb 38 (lbS (zT fw n) (inpS sh (2 * k)) δ (i + 1)) sp91), (some b30, .cells #[.slice none 0 0, pT bc31, i64 ((szT ((2 * n + 2) : Nat) : Nat)), i64 (((2 + 2 * i) + 2 : Nat))] 141 (0, 0)), (some b40, lO (δ)), (some bc31, .cells (cel E8 (cipher seed)).toArray 215 (0, 0)), (some b21, .cells #[i64 (n : Nat), .slice (ownA key14) ((m).1.length) c15, .slice (some ⟨b17, 0, none⟩) 64 64] 70 (0, 0)), (key14, sob EG 99 m.1 sp16), (some b17, .cells (cel EI m.2).toArray 153 (0, 0)), (some b5, .cells (cel E8 seed).toArray 124 (0, 0)), (some b1, .cells (cel E64 sh).toArray 67 (0, 0))] from ⟨b83, key106, c107, sp108, e12, rfl, hS84, hS114, (((((((((((((H115.pull (k := 12) rfl).pull (k := 12) rfl).pull (k := 12) rfl).pull (k := 12) rfl).pull (k := 12) rfl).pull (k := 12) rfl).pull (k := 12) rfl).pull (k := 12) rfl).pull (k := 12) rfl).pull (k := 12) rfl).pull (k := 12) rfl).pull (k := 12) rfl).pull (k := 12) rfl)⟩)
  refine WalkE.look rfl (fun r => r 13) (fun r r' h => h 13 (by decide) rfl) (fun L r _ uw _ _ _ _ => Gives.run rfl (r_assign rfl) ⟨rfl, rfl⟩) ?_
  refine WalkE.nil ?_
  intro r116 uw0 w117 hF hEx
  obtain ⟨b83, key89, c90, sp91, e12, e13, hS84, hS97, H118⟩ := hF
  replace H118 := H118.ext hEx
  dsimp only
  rw [e12, e13]
  refine wnil ?_
  refine blockNormal ?_
  refine thenNormal ?_
  refine oneRegion ?_
  refine sM (i64 (i : Nat)) rfl ?_
  refine sq (r_addI (a := (i : Nat)) (b := (1 : Int)) rfl rfl (by omega)) ?_
  refine sA (i64 ((i : Nat) + (1 : Int))) rfl ?_
  refine wnil ?_
  refine thenNormal ?_
  exact ⟨(i + 1, key72, c73, sp74, key89, c90, sp91), _, rfl, ⟨rfl, rfl, rfl, rfl, rfl, rfl, rfl, rfl, rfl, rfl, trivial⟩, ⟨⟨by omega, hS80, hS97⟩, (((H118.dropk 2).dropk 1).dropk 0)⟩, by show n - (i + 1) < n - i; omega⟩
 ·skip
  have hie : i = n := by omega
  rw [hie] at HL h1 h2
  rw [hie]
  have hzn : ((zT fw n).length : Int) = (n : Nat) := by rw [zT_len]
  have hln : ((lbS (zT fw n) (inpS sh (2 * k)) δ n).length : Int) = (n : Nat) := by rw [lbS_len]
  refine exitAny ?_
  refine thenExit ?_
  refine thenExit ?_
  refine blockHere ?_
  refine thenNormal ?_
  refine sR ?_
  refine sq (r_loadA (cs' := #[i64 (n : Nat), .slice (ownA key14) ((m).1.length) c15, .slice (some ⟨b17, 0, none⟩) 64 64]) agg70 siz70 (HL.get (k := 5) rfl) (off := 0) rfl (by exact bLe rfl) (by rfl)) ?_
  refine sq (r_loadA (cs' := (cel E64 ([(δ).1, (δ).2])).toArray) agg38 siz38 (HL.get (k := 3) rfl) (off := 0) rfl (by exact bLe rfl) (by exact ext_all rfl)) ?_
  refine sM (.slice (ownA k1) n c1) rfl ?_
  refine c_call (vs := [.agg #[i64 (n : Nat), .slice (ownA key14) ((m).1.length) c15, .slice (some ⟨b17, 0, none⟩) 64 64], lV (δ), .slice (ownA k1) n c1, u64 (9#64)]) call45 rfl (garble_okM (n : Nat) m.1 m.2 (ownA key14) (some ⟨b17, 0, none⟩) c15 64 ((m).1.length) 64 (by rfl) (by exact hA.outs.symm) δ (zT fw n) (ownA k1) c1 (9#64) n (by rw [zT_len]) w53 (Chg.gl HL.chg (fun x => x) hG) (HL.rd (k := 6) rfl hS18) (Rd.row (HL.get (k := 7) rfl)) (by omega) (by omega) (HL.rd (k := 0) rfl h1) hA.is hzn hcd) ?_
  rintro _ w119 ⟨k121, c122, z123, k124, c125, z126, rfl, hS127, hS128, HN129⟩
  obtain ⟨tb, htb⟩ : ∃ x, x = (gS lhash δ (9#64) m.1 (zT fw n) (m.1).length).2 := ⟨_, rfl⟩
  obtain ⟨ot, hot⟩ : ∃ x, x = oL (gS lhash δ (9#64) m.1 (zT fw n) (m.1).length).1 m.2 (m.2).length := ⟨_, rfl⟩
  rw [← htb] at hS127 HN129 ⊢
  rw [← hot] at hS128 HN129 ⊢
  have H130 := (HL.join HN129).as (L' := [(k121, sob ELb 38 tb z123), (k124, sob ELb 38 ot z126), (k1, sob ELb 38 (zT fw n) z1), (k2, sob ELb 38 (lbS (zT fw n) (inpS sh (2 * k)) δ n) z2), (some b30, .cells #[.slice none 0 0, pT bc31, i64 ((szT ((2 * n + 2) : Nat) : Nat)), i64 (((2 + 2 * n) : Nat))] 141 (0, 0)), (some b40, lO (δ)), (some bc31, .cells (cel E8 (cipher seed)).toArray 215 (0, 0)), (some b21, .cells #[i64 (n : Nat), .slice (ownA key14) ((m).1.length) c15, .slice (some ⟨b17, 0, none⟩) 64 64] 70 (0, 0)), (key14, sob EG 99 m.1 sp16), (some b17, .cells (cel EI m.2).toArray 153 (0, 0)), (some b5, .cells (cel E8 seed).toArray 124 (0, 0)), (some b1, .cells (cel E64 sh).toArray 67 (0, 0))]) rfl
  refine sM (.tuple #[.slice (ownA k121) tb.length c122, .slice (ownA k124) ot.length c125, .nilIface]) rfl ?_
  refine sq (r_extract (vs := #[.slice (ownA k121) tb.length c122, .slice (ownA k124) ot.length c125, .nilIface]) rfl rfl) ?_
  refine sq (r_extract (vs := #[.slice (ownA k121) tb.length c122, .slice (ownA k124) ot.length c125, .nilIface]) rfl rfl) ?_
  refine sq (r_extract (vs := #[.slice (ownA k121) tb.length c122, .slice (ownA k124) ot.length c125, .nilIface]) rfl rfl) ?_
  refine sA (.slice (ownA k121) tb.length c122) rfl ?_
  refine sA (.slice (ownA k124) ot.length c125) rfl ?_
  refine sA (.nilIface) rfl ?_
  have htbl : tb.length = 2 * andsS m.1 m.1.length := by rw [htb]; exact gS_ands (fun i hi => by have := hA.is.gok i hi; unfold gokP at this; omega) _ (Nat.le_refl _)
  have hot1 : ot.length = m.2.length := by rw [hot, oL_len]
  refine wend ?_
  refine sR ?_
  refine sq (r_loadA (cs' := #[i64 (n : Nat), .slice (ownA key14) ((m).1.length) c15, .slice (some ⟨b17, 0, none⟩) 64 64]) agg70 siz70 (H130.get (k := 7) rfl) (off := 0) rfl (by exact bLe rfl) (by rfl)) ?_
  refine sM (.slice (ownA k2) n c2) rfl ?_
  refine sM (.slice (ownA k121) tb.length c122) rfl ?_
  refine c_call (vs := [.agg #[i64 (n : Nat), .slice (ownA key14) ((m).1.length) c15, .slice (some ⟨b17, 0, none⟩) 64 64], .slice (ownA k2) n c2, .slice (ownA k121) tb.length c122, u64 (9#64)]) call46 rfl (eval_okM (n : Nat) m.1 m.2 (ownA key14) (some ⟨b17, 0, none⟩) c15 64 ((m).1.length) 64 (by rfl) (by exact hA.outs.symm) (lbS (zT fw n) (inpS sh (2 * k)) δ n) tb (ownA k2) (ownA k121) c2 c122 (9#64) n tb.length (by rw [lbS_len]) (by first | rfl | omega | (simp; omega) | (simp at *; omega)) w119 (Chg.gl H130.chg (fun x => x) hG) (H130.rd (k := 8) rfl hS18) (Rd.row (H130.get (k := 9) rfl)) (by omega) (by omega) (H130.rd (k := 3) rfl h2) (H130.rd (k := 0) rfl hS127) hA.is hln htbl) ?_
  rintro _ w131 ⟨k133, c134, z135, rfl, hS136, HN137⟩
  obtain ⟨el, hel⟩ : ∃ x, x = oL (eS lhash (9#64) m.1 tb (lbS (zT fw n) (inpS sh (2 * k)) δ n) (m.1).length).1 m.2 (m.2).length := ⟨_, rfl⟩
  rw [← hel] at hS136 HN137
  have H138 := (H130.join HN137).as (L' := [(k133, sob ELb 38 el z135), (k121, sob ELb 38 tb z123), (k124, sob ELb 38 ot z126), (k1, sob ELb 38 (zT fw n) z1), (k2, sob ELb 38 (lbS (zT fw n) (inpS sh (2 * k)) δ n) z2), (some b30, .cells #[.slice none 0 0, pT bc31, i64 ((szT ((2 * n + 2) : Nat) : Nat)), i64 (((2 + 2 * n) : Nat))] 141 (0, 0)), (some b40, lO (δ)), (some bc31, .cells (cel E8 (cipher seed)).toArray 215 (0, 0)), (some b21, .cells #[i64 (n : Nat), .slice (ownA key14) ((m).1.length) c15, .slice (some ⟨b17, 0, none⟩) 64 64] 70 (0, 0)), (key14, sob EG 99 m.1 sp16), (some b17, .cells (cel EI m.2).toArray 153 (0, 0)), (some b5, .cells (cel E8 seed).toArray 124 (0, 0)), (some b1, .cells (cel E64 sh).toArray 67 (0, 0))]) rfl
  have hell : el.length = m.2.length := by rw [hel, oL_len]
  refine sM (.tuple #[.slice (ownA k133) ((m.2).length) c134, .nilIface]) rfl ?_
  refine sq (r_extract (vs := #[.slice (ownA k133) ((m.2).length) c134, .nilIface]) rfl rfl) ?_
  refine sq (r_extract (vs := #[.slice (ownA k133) ((m.2).length) c134, .nilIface]) rfl rfl) ?_
  refine sA (.slice (ownA k133) ((m.2).length) c134) rfl ?_
  refine sA (.nilIface) rfl ?_
  refine wend ?_
  refine seqAny ?_
  refine drawAny (K := [none, none, none, none, none, none, none, none, none, none, none, none, none, none]) [0, 0, 2, 0, 8, 31, 0, 0, 128, 0, 512, 2047, 4095, 8191] (fun w' => Ext w131 w') (fun w' w'' => Ext w' w'') mixed (by kernel_rfl) (Ext.drew _) (fun _ _ h h' => h.trans h') ?_ ?_
  ·exact relNone (by decide)
  refine ⟨u64 (fm), fun _ uw139 hC140 _ => Gives.run rfl (r_move (v := u64 (fm)) rfl) ⟨rfl, Chg.refl _ _⟩, ?_⟩
  refine ⟨pT b1, fun _ uw141 hC142 _ => Gives.run rfl (r_indexA (off' := 0) (j := 0) arr67 (b := b1) (off := 0) rfl rfl (by first | rfl | omega | (simp; omega)) (by omega) (by omega)) ⟨rfl, Chg.refl _ _⟩, ?_⟩
  refine ⟨u64 ((sh).getD 0 0#64), fun _ uw143 hC144 _ => Gives.run rfl (r_ld1 (E := E64) (l := sh) (j := 0) (a := (sh).getD 0 0#64) fits32 ((H138.ext hC144).get (k := 12) rfl) (at_getD (by first | omega | (simp only [List.length_set]; omega) | exact bLe rfl | (simp <;> omega))) rfl rfl) ⟨rfl, Chg.refl _ _⟩, ?_⟩
  refine ⟨.pointer (some ⟨b1, 1, none⟩), fun _ uw145 hC146 _ => Gives.run rfl (r_indexA (off' := 1) (j := 1) arr67 (b := b1) (off := 0) rfl rfl (by first | rfl | omega | (simp; omega)) (by omega) (by omega)) ⟨rfl, Chg.refl _ _⟩, ?_⟩
  refine ⟨u64 ((sh).getD 1 0#64), fun _ uw147 hC148 _ => Gives.run rfl (r_ld1 (E := E64) (l := sh) (j := 1) (a := (sh).getD 1 0#64) fits32 ((H138.ext hC148).get (k := 12) rfl) (at_getD (by first | omega | (simp only [List.length_set]; omega) | exact bLe rfl | (simp <;> omega))) rfl rfl) ⟨rfl, Chg.refl _ _⟩, ?_⟩
  refine ⟨u64 (whS (fbS fm 0) ((sh).getD 0 0#64) ((sh).getD 1 0#64)), fun _ uw149 hC150 _ => Gives.call rfl (Enters.callL (vs := [u64 (fm), i64 ((0 : Int)), u64 ((sh).getD 0 0#64), u64 ((sh).getD 1 0#64)]) call38 rfl) (rwhole_ok fm 0 ((sh).getD 0 0#64) ((sh).getD 1 0#64) uw149), ?_⟩
  refine ⟨u64 (fm), fun _ uw151 hC152 _ => Gives.run rfl (r_move (v := u64 (fm)) rfl) ⟨rfl, Chg.refl _ _⟩, ?_⟩
  refine ⟨.pointer (some ⟨b1, 2, none⟩), fun _ uw153 hC154 _ => Gives.run rfl (r_indexA (off' := 2) (j := 2) arr67 (b := b1) (off := 0) rfl rfl (by first | rfl | omega | (simp; omega)) (by omega) (by omega)) ⟨rfl, Chg.refl _ _⟩, ?_⟩
  refine ⟨u64 ((sh).getD 2 0#64), fun _ uw155 hC156 _ => Gives.run rfl (r_ld1 (E := E64) (l := sh) (j := 2) (a := (sh).getD 2 0#64) fits32 ((H138.ext hC156).get (k := 12) rfl) (at_getD (by first | omega | (simp only [List.length_set]; omega) | exact bLe rfl | (simp <;> omega))) rfl rfl) ⟨rfl, Chg.refl _ _⟩, ?_⟩
  refine ⟨.pointer (some ⟨b1, 3, none⟩), fun _ uw157 hC158 _ => Gives.run rfl (r_indexA (off' := 3) (j := 3) arr67 (b := b1) (off := 0) rfl rfl (by first | rfl | omega | (simp; omega)) (by omega) (by omega)) ⟨rfl, Chg.refl _ _⟩, ?_⟩
  refine ⟨u64 ((sh).getD 3 0#64), fun _ uw159 hC160 _ => Gives.run rfl (r_ld1 (E := E64) (l := sh) (j := 3) (a := (sh).getD 3 0#64) fits32 ((H138.ext hC160).get (k := 12) rfl) (at_getD (by first | omega | (simp only [List.length_set]; omega) | exact bLe rfl | (simp <;> omega))) rfl rfl) ⟨rfl, Chg.refl _ _⟩, ?_⟩
  refine ⟨u64 (whS (fbS fm 1) ((sh).getD 2 0#64) ((sh).getD 3 0#64)), fun _ uw161 hC162 _ => Gives.call rfl (Enters.callL (vs := [u64 (fm), i64 ((1 : Int)), u64 ((sh).getD 2 0#64), u64 ((sh).getD 3 0#64)]) call38 rfl) (rwhole_ok fm 1 ((sh).getD 2 0#64) ((sh).getD 3 0#64) uw161), ?_⟩
  refine ⟨u64 (whS (fbS fm 0) ((sh).getD 0 0#64) ((sh).getD 1 0#64)), fun _ uw163 hC164 _ => Gives.run rfl (r_assign (v := u64 (whS (fbS fm 0) ((sh).getD 0 0#64) ((sh).getD 1 0#64))) rfl) ⟨rfl, Chg.refl _ _⟩, ?_⟩
  refine ⟨u64 (whS (fbS fm 1) ((sh).getD 2 0#64) ((sh).getD 3 0#64)), fun _ uw165 hC166 _ => Gives.run rfl (r_assign (v := u64 (whS (fbS fm 1) ((sh).getD 2 0#64) ((sh).getD 3 0#64))) rfl) ⟨rfl, Chg.refl _ _⟩, ?_⟩
  intro r170 w167 hE169 hF
  have H168 := H138.ext hE169
  have hfin : colS ot (min ot.length 64) ^^^ colS el (min el.length 64) = saysS kd (whS (fbS fm 0) (sh.getD 0 0#64) (sh.getD 1 0#64)) (whS (fbS fm 1) (sh.getD 2 0#64) (sh.getD 3 0#64)) := by
   rw [← hA.says]
   exact made_col (h := lhash) (first := 9#64) (zs := zT fw n) (ls := lbS (zT fw n) (inpS sh (2 * k)) δ n) (bits := inpS sh (2 * k)) hcd (by rw [lbS_len, zT_len]) (by rw [zT_len]; omega) (by rw [zT_len]; exact hA.is) hA.outs (fun j hj => lbS_at _ _ _ _ _ (by rw [zT_len] at hj; exact hj)) hot (by rw [hel, htb])
  refine wnil ?_
  refine thenNormal ?_
  refine sR ?_
  refine sM (.nilIface) rfl ?_
  refine sq (r_eqlNN isI27 rfl rfl) ?_
  refine sM (.bool (true)) rfl ?_
  refine sqAny (v := .nilIface) (w' := w167) (wantedSome (d' := 120) (b := true) rfl rfl rfl) (r_move (v := .nilIface) rfl) ?_
  refine sqAny (v := .bool (true)) (w' := w167) (wantedSome (d' := 120) (b := true) rfl rfl rfl) (r_eqlNN isI27 rfl rfl) ?_
  refine sq (r_pickT (u := .bool (true)) rfl rfl) ?_
  refine sM (.bool (true)) rfl ?_
  refine sqAny (v := .slice (ownA k124) ot.length c125) (w' := w167) (wantedSome (d' := 124) (b := true) rfl rfl rfl) (r_move (v := .slice (ownA k124) ot.length c125) rfl) ?_
  refine caAny (wantedSome (d' := 124) (b := true) rfl rfl rfl) (Enters.callL (vs := [.slice (ownA k124) ot.length c125]) call51 rfl) (colours_ok ot (ownA k124) ot.length c125 (by first | rfl | omega | (simp; omega) | (simp at *; omega)) (by omega) w167 (H168.rd (k := 2) rfl hS128)) ?_
  rintro _ w171 ⟨rfl, hE172⟩
  have H173 := H168.ext hE172
  refine sqAny (v := .slice (ownA k133) ((m.2).length) c134) (w' := w171) (wantedSome (d' := 124) (b := true) rfl rfl rfl) (r_move (v := .slice (ownA k133) ((m.2).length) c134) rfl) ?_
  refine caAny (wantedSome (d' := 124) (b := true) rfl rfl rfl) (Enters.callL (vs := [.slice (ownA k133) ((m.2).length) c134]) call51 rfl) (colours_ok el (ownA k133) ((m.2).length) c134 (by exact hell.symm) (by omega) w171 (H173.rd (k := 0) rfl hS136)) ?_
  rintro _ w174 ⟨rfl, hE175⟩
  have H176 := H173.ext hE175
  refine sqAny (v := u64 ((colS ot (min ot.length 64)) ^^^ (colS el (min el.length 64)))) (w' := w174) (wantedSome (d' := 124) (b := true) rfl rfl rfl) (r_xor64 (a := colS ot (min ot.length 64)) (b := colS el (min el.length 64)) rfl rfl) ?_
  refine sqAny (v := i64 (kd : Nat)) (w' := w174) (wantedSome (d' := 124) (b := true) rfl rfl rfl) (r_move (v := i64 (kd : Nat)) rfl) ?_
  refine sqAny (v := u64 (whS (fbS fm 0) ((sh).getD 0 0#64) ((sh).getD 1 0#64))) (w' := w174) (wantedSome (d' := 124) (b := true) rfl rfl rfl) (r_move (v := u64 (whS (fbS fm 0) ((sh).getD 0 0#64) ((sh).getD 1 0#64))) rfl) ?_
  refine sqAny (v := u64 (whS (fbS fm 1) ((sh).getD 2 0#64) ((sh).getD 3 0#64))) (w' := w174) (wantedSome (d' := 124) (b := true) rfl rfl rfl) (r_move (v := u64 (whS (fbS fm 1) ((sh).getD 2 0#64) ((sh).getD 3 0#64))) rfl) ?_
  refine caAny (wantedSome (d' := 124) (b := true) rfl rfl rfl) (Enters.callL (vs := [i64 (kd : Nat), u64 (whS (fbS fm 0) ((sh).getD 0 0#64) ((sh).getD 1 0#64)), u64 (whS (fbS fm 1) ((sh).getD 2 0#64) ((sh).getD 3 0#64))]) call40 rfl) (rsays_ok kd (whS (fbS fm 0) ((sh).getD 0 0#64) ((sh).getD 1 0#64)) (whS (fbS fm 1) ((sh).getD 2 0#64) ((sh).getD 3 0#64)) w174) ?_
  rintro _ w177 ⟨rfl, hE178⟩
  have H179 := H176.ext hE178
  refine sqAny (v := .bool (true)) (w' := w177) (wantedSome (d' := 124) (b := true) rfl rfl rfl) ((r_eql64 (a := (colS ot (min ot.length 64)) ^^^ (colS el (min el.length 64))) (b := saysS kd (whS (fbS fm 0) ((sh).getD 0 0#64) ((sh).getD 1 0#64)) (whS (fbS fm 1) ((sh).getD 2 0#64) ((sh).getD 3 0#64))) rfl rfl).as (v' := .bool (true)) (by exact congrArg Value.bool (decide_eq_true hfin))) ?_
  refine sq (r_pickT (u := .bool (true)) rfl rfl) ?_
  refine sA (.bool (true)) rfl ?_
  refine wend ?_
  refine retAny ?_
  refine retG (rs := [.tmp 6]) (vs := [.bool (true)]) rfl ⟨⟨rfl, rfl⟩, trivial⟩ ?_
  exact ⟨_, rfl, rfl, H179.chg⟩
end Go.Proofs.YteofdmdpaejgaaaDoor.Gm
namespace Go.Proofs.YteofdmdpaejgaaaDoor.Gm
open Go Go.Proofs.YteofdmdpaejgaaaDoor.Vc Go.Proofs.YteofdmdpaejgaaaDoor.Er Go.Proofs.YteofdmdpaejgaaaDoor.Circ Go.Proofs.YteofdmdpaejgaaaDoor.Gb Go.Proofs.YteofdmdpaejgaaaDoor.Cm Go.Proofs.YteofdmdpaejgaaaDoor.AesSpec
set_option linter.unusedVariables false
attribute [local irreducible] wordL cipher
set_option maxRecDepth 20000 in
set_option maxHeartbeats 16000000 in
theorem gmade_two (kind : Int) (kd n k : Nat) (m : List Gt × List Int) (fm : BitVec 64) (sh : List (BitVec 64)) (hsh : sh.length = 4) (seed : List By) (hk : seed.length = 16) (hkd : (BitVec.ofInt 64 kind % 3#64).toInt + 1 = ((kd : Nat) : Int)) (hk1 : 2 ≤ kd ∧ kd ≤ 3) (hfm : fm = sh.getD 1 0#64 % 4#64) (hk2 : k ≤ 2) (hk0 : 1 ≤ k) (hn : n = 128 * k) (hM : ∀ w, Calls Tryd.prog 29 [i64 ((kd : Nat) : Int), u64 fm].toArray w (Ret fun v w' => ∃ (key : Option Nat) (c : Nat) (sp : List Value) (b : Nat), v = .tuple #[.agg #[i64 ((n : Nat) : Int), .slice (ownA key) (m).1.length c, .slice (some ⟨b, 0, none⟩) 64 64], .nilIface] ∧ Sl EG key (m).1 c sp ∧ Hp No w w' [(key, sob EG 99 (m).1 sp), (some b, .cells (cel EI (m).2).toArray 153 (0, 0))])) (hA : Answers n (inpS sh (2 * k)) m (saysS kd (whS (fbS fm 0) (sh.getD 0 0#64) (sh.getD 1 0#64)) (whS (fbS fm 1) (sh.getD 2 0#64) (sh.getD 3 0#64)))) (w : World) (hG : Gl w) : Calls Tryd.prog 14 [i64 kind, .agg (cel E64 sh).toArray, .agg (cel E8 seed).toArray].toArray w (Ret fun v w' => v = .bool true ∧ Ext w w') := by
 have ho := hA.outs
 have hgat := hA.is.gates
 have hil2 := inpS_len sh (2 * k)
 have H := Hp.start No w
 refine enter (n := 136) Tryd.func14 rfl rfl (bLe rfl) ?_
 refine sR ?_
 refine q_box (v := .agg (cel E64 sh).toArray) (o := .cells (cel E64 sh).toArray 67 (0, 0)) H rfl (by rfl) ?_
 intro b1 w2 hb1 H3 hE4
 refine q_box (v := .agg (cel E8 seed).toArray) (o := .cells (cel E8 seed).toArray 124 (0, 0)) H3 rfl (by rfl) ?_
 intro b5 w6 hb5 H7 hE8
 refine sA (.bool (false)) rfl ?_
 refine wend ?_
 refine seqAny ?_
 refine sR ?_
 refine c_call (vs := []) call41 rfl (gawake_ok w6 (Chg.gl H7.chg (fun x => x) hG)) ?_
 rintro _ w9 ⟨rfl, hE10⟩
 have H11 := H7.ext hE10
 refine sq (r_notT rfl) ?_
 refine wend ?_
 refine condFalse rfl ?_
 refine skipAny ?_
 refine thenNormal ?_
 refine sR ?_
 refine sM (i64 (kind)) rfl ?_
 refine sq (r_Ito64 und3 und45 (a := kind) rfl) ?_
 refine sq (r_rem64 (a := BitVec.ofInt 64 kind) (b := 3#64) rfl rfl (by decide)) ?_
 refine sq (r_64toI und45 und3 (a := (BitVec.ofInt 64 kind) % (3#64)) rfl) ?_
 refine sq ((r_addI (a := ((BitVec.ofInt 64 kind) % (3#64)).toInt) (b := (1 : Int)) rfl rfl (by omega)).as (v' := i64 (kd : Nat)) (by exact congrArg i64 hkd)) ?_
 refine sA (i64 (kd : Nat)) rfl ?_
 refine wend ?_
 refine sR ?_
 refine sq (r_indexA (off' := 0) (j := 0) arr67 (b := b1) (off := 0) rfl rfl (by first | rfl | omega | (simp; omega)) (by omega) (by omega)) ?_
 refine sq (r_ld1 (E := E64) (l := sh) (j := 0) (a := (sh).getD 0 0#64) fits32 (H11.get (k := 1) rfl) (at_getD (by first | omega | (simp only [List.length_set]; omega) | exact bLe rfl | (simp <;> omega))) rfl rfl) ?_
 refine sq (r_rem64 (a := (sh).getD 0 0#64) (b := 2#64) rfl rfl (by decide)) ?_
 refine sA (u64 (((sh).getD 0 0#64) % (2#64))) rfl ?_
 refine wend ?_
 refine seqAny ?_
 refine sR ?_
 refine sM (i64 (kd : Nat)) rfl ?_
 refine sq ((r_gtrI (a := (kd : Nat)) (b := (1 : Int)) rfl rfl).as (v' := .bool (true)) (by exact congrArg Value.bool (decide_eq_true (by omega)))) ?_
 refine wend ?_
 refine condTrue rfl ?_
 refine oneRegion ?_
 refine sq (r_indexA (off' := 1) (j := 1) arr67 (b := b1) (off := 0) rfl rfl (by first | rfl | omega | (simp; omega)) (by omega) (by omega)) ?_
 refine sq (r_ld1 (E := E64) (l := sh) (j := 1) (a := (sh).getD 1 0#64) fits32 (H11.get (k := 1) rfl) (at_getD (by first | omega | (simp only [List.length_set]; omega) | exact bLe rfl | (simp <;> omega))) rfl rfl) ?_
 refine sq ((r_rem64 (a := (sh).getD 1 0#64) (b := 4#64) rfl rfl (by decide)).as (v' := u64 (fm)) (by rw [hfm])) ?_
 refine sA (u64 (fm)) rfl ?_
 refine wnil ?_
 refine thenNormal ?_
 refine sR ?_
 refine sM (i64 (kd : Nat)) rfl ?_
 refine sM (u64 (fm)) rfl ?_
 refine c_call (vs := [i64 (kd : Nat), u64 (fm)]) call29 rfl (hM w9) ?_
 rintro _ w12 ⟨key14, c15, sp16, b17, rfl, hS18, HN19⟩
 have H20 := (H11.join HN19).as (L' := [(key14, sob EG 99 m.1 sp16), (some b17, .cells (cel EI m.2).toArray 153 (0, 0)), (some b5, .cells (cel E8 seed).toArray 124 (0, 0)), (some b1, .cells (cel E64 sh).toArray 67 (0, 0))]) rfl
 refine sM (.tuple #[.agg #[i64 (n : Nat), .slice (ownA key14) ((m).1.length) c15, .slice (some ⟨b17, 0, none⟩) 64 64], .nilIface]) rfl ?_
 refine sq (r_extract (vs := #[.agg #[i64 (n : Nat), .slice (ownA key14) ((m).1.length) c15, .slice (some ⟨b17, 0, none⟩) 64 64], .nilIface]) rfl rfl) ?_
 refine sq (r_extract (vs := #[.agg #[i64 (n : Nat), .slice (ownA key14) ((m).1.length) c15, .slice (some ⟨b17, 0, none⟩) 64 64], .nilIface]) rfl rfl) ?_
 refine q_alloc (o := .cells #[i64 ((0 : Int)), .slice none 0 0, .slice none 0 0] 70 (0, 0)) H20 zer70 (by kernel_rfl) ?_
 intro b21 w22 hb21 H23 hE24
 refine d_store (k := 0) (v := .agg #[i64 (n : Nat), .slice (ownA key14) ((m).1.length) c15, .slice (some ⟨b17, 0, none⟩) 64 64]) (cs' := #[i64 (n : Nat), .slice (ownA key14) ((m).1.length) c15, .slice (some ⟨b17, 0, none⟩) 64 64]) H23 rfl rfl rfl siz70 (by rfl) (by intro u hu; simp [Value.cells] at hu; first | (subst hu; rfl) | (rcases hu with rfl | rfl | rfl <;> rfl)) (by exact bLe rfl) (by rfl) ?_
 intro w25 H26 hC27
 have H26' := H26.as (L' := [(some b21, .cells #[i64 (n : Nat), .slice (ownA key14) ((m).1.length) c15, .slice (some ⟨b17, 0, none⟩) 64 64] 70 (0, 0)), (key14, sob EG 99 m.1 sp16), (some b17, .cells (cel EI m.2).toArray 153 (0, 0)), (some b5, .cells (cel E8 seed).toArray 124 (0, 0)), (some b1, .cells (cel E64 sh).toArray 67 (0, 0))]) rfl
 clear H26
 refine sA (.nilIface) rfl ?_
 refine wend ?_
 refine seqAny ?_
 refine sR ?_
 refine sM (.nilIface) rfl ?_
 refine sq ((r_neqNN isI27 rfl rfl).as (v' := .bool (false)) (by rfl)) ?_
 refine wend ?_
 refine condFalse rfl ?_
 refine skipAny ?_
 refine thenNormal ?_
 refine sR ?_
 refine sq (r_loadA (cs' := (cel E8 seed).toArray) agg124 siz124 (H26'.get (k := 3) rfl) (off := 0) rfl (by rw [List.size_toArray, cel_length]; show _ ≤ _ * 1; omega) (by exact ext_all (by rw [cel_length]; show _ * 1 = _; omega))) ?_
 refine sq (r_fieldAddr (off' := 0) fld70_0 (by decide) (b := b21) (off := 0) rfl (by omega)) ?_
 refine sq (r_loadC (v := i64 (n : Nat)) one3 (H26'.get (k := 0) rfl) (off := 0) rfl (by rfl)) ?_
 refine sq (r_mulI (a := (2 : Int)) (b := (n : Nat)) rfl rfl (by omega)) ?_
 refine sq ((r_addI (a := (2 : Int) * (n : Nat)) (b := (2 : Int)) rfl rfl (by omega)).as (v' := i64 (((2 * n + 2) : Nat))) (by rfl)) ?_
 refine c_call (vs := [.agg (cel E8 seed).toArray, i64 (((2 * n + 2) : Nat))]) call61 rfl (newtape_ok seed hk ((2 * n + 2) : Nat) w25) ?_
 rintro _ w28 ⟨⟨b30, bc31, rfl, HN32⟩, hE33⟩
 have H34 := (H26'.join HN32).as (L' := [(some b30, .cells #[.slice none 0 0, pT bc31, i64 ((szT ((2 * n + 2) : Nat) : Nat)), i64 (0 : Nat)] 141 (0, 0)), (some bc31, .cells (cel E8 (cipher seed)).toArray 215 (0, 0)), (some b21, .cells #[i64 (n : Nat), .slice (ownA key14) ((m).1.length) c15, .slice (some ⟨b17, 0, none⟩) 64 64] 70 (0, 0)), (key14, sob EG 99 m.1 sp16), (some b17, .cells (cel EI m.2).toArray 153 (0, 0)), (some b5, .cells (cel E8 seed).toArray 124 (0, 0)), (some b1, .cells (cel E64 sh).toArray 67 (0, 0))]) rfl
 refine sA (pT b30) rfl ?_
 have hszn : szT ((2 * n + 2) : Nat) = 2 * n + 2 := szT_of n (by omega)
 have hszm : 2 * n + 2 ≤ 1048576 := by omega
 refine wend ?_
 refine sR ?_
 refine sM (pT b30) rfl ?_
 refine c_call (vs := [pT b30]) call62 rfl (label_hit_c b30 bc31 0 (szT ((2 * n + 2) : Nat)) (cipher seed) (cipher_len _ hk) w28 (H34.get (k := 0) rfl) (hpGetSt H34 (i := 0) (j := 1) rfl rfl rfl) (by omega) (by omega)) ?_
 rintro _ w35 ⟨rfl, hC37, hn38⟩
 have H39 := (H34.set (k := 0) rfl hC37 hn38).as (L' := [(some b30, .cells #[.slice none 0 0, pT bc31, i64 ((szT ((2 * n + 2) : Nat) : Nat)), i64 ((0 + 2 : Nat))] 141 (0, 0)), (some bc31, .cells (cel E8 (cipher seed)).toArray 215 (0, 0)), (some b21, .cells #[i64 (n : Nat), .slice (ownA key14) ((m).1.length) c15, .slice (some ⟨b17, 0, none⟩) 64 64] 70 (0, 0)), (key14, sob EG 99 m.1 sp16), (some b17, .cells (cel EI m.2).toArray 153 (0, 0)), (some b5, .cells (cel E8 seed).toArray 124 (0, 0)), (some b1, .cells (cel E64 sh).toArray 67 (0, 0))]) rfl
 refine sM (.tuple #[.agg (cel E64 [wordL (cipher seed) (BitVec.ofInt 64 ((0 : Nat))), wordL (cipher seed) (BitVec.ofInt 64 ((0 + 1 : Nat)))]).toArray, .nilIface]) rfl ?_
 refine sq (r_extract (vs := #[.agg (cel E64 [wordL (cipher seed) (BitVec.ofInt 64 ((0 : Nat))), wordL (cipher seed) (BitVec.ofInt 64 ((0 + 1 : Nat)))]).toArray, .nilIface]) rfl rfl) ?_
 refine sq (r_extract (vs := #[.agg (cel E64 [wordL (cipher seed) (BitVec.ofInt 64 ((0 : Nat))), wordL (cipher seed) (BitVec.ofInt 64 ((0 + 1 : Nat)))]).toArray, .nilIface]) rfl rfl) ?_
 refine q_alloc (o := .cells (cel E64 ([0#64, 0#64])).toArray 38 (0, 0)) H39 zer38 (by kernel_rfl) ?_
 intro b40 w41 hb40 H42 hE43
 refine d_store (k := 0) (v := .agg (cel E64 [wordL (cipher seed) (BitVec.ofInt 64 ((0 : Nat))), wordL (cipher seed) (BitVec.ofInt 64 ((0 + 1 : Nat)))]).toArray) (cs' := (cel E64 ([wordL (cipher seed) (BitVec.ofInt 64 ((0 : Nat))), wordL (cipher seed) (BitVec.ofInt 64 ((0 + 1 : Nat)))])).toArray) H42 rfl rfl rfl siz38 (by exact celSize (by first | rfl | (show _ * 1 = _; omega))) (by exact celOne _) (by rw [List.size_toArray, cel_length]; show _ ≤ _ * 1; first | omega | (simp only [List.length_set]; omega) | exact bLe rfl | (simp <;> omega)) (by exact putAll (by first | rfl | omega | (simp <;> omega))) ?_
 intro w44 H45 hC46
 have H45' := H45.as (L' := [(some b40, .cells (cel E64 ([wordL (cipher seed) (BitVec.ofInt 64 ((0 : Nat))), wordL (cipher seed) (BitVec.ofInt 64 ((0 + 1 : Nat)))])).toArray 38 (0, 0)), (some b30, .cells #[.slice none 0 0, pT bc31, i64 ((szT ((2 * n + 2) : Nat) : Nat)), i64 ((0 + 2 : Nat))] 141 (0, 0)), (some bc31, .cells (cel E8 (cipher seed)).toArray 215 (0, 0)), (some b21, .cells #[i64 (n : Nat), .slice (ownA key14) ((m).1.length) c15, .slice (some ⟨b17, 0, none⟩) 64 64] 70 (0, 0)), (key14, sob EG 99 m.1 sp16), (some b17, .cells (cel EI m.2).toArray 153 (0, 0)), (some b5, .cells (cel E8 seed).toArray 124 (0, 0)), (some b1, .cells (cel E64 sh).toArray 67 (0, 0))]) rfl
 clear H45
 refine sA (.nilIface) rfl ?_
 refine wend ?_
 refine sR ?_
 refine sq (r_indexA (off' := 0) (j := 0) arr38 (b := b40) (off := 0) rfl rfl (by first | rfl | omega | (simp; omega)) (by omega) (by omega)) ?_
 refine sq (r_ld1 (E := E64) (l := [wordL (cipher seed) (BitVec.ofInt 64 ((0 : Nat))), wordL (cipher seed) (BitVec.ofInt 64 ((0 + 1 : Nat)))]) (j := 0) (a := wordL (cipher seed) (BitVec.ofInt 64 ((0 : Nat)))) fits32 (H45'.get (k := 0) rfl) (by rfl) rfl rfl) ?_
 refine sq (r_or64 (a := wordL (cipher seed) (BitVec.ofInt 64 ((0 : Nat)))) (b := 1#64) rfl rfl) ?_
 refine sq (r_indexA (off' := 0) (j := 0) arr38 (b := b40) (off := 0) rfl rfl (by first | rfl | omega | (simp; omega)) (by omega) (by omega)) ?_
 refine d_store (k := 0) (v := u64 ((wordL (cipher seed) (BitVec.ofInt 64 ((0 : Nat)))) ||| (1#64))) (cs' := (cel E64 ([(wordL (cipher seed) (BitVec.ofInt 64 ((0 : Nat)))) ||| (1#64), wordL (cipher seed) (BitVec.ofInt 64 ((0 + 1 : Nat)))])).toArray) H45' rfl rfl rfl siz32 (by rfl) (by exact E64.one _) (by rw [List.size_toArray, cel_length]; show _ ≤ _ * 1; first | omega | (simp only [List.length_set]; omega) | exact bLe rfl | (simp <;> omega)) (by exact put1 (E := E64) rfl _ _ _) ?_
 intro w47 H48 hC49
 have H48' := H48.as (L' := [(some b40, .cells (cel E64 ([(wordL (cipher seed) (BitVec.ofInt 64 ((0 : Nat)))) ||| (1#64), wordL (cipher seed) (BitVec.ofInt 64 ((0 + 1 : Nat)))])).toArray 38 (0, 0)), (some b30, .cells #[.slice none 0 0, pT bc31, i64 ((szT ((2 * n + 2) : Nat) : Nat)), i64 ((0 + 2 : Nat))] 141 (0, 0)), (some bc31, .cells (cel E8 (cipher seed)).toArray 215 (0, 0)), (some b21, .cells #[i64 (n : Nat), .slice (ownA key14) ((m).1.length) c15, .slice (some ⟨b17, 0, none⟩) 64 64] 70 (0, 0)), (key14, sob EG 99 m.1 sp16), (some b17, .cells (cel EI m.2).toArray 153 (0, 0)), (some b5, .cells (cel E8 seed).toArray 124 (0, 0)), (some b1, .cells (cel E64 sh).toArray 67 (0, 0))]) rfl
 clear H48
 obtain ⟨δ, hδ⟩ : ∃ x : Lb, x = ((wordL (cipher seed) (BitVec.ofInt 64 ((0 : Nat)))) ||| (1#64), wordL (cipher seed) (BitVec.ofInt 64 ((0 + 1 : Nat)))) := ⟨_, rfl⟩
 have H50 : Hp No w w47 [(some b40, lO (δ)), (some b30, .cells #[.slice none 0 0, pT bc31, i64 ((szT ((2 * n + 2) : Nat) : Nat)), i64 ((0 + 2 : Nat))] 141 (0, 0)), (some bc31, .cells (cel E8 (cipher seed)).toArray 215 (0, 0)), (some b21, .cells #[i64 (n : Nat), .slice (ownA key14) ((m).1.length) c15, .slice (some ⟨b17, 0, none⟩) 64 64] 70 (0, 0)), (key14, sob EG 99 m.1 sp16), (some b17, .cells (cel EI m.2).toArray 153 (0, 0)), (some b5, .cells (cel E8 seed).toArray 124 (0, 0)), (some b1, .cells (cel E64 sh).toArray 67 (0, 0))] := by rw [hδ]; exact H48'
 have hcd : col δ = true := by rw [hδ]; exact col_or _ _
 clear hδ
 refine wend ?_
 refine sR ?_
 refine sA (.slice none 0 0) rfl ?_
 refine sA (.slice none 0 0) rfl ?_
 have H51 := H50.nil (sob ELb 38 [] [])
 have H52 := H51.nil (sob ELb 38 [] [])
 obtain ⟨fw, hfw⟩ : ∃ f, f = (fun q => wordL (cipher seed) (BitVec.ofInt 64 ((q : Nat)))) := ⟨_, rfl⟩
 refine wend ?_
 refine seqAny ?_
 refine sR ?_
 refine sA (i64 ((0 : Int))) rfl ?_
 refine wend ?_
 refine blockAny ?_
 refine loopAny (σ := Nat × Option Nat × Nat × List Value × Option Nat × Nat × List Value) (fun (i, k1, c1, z1, k2, c2, z2) => [(0, i64 (kd : Nat)), (4, pT b1), (7, u64 (fm)), (8, pT b21), (9, .nilIface), (10, pT b30), (11, pT b40), (13, .slice (ownA k1) i c1), (14, .slice (ownA k2) i c2), (15, i64 (i : Nat))]) (fun (i, k1, c1, z1, k2, c2, z2) w' => (i ≤ n ∧ Sl ELb k1 (zT fw i) c1 z1 ∧ Sl ELb k2 (lbS (zT fw n) (inpS sh (2 * k)) δ i) c2 z2) ∧ Hp No w w' [(k1, sob ELb 38 (zT fw i) z1), (k2, sob ELb 38 (lbS (zT fw n) (inpS sh (2 * k)) δ i) z2), (some b30, .cells #[.slice none 0 0, pT bc31, i64 ((szT ((2 * n + 2) : Nat) : Nat)), i64 (((2 + 2 * i) : Nat))] 141 (0, 0)), (some b40, lO (δ)), (some bc31, .cells (cel E8 (cipher seed)).toArray 215 (0, 0)), (some b21, .cells #[i64 (n : Nat), .slice (ownA key14) ((m).1.length) c15, .slice (some ⟨b17, 0, none⟩) 64 64] 70 (0, 0)), (key14, sob EG 99 m.1 sp16), (some b17, .cells (cel EI m.2).toArray 153 (0, 0)), (some b5, .cells (cel E8 seed).toArray 124 (0, 0)), (some b1, .cells (cel E64 sh).toArray 67 (0, 0))]) (fun (i, k1, c1, z1, k2, c2, z2) => n - i) ((0, none, 0, [], none, 0, [])) ?_ ?_ ?_
 ·exact ⟨rfl, rfl, rfl, rfl, rfl, rfl, rfl, rfl, rfl, rfl, trivial⟩
 ·exact ⟨⟨Nat.zero_le _, Sl.none, Sl.none⟩, (H52.pick 10 [1, 0, 3, 2, 4, 5, 6, 7, 8, 9] (by decide) (by decide))⟩
 rintro ⟨i, k1, c1, z1, k2, c2, z2⟩ ρ w53 ⟨⟨hq, h1, h2⟩, HL⟩
 refine seqAny ?_
 refine sR ?_
 refine sM (i64 (i : Nat)) rfl ?_
 refine sq (r_fieldAddr (off' := 0) fld70_0 (by decide) (b := b21) (off := 0) rfl (by omega)) ?_
 refine sq (r_loadC (v := i64 (n : Nat)) one3 (HL.get (k := 5) rfl) (off := 0) rfl (by rfl)) ?_
 refine sq (r_lssI (a := (i : Nat)) (b := (n : Nat)) rfl rfl) ?_
 refine wend ?_
 refine condProp (((i : Nat) : Int) < (n : Nat)) rfl (fun c65 => ?_) (fun c65 => ?_)
 ·skip
  refine skipAny ?_
  refine thenNormal ?_
  refine seqAny ?_
  refine blockAny ?_
  refine sR ?_
  refine sM (pT b30) rfl ?_
  refine c_call (vs := [pT b30]) call62 rfl (label_hit_c b30 bc31 (2 + 2 * i) (szT ((2 * n + 2) : Nat)) (cipher seed) (cipher_len _ hk) w53 (HL.get (k := 2) rfl) (hpGetSt HL (i := 2) (j := 4) rfl rfl rfl) (by omega) (by omega)) ?_
  rintro _ w55 ⟨rfl, hC57, hn58⟩
  have H59 := (HL.set (k := 2) rfl hC57 hn58).as (L' := [(k1, sob ELb 38 (zT fw i) z1), (k2, sob ELb 38 (lbS (zT fw n) (inpS sh (2 * k)) δ i) z2), (some b30, .cells #[.slice none 0 0, pT bc31, i64 ((szT ((2 * n + 2) : Nat) : Nat)), i64 (((2 + 2 * i) + 2 : Nat))] 141 (0, 0)), (some b40, lO (δ)), (some bc31, .cells (cel E8 (cipher seed)).toArray 215 (0, 0)), (some b21, .cells #[i64 (n : Nat), .slice (ownA key14) ((m).1.length) c15, .slice (some ⟨b17, 0, none⟩) 64 64] 70 (0, 0)), (key14, sob EG 99 m.1 sp16), (some b17, .cells (cel EI m.2).toArray 153 (0, 0)), (some b5, .cells (cel E8 seed).toArray 124 (0, 0)), (some b1, .cells (cel E64 sh).toArray 67 (0, 0))]) rfl
  refine sM (.tuple #[.agg (cel E64 [wordL (cipher seed) (BitVec.ofInt 64 (((2 + 2 * i) : Nat))), wordL (cipher seed) (BitVec.ofInt 64 (((2 + 2 * i) + 1 : Nat)))]).toArray, .nilIface]) rfl ?_
  refine sq (r_extract (vs := #[.agg (cel E64 [wordL (cipher seed) (BitVec.ofInt 64 (((2 + 2 * i) : Nat))), wordL (cipher seed) (BitVec.ofInt 64 (((2 + 2 * i) + 1 : Nat)))]).toArray, .nilIface]) rfl rfl) ?_
  refine sq (r_extract (vs := #[.agg (cel E64 [wordL (cipher seed) (BitVec.ofInt 64 (((2 + 2 * i) : Nat))), wordL (cipher seed) (BitVec.ofInt 64 (((2 + 2 * i) + 1 : Nat)))]).toArray, .nilIface]) rfl rfl) ?_
  refine q_alloc (o := .cells (cel E64 ([0#64, 0#64])).toArray 38 (0, 0)) H59 zer38 (by kernel_rfl) ?_
  intro b60 w61 hb60 H62 hE63
  refine d_store (k := 0) (v := .agg (cel E64 [wordL (cipher seed) (BitVec.ofInt 64 (((2 + 2 * i) : Nat))), wordL (cipher seed) (BitVec.ofInt 64 (((2 + 2 * i) + 1 : Nat)))]).toArray) (cs' := (cel E64 ([wordL (cipher seed) (BitVec.ofInt 64 (((2 + 2 * i) : Nat))), wordL (cipher seed) (BitVec.ofInt 64 (((2 + 2 * i) + 1 : Nat)))])).toArray) H62 rfl rfl rfl siz38 (by exact celSize (by first | rfl | (show _ * 1 = _; omega))) (by exact celOne _) (by rw [List.size_toArray, cel_length]; show _ ≤ _ * 1; first | omega | (simp only [List.length_set]; omega) | exact bLe rfl | (simp <;> omega)) (by exact putAll (by first | rfl | omega | (simp <;> omega))) ?_
  intro w64 H65 hC66
  have H65' := H65.as (L' := [(some b60, .cells (cel E64 ([wordL (cipher seed) (BitVec.ofInt 64 (((2 + 2 * i) : Nat))), wordL (cipher seed) (BitVec.ofInt 64 (((2 + 2 * i) + 1 : Nat)))])).toArray 38 (0, 0)), (k1, sob ELb 38 (zT fw i) z1), (k2, sob ELb 38 (lbS (zT fw n) (inpS sh (2 * k)) δ i) z2), (some b30, .cells #[.slice none 0 0, pT bc31, i64 ((szT ((2 * n + 2) : Nat) : Nat)), i64 (((2 + 2 * i) + 2 : Nat))] 141 (0, 0)), (some b40, lO (δ)), (some bc31, .cells (cel E8 (cipher seed)).toArray 215 (0, 0)), (some b21, .cells #[i64 (n : Nat), .slice (ownA key14) ((m).1.length) c15, .slice (some ⟨b17, 0, none⟩) 64 64] 70 (0, 0)), (key14, sob EG 99 m.1 sp16), (some b17, .cells (cel EI m.2).toArray 153 (0, 0)), (some b5, .cells (cel E8 seed).toArray 124 (0, 0)), (some b1, .cells (cel E64 sh).toArray 67 (0, 0))]) rfl
  clear H65
  refine sA (.nilIface) rfl ?_
  refine wend ?_
  refine sR ?_
  refine sM (.slice (ownA k1) i c1) rfl ?_
  refine sq (r_loadA (cs' := (cel E64 ([wordL (cipher seed) (BitVec.ofInt 64 (((2 + 2 * i) : Nat))), wordL (cipher seed) (BitVec.ofInt 64 (((2 + 2 * i) + 1 : Nat)))])).toArray) agg38 siz38 (H65'.get (k := 0) rfl) (off := 0) rfl (by exact bLe rfl) (by exact ext_all rfl)) ?_
  refine q_buildSlice (E := ELb) (l := ([(wordL (cipher seed) (BitVec.ofInt 64 (((2 + 2 * i) : Nat))), wordL (cipher seed) (BitVec.ofInt 64 (((2 + 2 * i) + 1 : Nat))))] : List LbT)) H65' sli92 zer38 (bLe rfl) (ps := [(0, .agg (cel E64 ([wordL (cipher seed) (BitVec.ofInt 64 (((2 + 2 * i) : Nat))), wordL (cipher seed) (BitVec.ofInt 64 (((2 + 2 * i) + 1 : Nat)))])).toArray)]) rfl (by exact fillAll rfl rfl) rfl ?_
  intro b67 w69 hS68 H70 hE71
  refine q_append (E := ELb) (k := 2) (l := zT fw i) (l2 := ([(wordL (cipher seed) (BitVec.ofInt 64 (((2 + 2 * i) : Nat))), wordL (cipher seed) (BitVec.ofInt 64 (((2 + 2 * i) + 1 : Nat))))] : List LbT)) H70 rfl h1 sli92 zer38 rfl byt38 (H70.rd (k := 0) rfl hS68) rfl (by rw [zT_len]) rfl (by rfl) (by omega) ?_
  intro key72 c73 sp74 w76 hS75 hne78 H77
  have H77' := H77.as (L' := [((some b67), sob ELb 38 ([(wordL (cipher seed) (BitVec.ofInt 64 (((2 + 2 * i) : Nat))), wordL (cipher seed) (BitVec.ofInt 64 (((2 + 2 * i) + 1 : Nat))))] : List LbT) ([])), (some b60, .cells (cel E64 ([wordL (cipher seed) (BitVec.ofInt 64 (((2 + 2 * i) : Nat))), wordL (cipher seed) (BitVec.ofInt 64 (((2 + 2 * i) + 1 : Nat)))])).toArray 38 (0, 0)), (key72, sob ELb 38 ((zT fw i) ++ ([(wordL (cipher seed) (BitVec.ofInt 64 (((2 + 2 * i) : Nat))), wordL (cipher seed) (BitVec.ofInt 64 (((2 + 2 * i) + 1 : Nat))))] : List LbT)) sp74), (k2, sob ELb 38 (lbS (zT fw n) (inpS sh (2 * k)) δ i) z2), (some b30, .cells #[.slice none 0 0, pT bc31, i64 ((szT ((2 * n + 2) : Nat) : Nat)), i64 (((2 + 2 * i) + 2 : Nat))] 141 (0, 0)), (some b40, lO (δ)), (some bc31, .cells (cel E8 (cipher seed)).toArray 215 (0, 0)), (some b21, .cells #[i64 (n : Nat), .slice (ownA key14) ((m).1.length) c15, .slice (some ⟨b17, 0, none⟩) 64 64] 70 (0, 0)), (key14, sob EG 99 m.1 sp16), (some b17, .cells (cel EI m.2).toArray 153 (0, 0)), (some b5, .cells (cel E8 seed).toArray 124 (0, 0)), (some b1, .cells (cel E64 sh).toArray 67 (0, 0))]) rfl
  clear H77
  have e79 : (zT fw i) ++ ([(wordL (cipher seed) (BitVec.ofInt 64 (((2 + 2 * i) : Nat))), wordL (cipher seed) (BitVec.ofInt 64 (((2 + 2 * i) + 1 : Nat))))] : List LbT) = zT fw (i + 1) := by rw [zT, hfw]
  have hS80 := hS75
  rw [e79] at hS80
  have H81 := H77'.as (L' := [((some b67), sob ELb 38 ([(wordL (cipher seed) (BitVec.ofInt 64 (((2 + 2 * i) : Nat))), wordL (cipher seed) (BitVec.ofInt 64 (((2 + 2 * i) + 1 : Nat))))] : List LbT) ([])), (some b60, .cells (cel E64 ([wordL (cipher seed) (BitVec.ofInt 64 (((2 + 2 * i) : Nat))), wordL (cipher seed) (BitVec.ofInt 64 (((2 + 2 * i) + 1 : Nat)))])).toArray 38 (0, 0)), (key72, sob ELb 38 (zT fw (i + 1)) sp74), (k2, sob ELb 38 (lbS (zT fw n) (inpS sh (2 * k)) δ i) z2), (some b30, .cells #[.slice none 0 0, pT bc31, i64 ((szT ((2 * n + 2) : Nat) : Nat)), i64 (((2 + 2 * i) + 2 : Nat))] 141 (0, 0)), (some b40, lO (δ)), (some bc31, .cells (cel E8 (cipher seed)).toArray 215 (0, 0)), (some b21, .cells #[i64 (n : Nat), .slice (ownA key14) ((m).1.length) c15, .slice (some ⟨b17, 0, none⟩) 64 64] 70 (0, 0)), (key14, sob EG 99 m.1 sp16), (some b17, .cells (cel EI m.2).toArray 153 (0, 0)), (some b5, .cells (cel E8 seed).toArray 124 (0, 0)), (some b1, .cells (cel E64 sh).toArray 67 (0, 0))]) (by rw [e79])
  refine sA (.slice (ownA key72) (i + 1) c73) rfl ?_
  refine wend ?_
  refine drawE (m := 15) [0, 0, 0, 0, 8, 24, 56, 0, 128, 504, 1016, 2046, 4094, 8191, 16383] [12, 13] (fun bs vs w' => match bs, vs with | [false, false], [_, _] => Hp No w w' [((some b67), sob ELb 38 ([(wordL (cipher seed) (BitVec.ofInt 64 (((2 + 2 * i) : Nat))), wordL (cipher seed) (BitVec.ofInt 64 (((2 + 2 * i) + 1 : Nat))))] : List LbT) ([])), (some b60, .cells (cel E64 ([wordL (cipher seed) (BitVec.ofInt 64 (((2 + 2 * i) : Nat))), wordL (cipher seed) (BitVec.ofInt 64 (((2 + 2 * i) + 1 : Nat)))])).toArray 38 (0, 0)), (key72, sob ELb 38 (zT fw (i + 1)) sp74), (k2, sob ELb 38 (lbS (zT fw n) (inpS sh (2 * k)) δ i) z2), (some b30, .cells #[.slice none 0 0, pT bc31, i64 ((szT ((2 * n + 2) : Nat) : Nat)), i64 (((2 + 2 * i) + 2 : Nat))] 141 (0, 0)), (some b40, lO (δ)), (some bc31, .cells (cel E8 (cipher seed)).toArray 215 (0, 0)), (some b21, .cells #[i64 (n : Nat), .slice (ownA key14) ((m).1.length) c15, .slice (some ⟨b17, 0, none⟩) 64 64] 70 (0, 0)), (key14, sob EG 99 m.1 sp16), (some b17, .cells (cel EI m.2).toArray 153 (0, 0)), (some b5, .cells (cel E8 seed).toArray 124 (0, 0)), (some b1, .cells (cel E64 sh).toArray 67 (0, 0))] | [true, false], [v12, _] => ∃ (b83 : Nat), v12 = .slice (ownA (some b83)) 1 1 ∧ Sl ELb (some b83) ([lx (wordL (cipher seed) (BitVec.ofInt 64 (((2 + 2 * i) : Nat))), wordL (cipher seed) (BitVec.ofInt 64 (((2 + 2 * i) + 1 : Nat)))) (lw (decide (((((sh).getD (i / 64) 0#64) >>> (i % 64)) % 2#64) = (1#64))) δ)] : List LbT) 1 ([]) ∧ Hp No w w' [((some b83), sob ELb 38 ([lx (wordL (cipher seed) (BitVec.ofInt 64 (((2 + 2 * i) : Nat))), wordL (cipher seed) (BitVec.ofInt 64 (((2 + 2 * i) + 1 : Nat)))) (lw (decide (((((sh).getD (i / 64) 0#64) >>> (i % 64)) % 2#64) = (1#64))) δ)] : List LbT) ([])), ((some b67), sob ELb 38 ([(wordL (cipher seed) (BitVec.ofInt 64 (((2 + 2 * i) : Nat))), wordL (cipher seed) (BitVec.ofInt 64 (((2 + 2 * i) + 1 : Nat))))] : List LbT) ([])), (some b60, .cells (cel E64 ([wordL (cipher seed) (BitVec.ofInt 64 (((2 + 2 * i) : Nat))), wordL (cipher seed) (BitVec.ofInt 64 (((2 + 2 * i) + 1 : Nat)))])).toArray 38 (0, 0)), (key72, sob ELb 38 (zT fw (i + 1)) sp74), (k2, sob ELb 38 (lbS (zT fw n) (inpS sh (2 * k)) δ i) z2), (some b30, .cells #[.slice none 0 0, pT bc31, i64 ((szT ((2 * n + 2) : Nat) : Nat)), i64 (((2 + 2 * i) + 2 : Nat))] 141 (0, 0)), (some b40, lO (δ)), (some bc31, .cells (cel E8 (cipher seed)).toArray 215 (0, 0)), (some b21, .cells #[i64 (n : Nat), .slice (ownA key14) ((m).1.length) c15, .slice (some ⟨b17, 0, none⟩) 64 64] 70 (0, 0)), (key14, sob EG 99 m.1 sp16), (some b17, .cells (cel EI m.2).toArray 153 (0, 0)), (some b5, .cells (cel E8 seed).toArray 124 (0, 0)), (some b1, .cells (cel E64 sh).toArray 67 (0, 0))] | [true, true], [v12, v13] => ∃ (b83 : Nat) (key89 : Option Nat) (c90 : Nat) (sp91 : List Value), v12 = .slice (ownA (some b83)) 1 1 ∧ v13 = .slice (ownA key89) (i + 1) c90 ∧ Sl ELb (some b83) ([lx (wordL (cipher seed) (BitVec.ofInt 64 (((2 + 2 * i) : Nat))), wordL (cipher seed) (BitVec.ofInt 64 (((2 + 2 * i) + 1 : Nat)))) (lw (decide (((((sh).getD (i / 64) 0#64) >>> (i % 64)) % 2#64) = (1#64))) δ)] : List LbT) 1 ([]) ∧ Sl ELb key89 (lbS (zT fw n) (inpS sh (2 * k)) δ (i + 1)) c90 sp91 ∧ Hp No w w' [((some b83), sob ELb 38 ([lx (wordL (cipher seed) (BitVec.ofInt 64 (((2 + 2 * i) : Nat))), wordL (cipher seed) (BitVec.ofInt 64 (((2 + 2 * i) + 1 : Nat)))) (lw (decide (((((sh).getD (i / 64) 0#64) >>> (i % 64)) % 2#64) = (1#64))) δ)] : List LbT) ([])), ((some b67), sob ELb 38 ([(wordL (cipher seed) (BitVec.ofInt 64 (((2 + 2 * i) : Nat))), wordL (cipher seed) (BitVec.ofInt 64 (((2 + 2 * i) + 1 : Nat))))] : List LbT) ([])), (some b60, .cells (cel E64 ([wordL (cipher seed) (BitVec.ofInt 64 (((2 + 2 * i) : Nat))), wordL (cipher seed) (BitVec.ofInt 64 (((2 + 2 * i) + 1 : Nat)))])).toArray 38 (0, 0)), (key72, sob ELb 38 (zT fw (i + 1)) sp74), (key89, sob ELb 38 (lbS (zT fw n) (inpS sh (2 * k)) δ (i + 1)) sp91), (some b30, .cells #[.slice none 0 0, pT bc31, i64 ((szT ((2 * n + 2) : Nat) : Nat)), i64 (((2 + 2 * i) + 2 : Nat))] 141 (0, 0)), (some b40, lO (δ)), (some bc31, .cells (cel E8 (cipher seed)).toArray 215 (0, 0)), (some b21, .cells #[i64 (n : Nat), .slice (ownA key14) ((m).1.length) c15, .slice (some ⟨b17, 0, none⟩) 64 64] 70 (0, 0)), (key14, sob EG 99 m.1 sp16), (some b17, .cells (cel EI m.2).toArray 153 (0, 0)), (some b5, .cells (cel E8 seed).toArray 124 (0, 0)), (some b1, .cells (cel E64 sh).toArray 67 (0, 0))] | _, _ => False) mixed (by kernel_rfl) (by kernel_rfl) H81.drew ?_
  refine WalkE.look rfl (fun _ => .slice (ownA k2) i c2) (fun _ _ _ => rfl) (fun L r _ uw _ _ _ _ => Gives.run rfl (r_move (v := .slice (ownA k2) i c2) rfl) ⟨rfl, rfl⟩) ?_
  refine WalkE.look rfl (fun _ => .agg (cel E64 ([wordL (cipher seed) (BitVec.ofInt 64 (((2 + 2 * i) : Nat))), wordL (cipher seed) (BitVec.ofInt 64 (((2 + 2 * i) + 1 : Nat)))])).toArray) (fun _ _ _ => rfl) (fun L r uw0 uw hAn hDn hF hEx => ?_) ?_
  ·skip
   have b12 := hDn 12 (by decide) rfl
   have b13 := hDn 13 (by decide) rfl
   have hb := mp2 b12 b13
   rw [hb] at hF
   have HH := hF
   replace HH := HH.ext hEx
   exact Gives.run rfl (r_loadA (cs' := (cel E64 ([wordL (cipher seed) (BitVec.ofInt 64 (((2 + 2 * i) : Nat))), wordL (cipher seed) (BitVec.ofInt 64 (((2 + 2 * i) + 1 : Nat)))])).toArray) agg38 siz38 (HH.get (k := 1) rfl) (off := 0) rfl (by exact bLe rfl) (by exact ext_all rfl)) ⟨rfl, rfl⟩
  refine WalkE.look rfl (fun _ => lV (δ)) (fun _ _ _ => rfl) (fun L r uw0 uw hAn hDn hF hEx => ?_) ?_
  ·skip
   have b12 := hDn 12 (by decide) rfl
   have b13 := hDn 13 (by decide) rfl
   have hb := mp2 b12 b13
   rw [hb] at hF
   have HH := hF
   replace HH := HH.ext hEx
   exact Gives.run rfl (r_loadA (cs' := (cel E64 ([(δ).1, (δ).2])).toArray) agg38 siz38 (HH.get (k := 5) rfl) (off := 0) rfl (by exact bLe rfl) (by exact ext_all rfl)) ⟨rfl, rfl⟩
  refine WalkE.look rfl (fun _ => i64 (i : Nat)) (fun _ _ _ => rfl) (fun L r _ uw _ _ _ _ => Gives.run rfl (r_move (v := i64 (i : Nat)) rfl) ⟨rfl, rfl⟩) ?_
  refine WalkE.look rfl (fun _ => i64 ((i : Nat) / (64 : Int))) (fun _ _ _ => rfl) (fun L r _ uw _ _ _ _ => Gives.run rfl (r_quoI (a := (i : Nat)) (b := (64 : Int)) rfl rfl (by omega)) ⟨rfl, rfl⟩) ?_
  refine WalkE.look rfl (fun _ => .pointer (some ⟨b1, i / 64, none⟩)) (fun _ _ _ => rfl) (fun L r _ uw _ _ _ _ => Gives.run rfl (r_indexA (off' := i / 64) (j := i / 64) arr67 (b := b1) (off := 0) rfl rfl (by first | rfl | omega | (simp; omega)) (by omega) (by omega)) ⟨rfl, rfl⟩) ?_
  refine WalkE.look rfl (fun _ => u64 ((sh).getD (i / 64) 0#64)) (fun _ _ _ => rfl) (fun L r uw0 uw hAn hDn hF hEx => ?_) ?_
  ·skip
   have b12 := hDn 12 (by decide) rfl
   have b13 := hDn 13 (by decide) rfl
   have hb := mp2 b12 b13
   rw [hb] at hF
   have HH := hF
   replace HH := HH.ext hEx
   exact Gives.run rfl (r_ld1 (E := E64) (l := sh) (j := i / 64) (a := (sh).getD (i / 64) 0#64) fits32 (HH.get (k := 11) rfl) (at_getD (by omega)) rfl rfl) ⟨rfl, rfl⟩
  refine WalkE.look rfl (fun _ => i64 (i : Nat)) (fun _ _ _ => rfl) (fun L r _ uw _ _ _ _ => Gives.run rfl (r_move (v := i64 (i : Nat)) rfl) ⟨rfl, rfl⟩) ?_
  refine WalkE.look rfl (fun _ => i64 ((i : Nat) % (64 : Int))) (fun _ _ _ => rfl) (fun L r _ uw _ _ _ _ => Gives.run rfl (r_remI (a := (i : Nat)) (b := (64 : Int)) rfl rfl (by omega)) ⟨rfl, rfl⟩) ?_
  refine WalkE.call rfl (fun _ => u64 ((((sh).getD (i / 64) 0#64) >>> (i % 64)) % 2#64)) (fun _ _ _ => rfl) (fun L r uw0 uw hAn hDn hF hEx => ?_) ?_
  ·skip
   have b12 := hDn 12 (by decide) rfl
   have b13 := hDn 13 (by decide) rfl
   have hb := mp2 b12 b13
   rw [hb] at hF
   have HH := hF
   replace HH := HH.ext hEx
   exact Gives.call rfl (Enters.callL (vs := [u64 ((sh).getD (i / 64) 0#64), i64 ((i : Nat) % (64 : Int))]) call60 rfl) (bit_ok ((sh).getD (i / 64) 0#64) (i % 64) uw)
  refine WalkE.look rfl (fun _ => .bool (decide (((((sh).getD (i / 64) 0#64) >>> (i % 64)) % 2#64) = (1#64)))) (fun _ _ _ => rfl) (fun L r _ uw _ _ _ _ => Gives.run rfl (r_eql64 (a := (((sh).getD (i / 64) 0#64) >>> (i % 64)) % 2#64) (b := 1#64) rfl rfl) ⟨rfl, rfl⟩) ?_
  refine WalkE.call rfl (fun _ => .agg (cel E64 [(lx (wordL (cipher seed) (BitVec.ofInt 64 (((2 + 2 * i) : Nat))), wordL (cipher seed) (BitVec.ofInt 64 (((2 + 2 * i) + 1 : Nat)))) (lw (decide (((((sh).getD (i / 64) 0#64) >>> (i % 64)) % 2#64) = (1#64))) δ)).1, (lx (wordL (cipher seed) (BitVec.ofInt 64 (((2 + 2 * i) : Nat))), wordL (cipher seed) (BitVec.ofInt 64 (((2 + 2 * i) + 1 : Nat)))) (lw (decide (((((sh).getD (i / 64) 0#64) >>> (i % 64)) % 2#64) = (1#64))) δ)).2]).toArray) (fun _ _ _ => rfl) (fun L r uw0 uw hAn hDn hF hEx => ?_) ?_
  ·skip
   have b12 := hDn 12 (by decide) rfl
   have b13 := hDn 13 (by decide) rfl
   have hb := mp2 b12 b13
   rw [hb] at hF
   have HH := hF
   replace HH := HH.ext hEx
   exact Gives.call rfl (Enters.callL (vs := [.agg (cel E64 ([wordL (cipher seed) (BitVec.ofInt 64 (((2 + 2 * i) : Nat))), wordL (cipher seed) (BitVec.ofInt 64 (((2 + 2 * i) + 1 : Nat)))])).toArray, lV (δ), .bool (decide (((((sh).getD (i / 64) 0#64) >>> (i % 64)) % 2#64) = (1#64)))]) call48 rfl) (label_ok (wordL (cipher seed) (BitVec.ofInt 64 (((2 + 2 * i) : Nat))), wordL (cipher seed) (BitVec.ofInt 64 (((2 + 2 * i) + 1 : Nat)))) δ (decide (((((sh).getD (i / 64) 0#64) >>> (i % 64)) % 2#64) = (1#64))) uw)
  refine WalkE.eff 0 rfl (fun L r uw0 uw hLn hAn hDn hF hEx => ?_) ?_
  ·skip
   have b12 : L 12 = false := hLn
   have b13 := hDn 13 (by decide) rfl
   have hb := mp2 b12 b13
   rw [hb] at hF ⊢
   have H99 := hF
   replace H99 := H99.ext hEx
   dsimp only
   refine Gives.ofW (d := 89) rfl rfl (fun Q' hK => ?_)
   refine q_buildSlice (E := ELb) (l := ([lx (wordL (cipher seed) (BitVec.ofInt 64 (((2 + 2 * i) : Nat))), wordL (cipher seed) (BitVec.ofInt 64 (((2 + 2 * i) + 1 : Nat)))) (lw (decide (((((sh).getD (i / 64) 0#64) >>> (i % 64)) % 2#64) = (1#64))) δ)] : List LbT)) H99 sli92 zer38 (bLe rfl) (ps := [(0, .agg (cel E64 [(lx (wordL (cipher seed) (BitVec.ofInt 64 (((2 + 2 * i) : Nat))), wordL (cipher seed) (BitVec.ofInt 64 (((2 + 2 * i) + 1 : Nat)))) (lw (decide (((((sh).getD (i / 64) 0#64) >>> (i % 64)) % 2#64) = (1#64))) δ)).1, (lx (wordL (cipher seed) (BitVec.ofInt 64 (((2 + 2 * i) : Nat))), wordL (cipher seed) (BitVec.ofInt 64 (((2 + 2 * i) + 1 : Nat)))) (lw (decide (((((sh).getD (i / 64) 0#64) >>> (i % 64)) % 2#64) = (1#64))) δ)).2]).toArray)]) rfl (by exact fillAll rfl rfl) rfl ?_
   intro b100 w102 hS101 H103 hE104
   exact hK _ _ (show ∃ (b83 : Nat), (_ : Value) = .slice (ownA (some b83)) 1 1 ∧ Sl ELb (some b83) ([lx (wordL (cipher seed) (BitVec.ofInt 64 (((2 + 2 * i) : Nat))), wordL (cipher seed) (BitVec.ofInt 64 (((2 + 2 * i) + 1 : Nat)))) (lw (decide (((((sh).getD (i / 64) 0#64) >>> (i % 64)) % 2#64) = (1#64))) δ)] : List LbT) 1 ([]) ∧ Hp No w w102 [((some b83), sob ELb 38 ([lx (wordL (cipher seed) (BitVec.ofInt 64 (((2 + 2 * i) : Nat))), wordL (cipher seed) (BitVec.ofInt 64 (((2 + 2 * i) + 1 : Nat)))) (lw (decide (((((sh).getD (i / 64) 0#64) >>> (i % 64)) % 2#64) = (1#64))) δ)] : List LbT) ([])), ((some b67), sob ELb 38 ([(wordL (cipher seed) (BitVec.ofInt 64 (((2 + 2 * i) : Nat))), wordL (cipher seed) (BitVec.ofInt 64 (((2 + 2 * i) + 1 : Nat))))] : List LbT) ([])), (some b60, .cells (cel E64 ([wordL (cipher seed) (BitVec.ofInt 64 (((2 + 2 * i) : Nat))), wordL (cipher seed) (BitVec.ofInt 64 (((2 + 2 * i) + 1 : Nat)))])).toArray 38 (0, 0)), (key72, sob ELb 38 (zT fw (i + 1)) sp74), (k2, sob ELb 38 (lbS (zT fw n) (inpS sh (2 * k)) δ i) z2), (some b30, .cells #[.slice none 0 0, pT bc31, i64 ((szT ((2 * n + 2) : Nat) : Nat)), i64 (((2 + 2 * i) + 2 : Nat))] 141 (0, 0)), (some b40, lO (δ)), (some bc31, .cells (cel E8 (cipher seed)).toArray 215 (0, 0)), (some b21, .cells #[i64 (n : Nat), .slice (ownA key14) ((m).1.length) c15, .slice (some ⟨b17, 0, none⟩) 64 64] 70 (0, 0)), (key14, sob EG 99 m.1 sp16), (some b17, .cells (cel EI m.2).toArray 153 (0, 0)), (some b5, .cells (cel E8 seed).toArray 124 (0, 0)), (some b1, .cells (cel E64 sh).toArray 67 (0, 0))] from ⟨b100, rfl, hS101, (((((((((((((H103.pull (k := 12) rfl).pull (k := 12) rfl).pull (k := 12) rfl).pull (k := 12) rfl).pull (k := 12) rfl).pull (k := 12) rfl).pull (k := 12) rfl).pull (k := 12) rfl).pull (k := 12) rfl).pull (k := 12) rfl).pull (k := 12) rfl).pull (k := 12) rfl).pull (k := 12) rfl)⟩)
  refine WalkE.eff 1 rfl (fun L r uw0 uw hLn hAn hDn hF hEx => ?_) ?_
  ·skip
   have b12 := hAn 12 (by decide) rfl
   have b13 : L 13 = false := hLn
   have hb := mp2 b12 b13
   rw [hb] at hF ⊢
   obtain ⟨b83, e12, hS84, H105⟩ := hF
   replace H105 := H105.ext hEx
   dsimp only
   rw [e12]
   refine Gives.ofW (d := 90) rfl rfl (fun Q' hK => ?_)
   refine q_append (E := ELb) (k := 4) (l := lbS (zT fw n) (inpS sh (2 * k)) δ i) (l2 := ([lx (wordL (cipher seed) (BitVec.ofInt 64 (((2 + 2 * i) : Nat))), wordL (cipher seed) (BitVec.ofInt 64 (((2 + 2 * i) + 1 : Nat)))) (lw (decide (((((sh).getD (i / 64) 0#64) >>> (i % 64)) % 2#64) = (1#64))) δ)] : List LbT)) H105 rfl h2 sli92 zer38 rfl byt38 (H105.rd (k := 0) rfl hS84) rfl (by rw [lbS_len]) rfl (by rfl) (by omega) ?_
   intro key106 c107 sp108 w110 hS109 hne112 H111
   have H111' := H111.as (L' := [((some b83), sob ELb 38 ([lx (wordL (cipher seed) (BitVec.ofInt 64 (((2 + 2 * i) : Nat))), wordL (cipher seed) (BitVec.ofInt 64 (((2 + 2 * i) + 1 : Nat)))) (lw (decide (((((sh).getD (i / 64) 0#64) >>> (i % 64)) % 2#64) = (1#64))) δ)] : List LbT) ([])), ((some b67), sob ELb 38 ([(wordL (cipher seed) (BitVec.ofInt 64 (((2 + 2 * i) : Nat))), wordL (cipher seed) (BitVec.ofInt 64 (((2 + 2 * i) + 1 : Nat))))] : List LbT) ([])), (some b60, .cells (cel E64 ([wordL (cipher seed) (BitVec.ofInt 64 (((2 + 2 * i) : Nat))), wordL (cipher seed) (BitVec.ofInt 64 (((2 + 2 * i) + 1 : Nat)))])).toArray 38 (0, 0)), (key72, sob ELb 38 (zT fw (i + 1)) sp74), (key106, sob ELb 38 ((lbS (zT fw n) (inpS sh (2 * k)) δ i) ++ ([lx (wordL (cipher seed) (BitVec.ofInt 64 (((2 + 2 * i) : Nat))), wordL (cipher seed) (BitVec.ofInt 64 (((2 + 2 * i) + 1 : Nat)))) (lw (decide (((((sh).getD (i / 64) 0#64) >>> (i % 64)) % 2#64) = (1#64))) δ)] : List LbT)) sp108), (some b30, .cells #[.slice none 0 0, pT bc31, i64 ((szT ((2 * n + 2) : Nat) : Nat)), i64 (((2 + 2 * i) + 2 : Nat))] 141 (0, 0)), (some b40, lO (δ)), (some bc31, .cells (cel E8 (cipher seed)).toArray 215 (0, 0)), (some b21, .cells #[i64 (n : Nat), .slice (ownA key14) ((m).1.length) c15, .slice (some ⟨b17, 0, none⟩) 64 64] 70 (0, 0)), (key14, sob EG 99 m.1 sp16), (some b17, .cells (cel EI m.2).toArray 153 (0, 0)), (some b5, .cells (cel E8 seed).toArray 124 (0, 0)), (some b1, .cells (cel E64 sh).toArray 67 (0, 0))]) rfl
   clear H111
   have e113 : (lbS (zT fw n) (inpS sh (2 * k)) δ i) ++ ([lx (wordL (cipher seed) (BitVec.ofInt 64 (((2 + 2 * i) : Nat))), wordL (cipher seed) (BitVec.ofInt 64 (((2 + 2 * i) + 1 : Nat)))) (lw (decide (((((sh).getD (i / 64) 0#64) >>> (i % 64)) % 2#64) = (1#64))) δ)] : List LbT) = lbS (zT fw n) (inpS sh (2 * k)) δ (i + 1) := by rw [lbS, zT_at fw n i (by omega), inpS_bit sh (2 * k) i (by omega), hfw]
   have hS114 := hS109
   rw [e113] at hS114
   have H115 := H111'.as (L' := [((some b83), sob ELb 38 ([lx (wordL (cipher seed) (BitVec.ofInt 64 (((2 + 2 * i) : Nat))), wordL (cipher seed) (BitVec.ofInt 64 (((2 + 2 * i) + 1 : Nat)))) (lw (decide (((((sh).getD (i / 64) 0#64) >>> (i % 64)) % 2#64) = (1#64))) δ)] : List LbT) ([])), ((some b67), sob ELb 38 ([(wordL (cipher seed) (BitVec.ofInt 64 (((2 + 2 * i) : Nat))), wordL (cipher seed) (BitVec.ofInt 64 (((2 + 2 * i) + 1 : Nat))))] : List LbT) ([])), (some b60, .cells (cel E64 ([wordL (cipher seed) (BitVec.ofInt 64 (((2 + 2 * i) : Nat))), wordL (cipher seed) (BitVec.ofInt 64 (((2 + 2 * i) + 1 : Nat)))])).toArray 38 (0, 0)), (key72, sob ELb 38 (zT fw (i + 1)) sp74), (key106, sob ELb 38 (lbS (zT fw n) (inpS sh (2 * k)) δ (i + 1)) sp108), (some b30, .cells #[.slice none 0 0, pT bc31, i64 ((szT ((2 * n + 2) : Nat) : Nat)), i64 (((2 + 2 * i) + 2 : Nat))] 141 (0, 0)), (some b40, lO (δ)), (some bc31, .cells (cel E8 (cipher seed)).toArray 215 (0, 0)), (some b21, .cells #[i64 (n : Nat), .slice (ownA key14) ((m).1.length) c15, .slice (some ⟨b17, 0, none⟩) 64 64] 70 (0, 0)), (key14, sob EG 99 m.1 sp16), (some b17, .cells (cel EI m.2).toArray 153 (0, 0)), (some b5, .cells (cel E8 seed).toArray 124 (0, 0)), (some b1, .cells (cel E64 sh).toArray 67 (0, 0))]) (by rw [e113])
   exact hK _ _ (show ∃ (b83 : Nat) (key89 : Option Nat) (c90 : Nat) (sp91 : List Value), r 12 = .slice (ownA (some b83)) 1 1 ∧ (_ : Value) = .slice (ownA key89) (i + 1) c90 ∧ Sl ELb (some b83) ([lx (wordL (cipher seed) (BitVec.ofInt 64 (((2 + 2 * i) : Nat))), wordL (cipher seed) (BitVec.ofInt 64 (((2 + 2 * i) + 1 : Nat)))) (lw (decide (((((sh).getD (i / 64) 0#64) >>> (i % 64)) % 2#64) = (1#64))) δ)] : List LbT) 1 ([]) ∧ Sl ELb key89 (lbS (zT fw n) (inpS sh (2 * k)) δ (i + 1)) c90 sp91 ∧ Hp No w w110 [((some b83), sob ELb 38 ([lx (wordL (cipher seed) (BitVec.ofInt 64 (((2 + 2 * i) : Nat))), wordL (cipher seed) (BitVec.ofInt 64 (((2 + 2 * i) + 1 : Nat)))) (lw (decide (((((sh).getD (i / 64) 0#64) >>> (i % 64)) % 2#64) = (1#64))) δ)] : List LbT) ([])), ((some b67), sob ELb 38 ([(wordL (cipher seed) (BitVec.ofInt 64 (((2 + 2 * i) : Nat))), wordL (cipher seed) (BitVec.ofInt 64 (((2 + 2 * i) + 1 : Nat))))] : List LbT) ([])), (some b60, .cells (cel E64 ([wordL (cipher seed) (BitVec.ofInt 64 (((2 + 2 * i) : Nat))), wordL (cipher seed) (BitVec.ofInt 64 (((2 + 2 * i) + 1 : Nat)))])).toArray 38 (0, 0)), (key72, sob ELb 38 (zT fw (i + 1)) sp74), (key89, sob ELb 38 (lbS (zT fw n) (inpS sh (2 * k)) δ (i + 1)) sp91), (some b30, .cells #[.slice none 0 0, pT bc31, i64 ((szT ((2 * n + 2) : Nat) : Nat)), i64 (((2 + 2 * i) + 2 : Nat))] 141 (0, 0)), (some b40, lO (δ)), (some bc31, .cells (cel E8 (cipher seed)).toArray 215 (0, 0)), (some b21, .cells #[i64 (n : Nat), .slice (ownA key14) ((m).1.length) c15, .slice (some ⟨b17, 0, none⟩) 64 64] 70 (0, 0)), (key14, sob EG 99 m.1 sp16), (some b17, .cells (cel EI m.2).toArray 153 (0, 0)), (some b5, .cells (cel E8 seed).toArray 124 (0, 0)), (some b1, .cells (cel E64 sh).toArray 67 (0, 0))] from ⟨b83, key106, c107, sp108, e12, rfl, hS84, hS114, (((((((((((((H115.pull (k := 12) rfl).pull (k := 12) rfl).pull (k := 12) rfl).pull (k := 12) rfl).pull (k := 12) rfl).pull (k := 12) rfl).pull (k := 12) rfl).pull (k := 12) rfl).pull (k := 12) rfl).pull (k := 12) rfl).pull (k := 12) rfl).pull (k := 12) rfl).pull (k := 12) rfl)⟩)
  refine WalkE.look rfl (fun r => r 13) (fun r r' h => h 13 (by decide) rfl) (fun L r _ uw _ _ _ _ => Gives.run rfl (r_assign rfl) ⟨rfl, rfl⟩) ?_
  refine WalkE.nil ?_
  intro r116 uw0 w117 hF hEx
  obtain ⟨b83, key89, c90, sp91, e12, e13, hS84, hS97, H118⟩ := hF
  replace H118 := H118.ext hEx
  dsimp only
  rw [e12, e13]
  refine wnil ?_
  refine blockNormal ?_
  refine thenNormal ?_
  refine oneRegion ?_
  refine sM (i64 (i : Nat)) rfl ?_
  refine sq (r_addI (a := (i : Nat)) (b := (1 : Int)) rfl rfl (by omega)) ?_
  refine sA (i64 ((i : Nat) + (1 : Int))) rfl ?_
  refine wnil ?_
  refine thenNormal ?_
  exact ⟨(i + 1, key72, c73, sp74, key89, c90, sp91), _, rfl, ⟨rfl, rfl, rfl, rfl, rfl, rfl, rfl, rfl, rfl, rfl, trivial⟩, ⟨⟨by omega, hS80, hS97⟩, (((H118.dropk 2).dropk 1).dropk 0)⟩, by show n - (i + 1) < n - i; omega⟩
 ·skip
  have hie : i = n := by omega
  rw [hie] at HL h1 h2
  rw [hie]
  have hzn : ((zT fw n).length : Int) = (n : Nat) := by rw [zT_len]
  have hln : ((lbS (zT fw n) (inpS sh (2 * k)) δ n).length : Int) = (n : Nat) := by rw [lbS_len]
  refine exitAny ?_
  refine thenExit ?_
  refine thenExit ?_
  refine blockHere ?_
  refine thenNormal ?_
  refine sR ?_
  refine sq (r_loadA (cs' := #[i64 (n : Nat), .slice (ownA key14) ((m).1.length) c15, .slice (some ⟨b17, 0, none⟩) 64 64]) agg70 siz70 (HL.get (k := 5) rfl) (off := 0) rfl (by exact bLe rfl) (by rfl)) ?_
  refine sq (r_loadA (cs' := (cel E64 ([(δ).1, (δ).2])).toArray) agg38 siz38 (HL.get (k := 3) rfl) (off := 0) rfl (by exact bLe rfl) (by exact ext_all rfl)) ?_
  refine sM (.slice (ownA k1) n c1) rfl ?_
  refine c_call (vs := [.agg #[i64 (n : Nat), .slice (ownA key14) ((m).1.length) c15, .slice (some ⟨b17, 0, none⟩) 64 64], lV (δ), .slice (ownA k1) n c1, u64 (9#64)]) call45 rfl (garble_okM (n : Nat) m.1 m.2 (ownA key14) (some ⟨b17, 0, none⟩) c15 64 ((m).1.length) 64 (by rfl) (by exact hA.outs.symm) δ (zT fw n) (ownA k1) c1 (9#64) n (by rw [zT_len]) w53 (Chg.gl HL.chg (fun x => x) hG) (HL.rd (k := 6) rfl hS18) (Rd.row (HL.get (k := 7) rfl)) (by omega) (by omega) (HL.rd (k := 0) rfl h1) hA.is hzn hcd) ?_
  rintro _ w119 ⟨k121, c122, z123, k124, c125, z126, rfl, hS127, hS128, HN129⟩
  obtain ⟨tb, htb⟩ : ∃ x, x = (gS lhash δ (9#64) m.1 (zT fw n) (m.1).length).2 := ⟨_, rfl⟩
  obtain ⟨ot, hot⟩ : ∃ x, x = oL (gS lhash δ (9#64) m.1 (zT fw n) (m.1).length).1 m.2 (m.2).length := ⟨_, rfl⟩
  rw [← htb] at hS127 HN129 ⊢
  rw [← hot] at hS128 HN129 ⊢
  have H130 := (HL.join HN129).as (L' := [(k121, sob ELb 38 tb z123), (k124, sob ELb 38 ot z126), (k1, sob ELb 38 (zT fw n) z1), (k2, sob ELb 38 (lbS (zT fw n) (inpS sh (2 * k)) δ n) z2), (some b30, .cells #[.slice none 0 0, pT bc31, i64 ((szT ((2 * n + 2) : Nat) : Nat)), i64 (((2 + 2 * n) : Nat))] 141 (0, 0)), (some b40, lO (δ)), (some bc31, .cells (cel E8 (cipher seed)).toArray 215 (0, 0)), (some b21, .cells #[i64 (n : Nat), .slice (ownA key14) ((m).1.length) c15, .slice (some ⟨b17, 0, none⟩) 64 64] 70 (0, 0)), (key14, sob EG 99 m.1 sp16), (some b17, .cells (cel EI m.2).toArray 153 (0, 0)), (some b5, .cells (cel E8 seed).toArray 124 (0, 0)), (some b1, .cells (cel E64 sh).toArray 67 (0, 0))]) rfl
  refine sM (.tuple #[.slice (ownA k121) tb.length c122, .slice (ownA k124) ot.length c125, .nilIface]) rfl ?_
  refine sq (r_extract (vs := #[.slice (ownA k121) tb.length c122, .slice (ownA k124) ot.length c125, .nilIface]) rfl rfl) ?_
  refine sq (r_extract (vs := #[.slice (ownA k121) tb.length c122, .slice (ownA k124) ot.length c125, .nilIface]) rfl rfl) ?_
  refine sq (r_extract (vs := #[.slice (ownA k121) tb.length c122, .slice (ownA k124) ot.length c125, .nilIface]) rfl rfl) ?_
  refine sA (.slice (ownA k121) tb.length c122) rfl ?_
  refine sA (.slice (ownA k124) ot.length c125) rfl ?_
  refine sA (.nilIface) rfl ?_
  have htbl : tb.length = 2 * andsS m.1 m.1.length := by rw [htb]; exact gS_ands (fun i hi => by have := hA.is.gok i hi; unfold gokP at this; omega) _ (Nat.le_refl _)
  have hot1 : ot.length = m.2.length := by rw [hot, oL_len]
  refine wend ?_
  refine sR ?_
  refine sq (r_loadA (cs' := #[i64 (n : Nat), .slice (ownA key14) ((m).1.length) c15, .slice (some ⟨b17, 0, none⟩) 64 64]) agg70 siz70 (H130.get (k := 7) rfl) (off := 0) rfl (by exact bLe rfl) (by rfl)) ?_
  refine sM (.slice (ownA k2) n c2) rfl ?_
  refine sM (.slice (ownA k121) tb.length c122) rfl ?_
  refine c_call (vs := [.agg #[i64 (n : Nat), .slice (ownA key14) ((m).1.length) c15, .slice (some ⟨b17, 0, none⟩) 64 64], .slice (ownA k2) n c2, .slice (ownA k121) tb.length c122, u64 (9#64)]) call46 rfl (eval_okM (n : Nat) m.1 m.2 (ownA key14) (some ⟨b17, 0, none⟩) c15 64 ((m).1.length) 64 (by rfl) (by exact hA.outs.symm) (lbS (zT fw n) (inpS sh (2 * k)) δ n) tb (ownA k2) (ownA k121) c2 c122 (9#64) n tb.length (by rw [lbS_len]) (by first | rfl | omega | (simp; omega) | (simp at *; omega)) w119 (Chg.gl H130.chg (fun x => x) hG) (H130.rd (k := 8) rfl hS18) (Rd.row (H130.get (k := 9) rfl)) (by omega) (by omega) (H130.rd (k := 3) rfl h2) (H130.rd (k := 0) rfl hS127) hA.is hln htbl) ?_
  rintro _ w131 ⟨k133, c134, z135, rfl, hS136, HN137⟩
  obtain ⟨el, hel⟩ : ∃ x, x = oL (eS lhash (9#64) m.1 tb (lbS (zT fw n) (inpS sh (2 * k)) δ n) (m.1).length).1 m.2 (m.2).length := ⟨_, rfl⟩
  rw [← hel] at hS136 HN137
  have H138 := (H130.join HN137).as (L' := [(k133, sob ELb 38 el z135), (k121, sob ELb 38 tb z123), (k124, sob ELb 38 ot z126), (k1, sob ELb 38 (zT fw n) z1), (k2, sob ELb 38 (lbS (zT fw n) (inpS sh (2 * k)) δ n) z2), (some b30, .cells #[.slice none 0 0, pT bc31, i64 ((szT ((2 * n + 2) : Nat) : Nat)), i64 (((2 + 2 * n) : Nat))] 141 (0, 0)), (some b40, lO (δ)), (some bc31, .cells (cel E8 (cipher seed)).toArray 215 (0, 0)), (some b21, .cells #[i64 (n : Nat), .slice (ownA key14) ((m).1.length) c15, .slice (some ⟨b17, 0, none⟩) 64 64] 70 (0, 0)), (key14, sob EG 99 m.1 sp16), (some b17, .cells (cel EI m.2).toArray 153 (0, 0)), (some b5, .cells (cel E8 seed).toArray 124 (0, 0)), (some b1, .cells (cel E64 sh).toArray 67 (0, 0))]) rfl
  have hell : el.length = m.2.length := by rw [hel, oL_len]
  refine sM (.tuple #[.slice (ownA k133) ((m.2).length) c134, .nilIface]) rfl ?_
  refine sq (r_extract (vs := #[.slice (ownA k133) ((m.2).length) c134, .nilIface]) rfl rfl) ?_
  refine sq (r_extract (vs := #[.slice (ownA k133) ((m.2).length) c134, .nilIface]) rfl rfl) ?_
  refine sA (.slice (ownA k133) ((m.2).length) c134) rfl ?_
  refine sA (.nilIface) rfl ?_
  refine wend ?_
  refine seqAny ?_
  refine drawAny (K := [none, none, none, none, none, none, none, none, none, none, none, none, none, none]) [0, 0, 2, 0, 8, 31, 0, 0, 128, 0, 512, 2047, 4095, 8191] (fun w' => Ext w131 w') (fun w' w'' => Ext w' w'') mixed (by kernel_rfl) (Ext.drew _) (fun _ _ h h' => h.trans h') ?_ ?_
  ·exact relNone (by decide)
  refine ⟨u64 (fm), fun _ uw139 hC140 _ => Gives.run rfl (r_move (v := u64 (fm)) rfl) ⟨rfl, Chg.refl _ _⟩, ?_⟩
  refine ⟨pT b1, fun _ uw141 hC142 _ => Gives.run rfl (r_indexA (off' := 0) (j := 0) arr67 (b := b1) (off := 0) rfl rfl (by first | rfl | omega | (simp; omega)) (by omega) (by omega)) ⟨rfl, Chg.refl _ _⟩, ?_⟩
  refine ⟨u64 ((sh).getD 0 0#64), fun _ uw143 hC144 _ => Gives.run rfl (r_ld1 (E := E64) (l := sh) (j := 0) (a := (sh).getD 0 0#64) fits32 ((H138.ext hC144).get (k := 12) rfl) (at_getD (by first | omega | (simp only [List.length_set]; omega) | exact bLe rfl | (simp <;> omega))) rfl rfl) ⟨rfl, Chg.refl _ _⟩, ?_⟩
  refine ⟨.pointer (some ⟨b1, 1, none⟩), fun _ uw145 hC146 _ => Gives.run rfl (r_indexA (off' := 1) (j := 1) arr67 (b := b1) (off := 0) rfl rfl (by first | rfl | omega | (simp; omega)) (by omega) (by omega)) ⟨rfl, Chg.refl _ _⟩, ?_⟩
  refine ⟨u64 ((sh).getD 1 0#64), fun _ uw147 hC148 _ => Gives.run rfl (r_ld1 (E := E64) (l := sh) (j := 1) (a := (sh).getD 1 0#64) fits32 ((H138.ext hC148).get (k := 12) rfl) (at_getD (by first | omega | (simp only [List.length_set]; omega) | exact bLe rfl | (simp <;> omega))) rfl rfl) ⟨rfl, Chg.refl _ _⟩, ?_⟩
  refine ⟨u64 (whS (fbS fm 0) ((sh).getD 0 0#64) ((sh).getD 1 0#64)), fun _ uw149 hC150 _ => Gives.call rfl (Enters.callL (vs := [u64 (fm), i64 ((0 : Int)), u64 ((sh).getD 0 0#64), u64 ((sh).getD 1 0#64)]) call38 rfl) (rwhole_ok fm 0 ((sh).getD 0 0#64) ((sh).getD 1 0#64) uw149), ?_⟩
  refine ⟨u64 (fm), fun _ uw151 hC152 _ => Gives.run rfl (r_move (v := u64 (fm)) rfl) ⟨rfl, Chg.refl _ _⟩, ?_⟩
  refine ⟨.pointer (some ⟨b1, 2, none⟩), fun _ uw153 hC154 _ => Gives.run rfl (r_indexA (off' := 2) (j := 2) arr67 (b := b1) (off := 0) rfl rfl (by first | rfl | omega | (simp; omega)) (by omega) (by omega)) ⟨rfl, Chg.refl _ _⟩, ?_⟩
  refine ⟨u64 ((sh).getD 2 0#64), fun _ uw155 hC156 _ => Gives.run rfl (r_ld1 (E := E64) (l := sh) (j := 2) (a := (sh).getD 2 0#64) fits32 ((H138.ext hC156).get (k := 12) rfl) (at_getD (by first | omega | (simp only [List.length_set]; omega) | exact bLe rfl | (simp <;> omega))) rfl rfl) ⟨rfl, Chg.refl _ _⟩, ?_⟩
  refine ⟨.pointer (some ⟨b1, 3, none⟩), fun _ uw157 hC158 _ => Gives.run rfl (r_indexA (off' := 3) (j := 3) arr67 (b := b1) (off := 0) rfl rfl (by first | rfl | omega | (simp; omega)) (by omega) (by omega)) ⟨rfl, Chg.refl _ _⟩, ?_⟩
  refine ⟨u64 ((sh).getD 3 0#64), fun _ uw159 hC160 _ => Gives.run rfl (r_ld1 (E := E64) (l := sh) (j := 3) (a := (sh).getD 3 0#64) fits32 ((H138.ext hC160).get (k := 12) rfl) (at_getD (by first | omega | (simp only [List.length_set]; omega) | exact bLe rfl | (simp <;> omega))) rfl rfl) ⟨rfl, Chg.refl _ _⟩, ?_⟩
  refine ⟨u64 (whS (fbS fm 1) ((sh).getD 2 0#64) ((sh).getD 3 0#64)), fun _ uw161 hC162 _ => Gives.call rfl (Enters.callL (vs := [u64 (fm), i64 ((1 : Int)), u64 ((sh).getD 2 0#64), u64 ((sh).getD 3 0#64)]) call38 rfl) (rwhole_ok fm 1 ((sh).getD 2 0#64) ((sh).getD 3 0#64) uw161), ?_⟩
  refine ⟨u64 (whS (fbS fm 0) ((sh).getD 0 0#64) ((sh).getD 1 0#64)), fun _ uw163 hC164 _ => Gives.run rfl (r_assign (v := u64 (whS (fbS fm 0) ((sh).getD 0 0#64) ((sh).getD 1 0#64))) rfl) ⟨rfl, Chg.refl _ _⟩, ?_⟩
  refine ⟨u64 (whS (fbS fm 1) ((sh).getD 2 0#64) ((sh).getD 3 0#64)), fun _ uw165 hC166 _ => Gives.run rfl (r_assign (v := u64 (whS (fbS fm 1) ((sh).getD 2 0#64) ((sh).getD 3 0#64))) rfl) ⟨rfl, Chg.refl _ _⟩, ?_⟩
  intro r170 w167 hE169 hF
  have H168 := H138.ext hE169
  have hfin : colS ot (min ot.length 64) ^^^ colS el (min el.length 64) = saysS kd (whS (fbS fm 0) (sh.getD 0 0#64) (sh.getD 1 0#64)) (whS (fbS fm 1) (sh.getD 2 0#64) (sh.getD 3 0#64)) := by
   rw [← hA.says]
   exact made_col (h := lhash) (first := 9#64) (zs := zT fw n) (ls := lbS (zT fw n) (inpS sh (2 * k)) δ n) (bits := inpS sh (2 * k)) hcd (by rw [lbS_len, zT_len]) (by rw [zT_len]; omega) (by rw [zT_len]; exact hA.is) hA.outs (fun j hj => lbS_at _ _ _ _ _ (by rw [zT_len] at hj; exact hj)) hot (by rw [hel, htb])
  refine wnil ?_
  refine thenNormal ?_
  refine sR ?_
  refine sM (.nilIface) rfl ?_
  refine sq (r_eqlNN isI27 rfl rfl) ?_
  refine sM (.bool (true)) rfl ?_
  refine sqAny (v := .nilIface) (w' := w167) (wantedSome (d' := 120) (b := true) rfl rfl rfl) (r_move (v := .nilIface) rfl) ?_
  refine sqAny (v := .bool (true)) (w' := w167) (wantedSome (d' := 120) (b := true) rfl rfl rfl) (r_eqlNN isI27 rfl rfl) ?_
  refine sq (r_pickT (u := .bool (true)) rfl rfl) ?_
  refine sM (.bool (true)) rfl ?_
  refine sqAny (v := .slice (ownA k124) ot.length c125) (w' := w167) (wantedSome (d' := 124) (b := true) rfl rfl rfl) (r_move (v := .slice (ownA k124) ot.length c125) rfl) ?_
  refine caAny (wantedSome (d' := 124) (b := true) rfl rfl rfl) (Enters.callL (vs := [.slice (ownA k124) ot.length c125]) call51 rfl) (colours_ok ot (ownA k124) ot.length c125 (by first | rfl | omega | (simp; omega) | (simp at *; omega)) (by omega) w167 (H168.rd (k := 2) rfl hS128)) ?_
  rintro _ w171 ⟨rfl, hE172⟩
  have H173 := H168.ext hE172
  refine sqAny (v := .slice (ownA k133) ((m.2).length) c134) (w' := w171) (wantedSome (d' := 124) (b := true) rfl rfl rfl) (r_move (v := .slice (ownA k133) ((m.2).length) c134) rfl) ?_
  refine caAny (wantedSome (d' := 124) (b := true) rfl rfl rfl) (Enters.callL (vs := [.slice (ownA k133) ((m.2).length) c134]) call51 rfl) (colours_ok el (ownA k133) ((m.2).length) c134 (by exact hell.symm) (by omega) w171 (H173.rd (k := 0) rfl hS136)) ?_
  rintro _ w174 ⟨rfl, hE175⟩
  have H176 := H173.ext hE175
  refine sqAny (v := u64 ((colS ot (min ot.length 64)) ^^^ (colS el (min el.length 64)))) (w' := w174) (wantedSome (d' := 124) (b := true) rfl rfl rfl) (r_xor64 (a := colS ot (min ot.length 64)) (b := colS el (min el.length 64)) rfl rfl) ?_
  refine sqAny (v := i64 (kd : Nat)) (w' := w174) (wantedSome (d' := 124) (b := true) rfl rfl rfl) (r_move (v := i64 (kd : Nat)) rfl) ?_
  refine sqAny (v := u64 (whS (fbS fm 0) ((sh).getD 0 0#64) ((sh).getD 1 0#64))) (w' := w174) (wantedSome (d' := 124) (b := true) rfl rfl rfl) (r_move (v := u64 (whS (fbS fm 0) ((sh).getD 0 0#64) ((sh).getD 1 0#64))) rfl) ?_
  refine sqAny (v := u64 (whS (fbS fm 1) ((sh).getD 2 0#64) ((sh).getD 3 0#64))) (w' := w174) (wantedSome (d' := 124) (b := true) rfl rfl rfl) (r_move (v := u64 (whS (fbS fm 1) ((sh).getD 2 0#64) ((sh).getD 3 0#64))) rfl) ?_
  refine caAny (wantedSome (d' := 124) (b := true) rfl rfl rfl) (Enters.callL (vs := [i64 (kd : Nat), u64 (whS (fbS fm 0) ((sh).getD 0 0#64) ((sh).getD 1 0#64)), u64 (whS (fbS fm 1) ((sh).getD 2 0#64) ((sh).getD 3 0#64))]) call40 rfl) (rsays_ok kd (whS (fbS fm 0) ((sh).getD 0 0#64) ((sh).getD 1 0#64)) (whS (fbS fm 1) ((sh).getD 2 0#64) ((sh).getD 3 0#64)) w174) ?_
  rintro _ w177 ⟨rfl, hE178⟩
  have H179 := H176.ext hE178
  refine sqAny (v := .bool (true)) (w' := w177) (wantedSome (d' := 124) (b := true) rfl rfl rfl) ((r_eql64 (a := (colS ot (min ot.length 64)) ^^^ (colS el (min el.length 64))) (b := saysS kd (whS (fbS fm 0) ((sh).getD 0 0#64) ((sh).getD 1 0#64)) (whS (fbS fm 1) ((sh).getD 2 0#64) ((sh).getD 3 0#64))) rfl rfl).as (v' := .bool (true)) (by exact congrArg Value.bool (decide_eq_true hfin))) ?_
  refine sq (r_pickT (u := .bool (true)) rfl rfl) ?_
  refine sA (.bool (true)) rfl ?_
  refine wend ?_
  refine retAny ?_
  refine retG (rs := [.tmp 6]) (vs := [.bool (true)]) rfl ⟨⟨rfl, rfl⟩, trivial⟩ ?_
  exact ⟨_, rfl, rfl, H179.chg⟩
theorem gmade_ok (kind : Int) (sh : List (BitVec 64)) (hsh : sh.length = 4) (seed : List By) (hk : seed.length = 16) (w : World) (hG : Gl w) : Calls Tryd.prog 14 [i64 kind, .agg (cel E64 sh).toArray, .agg (cel E8 seed).toArray].toArray w (Ret fun v w' => v = .bool true ∧ Ext w w') := by
 obtain ⟨p, hp, h1, h3⟩ := small3 (BitVec.ofInt 64 kind)
 have hf2 : sh.getD 0 0#64 % 2#64 < 2#64 := BitVec.lt_def.2 (by rw [BitVec.toNat_umod]; exact Nat.mod_lt _ (by decide))
 have hf4 : sh.getD 1 0#64 % 4#64 < 4#64 := BitVec.lt_def.2 (by rw [BitVec.toNat_umod]; exact Nat.mod_lt _ (by decide))
 rcases (show p = 1 ∨ p = 2 ∨ p = 3 by omega) with rfl | rfl | rfl
 ·exact gmade_one kind 1 128 1 (mk1 (fbS _ 0)) _ sh hsh seed hk hp rfl rfl (by decide) (by decide) rfl (fun w => Cm.make_k1 _ hf2 w) (ans1 sh _) w hG
 ·exact gmade_two kind 2 256 2 (mk2 (fbS _ 0) (fbS _ 1)) _ sh hsh seed hk hp ⟨by decide, by decide⟩ rfl (by decide) (by decide) rfl (fun w => Cm.make_k2 _ hf4 w) (ans2 sh _) w hG
 ·exact gmade_two kind 3 256 2 (mk3 (fbS _ 0) (fbS _ 1)) _ sh hsh seed hk hp ⟨by decide, by decide⟩ rfl (by decide) (by decide) rfl (fun w => Cm.make_k3 _ hf4 w) (ans3 sh _) w hG
end Go.Proofs.YteofdmdpaejgaaaDoor.Gm
