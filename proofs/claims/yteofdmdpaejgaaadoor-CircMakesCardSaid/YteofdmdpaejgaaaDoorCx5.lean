/- What the claim has need of: Cm15, Cm16, Cm17. -/
import Derived.Test.YteofdmdpaejgaaaDoorCx4
namespace Go.Proofs.YteofdmdpaejgaaaDoor.Cm
open Go Go.Proofs.YteofdmdpaejgaaaDoor.Vc Go.Proofs.YteofdmdpaejgaaaDoor.Er Go.Proofs.YteofdmdpaejgaaaDoor.Circ
set_option linter.unusedVariables false
set_option maxHeartbeats 2000000 in
theorem rmake_k3 (fm : BitVec 64) (hf : fm < 4#64) (w : World) : Calls Tryd.prog 34 [i64 (3 : Int), u64 fm].toArray w (Ret fun v w' => ∃ (key : Option Nat) (c : Nat) (sp : List Value) (ko : Option Nat) (co : Nat) (so : List Value), v = .agg #[i64 ((256 : Nat) : Int), .slice (ownA key) (mk3 (fbS fm 0) (fbS fm 1)).1.length c, .slice (ownA ko) 64 co] ∧ Sl EG key (mk3 (fbS fm 0) (fbS fm 1)).1 c sp ∧ Sl EI ko (mk3 (fbS fm 0) (fbS fm 1)).2 co so ∧ Hp No w w' [(key, sob EG 85 (mk3 (fbS fm 0) (fbS fm 1)).1 sp), (ko, sob EI 3 (mk3 (fbS fm 0) (fbS fm 1)).2 so)]) := by
  have H := Hp.start No w
  refine enter (n := 151) Tryd.func34 rfl rfl (Nat.le_of_ble_eq_true rfl) ?_
  refine seqRegion ?_
  refine q_alloc (o := .cells #[i64 ((0 : Int)), .slice none 0 0, .slice none 0 0] 80 (0, 0)) H zer80 (by kernel_rfl) ?_
  intro b1 w2 hb1 H3 hE4
  refine wend ?_
  refine seqRegion ?_
  refine sq (r_move (v := i64 ((3 : Int))) rfl) ?_
  refine sq (r_move (v := u64 (fm)) rfl) ?_
  refine c_call (vs := [i64 ((3 : Int)), u64 (fm)]) call30 rfl ((by have h := rnop_ok (3 : Int) fm w2; rw [nop_three fm hf] at h; exact h)) ?_
  rintro _ w5 ⟨rfl, hE6⟩
  have H7 := H3.ext hE6
  refine sq (r_assign (v := i64 ((2 : Nat))) rfl) ?_
  refine wend ?_
  refine seqRegion ?_
  refine sq (r_move (v := i64 ((2 : Nat))) rfl) ?_
  refine sq ((r_mulI (a := (128 : Int)) (b := (2 : Nat)) rfl rfl (by omega)).as (v' := i64 ((256 : Nat))) (by rfl)) ?_
  refine sq (r_build (cs' := #[i64 ((256 : Nat)), .slice none 0 0, .slice none 0 0]) (ps := [(0, i64 ((256 : Nat)))]) zer80 pls80 rfl (by rfl)) ?_
  refine q_alloc (o := .cells #[i64 ((0 : Int)), .slice none 0 0, .slice none 0 0] 80 (0, 0)) H7 zer80 (by kernel_rfl) ?_
  intro b8 w9 hb8 H10 hE11
  refine d_store (k := 0) (v := .agg #[i64 ((256 : Nat)), .slice none 0 0, .slice none 0 0]) (cs' := #[i64 ((256 : Nat)), .slice none 0 0, .slice none 0 0]) H10 rfl rfl rfl siz80 (by rfl) (by intro u hu; simp [Value.cells] at hu; first | (subst hu; rfl) | (rcases hu with rfl | rfl | rfl <;> rfl)) (by exact Nat.le_of_ble_eq_true rfl) (by rfl) ?_
  intro w12 H13 hC14
  have H13' := H13.as (L' := [(some b8, .cells #[i64 ((256 : Nat)), .slice none 0 0, .slice none 0 0] 80 (0, 0)), (some b1, .cells #[i64 ((0 : Int)), .slice none 0 0, .slice none 0 0] 80 (0, 0))]) rfl
  clear H13
  have H15 := H13'.nil (sob EG 85 [] [])
  have H16 := H15.as (L' := [(none, sob EG 85 ([] : List Gt) ([])), (some b8, .cells #[i64 ((256 : Nat)), .slice (ownA none) (List.length ([] : List Gt)) 0, .slice none 0 0] 80 (0, 0)), (some b1, .cells #[i64 ((0 : Int)), .slice none 0 0, .slice none 0 0] 80 (0, 0))]) rfl
  refine wend ?_
  refine seqRegion ?_
  refine sq (r_assign (v := .slice none 0 0) rfl) ?_
  refine sq (r_assign (v := .slice none 0 0) rfl) ?_
  refine wend ?_
  refine seqRegion ?_
  refine sq (r_loadA (cs' := #[i64 ((256 : Nat)), .slice (ownA none) (List.length ([] : List Gt)) 0, .slice none 0 0]) agg80 siz80 (H16.get (k := 1) rfl) (off := 0) rfl (by exact Nat.le_of_ble_eq_true rfl) (by rfl)) ?_
  refine sq (r_move (v := u64 (fm)) rfl) ?_
  refine sq (r_rem64 (a := fm) (b := 2#64) rfl rfl (by decide)) ?_
  refine sq ((r_eql64 (a := fm % (2#64)) (b := 1#64) rfl rfl).as (v' := .bool (fbS fm 0)) (by exact congrArg Value.bool (fb_rem0 fm))) ?_
  have H17 := (H16).as (L' := ((none, sob EG 85 ([] : List Gt) ([])) :: ([(some b8, .cells #[i64 ((256 : Nat)), .slice (ownA none) (List.length ([] : List Gt)) 0, .slice none 0 0] 80 (0, 0)), (some b1, .cells #[i64 ((0 : Int)), .slice none 0 0, .slice none 0 0] 80 (0, 0))]))) rfl
  refine c_call (vs := [.agg #[i64 ((256 : Nat)), .slice (ownA none) (List.length ([] : List Gt)) 0, .slice none 0 0], i64 ((0 : Int)), i64 ((64 : Int)), .bool (fbS fm 0)]) call79 rfl (rop_ok 256 none 0 ([]) ([] : List Gt) Sl.none (by omega) (by exact Nat.zero_le _) none 0 0 0 64 (by omega) (by omega) (fbS fm 0) ([(some b8, .cells #[i64 ((256 : Nat)), .slice (ownA none) (List.length ([] : List Gt)) 0, .slice none 0 0] 80 (0, 0)), (some b1, .cells #[i64 ((0 : Int)), .slice none 0 0, .slice none 0 0] 80 (0, 0))]) w w12 H17) ?_
  rintro _ w18 ⟨key20, c21, sp22, ko23, co24, so25, rfl, hS26, hO27, HN28⟩
  obtain ⟨o1, ho1⟩ : ∃ q, q = opS 256 ([] : List Gt) 0 64 (fbS fm 0) := ⟨_, rfl⟩
  rw [← ho1] at hS26 hO27 HN28 ⊢
  have hlo1 := opS_len 256 ([] : List Gt) 0 64 (fbS fm 0)
  rw [← ho1] at hlo1
  have H29 := HN28.as (L' := [(key20, sob EG 85 o1.1 sp22), (ko23, sob EI 3 o1.2 so25), (some b8, .cells #[i64 ((256 : Nat)), .slice (ownA none) (List.length ([] : List Gt)) 0, .slice none 0 0] 80 (0, 0)), (some b1, .cells #[i64 ((0 : Int)), .slice none 0 0, .slice none 0 0] 80 (0, 0))]) rfl
  refine sq (r_move (v := .tuple #[.agg #[i64 ((256 : Nat)), .slice (ownA key20) (List.length o1.1) c21, .slice none 0 0], .slice (ownA ko23) 64 co24]) rfl) ?_
  refine sq (r_extract (vs := #[.agg #[i64 ((256 : Nat)), .slice (ownA key20) (List.length o1.1) c21, .slice none 0 0], .slice (ownA ko23) 64 co24]) rfl rfl) ?_
  refine sq (r_extract (vs := #[.agg #[i64 ((256 : Nat)), .slice (ownA key20) (List.length o1.1) c21, .slice none 0 0], .slice (ownA ko23) 64 co24]) rfl rfl) ?_
  refine d_store (k := 2) (v := .agg #[i64 ((256 : Nat)), .slice (ownA key20) (List.length o1.1) c21, .slice none 0 0]) (cs' := #[i64 ((256 : Nat)), .slice (ownA key20) (List.length o1.1) c21, .slice none 0 0]) H29 rfl rfl rfl siz80 (by rfl) (by intro u hu; simp [Value.cells] at hu; first | (subst hu; rfl) | (rcases hu with rfl | rfl | rfl <;> rfl)) (by exact Nat.le_of_ble_eq_true rfl) (by rfl) ?_
  intro w30 H31 hC32
  have H31' := H31.as (L' := [(key20, sob EG 85 o1.1 sp22), (ko23, sob EI 3 o1.2 so25), (some b8, .cells #[i64 ((256 : Nat)), .slice (ownA key20) (List.length o1.1) c21, .slice none 0 0] 80 (0, 0)), (some b1, .cells #[i64 ((0 : Int)), .slice none 0 0, .slice none 0 0] 80 (0, 0))]) rfl
  clear H31
  refine sq (r_assign (v := .slice (ownA ko23) 64 co24) rfl) ?_
  simp only [List.length_nil] at hlo1
  refine wend ?_
  refine seqAny ?_
  refine seqRegion ?_
  refine sq (r_move (v := i64 ((2 : Nat))) rfl) ?_
  refine sq ((r_eqlI (a := (2 : Nat)) (b := (2 : Int)) rfl rfl).as (v' := .bool (true)) (by rfl)) ?_
  refine wend ?_
  refine condTrue rfl ?_
  refine oneRegion ?_
  refine sq (r_loadA (cs' := #[i64 ((256 : Nat)), .slice (ownA key20) (List.length o1.1) c21, .slice none 0 0]) agg80 siz80 (H31'.get (k := 2) rfl) (off := 0) rfl (by exact Nat.le_of_ble_eq_true rfl) (by rfl)) ?_
  refine sq (r_move (v := u64 (fm)) rfl) ?_
  refine sq (r_quo64 (a := fm) (b := 2#64) rfl rfl (by decide)) ?_
  refine sq (r_rem64 (a := fm / (2#64)) (b := 2#64) rfl rfl (by decide)) ?_
  refine sq ((r_eql64 (a := (fm / (2#64)) % (2#64)) (b := 1#64) rfl rfl).as (v' := .bool (fbS fm 1)) (by exact congrArg Value.bool (fb_rem1 fm))) ?_
  have H33 := (H31').as (L' := ((key20, sob EG 85 o1.1 sp22) :: ([(ko23, sob EI 3 o1.2 so25), (some b8, .cells #[i64 ((256 : Nat)), .slice (ownA key20) (List.length o1.1) c21, .slice none 0 0] 80 (0, 0)), (some b1, .cells #[i64 ((0 : Int)), .slice none 0 0, .slice none 0 0] 80 (0, 0))]))) rfl
  refine c_call (vs := [.agg #[i64 ((256 : Nat)), .slice (ownA key20) (List.length o1.1) c21, .slice none 0 0], i64 ((128 : Int)), i64 ((192 : Int)), .bool (fbS fm 1)]) call79 rfl (rop_ok 256 key20 c21 sp22 o1.1 hS26 (by omega) (by omega) none 0 0 128 192 (by omega) (by omega) (fbS fm 1) ([(ko23, sob EI 3 o1.2 so25), (some b8, .cells #[i64 ((256 : Nat)), .slice (ownA key20) (List.length o1.1) c21, .slice none 0 0] 80 (0, 0)), (some b1, .cells #[i64 ((0 : Int)), .slice none 0 0, .slice none 0 0] 80 (0, 0))]) w w30 H33) ?_
  rintro _ w34 ⟨key36, c37, sp38, ko39, co40, so41, rfl, hS42, hO43, HN44⟩
  obtain ⟨o2, ho2⟩ : ∃ q, q = opS 256 o1.1 128 192 (fbS fm 1) := ⟨_, rfl⟩
  rw [← ho2] at hS42 hO43 HN44 ⊢
  have hlo2 := opS_len 256 o1.1 128 192 (fbS fm 1)
  rw [← ho2] at hlo2
  have H45 := HN44.as (L' := [(key36, sob EG 85 o2.1 sp38), (ko39, sob EI 3 o2.2 so41), (ko23, sob EI 3 o1.2 so25), (some b8, .cells #[i64 ((256 : Nat)), .slice (ownA key20) (List.length o1.1) c21, .slice none 0 0] 80 (0, 0)), (some b1, .cells #[i64 ((0 : Int)), .slice none 0 0, .slice none 0 0] 80 (0, 0))]) rfl
  refine sq (r_move (v := .tuple #[.agg #[i64 ((256 : Nat)), .slice (ownA key36) (List.length o2.1) c37, .slice none 0 0], .slice (ownA ko39) 64 co40]) rfl) ?_
  refine sq (r_extract (vs := #[.agg #[i64 ((256 : Nat)), .slice (ownA key36) (List.length o2.1) c37, .slice none 0 0], .slice (ownA ko39) 64 co40]) rfl rfl) ?_
  refine sq (r_extract (vs := #[.agg #[i64 ((256 : Nat)), .slice (ownA key36) (List.length o2.1) c37, .slice none 0 0], .slice (ownA ko39) 64 co40]) rfl rfl) ?_
  refine d_store (k := 3) (v := .agg #[i64 ((256 : Nat)), .slice (ownA key36) (List.length o2.1) c37, .slice none 0 0]) (cs' := #[i64 ((256 : Nat)), .slice (ownA key36) (List.length o2.1) c37, .slice none 0 0]) H45 rfl rfl rfl siz80 (by rfl) (by intro u hu; simp [Value.cells] at hu; first | (subst hu; rfl) | (rcases hu with rfl | rfl | rfl <;> rfl)) (by exact Nat.le_of_ble_eq_true rfl) (by rfl) ?_
  intro w46 H47 hC48
  have H47' := H47.as (L' := [(key36, sob EG 85 o2.1 sp38), (ko39, sob EI 3 o2.2 so41), (ko23, sob EI 3 o1.2 so25), (some b8, .cells #[i64 ((256 : Nat)), .slice (ownA key36) (List.length o2.1) c37, .slice none 0 0] 80 (0, 0)), (some b1, .cells #[i64 ((0 : Int)), .slice none 0 0, .slice none 0 0] 80 (0, 0))]) rfl
  clear H47
  refine sq (r_assign (v := .slice (ownA ko39) 64 co40) rfl) ?_
  refine wnil ?_
  refine thenNormal ?_
  refine seqRegion ?_
  refine sq (r_loadA (cs' := #[i64 ((256 : Nat)), .slice (ownA key36) (List.length o2.1) c37, .slice none 0 0]) agg80 siz80 (H47'.get (k := 3) rfl) (off := 0) rfl (by exact Nat.le_of_ble_eq_true rfl) (by rfl)) ?_
  have H49 := (H47').as (L' := ((key36, sob EG 85 o2.1 sp38) :: ([(ko39, sob EI 3 o2.2 so41), (ko23, sob EI 3 o1.2 so25), (some b8, .cells #[i64 ((256 : Nat)), .slice (ownA key36) (List.length o2.1) c37, .slice none 0 0] 80 (0, 0)), (some b1, .cells #[i64 ((0 : Int)), .slice none 0 0, .slice none 0 0] 80 (0, 0))]))) rfl
  refine c_call (vs := [.agg #[i64 ((256 : Nat)), .slice (ownA key36) (List.length o2.1) c37, .slice none 0 0], i64 ((1 : Int)), i64 ((0 : Int)), i64 ((0 : Int))]) call80 rfl (rput_ok 256 key36 c37 sp38 o2.1 hS42 (by omega) (by omega) none 0 0 (1 : Int) (0 : Int) (0 : Int) ([(ko39, sob EI 3 o2.2 so41), (ko23, sob EI 3 o1.2 so25), (some b8, .cells #[i64 ((256 : Nat)), .slice (ownA key36) (List.length o2.1) c37, .slice none 0 0] 80 (0, 0)), (some b1, .cells #[i64 ((0 : Int)), .slice none 0 0, .slice none 0 0] 80 (0, 0))]) w w46 H49) ?_
  rintro _ w50 ⟨wx52, key53, c54, sp55, hwx52, rfl, hS56, HN57⟩
  have H58 := HN57.as (L' := [(key53, sob EG 85 (o2.1 ++ [(⟨(1 : Int), (0 : Int), (0 : Int)⟩ : Gt)]) sp55), (ko39, sob EI 3 o2.2 so41), (ko23, sob EI 3 o1.2 so25), (some b8, .cells #[i64 ((256 : Nat)), .slice (ownA key36) (List.length o2.1) c37, .slice none 0 0] 80 (0, 0)), (some b1, .cells #[i64 ((0 : Int)), .slice none 0 0, .slice none 0 0] 80 (0, 0))]) rfl
  refine sq (r_move (v := .tuple #[.agg #[i64 ((256 : Nat)), .slice (ownA key53) (List.length (o2.1 ++ [(⟨(1 : Int), (0 : Int), (0 : Int)⟩ : Gt)])) c54, .slice none 0 0], i64 (wx52)]) rfl) ?_
  refine sq (r_extract (vs := #[.agg #[i64 ((256 : Nat)), .slice (ownA key53) (List.length (o2.1 ++ [(⟨(1 : Int), (0 : Int), (0 : Int)⟩ : Gt)])) c54, .slice none 0 0], i64 (wx52)]) rfl rfl) ?_
  refine sq (r_extract (vs := #[.agg #[i64 ((256 : Nat)), .slice (ownA key53) (List.length (o2.1 ++ [(⟨(1 : Int), (0 : Int), (0 : Int)⟩ : Gt)])) c54, .slice none 0 0], i64 (wx52)]) rfl rfl) ?_
  refine d_store (k := 3) (v := .agg #[i64 ((256 : Nat)), .slice (ownA key53) (List.length (o2.1 ++ [(⟨(1 : Int), (0 : Int), (0 : Int)⟩ : Gt)])) c54, .slice none 0 0]) (cs' := #[i64 ((256 : Nat)), .slice (ownA key53) (List.length (o2.1 ++ [(⟨(1 : Int), (0 : Int), (0 : Int)⟩ : Gt)])) c54, .slice none 0 0]) H58 rfl rfl rfl siz80 (by rfl) (by intro u hu; simp [Value.cells] at hu; first | (subst hu; rfl) | (rcases hu with rfl | rfl | rfl <;> rfl)) (by exact Nat.le_of_ble_eq_true rfl) (by rfl) ?_
  intro w59 H60 hC61
  have H60' := H60.as (L' := [(key53, sob EG 85 (o2.1 ++ [(⟨(1 : Int), (0 : Int), (0 : Int)⟩ : Gt)]) sp55), (ko39, sob EI 3 o2.2 so41), (ko23, sob EI 3 o1.2 so25), (some b8, .cells #[i64 ((256 : Nat)), .slice (ownA key53) (List.length (o2.1 ++ [(⟨(1 : Int), (0 : Int), (0 : Int)⟩ : Gt)])) c54, .slice none 0 0] 80 (0, 0)), (some b1, .cells #[i64 ((0 : Int)), .slice none 0 0, .slice none 0 0] 80 (0, 0))]) rfl
  clear H60
  refine sq (r_assign (v := i64 (wx52)) rfl) ?_
  subst hwx52
  have e62 : o2.1 ++ [(⟨(1 : Int), (0 : Int), (0 : Int)⟩ : Gt)] = ze o2.1 := by rfl
  have hS63 := hS56
  rw [e62] at hS63
  have H64 : Hp No w w59 [(key53, sob EG 85 (ze o2.1) sp55), (ko39, sob EI 3 o2.2 so41), (ko23, sob EI 3 o1.2 so25), (some b8, .cells #[i64 ((256 : Nat)), .slice (ownA key53) (List.length (ze o2.1)) c54, .slice none 0 0] 80 (0, 0)), (some b1, .cells #[i64 ((0 : Int)), .slice none 0 0, .slice none 0 0] 80 (0, 0))] := by rw [← e62]; exact H60'
  have hzl : (ze o2.1).length = o2.1.length + 1 := by simp [ze]
  refine wend ?_
  refine seqAny ?_
  refine seqRegion ?_
  refine sq (r_move (v := i64 ((3 : Int))) rfl) ?_
  refine sq ((r_eqlI (a := (3 : Int)) (b := (1 : Int)) rfl rfl).as (v' := .bool (false)) (by rfl)) ?_
  refine wend ?_
  refine condFalse rfl ?_
  refine skipAny ?_
  refine thenNormal ?_
  refine seqRegion ?_
  refine sq (r_assign (v := i64 ((0 : Int))) rfl) ?_
  refine wend ?_
  refine seqRegion ?_
  refine sq (r_loadA (cs' := #[i64 ((256 : Nat)), .slice (ownA key53) (List.length (ze o2.1)) c54, .slice none 0 0]) agg80 siz80 (H64.get (k := 3) rfl) (off := 0) rfl (by exact Nat.le_of_ble_eq_true rfl) (by rfl)) ?_
  refine sq (r_move (v := .slice (ownA ko23) 64 co24) rfl) ?_
  refine sq (r_move (v := .slice (ownA ko39) 64 co40) rfl) ?_
  have H65 := (H64).as (L' := ((key53, sob EG 85 (ze o2.1) sp55) :: ([(ko39, sob EI 3 o2.2 so41), (ko23, sob EI 3 o1.2 so25), (some b8, .cells #[i64 ((256 : Nat)), .slice (ownA key53) (List.length (ze o2.1)) c54, .slice none 0 0] 80 (0, 0)), (some b1, .cells #[i64 ((0 : Int)), .slice none 0 0, .slice none 0 0] 80 (0, 0))]))) rfl
  refine c_call (vs := [.agg #[i64 ((256 : Nat)), .slice (ownA key53) (List.length (ze o2.1)) c54, .slice none 0 0], .slice (ownA ko23) 64 co24, .slice (ownA ko39) 64 co40]) call81 rfl (rless_ok 256 key53 c54 sp55 (ze o2.1) hS63 (by omega) (by omega) none 0 0 o1.2 o2.2 (by exact hlo1.2) (by exact hlo2.2) (ownA ko23) (ownA ko39) co24 co40 ([(ko39, sob EI 3 o2.2 so41), (ko23, sob EI 3 o1.2 so25), (some b8, .cells #[i64 ((256 : Nat)), .slice (ownA key53) (List.length (ze o2.1)) c54, .slice none 0 0] 80 (0, 0)), (some b1, .cells #[i64 ((0 : Int)), .slice none 0 0, .slice none 0 0] 80 (0, 0))]) w w59 (fun w' _ hR => rdKept hO27 (List.mem_of_getElem? (i := 1) rfl) hR) (fun w' _ hR => rdKept hO43 (List.mem_of_getElem? (i := 0) rfl) hR) H65) ?_
  rintro _ w66 ⟨wx68, key69, c70, sp71, hwx68, rfl, hS72, HN73⟩
  have H74 := HN73.as (L' := [(key69, sob EG 85 ((leG 256 (ze o2.1) o1.2 o2.2).1) sp71), (ko39, sob EI 3 o2.2 so41), (ko23, sob EI 3 o1.2 so25), (some b8, .cells #[i64 ((256 : Nat)), .slice (ownA key53) (List.length (ze o2.1)) c54, .slice none 0 0] 80 (0, 0)), (some b1, .cells #[i64 ((0 : Int)), .slice none 0 0, .slice none 0 0] 80 (0, 0))]) rfl
  refine sq (r_move (v := .tuple #[.agg #[i64 ((256 : Nat)), .slice (ownA key69) (List.length ((leG 256 (ze o2.1) o1.2 o2.2).1)) c70, .slice none 0 0], i64 (wx68)]) rfl) ?_
  refine sq (r_extract (vs := #[.agg #[i64 ((256 : Nat)), .slice (ownA key69) (List.length ((leG 256 (ze o2.1) o1.2 o2.2).1)) c70, .slice none 0 0], i64 (wx68)]) rfl rfl) ?_
  refine sq (r_extract (vs := #[.agg #[i64 ((256 : Nat)), .slice (ownA key69) (List.length ((leG 256 (ze o2.1) o1.2 o2.2).1)) c70, .slice none 0 0], i64 (wx68)]) rfl rfl) ?_
  refine d_store (k := 3) (v := .agg #[i64 ((256 : Nat)), .slice (ownA key69) (List.length ((leG 256 (ze o2.1) o1.2 o2.2).1)) c70, .slice none 0 0]) (cs' := #[i64 ((256 : Nat)), .slice (ownA key69) (List.length ((leG 256 (ze o2.1) o1.2 o2.2).1)) c70, .slice none 0 0]) H74 rfl rfl rfl siz80 (by rfl) (by intro u hu; simp [Value.cells] at hu; first | (subst hu; rfl) | (rcases hu with rfl | rfl | rfl <;> rfl)) (by exact Nat.le_of_ble_eq_true rfl) (by rfl) ?_
  intro w75 H76 hC77
  have H76' := H76.as (L' := [(key69, sob EG 85 ((leG 256 (ze o2.1) o1.2 o2.2).1) sp71), (ko39, sob EI 3 o2.2 so41), (ko23, sob EI 3 o1.2 so25), (some b8, .cells #[i64 ((256 : Nat)), .slice (ownA key69) (List.length ((leG 256 (ze o2.1) o1.2 o2.2).1)) c70, .slice none 0 0] 80 (0, 0)), (some b1, .cells #[i64 ((0 : Int)), .slice none 0 0, .slice none 0 0] 80 (0, 0))]) rfl
  clear H76
  refine sq (r_assign (v := i64 (wx68)) rfl) ?_
  subst hwx68
  have hlg := leG_len 256 (ze o2.1) o1.2 o2.2
  have H78 := H76'.nil (sob EI 3 [] [])
  have H79 := H78.as (L' := [(none, sob EI 3 ([] : List Int) ([])), (key69, sob EG 85 ((leG 256 (ze o2.1) o1.2 o2.2).1) sp71), (ko39, sob EI 3 o2.2 so41), (ko23, sob EI 3 o1.2 so25), (some b8, .cells #[i64 ((256 : Nat)), .slice (ownA key69) (List.length ((leG 256 (ze o2.1) o1.2 o2.2).1)) c70, .slice (ownA none) 0 0] 80 (0, 0)), (some b1, .cells #[i64 ((0 : Int)), .slice none 0 0, .slice none 0 0] 80 (0, 0))]) rfl
  refine wend ?_
  refine seqAny ?_
  refine seqRegion ?_
  refine sq (r_move (v := i64 ((3 : Int))) rfl) ?_
  refine sq ((r_eqlI (a := (3 : Int)) (b := (2 : Int)) rfl rfl).as (v' := .bool (false)) (by rfl)) ?_
  refine wend ?_
  refine condFalse rfl ?_
  refine skipAny ?_
  refine thenNormal ?_
  refine seqAny ?_
  refine seqRegion ?_
  refine sq (r_assign (v := i64 ((0 : Int))) rfl) ?_
  refine wend ?_
  refine blockAny ?_
  refine loopAny (σ := Nat × Option Nat × Nat × List Value × Option Nat × Nat × List Value) (fun (i, ky, cy, sy, ku, cu, su) => [(4, .pointer (some ⟨b1, 0, none⟩)), (6, .pointer (some ⟨b8, 0, none⟩)), (7, .slice (ownA ko23) 64 co24), (8, .slice (ownA ko39) 64 co40), (13, i64 (((leG 256 (ze o2.1) o1.2 o2.2).2))), (15, i64 ((i : Nat)))]) (fun (i, ky, cy, sy, ku, cu, su) w' => (i ≤ 64 ∧ Sl EG ky (piS 256 (leG 256 (ze o2.1) o1.2 o2.2).1 (leG 256 (ze o2.1) o1.2 o2.2).2 o2.2 o1.2 i).1 cy sy ∧ Sl EI ku (piS 256 (leG 256 (ze o2.1) o1.2 o2.2).1 (leG 256 (ze o2.1) o1.2 o2.2).2 o2.2 o1.2 i).2 cu su) ∧ Hp No w w' [(ky, sob EG 85 ((piS 256 (leG 256 (ze o2.1) o1.2 o2.2).1 (leG 256 (ze o2.1) o1.2 o2.2).2 o2.2 o1.2 i).1) sy), (ku, sob EI 3 ((piS 256 (leG 256 (ze o2.1) o1.2 o2.2).1 (leG 256 (ze o2.1) o1.2 o2.2).2 o2.2 o1.2 i).2) su), (some b8, .cells #[i64 ((256 : Nat)), .slice (ownA ky) (List.length ((piS 256 (leG 256 (ze o2.1) o1.2 o2.2).1 (leG 256 (ze o2.1) o1.2 o2.2).2 o2.2 o1.2 i).1)) cy, .slice (ownA ku) i cu] 80 (0, 0)), (some b1, .cells #[i64 ((0 : Int)), .slice none 0 0, .slice none 0 0] 80 (0, 0)), (ko23, sob EI 3 o1.2 so25), (ko39, sob EI 3 o2.2 so41)]) (fun (i, ky, cy, sy, ku, cu, su) => 64 - i) ((0, key69, c70, sp71, none, 0, [])) ?_ ?_ ?_
  · exact ⟨rfl, rfl, rfl, rfl, rfl, rfl, trivial⟩
  · exact ⟨⟨by omega, hS72, Sl.none⟩, (H79.pick 6 [1, 0, 4, 5, 3, 2] (by decide) (by decide))⟩
  rintro ⟨i, ky, cy, sy, ku, cu, su⟩ ρ w80 ⟨⟨hq, hSy, hSu⟩, HL⟩
  have hpi := piS_len 256 (leG 256 (ze o2.1) o1.2 o2.2).1 (leG 256 (ze o2.1) o1.2 o2.2).2 o2.2 o1.2 i
  refine seqAny ?_
  refine seqRegion ?_
  refine sq (r_move (v := i64 ((i : Nat))) rfl) ?_
  refine sq (r_lssI (a := (i : Nat)) (b := (64 : Int)) rfl rfl) ?_
  refine wend ?_
  refine condProp (((i : Nat) : Int) < (64 : Int)) rfl (fun c111 => ?_) (fun c111 => ?_)
  · skip
    refine skipAny ?_
    refine thenNormal ?_
    refine seqAny ?_
    refine blockAny ?_
    refine seqRegion ?_
    refine sq (r_assign (v := i64 ((0 : Int))) rfl) ?_
    refine wend ?_
    refine seqAny ?_
    refine drawC (m := 15) [0, 0, 0, 6, 14, 0, 0, 96, 224, 511, 1023, 2047, 2047, 4095, 16383] [9, 13] (fun q vs w' => match q, vs with | 0, [] => Hp No w w' [(ky, sob EG 85 ((piS 256 (leG 256 (ze o2.1) o1.2 o2.2).1 (leG 256 (ze o2.1) o1.2 o2.2).2 o2.2 o1.2 i).1) sy), (ku, sob EI 3 ((piS 256 (leG 256 (ze o2.1) o1.2 o2.2).1 (leG 256 (ze o2.1) o1.2 o2.2).2 o2.2 o1.2 i).2) su), (some b8, .cells #[i64 ((256 : Nat)), .slice (ownA ky) (List.length ((piS 256 (leG 256 (ze o2.1) o1.2 o2.2).1 (leG 256 (ze o2.1) o1.2 o2.2).2 o2.2 o1.2 i).1)) cy, .slice (ownA ku) i cu] 80 (0, 0)), (some b1, .cells #[i64 ((0 : Int)), .slice none 0 0, .slice none 0 0] 80 (0, 0)), (ko23, sob EI 3 o1.2 so25), (ko39, sob EI 3 o2.2 so41)] | 1, [v0] => ∃ (wx88 : Int) (key89 : Option Nat) (c90 : Nat) (sp91 : List Value), v0 = .tuple #[.agg #[i64 ((256 : Nat)), .slice (ownA key89) (List.length (((piS 256 (leG 256 (ze o2.1) o1.2 o2.2).1 (leG 256 (ze o2.1) o1.2 o2.2).2 o2.2 o1.2 i).1) ++ [(⟨(1 : Int), (o2.2).getD i 0, (o1.2).getD i 0⟩ : Gt)])) c90, .slice (ownA ku) i cu], i64 (wx88)] ∧ Sl EG key89 (((piS 256 (leG 256 (ze o2.1) o1.2 o2.2).1 (leG 256 (ze o2.1) o1.2 o2.2).2 o2.2 o1.2 i).1) ++ [(⟨(1 : Int), (o2.2).getD i 0, (o1.2).getD i 0⟩ : Gt)]) c90 sp91 ∧ wx88 = wrW 256 ((piS 256 (leG 256 (ze o2.1) o1.2 o2.2).1 (leG 256 (ze o2.1) o1.2 o2.2).2 o2.2 o1.2 i).1) ∧ Hp No w w' [(key89, sob EG 85 (((piS 256 (leG 256 (ze o2.1) o1.2 o2.2).1 (leG 256 (ze o2.1) o1.2 o2.2).2 o2.2 o1.2 i).1) ++ [(⟨(1 : Int), (o2.2).getD i 0, (o1.2).getD i 0⟩ : Gt)]) sp91), (ku, sob EI 3 ((piS 256 (leG 256 (ze o2.1) o1.2 o2.2).1 (leG 256 (ze o2.1) o1.2 o2.2).2 o2.2 o1.2 i).2) su), (some b8, .cells #[i64 ((256 : Nat)), .slice (ownA ky) (List.length ((piS 256 (leG 256 (ze o2.1) o1.2 o2.2).1 (leG 256 (ze o2.1) o1.2 o2.2).2 o2.2 o1.2 i).1)) cy, .slice (ownA ku) i cu] 80 (0, 0)), (some b1, .cells #[i64 ((0 : Int)), .slice none 0 0, .slice none 0 0] 80 (0, 0)), (ko23, sob EI 3 o1.2 so25), (ko39, sob EI 3 o2.2 so41)] | 2, [v0, _] => ∃ (wx88 : Int) (key89 : Option Nat) (c90 : Nat) (sp91 : List Value), v0 = .tuple #[.agg #[i64 ((256 : Nat)), .slice (ownA key89) (List.length (((piS 256 (leG 256 (ze o2.1) o1.2 o2.2).1 (leG 256 (ze o2.1) o1.2 o2.2).2 o2.2 o1.2 i).1) ++ [(⟨(1 : Int), (o2.2).getD i 0, (o1.2).getD i 0⟩ : Gt)])) c90, .slice (ownA ku) i cu], i64 (wx88)] ∧ True ∧ Sl EG key89 (((piS 256 (leG 256 (ze o2.1) o1.2 o2.2).1 (leG 256 (ze o2.1) o1.2 o2.2).2 o2.2 o1.2 i).1) ++ [(⟨(1 : Int), (o2.2).getD i 0, (o1.2).getD i 0⟩ : Gt)]) c90 sp91 ∧ wx88 = wrW 256 ((piS 256 (leG 256 (ze o2.1) o1.2 o2.2).1 (leG 256 (ze o2.1) o1.2 o2.2).2 o2.2 o1.2 i).1) ∧ Hp No w w' [(key89, sob EG 85 (((piS 256 (leG 256 (ze o2.1) o1.2 o2.2).1 (leG 256 (ze o2.1) o1.2 o2.2).2 o2.2 o1.2 i).1) ++ [(⟨(1 : Int), (o2.2).getD i 0, (o1.2).getD i 0⟩ : Gt)]) sp91), (ku, sob EI 3 ((piS 256 (leG 256 (ze o2.1) o1.2 o2.2).1 (leG 256 (ze o2.1) o1.2 o2.2).2 o2.2 o1.2 i).2) su), (some b8, .cells #[i64 ((256 : Nat)), .slice (ownA key89) (List.length (((piS 256 (leG 256 (ze o2.1) o1.2 o2.2).1 (leG 256 (ze o2.1) o1.2 o2.2).2 o2.2 o1.2 i).1) ++ [(⟨(1 : Int), (o2.2).getD i 0, (o1.2).getD i 0⟩ : Gt)])) c90, .slice (ownA ku) i cu] 80 (0, 0)), (some b1, .cells #[i64 ((0 : Int)), .slice none 0 0, .slice none 0 0] 80 (0, 0)), (ko23, sob EI 3 o1.2 so25), (ko39, sob EI 3 o2.2 so41)] | _, _ => False) mixed (by kernel_rfl) (by kernel_rfl) HL.drew ?_
    refine WalkC.look rfl (fun _ => .agg #[i64 ((256 : Nat)), .slice (ownA ky) (List.length ((piS 256 (leG 256 (ze o2.1) o1.2 o2.2).1 (leG 256 (ze o2.1) o1.2 o2.2).2 o2.2 o1.2 i).1)) cy, .slice (ownA ku) i cu]) (fun _ _ _ => rfl) (fun q r uw hlo hhi hle hF => ?_) ?_
    · skip
      have h1 : 0 ≤ q := Nat.zero_le _
      have h2 : q ≤ 0 := hhi 0 9 rfl rfl
      rcases (show q = 0 by omega) with rfl
      · skip
        have HH := hF
        exact Gives.run rfl (r_loadA (cs' := #[i64 ((256 : Nat)), .slice (ownA ky) (List.length ((piS 256 (leG 256 (ze o2.1) o1.2 o2.2).1 (leG 256 (ze o2.1) o1.2 o2.2).2 o2.2 o1.2 i).1)) cy, .slice (ownA ku) i cu]) agg80 siz80 (HH.get (k := 2) rfl) (off := 0) rfl (by exact Nat.le_of_ble_eq_true rfl) (by rfl)) ⟨rfl, rfl⟩
    refine WalkC.look rfl (fun _ => .slice (ownA ko39) 64 co40) (fun _ _ _ => rfl) (fun q r uw _ _ _ _ => Gives.run rfl (r_move (v := .slice (ownA ko39) 64 co40) rfl) ⟨rfl, rfl⟩) ?_
    refine WalkC.look rfl (fun _ => i64 ((i : Nat))) (fun _ _ _ => rfl) (fun q r uw _ _ _ _ => Gives.run rfl (r_move (v := i64 ((i : Nat))) rfl) ⟨rfl, rfl⟩) ?_
    refine WalkC.look rfl (fun _ => .pointer (adr (ownA ko39) (i * 1))) (fun _ _ _ => rfl) (fun q r uw hlo hhi hle hF => ?_) ?_
    · skip
      have h1 : 0 ≤ q := Nat.zero_le _
      have h2 : q ≤ 0 := hhi 0 9 rfl rfl
      rcases (show q = 0 by omega) with rfl
      · skip
        have HH := hF
        exact Gives.run rfl (r_idxS (E := EI) (l := o2.2) (j := i) sli60 (HH.rd (k := 5) rfl hO43) rfl rfl (by first | rfl | omega | (simp; omega)) (by exact hlo2.2.symm) (by omega)) ⟨rfl, rfl⟩
    refine WalkC.look rfl (fun _ => i64 ((o2.2).getD i 0)) (fun _ _ _ => rfl) (fun q r uw hlo hhi hle hF => ?_) ?_
    · skip
      have h1 : 0 ≤ q := Nat.zero_le _
      have h2 : q ≤ 0 := hhi 0 9 rfl rfl
      rcases (show q = 0 by omega) with rfl
      · skip
        have HH := hF
        exact Gives.run rfl (r_ldS (E := EI) (l := o2.2) (j := i) (v := (o2.2).getD i 0) fits3 (HH.rd (k := 5) rfl hO43) rfl rfl (at_getD (by omega))) ⟨rfl, rfl⟩
    refine WalkC.look rfl (fun _ => .slice (ownA ko23) 64 co24) (fun _ _ _ => rfl) (fun q r uw _ _ _ _ => Gives.run rfl (r_move (v := .slice (ownA ko23) 64 co24) rfl) ⟨rfl, rfl⟩) ?_
    refine WalkC.look rfl (fun _ => i64 ((i : Nat))) (fun _ _ _ => rfl) (fun q r uw _ _ _ _ => Gives.run rfl (r_move (v := i64 ((i : Nat))) rfl) ⟨rfl, rfl⟩) ?_
    refine WalkC.look rfl (fun _ => .pointer (adr (ownA ko23) (i * 1))) (fun _ _ _ => rfl) (fun q r uw hlo hhi hle hF => ?_) ?_
    · skip
      have h1 : 0 ≤ q := Nat.zero_le _
      have h2 : q ≤ 0 := hhi 0 9 rfl rfl
      rcases (show q = 0 by omega) with rfl
      · skip
        have HH := hF
        exact Gives.run rfl (r_idxS (E := EI) (l := o1.2) (j := i) sli60 (HH.rd (k := 4) rfl hO27) rfl rfl (by first | rfl | omega | (simp; omega)) (by exact hlo1.2.symm) (by omega)) ⟨rfl, rfl⟩
    refine WalkC.look rfl (fun _ => i64 ((o1.2).getD i 0)) (fun _ _ _ => rfl) (fun q r uw hlo hhi hle hF => ?_) ?_
    · skip
      have h1 : 0 ≤ q := Nat.zero_le _
      have h2 : q ≤ 0 := hhi 0 9 rfl rfl
      rcases (show q = 0 by omega) with rfl
      · skip
        have HH := hF
        exact Gives.run rfl (r_ldS (E := EI) (l := o1.2) (j := i) (v := (o1.2).getD i 0) fits3 (HH.rd (k := 4) rfl hO27) rfl rfl (at_getD (by omega))) ⟨rfl, rfl⟩
    refine WalkC.eff 0 rfl (fun r uw82 hF84 => ?_) ?_
    · skip
      have H83 := hF84
      dsimp only [List.take, List.map, List.cons_append, List.nil_append]
      refine Gives.ofW (d := 124) rfl rfl (fun Q' hK => ?_)
      have H85 := (H83).as (L' := ((ky, sob EG 85 ((piS 256 (leG 256 (ze o2.1) o1.2 o2.2).1 (leG 256 (ze o2.1) o1.2 o2.2).2 o2.2 o1.2 i).1) sy) :: ([(ku, sob EI 3 ((piS 256 (leG 256 (ze o2.1) o1.2 o2.2).1 (leG 256 (ze o2.1) o1.2 o2.2).2 o2.2 o1.2 i).2) su), (some b8, .cells #[i64 ((256 : Nat)), .slice (ownA ky) (List.length ((piS 256 (leG 256 (ze o2.1) o1.2 o2.2).1 (leG 256 (ze o2.1) o1.2 o2.2).2 o2.2 o1.2 i).1)) cy, .slice (ownA ku) i cu] 80 (0, 0)), (some b1, .cells #[i64 ((0 : Int)), .slice none 0 0, .slice none 0 0] 80 (0, 0)), (ko23, sob EI 3 o1.2 so25), (ko39, sob EI 3 o2.2 so41)]))) rfl
      refine c_call (vs := [.agg #[i64 ((256 : Nat)), .slice (ownA ky) (List.length ((piS 256 (leG 256 (ze o2.1) o1.2 o2.2).1 (leG 256 (ze o2.1) o1.2 o2.2).2 o2.2 o1.2 i).1)) cy, .slice (ownA ku) i cu], i64 ((1 : Int)), i64 ((o2.2).getD i 0), i64 ((o1.2).getD i 0)]) call80 rfl (rput_ok 256 ky cy sy ((piS 256 (leG 256 (ze o2.1) o1.2 o2.2).1 (leG 256 (ze o2.1) o1.2 o2.2).2 o2.2 o1.2 i).1) hSy (by omega) (by omega) (ownA ku) i cu (1 : Int) ((o2.2).getD i 0) ((o1.2).getD i 0) ([(ku, sob EI 3 ((piS 256 (leG 256 (ze o2.1) o1.2 o2.2).1 (leG 256 (ze o2.1) o1.2 o2.2).2 o2.2 o1.2 i).2) su), (some b8, .cells #[i64 ((256 : Nat)), .slice (ownA ky) (List.length ((piS 256 (leG 256 (ze o2.1) o1.2 o2.2).1 (leG 256 (ze o2.1) o1.2 o2.2).2 o2.2 o1.2 i).1)) cy, .slice (ownA ku) i cu] 80 (0, 0)), (some b1, .cells #[i64 ((0 : Int)), .slice none 0 0, .slice none 0 0] 80 (0, 0)), (ko23, sob EI 3 o1.2 so25), (ko39, sob EI 3 o2.2 so41)]) w uw82 H85) ?_
      rintro _ w86 ⟨wx88, key89, c90, sp91, hwx88, rfl, hS92, HN93⟩
      have H94 := HN93.as (L' := [(key89, sob EG 85 (((piS 256 (leG 256 (ze o2.1) o1.2 o2.2).1 (leG 256 (ze o2.1) o1.2 o2.2).2 o2.2 o1.2 i).1) ++ [(⟨(1 : Int), (o2.2).getD i 0, (o1.2).getD i 0⟩ : Gt)]) sp91), (ku, sob EI 3 ((piS 256 (leG 256 (ze o2.1) o1.2 o2.2).1 (leG 256 (ze o2.1) o1.2 o2.2).2 o2.2 o1.2 i).2) su), (some b8, .cells #[i64 ((256 : Nat)), .slice (ownA ky) (List.length ((piS 256 (leG 256 (ze o2.1) o1.2 o2.2).1 (leG 256 (ze o2.1) o1.2 o2.2).2 o2.2 o1.2 i).1)) cy, .slice (ownA ku) i cu] 80 (0, 0)), (some b1, .cells #[i64 ((0 : Int)), .slice none 0 0, .slice none 0 0] 80 (0, 0)), (ko23, sob EI 3 o1.2 so25), (ko39, sob EI 3 o2.2 so41)]) rfl
      exact hK _ _ ⟨wx88, key89, c90, sp91, rfl, hS92, hwx88, H94⟩
    refine WalkC.look rfl (fun r => r 9) (fun r r' h => h 9 (by decide) rfl) (fun q r uw _ _ _ _ => Gives.run rfl (r_move rfl) ⟨rfl, rfl⟩) ?_
    refine WalkC.look rfl (fun r => proj (r 9) 0) (fun r r' h => by rw [h 9 (by decide) rfl]) (fun q r uw hlo hhi hle hF => ?_) ?_
    · skip
      have h1 : 1 ≤ q := hlo 0 9 rfl rfl
      have h2 : q ≤ 1 := hhi 1 13 rfl rfl
      rcases (show q = 1 by omega) with rfl
      · skip
        obtain ⟨wx88, key89, c90, sp91, e9, hS92, hwx88, HH⟩ := hF
        dsimp only
        rw [e9]
        exact Gives.run rfl (r_extract (vs := #[.agg #[i64 ((256 : Nat)), .slice (ownA key89) (List.length (((piS 256 (leG 256 (ze o2.1) o1.2 o2.2).1 (leG 256 (ze o2.1) o1.2 o2.2).2 o2.2 o1.2 i).1) ++ [(⟨(1 : Int), (o2.2).getD i 0, (o1.2).getD i 0⟩ : Gt)])) c90, .slice (ownA ku) i cu], i64 (wx88)]) rfl rfl) ⟨rfl, rfl⟩
    refine WalkC.look rfl (fun r => proj (r 9) 1) (fun r r' h => by rw [h 9 (by decide) rfl]) (fun q r uw hlo hhi hle hF => ?_) ?_
    · skip
      have h1 : 1 ≤ q := hlo 0 9 rfl rfl
      have h2 : q ≤ 2 := hle
      rcases (show q = 1 ∨ q = 2 by omega) with rfl | rfl
      · skip
        obtain ⟨wx88, key89, c90, sp91, e9, hS92, hwx88, HH⟩ := hF
        dsimp only
        rw [e9]
        exact Gives.run rfl (r_extract (vs := #[.agg #[i64 ((256 : Nat)), .slice (ownA key89) (List.length (((piS 256 (leG 256 (ze o2.1) o1.2 o2.2).1 (leG 256 (ze o2.1) o1.2 o2.2).2 o2.2 o1.2 i).1) ++ [(⟨(1 : Int), (o2.2).getD i 0, (o1.2).getD i 0⟩ : Gt)])) c90, .slice (ownA ku) i cu], i64 (wx88)]) rfl rfl) ⟨rfl, rfl⟩
      · skip
        obtain ⟨wx88, key89, c90, sp91, e9, e13, hS92, hwx88, HH⟩ := hF
        dsimp only
        rw [e9]
        exact Gives.run rfl (r_extract (vs := #[.agg #[i64 ((256 : Nat)), .slice (ownA key89) (List.length (((piS 256 (leG 256 (ze o2.1) o1.2 o2.2).1 (leG 256 (ze o2.1) o1.2 o2.2).2 o2.2 o1.2 i).1) ++ [(⟨(1 : Int), (o2.2).getD i 0, (o1.2).getD i 0⟩ : Gt)])) c90, .slice (ownA ku) i cu], i64 (wx88)]) rfl rfl) ⟨rfl, rfl⟩
    refine WalkC.eff 1 rfl (fun r uw95 hF97 => ?_) ?_
    · skip
      obtain ⟨wx88, key89, c90, sp91, e9, hS92, hwx88, H96⟩ := hF97
      dsimp only [List.take, List.map, List.cons_append, List.nil_append]
      rw [e9]
      refine Gives.ofW0 rfl (fun Q' hK => ?_)
      refine d_store (k := 2) (v := .agg #[i64 ((256 : Nat)), .slice (ownA key89) (List.length (((piS 256 (leG 256 (ze o2.1) o1.2 o2.2).1 (leG 256 (ze o2.1) o1.2 o2.2).2 o2.2 o1.2 i).1) ++ [(⟨(1 : Int), (o2.2).getD i 0, (o1.2).getD i 0⟩ : Gt)])) c90, .slice (ownA ku) i cu]) (cs' := #[i64 ((256 : Nat)), .slice (ownA key89) (List.length (((piS 256 (leG 256 (ze o2.1) o1.2 o2.2).1 (leG 256 (ze o2.1) o1.2 o2.2).2 o2.2 o1.2 i).1) ++ [(⟨(1 : Int), (o2.2).getD i 0, (o1.2).getD i 0⟩ : Gt)])) c90, .slice (ownA ku) i cu]) H96 rfl rfl rfl siz80 (by rfl) (by intro u hu; simp [Value.cells] at hu; first | (subst hu; rfl) | (rcases hu with rfl | rfl | rfl <;> rfl)) (by exact Nat.le_of_ble_eq_true rfl) (by rfl) ?_
      intro w98 H99 hC100
      have H99' := H99.as (L' := [(key89, sob EG 85 (((piS 256 (leG 256 (ze o2.1) o1.2 o2.2).1 (leG 256 (ze o2.1) o1.2 o2.2).2 o2.2 o1.2 i).1) ++ [(⟨(1 : Int), (o2.2).getD i 0, (o1.2).getD i 0⟩ : Gt)]) sp91), (ku, sob EI 3 ((piS 256 (leG 256 (ze o2.1) o1.2 o2.2).1 (leG 256 (ze o2.1) o1.2 o2.2).2 o2.2 o1.2 i).2) su), (some b8, .cells #[i64 ((256 : Nat)), .slice (ownA key89) (List.length (((piS 256 (leG 256 (ze o2.1) o1.2 o2.2).1 (leG 256 (ze o2.1) o1.2 o2.2).2 o2.2 o1.2 i).1) ++ [(⟨(1 : Int), (o2.2).getD i 0, (o1.2).getD i 0⟩ : Gt)])) c90, .slice (ownA ku) i cu] 80 (0, 0)), (some b1, .cells #[i64 ((0 : Int)), .slice none 0 0, .slice none 0 0] 80 (0, 0)), (ko23, sob EI 3 o1.2 so25), (ko39, sob EI 3 o2.2 so41)]) rfl
      clear H99
      exact hK _ (fun _ => ⟨wx88, key89, c90, sp91, rfl, trivial, hS92, hwx88, H99'⟩)
    refine WalkC.look rfl (fun r => proj (r 9) 1) (fun r r' h => by rw [h 9 (by decide) rfl]) (fun q r uw _ _ _ _ => Gives.run rfl (r_assign rfl) ⟨rfl, rfl⟩) ?_
    refine WalkC.nil ?_
    intro r101 w102 hF104
    obtain ⟨wx88, key89, c90, sp91, e9, e13, hS92, hwx88, H103⟩ := hF104
    dsimp only
    rw [e9]
    subst hwx88
    refine wnil ?_
    refine thenNormal ?_
    refine seqRegion ?_
    refine sq (r_loadA (cs' := #[i64 ((256 : Nat)), .slice (ownA key89) (List.length (((piS 256 (leG 256 (ze o2.1) o1.2 o2.2).1 (leG 256 (ze o2.1) o1.2 o2.2).2 o2.2 o1.2 i).1) ++ [(⟨(1 : Int), (o2.2).getD i 0, (o1.2).getD i 0⟩ : Gt)])) c90, .slice (ownA ku) i cu]) agg80 siz80 (H103.get (k := 2) rfl) (off := 0) rfl (by exact Nat.le_of_ble_eq_true rfl) (by rfl)) ?_
    refine sq (r_move (v := i64 (((leG 256 (ze o2.1) o1.2 o2.2).2))) rfl) ?_
    refine sq (r_move (v := i64 ((wrW 256 ((piS 256 (leG 256 (ze o2.1) o1.2 o2.2).1 (leG 256 (ze o2.1) o1.2 o2.2).2 o2.2 o1.2 i).1)))) rfl) ?_
    have H105 := (H103).as (L' := ((key89, sob EG 85 (((piS 256 (leG 256 (ze o2.1) o1.2 o2.2).1 (leG 256 (ze o2.1) o1.2 o2.2).2 o2.2 o1.2 i).1) ++ [(⟨(1 : Int), (o2.2).getD i 0, (o1.2).getD i 0⟩ : Gt)]) sp91) :: ([(ku, sob EI 3 ((piS 256 (leG 256 (ze o2.1) o1.2 o2.2).1 (leG 256 (ze o2.1) o1.2 o2.2).2 o2.2 o1.2 i).2) su), (some b8, .cells #[i64 ((256 : Nat)), .slice (ownA key89) (List.length (((piS 256 (leG 256 (ze o2.1) o1.2 o2.2).1 (leG 256 (ze o2.1) o1.2 o2.2).2 o2.2 o1.2 i).1) ++ [(⟨(1 : Int), (o2.2).getD i 0, (o1.2).getD i 0⟩ : Gt)])) c90, .slice (ownA ku) i cu] 80 (0, 0)), (some b1, .cells #[i64 ((0 : Int)), .slice none 0 0, .slice none 0 0] 80 (0, 0)), (ko23, sob EI 3 o1.2 so25), (ko39, sob EI 3 o2.2 so41)]))) rfl
    refine c_call (vs := [.agg #[i64 ((256 : Nat)), .slice (ownA key89) (List.length (((piS 256 (leG 256 (ze o2.1) o1.2 o2.2).1 (leG 256 (ze o2.1) o1.2 o2.2).2 o2.2 o1.2 i).1) ++ [(⟨(1 : Int), (o2.2).getD i 0, (o1.2).getD i 0⟩ : Gt)])) c90, .slice (ownA ku) i cu], i64 ((2 : Int)), i64 (((leG 256 (ze o2.1) o1.2 o2.2).2)), i64 ((wrW 256 ((piS 256 (leG 256 (ze o2.1) o1.2 o2.2).1 (leG 256 (ze o2.1) o1.2 o2.2).2 o2.2 o1.2 i).1)))]) call80 rfl (rput_ok 256 key89 c90 sp91 (((piS 256 (leG 256 (ze o2.1) o1.2 o2.2).1 (leG 256 (ze o2.1) o1.2 o2.2).2 o2.2 o1.2 i).1) ++ [(⟨(1 : Int), (o2.2).getD i 0, (o1.2).getD i 0⟩ : Gt)]) hS92 (by omega) (by simp only [List.length_append, List.length_cons, List.length_nil]; omega) (ownA ku) i cu (2 : Int) ((leG 256 (ze o2.1) o1.2 o2.2).2) (wrW 256 ((piS 256 (leG 256 (ze o2.1) o1.2 o2.2).1 (leG 256 (ze o2.1) o1.2 o2.2).2 o2.2 o1.2 i).1)) ([(ku, sob EI 3 ((piS 256 (leG 256 (ze o2.1) o1.2 o2.2).1 (leG 256 (ze o2.1) o1.2 o2.2).2 o2.2 o1.2 i).2) su), (some b8, .cells #[i64 ((256 : Nat)), .slice (ownA key89) (List.length (((piS 256 (leG 256 (ze o2.1) o1.2 o2.2).1 (leG 256 (ze o2.1) o1.2 o2.2).2 o2.2 o1.2 i).1) ++ [(⟨(1 : Int), (o2.2).getD i 0, (o1.2).getD i 0⟩ : Gt)])) c90, .slice (ownA ku) i cu] 80 (0, 0)), (some b1, .cells #[i64 ((0 : Int)), .slice none 0 0, .slice none 0 0] 80 (0, 0)), (ko23, sob EI 3 o1.2 so25), (ko39, sob EI 3 o2.2 so41)]) w w102 H105) ?_
    rintro _ w106 ⟨wx108, key109, c110, sp111, hwx108, rfl, hS112, HN113⟩
    have H114 := HN113.as (L' := [(key109, sob EG 85 (((piS 256 (leG 256 (ze o2.1) o1.2 o2.2).1 (leG 256 (ze o2.1) o1.2 o2.2).2 o2.2 o1.2 i).1) ++ [(⟨(1 : Int), (o2.2).getD i 0, (o1.2).getD i 0⟩ : Gt)] ++ [(⟨(2 : Int), ((leG 256 (ze o2.1) o1.2 o2.2).2), (wrW 256 ((piS 256 (leG 256 (ze o2.1) o1.2 o2.2).1 (leG 256 (ze o2.1) o1.2 o2.2).2 o2.2 o1.2 i).1))⟩ : Gt)]) sp111), (ku, sob EI 3 ((piS 256 (leG 256 (ze o2.1) o1.2 o2.2).1 (leG 256 (ze o2.1) o1.2 o2.2).2 o2.2 o1.2 i).2) su), (some b8, .cells #[i64 ((256 : Nat)), .slice (ownA key89) (List.length (((piS 256 (leG 256 (ze o2.1) o1.2 o2.2).1 (leG 256 (ze o2.1) o1.2 o2.2).2 o2.2 o1.2 i).1) ++ [(⟨(1 : Int), (o2.2).getD i 0, (o1.2).getD i 0⟩ : Gt)])) c90, .slice (ownA ku) i cu] 80 (0, 0)), (some b1, .cells #[i64 ((0 : Int)), .slice none 0 0, .slice none 0 0] 80 (0, 0)), (ko23, sob EI 3 o1.2 so25), (ko39, sob EI 3 o2.2 so41)]) rfl
    refine sq (r_move (v := .tuple #[.agg #[i64 ((256 : Nat)), .slice (ownA key109) (List.length (((piS 256 (leG 256 (ze o2.1) o1.2 o2.2).1 (leG 256 (ze o2.1) o1.2 o2.2).2 o2.2 o1.2 i).1) ++ [(⟨(1 : Int), (o2.2).getD i 0, (o1.2).getD i 0⟩ : Gt)] ++ [(⟨(2 : Int), ((leG 256 (ze o2.1) o1.2 o2.2).2), (wrW 256 ((piS 256 (leG 256 (ze o2.1) o1.2 o2.2).1 (leG 256 (ze o2.1) o1.2 o2.2).2 o2.2 o1.2 i).1))⟩ : Gt)])) c110, .slice (ownA ku) i cu], i64 (wx108)]) rfl) ?_
    refine sq (r_extract (vs := #[.agg #[i64 ((256 : Nat)), .slice (ownA key109) (List.length (((piS 256 (leG 256 (ze o2.1) o1.2 o2.2).1 (leG 256 (ze o2.1) o1.2 o2.2).2 o2.2 o1.2 i).1) ++ [(⟨(1 : Int), (o2.2).getD i 0, (o1.2).getD i 0⟩ : Gt)] ++ [(⟨(2 : Int), ((leG 256 (ze o2.1) o1.2 o2.2).2), (wrW 256 ((piS 256 (leG 256 (ze o2.1) o1.2 o2.2).1 (leG 256 (ze o2.1) o1.2 o2.2).2 o2.2 o1.2 i).1))⟩ : Gt)])) c110, .slice (ownA ku) i cu], i64 (wx108)]) rfl rfl) ?_
    refine sq (r_extract (vs := #[.agg #[i64 ((256 : Nat)), .slice (ownA key109) (List.length (((piS 256 (leG 256 (ze o2.1) o1.2 o2.2).1 (leG 256 (ze o2.1) o1.2 o2.2).2 o2.2 o1.2 i).1) ++ [(⟨(1 : Int), (o2.2).getD i 0, (o1.2).getD i 0⟩ : Gt)] ++ [(⟨(2 : Int), ((leG 256 (ze o2.1) o1.2 o2.2).2), (wrW 256 ((piS 256 (leG 256 (ze o2.1) o1.2 o2.2).1 (leG 256 (ze o2.1) o1.2 o2.2).2 o2.2 o1.2 i).1))⟩ : Gt)])) c110, .slice (ownA ku) i cu], i64 (wx108)]) rfl rfl) ?_
    refine d_store (k := 2) (v := .agg #[i64 ((256 : Nat)), .slice (ownA key109) (List.length (((piS 256 (leG 256 (ze o2.1) o1.2 o2.2).1 (leG 256 (ze o2.1) o1.2 o2.2).2 o2.2 o1.2 i).1) ++ [(⟨(1 : Int), (o2.2).getD i 0, (o1.2).getD i 0⟩ : Gt)] ++ [(⟨(2 : Int), ((leG 256 (ze o2.1) o1.2 o2.2).2), (wrW 256 ((piS 256 (leG 256 (ze o2.1) o1.2 o2.2).1 (leG 256 (ze o2.1) o1.2 o2.2).2 o2.2 o1.2 i).1))⟩ : Gt)])) c110, .slice (ownA ku) i cu]) (cs' := #[i64 ((256 : Nat)), .slice (ownA key109) (List.length (((piS 256 (leG 256 (ze o2.1) o1.2 o2.2).1 (leG 256 (ze o2.1) o1.2 o2.2).2 o2.2 o1.2 i).1) ++ [(⟨(1 : Int), (o2.2).getD i 0, (o1.2).getD i 0⟩ : Gt)] ++ [(⟨(2 : Int), ((leG 256 (ze o2.1) o1.2 o2.2).2), (wrW 256 ((piS 256 (leG 256 (ze o2.1) o1.2 o2.2).1 (leG 256 (ze o2.1) o1.2 o2.2).2 o2.2 o1.2 i).1))⟩ : Gt)])) c110, .slice (ownA ku) i cu]) H114 rfl rfl rfl siz80 (by rfl) (by intro u hu; simp [Value.cells] at hu; first | (subst hu; rfl) | (rcases hu with rfl | rfl | rfl <;> rfl)) (by exact Nat.le_of_ble_eq_true rfl) (by rfl) ?_
    intro w115 H116 hC117
    have H116' := H116.as (L' := [(key109, sob EG 85 (((piS 256 (leG 256 (ze o2.1) o1.2 o2.2).1 (leG 256 (ze o2.1) o1.2 o2.2).2 o2.2 o1.2 i).1) ++ [(⟨(1 : Int), (o2.2).getD i 0, (o1.2).getD i 0⟩ : Gt)] ++ [(⟨(2 : Int), ((leG 256 (ze o2.1) o1.2 o2.2).2), (wrW 256 ((piS 256 (leG 256 (ze o2.1) o1.2 o2.2).1 (leG 256 (ze o2.1) o1.2 o2.2).2 o2.2 o1.2 i).1))⟩ : Gt)]) sp111), (ku, sob EI 3 ((piS 256 (leG 256 (ze o2.1) o1.2 o2.2).1 (leG 256 (ze o2.1) o1.2 o2.2).2 o2.2 o1.2 i).2) su), (some b8, .cells #[i64 ((256 : Nat)), .slice (ownA key109) (List.length (((piS 256 (leG 256 (ze o2.1) o1.2 o2.2).1 (leG 256 (ze o2.1) o1.2 o2.2).2 o2.2 o1.2 i).1) ++ [(⟨(1 : Int), (o2.2).getD i 0, (o1.2).getD i 0⟩ : Gt)] ++ [(⟨(2 : Int), ((leG 256 (ze o2.1) o1.2 o2.2).2), (wrW 256 ((piS 256 (leG 256 (ze o2.1) o1.2 o2.2).1 (leG 256 (ze o2.1) o1.2 o2.2).2 o2.2 o1.2 i).1))⟩ : Gt)])) c110, .slice (ownA ku) i cu] 80 (0, 0)), (some b1, .cells #[i64 ((0 : Int)), .slice none 0 0, .slice none 0 0] 80 (0, 0)), (ko23, sob EI 3 o1.2 so25), (ko39, sob EI 3 o2.2 so41)]) rfl
    clear H116
    refine sq (r_assign (v := i64 (wx108)) rfl) ?_
    subst hwx108
    refine wend ?_
    refine seqAny ?_
    refine drawC (m := 12) [0, 0, 0, 6, 14, 0, 63, 127, 255, 255, 511, 2047] [6, 10] (fun q vs w' => match q, vs with | 0, [] => Hp No w w' [(key109, sob EG 85 (((piS 256 (leG 256 (ze o2.1) o1.2 o2.2).1 (leG 256 (ze o2.1) o1.2 o2.2).2 o2.2 o1.2 i).1) ++ [(⟨(1 : Int), (o2.2).getD i 0, (o1.2).getD i 0⟩ : Gt)] ++ [(⟨(2 : Int), ((leG 256 (ze o2.1) o1.2 o2.2).2), (wrW 256 ((piS 256 (leG 256 (ze o2.1) o1.2 o2.2).1 (leG 256 (ze o2.1) o1.2 o2.2).2 o2.2 o1.2 i).1))⟩ : Gt)]) sp111), (ku, sob EI 3 ((piS 256 (leG 256 (ze o2.1) o1.2 o2.2).1 (leG 256 (ze o2.1) o1.2 o2.2).2 o2.2 o1.2 i).2) su), (some b8, .cells #[i64 ((256 : Nat)), .slice (ownA key109) (List.length (((piS 256 (leG 256 (ze o2.1) o1.2 o2.2).1 (leG 256 (ze o2.1) o1.2 o2.2).2 o2.2 o1.2 i).1) ++ [(⟨(1 : Int), (o2.2).getD i 0, (o1.2).getD i 0⟩ : Gt)] ++ [(⟨(2 : Int), ((leG 256 (ze o2.1) o1.2 o2.2).2), (wrW 256 ((piS 256 (leG 256 (ze o2.1) o1.2 o2.2).1 (leG 256 (ze o2.1) o1.2 o2.2).2 o2.2 o1.2 i).1))⟩ : Gt)])) c110, .slice (ownA ku) i cu] 80 (0, 0)), (some b1, .cells #[i64 ((0 : Int)), .slice none 0 0, .slice none 0 0] 80 (0, 0)), (ko23, sob EI 3 o1.2 so25), (ko39, sob EI 3 o2.2 so41)] | 1, [v0] => ∃ (wx124 : Int) (key125 : Option Nat) (c126 : Nat) (sp127 : List Value), v0 = .tuple #[.agg #[i64 ((256 : Nat)), .slice (ownA key125) (List.length (((piS 256 (leG 256 (ze o2.1) o1.2 o2.2).1 (leG 256 (ze o2.1) o1.2 o2.2).2 o2.2 o1.2 i).1) ++ [(⟨(1 : Int), (o2.2).getD i 0, (o1.2).getD i 0⟩ : Gt)] ++ [(⟨(2 : Int), ((leG 256 (ze o2.1) o1.2 o2.2).2), (wrW 256 ((piS 256 (leG 256 (ze o2.1) o1.2 o2.2).1 (leG 256 (ze o2.1) o1.2 o2.2).2 o2.2 o1.2 i).1))⟩ : Gt)] ++ [(⟨(1 : Int), (o1.2).getD i 0, (wrW 256 (((piS 256 (leG 256 (ze o2.1) o1.2 o2.2).1 (leG 256 (ze o2.1) o1.2 o2.2).2 o2.2 o1.2 i).1) ++ [(⟨(1 : Int), (o2.2).getD i 0, (o1.2).getD i 0⟩ : Gt)]))⟩ : Gt)])) c126, .slice (ownA ku) i cu], i64 (wx124)] ∧ Sl EG key125 (((piS 256 (leG 256 (ze o2.1) o1.2 o2.2).1 (leG 256 (ze o2.1) o1.2 o2.2).2 o2.2 o1.2 i).1) ++ [(⟨(1 : Int), (o2.2).getD i 0, (o1.2).getD i 0⟩ : Gt)] ++ [(⟨(2 : Int), ((leG 256 (ze o2.1) o1.2 o2.2).2), (wrW 256 ((piS 256 (leG 256 (ze o2.1) o1.2 o2.2).1 (leG 256 (ze o2.1) o1.2 o2.2).2 o2.2 o1.2 i).1))⟩ : Gt)] ++ [(⟨(1 : Int), (o1.2).getD i 0, (wrW 256 (((piS 256 (leG 256 (ze o2.1) o1.2 o2.2).1 (leG 256 (ze o2.1) o1.2 o2.2).2 o2.2 o1.2 i).1) ++ [(⟨(1 : Int), (o2.2).getD i 0, (o1.2).getD i 0⟩ : Gt)]))⟩ : Gt)]) c126 sp127 ∧ wx124 = wrW 256 (((piS 256 (leG 256 (ze o2.1) o1.2 o2.2).1 (leG 256 (ze o2.1) o1.2 o2.2).2 o2.2 o1.2 i).1) ++ [(⟨(1 : Int), (o2.2).getD i 0, (o1.2).getD i 0⟩ : Gt)] ++ [(⟨(2 : Int), ((leG 256 (ze o2.1) o1.2 o2.2).2), (wrW 256 ((piS 256 (leG 256 (ze o2.1) o1.2 o2.2).1 (leG 256 (ze o2.1) o1.2 o2.2).2 o2.2 o1.2 i).1))⟩ : Gt)]) ∧ Hp No w w' [(key125, sob EG 85 (((piS 256 (leG 256 (ze o2.1) o1.2 o2.2).1 (leG 256 (ze o2.1) o1.2 o2.2).2 o2.2 o1.2 i).1) ++ [(⟨(1 : Int), (o2.2).getD i 0, (o1.2).getD i 0⟩ : Gt)] ++ [(⟨(2 : Int), ((leG 256 (ze o2.1) o1.2 o2.2).2), (wrW 256 ((piS 256 (leG 256 (ze o2.1) o1.2 o2.2).1 (leG 256 (ze o2.1) o1.2 o2.2).2 o2.2 o1.2 i).1))⟩ : Gt)] ++ [(⟨(1 : Int), (o1.2).getD i 0, (wrW 256 (((piS 256 (leG 256 (ze o2.1) o1.2 o2.2).1 (leG 256 (ze o2.1) o1.2 o2.2).2 o2.2 o1.2 i).1) ++ [(⟨(1 : Int), (o2.2).getD i 0, (o1.2).getD i 0⟩ : Gt)]))⟩ : Gt)]) sp127), (ku, sob EI 3 ((piS 256 (leG 256 (ze o2.1) o1.2 o2.2).1 (leG 256 (ze o2.1) o1.2 o2.2).2 o2.2 o1.2 i).2) su), (some b8, .cells #[i64 ((256 : Nat)), .slice (ownA key109) (List.length (((piS 256 (leG 256 (ze o2.1) o1.2 o2.2).1 (leG 256 (ze o2.1) o1.2 o2.2).2 o2.2 o1.2 i).1) ++ [(⟨(1 : Int), (o2.2).getD i 0, (o1.2).getD i 0⟩ : Gt)] ++ [(⟨(2 : Int), ((leG 256 (ze o2.1) o1.2 o2.2).2), (wrW 256 ((piS 256 (leG 256 (ze o2.1) o1.2 o2.2).1 (leG 256 (ze o2.1) o1.2 o2.2).2 o2.2 o1.2 i).1))⟩ : Gt)])) c110, .slice (ownA ku) i cu] 80 (0, 0)), (some b1, .cells #[i64 ((0 : Int)), .slice none 0 0, .slice none 0 0] 80 (0, 0)), (ko23, sob EI 3 o1.2 so25), (ko39, sob EI 3 o2.2 so41)] | 2, [v0, _] => ∃ (wx124 : Int) (key125 : Option Nat) (c126 : Nat) (sp127 : List Value), v0 = .tuple #[.agg #[i64 ((256 : Nat)), .slice (ownA key125) (List.length (((piS 256 (leG 256 (ze o2.1) o1.2 o2.2).1 (leG 256 (ze o2.1) o1.2 o2.2).2 o2.2 o1.2 i).1) ++ [(⟨(1 : Int), (o2.2).getD i 0, (o1.2).getD i 0⟩ : Gt)] ++ [(⟨(2 : Int), ((leG 256 (ze o2.1) o1.2 o2.2).2), (wrW 256 ((piS 256 (leG 256 (ze o2.1) o1.2 o2.2).1 (leG 256 (ze o2.1) o1.2 o2.2).2 o2.2 o1.2 i).1))⟩ : Gt)] ++ [(⟨(1 : Int), (o1.2).getD i 0, (wrW 256 (((piS 256 (leG 256 (ze o2.1) o1.2 o2.2).1 (leG 256 (ze o2.1) o1.2 o2.2).2 o2.2 o1.2 i).1) ++ [(⟨(1 : Int), (o2.2).getD i 0, (o1.2).getD i 0⟩ : Gt)]))⟩ : Gt)])) c126, .slice (ownA ku) i cu], i64 (wx124)] ∧ True ∧ Sl EG key125 (((piS 256 (leG 256 (ze o2.1) o1.2 o2.2).1 (leG 256 (ze o2.1) o1.2 o2.2).2 o2.2 o1.2 i).1) ++ [(⟨(1 : Int), (o2.2).getD i 0, (o1.2).getD i 0⟩ : Gt)] ++ [(⟨(2 : Int), ((leG 256 (ze o2.1) o1.2 o2.2).2), (wrW 256 ((piS 256 (leG 256 (ze o2.1) o1.2 o2.2).1 (leG 256 (ze o2.1) o1.2 o2.2).2 o2.2 o1.2 i).1))⟩ : Gt)] ++ [(⟨(1 : Int), (o1.2).getD i 0, (wrW 256 (((piS 256 (leG 256 (ze o2.1) o1.2 o2.2).1 (leG 256 (ze o2.1) o1.2 o2.2).2 o2.2 o1.2 i).1) ++ [(⟨(1 : Int), (o2.2).getD i 0, (o1.2).getD i 0⟩ : Gt)]))⟩ : Gt)]) c126 sp127 ∧ wx124 = wrW 256 (((piS 256 (leG 256 (ze o2.1) o1.2 o2.2).1 (leG 256 (ze o2.1) o1.2 o2.2).2 o2.2 o1.2 i).1) ++ [(⟨(1 : Int), (o2.2).getD i 0, (o1.2).getD i 0⟩ : Gt)] ++ [(⟨(2 : Int), ((leG 256 (ze o2.1) o1.2 o2.2).2), (wrW 256 ((piS 256 (leG 256 (ze o2.1) o1.2 o2.2).1 (leG 256 (ze o2.1) o1.2 o2.2).2 o2.2 o1.2 i).1))⟩ : Gt)]) ∧ Hp No w w' [(key125, sob EG 85 (((piS 256 (leG 256 (ze o2.1) o1.2 o2.2).1 (leG 256 (ze o2.1) o1.2 o2.2).2 o2.2 o1.2 i).1) ++ [(⟨(1 : Int), (o2.2).getD i 0, (o1.2).getD i 0⟩ : Gt)] ++ [(⟨(2 : Int), ((leG 256 (ze o2.1) o1.2 o2.2).2), (wrW 256 ((piS 256 (leG 256 (ze o2.1) o1.2 o2.2).1 (leG 256 (ze o2.1) o1.2 o2.2).2 o2.2 o1.2 i).1))⟩ : Gt)] ++ [(⟨(1 : Int), (o1.2).getD i 0, (wrW 256 (((piS 256 (leG 256 (ze o2.1) o1.2 o2.2).1 (leG 256 (ze o2.1) o1.2 o2.2).2 o2.2 o1.2 i).1) ++ [(⟨(1 : Int), (o2.2).getD i 0, (o1.2).getD i 0⟩ : Gt)]))⟩ : Gt)]) sp127), (ku, sob EI 3 ((piS 256 (leG 256 (ze o2.1) o1.2 o2.2).1 (leG 256 (ze o2.1) o1.2 o2.2).2 o2.2 o1.2 i).2) su), (some b8, .cells #[i64 ((256 : Nat)), .slice (ownA key125) (List.length (((piS 256 (leG 256 (ze o2.1) o1.2 o2.2).1 (leG 256 (ze o2.1) o1.2 o2.2).2 o2.2 o1.2 i).1) ++ [(⟨(1 : Int), (o2.2).getD i 0, (o1.2).getD i 0⟩ : Gt)] ++ [(⟨(2 : Int), ((leG 256 (ze o2.1) o1.2 o2.2).2), (wrW 256 ((piS 256 (leG 256 (ze o2.1) o1.2 o2.2).1 (leG 256 (ze o2.1) o1.2 o2.2).2 o2.2 o1.2 i).1))⟩ : Gt)] ++ [(⟨(1 : Int), (o1.2).getD i 0, (wrW 256 (((piS 256 (leG 256 (ze o2.1) o1.2 o2.2).1 (leG 256 (ze o2.1) o1.2 o2.2).2 o2.2 o1.2 i).1) ++ [(⟨(1 : Int), (o2.2).getD i 0, (o1.2).getD i 0⟩ : Gt)]))⟩ : Gt)])) c126, .slice (ownA ku) i cu] 80 (0, 0)), (some b1, .cells #[i64 ((0 : Int)), .slice none 0 0, .slice none 0 0] 80 (0, 0)), (ko23, sob EI 3 o1.2 so25), (ko39, sob EI 3 o2.2 so41)] | _, _ => False) mixed (by kernel_rfl) (by kernel_rfl) H116'.drew ?_
    refine WalkC.look rfl (fun _ => .agg #[i64 ((256 : Nat)), .slice (ownA key109) (List.length (((piS 256 (leG 256 (ze o2.1) o1.2 o2.2).1 (leG 256 (ze o2.1) o1.2 o2.2).2 o2.2 o1.2 i).1) ++ [(⟨(1 : Int), (o2.2).getD i 0, (o1.2).getD i 0⟩ : Gt)] ++ [(⟨(2 : Int), ((leG 256 (ze o2.1) o1.2 o2.2).2), (wrW 256 ((piS 256 (leG 256 (ze o2.1) o1.2 o2.2).1 (leG 256 (ze o2.1) o1.2 o2.2).2 o2.2 o1.2 i).1))⟩ : Gt)])) c110, .slice (ownA ku) i cu]) (fun _ _ _ => rfl) (fun q r uw hlo hhi hle hF => ?_) ?_
    · skip
      have h1 : 0 ≤ q := Nat.zero_le _
      have h2 : q ≤ 0 := hhi 0 6 rfl rfl
      rcases (show q = 0 by omega) with rfl
      · skip
        have HH := hF
        exact Gives.run rfl (r_loadA (cs' := #[i64 ((256 : Nat)), .slice (ownA key109) (List.length (((piS 256 (leG 256 (ze o2.1) o1.2 o2.2).1 (leG 256 (ze o2.1) o1.2 o2.2).2 o2.2 o1.2 i).1) ++ [(⟨(1 : Int), (o2.2).getD i 0, (o1.2).getD i 0⟩ : Gt)] ++ [(⟨(2 : Int), ((leG 256 (ze o2.1) o1.2 o2.2).2), (wrW 256 ((piS 256 (leG 256 (ze o2.1) o1.2 o2.2).1 (leG 256 (ze o2.1) o1.2 o2.2).2 o2.2 o1.2 i).1))⟩ : Gt)])) c110, .slice (ownA ku) i cu]) agg80 siz80 (HH.get (k := 2) rfl) (off := 0) rfl (by exact Nat.le_of_ble_eq_true rfl) (by rfl)) ⟨rfl, rfl⟩
    refine WalkC.look rfl (fun _ => .slice (ownA ko23) 64 co24) (fun _ _ _ => rfl) (fun q r uw _ _ _ _ => Gives.run rfl (r_move (v := .slice (ownA ko23) 64 co24) rfl) ⟨rfl, rfl⟩) ?_
    refine WalkC.look rfl (fun _ => i64 ((i : Nat))) (fun _ _ _ => rfl) (fun q r uw _ _ _ _ => Gives.run rfl (r_move (v := i64 ((i : Nat))) rfl) ⟨rfl, rfl⟩) ?_
    refine WalkC.look rfl (fun _ => .pointer (adr (ownA ko23) (i * 1))) (fun _ _ _ => rfl) (fun q r uw hlo hhi hle hF => ?_) ?_
    · skip
      have h1 : 0 ≤ q := Nat.zero_le _
      have h2 : q ≤ 0 := hhi 0 6 rfl rfl
      rcases (show q = 0 by omega) with rfl
      · skip
        have HH := hF
        exact Gives.run rfl (r_idxS (E := EI) (l := o1.2) (j := i) sli60 (HH.rd (k := 4) rfl hO27) rfl rfl (by first | rfl | omega | (simp; omega)) (by exact hlo1.2.symm) (by omega)) ⟨rfl, rfl⟩
    refine WalkC.look rfl (fun _ => i64 ((o1.2).getD i 0)) (fun _ _ _ => rfl) (fun q r uw hlo hhi hle hF => ?_) ?_
    · skip
      have h1 : 0 ≤ q := Nat.zero_le _
      have h2 : q ≤ 0 := hhi 0 6 rfl rfl
      rcases (show q = 0 by omega) with rfl
      · skip
        have HH := hF
        exact Gives.run rfl (r_ldS (E := EI) (l := o1.2) (j := i) (v := (o1.2).getD i 0) fits3 (HH.rd (k := 4) rfl hO27) rfl rfl (at_getD (by omega))) ⟨rfl, rfl⟩
    refine WalkC.look rfl (fun _ => i64 ((wrW 256 (((piS 256 (leG 256 (ze o2.1) o1.2 o2.2).1 (leG 256 (ze o2.1) o1.2 o2.2).2 o2.2 o1.2 i).1) ++ [(⟨(1 : Int), (o2.2).getD i 0, (o1.2).getD i 0⟩ : Gt)])))) (fun _ _ _ => rfl) (fun q r uw _ _ _ _ => Gives.run rfl (r_move (v := i64 ((wrW 256 (((piS 256 (leG 256 (ze o2.1) o1.2 o2.2).1 (leG 256 (ze o2.1) o1.2 o2.2).2 o2.2 o1.2 i).1) ++ [(⟨(1 : Int), (o2.2).getD i 0, (o1.2).getD i 0⟩ : Gt)])))) rfl) ⟨rfl, rfl⟩) ?_
    refine WalkC.eff 0 rfl (fun r uw118 hF120 => ?_) ?_
    · skip
      have H119 := hF120
      dsimp only [List.take, List.map, List.cons_append, List.nil_append]
      refine Gives.ofW (d := 141) rfl rfl (fun Q' hK => ?_)
      have H121 := (H119).as (L' := ((key109, sob EG 85 (((piS 256 (leG 256 (ze o2.1) o1.2 o2.2).1 (leG 256 (ze o2.1) o1.2 o2.2).2 o2.2 o1.2 i).1) ++ [(⟨(1 : Int), (o2.2).getD i 0, (o1.2).getD i 0⟩ : Gt)] ++ [(⟨(2 : Int), ((leG 256 (ze o2.1) o1.2 o2.2).2), (wrW 256 ((piS 256 (leG 256 (ze o2.1) o1.2 o2.2).1 (leG 256 (ze o2.1) o1.2 o2.2).2 o2.2 o1.2 i).1))⟩ : Gt)]) sp111) :: ([(ku, sob EI 3 ((piS 256 (leG 256 (ze o2.1) o1.2 o2.2).1 (leG 256 (ze o2.1) o1.2 o2.2).2 o2.2 o1.2 i).2) su), (some b8, .cells #[i64 ((256 : Nat)), .slice (ownA key109) (List.length (((piS 256 (leG 256 (ze o2.1) o1.2 o2.2).1 (leG 256 (ze o2.1) o1.2 o2.2).2 o2.2 o1.2 i).1) ++ [(⟨(1 : Int), (o2.2).getD i 0, (o1.2).getD i 0⟩ : Gt)] ++ [(⟨(2 : Int), ((leG 256 (ze o2.1) o1.2 o2.2).2), (wrW 256 ((piS 256 (leG 256 (ze o2.1) o1.2 o2.2).1 (leG 256 (ze o2.1) o1.2 o2.2).2 o2.2 o1.2 i).1))⟩ : Gt)])) c110, .slice (ownA ku) i cu] 80 (0, 0)), (some b1, .cells #[i64 ((0 : Int)), .slice none 0 0, .slice none 0 0] 80 (0, 0)), (ko23, sob EI 3 o1.2 so25), (ko39, sob EI 3 o2.2 so41)]))) rfl
      refine c_call (vs := [.agg #[i64 ((256 : Nat)), .slice (ownA key109) (List.length (((piS 256 (leG 256 (ze o2.1) o1.2 o2.2).1 (leG 256 (ze o2.1) o1.2 o2.2).2 o2.2 o1.2 i).1) ++ [(⟨(1 : Int), (o2.2).getD i 0, (o1.2).getD i 0⟩ : Gt)] ++ [(⟨(2 : Int), ((leG 256 (ze o2.1) o1.2 o2.2).2), (wrW 256 ((piS 256 (leG 256 (ze o2.1) o1.2 o2.2).1 (leG 256 (ze o2.1) o1.2 o2.2).2 o2.2 o1.2 i).1))⟩ : Gt)])) c110, .slice (ownA ku) i cu], i64 ((1 : Int)), i64 ((o1.2).getD i 0), i64 ((wrW 256 (((piS 256 (leG 256 (ze o2.1) o1.2 o2.2).1 (leG 256 (ze o2.1) o1.2 o2.2).2 o2.2 o1.2 i).1) ++ [(⟨(1 : Int), (o2.2).getD i 0, (o1.2).getD i 0⟩ : Gt)])))]) call80 rfl (rput_ok 256 key109 c110 sp111 (((piS 256 (leG 256 (ze o2.1) o1.2 o2.2).1 (leG 256 (ze o2.1) o1.2 o2.2).2 o2.2 o1.2 i).1) ++ [(⟨(1 : Int), (o2.2).getD i 0, (o1.2).getD i 0⟩ : Gt)] ++ [(⟨(2 : Int), ((leG 256 (ze o2.1) o1.2 o2.2).2), (wrW 256 ((piS 256 (leG 256 (ze o2.1) o1.2 o2.2).1 (leG 256 (ze o2.1) o1.2 o2.2).2 o2.2 o1.2 i).1))⟩ : Gt)]) hS112 (by omega) (by simp only [List.length_append, List.length_cons, List.length_nil]; omega) (ownA ku) i cu (1 : Int) ((o1.2).getD i 0) (wrW 256 (((piS 256 (leG 256 (ze o2.1) o1.2 o2.2).1 (leG 256 (ze o2.1) o1.2 o2.2).2 o2.2 o1.2 i).1) ++ [(⟨(1 : Int), (o2.2).getD i 0, (o1.2).getD i 0⟩ : Gt)])) ([(ku, sob EI 3 ((piS 256 (leG 256 (ze o2.1) o1.2 o2.2).1 (leG 256 (ze o2.1) o1.2 o2.2).2 o2.2 o1.2 i).2) su), (some b8, .cells #[i64 ((256 : Nat)), .slice (ownA key109) (List.length (((piS 256 (leG 256 (ze o2.1) o1.2 o2.2).1 (leG 256 (ze o2.1) o1.2 o2.2).2 o2.2 o1.2 i).1) ++ [(⟨(1 : Int), (o2.2).getD i 0, (o1.2).getD i 0⟩ : Gt)] ++ [(⟨(2 : Int), ((leG 256 (ze o2.1) o1.2 o2.2).2), (wrW 256 ((piS 256 (leG 256 (ze o2.1) o1.2 o2.2).1 (leG 256 (ze o2.1) o1.2 o2.2).2 o2.2 o1.2 i).1))⟩ : Gt)])) c110, .slice (ownA ku) i cu] 80 (0, 0)), (some b1, .cells #[i64 ((0 : Int)), .slice none 0 0, .slice none 0 0] 80 (0, 0)), (ko23, sob EI 3 o1.2 so25), (ko39, sob EI 3 o2.2 so41)]) w uw118 H121) ?_
      rintro _ w122 ⟨wx124, key125, c126, sp127, hwx124, rfl, hS128, HN129⟩
      have H130 := HN129.as (L' := [(key125, sob EG 85 (((piS 256 (leG 256 (ze o2.1) o1.2 o2.2).1 (leG 256 (ze o2.1) o1.2 o2.2).2 o2.2 o1.2 i).1) ++ [(⟨(1 : Int), (o2.2).getD i 0, (o1.2).getD i 0⟩ : Gt)] ++ [(⟨(2 : Int), ((leG 256 (ze o2.1) o1.2 o2.2).2), (wrW 256 ((piS 256 (leG 256 (ze o2.1) o1.2 o2.2).1 (leG 256 (ze o2.1) o1.2 o2.2).2 o2.2 o1.2 i).1))⟩ : Gt)] ++ [(⟨(1 : Int), (o1.2).getD i 0, (wrW 256 (((piS 256 (leG 256 (ze o2.1) o1.2 o2.2).1 (leG 256 (ze o2.1) o1.2 o2.2).2 o2.2 o1.2 i).1) ++ [(⟨(1 : Int), (o2.2).getD i 0, (o1.2).getD i 0⟩ : Gt)]))⟩ : Gt)]) sp127), (ku, sob EI 3 ((piS 256 (leG 256 (ze o2.1) o1.2 o2.2).1 (leG 256 (ze o2.1) o1.2 o2.2).2 o2.2 o1.2 i).2) su), (some b8, .cells #[i64 ((256 : Nat)), .slice (ownA key109) (List.length (((piS 256 (leG 256 (ze o2.1) o1.2 o2.2).1 (leG 256 (ze o2.1) o1.2 o2.2).2 o2.2 o1.2 i).1) ++ [(⟨(1 : Int), (o2.2).getD i 0, (o1.2).getD i 0⟩ : Gt)] ++ [(⟨(2 : Int), ((leG 256 (ze o2.1) o1.2 o2.2).2), (wrW 256 ((piS 256 (leG 256 (ze o2.1) o1.2 o2.2).1 (leG 256 (ze o2.1) o1.2 o2.2).2 o2.2 o1.2 i).1))⟩ : Gt)])) c110, .slice (ownA ku) i cu] 80 (0, 0)), (some b1, .cells #[i64 ((0 : Int)), .slice none 0 0, .slice none 0 0] 80 (0, 0)), (ko23, sob EI 3 o1.2 so25), (ko39, sob EI 3 o2.2 so41)]) rfl
      exact hK _ _ ⟨wx124, key125, c126, sp127, rfl, hS128, hwx124, H130⟩
    refine WalkC.look rfl (fun r => r 6) (fun r r' h => h 6 (by decide) rfl) (fun q r uw _ _ _ _ => Gives.run rfl (r_move rfl) ⟨rfl, rfl⟩) ?_
    refine WalkC.look rfl (fun r => proj (r 6) 0) (fun r r' h => by rw [h 6 (by decide) rfl]) (fun q r uw hlo hhi hle hF => ?_) ?_
    · skip
      have h1 : 1 ≤ q := hlo 0 6 rfl rfl
      have h2 : q ≤ 1 := hhi 1 10 rfl rfl
      rcases (show q = 1 by omega) with rfl
      · skip
        obtain ⟨wx124, key125, c126, sp127, e6, hS128, hwx124, HH⟩ := hF
        dsimp only
        rw [e6]
        exact Gives.run rfl (r_extract (vs := #[.agg #[i64 ((256 : Nat)), .slice (ownA key125) (List.length (((piS 256 (leG 256 (ze o2.1) o1.2 o2.2).1 (leG 256 (ze o2.1) o1.2 o2.2).2 o2.2 o1.2 i).1) ++ [(⟨(1 : Int), (o2.2).getD i 0, (o1.2).getD i 0⟩ : Gt)] ++ [(⟨(2 : Int), ((leG 256 (ze o2.1) o1.2 o2.2).2), (wrW 256 ((piS 256 (leG 256 (ze o2.1) o1.2 o2.2).1 (leG 256 (ze o2.1) o1.2 o2.2).2 o2.2 o1.2 i).1))⟩ : Gt)] ++ [(⟨(1 : Int), (o1.2).getD i 0, (wrW 256 (((piS 256 (leG 256 (ze o2.1) o1.2 o2.2).1 (leG 256 (ze o2.1) o1.2 o2.2).2 o2.2 o1.2 i).1) ++ [(⟨(1 : Int), (o2.2).getD i 0, (o1.2).getD i 0⟩ : Gt)]))⟩ : Gt)])) c126, .slice (ownA ku) i cu], i64 (wx124)]) rfl rfl) ⟨rfl, rfl⟩
    refine WalkC.look rfl (fun r => proj (r 6) 1) (fun r r' h => by rw [h 6 (by decide) rfl]) (fun q r uw hlo hhi hle hF => ?_) ?_
    · skip
      have h1 : 1 ≤ q := hlo 0 6 rfl rfl
      have h2 : q ≤ 2 := hle
      rcases (show q = 1 ∨ q = 2 by omega) with rfl | rfl
      · skip
        obtain ⟨wx124, key125, c126, sp127, e6, hS128, hwx124, HH⟩ := hF
        dsimp only
        rw [e6]
        exact Gives.run rfl (r_extract (vs := #[.agg #[i64 ((256 : Nat)), .slice (ownA key125) (List.length (((piS 256 (leG 256 (ze o2.1) o1.2 o2.2).1 (leG 256 (ze o2.1) o1.2 o2.2).2 o2.2 o1.2 i).1) ++ [(⟨(1 : Int), (o2.2).getD i 0, (o1.2).getD i 0⟩ : Gt)] ++ [(⟨(2 : Int), ((leG 256 (ze o2.1) o1.2 o2.2).2), (wrW 256 ((piS 256 (leG 256 (ze o2.1) o1.2 o2.2).1 (leG 256 (ze o2.1) o1.2 o2.2).2 o2.2 o1.2 i).1))⟩ : Gt)] ++ [(⟨(1 : Int), (o1.2).getD i 0, (wrW 256 (((piS 256 (leG 256 (ze o2.1) o1.2 o2.2).1 (leG 256 (ze o2.1) o1.2 o2.2).2 o2.2 o1.2 i).1) ++ [(⟨(1 : Int), (o2.2).getD i 0, (o1.2).getD i 0⟩ : Gt)]))⟩ : Gt)])) c126, .slice (ownA ku) i cu], i64 (wx124)]) rfl rfl) ⟨rfl, rfl⟩
      · skip
        obtain ⟨wx124, key125, c126, sp127, e6, e10, hS128, hwx124, HH⟩ := hF
        dsimp only
        rw [e6]
        exact Gives.run rfl (r_extract (vs := #[.agg #[i64 ((256 : Nat)), .slice (ownA key125) (List.length (((piS 256 (leG 256 (ze o2.1) o1.2 o2.2).1 (leG 256 (ze o2.1) o1.2 o2.2).2 o2.2 o1.2 i).1) ++ [(⟨(1 : Int), (o2.2).getD i 0, (o1.2).getD i 0⟩ : Gt)] ++ [(⟨(2 : Int), ((leG 256 (ze o2.1) o1.2 o2.2).2), (wrW 256 ((piS 256 (leG 256 (ze o2.1) o1.2 o2.2).1 (leG 256 (ze o2.1) o1.2 o2.2).2 o2.2 o1.2 i).1))⟩ : Gt)] ++ [(⟨(1 : Int), (o1.2).getD i 0, (wrW 256 (((piS 256 (leG 256 (ze o2.1) o1.2 o2.2).1 (leG 256 (ze o2.1) o1.2 o2.2).2 o2.2 o1.2 i).1) ++ [(⟨(1 : Int), (o2.2).getD i 0, (o1.2).getD i 0⟩ : Gt)]))⟩ : Gt)])) c126, .slice (ownA ku) i cu], i64 (wx124)]) rfl rfl) ⟨rfl, rfl⟩
    refine WalkC.eff 1 rfl (fun r uw131 hF133 => ?_) ?_
    · skip
      obtain ⟨wx124, key125, c126, sp127, e6, hS128, hwx124, H132⟩ := hF133
      dsimp only [List.take, List.map, List.cons_append, List.nil_append]
      rw [e6]
      refine Gives.ofW0 rfl (fun Q' hK => ?_)
      refine d_store (k := 2) (v := .agg #[i64 ((256 : Nat)), .slice (ownA key125) (List.length (((piS 256 (leG 256 (ze o2.1) o1.2 o2.2).1 (leG 256 (ze o2.1) o1.2 o2.2).2 o2.2 o1.2 i).1) ++ [(⟨(1 : Int), (o2.2).getD i 0, (o1.2).getD i 0⟩ : Gt)] ++ [(⟨(2 : Int), ((leG 256 (ze o2.1) o1.2 o2.2).2), (wrW 256 ((piS 256 (leG 256 (ze o2.1) o1.2 o2.2).1 (leG 256 (ze o2.1) o1.2 o2.2).2 o2.2 o1.2 i).1))⟩ : Gt)] ++ [(⟨(1 : Int), (o1.2).getD i 0, (wrW 256 (((piS 256 (leG 256 (ze o2.1) o1.2 o2.2).1 (leG 256 (ze o2.1) o1.2 o2.2).2 o2.2 o1.2 i).1) ++ [(⟨(1 : Int), (o2.2).getD i 0, (o1.2).getD i 0⟩ : Gt)]))⟩ : Gt)])) c126, .slice (ownA ku) i cu]) (cs' := #[i64 ((256 : Nat)), .slice (ownA key125) (List.length (((piS 256 (leG 256 (ze o2.1) o1.2 o2.2).1 (leG 256 (ze o2.1) o1.2 o2.2).2 o2.2 o1.2 i).1) ++ [(⟨(1 : Int), (o2.2).getD i 0, (o1.2).getD i 0⟩ : Gt)] ++ [(⟨(2 : Int), ((leG 256 (ze o2.1) o1.2 o2.2).2), (wrW 256 ((piS 256 (leG 256 (ze o2.1) o1.2 o2.2).1 (leG 256 (ze o2.1) o1.2 o2.2).2 o2.2 o1.2 i).1))⟩ : Gt)] ++ [(⟨(1 : Int), (o1.2).getD i 0, (wrW 256 (((piS 256 (leG 256 (ze o2.1) o1.2 o2.2).1 (leG 256 (ze o2.1) o1.2 o2.2).2 o2.2 o1.2 i).1) ++ [(⟨(1 : Int), (o2.2).getD i 0, (o1.2).getD i 0⟩ : Gt)]))⟩ : Gt)])) c126, .slice (ownA ku) i cu]) H132 rfl rfl rfl siz80 (by rfl) (by intro u hu; simp [Value.cells] at hu; first | (subst hu; rfl) | (rcases hu with rfl | rfl | rfl <;> rfl)) (by exact Nat.le_of_ble_eq_true rfl) (by rfl) ?_
      intro w134 H135 hC136
      have H135' := H135.as (L' := [(key125, sob EG 85 (((piS 256 (leG 256 (ze o2.1) o1.2 o2.2).1 (leG 256 (ze o2.1) o1.2 o2.2).2 o2.2 o1.2 i).1) ++ [(⟨(1 : Int), (o2.2).getD i 0, (o1.2).getD i 0⟩ : Gt)] ++ [(⟨(2 : Int), ((leG 256 (ze o2.1) o1.2 o2.2).2), (wrW 256 ((piS 256 (leG 256 (ze o2.1) o1.2 o2.2).1 (leG 256 (ze o2.1) o1.2 o2.2).2 o2.2 o1.2 i).1))⟩ : Gt)] ++ [(⟨(1 : Int), (o1.2).getD i 0, (wrW 256 (((piS 256 (leG 256 (ze o2.1) o1.2 o2.2).1 (leG 256 (ze o2.1) o1.2 o2.2).2 o2.2 o1.2 i).1) ++ [(⟨(1 : Int), (o2.2).getD i 0, (o1.2).getD i 0⟩ : Gt)]))⟩ : Gt)]) sp127), (ku, sob EI 3 ((piS 256 (leG 256 (ze o2.1) o1.2 o2.2).1 (leG 256 (ze o2.1) o1.2 o2.2).2 o2.2 o1.2 i).2) su), (some b8, .cells #[i64 ((256 : Nat)), .slice (ownA key125) (List.length (((piS 256 (leG 256 (ze o2.1) o1.2 o2.2).1 (leG 256 (ze o2.1) o1.2 o2.2).2 o2.2 o1.2 i).1) ++ [(⟨(1 : Int), (o2.2).getD i 0, (o1.2).getD i 0⟩ : Gt)] ++ [(⟨(2 : Int), ((leG 256 (ze o2.1) o1.2 o2.2).2), (wrW 256 ((piS 256 (leG 256 (ze o2.1) o1.2 o2.2).1 (leG 256 (ze o2.1) o1.2 o2.2).2 o2.2 o1.2 i).1))⟩ : Gt)] ++ [(⟨(1 : Int), (o1.2).getD i 0, (wrW 256 (((piS 256 (leG 256 (ze o2.1) o1.2 o2.2).1 (leG 256 (ze o2.1) o1.2 o2.2).2 o2.2 o1.2 i).1) ++ [(⟨(1 : Int), (o2.2).getD i 0, (o1.2).getD i 0⟩ : Gt)]))⟩ : Gt)])) c126, .slice (ownA ku) i cu] 80 (0, 0)), (some b1, .cells #[i64 ((0 : Int)), .slice none 0 0, .slice none 0 0] 80 (0, 0)), (ko23, sob EI 3 o1.2 so25), (ko39, sob EI 3 o2.2 so41)]) rfl
      clear H135
      exact hK _ (fun _ => ⟨wx124, key125, c126, sp127, rfl, trivial, hS128, hwx124, H135'⟩)
    refine WalkC.look rfl (fun r => proj (r 6) 1) (fun r r' h => by rw [h 6 (by decide) rfl]) (fun q r uw _ _ _ _ => Gives.run rfl (r_assign rfl) ⟨rfl, rfl⟩) ?_
    refine WalkC.nil ?_
    intro r137 w138 hF140
    obtain ⟨wx124, key125, c126, sp127, e6, e10, hS128, hwx124, H139⟩ := hF140
    dsimp only
    rw [e6]
    subst hwx124
    refine wnil ?_
    refine thenNormal ?_
    refine oneRegion ?_
    refine sq (r_fieldAddr (off' := 2) fld80_2 (by decide) (b := b8) (off := 0) rfl (by omega)) ?_
    refine sq (r_loadC (v := .slice (ownA ku) i cu) one60 (H139.get (k := 2) rfl) (off := 2) rfl (by rfl)) ?_
    refine sq (r_move (v := i64 ((wrW 256 (((piS 256 (leG 256 (ze o2.1) o1.2 o2.2).1 (leG 256 (ze o2.1) o1.2 o2.2).2 o2.2 o1.2 i).1) ++ [(⟨(1 : Int), (o2.2).getD i 0, (o1.2).getD i 0⟩ : Gt)] ++ [(⟨(2 : Int), ((leG 256 (ze o2.1) o1.2 o2.2).2), (wrW 256 ((piS 256 (leG 256 (ze o2.1) o1.2 o2.2).1 (leG 256 (ze o2.1) o1.2 o2.2).2 o2.2 o1.2 i).1))⟩ : Gt)])))) rfl) ?_
    refine q_buildSlice (E := EI) (l := [(wrW 256 (((piS 256 (leG 256 (ze o2.1) o1.2 o2.2).1 (leG 256 (ze o2.1) o1.2 o2.2).2 o2.2 o1.2 i).1) ++ [(⟨(1 : Int), (o2.2).getD i 0, (o1.2).getD i 0⟩ : Gt)] ++ [(⟨(2 : Int), ((leG 256 (ze o2.1) o1.2 o2.2).2), (wrW 256 ((piS 256 (leG 256 (ze o2.1) o1.2 o2.2).1 (leG 256 (ze o2.1) o1.2 o2.2).2 o2.2 o1.2 i).1))⟩ : Gt)]))]) H139 sli60 zer3 (Nat.le_of_ble_eq_true rfl) (ps := [(0, i64 ((wrW 256 (((piS 256 (leG 256 (ze o2.1) o1.2 o2.2).1 (leG 256 (ze o2.1) o1.2 o2.2).2 o2.2 o1.2 i).1) ++ [(⟨(1 : Int), (o2.2).getD i 0, (o1.2).getD i 0⟩ : Gt)] ++ [(⟨(2 : Int), ((leG 256 (ze o2.1) o1.2 o2.2).2), (wrW 256 ((piS 256 (leG 256 (ze o2.1) o1.2 o2.2).1 (leG 256 (ze o2.1) o1.2 o2.2).2 o2.2 o1.2 i).1))⟩ : Gt)]))))]) rfl (by exact fillAll rfl rfl) rfl ?_
    intro b141 w143 hS142 H144 hE145
    refine q_append (E := EI) (k := 2) (l := (piS 256 (leG 256 (ze o2.1) o1.2 o2.2).1 (leG 256 (ze o2.1) o1.2 o2.2).2 o2.2 o1.2 i).2) (l2 := [(wrW 256 (((piS 256 (leG 256 (ze o2.1) o1.2 o2.2).1 (leG 256 (ze o2.1) o1.2 o2.2).2 o2.2 o1.2 i).1) ++ [(⟨(1 : Int), (o2.2).getD i 0, (o1.2).getD i 0⟩ : Gt)] ++ [(⟨(2 : Int), ((leG 256 (ze o2.1) o1.2 o2.2).2), (wrW 256 ((piS 256 (leG 256 (ze o2.1) o1.2 o2.2).1 (leG 256 (ze o2.1) o1.2 o2.2).2 o2.2 o1.2 i).1))⟩ : Gt)]))]) H144 rfl hSu sli60 zer3 rfl byt3 (H144.rd (k := 0) rfl hS142) rfl (by exact hpi.2.symm) rfl (by rfl) (by omega) ?_
    intro key146 c147 sp148 w150 hS149 hne152 H151
    have H151' := H151.as (L' := [((some b141), sob EI 3 ([(wrW 256 (((piS 256 (leG 256 (ze o2.1) o1.2 o2.2).1 (leG 256 (ze o2.1) o1.2 o2.2).2 o2.2 o1.2 i).1) ++ [(⟨(1 : Int), (o2.2).getD i 0, (o1.2).getD i 0⟩ : Gt)] ++ [(⟨(2 : Int), ((leG 256 (ze o2.1) o1.2 o2.2).2), (wrW 256 ((piS 256 (leG 256 (ze o2.1) o1.2 o2.2).1 (leG 256 (ze o2.1) o1.2 o2.2).2 o2.2 o1.2 i).1))⟩ : Gt)]))]) ([])), (key125, sob EG 85 (((piS 256 (leG 256 (ze o2.1) o1.2 o2.2).1 (leG 256 (ze o2.1) o1.2 o2.2).2 o2.2 o1.2 i).1) ++ [(⟨(1 : Int), (o2.2).getD i 0, (o1.2).getD i 0⟩ : Gt)] ++ [(⟨(2 : Int), ((leG 256 (ze o2.1) o1.2 o2.2).2), (wrW 256 ((piS 256 (leG 256 (ze o2.1) o1.2 o2.2).1 (leG 256 (ze o2.1) o1.2 o2.2).2 o2.2 o1.2 i).1))⟩ : Gt)] ++ [(⟨(1 : Int), (o1.2).getD i 0, (wrW 256 (((piS 256 (leG 256 (ze o2.1) o1.2 o2.2).1 (leG 256 (ze o2.1) o1.2 o2.2).2 o2.2 o1.2 i).1) ++ [(⟨(1 : Int), (o2.2).getD i 0, (o1.2).getD i 0⟩ : Gt)]))⟩ : Gt)]) sp127), (key146, sob EI 3 (((piS 256 (leG 256 (ze o2.1) o1.2 o2.2).1 (leG 256 (ze o2.1) o1.2 o2.2).2 o2.2 o1.2 i).2) ++ ([(wrW 256 (((piS 256 (leG 256 (ze o2.1) o1.2 o2.2).1 (leG 256 (ze o2.1) o1.2 o2.2).2 o2.2 o1.2 i).1) ++ [(⟨(1 : Int), (o2.2).getD i 0, (o1.2).getD i 0⟩ : Gt)] ++ [(⟨(2 : Int), ((leG 256 (ze o2.1) o1.2 o2.2).2), (wrW 256 ((piS 256 (leG 256 (ze o2.1) o1.2 o2.2).1 (leG 256 (ze o2.1) o1.2 o2.2).2 o2.2 o1.2 i).1))⟩ : Gt)]))])) sp148), (some b8, .cells #[i64 ((256 : Nat)), .slice (ownA key125) (List.length (((piS 256 (leG 256 (ze o2.1) o1.2 o2.2).1 (leG 256 (ze o2.1) o1.2 o2.2).2 o2.2 o1.2 i).1) ++ [(⟨(1 : Int), (o2.2).getD i 0, (o1.2).getD i 0⟩ : Gt)] ++ [(⟨(2 : Int), ((leG 256 (ze o2.1) o1.2 o2.2).2), (wrW 256 ((piS 256 (leG 256 (ze o2.1) o1.2 o2.2).1 (leG 256 (ze o2.1) o1.2 o2.2).2 o2.2 o1.2 i).1))⟩ : Gt)] ++ [(⟨(1 : Int), (o1.2).getD i 0, (wrW 256 (((piS 256 (leG 256 (ze o2.1) o1.2 o2.2).1 (leG 256 (ze o2.1) o1.2 o2.2).2 o2.2 o1.2 i).1) ++ [(⟨(1 : Int), (o2.2).getD i 0, (o1.2).getD i 0⟩ : Gt)]))⟩ : Gt)])) c126, .slice (ownA ku) i cu] 80 (0, 0)), (some b1, .cells #[i64 ((0 : Int)), .slice none 0 0, .slice none 0 0] 80 (0, 0)), (ko23, sob EI 3 o1.2 so25), (ko39, sob EI 3 o2.2 so41)]) rfl
    clear H151
    refine sq (r_fieldAddr (off' := 2) fld80_2 (by decide) (b := b8) (off := 0) rfl (by omega)) ?_
    refine d_store (k := 3) (v := .slice (ownA key146) (i + 1) c147) (cs' := #[i64 ((256 : Nat)), .slice (ownA key125) (List.length (((piS 256 (leG 256 (ze o2.1) o1.2 o2.2).1 (leG 256 (ze o2.1) o1.2 o2.2).2 o2.2 o1.2 i).1) ++ [(⟨(1 : Int), (o2.2).getD i 0, (o1.2).getD i 0⟩ : Gt)] ++ [(⟨(2 : Int), ((leG 256 (ze o2.1) o1.2 o2.2).2), (wrW 256 ((piS 256 (leG 256 (ze o2.1) o1.2 o2.2).1 (leG 256 (ze o2.1) o1.2 o2.2).2 o2.2 o1.2 i).1))⟩ : Gt)] ++ [(⟨(1 : Int), (o1.2).getD i 0, (wrW 256 (((piS 256 (leG 256 (ze o2.1) o1.2 o2.2).1 (leG 256 (ze o2.1) o1.2 o2.2).2 o2.2 o1.2 i).1) ++ [(⟨(1 : Int), (o2.2).getD i 0, (o1.2).getD i 0⟩ : Gt)]))⟩ : Gt)])) c126, .slice (ownA key146) (i + 1) c147]) H151' rfl rfl rfl siz60 (by rfl) (by intro u hu; simp [Value.cells] at hu; first | (subst hu; rfl) | (rcases hu with rfl <;> rfl)) (by exact Nat.le_of_ble_eq_true rfl) (by rfl) ?_
    intro w153 H154 hC155
    have H154' := H154.as (L' := [((some b141), sob EI 3 ([(wrW 256 (((piS 256 (leG 256 (ze o2.1) o1.2 o2.2).1 (leG 256 (ze o2.1) o1.2 o2.2).2 o2.2 o1.2 i).1) ++ [(⟨(1 : Int), (o2.2).getD i 0, (o1.2).getD i 0⟩ : Gt)] ++ [(⟨(2 : Int), ((leG 256 (ze o2.1) o1.2 o2.2).2), (wrW 256 ((piS 256 (leG 256 (ze o2.1) o1.2 o2.2).1 (leG 256 (ze o2.1) o1.2 o2.2).2 o2.2 o1.2 i).1))⟩ : Gt)]))]) ([])), (key125, sob EG 85 (((piS 256 (leG 256 (ze o2.1) o1.2 o2.2).1 (leG 256 (ze o2.1) o1.2 o2.2).2 o2.2 o1.2 i).1) ++ [(⟨(1 : Int), (o2.2).getD i 0, (o1.2).getD i 0⟩ : Gt)] ++ [(⟨(2 : Int), ((leG 256 (ze o2.1) o1.2 o2.2).2), (wrW 256 ((piS 256 (leG 256 (ze o2.1) o1.2 o2.2).1 (leG 256 (ze o2.1) o1.2 o2.2).2 o2.2 o1.2 i).1))⟩ : Gt)] ++ [(⟨(1 : Int), (o1.2).getD i 0, (wrW 256 (((piS 256 (leG 256 (ze o2.1) o1.2 o2.2).1 (leG 256 (ze o2.1) o1.2 o2.2).2 o2.2 o1.2 i).1) ++ [(⟨(1 : Int), (o2.2).getD i 0, (o1.2).getD i 0⟩ : Gt)]))⟩ : Gt)]) sp127), (key146, sob EI 3 (((piS 256 (leG 256 (ze o2.1) o1.2 o2.2).1 (leG 256 (ze o2.1) o1.2 o2.2).2 o2.2 o1.2 i).2) ++ ([(wrW 256 (((piS 256 (leG 256 (ze o2.1) o1.2 o2.2).1 (leG 256 (ze o2.1) o1.2 o2.2).2 o2.2 o1.2 i).1) ++ [(⟨(1 : Int), (o2.2).getD i 0, (o1.2).getD i 0⟩ : Gt)] ++ [(⟨(2 : Int), ((leG 256 (ze o2.1) o1.2 o2.2).2), (wrW 256 ((piS 256 (leG 256 (ze o2.1) o1.2 o2.2).1 (leG 256 (ze o2.1) o1.2 o2.2).2 o2.2 o1.2 i).1))⟩ : Gt)]))])) sp148), (some b8, .cells #[i64 ((256 : Nat)), .slice (ownA key125) (List.length (((piS 256 (leG 256 (ze o2.1) o1.2 o2.2).1 (leG 256 (ze o2.1) o1.2 o2.2).2 o2.2 o1.2 i).1) ++ [(⟨(1 : Int), (o2.2).getD i 0, (o1.2).getD i 0⟩ : Gt)] ++ [(⟨(2 : Int), ((leG 256 (ze o2.1) o1.2 o2.2).2), (wrW 256 ((piS 256 (leG 256 (ze o2.1) o1.2 o2.2).1 (leG 256 (ze o2.1) o1.2 o2.2).2 o2.2 o1.2 i).1))⟩ : Gt)] ++ [(⟨(1 : Int), (o1.2).getD i 0, (wrW 256 (((piS 256 (leG 256 (ze o2.1) o1.2 o2.2).1 (leG 256 (ze o2.1) o1.2 o2.2).2 o2.2 o1.2 i).1) ++ [(⟨(1 : Int), (o2.2).getD i 0, (o1.2).getD i 0⟩ : Gt)]))⟩ : Gt)])) c126, .slice (ownA key146) (i + 1) c147] 80 (0, 0)), (some b1, .cells #[i64 ((0 : Int)), .slice none 0 0, .slice none 0 0] 80 (0, 0)), (ko23, sob EI 3 o1.2 so25), (ko39, sob EI 3 o2.2 so41)]) rfl
    clear H154
    refine wnil ?_
    refine blockNormal ?_
    refine thenNormal ?_
    refine oneRegion ?_
    refine sq (r_move (v := i64 ((i : Nat))) rfl) ?_
    refine sq (r_addI (a := (i : Nat)) (b := (1 : Int)) rfl rfl (by omega)) ?_
    refine sq (r_assign (v := i64 ((i : Nat) + (1 : Int))) rfl) ?_
    refine wnil ?_
    refine thenNormal ?_
    have e156 : ((piS 256 (leG 256 (ze o2.1) o1.2 o2.2).1 (leG 256 (ze o2.1) o1.2 o2.2).2 o2.2 o1.2 i).1) ++ [(⟨(1 : Int), (o2.2).getD i 0, (o1.2).getD i 0⟩ : Gt)] ++ [(⟨(2 : Int), ((leG 256 (ze o2.1) o1.2 o2.2).2), (wrW 256 ((piS 256 (leG 256 (ze o2.1) o1.2 o2.2).1 (leG 256 (ze o2.1) o1.2 o2.2).2 o2.2 o1.2 i).1))⟩ : Gt)] ++ [(⟨(1 : Int), (o1.2).getD i 0, (wrW 256 (((piS 256 (leG 256 (ze o2.1) o1.2 o2.2).1 (leG 256 (ze o2.1) o1.2 o2.2).2 o2.2 o1.2 i).1) ++ [(⟨(1 : Int), (o2.2).getD i 0, (o1.2).getD i 0⟩ : Gt)]))⟩ : Gt)] = (piS 256 (leG 256 (ze o2.1) o1.2 o2.2).1 (leG 256 (ze o2.1) o1.2 o2.2).2 o2.2 o1.2 (i + 1)).1 := by rfl
    have hS157 := hS128
    rw [e156] at hS157
    have H158 : Hp No w w153 [((some b141), sob EI 3 ([(wrW 256 (((piS 256 (leG 256 (ze o2.1) o1.2 o2.2).1 (leG 256 (ze o2.1) o1.2 o2.2).2 o2.2 o1.2 i).1) ++ [(⟨(1 : Int), (o2.2).getD i 0, (o1.2).getD i 0⟩ : Gt)] ++ [(⟨(2 : Int), ((leG 256 (ze o2.1) o1.2 o2.2).2), (wrW 256 ((piS 256 (leG 256 (ze o2.1) o1.2 o2.2).1 (leG 256 (ze o2.1) o1.2 o2.2).2 o2.2 o1.2 i).1))⟩ : Gt)]))]) ([])), (key125, sob EG 85 ((piS 256 (leG 256 (ze o2.1) o1.2 o2.2).1 (leG 256 (ze o2.1) o1.2 o2.2).2 o2.2 o1.2 (i + 1)).1) sp127), (key146, sob EI 3 (((piS 256 (leG 256 (ze o2.1) o1.2 o2.2).1 (leG 256 (ze o2.1) o1.2 o2.2).2 o2.2 o1.2 i).2) ++ ([(wrW 256 (((piS 256 (leG 256 (ze o2.1) o1.2 o2.2).1 (leG 256 (ze o2.1) o1.2 o2.2).2 o2.2 o1.2 i).1) ++ [(⟨(1 : Int), (o2.2).getD i 0, (o1.2).getD i 0⟩ : Gt)] ++ [(⟨(2 : Int), ((leG 256 (ze o2.1) o1.2 o2.2).2), (wrW 256 ((piS 256 (leG 256 (ze o2.1) o1.2 o2.2).1 (leG 256 (ze o2.1) o1.2 o2.2).2 o2.2 o1.2 i).1))⟩ : Gt)]))])) sp148), (some b8, .cells #[i64 ((256 : Nat)), .slice (ownA key125) (List.length ((piS 256 (leG 256 (ze o2.1) o1.2 o2.2).1 (leG 256 (ze o2.1) o1.2 o2.2).2 o2.2 o1.2 (i + 1)).1)) c126, .slice (ownA key146) (i + 1) c147] 80 (0, 0)), (some b1, .cells #[i64 ((0 : Int)), .slice none 0 0, .slice none 0 0] 80 (0, 0)), (ko23, sob EI 3 o1.2 so25), (ko39, sob EI 3 o2.2 so41)] := by rw [← e156]; exact H154'
    have e159 : ((piS 256 (leG 256 (ze o2.1) o1.2 o2.2).1 (leG 256 (ze o2.1) o1.2 o2.2).2 o2.2 o1.2 i).2) ++ ([(wrW 256 (((piS 256 (leG 256 (ze o2.1) o1.2 o2.2).1 (leG 256 (ze o2.1) o1.2 o2.2).2 o2.2 o1.2 i).1) ++ [(⟨(1 : Int), (o2.2).getD i 0, (o1.2).getD i 0⟩ : Gt)] ++ [(⟨(2 : Int), ((leG 256 (ze o2.1) o1.2 o2.2).2), (wrW 256 ((piS 256 (leG 256 (ze o2.1) o1.2 o2.2).1 (leG 256 (ze o2.1) o1.2 o2.2).2 o2.2 o1.2 i).1))⟩ : Gt)]))]) = (piS 256 (leG 256 (ze o2.1) o1.2 o2.2).1 (leG 256 (ze o2.1) o1.2 o2.2).2 o2.2 o1.2 (i + 1)).2 := by rfl
    have hS160 := hS149
    rw [e159] at hS160
    have H161 := H158.as (L' := [((some b141), sob EI 3 ([(wrW 256 (((piS 256 (leG 256 (ze o2.1) o1.2 o2.2).1 (leG 256 (ze o2.1) o1.2 o2.2).2 o2.2 o1.2 i).1) ++ [(⟨(1 : Int), (o2.2).getD i 0, (o1.2).getD i 0⟩ : Gt)] ++ [(⟨(2 : Int), ((leG 256 (ze o2.1) o1.2 o2.2).2), (wrW 256 ((piS 256 (leG 256 (ze o2.1) o1.2 o2.2).1 (leG 256 (ze o2.1) o1.2 o2.2).2 o2.2 o1.2 i).1))⟩ : Gt)]))]) ([])), (key125, sob EG 85 ((piS 256 (leG 256 (ze o2.1) o1.2 o2.2).1 (leG 256 (ze o2.1) o1.2 o2.2).2 o2.2 o1.2 (i + 1)).1) sp127), (key146, sob EI 3 ((piS 256 (leG 256 (ze o2.1) o1.2 o2.2).1 (leG 256 (ze o2.1) o1.2 o2.2).2 o2.2 o1.2 (i + 1)).2) sp148), (some b8, .cells #[i64 ((256 : Nat)), .slice (ownA key125) (List.length ((piS 256 (leG 256 (ze o2.1) o1.2 o2.2).1 (leG 256 (ze o2.1) o1.2 o2.2).2 o2.2 o1.2 (i + 1)).1)) c126, .slice (ownA key146) (i + 1) c147] 80 (0, 0)), (some b1, .cells #[i64 ((0 : Int)), .slice none 0 0, .slice none 0 0] 80 (0, 0)), (ko23, sob EI 3 o1.2 so25), (ko39, sob EI 3 o2.2 so41)]) (by rw [e159])
    exact ⟨(i + 1, key125, c126, sp127, key146, c147, sp148), _, rfl, ⟨rfl, rfl, rfl, rfl, rfl, rfl, trivial⟩, ⟨⟨by omega, hS157, hS160⟩, (H161.dropk 0)⟩, by show 64 - (i + 1) < 64 - i; omega⟩
  · skip
    have hj : i = 64 := by omega
    refine exitAny ?_
    refine thenExit ?_
    refine thenExit ?_
    refine blockHere ?_
    refine thenNormal ?_
    refine seqRegion ?_
    refine sq (r_loadA (cs' := #[i64 ((256 : Nat)), .slice (ownA ky) (List.length ((piS 256 (leG 256 (ze o2.1) o1.2 o2.2).1 (leG 256 (ze o2.1) o1.2 o2.2).2 o2.2 o1.2 i).1)) cy, .slice (ownA ku) i cu]) agg80 siz80 (HL.get (k := 2) rfl) (off := 0) rfl (by exact Nat.le_of_ble_eq_true rfl) (by rfl)) ?_
    refine d_store (k := 3) (v := .agg #[i64 ((256 : Nat)), .slice (ownA ky) (List.length ((piS 256 (leG 256 (ze o2.1) o1.2 o2.2).1 (leG 256 (ze o2.1) o1.2 o2.2).2 o2.2 o1.2 i).1)) cy, .slice (ownA ku) i cu]) (cs' := #[i64 ((256 : Nat)), .slice (ownA ky) (List.length ((piS 256 (leG 256 (ze o2.1) o1.2 o2.2).1 (leG 256 (ze o2.1) o1.2 o2.2).2 o2.2 o1.2 i).1)) cy, .slice (ownA ku) i cu]) HL rfl rfl rfl siz80 (by rfl) (by intro u hu; simp [Value.cells] at hu; first | (subst hu; rfl) | (rcases hu with rfl | rfl | rfl <;> rfl)) (by exact Nat.le_of_ble_eq_true rfl) (by rfl) ?_
    intro w162 H163 hC164
    have H163' := H163.as (L' := [(ky, sob EG 85 ((piS 256 (leG 256 (ze o2.1) o1.2 o2.2).1 (leG 256 (ze o2.1) o1.2 o2.2).2 o2.2 o1.2 i).1) sy), (ku, sob EI 3 ((piS 256 (leG 256 (ze o2.1) o1.2 o2.2).1 (leG 256 (ze o2.1) o1.2 o2.2).2 o2.2 o1.2 i).2) su), (some b8, .cells #[i64 ((256 : Nat)), .slice (ownA ky) (List.length ((piS 256 (leG 256 (ze o2.1) o1.2 o2.2).1 (leG 256 (ze o2.1) o1.2 o2.2).2 o2.2 o1.2 i).1)) cy, .slice (ownA ku) i cu] 80 (0, 0)), (some b1, .cells #[i64 ((256 : Nat)), .slice (ownA ky) (List.length ((piS 256 (leG 256 (ze o2.1) o1.2 o2.2).1 (leG 256 (ze o2.1) o1.2 o2.2).2 o2.2 o1.2 i).1)) cy, .slice (ownA ku) i cu] 80 (0, 0)), (ko23, sob EI 3 o1.2 so25), (ko39, sob EI 3 o2.2 so41)]) rfl
    clear H163
    refine wend ?_
    refine retAny ?_
    refine retG (rs := [.cell 4 80]) (vs := [.agg #[i64 ((256 : Nat)), .slice (ownA ky) (List.length ((piS 256 (leG 256 (ze o2.1) o1.2 o2.2).1 (leG 256 (ze o2.1) o1.2 o2.2).2 o2.2 o1.2 i).1)) cy, .slice (ownA ku) i cu]]) rfl ⟨r_loadA (cs' := #[i64 ((256 : Nat)), .slice (ownA ky) (List.length ((piS 256 (leG 256 (ze o2.1) o1.2 o2.2).1 (leG 256 (ze o2.1) o1.2 o2.2).2 o2.2 o1.2 i).1)) cy, .slice (ownA ku) i cu]) agg80 siz80 (H163'.get (k := 3) rfl) (off := 0) rfl (by exact Nat.le_of_ble_eq_true rfl) (by rfl), trivial⟩ ?_
    subst hj
    rw [mk3_eq ho1 ho2]
    exact ⟨_, rfl, ky, cy, sy, ku, cu, su, rfl, hSy, hSu, ((((H163'.dropk 5).dropk 4).dropk 3).dropk 2)⟩
end Go.Proofs.YteofdmdpaejgaaaDoor.Cm
namespace Go.Proofs.YteofdmdpaejgaaaDoor.Cm
open Go Go.Proofs.YteofdmdpaejgaaaDoor.Vc Go.Proofs.YteofdmdpaejgaaaDoor.Er Go.Proofs.YteofdmdpaejgaaaDoor.Circ
set_option linter.unusedVariables false
theorem arr67 : arr Tryd.prog 67 = some (4, 1) := by kernel_rfl
theorem byt4 : byt Tryd.prog 4 = some 1 := by kernel_rfl
theorem call28 : callable Tryd.prog 28 = true := by kernel_rfl
theorem call29 : callable Tryd.prog 29 = true := by kernel_rfl
theorem call31 : callable Tryd.prog 31 = true := by kernel_rfl
theorem call32 : callable Tryd.prog 32 = true := by kernel_rfl
theorem call33 : callable Tryd.prog 33 = true := by kernel_rfl
theorem call34 : callable Tryd.prog 34 = true := by kernel_rfl
theorem call35 : callable Tryd.prog 35 = true := by kernel_rfl
theorem call36 : callable Tryd.prog 36 = true := by kernel_rfl
theorem call37 : callable Tryd.prog 37 = true := by kernel_rfl
theorem call38 : callable Tryd.prog 38 = true := by kernel_rfl
theorem call39 : callable Tryd.prog 39 = true := by kernel_rfl
theorem call40 : callable Tryd.prog 40 = true := by kernel_rfl
theorem fits32 : Fits Tryd.prog 32 E64 := fits64 (by kernel_rfl) (by kernel_rfl)
theorem fits85 : Fits Tryd.prog 85 EG := fitsG (by kernel_rfl) (by kernel_rfl)
theorem gty85 : Tryd.prog.eqGuardType Tryd.prog.depth 85 = false := by kernel_rfl
theorem isI27 : isI Tryd.prog 27 = true := by kernel_rfl
theorem sli76 : sli Tryd.prog 76 = some (4, 1) := by kernel_rfl
theorem zer4 : zer Tryd.prog 4 = some (.bool false) := by kernel_rfl
theorem sameG2 (a b c : Int) (w : World) : (Op.equalIn 10000 85 (.agg #[i64 a, i64 b, i64 c]) (.agg #[i64 a, i64 b, i64 c])).run Tryd.prog w = .ok true w := by
  rw [run_equalIn_agg _ _ _ _ _ (by kernel_rfl) (by kernel_rfl)]
  simp [Program.fieldsOf, Tryd.underlying85, Op.eqFields, part, i64, sameI _ Tryd.underlying3, Result.andThen_ok]
theorem r_neqSame85 {n : Nat} {ρ : Env} {w : World} {d : Option Nat} {t T : TypeId} {pos : String} {after : Array Edge} {g : Option (Nat × Bool)} {x y : Operand} {a b c : Int} (hx : ev n ρ x = .agg #[i64 a, i64 b, i64 c]) (hy : ev n ρ y = .agg #[i64 a, i64 b, i64 c]) : Runs Tryd.prog n ρ ⟨d, .binOp .neq 85 x y T, t, pos, after, g⟩ w (.bool false) w := by
  have h1 := run_eqGuard_agg (P := Tryd.prog) w .neq 85 x y #[i64 a, i64 b, i64 c] #[i64 a, i64 b, i64 c] gty85
  have h2 : (binOp .neq 85 (.agg #[i64 a, i64 b, i64 c]) (.agg #[i64 a, i64 b, i64 c])).run Tryd.prog w = .ok (.bool false) w := by
    rw [run_neq_struct, sameG2]; rfl
  simp only [Runs, execOp, hx, hy, Sem.run_bind, h1, Result.andThen_ok, h2, Sem.run_pure]
theorem check_goodM (n : Int) (gs : List Gt) (ol : List Int) (ga oa : Option Addr) (gc oc mg mo : Nat) (hmg : mg = gs.length) (hmo : mo = ol.length) (w : World) (hG : Gl w) (hGs : Rd EG w ga gs) (hOl : Rd EI w oa ol) (hgl : gs.length ≤ 140737488355328) (hol : ol.length ≤ 140737488355328) (hb : IsC n gs ol) : Calls Tryd.prog 31 [.agg #[i64 (n), .slice ga mg gc, .slice oa mo oc]].toArray w (Ret fun v w' => v = .nilIface ∧ Ext w w') := by
  subst hmg hmo; exact check_good n gs ol ga oa gc oc w hG hGs hOl hgl hol hb
theorem eval_goodM (n : Int) (gs : List Gt) (ol : List Int) (ga oa : Option Addr) (gc oc mg mo : Nat) (hmg : mg = gs.length) (hmo : mo = ol.length) (inp : List Bool) (ia : Option Addr) (ic mi : Nat) (hmi : mi = inp.length) (w : World) (hG : Gl w) (hGs : Rd EG w ga gs) (hOl : Rd EI w oa ol) (hgl : gs.length ≤ 140737488355328) (hol : ol.length ≤ 140737488355328) (hIn : Rd EB w ia inp) (hg : IsC n gs ol) (hl : (inp.length : Int) = n) : Calls Tryd.prog 37 [.agg #[i64 (n), .slice ga mg gc, .slice oa mo oc], .slice ia mi ic].toArray w (Ret fun v w' => (∃ r, v = .tuple #[r, .nilIface] ∧ SlRes EB 4 (evalS gs ol inp) w r w') ∧ Ext w w') := by
  subst hmg hmo hmi; exact eval_good n gs ol ga oa gc oc inp ia ic w hG hGs hOl hgl hol hIn hg hl
theorem ands_okM (n : Int) (gs : List Gt) (ol : List Int) (ga oa : Option Addr) (gc oc mg mo : Nat) (hmg : mg = gs.length) (hmo : mo = ol.length) (w : World) (hGs : Rd EG w ga gs) (hgl : gs.length ≤ 140737488355328) : Calls Tryd.prog 32 [.agg #[i64 (n), .slice ga mg gc, .slice oa mo oc]].toArray w (Ret fun v w' => v = i64 ((andsS gs gs.length : Nat)) ∧ Ext w w') := by
  subst hmg hmo; exact ands_ok n gs ol ga oa gc oc w hGs hgl
theorem gates_okM (n : Int) (gs : List Gt) (ol : List Int) (ga oa : Option Addr) (gc oc mg mo : Nat) (hmg : mg = gs.length) (hmo : mo = ol.length) (w : World) (hGs : Rd EG w ga gs) (hgl : gs.length ≤ 4200) : Calls Tryd.prog 35 [.agg #[i64 (n), .slice ga mg gc, .slice oa mo oc]].toArray w (Ret fun v w' => SlRes EG 85 gs w v w' ∧ Ext w w') := by
  subst hmg hmo; exact gates_ok n gs ol ga oa gc oc w hGs hgl
set_option maxHeartbeats 2000000 in
theorem cmk_good (kd n k : Nat) (m : List Gt × List Int) (fm : BitVec 64) (sh : List (BitVec 64)) (hsh : sh.length = 4) (hk : nopS ((kd : Nat) : Int) fm = k) (hk1 : 1 ≤ k) (hk2 : k ≤ 2) (hn : n = 128 * k) (hM : ∀ w, Calls Tryd.prog 29 [i64 ((kd : Nat) : Int), u64 fm].toArray w (Ret fun v w' => ∃ (key : Option Nat) (c : Nat) (sp : List Value) (b : Nat), v = .tuple #[.agg #[i64 ((n : Nat) : Int), .slice (ownA key) (m).1.length c, .slice (some ⟨b, 0, none⟩) 64 64], .nilIface] ∧ Sl EG key (m).1 c sp ∧ Hp No w w' [(key, sob EG 99 (m).1 sp), (some b, .cells (cel EI (m).2).toArray 153 (0, 0))])) (hR : ∀ w, Calls Tryd.prog 34 [i64 ((kd : Nat) : Int), u64 fm].toArray w (Ret fun v w' => ∃ (key : Option Nat) (c : Nat) (sp : List Value) (ko : Option Nat) (co : Nat) (so : List Value), v = .agg #[i64 ((n : Nat) : Int), .slice (ownA key) (m).1.length c, .slice (ownA ko) 64 co] ∧ Sl EG key (m).1 c sp ∧ Sl EI ko (m).2 co so ∧ Hp No w w' [(key, sob EG 85 (m).1 sp), (ko, sob EI 3 (m).2 so)])) (hA : Answers n (inpS sh (2 * k)) m (saysS kd (whS (fbS fm 0) (sh.getD 0 0#64) (sh.getD 1 0#64)) (whS (fbS fm 1) (sh.getD 2 0#64) (sh.getD 3 0#64)))) (hsm : m.1.length ≤ 4200) (w : World) (hG : Gl w) : Calls Tryd.prog 8 [i64 ((kd : Nat) : Int), u64 fm, .agg (cel E64 sh).toArray].toArray w (Ret fun v w' => v = .bool true ∧ Ext w w') := by
  have ho := hA.outs
  have han := hA.ands
  have hil2 := inpS_len sh (2 * k)
  have H := Hp.start No w
  refine enter (n := 155) Tryd.func8 rfl rfl (Nat.le_of_ble_eq_true rfl) ?_
  refine seqRegion ?_
  refine q_box (v := .agg (cel E64 sh).toArray) (o := .cells (cel E64 sh).toArray 67 (0, 0)) H rfl (by rfl) ?_
  intro b1 w2 hb1 H3 hE4
  refine sq (r_assign (v := .bool (false)) rfl) ?_
  refine wend ?_
  refine seqAny ?_
  refine seqRegion ?_
  refine c_call (vs := []) call28 rfl (cawake_ok w2 (Chg.gl H3.chg (fun x => x) hG)) ?_
  rintro _ w5 ⟨rfl, hE6⟩
  have H7 := H3.ext hE6
  refine sq (r_notT rfl) ?_
  refine wend ?_
  refine condFalse rfl ?_
  refine skipAny ?_
  refine thenNormal ?_
  refine seqRegion ?_
  refine sq (r_move (v := i64 ((kd : Nat))) rfl) ?_
  refine sq (r_move (v := u64 (fm)) rfl) ?_
  refine c_call (vs := [i64 ((kd : Nat)), u64 (fm)]) call29 rfl (hM w5) ?_
  rintro _ w8 ⟨key10, c11, sp12, b13, rfl, hS14, HN15⟩
  have H16 := (H7.join HN15).as (L' := [(key10, sob EG 99 m.1 sp12), (some b13, .cells (cel EI m.2).toArray 153 (0, 0)), (some b1, .cells (cel E64 sh).toArray 67 (0, 0))]) rfl
  refine sq (r_move (v := .tuple #[.agg #[i64 ((n : Nat)), .slice (ownA key10) ((m).1.length) c11, .slice (some ⟨b13, 0, none⟩) 64 64], .nilIface]) rfl) ?_
  refine sq (r_extract (vs := #[.agg #[i64 ((n : Nat)), .slice (ownA key10) ((m).1.length) c11, .slice (some ⟨b13, 0, none⟩) 64 64], .nilIface]) rfl rfl) ?_
  refine sq (r_extract (vs := #[.agg #[i64 ((n : Nat)), .slice (ownA key10) ((m).1.length) c11, .slice (some ⟨b13, 0, none⟩) 64 64], .nilIface]) rfl rfl) ?_
  refine q_alloc (o := .cells #[i64 ((0 : Int)), .slice none 0 0, .slice none 0 0] 70 (0, 0)) H16 zer70 (by kernel_rfl) ?_
  intro b17 w18 hb17 H19 hE20
  refine d_store (k := 0) (v := .agg #[i64 ((n : Nat)), .slice (ownA key10) ((m).1.length) c11, .slice (some ⟨b13, 0, none⟩) 64 64]) (cs' := #[i64 ((n : Nat)), .slice (ownA key10) ((m).1.length) c11, .slice (some ⟨b13, 0, none⟩) 64 64]) H19 rfl rfl rfl siz70 (by rfl) (by intro u hu; simp [Value.cells] at hu; first | (subst hu; rfl) | (rcases hu with rfl | rfl | rfl <;> rfl)) (by exact Nat.le_of_ble_eq_true rfl) (by rfl) ?_
  intro w21 H22 hC23
  have H22' := H22.as (L' := [(some b17, .cells #[i64 ((n : Nat)), .slice (ownA key10) ((m).1.length) c11, .slice (some ⟨b13, 0, none⟩) 64 64] 70 (0, 0)), (key10, sob EG 99 m.1 sp12), (some b13, .cells (cel EI m.2).toArray 153 (0, 0)), (some b1, .cells (cel E64 sh).toArray 67 (0, 0))]) rfl
  clear H22
  refine sq (r_assign (v := .nilIface) rfl) ?_
  refine wend ?_
  refine seqRegion ?_
  refine sq (r_move (v := i64 ((kd : Nat))) rfl) ?_
  refine sq (r_move (v := u64 (fm)) rfl) ?_
  refine c_call (vs := [i64 ((kd : Nat)), u64 (fm)]) call30 rfl ((by have h := rnop_ok ((kd : Nat) : Int) fm w21; rw [hk] at h; exact h)) ?_
  rintro _ w24 ⟨rfl, hE25⟩
  have H26 := H22'.ext hE25
  refine sq (r_assign (v := i64 ((k : Nat))) rfl) ?_
  refine wend ?_
  refine seqAny ?_
  refine seqRegion ?_
  refine sq (r_move (v := i64 ((k : Nat))) rfl) ?_
  refine sq ((r_eqlI (a := (k : Nat)) (b := (0 : Int)) rfl rfl).as (v' := .bool (false)) (by exact congrArg Value.bool (decide_eq_false (by omega)))) ?_
  refine wend ?_
  refine condFalse rfl ?_
  refine skipAny ?_
  refine thenNormal ?_
  refine seqAny ?_
  refine seqRegion ?_
  refine sq (r_move (v := .nilIface) rfl) ?_
  refine sq ((r_neqNN isI27 rfl rfl).as (v' := .bool (false)) (by rfl)) ?_
  refine sq (r_move (v := .bool (false)) rfl) ?_
  refine sqAny (v := .agg #[i64 ((n : Nat)), .slice (ownA key10) ((m).1.length) c11, .slice (some ⟨b13, 0, none⟩) 64 64]) (w' := w24) (wantedSome (d' := 49) (b := false) rfl rfl rfl) (r_loadA (cs' := #[i64 ((n : Nat)), .slice (ownA key10) ((m).1.length) c11, .slice (some ⟨b13, 0, none⟩) 64 64]) agg70 siz70 (H26.get (k := 0) rfl) (off := 0) rfl (by exact Nat.le_of_ble_eq_true rfl) (by rfl)) ?_
  refine caAny (wantedSome (d' := 49) (b := false) rfl rfl rfl) (Enters.callL (vs := [.agg #[i64 ((n : Nat)), .slice (ownA key10) ((m).1.length) c11, .slice (some ⟨b13, 0, none⟩) 64 64]]) call31 rfl) (check_goodM (n : Nat) m.1 m.2 (ownA key10) (some ⟨b13, 0, none⟩) c11 64 ((m).1.length) 64 (by rfl) (by exact hA.outs.symm) w24 (Chg.gl H26.chg (fun x => x) hG) (H26.rd (k := 1) rfl hS14) (Rd.row (H26.get (k := 2) rfl)) (by omega) (by omega) hA.is) ?_
  rintro _ w27 ⟨rfl, hE28⟩
  have H29 := H26.ext hE28
  refine sqAny (v := .bool (false)) (w' := w27) (wantedSome (d' := 49) (b := false) rfl rfl rfl) (r_neqNN isI27 rfl rfl) ?_
  refine sq (r_pickF (v := .bool (false)) rfl rfl) ?_
  refine sq (r_move (v := .bool (false)) rfl) ?_
  refine sqAny (v := .pointer (some ⟨b17, 0, none⟩)) (w' := w27) (wantedSome (d' := 54) (b := false) rfl rfl rfl) (r_fieldAddr (off' := 0) fld70_0 (by decide) (b := b17) (off := 0) rfl (by omega)) ?_
  refine sqAny (v := i64 ((n : Nat))) (w' := w27) (wantedSome (d' := 54) (b := false) rfl rfl rfl) (r_loadC (v := i64 ((n : Nat))) one3 (H29.get (k := 0) rfl) (off := 0) rfl (by rfl)) ?_
  refine sqAny (v := i64 ((k : Nat))) (w' := w27) (wantedSome (d' := 54) (b := false) rfl rfl rfl) (r_move (v := i64 ((k : Nat))) rfl) ?_
  refine sqAny (v := i64 ((128 : Int) * (k : Nat))) (w' := w27) (wantedSome (d' := 54) (b := false) rfl rfl rfl) (r_mulI (a := (128 : Int)) (b := (k : Nat)) rfl rfl (by omega)) ?_
  refine sqAny (v := .bool (false)) (w' := w27) (wantedSome (d' := 54) (b := false) rfl rfl rfl) ((r_neqI (a := (n : Nat)) (b := (128 : Int) * (k : Nat)) rfl rfl).as (v' := .bool (false)) (by exact congrArg Value.bool (decide_eq_false (by omega)))) ?_
  refine sq (r_pickF (v := .bool (false)) rfl rfl) ?_
  refine sq (r_move (v := .bool (false)) rfl) ?_
  refine sqAny (v := .pointer (some ⟨b17, 2, none⟩)) (w' := w27) (wantedSome (d' := 61) (b := false) rfl rfl rfl) (r_fieldAddr (off' := 2) fld70_2 (by decide) (b := b17) (off := 0) rfl (by omega)) ?_
  refine sqAny (v := .slice (some ⟨b13, 0, none⟩) 64 64) (w' := w27) (wantedSome (d' := 61) (b := false) rfl rfl rfl) (r_loadC (v := .slice (some ⟨b13, 0, none⟩) 64 64) one60 (H29.get (k := 0) rfl) (off := 2) rfl (by rfl)) ?_
  refine sqAny (v := i64 ((64 : Nat))) (w' := w27) (wantedSome (d' := 61) (b := false) rfl rfl rfl) (r_lenS sli60 (a := some ⟨b13, 0, none⟩) (m := 64) (c := 64) rfl) ?_
  refine sqAny (v := .bool (false)) (w' := w27) (wantedSome (d' := 61) (b := false) rfl rfl rfl) ((r_neqI (a := (64 : Nat)) (b := (64 : Int)) rfl rfl).as (v' := .bool (false)) (by exact congrArg Value.bool (decide_eq_false (by omega)))) ?_
  refine sq (r_pickF (v := .bool (false)) rfl rfl) ?_
  refine sq (r_move (v := .bool (false)) rfl) ?_
  refine sqAny (v := .agg #[i64 ((n : Nat)), .slice (ownA key10) ((m).1.length) c11, .slice (some ⟨b13, 0, none⟩) 64 64]) (w' := w27) (wantedSome (d' := 67) (b := false) rfl rfl rfl) (r_loadA (cs' := #[i64 ((n : Nat)), .slice (ownA key10) ((m).1.length) c11, .slice (some ⟨b13, 0, none⟩) 64 64]) agg70 siz70 (H29.get (k := 0) rfl) (off := 0) rfl (by exact Nat.le_of_ble_eq_true rfl) (by rfl)) ?_
  refine caAny (wantedSome (d' := 67) (b := false) rfl rfl rfl) (Enters.callL (vs := [.agg #[i64 ((n : Nat)), .slice (ownA key10) ((m).1.length) c11, .slice (some ⟨b13, 0, none⟩) 64 64]]) call32 rfl) (ands_okM (n : Nat) m.1 m.2 (ownA key10) (some ⟨b13, 0, none⟩) c11 64 ((m).1.length) 64 (by rfl) (by exact hA.outs.symm) w27 (H29.rd (k := 1) rfl hS14) (by omega)) ?_
  rintro _ w30 ⟨rfl, hE31⟩
  have H32 := H29.ext hE31
  refine sqAny (v := .bool (false)) (w' := w30) (wantedSome (d' := 67) (b := false) rfl rfl rfl) ((r_gtrI (a := (andsS m.1 m.1.length : Nat)) (b := (400 : Int)) rfl rfl).as (v' := .bool (false)) (by exact congrArg Value.bool (decide_eq_false (by omega)))) ?_
  refine sq (r_pickF (v := .bool (false)) rfl rfl) ?_
  refine wend ?_
  refine condFalse rfl ?_
  refine skipAny ?_
  refine thenNormal ?_
  refine seqRegion ?_
  refine sq (r_assign (v := .slice none 0 0) rfl) ?_
  have H33 := H32.nil (sob EB 4 [] [])
  refine wend ?_
  refine seqAny ?_
  refine seqRegion ?_
  refine sq (r_assign (v := i64 ((0 : Int))) rfl) ?_
  refine wend ?_
  refine blockAny ?_
  refine loopAny (σ := Nat × Option Nat × Nat × List Value) (fun (i, ki, ci, si) => [(0, i64 ((kd : Nat))), (1, u64 (fm)), (5, .pointer (some ⟨b1, 0, none⟩)), (7, .pointer (some ⟨b17, 0, none⟩)), (8, .nilIface), (9, i64 ((k : Nat))), (10, .slice (ownA ki) (64 * i) ci), (11, i64 ((i : Nat)))]) (fun (i, ki, ci, si) w' => (i ≤ 2 * k ∧ Sl EB ki (inpS sh i) ci si) ∧ Hp No w w' [(ki, sob EB 4 (inpS sh i) si), (some b17, .cells #[i64 ((n : Nat)), .slice (ownA key10) ((m).1.length) c11, .slice (some ⟨b13, 0, none⟩) 64 64] 70 (0, 0)), (key10, sob EG 99 m.1 sp12), (some b13, .cells (cel EI m.2).toArray 153 (0, 0)), (some b1, .cells (cel E64 sh).toArray 67 (0, 0))]) (fun (i, ki, ci, si) => 2 * k - i) ((0, none, 0, [])) ?_ ?_ ?_
  · exact ⟨rfl, rfl, rfl, rfl, rfl, rfl, rfl, rfl, trivial⟩
  · exact ⟨⟨by omega, Sl.none⟩, H33⟩
  rintro ⟨i, ki, ci, si⟩ ρ w34 ⟨⟨hq, hSi⟩, HL⟩
  have hil := inpS_len sh i
  refine seqAny ?_
  refine seqRegion ?_
  refine sq (r_move (v := i64 ((i : Nat))) rfl) ?_
  refine sq (r_move (v := i64 ((k : Nat))) rfl) ?_
  refine sq (r_mulI (a := (2 : Int)) (b := (k : Nat)) rfl rfl (by omega)) ?_
  refine sq (r_lssI (a := (i : Nat)) (b := (2 : Int) * (k : Nat)) rfl rfl) ?_
  refine wend ?_
  refine condProp (((i : Nat) : Int) < ((2 : Int) * (k : Nat))) rfl (fun c75 => ?_) (fun c75 => ?_)
  · skip
    refine skipAny ?_
    refine thenNormal ?_
    refine seqAny ?_
    refine blockAny ?_
    refine oneRegion ?_
    refine sq (r_move (v := .slice (ownA ki) (64 * i) ci) rfl) ?_
    refine sq (r_move (v := i64 ((i : Nat))) rfl) ?_
    refine sq (r_indexA (off' := i) (j := i) arr67 (b := b1) (off := 0) rfl rfl (by first | rfl | omega | (simp; omega)) (by omega) (by omega)) ?_
    refine sq (r_ld1 (E := E64) (l := sh) (j := i) (a := (sh).getD i 0#64) fits32 (HL.get (k := 4) rfl) (at_getD (by omega)) rfl rfl) ?_
    refine c_call (vs := [u64 ((sh).getD i 0#64)]) call33 rfl (bits_ok ((sh).getD i 0#64) w34) ?_
    rintro _ w36 ⟨⟨key38, c39, sp40, rfl, hS41, hk42⟩, hE43⟩
    rw [show (bitsS ((sh).getD i 0#64) 64).length = 64 from bitsS_len _ _]
    have H44 := HL.add hE43 hk42
    refine q_append (E := EB) (k := 1) (l := inpS sh i) (l2 := bitsS ((sh).getD i 0#64) 64) H44 rfl hSi sli76 zer4 rfl byt4 (H44.rd (k := 0) rfl hS41) rfl (by exact (inpS_len sh i).symm) rfl (by exact (bitsS_len _ _).symm) (by omega) ?_
    intro key45 c46 sp47 w49 hS48 hne51 H50
    have H50' := H50.as (L' := [(key38, sob EB 4 (bitsS ((sh).getD i 0#64) 64) sp40), (key45, sob EB 4 ((inpS sh i) ++ (bitsS ((sh).getD i 0#64) 64)) sp47), (some b17, .cells #[i64 ((n : Nat)), .slice (ownA key10) ((m).1.length) c11, .slice (some ⟨b13, 0, none⟩) 64 64] 70 (0, 0)), (key10, sob EG 99 m.1 sp12), (some b13, .cells (cel EI m.2).toArray 153 (0, 0)), (some b1, .cells (cel E64 sh).toArray 67 (0, 0))]) rfl
    clear H50
    have e52 : (inpS sh i) ++ (bitsS ((sh).getD i 0#64) 64) = inpS sh (i + 1) := by rw [inpS]
    have hS53 := hS48
    rw [e52] at hS53
    have H54 := H50'.as (L' := [(key38, sob EB 4 (bitsS ((sh).getD i 0#64) 64) sp40), (key45, sob EB 4 (inpS sh (i + 1)) sp47), (some b17, .cells #[i64 ((n : Nat)), .slice (ownA key10) ((m).1.length) c11, .slice (some ⟨b13, 0, none⟩) 64 64] 70 (0, 0)), (key10, sob EG 99 m.1 sp12), (some b13, .cells (cel EI m.2).toArray 153 (0, 0)), (some b1, .cells (cel E64 sh).toArray 67 (0, 0))]) (by rw [e52])
    refine sq (r_assign (v := .slice (ownA key45) ((64 * i) + 64) c46) rfl) ?_
    refine wnil ?_
    refine blockNormal ?_
    refine thenNormal ?_
    refine oneRegion ?_
    refine sq (r_move (v := i64 ((i : Nat))) rfl) ?_
    refine sq (r_addI (a := (i : Nat)) (b := (1 : Int)) rfl rfl (by omega)) ?_
    refine sq (r_assign (v := i64 ((i : Nat) + (1 : Int))) rfl) ?_
    refine wnil ?_
    refine thenNormal ?_
    exact ⟨(i + 1, key45, c46, sp47), _, rfl, ⟨rfl, rfl, rfl, rfl, rfl, rfl, rfl, rfl, trivial⟩, ⟨⟨by omega, hS53⟩, (H54.dropk 0)⟩, by show 2 * k - (i + 1) < 2 * k - i; omega⟩
  · skip
    obtain rfl : i = (2 * k) := by omega
    refine exitAny ?_
    refine thenExit ?_
    refine thenExit ?_
    refine blockHere ?_
    refine thenNormal ?_
    refine seqRegion ?_
    refine sq (r_move (v := i64 ((kd : Nat))) rfl) ?_
    refine sq (r_move (v := u64 (fm)) rfl) ?_
    refine c_call (vs := [i64 ((kd : Nat)), u64 (fm)]) call34 rfl (hR w34) ?_
    rintro _ w55 ⟨key57, c58, sp59, ko60, co61, so62, rfl, hS63, hO64, HN65⟩
    have H66 := (HL.join HN65).as (L' := [(key57, sob EG 85 m.1 sp59), (ko60, sob EI 3 m.2 so62), (ki, sob EB 4 (inpS sh (2 * k)) si), (some b17, .cells #[i64 ((n : Nat)), .slice (ownA key10) ((m).1.length) c11, .slice (some ⟨b13, 0, none⟩) 64 64] 70 (0, 0)), (key10, sob EG 99 m.1 sp12), (some b13, .cells (cel EI m.2).toArray 153 (0, 0)), (some b1, .cells (cel E64 sh).toArray 67 (0, 0))]) rfl
    refine q_alloc (o := .cells #[i64 ((0 : Int)), .slice none 0 0, .slice none 0 0] 80 (0, 0)) H66 zer80 (by kernel_rfl) ?_
    intro b67 w68 hb67 H69 hE70
    refine d_store (k := 0) (v := .agg #[i64 ((n : Nat)), .slice (ownA key57) ((m).1.length) c58, .slice (ownA ko60) 64 co61]) (cs' := #[i64 ((n : Nat)), .slice (ownA key57) ((m).1.length) c58, .slice (ownA ko60) 64 co61]) H69 rfl rfl rfl siz80 (by rfl) (by intro u hu; simp [Value.cells] at hu; first | (subst hu; rfl) | (rcases hu with rfl | rfl | rfl <;> rfl)) (by exact Nat.le_of_ble_eq_true rfl) (by rfl) ?_
    intro w71 H72 hC73
    have H72' := H72.as (L' := [(some b67, .cells #[i64 ((n : Nat)), .slice (ownA key57) ((m).1.length) c58, .slice (ownA ko60) 64 co61] 80 (0, 0)), (key57, sob EG 85 m.1 sp59), (ko60, sob EI 3 m.2 so62), (ki, sob EB 4 (inpS sh (2 * k)) si), (some b17, .cells #[i64 ((n : Nat)), .slice (ownA key10) ((m).1.length) c11, .slice (some ⟨b13, 0, none⟩) 64 64] 70 (0, 0)), (key10, sob EG 99 m.1 sp12), (some b13, .cells (cel EI m.2).toArray 153 (0, 0)), (some b1, .cells (cel E64 sh).toArray 67 (0, 0))]) rfl
    clear H72
    refine wend ?_
    refine seqRegion ?_
    refine sq (r_loadA (cs' := #[i64 ((n : Nat)), .slice (ownA key10) ((m).1.length) c11, .slice (some ⟨b13, 0, none⟩) 64 64]) agg70 siz70 (H72'.get (k := 4) rfl) (off := 0) rfl (by exact Nat.le_of_ble_eq_true rfl) (by rfl)) ?_
    refine c_call (vs := [.agg #[i64 ((n : Nat)), .slice (ownA key10) ((m).1.length) c11, .slice (some ⟨b13, 0, none⟩) 64 64]]) call35 rfl (gates_okM (n : Nat) m.1 m.2 (ownA key10) (some ⟨b13, 0, none⟩) c11 64 ((m).1.length) 64 (by rfl) (by exact hA.outs.symm) w71 (H72'.rd (k := 5) rfl hS14) (by omega)) ?_
    rintro _ w74 ⟨⟨key76, c77, sp78, rfl, hS79, hk80⟩, hE81⟩
    rw [show m.1.length = m.1.length from rfl]
    have H82 := H72'.add hE81 hk80
    refine sq (r_assign (v := .slice (ownA key76) m.1.length c77) rfl) ?_
    refine wend ?_
    refine seqAny ?_
    refine seqRegion ?_
    refine sq (r_fieldAddr (off' := 0) fld80_0 (by decide) (b := b67) (off := 0) rfl (by omega)) ?_
    refine sq (r_loadC (v := i64 ((n : Nat))) one3 (H82.get (k := 1) rfl) (off := 0) rfl (by rfl)) ?_
    refine sq (r_fieldAddr (off' := 0) fld70_0 (by decide) (b := b17) (off := 0) rfl (by omega)) ?_
    refine sq (r_loadC (v := i64 ((n : Nat))) one3 (H82.get (k := 5) rfl) (off := 0) rfl (by rfl)) ?_
    refine sq ((r_neqI (a := (n : Nat)) (b := (n : Nat)) rfl rfl).as (v' := .bool (false)) (by exact congrArg Value.bool (decide_eq_false (by omega)))) ?_
    refine sq (r_move (v := .bool (false)) rfl) ?_
    refine sqAny (v := .pointer (some ⟨b67, 1, none⟩)) (w' := w74) (wantedSome (d' := 94) (b := false) rfl rfl rfl) (r_fieldAddr (off' := 1) fld80_1 (by decide) (b := b67) (off := 0) rfl (by omega)) ?_
    refine sqAny (v := .slice (ownA key57) ((m).1.length) c58) (w' := w74) (wantedSome (d' := 94) (b := false) rfl rfl rfl) (r_loadC (v := .slice (ownA key57) ((m).1.length) c58) one78 (H82.get (k := 1) rfl) (off := 1) rfl (by rfl)) ?_
    refine sqAny (v := i64 (((m).1.length : Nat))) (w' := w74) (wantedSome (d' := 94) (b := false) rfl rfl rfl) (r_lenS sli78 (a := ownA key57) (m := (m).1.length) (c := c58) rfl) ?_
    refine sqAny (v := .slice (ownA key76) m.1.length c77) (w' := w74) (wantedSome (d' := 94) (b := false) rfl rfl rfl) (r_move (v := .slice (ownA key76) m.1.length c77) rfl) ?_
    refine sqAny (v := i64 ((m.1.length : Nat))) (w' := w74) (wantedSome (d' := 94) (b := false) rfl rfl rfl) (r_lenS sli78 (a := ownA key76) (m := m.1.length) (c := c77) rfl) ?_
    refine sqAny (v := .bool (false)) (w' := w74) (wantedSome (d' := 94) (b := false) rfl rfl rfl) ((r_neqI (a := ((m).1.length : Nat)) (b := (m.1.length : Nat)) rfl rfl).as (v' := .bool (false)) (by exact congrArg Value.bool (decide_eq_false (by omega)))) ?_
    refine sq (r_pickF (v := .bool (false)) rfl rfl) ?_
    refine sq (r_move (v := .bool (false)) rfl) ?_
    refine sqAny (v := .pointer (some ⟨b67, 2, none⟩)) (w' := w74) (wantedSome (d' := 102) (b := false) rfl rfl rfl) (r_fieldAddr (off' := 2) fld80_2 (by decide) (b := b67) (off := 0) rfl (by omega)) ?_
    refine sqAny (v := .slice (ownA ko60) 64 co61) (w' := w74) (wantedSome (d' := 102) (b := false) rfl rfl rfl) (r_loadC (v := .slice (ownA ko60) 64 co61) one60 (H82.get (k := 1) rfl) (off := 2) rfl (by rfl)) ?_
    refine sqAny (v := .pointer (some ⟨b17, 2, none⟩)) (w' := w74) (wantedSome (d' := 102) (b := false) rfl rfl rfl) (r_fieldAddr (off' := 2) fld70_2 (by decide) (b := b17) (off := 0) rfl (by omega)) ?_
    refine sqAny (v := .slice (some ⟨b13, 0, none⟩) 64 64) (w' := w74) (wantedSome (d' := 102) (b := false) rfl rfl rfl) (r_loadC (v := .slice (some ⟨b13, 0, none⟩) 64 64) one60 (H82.get (k := 5) rfl) (off := 2) rfl (by rfl)) ?_
    refine caAny (wantedSome (d' := 102) (b := false) rfl rfl rfl) (Enters.callL (vs := [.slice (ownA ko60) 64 co61, .slice (some ⟨b13, 0, none⟩) 64 64]) call36 rfl) (ints_ok m.2 (ownA ko60) (some ⟨b13, 0, none⟩) 64 64 co61 64 (by exact hA.outs.symm) (by exact hA.outs.symm) w74 (H82.rd (k := 3) rfl hO64) (Rd.row (H82.get (k := 7) rfl)) (by omega)) ?_
    rintro _ w83 ⟨rfl, hE84⟩
    have H85 := H82.ext hE84
    refine sqAny (v := .bool (false)) (w' := w83) (wantedSome (d' := 102) (b := false) rfl rfl rfl) (r_notT rfl) ?_
    refine sq (r_pickF (v := .bool (false)) rfl rfl) ?_
    refine wend ?_
    refine condFalse rfl ?_
    refine skipAny ?_
    refine thenNormal ?_
    refine seqAny ?_
    refine seqRegion ?_
    refine sq (r_move (v := .slice (ownA key76) m.1.length c77) rfl) ?_
    refine sq (r_lenS sli78 (a := ownA key76) (m := m.1.length) (c := c77) rfl) ?_
    refine sq (r_move (v := i64 ((0 : Int))) rfl) ?_
    refine wend ?_
    refine blockAny ?_
    refine loopAny (σ := Nat) (fun q => [(0, i64 ((kd : Nat))), (1, u64 (fm)), (5, .pointer (some ⟨b1, 0, none⟩)), (7, .pointer (some ⟨b17, 0, none⟩)), (8, .nilIface), (10, .slice (ownA ki) (64 * (2 * k)) ci), (12, .pointer (some ⟨b67, 0, none⟩)), (13, .slice (ownA key76) m.1.length c77), (111, i64 ((m.1.length : Nat))), (112, i64 ((q : Nat)))]) (fun q w' => q ≤ m.1.length ∧ Hp No w w' [(key76, sob EG 85 m.1 sp78), (some b67, .cells #[i64 ((n : Nat)), .slice (ownA key57) ((m).1.length) c58, .slice (ownA ko60) 64 co61] 80 (0, 0)), (key57, sob EG 85 m.1 sp59), (ko60, sob EI 3 m.2 so62), (ki, sob EB 4 (inpS sh (2 * k)) si), (some b17, .cells #[i64 ((n : Nat)), .slice (ownA key10) ((m).1.length) c11, .slice (some ⟨b13, 0, none⟩) 64 64] 70 (0, 0)), (key10, sob EG 99 m.1 sp12), (some b13, .cells (cel EI m.2).toArray 153 (0, 0)), (some b1, .cells (cel E64 sh).toArray 67 (0, 0))]) (fun q => m.1.length - q) (0) ?_ ?_ ?_
    · exact ⟨rfl, rfl, rfl, rfl, rfl, rfl, rfl, rfl, rfl, rfl, trivial⟩
    · exact ⟨Nat.zero_le _, H85⟩
    rintro q ρ w86 ⟨hq2, HL2⟩
    refine seqRegion ?_
    refine sq (r_lssI (a := (q : Nat)) (b := (m.1.length : Nat)) rfl rfl) ?_
    refine wend ?_
    refine seqAny ?_
    refine condProp (((q : Nat) : Int) < (m.1.length : Nat)) rfl (fun c113 => ?_) (fun c113 => ?_)
    · skip
      refine skipAny ?_
      refine thenNormal ?_
      refine seqAny ?_
      refine blockAny ?_
      refine seqRegion ?_
      refine sq (r_move (v := i64 ((q : Nat))) rfl) ?_
      refine sq (r_assign (v := i64 ((q : Nat))) rfl) ?_
      refine wend ?_
      refine seqAny ?_
      refine drawAny (K := [none, none, none, none, none, none, none, none, none, none]) [0, 0, 3, 7, 0, 16, 0, 112, 240, 511] (fun w' => Ext w86 w') (fun w' w'' => Ext w' w'') mixed (by kernel_rfl) (Ext.drew _) (fun _ _ h h' => h.trans h') ?_ ?_
      · exact relNone (by decide)
      refine ⟨.slice (ownA key76) m.1.length c77, fun _ uw88 hC89 _ => Gives.run rfl (r_move (v := .slice (ownA key76) m.1.length c77) rfl) ⟨rfl, Chg.refl _ _⟩, ?_⟩
      refine ⟨i64 ((q : Nat)), fun _ uw90 hC91 _ => Gives.run rfl (r_move (v := i64 ((q : Nat))) rfl) ⟨rfl, Chg.refl _ _⟩, ?_⟩
      refine ⟨.pointer (adr (ownA key76) (q * 3)), fun _ uw92 hC93 _ => Gives.run rfl (r_idxS (E := EG) (l := m.1) (j := q) sli78 ((HL2.ext hC93).rd (k := 0) rfl hS79) rfl rfl (by first | rfl | omega | (simp; omega)) (by exact (rfl).symm) (by omega)) ⟨rfl, Chg.refl _ _⟩, ?_⟩
      refine ⟨.agg #[i64 (((m.1).getD q g0).k), i64 (((m.1).getD q g0).a), i64 (((m.1).getD q g0).b)], fun _ uw94 hC95 _ => Gives.run rfl ((r_ldS (E := EG) (l := m.1) (j := q) (v := (m.1).getD q g0) fits85 ((HL2.ext hC95).rd (k := 0) rfl hS79) rfl rfl (at_getD (by omega))).as (v' := .agg #[i64 (((m.1).getD q g0).k), i64 (((m.1).getD q g0).a), i64 (((m.1).getD q g0).b)]) rfl) ⟨rfl, Chg.refl _ _⟩, ?_⟩
      refine ⟨.pointer (some ⟨b67, 1, none⟩), fun _ uw96 hC97 _ => Gives.run rfl (r_fieldAddr (off' := 1) fld80_1 (by decide) (b := b67) (off := 0) rfl (by omega)) ⟨rfl, Chg.refl _ _⟩, ?_⟩
      refine ⟨.slice (ownA key57) ((m).1.length) c58, fun _ uw98 hC99 _ => Gives.run rfl (r_loadC (v := .slice (ownA key57) ((m).1.length) c58) one78 ((HL2.ext hC99).get (k := 1) rfl) (off := 1) rfl (by rfl)) ⟨rfl, Chg.refl _ _⟩, ?_⟩
      refine ⟨i64 ((q : Nat)), fun _ uw100 hC101 _ => Gives.run rfl (r_move (v := i64 ((q : Nat))) rfl) ⟨rfl, Chg.refl _ _⟩, ?_⟩
      refine ⟨.pointer (adr (ownA key57) (q * 3)), fun _ uw102 hC103 _ => Gives.run rfl (r_idxS (E := EG) (l := m.1) (j := q) sli78 ((HL2.ext hC103).rd (k := 2) rfl hS63) rfl rfl (by first | rfl | omega | (simp; omega)) (by rfl) (by omega)) ⟨rfl, Chg.refl _ _⟩, ?_⟩
      refine ⟨.agg #[i64 (((m.1).getD q g0).k), i64 (((m.1).getD q g0).a), i64 (((m.1).getD q g0).b)], fun _ uw104 hC105 _ => Gives.run rfl ((r_ldS (E := EG) (l := m.1) (j := q) (v := (m.1).getD q g0) fits85 ((HL2.ext hC105).rd (k := 2) rfl hS63) rfl rfl (at_getD (by omega))).as (v' := .agg #[i64 (((m.1).getD q g0).k), i64 (((m.1).getD q g0).a), i64 (((m.1).getD q g0).b)]) rfl) ⟨rfl, Chg.refl _ _⟩, ?_⟩
      refine ⟨.bool (false), fun _ uw106 hC107 _ => Gives.run rfl (r_neqSame85 rfl rfl) ⟨rfl, Chg.refl _ _⟩, ?_⟩
      intro r111 w108 hE110 hF
      have H109 := HL2.ext hE110
      refine wnil ?_
      refine thenNormal ?_
      refine condFalse rfl ?_
      refine skipAny ?_
      refine blockNormal ?_
      refine thenNormal ?_
      refine oneRegion ?_
      refine sq (r_addI (a := (q : Nat)) (b := (1 : Int)) rfl rfl (by omega)) ?_
      refine sq (r_move (v := i64 ((q : Nat) + (1 : Int))) rfl) ?_
      refine wnil ?_
      refine thenNormal ?_
      exact ⟨q + 1, _, rfl, ⟨rfl, rfl, rfl, rfl, rfl, rfl, rfl, rfl, rfl, rfl, trivial⟩, ⟨by omega, H109⟩, by show m.1.length - (q + 1) < m.1.length - q; omega⟩
    · skip
      refine exitAny ?_
      refine thenExit ?_
      refine thenExit ?_
      refine blockHere ?_
      refine thenNormal ?_
      refine seqRegion ?_
      refine sq (r_loadA (cs' := #[i64 ((n : Nat)), .slice (ownA key10) ((m).1.length) c11, .slice (some ⟨b13, 0, none⟩) 64 64]) agg70 siz70 (HL2.get (k := 5) rfl) (off := 0) rfl (by exact Nat.le_of_ble_eq_true rfl) (by rfl)) ?_
      refine sq (r_move (v := .slice (ownA ki) (64 * (2 * k)) ci) rfl) ?_
      refine c_call (vs := [.agg #[i64 ((n : Nat)), .slice (ownA key10) ((m).1.length) c11, .slice (some ⟨b13, 0, none⟩) 64 64], .slice (ownA ki) (64 * (2 * k)) ci]) call37 rfl (eval_goodM (n : Nat) m.1 m.2 (ownA key10) (some ⟨b13, 0, none⟩) c11 64 ((m).1.length) 64 (by rfl) (by exact hA.outs.symm) (inpS sh (2 * k)) (ownA ki) ci (64 * (2 * k)) (by exact (inpS_len sh (2 * k)).symm) w86 (Chg.gl HL2.chg (fun x => x) hG) (HL2.rd (k := 6) rfl hS14) (Rd.row (HL2.get (k := 7) rfl)) (by omega) (by omega) (HL2.rd (k := 4) rfl hSi) hA.is (by omega)) ?_
      rintro _ w112 ⟨⟨_, rfl, key114, c115, sp116, rfl, hS117, hk118⟩, hE119⟩
      have H120 := HL2.add hE119 hk118
      refine sq (r_move (v := .tuple #[.slice (ownA key114) ((evalS m.1 m.2 (inpS sh (2 * k))).length) c115, .nilIface]) rfl) ?_
      refine sq (r_extract (vs := #[.slice (ownA key114) ((evalS m.1 m.2 (inpS sh (2 * k))).length) c115, .nilIface]) rfl rfl) ?_
      refine sq (r_extract (vs := #[.slice (ownA key114) ((evalS m.1 m.2 (inpS sh (2 * k))).length) c115, .nilIface]) rfl rfl) ?_
      refine sq (r_assign (v := .slice (ownA key114) ((evalS m.1 m.2 (inpS sh (2 * k))).length) c115) rfl) ?_
      refine sq (r_assign (v := .nilIface) rfl) ?_
      refine wend ?_
      refine seqAny ?_
      refine drawAny (K := [none, none, none, none, none, none, none, none, none, none, none, none, none, none]) [0, 0, 2, 0, 8, 31, 0, 0, 128, 0, 512, 2047, 4095, 8191] (fun w' => Ext w112 w') (fun w' w'' => Ext w' w'') mixed (by kernel_rfl) (Ext.drew _) (fun _ _ h h' => h.trans h') ?_ ?_
      · exact relNone (by decide)
      refine ⟨u64 (fm), fun _ uw121 hC122 _ => Gives.run rfl (r_move (v := u64 (fm)) rfl) ⟨rfl, Chg.refl _ _⟩, ?_⟩
      refine ⟨.pointer (some ⟨b1, 0, none⟩), fun _ uw123 hC124 _ => Gives.run rfl (r_indexA (off' := 0) (j := 0) arr67 (b := b1) (off := 0) rfl rfl (by first | rfl | omega | (simp; omega)) (by omega) (by omega)) ⟨rfl, Chg.refl _ _⟩, ?_⟩
      refine ⟨u64 ((sh).getD 0 0#64), fun _ uw125 hC126 _ => Gives.run rfl (r_ld1 (E := E64) (l := sh) (j := 0) (a := (sh).getD 0 0#64) fits32 ((H120.ext hC126).get (k := 9) rfl) (at_getD (by first | omega | (simp only [List.length_set]; omega) | exact Nat.le_of_ble_eq_true rfl | (simp <;> omega))) rfl rfl) ⟨rfl, Chg.refl _ _⟩, ?_⟩
      refine ⟨.pointer (some ⟨b1, 1, none⟩), fun _ uw127 hC128 _ => Gives.run rfl (r_indexA (off' := 1) (j := 1) arr67 (b := b1) (off := 0) rfl rfl (by first | rfl | omega | (simp; omega)) (by omega) (by omega)) ⟨rfl, Chg.refl _ _⟩, ?_⟩
      refine ⟨u64 ((sh).getD 1 0#64), fun _ uw129 hC130 _ => Gives.run rfl (r_ld1 (E := E64) (l := sh) (j := 1) (a := (sh).getD 1 0#64) fits32 ((H120.ext hC130).get (k := 9) rfl) (at_getD (by first | omega | (simp only [List.length_set]; omega) | exact Nat.le_of_ble_eq_true rfl | (simp <;> omega))) rfl rfl) ⟨rfl, Chg.refl _ _⟩, ?_⟩
      refine ⟨u64 (whS (fbS fm 0) ((sh).getD 0 0#64) ((sh).getD 1 0#64)), fun _ uw131 hC132 _ => Gives.call rfl (Enters.callL (vs := [u64 (fm), i64 ((0 : Int)), u64 ((sh).getD 0 0#64), u64 ((sh).getD 1 0#64)]) call38 rfl) (rwhole_ok fm 0 ((sh).getD 0 0#64) ((sh).getD 1 0#64) uw131), ?_⟩
      refine ⟨u64 (fm), fun _ uw133 hC134 _ => Gives.run rfl (r_move (v := u64 (fm)) rfl) ⟨rfl, Chg.refl _ _⟩, ?_⟩
      refine ⟨.pointer (some ⟨b1, 2, none⟩), fun _ uw135 hC136 _ => Gives.run rfl (r_indexA (off' := 2) (j := 2) arr67 (b := b1) (off := 0) rfl rfl (by first | rfl | omega | (simp; omega)) (by omega) (by omega)) ⟨rfl, Chg.refl _ _⟩, ?_⟩
      refine ⟨u64 ((sh).getD 2 0#64), fun _ uw137 hC138 _ => Gives.run rfl (r_ld1 (E := E64) (l := sh) (j := 2) (a := (sh).getD 2 0#64) fits32 ((H120.ext hC138).get (k := 9) rfl) (at_getD (by first | omega | (simp only [List.length_set]; omega) | exact Nat.le_of_ble_eq_true rfl | (simp <;> omega))) rfl rfl) ⟨rfl, Chg.refl _ _⟩, ?_⟩
      refine ⟨.pointer (some ⟨b1, 3, none⟩), fun _ uw139 hC140 _ => Gives.run rfl (r_indexA (off' := 3) (j := 3) arr67 (b := b1) (off := 0) rfl rfl (by first | rfl | omega | (simp; omega)) (by omega) (by omega)) ⟨rfl, Chg.refl _ _⟩, ?_⟩
      refine ⟨u64 ((sh).getD 3 0#64), fun _ uw141 hC142 _ => Gives.run rfl (r_ld1 (E := E64) (l := sh) (j := 3) (a := (sh).getD 3 0#64) fits32 ((H120.ext hC142).get (k := 9) rfl) (at_getD (by first | omega | (simp only [List.length_set]; omega) | exact Nat.le_of_ble_eq_true rfl | (simp <;> omega))) rfl rfl) ⟨rfl, Chg.refl _ _⟩, ?_⟩
      refine ⟨u64 (whS (fbS fm 1) ((sh).getD 2 0#64) ((sh).getD 3 0#64)), fun _ uw143 hC144 _ => Gives.call rfl (Enters.callL (vs := [u64 (fm), i64 ((1 : Int)), u64 ((sh).getD 2 0#64), u64 ((sh).getD 3 0#64)]) call38 rfl) (rwhole_ok fm 1 ((sh).getD 2 0#64) ((sh).getD 3 0#64) uw143), ?_⟩
      refine ⟨u64 (whS (fbS fm 0) ((sh).getD 0 0#64) ((sh).getD 1 0#64)), fun _ uw145 hC146 _ => Gives.run rfl (r_assign (v := u64 (whS (fbS fm 0) ((sh).getD 0 0#64) ((sh).getD 1 0#64))) rfl) ⟨rfl, Chg.refl _ _⟩, ?_⟩
      refine ⟨u64 (whS (fbS fm 1) ((sh).getD 2 0#64) ((sh).getD 3 0#64)), fun _ uw147 hC148 _ => Gives.run rfl (r_assign (v := u64 (whS (fbS fm 1) ((sh).getD 2 0#64) ((sh).getD 3 0#64))) rfl) ⟨rfl, Chg.refl _ _⟩, ?_⟩
      intro r152 w149 hE151 hF
      have H150 := H120.ext hE151
      refine wnil ?_
      refine thenNormal ?_
      refine seqRegion ?_
      refine sq (r_move (v := .nilIface) rfl) ?_
      refine sq (r_eqlNN isI27 rfl rfl) ?_
      refine sq (r_move (v := .bool (true)) rfl) ?_
      refine sqAny (v := .slice (ownA key114) ((evalS m.1 m.2 (inpS sh (2 * k))).length) c115) (w' := w149) (wantedSome (d' := 146) (b := true) rfl rfl rfl) (r_move (v := .slice (ownA key114) ((evalS m.1 m.2 (inpS sh (2 * k))).length) c115) rfl) ?_
      refine caAny (wantedSome (d' := 146) (b := true) rfl rfl rfl) (Enters.callL (vs := [.slice (ownA key114) ((evalS m.1 m.2 (inpS sh (2 * k))).length) c115]) call39 rfl) (cword_ok (evalS m.1 m.2 (inpS sh (2 * k))) (ownA key114) ((evalS m.1 m.2 (inpS sh (2 * k))).length) c115 (by rfl) w149 (H150.rd (k := 0) rfl hS117) (by rw [evalS_len]; omega)) ?_
      rintro _ w153 ⟨rfl, hE154⟩
      have H155 := H150.ext hE154
      refine sqAny (v := i64 ((kd : Nat))) (w' := w153) (wantedSome (d' := 146) (b := true) rfl rfl rfl) (r_move (v := i64 ((kd : Nat))) rfl) ?_
      refine sqAny (v := u64 (whS (fbS fm 0) ((sh).getD 0 0#64) ((sh).getD 1 0#64))) (w' := w153) (wantedSome (d' := 146) (b := true) rfl rfl rfl) (r_move (v := u64 (whS (fbS fm 0) ((sh).getD 0 0#64) ((sh).getD 1 0#64))) rfl) ?_
      refine sqAny (v := u64 (whS (fbS fm 1) ((sh).getD 2 0#64) ((sh).getD 3 0#64))) (w' := w153) (wantedSome (d' := 146) (b := true) rfl rfl rfl) (r_move (v := u64 (whS (fbS fm 1) ((sh).getD 2 0#64) ((sh).getD 3 0#64))) rfl) ?_
      refine caAny (wantedSome (d' := 146) (b := true) rfl rfl rfl) (Enters.callL (vs := [i64 ((kd : Nat)), u64 (whS (fbS fm 0) ((sh).getD 0 0#64) ((sh).getD 1 0#64)), u64 (whS (fbS fm 1) ((sh).getD 2 0#64) ((sh).getD 3 0#64))]) call40 rfl) (rsays_ok kd (whS (fbS fm 0) ((sh).getD 0 0#64) ((sh).getD 1 0#64)) (whS (fbS fm 1) ((sh).getD 2 0#64) ((sh).getD 3 0#64)) w153) ?_
      rintro _ w156 ⟨rfl, hE157⟩
      have H158 := H155.ext hE157
      refine sqAny (v := .bool (true)) (w' := w156) (wantedSome (d' := 146) (b := true) rfl rfl rfl) ((r_eql64 (a := wordS (evalS m.1 m.2 (inpS sh (2 * k))) 64) (b := saysS kd (whS (fbS fm 0) ((sh).getD 0 0#64) ((sh).getD 1 0#64)) (whS (fbS fm 1) ((sh).getD 2 0#64) ((sh).getD 3 0#64))) rfl rfl).as (v' := .bool (true)) (by exact congrArg Value.bool (decide_eq_true hA.says))) ?_
      refine sq (r_pickT (u := .bool (true)) rfl rfl) ?_
      refine sq (r_assign (v := .bool (true)) rfl) ?_
      refine wend ?_
      refine retAny ?_
      refine retG (rs := [.tmp 6]) (vs := [.bool (true)]) rfl ⟨⟨rfl, rfl⟩, trivial⟩ ?_
      exact ⟨_, rfl, rfl, H158.chg⟩
end Go.Proofs.YteofdmdpaejgaaaDoor.Cm
namespace Go.Proofs.YteofdmdpaejgaaaDoor.Cm
open Go Go.Proofs.YteofdmdpaejgaaaDoor.Vc Go.Proofs.YteofdmdpaejgaaaDoor.Er Go.Proofs.YteofdmdpaejgaaaDoor.Circ
set_option linter.unusedVariables false
theorem call26 : callable Tryd.prog 26 = true := by kernel_rfl
set_option maxHeartbeats 1000000 in
theorem cmk_bad (kd : Int) (fm : BitVec 64) (sh : List (BitVec 64)) (hsh : sh.length = 4) (hb : ¬ (kd = 1 ∧ fm < 2#64) ∧ ¬ ((kd = 2 ∨ kd = 3) ∧ fm < 4#64)) (w : World) (hG : Gl w) : Calls Tryd.prog 8 [i64 kd, u64 fm, .agg (cel E64 sh).toArray].toArray w (Ret fun v w' => v = .bool true ∧ Ext w w') := by
  have H := Hp.start No w
  refine enter (n := 155) Tryd.func8 rfl rfl (Nat.le_of_ble_eq_true rfl) ?_
  refine seqRegion ?_
  refine q_box (v := .agg (cel E64 sh).toArray) (o := .cells (cel E64 sh).toArray 67 (0, 0)) H rfl (by rfl) ?_
  intro b1 w2 hb1 H3 hE4
  refine sq (r_assign (v := .bool (false)) rfl) ?_
  refine wend ?_
  refine seqAny ?_
  refine seqRegion ?_
  refine c_call (vs := []) call28 rfl (cawake_ok w2 (Chg.gl H3.chg (fun x => x) hG)) ?_
  rintro _ w5 ⟨rfl, hE6⟩
  have H7 := H3.ext hE6
  refine sq (r_notT rfl) ?_
  refine wend ?_
  refine condFalse rfl ?_
  refine skipAny ?_
  refine thenNormal ?_
  refine seqRegion ?_
  refine sq (r_move (v := i64 (kd)) rfl) ?_
  refine sq (r_move (v := u64 (fm)) rfl) ?_
  refine c_call (vs := [i64 (kd), u64 (fm)]) call29 rfl (make_bad kd fm w5 (Chg.gl H7.chg (fun x => x) hG) hb) ?_
  rintro _ w8 ⟨⟨ev10, rfl, hEr11⟩, hE12⟩
  have H13 := H7.ext hE12
  obtain ⟨T14, x15, rfl⟩ := hEr11.iface
  refine sq (r_move (v := .tuple #[.agg #[i64 ((0 : Int)), .slice none 0 0, .slice none 0 0], .iface T14 (x15)]) rfl) ?_
  refine sq (r_extract (vs := #[.agg #[i64 ((0 : Int)), .slice none 0 0, .slice none 0 0], .iface T14 (x15)]) rfl rfl) ?_
  refine sq (r_extract (vs := #[.agg #[i64 ((0 : Int)), .slice none 0 0, .slice none 0 0], .iface T14 (x15)]) rfl rfl) ?_
  refine q_alloc (o := .cells #[i64 ((0 : Int)), .slice none 0 0, .slice none 0 0] 70 (0, 0)) H13 zer70 (by kernel_rfl) ?_
  intro b16 w17 hb16 H18 hE19
  refine d_store (k := 0) (v := .agg #[i64 ((0 : Int)), .slice none 0 0, .slice none 0 0]) (cs' := #[i64 ((0 : Int)), .slice none 0 0, .slice none 0 0]) H18 rfl rfl rfl siz70 (by rfl) (by intro u hu; simp [Value.cells] at hu; first | (subst hu; rfl) | (rcases hu with rfl | rfl | rfl <;> rfl)) (by exact Nat.le_of_ble_eq_true rfl) (by rfl) ?_
  intro w20 H21 hC22
  have H21' := H21.as (L' := [(some b16, .cells #[i64 ((0 : Int)), .slice none 0 0, .slice none 0 0] 70 (0, 0)), (some b1, .cells (cel E64 sh).toArray 67 (0, 0))]) rfl
  clear H21
  refine sq (r_assign (v := .iface T14 (x15)) rfl) ?_
  refine wend ?_
  refine seqRegion ?_
  refine sq (r_move (v := i64 (kd)) rfl) ?_
  refine sq (r_move (v := u64 (fm)) rfl) ?_
  refine c_call (vs := [i64 (kd), u64 (fm)]) call30 rfl ((by have h := rnop_ok kd fm w20; rw [nop_bad hb] at h; exact h)) ?_
  rintro _ w23 ⟨rfl, hE24⟩
  have H25 := H21'.ext hE24
  refine sq (r_assign (v := i64 ((0 : Nat))) rfl) ?_
  refine wend ?_
  refine seqAny ?_
  refine seqRegion ?_
  refine sq (r_move (v := i64 ((0 : Nat))) rfl) ?_
  refine sq ((r_eqlI (a := (0 : Nat)) (b := (0 : Int)) rfl rfl).as (v' := .bool (true)) (by rfl)) ?_
  refine wend ?_
  refine condTrue rfl ?_
  refine seqRegion ?_
  refine sq (r_move (v := .iface T14 (x15)) rfl) ?_
  refine c_call (vs := [.iface T14 (x15)]) call26 rfl (code_ok 1 1 w5.heap.size (.iface T14 (x15)) w23 (Chg.gl H25.chg (fun x => x) hG) ((Er.chgs (((Ext.chg (M := fun x => x = b16) hE19).trans (hC22.mono (M' := fun x => x = b16) (fun _ h => by subst h; simp))).trans (Ext.chg (M := fun x => x = b16) hE24)) (fun x h1 h2 h3 => by have := hE19.size; have := hC22.size; have := hE24.size; rcases h3 with rfl <;> omega) hEr11))) ?_
  rintro _ w26 ⟨rfl, hE27⟩
  have H28 := H25.ext hE27
  refine sq ((r_eqlI (a := 1) (b := (1 : Int)) rfl rfl).as (v' := .bool (true)) (by rfl)) ?_
  refine sq (r_move (v := .bool (true)) rfl) ?_
  refine sqAny (v := .pointer (some ⟨b16, 1, none⟩)) (w' := w26) (wantedSome (d' := 34) (b := true) rfl rfl rfl) (r_fieldAddr (off' := 1) fld70_1 (by decide) (b := b16) (off := 0) rfl (by omega)) ?_
  refine sqAny (v := .slice none 0 0) (w' := w26) (wantedSome (d' := 34) (b := true) rfl rfl rfl) (r_loadC (v := .slice none 0 0) one68 (H28.get (k := 0) rfl) (off := 1) rfl (by rfl)) ?_
  refine sqAny (v := i64 ((0 : Nat))) (w' := w26) (wantedSome (d' := 34) (b := true) rfl rfl rfl) (r_lenS sli68 (a := none) (m := 0) (c := 0) rfl) ?_
  refine sqAny (v := .pointer (some ⟨b16, 2, none⟩)) (w' := w26) (wantedSome (d' := 34) (b := true) rfl rfl rfl) (r_fieldAddr (off' := 2) fld70_2 (by decide) (b := b16) (off := 0) rfl (by omega)) ?_
  refine sqAny (v := .slice none 0 0) (w' := w26) (wantedSome (d' := 34) (b := true) rfl rfl rfl) (r_loadC (v := .slice none 0 0) one60 (H28.get (k := 0) rfl) (off := 2) rfl (by rfl)) ?_
  refine sqAny (v := i64 ((0 : Nat))) (w' := w26) (wantedSome (d' := 34) (b := true) rfl rfl rfl) (r_lenS sli60 (a := none) (m := 0) (c := 0) rfl) ?_
  refine sqAny (v := i64 ((0 : Nat) + (0 : Nat))) (w' := w26) (wantedSome (d' := 34) (b := true) rfl rfl rfl) (r_addI (a := (0 : Nat)) (b := (0 : Nat)) rfl rfl (by omega)) ?_
  refine sqAny (v := .pointer (some ⟨b16, 0, none⟩)) (w' := w26) (wantedSome (d' := 34) (b := true) rfl rfl rfl) (r_fieldAddr (off' := 0) fld70_0 (by decide) (b := b16) (off := 0) rfl (by omega)) ?_
  refine sqAny (v := i64 ((0 : Int))) (w' := w26) (wantedSome (d' := 34) (b := true) rfl rfl rfl) (r_loadC (v := i64 ((0 : Int))) one3 (H28.get (k := 0) rfl) (off := 0) rfl (by rfl)) ?_
  refine sqAny (v := i64 (((0 : Nat) + (0 : Nat)) + (0 : Int))) (w' := w26) (wantedSome (d' := 34) (b := true) rfl rfl rfl) (r_addI (a := (0 : Nat) + (0 : Nat)) (b := (0 : Int)) rfl rfl (by omega)) ?_
  refine sqAny (v := .bool (true)) (w' := w26) (wantedSome (d' := 34) (b := true) rfl rfl rfl) ((r_eqlI (a := ((0 : Nat) + (0 : Nat)) + (0 : Int)) (b := (0 : Int)) rfl rfl).as (v' := .bool (true)) (by rfl)) ?_
  refine sq (r_pickT (u := .bool (true)) rfl rfl) ?_
  refine sq (r_assign (v := .bool (true)) rfl) ?_
  refine wend ?_
  refine retAny ?_
  refine thenRet ?_
  refine retG (rs := [.tmp 6]) (vs := [.bool (true)]) rfl ⟨⟨rfl, rfl⟩, trivial⟩ ?_
  exact ⟨_, rfl, rfl, H28.chg⟩
theorem cmk_ok (kd : Int) (fm : BitVec 64) (sh : List (BitVec 64)) (hsh : sh.length = 4) (w : World) (hG : Gl w) : Calls Tryd.prog 8 [i64 kd, u64 fm, .agg (cel E64 sh).toArray].toArray w (Ret fun v w' => v = .bool true ∧ Ext w w') := by
  by_cases h1 : kd = 1 ∧ fm < 2#64
  · obtain ⟨rfl, hf⟩ := h1
    exact cmk_good 1 128 1 (mk1 (fbS fm 0)) fm sh hsh (nop_one fm hf) (by decide) (by decide) rfl (fun w => make_k1 fm hf w) (fun w => rmake_k1 fm hf w) (ans1 sh fm) (Nat.le_trans (ans1 sh fm).is.gates (by decide)) w hG
  by_cases h2 : (kd = 2 ∨ kd = 3) ∧ fm < 4#64
  · obtain ⟨rfl | rfl, hf⟩ := h2
    · exact cmk_good 2 256 2 (mk2 (fbS fm 0) (fbS fm 1)) fm sh hsh (nop_two fm hf) (by decide) (by decide) rfl (fun w => make_k2 fm hf w) (fun w => rmake_k2 fm hf w) (ans2 sh fm) (Nat.le_trans (ans2 sh fm).is.gates (by decide)) w hG
    · exact cmk_good 3 256 2 (mk3 (fbS fm 0) (fbS fm 1)) fm sh hsh (nop_three fm hf) (by decide) (by decide) rfl (fun w => make_k3 fm hf w) (fun w => rmake_k3 fm hf w) (ans3 sh fm) (Nat.le_trans (ans3 sh fm).is.gates (by decide)) w hG
  exact cmk_bad kd fm sh hsh ⟨h1, h2⟩ w hG
end Go.Proofs.YteofdmdpaejgaaaDoor.Cm
