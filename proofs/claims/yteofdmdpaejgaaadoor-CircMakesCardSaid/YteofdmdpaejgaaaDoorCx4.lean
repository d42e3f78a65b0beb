/- What the claim has need of: Cm10, Cm11, Cm12, Cm13, Cm14. -/
import Derived.Test.YteofdmdpaejgaaaDoorCx3
namespace Go.Proofs.YteofdmdpaejgaaaDoor.Cm
open Go Go.Proofs.YteofdmdpaejgaaaDoor.Vc Go.Proofs.YteofdmdpaejgaaaDoor.Er Go.Proofs.YteofdmdpaejgaaaDoor.Circ
set_option linter.unusedVariables false
theorem call105 : callable Tryd.prog 105 = true := by kernel_rfl
set_option maxHeartbeats 1000000 in
theorem ropa_ok (n : Nat) (key : Option Nat) (c : Nat) (sp : List Value) (gs : List Gt) (hSw : Sl EG key gs c sp) (hn : n ≤ 1000) (hlen : gs.length ≤ 3000) (oa : Option Addr) (on oc : Nat) (pa pb : Nat) (hpa : pa ≤ 1000) (hpb : pb ≤ 1000) (R : List (Option Nat × Obj)) (w₀ w : World) (H : Hp No w₀ w ((key, sob EG 85 gs sp) :: R)) : Calls Tryd.prog 79 [.agg #[i64 ((n : Nat)), .slice (ownA key) (List.length gs) c, .slice oa on oc], i64 ((pa : Nat) : Int), i64 ((pb : Nat) : Int), .bool false].toArray w (Ret fun v w' => ∃ (key' : Option Nat) (c' : Nat) (sp' : List Value) (ko : Option Nat) (co : Nat) (so : List Value), v = .tuple #[.agg #[i64 ((n : Nat)), .slice (ownA key') (List.length ((adT n gs (inW pa 64) (inW pb 64) 64).1)) c', .slice oa on oc], .slice (ownA ko) 64 co] ∧ Sl EG key' ((adT n gs (inW pa 64) (inW pb 64) 64).1) c' sp' ∧ Sl EI ko ((adT n gs (inW pa 64) (inW pb 64) 64).2.1) co so ∧ Hp No w₀ w' ((key', sob EG 85 ((adT n gs (inW pa 64) (inW pb 64) 64).1) sp') :: (ko, sob EI 3 ((adT n gs (inW pa 64) (inW pb 64) 64).2.1) so) :: R)) := by
  skip
  refine enter (n := 70) Tryd.func79 rfl rfl (Nat.le_of_ble_eq_true rfl) ?_
  refine seqRegion ?_
  refine q_box (v := .agg #[i64 ((n : Nat)), .slice (ownA key) (List.length gs) c, .slice oa on oc]) (o := .cells #[i64 ((n : Nat)), .slice (ownA key) (List.length gs) c, .slice oa on oc] 80 (0, 0)) H rfl (by rfl) ?_
  intro b1 w2 hb1 H3 hE4
  refine q_alloc (o := .cells #[i64 ((0 : Int)), .slice none 0 0, .slice none 0 0] 80 (0, 0)) H3 zer80 (by kernel_rfl) ?_
  intro b5 w6 hb5 H7 hE8
  refine sq (r_assign (v := .slice none 0 0) rfl) ?_
  refine wend ?_
  refine seqRegion ?_
  refine sq (r_assign (v := .slice none 0 0) rfl) ?_
  have H9 := H7.nil (sob EI 3 [] [])
  refine wend ?_
  refine seqRegion ?_
  refine sq (r_assign (v := i64 ((0 : Int))) rfl) ?_
  refine wend ?_
  refine seqAny ?_
  refine seqRegion ?_
  refine sq (r_assign (v := i64 ((0 : Int))) rfl) ?_
  refine wend ?_
  refine blockAny ?_
  refine loopAny (σ := Nat × Option Nat × Nat × List Value × Option Nat × Nat × List Value) (fun (i, kz, cz, sz, ko, co, so) => [(1, i64 ((pa : Nat))), (2, i64 ((pb : Nat))), (3, .bool (false)), (4, .pointer (some ⟨b1, 0, none⟩)), (8, .pointer (some ⟨b5, 0, none⟩)), (10, .slice (ownA ko) i co), (11, i64 ((adT n gs (inW pa 64) (inW pb 64) i).2.2)), (12, i64 ((i : Nat)))]) (fun (i, kz, cz, sz, ko, co, so) w' => (i ≤ 64 ∧ Sl EG kz (adT n gs (inW pa 64) (inW pb 64) i).1 cz sz ∧ Sl EI ko (adT n gs (inW pa 64) (inW pb 64) i).2.1 co so) ∧ Hp No w₀ w' ((kz, sob EG 85 ((adT n gs (inW pa 64) (inW pb 64) i).1) sz) :: (ko, sob EI 3 ((adT n gs (inW pa 64) (inW pb 64) i).2.1) so) :: (some b1, .cells #[i64 ((n : Nat)), .slice (ownA kz) (List.length ((adT n gs (inW pa 64) (inW pb 64) i).1)) cz, .slice oa on oc] 80 (0, 0)) :: (some b5, .cells #[i64 ((0 : Int)), .slice none 0 0, .slice none 0 0] 80 (0, 0)) :: R)) (fun (i, kz, cz, sz, ko, co, so) => 64 - i) ((0, key, c, sp, none, 0, [])) ?_ ?_ ?_
  · exact ⟨rfl, rfl, rfl, rfl, rfl, rfl, rfl, rfl, trivial⟩
  · exact ⟨⟨by omega, hSw, Sl.none⟩, (H9.pick 4 [3, 0, 2, 1] (by decide) (by decide))⟩
  rintro ⟨i, kz, cz, sz, ko, co, so⟩ ρ w10 ⟨⟨hq, hSz, hSo⟩, HL⟩
  have hol := adT_len n gs (inW pa 64) (inW pb 64) i
  refine seqAny ?_
  refine seqRegion ?_
  refine sq (r_move (v := i64 ((i : Nat))) rfl) ?_
  refine sq (r_lssI (a := (i : Nat)) (b := (64 : Int)) rfl rfl) ?_
  refine wend ?_
  refine condProp (((i : Nat) : Int) < (64 : Int)) rfl (fun c15 => ?_) (fun c15 => ?_)
  · skip
    refine skipAny ?_
    refine thenNormal ?_
    refine seqAny ?_
    refine blockAny ?_
    refine seqRegion ?_
    refine sq (r_assign (v := i64 ((0 : Int))) rfl) ?_
    refine wend ?_
    refine seqRegion ?_
    refine sq (r_loadA (cs' := #[i64 ((n : Nat)), .slice (ownA kz) (List.length ((adT n gs (inW pa 64) (inW pb 64) i).1)) cz, .slice oa on oc]) agg80 siz80 (HL.get (k := 2) rfl) (off := 0) rfl (by exact Nat.le_of_ble_eq_true rfl) (by rfl)) ?_
    refine sq (r_move (v := i64 ((pa : Nat))) rfl) ?_
    refine sq (r_move (v := i64 ((i : Nat))) rfl) ?_
    refine sq ((r_addI (a := (pa : Nat)) (b := (i : Nat)) rfl rfl (by omega)).as (v' := i64 ((inW pa 64).getD i 0)) (by exact congrArg i64 (by rw [inW_at _ _ _ (by omega)]; omega))) ?_
    refine sq (r_move (v := i64 ((pb : Nat))) rfl) ?_
    refine sq (r_move (v := i64 ((i : Nat))) rfl) ?_
    refine sq ((r_addI (a := (pb : Nat)) (b := (i : Nat)) rfl rfl (by omega)).as (v' := i64 ((inW pb 64).getD i 0)) (by exact congrArg i64 (by rw [inW_at _ _ _ (by omega)]; omega))) ?_
    have H12 := (HL).as (L' := ((kz, sob EG 85 ((adT n gs (inW pa 64) (inW pb 64) i).1) sz) :: ((ko, sob EI 3 ((adT n gs (inW pa 64) (inW pb 64) i).2.1) so) :: (some b1, .cells #[i64 ((n : Nat)), .slice (ownA kz) (List.length ((adT n gs (inW pa 64) (inW pb 64) i).1)) cz, .slice oa on oc] 80 (0, 0)) :: (some b5, .cells #[i64 ((0 : Int)), .slice none 0 0, .slice none 0 0] 80 (0, 0)) :: R))) rfl
    refine c_call (vs := [.agg #[i64 ((n : Nat)), .slice (ownA kz) (List.length ((adT n gs (inW pa 64) (inW pb 64) i).1)) cz, .slice oa on oc], i64 ((1 : Int)), i64 ((inW pa 64).getD i 0), i64 ((inW pb 64).getD i 0)]) call80 rfl (rput_ok n kz cz sz ((adT n gs (inW pa 64) (inW pb 64) i).1) hSz hn (by omega) oa on oc (1 : Int) ((inW pa 64).getD i 0) ((inW pb 64).getD i 0) ((ko, sob EI 3 ((adT n gs (inW pa 64) (inW pb 64) i).2.1) so) :: (some b1, .cells #[i64 ((n : Nat)), .slice (ownA kz) (List.length ((adT n gs (inW pa 64) (inW pb 64) i).1)) cz, .slice oa on oc] 80 (0, 0)) :: (some b5, .cells #[i64 ((0 : Int)), .slice none 0 0, .slice none 0 0] 80 (0, 0)) :: R) w₀ w10 H12) ?_
    rintro _ w13 ⟨wx15, key16, c17, sp18, hwx15, rfl, hS19, HN20⟩
    have H21 := HN20.as (L' := ((key16, sob EG 85 (((adT n gs (inW pa 64) (inW pb 64) i).1) ++ [(⟨(1 : Int), (inW pa 64).getD i 0, (inW pb 64).getD i 0⟩ : Gt)]) sp18) :: (ko, sob EI 3 ((adT n gs (inW pa 64) (inW pb 64) i).2.1) so) :: (some b1, .cells #[i64 ((n : Nat)), .slice (ownA kz) (List.length ((adT n gs (inW pa 64) (inW pb 64) i).1)) cz, .slice oa on oc] 80 (0, 0)) :: (some b5, .cells #[i64 ((0 : Int)), .slice none 0 0, .slice none 0 0] 80 (0, 0)) :: R)) rfl
    refine sq (r_move (v := .tuple #[.agg #[i64 ((n : Nat)), .slice (ownA key16) (List.length (((adT n gs (inW pa 64) (inW pb 64) i).1) ++ [(⟨(1 : Int), (inW pa 64).getD i 0, (inW pb 64).getD i 0⟩ : Gt)])) c17, .slice oa on oc], i64 (wx15)]) rfl) ?_
    refine sq (r_extract (vs := #[.agg #[i64 ((n : Nat)), .slice (ownA key16) (List.length (((adT n gs (inW pa 64) (inW pb 64) i).1) ++ [(⟨(1 : Int), (inW pa 64).getD i 0, (inW pb 64).getD i 0⟩ : Gt)])) c17, .slice oa on oc], i64 (wx15)]) rfl rfl) ?_
    refine sq (r_extract (vs := #[.agg #[i64 ((n : Nat)), .slice (ownA key16) (List.length (((adT n gs (inW pa 64) (inW pb 64) i).1) ++ [(⟨(1 : Int), (inW pa 64).getD i 0, (inW pb 64).getD i 0⟩ : Gt)])) c17, .slice oa on oc], i64 (wx15)]) rfl rfl) ?_
    refine d_store (k := 2) (v := .agg #[i64 ((n : Nat)), .slice (ownA key16) (List.length (((adT n gs (inW pa 64) (inW pb 64) i).1) ++ [(⟨(1 : Int), (inW pa 64).getD i 0, (inW pb 64).getD i 0⟩ : Gt)])) c17, .slice oa on oc]) (cs' := #[i64 ((n : Nat)), .slice (ownA key16) (List.length (((adT n gs (inW pa 64) (inW pb 64) i).1) ++ [(⟨(1 : Int), (inW pa 64).getD i 0, (inW pb 64).getD i 0⟩ : Gt)])) c17, .slice oa on oc]) H21 rfl rfl rfl siz80 (by rfl) (by intro u hu; simp [Value.cells] at hu; first | (subst hu; rfl) | (rcases hu with rfl | rfl | rfl <;> rfl)) (by exact Nat.le_of_ble_eq_true rfl) (by rfl) ?_
    intro w22 H23 hC24
    have H23' := H23.as (L' := ((key16, sob EG 85 (((adT n gs (inW pa 64) (inW pb 64) i).1) ++ [(⟨(1 : Int), (inW pa 64).getD i 0, (inW pb 64).getD i 0⟩ : Gt)]) sp18) :: (ko, sob EI 3 ((adT n gs (inW pa 64) (inW pb 64) i).2.1) so) :: (some b1, .cells #[i64 ((n : Nat)), .slice (ownA key16) (List.length (((adT n gs (inW pa 64) (inW pb 64) i).1) ++ [(⟨(1 : Int), (inW pa 64).getD i 0, (inW pb 64).getD i 0⟩ : Gt)])) c17, .slice oa on oc] 80 (0, 0)) :: (some b5, .cells #[i64 ((0 : Int)), .slice none 0 0, .slice none 0 0] 80 (0, 0)) :: R)) rfl
    clear H23
    refine sq (r_assign (v := i64 (wx15)) rfl) ?_
    refine wend ?_
    refine seqAny ?_
    refine seqRegion ?_
    refine sq (r_move (v := .bool (false)) rfl) ?_
    refine wend ?_
    refine condFalse rfl ?_
    refine skipAny ?_
    refine thenNormal ?_
    refine seqAny ?_
    refine seqRegion ?_
    refine sq (r_move (v := i64 ((i : Nat))) rfl) ?_
    refine sq (r_eqlI (a := (i : Nat)) (b := (0 : Int)) rfl rfl) ?_
    refine wend ?_
    refine condProp (((i : Nat) : Int) = (0 : Int)) rfl (fun c35 => ?_) (fun c35 => ?_)
    · skip
      obtain rfl : i = 0 := by omega
      refine oneRegion ?_
      refine sq (r_loadA (cs' := #[i64 ((n : Nat)), .slice (ownA key16) (List.length (((adT n gs (inW pa 64) (inW pb 64) 0).1) ++ [(⟨(1 : Int), (inW pa 64).getD 0 0, (inW pb 64).getD 0 0⟩ : Gt)])) c17, .slice oa on oc]) agg80 siz80 (H23'.get (k := 2) rfl) (off := 0) rfl (by exact Nat.le_of_ble_eq_true rfl) (by rfl)) ?_
      refine sq ((r_move (v := i64 ((pa : Nat))) rfl).as (v' := i64 ((inW pa 64).getD 0 0)) (by exact congrArg i64 (by rw [inW_at _ _ _ (by omega)]; omega))) ?_
      refine sq ((r_move (v := i64 ((pb : Nat))) rfl).as (v' := i64 ((inW pb 64).getD 0 0)) (by exact congrArg i64 (by rw [inW_at _ _ _ (by omega)]; omega))) ?_
      have H25 := (H23').as (L' := ((key16, sob EG 85 (((adT n gs (inW pa 64) (inW pb 64) 0).1) ++ [(⟨(1 : Int), (inW pa 64).getD 0 0, (inW pb 64).getD 0 0⟩ : Gt)]) sp18) :: ((ko, sob EI 3 ((adT n gs (inW pa 64) (inW pb 64) 0).2.1) so) :: (some b1, .cells #[i64 ((n : Nat)), .slice (ownA key16) (List.length (((adT n gs (inW pa 64) (inW pb 64) 0).1) ++ [(⟨(1 : Int), (inW pa 64).getD 0 0, (inW pb 64).getD 0 0⟩ : Gt)])) c17, .slice oa on oc] 80 (0, 0)) :: (some b5, .cells #[i64 ((0 : Int)), .slice none 0 0, .slice none 0 0] 80 (0, 0)) :: R))) rfl
      refine c_call (vs := [.agg #[i64 ((n : Nat)), .slice (ownA key16) (List.length (((adT n gs (inW pa 64) (inW pb 64) 0).1) ++ [(⟨(1 : Int), (inW pa 64).getD 0 0, (inW pb 64).getD 0 0⟩ : Gt)])) c17, .slice oa on oc], i64 ((2 : Int)), i64 ((inW pa 64).getD 0 0), i64 ((inW pb 64).getD 0 0)]) call80 rfl (rput_ok n key16 c17 sp18 (((adT n gs (inW pa 64) (inW pb 64) 0).1) ++ [(⟨(1 : Int), (inW pa 64).getD 0 0, (inW pb 64).getD 0 0⟩ : Gt)]) hS19 hn (by simp only [List.length_append, List.length_cons, List.length_nil]; omega) oa on oc (2 : Int) ((inW pa 64).getD 0 0) ((inW pb 64).getD 0 0) ((ko, sob EI 3 ((adT n gs (inW pa 64) (inW pb 64) 0).2.1) so) :: (some b1, .cells #[i64 ((n : Nat)), .slice (ownA key16) (List.length (((adT n gs (inW pa 64) (inW pb 64) 0).1) ++ [(⟨(1 : Int), (inW pa 64).getD 0 0, (inW pb 64).getD 0 0⟩ : Gt)])) c17, .slice oa on oc] 80 (0, 0)) :: (some b5, .cells #[i64 ((0 : Int)), .slice none 0 0, .slice none 0 0] 80 (0, 0)) :: R) w₀ w22 H25) ?_
      rintro _ w26 ⟨wx28, key29, c30, sp31, hwx28, rfl, hS32, HN33⟩
      have H34 := HN33.as (L' := ((key29, sob EG 85 (((adT n gs (inW pa 64) (inW pb 64) 0).1) ++ [(⟨(1 : Int), (inW pa 64).getD 0 0, (inW pb 64).getD 0 0⟩ : Gt)] ++ [(⟨(2 : Int), (inW pa 64).getD 0 0, (inW pb 64).getD 0 0⟩ : Gt)]) sp31) :: (ko, sob EI 3 ((adT n gs (inW pa 64) (inW pb 64) 0).2.1) so) :: (some b1, .cells #[i64 ((n : Nat)), .slice (ownA key16) (List.length (((adT n gs (inW pa 64) (inW pb 64) 0).1) ++ [(⟨(1 : Int), (inW pa 64).getD 0 0, (inW pb 64).getD 0 0⟩ : Gt)])) c17, .slice oa on oc] 80 (0, 0)) :: (some b5, .cells #[i64 ((0 : Int)), .slice none 0 0, .slice none 0 0] 80 (0, 0)) :: R)) rfl
      refine sq (r_move (v := .tuple #[.agg #[i64 ((n : Nat)), .slice (ownA key29) (List.length (((adT n gs (inW pa 64) (inW pb 64) 0).1) ++ [(⟨(1 : Int), (inW pa 64).getD 0 0, (inW pb 64).getD 0 0⟩ : Gt)] ++ [(⟨(2 : Int), (inW pa 64).getD 0 0, (inW pb 64).getD 0 0⟩ : Gt)])) c30, .slice oa on oc], i64 (wx28)]) rfl) ?_
      refine sq (r_extract (vs := #[.agg #[i64 ((n : Nat)), .slice (ownA key29) (List.length (((adT n gs (inW pa 64) (inW pb 64) 0).1) ++ [(⟨(1 : Int), (inW pa 64).getD 0 0, (inW pb 64).getD 0 0⟩ : Gt)] ++ [(⟨(2 : Int), (inW pa 64).getD 0 0, (inW pb 64).getD 0 0⟩ : Gt)])) c30, .slice oa on oc], i64 (wx28)]) rfl rfl) ?_
      refine sq (r_extract (vs := #[.agg #[i64 ((n : Nat)), .slice (ownA key29) (List.length (((adT n gs (inW pa 64) (inW pb 64) 0).1) ++ [(⟨(1 : Int), (inW pa 64).getD 0 0, (inW pb 64).getD 0 0⟩ : Gt)] ++ [(⟨(2 : Int), (inW pa 64).getD 0 0, (inW pb 64).getD 0 0⟩ : Gt)])) c30, .slice oa on oc], i64 (wx28)]) rfl rfl) ?_
      refine d_store (k := 2) (v := .agg #[i64 ((n : Nat)), .slice (ownA key29) (List.length (((adT n gs (inW pa 64) (inW pb 64) 0).1) ++ [(⟨(1 : Int), (inW pa 64).getD 0 0, (inW pb 64).getD 0 0⟩ : Gt)] ++ [(⟨(2 : Int), (inW pa 64).getD 0 0, (inW pb 64).getD 0 0⟩ : Gt)])) c30, .slice oa on oc]) (cs' := #[i64 ((n : Nat)), .slice (ownA key29) (List.length (((adT n gs (inW pa 64) (inW pb 64) 0).1) ++ [(⟨(1 : Int), (inW pa 64).getD 0 0, (inW pb 64).getD 0 0⟩ : Gt)] ++ [(⟨(2 : Int), (inW pa 64).getD 0 0, (inW pb 64).getD 0 0⟩ : Gt)])) c30, .slice oa on oc]) H34 rfl rfl rfl siz80 (by rfl) (by intro u hu; simp [Value.cells] at hu; first | (subst hu; rfl) | (rcases hu with rfl | rfl | rfl <;> rfl)) (by exact Nat.le_of_ble_eq_true rfl) (by rfl) ?_
      intro w35 H36 hC37
      have H36' := H36.as (L' := ((key29, sob EG 85 (((adT n gs (inW pa 64) (inW pb 64) 0).1) ++ [(⟨(1 : Int), (inW pa 64).getD 0 0, (inW pb 64).getD 0 0⟩ : Gt)] ++ [(⟨(2 : Int), (inW pa 64).getD 0 0, (inW pb 64).getD 0 0⟩ : Gt)]) sp31) :: (ko, sob EI 3 ((adT n gs (inW pa 64) (inW pb 64) 0).2.1) so) :: (some b1, .cells #[i64 ((n : Nat)), .slice (ownA key29) (List.length (((adT n gs (inW pa 64) (inW pb 64) 0).1) ++ [(⟨(1 : Int), (inW pa 64).getD 0 0, (inW pb 64).getD 0 0⟩ : Gt)] ++ [(⟨(2 : Int), (inW pa 64).getD 0 0, (inW pb 64).getD 0 0⟩ : Gt)])) c30, .slice oa on oc] 80 (0, 0)) :: (some b5, .cells #[i64 ((0 : Int)), .slice none 0 0, .slice none 0 0] 80 (0, 0)) :: R)) rfl
      clear H36
      refine sq (r_assign (v := i64 (wx28)) rfl) ?_
      refine wnil ?_
      refine thenNormal ?_
      refine oneRegion ?_
      refine sq (r_move (v := .slice (ownA ko) 0 co) rfl) ?_
      refine sq (r_move (v := i64 (wx15)) rfl) ?_
      refine q_buildSlice (E := EI) (l := [wx15]) H36' sli60 zer3 (Nat.le_of_ble_eq_true rfl) (ps := [(0, i64 (wx15))]) rfl (by exact fillAll rfl rfl) rfl ?_
      intro b38 w40 hS39 H41 hE42
      refine q_append (E := EI) (k := 2) (l := (adT n gs (inW pa 64) (inW pb 64) 0).2.1) (l2 := [wx15]) H41 rfl hSo sli60 zer3 rfl byt3 (H41.rd (k := 0) rfl hS39) rfl (by exact hol.2.symm) rfl (by rfl) (by omega) ?_
      intro key43 c44 sp45 w47 hS46 hne49 H48
      have H48' := H48.as (L' := (((some b38), sob EI 3 ([wx15]) ([])) :: (key29, sob EG 85 (((adT n gs (inW pa 64) (inW pb 64) 0).1) ++ [(⟨(1 : Int), (inW pa 64).getD 0 0, (inW pb 64).getD 0 0⟩ : Gt)] ++ [(⟨(2 : Int), (inW pa 64).getD 0 0, (inW pb 64).getD 0 0⟩ : Gt)]) sp31) :: (key43, sob EI 3 (((adT n gs (inW pa 64) (inW pb 64) 0).2.1) ++ ([wx15])) sp45) :: (some b1, .cells #[i64 ((n : Nat)), .slice (ownA key29) (List.length (((adT n gs (inW pa 64) (inW pb 64) 0).1) ++ [(⟨(1 : Int), (inW pa 64).getD 0 0, (inW pb 64).getD 0 0⟩ : Gt)] ++ [(⟨(2 : Int), (inW pa 64).getD 0 0, (inW pb 64).getD 0 0⟩ : Gt)])) c30, .slice oa on oc] 80 (0, 0)) :: (some b5, .cells #[i64 ((0 : Int)), .slice none 0 0, .slice none 0 0] 80 (0, 0)) :: R)) rfl
      clear H48
      refine sq (r_assign (v := .slice (ownA key43) (0 + 1) c44) rfl) ?_
      refine wnil ?_
      refine blockNormal ?_
      refine thenNormal ?_
      refine oneRegion ?_
      refine sq (r_move (v := i64 ((0 : Nat))) rfl) ?_
      refine sq (r_addI (a := (0 : Nat)) (b := (1 : Int)) rfl rfl (by omega)) ?_
      refine sq (r_assign (v := i64 ((0 : Nat) + (1 : Int))) rfl) ?_
      refine wnil ?_
      refine thenNormal ?_
      subst hwx28
      subst hwx15
      have e50 : ((adT n gs (inW pa 64) (inW pb 64) 0).1) ++ [(⟨(1 : Int), (inW pa 64).getD 0 0, (inW pb 64).getD 0 0⟩ : Gt)] ++ [(⟨(2 : Int), (inW pa 64).getD 0 0, (inW pb 64).getD 0 0⟩ : Gt)] = (adT n gs (inW pa 64) (inW pb 64) (0 + 1)).1 := by rfl
      have hS51 := hS32
      rw [e50] at hS51
      have H52 : Hp No w₀ w47 (((some b38), sob EI 3 ([(wrW n ((adT n gs (inW pa 64) (inW pb 64) 0).1))]) ([])) :: (key29, sob EG 85 ((adT n gs (inW pa 64) (inW pb 64) (0 + 1)).1) sp31) :: (key43, sob EI 3 (((adT n gs (inW pa 64) (inW pb 64) 0).2.1) ++ ([(wrW n ((adT n gs (inW pa 64) (inW pb 64) 0).1))])) sp45) :: (some b1, .cells #[i64 ((n : Nat)), .slice (ownA key29) (List.length ((adT n gs (inW pa 64) (inW pb 64) (0 + 1)).1)) c30, .slice oa on oc] 80 (0, 0)) :: (some b5, .cells #[i64 ((0 : Int)), .slice none 0 0, .slice none 0 0] 80 (0, 0)) :: R) := by rw [← e50]; exact H48'
      have e53 : ((adT n gs (inW pa 64) (inW pb 64) 0).2.1) ++ ([(wrW n ((adT n gs (inW pa 64) (inW pb 64) 0).1))]) = (adT n gs (inW pa 64) (inW pb 64) (0 + 1)).2.1 := by rfl
      have hS54 := hS46
      rw [e53] at hS54
      have H55 := H52.as (L' := (((some b38), sob EI 3 ([(wrW n ((adT n gs (inW pa 64) (inW pb 64) 0).1))]) ([])) :: (key29, sob EG 85 ((adT n gs (inW pa 64) (inW pb 64) (0 + 1)).1) sp31) :: (key43, sob EI 3 ((adT n gs (inW pa 64) (inW pb 64) (0 + 1)).2.1) sp45) :: (some b1, .cells #[i64 ((n : Nat)), .slice (ownA key29) (List.length ((adT n gs (inW pa 64) (inW pb 64) (0 + 1)).1)) c30, .slice oa on oc] 80 (0, 0)) :: (some b5, .cells #[i64 ((0 : Int)), .slice none 0 0, .slice none 0 0] 80 (0, 0)) :: R)) (by rw [e53])
      exact ⟨(0 + 1, key29, c30, sp31, key43, c44, sp45), _, rfl, ⟨rfl, rfl, rfl, rfl, rfl, congrArg (fun q => Value.slice _ q _) (by omega), congrArg i64 (by rfl), congrArg i64 (by omega), trivial⟩, ⟨⟨by omega, hS51, hS54⟩, (H55.dropk 0)⟩, by show 64 - (0 + 1) < 64 - 0; omega⟩
    · skip
      obtain ⟨j, rfl⟩ : ∃ j, i = j + 1 := ⟨i - 1, by omega⟩
      refine seqRegion ?_
      refine sq (r_loadA (cs' := #[i64 ((n : Nat)), .slice (ownA key16) (List.length (((adT n gs (inW pa 64) (inW pb 64) (j + 1)).1) ++ [(⟨(1 : Int), (inW pa 64).getD (j + 1) 0, (inW pb 64).getD (j + 1) 0⟩ : Gt)])) c17, .slice oa on oc]) agg80 siz80 (H23'.get (k := 2) rfl) (off := 0) rfl (by exact Nat.le_of_ble_eq_true rfl) (by rfl)) ?_
      refine sq (r_move (v := i64 (wx15)) rfl) ?_
      refine sq (r_move (v := i64 ((adT n gs (inW pa 64) (inW pb 64) (j + 1)).2.2)) rfl) ?_
      have H56 := (H23').as (L' := ((key16, sob EG 85 (((adT n gs (inW pa 64) (inW pb 64) (j + 1)).1) ++ [(⟨(1 : Int), (inW pa 64).getD (j + 1) 0, (inW pb 64).getD (j + 1) 0⟩ : Gt)]) sp18) :: ((ko, sob EI 3 ((adT n gs (inW pa 64) (inW pb 64) (j + 1)).2.1) so) :: (some b1, .cells #[i64 ((n : Nat)), .slice (ownA key16) (List.length (((adT n gs (inW pa 64) (inW pb 64) (j + 1)).1) ++ [(⟨(1 : Int), (inW pa 64).getD (j + 1) 0, (inW pb 64).getD (j + 1) 0⟩ : Gt)])) c17, .slice oa on oc] 80 (0, 0)) :: (some b5, .cells #[i64 ((0 : Int)), .slice none 0 0, .slice none 0 0] 80 (0, 0)) :: R))) rfl
      refine c_call (vs := [.agg #[i64 ((n : Nat)), .slice (ownA key16) (List.length (((adT n gs (inW pa 64) (inW pb 64) (j + 1)).1) ++ [(⟨(1 : Int), (inW pa 64).getD (j + 1) 0, (inW pb 64).getD (j + 1) 0⟩ : Gt)])) c17, .slice oa on oc], i64 ((1 : Int)), i64 (wx15), i64 ((adT n gs (inW pa 64) (inW pb 64) (j + 1)).2.2)]) call80 rfl (rput_ok n key16 c17 sp18 (((adT n gs (inW pa 64) (inW pb 64) (j + 1)).1) ++ [(⟨(1 : Int), (inW pa 64).getD (j + 1) 0, (inW pb 64).getD (j + 1) 0⟩ : Gt)]) hS19 hn (by simp only [List.length_append, List.length_cons, List.length_nil]; omega) oa on oc (1 : Int) wx15 ((adT n gs (inW pa 64) (inW pb 64) (j + 1)).2.2) ((ko, sob EI 3 ((adT n gs (inW pa 64) (inW pb 64) (j + 1)).2.1) so) :: (some b1, .cells #[i64 ((n : Nat)), .slice (ownA key16) (List.length (((adT n gs (inW pa 64) (inW pb 64) (j + 1)).1) ++ [(⟨(1 : Int), (inW pa 64).getD (j + 1) 0, (inW pb 64).getD (j + 1) 0⟩ : Gt)])) c17, .slice oa on oc] 80 (0, 0)) :: (some b5, .cells #[i64 ((0 : Int)), .slice none 0 0, .slice none 0 0] 80 (0, 0)) :: R) w₀ w22 H56) ?_
      rintro _ w57 ⟨wx59, key60, c61, sp62, hwx59, rfl, hS63, HN64⟩
      have H65 := HN64.as (L' := ((key60, sob EG 85 (((adT n gs (inW pa 64) (inW pb 64) (j + 1)).1) ++ [(⟨(1 : Int), (inW pa 64).getD (j + 1) 0, (inW pb 64).getD (j + 1) 0⟩ : Gt)] ++ [(⟨(1 : Int), wx15, (adT n gs (inW pa 64) (inW pb 64) (j + 1)).2.2⟩ : Gt)]) sp62) :: (ko, sob EI 3 ((adT n gs (inW pa 64) (inW pb 64) (j + 1)).2.1) so) :: (some b1, .cells #[i64 ((n : Nat)), .slice (ownA key16) (List.length (((adT n gs (inW pa 64) (inW pb 64) (j + 1)).1) ++ [(⟨(1 : Int), (inW pa 64).getD (j + 1) 0, (inW pb 64).getD (j + 1) 0⟩ : Gt)])) c17, .slice oa on oc] 80 (0, 0)) :: (some b5, .cells #[i64 ((0 : Int)), .slice none 0 0, .slice none 0 0] 80 (0, 0)) :: R)) rfl
      refine sq (r_move (v := .tuple #[.agg #[i64 ((n : Nat)), .slice (ownA key60) (List.length (((adT n gs (inW pa 64) (inW pb 64) (j + 1)).1) ++ [(⟨(1 : Int), (inW pa 64).getD (j + 1) 0, (inW pb 64).getD (j + 1) 0⟩ : Gt)] ++ [(⟨(1 : Int), wx15, (adT n gs (inW pa 64) (inW pb 64) (j + 1)).2.2⟩ : Gt)])) c61, .slice oa on oc], i64 (wx59)]) rfl) ?_
      refine sq (r_extract (vs := #[.agg #[i64 ((n : Nat)), .slice (ownA key60) (List.length (((adT n gs (inW pa 64) (inW pb 64) (j + 1)).1) ++ [(⟨(1 : Int), (inW pa 64).getD (j + 1) 0, (inW pb 64).getD (j + 1) 0⟩ : Gt)] ++ [(⟨(1 : Int), wx15, (adT n gs (inW pa 64) (inW pb 64) (j + 1)).2.2⟩ : Gt)])) c61, .slice oa on oc], i64 (wx59)]) rfl rfl) ?_
      refine sq (r_extract (vs := #[.agg #[i64 ((n : Nat)), .slice (ownA key60) (List.length (((adT n gs (inW pa 64) (inW pb 64) (j + 1)).1) ++ [(⟨(1 : Int), (inW pa 64).getD (j + 1) 0, (inW pb 64).getD (j + 1) 0⟩ : Gt)] ++ [(⟨(1 : Int), wx15, (adT n gs (inW pa 64) (inW pb 64) (j + 1)).2.2⟩ : Gt)])) c61, .slice oa on oc], i64 (wx59)]) rfl rfl) ?_
      refine d_store (k := 2) (v := .agg #[i64 ((n : Nat)), .slice (ownA key60) (List.length (((adT n gs (inW pa 64) (inW pb 64) (j + 1)).1) ++ [(⟨(1 : Int), (inW pa 64).getD (j + 1) 0, (inW pb 64).getD (j + 1) 0⟩ : Gt)] ++ [(⟨(1 : Int), wx15, (adT n gs (inW pa 64) (inW pb 64) (j + 1)).2.2⟩ : Gt)])) c61, .slice oa on oc]) (cs' := #[i64 ((n : Nat)), .slice (ownA key60) (List.length (((adT n gs (inW pa 64) (inW pb 64) (j + 1)).1) ++ [(⟨(1 : Int), (inW pa 64).getD (j + 1) 0, (inW pb 64).getD (j + 1) 0⟩ : Gt)] ++ [(⟨(1 : Int), wx15, (adT n gs (inW pa 64) (inW pb 64) (j + 1)).2.2⟩ : Gt)])) c61, .slice oa on oc]) H65 rfl rfl rfl siz80 (by rfl) (by intro u hu; simp [Value.cells] at hu; first | (subst hu; rfl) | (rcases hu with rfl | rfl | rfl <;> rfl)) (by exact Nat.le_of_ble_eq_true rfl) (by rfl) ?_
      intro w66 H67 hC68
      have H67' := H67.as (L' := ((key60, sob EG 85 (((adT n gs (inW pa 64) (inW pb 64) (j + 1)).1) ++ [(⟨(1 : Int), (inW pa 64).getD (j + 1) 0, (inW pb 64).getD (j + 1) 0⟩ : Gt)] ++ [(⟨(1 : Int), wx15, (adT n gs (inW pa 64) (inW pb 64) (j + 1)).2.2⟩ : Gt)]) sp62) :: (ko, sob EI 3 ((adT n gs (inW pa 64) (inW pb 64) (j + 1)).2.1) so) :: (some b1, .cells #[i64 ((n : Nat)), .slice (ownA key60) (List.length (((adT n gs (inW pa 64) (inW pb 64) (j + 1)).1) ++ [(⟨(1 : Int), (inW pa 64).getD (j + 1) 0, (inW pb 64).getD (j + 1) 0⟩ : Gt)] ++ [(⟨(1 : Int), wx15, (adT n gs (inW pa 64) (inW pb 64) (j + 1)).2.2⟩ : Gt)])) c61, .slice oa on oc] 80 (0, 0)) :: (some b5, .cells #[i64 ((0 : Int)), .slice none 0 0, .slice none 0 0] 80 (0, 0)) :: R)) rfl
      clear H67
      refine sq (r_assign (v := i64 (wx59)) rfl) ?_
      refine wend ?_
      refine seqRegion ?_
      refine sq (r_move (v := i64 (((j + 1) : Nat))) rfl) ?_
      refine sq (r_lssI (a := ((j + 1) : Nat)) (b := (63 : Int)) rfl rfl) ?_
      refine wend ?_
      refine condProp ((((j + 1) : Nat) : Int) < (63 : Int)) rfl (fun c51 => ?_) (fun c51 => ?_)
      · skip
        refine oneRegion ?_
        refine sq (r_loadA (cs' := #[i64 ((n : Nat)), .slice (ownA key60) (List.length (((adT n gs (inW pa 64) (inW pb 64) (j + 1)).1) ++ [(⟨(1 : Int), (inW pa 64).getD (j + 1) 0, (inW pb 64).getD (j + 1) 0⟩ : Gt)] ++ [(⟨(1 : Int), wx15, (adT n gs (inW pa 64) (inW pb 64) (j + 1)).2.2⟩ : Gt)])) c61, .slice oa on oc]) agg80 siz80 (H67'.get (k := 2) rfl) (off := 0) rfl (by exact Nat.le_of_ble_eq_true rfl) (by rfl)) ?_
        refine sq (r_move (v := i64 ((pa : Nat))) rfl) ?_
        refine sq (r_move (v := i64 (((j + 1) : Nat))) rfl) ?_
        refine sq ((r_addI (a := (pa : Nat)) (b := ((j + 1) : Nat)) rfl rfl (by omega)).as (v' := i64 ((inW pa 64).getD (j + 1) 0)) (by exact congrArg i64 (by rw [inW_at _ _ _ (by omega)]; omega))) ?_
        refine sq (r_move (v := i64 ((pb : Nat))) rfl) ?_
        refine sq (r_move (v := i64 (((j + 1) : Nat))) rfl) ?_
        refine sq ((r_addI (a := (pb : Nat)) (b := ((j + 1) : Nat)) rfl rfl (by omega)).as (v' := i64 ((inW pb 64).getD (j + 1) 0)) (by exact congrArg i64 (by rw [inW_at _ _ _ (by omega)]; omega))) ?_
        refine sq (r_move (v := i64 ((adT n gs (inW pa 64) (inW pb 64) (j + 1)).2.2)) rfl) ?_
        have H69 := (H67').as (L' := ((key60, sob EG 85 (((adT n gs (inW pa 64) (inW pb 64) (j + 1)).1) ++ [(⟨(1 : Int), (inW pa 64).getD (j + 1) 0, (inW pb 64).getD (j + 1) 0⟩ : Gt)] ++ [(⟨(1 : Int), wx15, (adT n gs (inW pa 64) (inW pb 64) (j + 1)).2.2⟩ : Gt)]) sp62) :: ((ko, sob EI 3 ((adT n gs (inW pa 64) (inW pb 64) (j + 1)).2.1) so) :: (some b1, .cells #[i64 ((n : Nat)), .slice (ownA key60) (List.length (((adT n gs (inW pa 64) (inW pb 64) (j + 1)).1) ++ [(⟨(1 : Int), (inW pa 64).getD (j + 1) 0, (inW pb 64).getD (j + 1) 0⟩ : Gt)] ++ [(⟨(1 : Int), wx15, (adT n gs (inW pa 64) (inW pb 64) (j + 1)).2.2⟩ : Gt)])) c61, .slice oa on oc] 80 (0, 0)) :: (some b5, .cells #[i64 ((0 : Int)), .slice none 0 0, .slice none 0 0] 80 (0, 0)) :: R))) rfl
        refine c_call (vs := [.agg #[i64 ((n : Nat)), .slice (ownA key60) (List.length (((adT n gs (inW pa 64) (inW pb 64) (j + 1)).1) ++ [(⟨(1 : Int), (inW pa 64).getD (j + 1) 0, (inW pb 64).getD (j + 1) 0⟩ : Gt)] ++ [(⟨(1 : Int), wx15, (adT n gs (inW pa 64) (inW pb 64) (j + 1)).2.2⟩ : Gt)])) c61, .slice oa on oc], i64 ((inW pa 64).getD (j + 1) 0), i64 ((inW pb 64).getD (j + 1) 0), i64 ((adT n gs (inW pa 64) (inW pb 64) (j + 1)).2.2)]) call105 rfl (rcarry_ok n key60 c61 sp62 (((adT n gs (inW pa 64) (inW pb 64) (j + 1)).1) ++ [(⟨(1 : Int), (inW pa 64).getD (j + 1) 0, (inW pb 64).getD (j + 1) 0⟩ : Gt)] ++ [(⟨(1 : Int), wx15, (adT n gs (inW pa 64) (inW pb 64) (j + 1)).2.2⟩ : Gt)]) hS63 hn (by simp only [List.length_append, List.length_cons, List.length_nil]; omega) oa on oc ((inW pa 64).getD (j + 1) 0) ((inW pb 64).getD (j + 1) 0) ((adT n gs (inW pa 64) (inW pb 64) (j + 1)).2.2) ((ko, sob EI 3 ((adT n gs (inW pa 64) (inW pb 64) (j + 1)).2.1) so) :: (some b1, .cells #[i64 ((n : Nat)), .slice (ownA key60) (List.length (((adT n gs (inW pa 64) (inW pb 64) (j + 1)).1) ++ [(⟨(1 : Int), (inW pa 64).getD (j + 1) 0, (inW pb 64).getD (j + 1) 0⟩ : Gt)] ++ [(⟨(1 : Int), wx15, (adT n gs (inW pa 64) (inW pb 64) (j + 1)).2.2⟩ : Gt)])) c61, .slice oa on oc] 80 (0, 0)) :: (some b5, .cells #[i64 ((0 : Int)), .slice none 0 0, .slice none 0 0] 80 (0, 0)) :: R) w₀ w66 H69) ?_
        rintro _ w70 ⟨wx72, key73, c74, sp75, hwx72, rfl, hS76, HN77⟩
        have H78 := HN77.as (L' := ((key73, sob EG 85 (caG n (((adT n gs (inW pa 64) (inW pb 64) (j + 1)).1) ++ [(⟨(1 : Int), (inW pa 64).getD (j + 1) 0, (inW pb 64).getD (j + 1) 0⟩ : Gt)] ++ [(⟨(1 : Int), wx15, (adT n gs (inW pa 64) (inW pb 64) (j + 1)).2.2⟩ : Gt)]) ((inW pa 64).getD (j + 1) 0) ((inW pb 64).getD (j + 1) 0) ((adT n gs (inW pa 64) (inW pb 64) (j + 1)).2.2)) sp75) :: (ko, sob EI 3 ((adT n gs (inW pa 64) (inW pb 64) (j + 1)).2.1) so) :: (some b1, .cells #[i64 ((n : Nat)), .slice (ownA key60) (List.length (((adT n gs (inW pa 64) (inW pb 64) (j + 1)).1) ++ [(⟨(1 : Int), (inW pa 64).getD (j + 1) 0, (inW pb 64).getD (j + 1) 0⟩ : Gt)] ++ [(⟨(1 : Int), wx15, (adT n gs (inW pa 64) (inW pb 64) (j + 1)).2.2⟩ : Gt)])) c61, .slice oa on oc] 80 (0, 0)) :: (some b5, .cells #[i64 ((0 : Int)), .slice none 0 0, .slice none 0 0] 80 (0, 0)) :: R)) rfl
        refine sq (r_move (v := .tuple #[.agg #[i64 ((n : Nat)), .slice (ownA key73) (List.length (caG n (((adT n gs (inW pa 64) (inW pb 64) (j + 1)).1) ++ [(⟨(1 : Int), (inW pa 64).getD (j + 1) 0, (inW pb 64).getD (j + 1) 0⟩ : Gt)] ++ [(⟨(1 : Int), wx15, (adT n gs (inW pa 64) (inW pb 64) (j + 1)).2.2⟩ : Gt)]) ((inW pa 64).getD (j + 1) 0) ((inW pb 64).getD (j + 1) 0) ((adT n gs (inW pa 64) (inW pb 64) (j + 1)).2.2))) c74, .slice oa on oc], i64 (wx72)]) rfl) ?_
        refine sq (r_extract (vs := #[.agg #[i64 ((n : Nat)), .slice (ownA key73) (List.length (caG n (((adT n gs (inW pa 64) (inW pb 64) (j + 1)).1) ++ [(⟨(1 : Int), (inW pa 64).getD (j + 1) 0, (inW pb 64).getD (j + 1) 0⟩ : Gt)] ++ [(⟨(1 : Int), wx15, (adT n gs (inW pa 64) (inW pb 64) (j + 1)).2.2⟩ : Gt)]) ((inW pa 64).getD (j + 1) 0) ((inW pb 64).getD (j + 1) 0) ((adT n gs (inW pa 64) (inW pb 64) (j + 1)).2.2))) c74, .slice oa on oc], i64 (wx72)]) rfl rfl) ?_
        refine sq (r_extract (vs := #[.agg #[i64 ((n : Nat)), .slice (ownA key73) (List.length (caG n (((adT n gs (inW pa 64) (inW pb 64) (j + 1)).1) ++ [(⟨(1 : Int), (inW pa 64).getD (j + 1) 0, (inW pb 64).getD (j + 1) 0⟩ : Gt)] ++ [(⟨(1 : Int), wx15, (adT n gs (inW pa 64) (inW pb 64) (j + 1)).2.2⟩ : Gt)]) ((inW pa 64).getD (j + 1) 0) ((inW pb 64).getD (j + 1) 0) ((adT n gs (inW pa 64) (inW pb 64) (j + 1)).2.2))) c74, .slice oa on oc], i64 (wx72)]) rfl rfl) ?_
        refine d_store (k := 2) (v := .agg #[i64 ((n : Nat)), .slice (ownA key73) (List.length (caG n (((adT n gs (inW pa 64) (inW pb 64) (j + 1)).1) ++ [(⟨(1 : Int), (inW pa 64).getD (j + 1) 0, (inW pb 64).getD (j + 1) 0⟩ : Gt)] ++ [(⟨(1 : Int), wx15, (adT n gs (inW pa 64) (inW pb 64) (j + 1)).2.2⟩ : Gt)]) ((inW pa 64).getD (j + 1) 0) ((inW pb 64).getD (j + 1) 0) ((adT n gs (inW pa 64) (inW pb 64) (j + 1)).2.2))) c74, .slice oa on oc]) (cs' := #[i64 ((n : Nat)), .slice (ownA key73) (List.length (caG n (((adT n gs (inW pa 64) (inW pb 64) (j + 1)).1) ++ [(⟨(1 : Int), (inW pa 64).getD (j + 1) 0, (inW pb 64).getD (j + 1) 0⟩ : Gt)] ++ [(⟨(1 : Int), wx15, (adT n gs (inW pa 64) (inW pb 64) (j + 1)).2.2⟩ : Gt)]) ((inW pa 64).getD (j + 1) 0) ((inW pb 64).getD (j + 1) 0) ((adT n gs (inW pa 64) (inW pb 64) (j + 1)).2.2))) c74, .slice oa on oc]) H78 rfl rfl rfl siz80 (by rfl) (by intro u hu; simp [Value.cells] at hu; first | (subst hu; rfl) | (rcases hu with rfl | rfl | rfl <;> rfl)) (by exact Nat.le_of_ble_eq_true rfl) (by rfl) ?_
        intro w79 H80 hC81
        have H80' := H80.as (L' := ((key73, sob EG 85 (caG n (((adT n gs (inW pa 64) (inW pb 64) (j + 1)).1) ++ [(⟨(1 : Int), (inW pa 64).getD (j + 1) 0, (inW pb 64).getD (j + 1) 0⟩ : Gt)] ++ [(⟨(1 : Int), wx15, (adT n gs (inW pa 64) (inW pb 64) (j + 1)).2.2⟩ : Gt)]) ((inW pa 64).getD (j + 1) 0) ((inW pb 64).getD (j + 1) 0) ((adT n gs (inW pa 64) (inW pb 64) (j + 1)).2.2)) sp75) :: (ko, sob EI 3 ((adT n gs (inW pa 64) (inW pb 64) (j + 1)).2.1) so) :: (some b1, .cells #[i64 ((n : Nat)), .slice (ownA key73) (List.length (caG n (((adT n gs (inW pa 64) (inW pb 64) (j + 1)).1) ++ [(⟨(1 : Int), (inW pa 64).getD (j + 1) 0, (inW pb 64).getD (j + 1) 0⟩ : Gt)] ++ [(⟨(1 : Int), wx15, (adT n gs (inW pa 64) (inW pb 64) (j + 1)).2.2⟩ : Gt)]) ((inW pa 64).getD (j + 1) 0) ((inW pb 64).getD (j + 1) 0) ((adT n gs (inW pa 64) (inW pb 64) (j + 1)).2.2))) c74, .slice oa on oc] 80 (0, 0)) :: (some b5, .cells #[i64 ((0 : Int)), .slice none 0 0, .slice none 0 0] 80 (0, 0)) :: R)) rfl
        clear H80
        refine sq (r_assign (v := i64 (wx72)) rfl) ?_
        refine wnil ?_
        refine thenNormal ?_
        refine oneRegion ?_
        refine sq (r_move (v := .slice (ownA ko) (j + 1) co) rfl) ?_
        refine sq (r_move (v := i64 (wx59)) rfl) ?_
        refine q_buildSlice (E := EI) (l := [wx59]) H80' sli60 zer3 (Nat.le_of_ble_eq_true rfl) (ps := [(0, i64 (wx59))]) rfl (by exact fillAll rfl rfl) rfl ?_
        intro b82 w84 hS83 H85 hE86
        refine q_append (E := EI) (k := 2) (l := (adT n gs (inW pa 64) (inW pb 64) (j + 1)).2.1) (l2 := [wx59]) H85 rfl hSo sli60 zer3 rfl byt3 (H85.rd (k := 0) rfl hS83) rfl (by exact hol.2.symm) rfl (by rfl) (by omega) ?_
        intro key87 c88 sp89 w91 hS90 hne93 H92
        have H92' := H92.as (L' := (((some b82), sob EI 3 ([wx59]) ([])) :: (key73, sob EG 85 (caG n (((adT n gs (inW pa 64) (inW pb 64) (j + 1)).1) ++ [(⟨(1 : Int), (inW pa 64).getD (j + 1) 0, (inW pb 64).getD (j + 1) 0⟩ : Gt)] ++ [(⟨(1 : Int), wx15, (adT n gs (inW pa 64) (inW pb 64) (j + 1)).2.2⟩ : Gt)]) ((inW pa 64).getD (j + 1) 0) ((inW pb 64).getD (j + 1) 0) ((adT n gs (inW pa 64) (inW pb 64) (j + 1)).2.2)) sp75) :: (key87, sob EI 3 (((adT n gs (inW pa 64) (inW pb 64) (j + 1)).2.1) ++ ([wx59])) sp89) :: (some b1, .cells #[i64 ((n : Nat)), .slice (ownA key73) (List.length (caG n (((adT n gs (inW pa 64) (inW pb 64) (j + 1)).1) ++ [(⟨(1 : Int), (inW pa 64).getD (j + 1) 0, (inW pb 64).getD (j + 1) 0⟩ : Gt)] ++ [(⟨(1 : Int), wx15, (adT n gs (inW pa 64) (inW pb 64) (j + 1)).2.2⟩ : Gt)]) ((inW pa 64).getD (j + 1) 0) ((inW pb 64).getD (j + 1) 0) ((adT n gs (inW pa 64) (inW pb 64) (j + 1)).2.2))) c74, .slice oa on oc] 80 (0, 0)) :: (some b5, .cells #[i64 ((0 : Int)), .slice none 0 0, .slice none 0 0] 80 (0, 0)) :: R)) rfl
        clear H92
        refine sq (r_assign (v := .slice (ownA key87) ((j + 1) + 1) c88) rfl) ?_
        refine wnil ?_
        refine blockNormal ?_
        refine thenNormal ?_
        refine oneRegion ?_
        refine sq (r_move (v := i64 (((j + 1) : Nat))) rfl) ?_
        refine sq (r_addI (a := ((j + 1) : Nat)) (b := (1 : Int)) rfl rfl (by omega)) ?_
        refine sq (r_assign (v := i64 (((j + 1) : Nat) + (1 : Int))) rfl) ?_
        refine wnil ?_
        refine thenNormal ?_
        subst hwx72
        subst hwx59
        subst hwx15
        have e94 : caG n (((adT n gs (inW pa 64) (inW pb 64) (j + 1)).1) ++ [(⟨(1 : Int), (inW pa 64).getD (j + 1) 0, (inW pb 64).getD (j + 1) 0⟩ : Gt)] ++ [(⟨(1 : Int), (wrW n ((adT n gs (inW pa 64) (inW pb 64) (j + 1)).1)), (adT n gs (inW pa 64) (inW pb 64) (j + 1)).2.2⟩ : Gt)]) ((inW pa 64).getD (j + 1) 0) ((inW pb 64).getD (j + 1) 0) ((adT n gs (inW pa 64) (inW pb 64) (j + 1)).2.2) = (adT n gs (inW pa 64) (inW pb 64) (j + 1 + 1)).1 := by show _ = (adS n gs (inW pa 64) (inW pb 64) (j + 1)).1; rw [adS, if_pos (by omega)] <;> rfl
        have hS95 := hS76
        rw [e94] at hS95
        have H96 : Hp No w₀ w91 (((some b82), sob EI 3 ([(wrW n (((adT n gs (inW pa 64) (inW pb 64) (j + 1)).1) ++ [(⟨(1 : Int), (inW pa 64).getD (j + 1) 0, (inW pb 64).getD (j + 1) 0⟩ : Gt)]))]) ([])) :: (key73, sob EG 85 ((adT n gs (inW pa 64) (inW pb 64) (j + 1 + 1)).1) sp75) :: (key87, sob EI 3 (((adT n gs (inW pa 64) (inW pb 64) (j + 1)).2.1) ++ ([(wrW n (((adT n gs (inW pa 64) (inW pb 64) (j + 1)).1) ++ [(⟨(1 : Int), (inW pa 64).getD (j + 1) 0, (inW pb 64).getD (j + 1) 0⟩ : Gt)]))])) sp89) :: (some b1, .cells #[i64 ((n : Nat)), .slice (ownA key73) (List.length ((adT n gs (inW pa 64) (inW pb 64) (j + 1 + 1)).1)) c74, .slice oa on oc] 80 (0, 0)) :: (some b5, .cells #[i64 ((0 : Int)), .slice none 0 0, .slice none 0 0] 80 (0, 0)) :: R) := by rw [← e94]; exact H92'
        have e97 : ((adT n gs (inW pa 64) (inW pb 64) (j + 1)).2.1) ++ ([(wrW n (((adT n gs (inW pa 64) (inW pb 64) (j + 1)).1) ++ [(⟨(1 : Int), (inW pa 64).getD (j + 1) 0, (inW pb 64).getD (j + 1) 0⟩ : Gt)]))]) = (adT n gs (inW pa 64) (inW pb 64) (j + 1 + 1)).2.1 := by show _ = (adS n gs (inW pa 64) (inW pb 64) (j + 1)).2.1; rw [adS, if_pos (by omega)] <;> rfl
        have hS98 := hS90
        rw [e97] at hS98
        have H99 := H96.as (L' := (((some b82), sob EI 3 ([(wrW n (((adT n gs (inW pa 64) (inW pb 64) (j + 1)).1) ++ [(⟨(1 : Int), (inW pa 64).getD (j + 1) 0, (inW pb 64).getD (j + 1) 0⟩ : Gt)]))]) ([])) :: (key73, sob EG 85 ((adT n gs (inW pa 64) (inW pb 64) (j + 1 + 1)).1) sp75) :: (key87, sob EI 3 ((adT n gs (inW pa 64) (inW pb 64) (j + 1 + 1)).2.1) sp89) :: (some b1, .cells #[i64 ((n : Nat)), .slice (ownA key73) (List.length ((adT n gs (inW pa 64) (inW pb 64) (j + 1 + 1)).1)) c74, .slice oa on oc] 80 (0, 0)) :: (some b5, .cells #[i64 ((0 : Int)), .slice none 0 0, .slice none 0 0] 80 (0, 0)) :: R)) (by rw [e97])
        exact ⟨(j + 1 + 1, key73, c74, sp75, key87, c88, sp89), _, rfl, ⟨rfl, rfl, rfl, rfl, rfl, congrArg (fun q => Value.slice _ q _) (by omega), congrArg i64 (by show _ = (adS n gs (inW pa 64) (inW pb 64) (j + 1)).2.2; rw [adS, if_pos (by omega)] <;> rfl), congrArg i64 (by omega), trivial⟩, ⟨⟨by omega, hS95, hS98⟩, (H99.dropk 0)⟩, by show 64 - (j + 1 + 1) < 64 - (j + 1); omega⟩
      · skip
        refine skipAny ?_
        refine thenNormal ?_
        refine oneRegion ?_
        refine sq (r_move (v := .slice (ownA ko) (j + 1) co) rfl) ?_
        refine sq (r_move (v := i64 (wx59)) rfl) ?_
        refine q_buildSlice (E := EI) (l := [wx59]) H67' sli60 zer3 (Nat.le_of_ble_eq_true rfl) (ps := [(0, i64 (wx59))]) rfl (by exact fillAll rfl rfl) rfl ?_
        intro b100 w102 hS101 H103 hE104
        refine q_append (E := EI) (k := 2) (l := (adT n gs (inW pa 64) (inW pb 64) (j + 1)).2.1) (l2 := [wx59]) H103 rfl hSo sli60 zer3 rfl byt3 (H103.rd (k := 0) rfl hS101) rfl (by exact hol.2.symm) rfl (by rfl) (by omega) ?_
        intro key105 c106 sp107 w109 hS108 hne111 H110
        have H110' := H110.as (L' := (((some b100), sob EI 3 ([wx59]) ([])) :: (key60, sob EG 85 (((adT n gs (inW pa 64) (inW pb 64) (j + 1)).1) ++ [(⟨(1 : Int), (inW pa 64).getD (j + 1) 0, (inW pb 64).getD (j + 1) 0⟩ : Gt)] ++ [(⟨(1 : Int), wx15, (adT n gs (inW pa 64) (inW pb 64) (j + 1)).2.2⟩ : Gt)]) sp62) :: (key105, sob EI 3 (((adT n gs (inW pa 64) (inW pb 64) (j + 1)).2.1) ++ ([wx59])) sp107) :: (some b1, .cells #[i64 ((n : Nat)), .slice (ownA key60) (List.length (((adT n gs (inW pa 64) (inW pb 64) (j + 1)).1) ++ [(⟨(1 : Int), (inW pa 64).getD (j + 1) 0, (inW pb 64).getD (j + 1) 0⟩ : Gt)] ++ [(⟨(1 : Int), wx15, (adT n gs (inW pa 64) (inW pb 64) (j + 1)).2.2⟩ : Gt)])) c61, .slice oa on oc] 80 (0, 0)) :: (some b5, .cells #[i64 ((0 : Int)), .slice none 0 0, .slice none 0 0] 80 (0, 0)) :: R)) rfl
        clear H110
        refine sq (r_assign (v := .slice (ownA key105) ((j + 1) + 1) c106) rfl) ?_
        refine wnil ?_
        refine blockNormal ?_
        refine thenNormal ?_
        refine oneRegion ?_
        refine sq (r_move (v := i64 (((j + 1) : Nat))) rfl) ?_
        refine sq (r_addI (a := ((j + 1) : Nat)) (b := (1 : Int)) rfl rfl (by omega)) ?_
        refine sq (r_assign (v := i64 (((j + 1) : Nat) + (1 : Int))) rfl) ?_
        refine wnil ?_
        refine thenNormal ?_
        subst hwx59
        subst hwx15
        have e112 : ((adT n gs (inW pa 64) (inW pb 64) (j + 1)).1) ++ [(⟨(1 : Int), (inW pa 64).getD (j + 1) 0, (inW pb 64).getD (j + 1) 0⟩ : Gt)] ++ [(⟨(1 : Int), (wrW n ((adT n gs (inW pa 64) (inW pb 64) (j + 1)).1)), (adT n gs (inW pa 64) (inW pb 64) (j + 1)).2.2⟩ : Gt)] = (adT n gs (inW pa 64) (inW pb 64) (j + 1 + 1)).1 := by show _ = (adS n gs (inW pa 64) (inW pb 64) (j + 1)).1; rw [adS, if_neg (by omega)] <;> rfl
        have hS113 := hS63
        rw [e112] at hS113
        have H114 : Hp No w₀ w109 (((some b100), sob EI 3 ([(wrW n (((adT n gs (inW pa 64) (inW pb 64) (j + 1)).1) ++ [(⟨(1 : Int), (inW pa 64).getD (j + 1) 0, (inW pb 64).getD (j + 1) 0⟩ : Gt)]))]) ([])) :: (key60, sob EG 85 ((adT n gs (inW pa 64) (inW pb 64) (j + 1 + 1)).1) sp62) :: (key105, sob EI 3 (((adT n gs (inW pa 64) (inW pb 64) (j + 1)).2.1) ++ ([(wrW n (((adT n gs (inW pa 64) (inW pb 64) (j + 1)).1) ++ [(⟨(1 : Int), (inW pa 64).getD (j + 1) 0, (inW pb 64).getD (j + 1) 0⟩ : Gt)]))])) sp107) :: (some b1, .cells #[i64 ((n : Nat)), .slice (ownA key60) (List.length ((adT n gs (inW pa 64) (inW pb 64) (j + 1 + 1)).1)) c61, .slice oa on oc] 80 (0, 0)) :: (some b5, .cells #[i64 ((0 : Int)), .slice none 0 0, .slice none 0 0] 80 (0, 0)) :: R) := by rw [← e112]; exact H110'
        have e115 : ((adT n gs (inW pa 64) (inW pb 64) (j + 1)).2.1) ++ ([(wrW n (((adT n gs (inW pa 64) (inW pb 64) (j + 1)).1) ++ [(⟨(1 : Int), (inW pa 64).getD (j + 1) 0, (inW pb 64).getD (j + 1) 0⟩ : Gt)]))]) = (adT n gs (inW pa 64) (inW pb 64) (j + 1 + 1)).2.1 := by show _ = (adS n gs (inW pa 64) (inW pb 64) (j + 1)).2.1; rw [adS, if_neg (by omega)] <;> rfl
        have hS116 := hS108
        rw [e115] at hS116
        have H117 := H114.as (L' := (((some b100), sob EI 3 ([(wrW n (((adT n gs (inW pa 64) (inW pb 64) (j + 1)).1) ++ [(⟨(1 : Int), (inW pa 64).getD (j + 1) 0, (inW pb 64).getD (j + 1) 0⟩ : Gt)]))]) ([])) :: (key60, sob EG 85 ((adT n gs (inW pa 64) (inW pb 64) (j + 1 + 1)).1) sp62) :: (key105, sob EI 3 ((adT n gs (inW pa 64) (inW pb 64) (j + 1 + 1)).2.1) sp107) :: (some b1, .cells #[i64 ((n : Nat)), .slice (ownA key60) (List.length ((adT n gs (inW pa 64) (inW pb 64) (j + 1 + 1)).1)) c61, .slice oa on oc] 80 (0, 0)) :: (some b5, .cells #[i64 ((0 : Int)), .slice none 0 0, .slice none 0 0] 80 (0, 0)) :: R)) (by rw [e115])
        exact ⟨(j + 1 + 1, key60, c61, sp62, key105, c106, sp107), _, rfl, ⟨rfl, rfl, rfl, rfl, rfl, congrArg (fun q => Value.slice _ q _) (by omega), congrArg i64 (by show _ = (adS n gs (inW pa 64) (inW pb 64) (j + 1)).2.2; rw [adS, if_neg (by omega)] <;> rfl), congrArg i64 (by omega), trivial⟩, ⟨⟨by omega, hS113, hS116⟩, (H117.dropk 0)⟩, by show 64 - (j + 1 + 1) < 64 - (j + 1); omega⟩
  · skip
    have hie : i = 64 := by omega
    refine exitAny ?_
    refine thenExit ?_
    refine thenExit ?_
    refine blockHere ?_
    refine thenNormal ?_
    refine seqRegion ?_
    refine sq (r_loadA (cs' := #[i64 ((n : Nat)), .slice (ownA kz) (List.length ((adT n gs (inW pa 64) (inW pb 64) i).1)) cz, .slice oa on oc]) agg80 siz80 (HL.get (k := 2) rfl) (off := 0) rfl (by exact Nat.le_of_ble_eq_true rfl) (by rfl)) ?_
    refine sq (r_move (v := .slice (ownA ko) i co) rfl) ?_
    refine d_store (k := 3) (v := .agg #[i64 ((n : Nat)), .slice (ownA kz) (List.length ((adT n gs (inW pa 64) (inW pb 64) i).1)) cz, .slice oa on oc]) (cs' := #[i64 ((n : Nat)), .slice (ownA kz) (List.length ((adT n gs (inW pa 64) (inW pb 64) i).1)) cz, .slice oa on oc]) HL rfl rfl rfl siz80 (by rfl) (by intro u hu; simp [Value.cells] at hu; first | (subst hu; rfl) | (rcases hu with rfl | rfl | rfl <;> rfl)) (by exact Nat.le_of_ble_eq_true rfl) (by rfl) ?_
    intro w118 H119 hC120
    have H119' := H119.as (L' := ((kz, sob EG 85 ((adT n gs (inW pa 64) (inW pb 64) i).1) sz) :: (ko, sob EI 3 ((adT n gs (inW pa 64) (inW pb 64) i).2.1) so) :: (some b1, .cells #[i64 ((n : Nat)), .slice (ownA kz) (List.length ((adT n gs (inW pa 64) (inW pb 64) i).1)) cz, .slice oa on oc] 80 (0, 0)) :: (some b5, .cells #[i64 ((n : Nat)), .slice (ownA kz) (List.length ((adT n gs (inW pa 64) (inW pb 64) i).1)) cz, .slice oa on oc] 80 (0, 0)) :: R)) rfl
    clear H119
    refine sq (r_assign (v := .slice (ownA ko) i co) rfl) ?_
    refine wend ?_
    refine retAny ?_
    refine retG (rs := [.cell 8 80, .tmp 9]) (vs := [.agg #[i64 ((n : Nat)), .slice (ownA kz) (List.length ((adT n gs (inW pa 64) (inW pb 64) i).1)) cz, .slice oa on oc], .slice (ownA ko) i co]) rfl ⟨r_loadA (cs' := #[i64 ((n : Nat)), .slice (ownA kz) (List.length ((adT n gs (inW pa 64) (inW pb 64) i).1)) cz, .slice oa on oc]) agg80 siz80 (H119'.get (k := 3) rfl) (off := 0) rfl (by exact Nat.le_of_ble_eq_true rfl) (by rfl), ⟨rfl, rfl⟩, trivial⟩ ?_
    subst hie
    exact ⟨_, rfl, kz, cz, sz, ko, co, so, rfl, hSz, hSo, ((H119'.dropk 3).dropk 2)⟩
theorem rop_ok (n : Nat) (key : Option Nat) (c : Nat) (sp : List Value) (gs : List Gt) (hSw : Sl EG key gs c sp) (hn : n ≤ 1000) (hlen : gs.length ≤ 3000) (oa : Option Addr) (on oc : Nat) (pa pb : Nat) (hpa : pa ≤ 1000) (hpb : pb ≤ 1000) (x : Bool) (R : List (Option Nat × Obj)) (w₀ w : World) (H : Hp No w₀ w ((key, sob EG 85 gs sp) :: R)) : Calls Tryd.prog 79 [.agg #[i64 ((n : Nat)), .slice (ownA key) (List.length gs) c, .slice oa on oc], i64 ((pa : Nat) : Int), i64 ((pb : Nat) : Int), .bool x].toArray w (Ret fun v w' => ∃ (key' : Option Nat) (c' : Nat) (sp' : List Value) (ko : Option Nat) (co : Nat) (so : List Value), v = .tuple #[.agg #[i64 ((n : Nat)), .slice (ownA key') (List.length ((opS n gs pa pb x).1)) c', .slice oa on oc], .slice (ownA ko) 64 co] ∧ Sl EG key' ((opS n gs pa pb x).1) c' sp' ∧ Sl EI ko ((opS n gs pa pb x).2) co so ∧ Hp No w₀ w' ((key', sob EG 85 ((opS n gs pa pb x).1) sp') :: (ko, sob EI 3 ((opS n gs pa pb x).2) so) :: R)) := by
  cases x
  · exact ropa_ok n key c sp gs hSw hn hlen oa on oc pa pb hpa hpb R w₀ w H
  · exact ropx_ok n key c sp gs hSw hn hlen oa on oc pa pb hpa hpb R w₀ w H
end Go.Proofs.YteofdmdpaejgaaaDoor.Cm
namespace Go.Proofs.YteofdmdpaejgaaaDoor.Cm
open Go Go.Proofs.YteofdmdpaejgaaaDoor.Vc Go.Proofs.YteofdmdpaejgaaaDoor.Er Go.Proofs.YteofdmdpaejgaaaDoor.Circ
set_option linter.unusedVariables false
set_option maxHeartbeats 1000000 in
theorem rless_ok (n : Nat) (key : Option Nat) (c : Nat) (sp : List Value) (gs : List Gt) (hSw : Sl EG key gs c sp) (hn : n ≤ 1000) (hlen : gs.length ≤ 3000) (oa : Option Addr) (on oc : Nat) (ra rb : List Int) (hra : ra.length = 64) (hrb : rb.length = 64) (aa ab : Option Addr) (ca cb : Nat) (R : List (Option Nat × Obj)) (w₀ w : World) (hA : (∀ w', Ext w₀ w' → (∀ p ∈ R, ∀ b, p.1 = some b → w'.heap[b]? = some p.2) → Rd EI w' aa ra)) (hB : (∀ w', Ext w₀ w' → (∀ p ∈ R, ∀ b, p.1 = some b → w'.heap[b]? = some p.2) → Rd EI w' ab rb)) (H : Hp No w₀ w ((key, sob EG 85 gs sp) :: R)) : Calls Tryd.prog 81 [.agg #[i64 ((n : Nat)), .slice (ownA key) (List.length gs) c, .slice oa on oc], .slice aa 64 ca, .slice ab 64 cb].toArray w (Ret fun v w' => ∃ (wx : Int) (key' : Option Nat) (c' : Nat) (sp' : List Value), wx = (leG n gs ra rb).2 ∧ v = .tuple #[.agg #[i64 ((n : Nat)), .slice (ownA key') (List.length ((leG n gs ra rb).1)) c', .slice oa on oc], i64 wx] ∧ Sl EG key' ((leG n gs ra rb).1) c' sp' ∧ Hp No w₀ w' ((key', sob EG 85 ((leG n gs ra rb).1) sp') :: R)) := by
  skip
  refine enter (n := 69) Tryd.func81 rfl rfl (Nat.le_of_ble_eq_true rfl) ?_
  refine seqRegion ?_
  refine q_box (v := .agg #[i64 ((n : Nat)), .slice (ownA key) (List.length gs) c, .slice oa on oc]) (o := .cells #[i64 ((n : Nat)), .slice (ownA key) (List.length gs) c, .slice oa on oc] 80 (0, 0)) H rfl (by rfl) ?_
  intro b1 w2 hb1 H3 hE4
  refine q_alloc (o := .cells #[i64 ((0 : Int)), .slice none 0 0, .slice none 0 0] 80 (0, 0)) H3 zer80 (by kernel_rfl) ?_
  intro b5 w6 hb5 H7 hE8
  refine sq (r_assign (v := i64 ((0 : Int))) rfl) ?_
  refine wend ?_
  refine seqAny ?_
  refine drawC (m := 10) [0, 0, 2, 6, 15, 31, 63, 63, 127, 511] [4, 8] (fun q vs w' => match q, vs with | 0, [] => Hp No w₀ w' ((some b5, .cells #[i64 ((0 : Int)), .slice none 0 0, .slice none 0 0] 80 (0, 0)) :: (some b1, .cells #[i64 ((n : Nat)), .slice (ownA key) (List.length gs) c, .slice oa on oc] 80 (0, 0)) :: (key, sob EG 85 gs sp) :: R) | 1, [v0] => ∃ (wx15 : Int) (key16 : Option Nat) (c17 : Nat) (sp18 : List Value), v0 = .tuple #[.agg #[i64 ((n : Nat)), .slice (ownA key16) (List.length (gs ++ [(⟨(3 : Int), (ra).getD 0 0, (0 : Int)⟩ : Gt)])) c17, .slice oa on oc], i64 (wx15)] ∧ Sl EG key16 (gs ++ [(⟨(3 : Int), (ra).getD 0 0, (0 : Int)⟩ : Gt)]) c17 sp18 ∧ wx15 = wrW n gs ∧ Hp No w₀ w' ((key16, sob EG 85 (gs ++ [(⟨(3 : Int), (ra).getD 0 0, (0 : Int)⟩ : Gt)]) sp18) :: (some b5, .cells #[i64 ((0 : Int)), .slice none 0 0, .slice none 0 0] 80 (0, 0)) :: (some b1, .cells #[i64 ((n : Nat)), .slice (ownA key) (List.length gs) c, .slice oa on oc] 80 (0, 0)) :: R) | 2, [v0, _] => ∃ (wx15 : Int) (key16 : Option Nat) (c17 : Nat) (sp18 : List Value), v0 = .tuple #[.agg #[i64 ((n : Nat)), .slice (ownA key16) (List.length (gs ++ [(⟨(3 : Int), (ra).getD 0 0, (0 : Int)⟩ : Gt)])) c17, .slice oa on oc], i64 (wx15)] ∧ True ∧ Sl EG key16 (gs ++ [(⟨(3 : Int), (ra).getD 0 0, (0 : Int)⟩ : Gt)]) c17 sp18 ∧ wx15 = wrW n gs ∧ Hp No w₀ w' ((key16, sob EG 85 (gs ++ [(⟨(3 : Int), (ra).getD 0 0, (0 : Int)⟩ : Gt)]) sp18) :: (some b5, .cells #[i64 ((0 : Int)), .slice none 0 0, .slice none 0 0] 80 (0, 0)) :: (some b1, .cells #[i64 ((n : Nat)), .slice (ownA key16) (List.length (gs ++ [(⟨(3 : Int), (ra).getD 0 0, (0 : Int)⟩ : Gt)])) c17, .slice oa on oc] 80 (0, 0)) :: R) | _, _ => False) mixed (by kernel_rfl) (by kernel_rfl) H7.drew ?_
  refine WalkC.look rfl (fun _ => .agg #[i64 ((n : Nat)), .slice (ownA key) (List.length gs) c, .slice oa on oc]) (fun _ _ _ => rfl) (fun q r uw hlo hhi hle hF => ?_) ?_
  · skip
    have h1 : 0 ≤ q := Nat.zero_le _
    have h2 : q ≤ 0 := hhi 0 4 rfl rfl
    rcases (show q = 0 by omega) with rfl
    · skip
      have HH := hF
      exact Gives.run rfl (r_loadA (cs' := #[i64 ((n : Nat)), .slice (ownA key) (List.length gs) c, .slice oa on oc]) agg80 siz80 (HH.get (k := 1) rfl) (off := 0) rfl (by exact Nat.le_of_ble_eq_true rfl) (by rfl)) ⟨rfl, rfl⟩
  refine WalkC.look rfl (fun _ => .slice aa 64 ca) (fun _ _ _ => rfl) (fun q r uw _ _ _ _ => Gives.run rfl (r_move (v := .slice aa 64 ca) rfl) ⟨rfl, rfl⟩) ?_
  refine WalkC.look rfl (fun _ => .pointer (adr aa (0 * 1))) (fun _ _ _ => rfl) (fun q r uw hlo hhi hle hF => ?_) ?_
  · skip
    have h1 : 0 ≤ q := Nat.zero_le _
    have h2 : q ≤ 0 := hhi 0 4 rfl rfl
    rcases (show q = 0 by omega) with rfl
    · skip
      have HH := hF
      exact Gives.run rfl (r_idxS (E := EI) (l := ra) (j := 0) sli60 (hA _ HH.chg (fun p hp => HH.has p (List.mem_cons_of_mem _ (List.mem_cons_of_mem _ (List.mem_cons_of_mem _ (hp)))))) rfl rfl (by first | rfl | omega | (simp; omega)) (by exact hra.symm) (by omega)) ⟨rfl, rfl⟩
  refine WalkC.look rfl (fun _ => i64 ((ra).getD 0 0)) (fun _ _ _ => rfl) (fun q r uw hlo hhi hle hF => ?_) ?_
  · skip
    have h1 : 0 ≤ q := Nat.zero_le _
    have h2 : q ≤ 0 := hhi 0 4 rfl rfl
    rcases (show q = 0 by omega) with rfl
    · skip
      have HH := hF
      exact Gives.run rfl (r_ldS (E := EI) (l := ra) (j := 0) (v := (ra).getD 0 0) fits3 (hA _ HH.chg (fun p hp => HH.has p (List.mem_cons_of_mem _ (List.mem_cons_of_mem _ (List.mem_cons_of_mem _ (hp)))))) rfl rfl (at_getD (by omega))) ⟨rfl, rfl⟩
  refine WalkC.eff 0 rfl (fun r uw9 hF11 => ?_) ?_
  · skip
    have H10 := hF11
    dsimp only [List.take, List.map, List.cons_append, List.nil_append]
    refine Gives.ofW (d := 16) rfl rfl (fun Q' hK => ?_)
    have H12 := ((H10.pick 3 [2, 0, 1] (by decide) (by decide))).as (L' := ((key, sob EG 85 gs sp) :: ((some b5, .cells #[i64 ((0 : Int)), .slice none 0 0, .slice none 0 0] 80 (0, 0)) :: (some b1, .cells #[i64 ((n : Nat)), .slice (ownA key) (List.length gs) c, .slice oa on oc] 80 (0, 0)) :: R))) rfl
    refine c_call (vs := [.agg #[i64 ((n : Nat)), .slice (ownA key) (List.length gs) c, .slice oa on oc], i64 ((3 : Int)), i64 ((ra).getD 0 0), i64 ((0 : Int))]) call80 rfl (rput_ok n key c sp gs hSw hn (by omega) oa on oc (3 : Int) ((ra).getD 0 0) (0 : Int) ((some b5, .cells #[i64 ((0 : Int)), .slice none 0 0, .slice none 0 0] 80 (0, 0)) :: (some b1, .cells #[i64 ((n : Nat)), .slice (ownA key) (List.length gs) c, .slice oa on oc] 80 (0, 0)) :: R) w₀ uw9 H12) ?_
    rintro _ w13 ⟨wx15, key16, c17, sp18, hwx15, rfl, hS19, HN20⟩
    have H21 := HN20.as (L' := ((key16, sob EG 85 (gs ++ [(⟨(3 : Int), (ra).getD 0 0, (0 : Int)⟩ : Gt)]) sp18) :: (some b5, .cells #[i64 ((0 : Int)), .slice none 0 0, .slice none 0 0] 80 (0, 0)) :: (some b1, .cells #[i64 ((n : Nat)), .slice (ownA key) (List.length gs) c, .slice oa on oc] 80 (0, 0)) :: R)) rfl
    exact hK _ _ ⟨wx15, key16, c17, sp18, rfl, hS19, hwx15, H21⟩
  refine WalkC.look rfl (fun r => r 4) (fun r r' h => h 4 (by decide) rfl) (fun q r uw _ _ _ _ => Gives.run rfl (r_move rfl) ⟨rfl, rfl⟩) ?_
  refine WalkC.look rfl (fun r => proj (r 4) 0) (fun r r' h => by rw [h 4 (by decide) rfl]) (fun q r uw hlo hhi hle hF => ?_) ?_
  · skip
    have h1 : 1 ≤ q := hlo 0 4 rfl rfl
    have h2 : q ≤ 1 := hhi 1 8 rfl rfl
    rcases (show q = 1 by omega) with rfl
    · skip
      obtain ⟨wx15, key16, c17, sp18, e4, hS19, hwx15, HH⟩ := hF
      dsimp only
      rw [e4]
      exact Gives.run rfl (r_extract (vs := #[.agg #[i64 ((n : Nat)), .slice (ownA key16) (List.length (gs ++ [(⟨(3 : Int), (ra).getD 0 0, (0 : Int)⟩ : Gt)])) c17, .slice oa on oc], i64 (wx15)]) rfl rfl) ⟨rfl, rfl⟩
  refine WalkC.look rfl (fun r => proj (r 4) 1) (fun r r' h => by rw [h 4 (by decide) rfl]) (fun q r uw hlo hhi hle hF => ?_) ?_
  · skip
    have h1 : 1 ≤ q := hlo 0 4 rfl rfl
    have h2 : q ≤ 2 := hle
    rcases (show q = 1 ∨ q = 2 by omega) with rfl | rfl
    · skip
      obtain ⟨wx15, key16, c17, sp18, e4, hS19, hwx15, HH⟩ := hF
      dsimp only
      rw [e4]
      exact Gives.run rfl (r_extract (vs := #[.agg #[i64 ((n : Nat)), .slice (ownA key16) (List.length (gs ++ [(⟨(3 : Int), (ra).getD 0 0, (0 : Int)⟩ : Gt)])) c17, .slice oa on oc], i64 (wx15)]) rfl rfl) ⟨rfl, rfl⟩
    · skip
      obtain ⟨wx15, key16, c17, sp18, e4, e8, hS19, hwx15, HH⟩ := hF
      dsimp only
      rw [e4]
      exact Gives.run rfl (r_extract (vs := #[.agg #[i64 ((n : Nat)), .slice (ownA key16) (List.length (gs ++ [(⟨(3 : Int), (ra).getD 0 0, (0 : Int)⟩ : Gt)])) c17, .slice oa on oc], i64 (wx15)]) rfl rfl) ⟨rfl, rfl⟩
  refine WalkC.eff 1 rfl (fun r uw22 hF24 => ?_) ?_
  · skip
    obtain ⟨wx15, key16, c17, sp18, e4, hS19, hwx15, H23⟩ := hF24
    dsimp only [List.take, List.map, List.cons_append, List.nil_append]
    rw [e4]
    refine Gives.ofW0 rfl (fun Q' hK => ?_)
    refine d_store (k := 2) (v := .agg #[i64 ((n : Nat)), .slice (ownA key16) (List.length (gs ++ [(⟨(3 : Int), (ra).getD 0 0, (0 : Int)⟩ : Gt)])) c17, .slice oa on oc]) (cs' := #[i64 ((n : Nat)), .slice (ownA key16) (List.length (gs ++ [(⟨(3 : Int), (ra).getD 0 0, (0 : Int)⟩ : Gt)])) c17, .slice oa on oc]) H23 rfl rfl rfl siz80 (by rfl) (by intro u hu; simp [Value.cells] at hu; first | (subst hu; rfl) | (rcases hu with rfl | rfl | rfl <;> rfl)) (by exact Nat.le_of_ble_eq_true rfl) (by rfl) ?_
    intro w25 H26 hC27
    have H26' := H26.as (L' := ((key16, sob EG 85 (gs ++ [(⟨(3 : Int), (ra).getD 0 0, (0 : Int)⟩ : Gt)]) sp18) :: (some b5, .cells #[i64 ((0 : Int)), .slice none 0 0, .slice none 0 0] 80 (0, 0)) :: (some b1, .cells #[i64 ((n : Nat)), .slice (ownA key16) (List.length (gs ++ [(⟨(3 : Int), (ra).getD 0 0, (0 : Int)⟩ : Gt)])) c17, .slice oa on oc] 80 (0, 0)) :: R)) rfl
    clear H26
    exact hK _ (fun _ => ⟨wx15, key16, c17, sp18, rfl, trivial, hS19, hwx15, H26'⟩)
  refine WalkC.look rfl (fun r => proj (r 4) 1) (fun r r' h => by rw [h 4 (by decide) rfl]) (fun q r uw _ _ _ _ => Gives.run rfl (r_assign rfl) ⟨rfl, rfl⟩) ?_
  refine WalkC.nil ?_
  intro r28 w29 hF31
  obtain ⟨wx15, key16, c17, sp18, e4, e8, hS19, hwx15, H30⟩ := hF31
  dsimp only
  rw [e4]
  subst hwx15
  refine wnil ?_
  refine thenNormal ?_
  refine seqAny ?_
  refine drawC (m := 11) [0, 0, 0, 4, 12, 31, 63, 127, 127, 255, 1023] [5, 9] (fun q vs w' => match q, vs with | 0, [] => Hp No w₀ w' ((key16, sob EG 85 (gs ++ [(⟨(3 : Int), (ra).getD 0 0, (0 : Int)⟩ : Gt)]) sp18) :: (some b5, .cells #[i64 ((0 : Int)), .slice none 0 0, .slice none 0 0] 80 (0, 0)) :: (some b1, .cells #[i64 ((n : Nat)), .slice (ownA key16) (List.length (gs ++ [(⟨(3 : Int), (ra).getD 0 0, (0 : Int)⟩ : Gt)])) c17, .slice oa on oc] 80 (0, 0)) :: R) | 1, [v0] => ∃ (wx38 : Int) (key39 : Option Nat) (c40 : Nat) (sp41 : List Value), v0 = .tuple #[.agg #[i64 ((n : Nat)), .slice (ownA key39) (List.length (gs ++ [(⟨(3 : Int), (ra).getD 0 0, (0 : Int)⟩ : Gt)] ++ [(⟨(2 : Int), (wrW n gs), (rb).getD 0 0⟩ : Gt)])) c40, .slice oa on oc], i64 (wx38)] ∧ Sl EG key39 (gs ++ [(⟨(3 : Int), (ra).getD 0 0, (0 : Int)⟩ : Gt)] ++ [(⟨(2 : Int), (wrW n gs), (rb).getD 0 0⟩ : Gt)]) c40 sp41 ∧ wx38 = wrW n (gs ++ [(⟨(3 : Int), (ra).getD 0 0, (0 : Int)⟩ : Gt)]) ∧ Hp No w₀ w' ((key39, sob EG 85 (gs ++ [(⟨(3 : Int), (ra).getD 0 0, (0 : Int)⟩ : Gt)] ++ [(⟨(2 : Int), (wrW n gs), (rb).getD 0 0⟩ : Gt)]) sp41) :: (some b5, .cells #[i64 ((0 : Int)), .slice none 0 0, .slice none 0 0] 80 (0, 0)) :: (some b1, .cells #[i64 ((n : Nat)), .slice (ownA key16) (List.length (gs ++ [(⟨(3 : Int), (ra).getD 0 0, (0 : Int)⟩ : Gt)])) c17, .slice oa on oc] 80 (0, 0)) :: R) | 2, [v0, _] => ∃ (wx38 : Int) (key39 : Option Nat) (c40 : Nat) (sp41 : List Value), v0 = .tuple #[.agg #[i64 ((n : Nat)), .slice (ownA key39) (List.length (gs ++ [(⟨(3 : Int), (ra).getD 0 0, (0 : Int)⟩ : Gt)] ++ [(⟨(2 : Int), (wrW n gs), (rb).getD 0 0⟩ : Gt)])) c40, .slice oa on oc], i64 (wx38)] ∧ True ∧ Sl EG key39 (gs ++ [(⟨(3 : Int), (ra).getD 0 0, (0 : Int)⟩ : Gt)] ++ [(⟨(2 : Int), (wrW n gs), (rb).getD 0 0⟩ : Gt)]) c40 sp41 ∧ wx38 = wrW n (gs ++ [(⟨(3 : Int), (ra).getD 0 0, (0 : Int)⟩ : Gt)]) ∧ Hp No w₀ w' ((key39, sob EG 85 (gs ++ [(⟨(3 : Int), (ra).getD 0 0, (0 : Int)⟩ : Gt)] ++ [(⟨(2 : Int), (wrW n gs), (rb).getD 0 0⟩ : Gt)]) sp41) :: (some b5, .cells #[i64 ((0 : Int)), .slice none 0 0, .slice none 0 0] 80 (0, 0)) :: (some b1, .cells #[i64 ((n : Nat)), .slice (ownA key39) (List.length (gs ++ [(⟨(3 : Int), (ra).getD 0 0, (0 : Int)⟩ : Gt)] ++ [(⟨(2 : Int), (wrW n gs), (rb).getD 0 0⟩ : Gt)])) c40, .slice oa on oc] 80 (0, 0)) :: R) | _, _ => False) mixed (by kernel_rfl) (by kernel_rfl) H30.drew ?_
  refine WalkC.look rfl (fun _ => .agg #[i64 ((n : Nat)), .slice (ownA key16) (List.length (gs ++ [(⟨(3 : Int), (ra).getD 0 0, (0 : Int)⟩ : Gt)])) c17, .slice oa on oc]) (fun _ _ _ => rfl) (fun q r uw hlo hhi hle hF => ?_) ?_
  · skip
    have h1 : 0 ≤ q := Nat.zero_le _
    have h2 : q ≤ 0 := hhi 0 5 rfl rfl
    rcases (show q = 0 by omega) with rfl
    · skip
      have HH := hF
      exact Gives.run rfl (r_loadA (cs' := #[i64 ((n : Nat)), .slice (ownA key16) (List.length (gs ++ [(⟨(3 : Int), (ra).getD 0 0, (0 : Int)⟩ : Gt)])) c17, .slice oa on oc]) agg80 siz80 (HH.get (k := 2) rfl) (off := 0) rfl (by exact Nat.le_of_ble_eq_true rfl) (by rfl)) ⟨rfl, rfl⟩
  refine WalkC.look rfl (fun _ => i64 ((wrW n gs))) (fun _ _ _ => rfl) (fun q r uw _ _ _ _ => Gives.run rfl (r_move (v := i64 ((wrW n gs))) rfl) ⟨rfl, rfl⟩) ?_
  refine WalkC.look rfl (fun _ => .slice ab 64 cb) (fun _ _ _ => rfl) (fun q r uw _ _ _ _ => Gives.run rfl (r_move (v := .slice ab 64 cb) rfl) ⟨rfl, rfl⟩) ?_
  refine WalkC.look rfl (fun _ => .pointer (adr ab (0 * 1))) (fun _ _ _ => rfl) (fun q r uw hlo hhi hle hF => ?_) ?_
  · skip
    have h1 : 0 ≤ q := Nat.zero_le _
    have h2 : q ≤ 0 := hhi 0 5 rfl rfl
    rcases (show q = 0 by omega) with rfl
    · skip
      have HH := hF
      exact Gives.run rfl (r_idxS (E := EI) (l := rb) (j := 0) sli60 (hB _ HH.chg (fun p hp => HH.has p (List.mem_cons_of_mem _ (List.mem_cons_of_mem _ (List.mem_cons_of_mem _ (hp)))))) rfl rfl (by first | rfl | omega | (simp; omega)) (by exact hrb.symm) (by omega)) ⟨rfl, rfl⟩
  refine WalkC.look rfl (fun _ => i64 ((rb).getD 0 0)) (fun _ _ _ => rfl) (fun q r uw hlo hhi hle hF => ?_) ?_
  · skip
    have h1 : 0 ≤ q := Nat.zero_le _
    have h2 : q ≤ 0 := hhi 0 5 rfl rfl
    rcases (show q = 0 by omega) with rfl
    · skip
      have HH := hF
      exact Gives.run rfl (r_ldS (E := EI) (l := rb) (j := 0) (v := (rb).getD 0 0) fits3 (hB _ HH.chg (fun p hp => HH.has p (List.mem_cons_of_mem _ (List.mem_cons_of_mem _ (List.mem_cons_of_mem _ (hp)))))) rfl rfl (at_getD (by omega))) ⟨rfl, rfl⟩
  refine WalkC.eff 0 rfl (fun r uw32 hF34 => ?_) ?_
  · skip
    have H33 := hF34
    dsimp only [List.take, List.map, List.cons_append, List.nil_append]
    refine Gives.ofW (d := 25) rfl rfl (fun Q' hK => ?_)
    have H35 := (H33).as (L' := ((key16, sob EG 85 (gs ++ [(⟨(3 : Int), (ra).getD 0 0, (0 : Int)⟩ : Gt)]) sp18) :: ((some b5, .cells #[i64 ((0 : Int)), .slice none 0 0, .slice none 0 0] 80 (0, 0)) :: (some b1, .cells #[i64 ((n : Nat)), .slice (ownA key16) (List.length (gs ++ [(⟨(3 : Int), (ra).getD 0 0, (0 : Int)⟩ : Gt)])) c17, .slice oa on oc] 80 (0, 0)) :: R))) rfl
    refine c_call (vs := [.agg #[i64 ((n : Nat)), .slice (ownA key16) (List.length (gs ++ [(⟨(3 : Int), (ra).getD 0 0, (0 : Int)⟩ : Gt)])) c17, .slice oa on oc], i64 ((2 : Int)), i64 ((wrW n gs)), i64 ((rb).getD 0 0)]) call80 rfl (rput_ok n key16 c17 sp18 (gs ++ [(⟨(3 : Int), (ra).getD 0 0, (0 : Int)⟩ : Gt)]) hS19 hn (by simp only [List.length_append, List.length_cons, List.length_nil]; omega) oa on oc (2 : Int) (wrW n gs) ((rb).getD 0 0) ((some b5, .cells #[i64 ((0 : Int)), .slice none 0 0, .slice none 0 0] 80 (0, 0)) :: (some b1, .cells #[i64 ((n : Nat)), .slice (ownA key16) (List.length (gs ++ [(⟨(3 : Int), (ra).getD 0 0, (0 : Int)⟩ : Gt)])) c17, .slice oa on oc] 80 (0, 0)) :: R) w₀ uw32 H35) ?_
    rintro _ w36 ⟨wx38, key39, c40, sp41, hwx38, rfl, hS42, HN43⟩
    have H44 := HN43.as (L' := ((key39, sob EG 85 (gs ++ [(⟨(3 : Int), (ra).getD 0 0, (0 : Int)⟩ : Gt)] ++ [(⟨(2 : Int), (wrW n gs), (rb).getD 0 0⟩ : Gt)]) sp41) :: (some b5, .cells #[i64 ((0 : Int)), .slice none 0 0, .slice none 0 0] 80 (0, 0)) :: (some b1, .cells #[i64 ((n : Nat)), .slice (ownA key16) (List.length (gs ++ [(⟨(3 : Int), (ra).getD 0 0, (0 : Int)⟩ : Gt)])) c17, .slice oa on oc] 80 (0, 0)) :: R)) rfl
    exact hK _ _ ⟨wx38, key39, c40, sp41, rfl, hS42, hwx38, H44⟩
  refine WalkC.look rfl (fun r => r 5) (fun r r' h => h 5 (by decide) rfl) (fun q r uw _ _ _ _ => Gives.run rfl (r_move rfl) ⟨rfl, rfl⟩) ?_
  refine WalkC.look rfl (fun r => proj (r 5) 0) (fun r r' h => by rw [h 5 (by decide) rfl]) (fun q r uw hlo hhi hle hF => ?_) ?_
  · skip
    have h1 : 1 ≤ q := hlo 0 5 rfl rfl
    have h2 : q ≤ 1 := hhi 1 9 rfl rfl
    rcases (show q = 1 by omega) with rfl
    · skip
      obtain ⟨wx38, key39, c40, sp41, e5, hS42, hwx38, HH⟩ := hF
      dsimp only
      rw [e5]
      exact Gives.run rfl (r_extract (vs := #[.agg #[i64 ((n : Nat)), .slice (ownA key39) (List.length (gs ++ [(⟨(3 : Int), (ra).getD 0 0, (0 : Int)⟩ : Gt)] ++ [(⟨(2 : Int), (wrW n gs), (rb).getD 0 0⟩ : Gt)])) c40, .slice oa on oc], i64 (wx38)]) rfl rfl) ⟨rfl, rfl⟩
  refine WalkC.look rfl (fun r => proj (r 5) 1) (fun r r' h => by rw [h 5 (by decide) rfl]) (fun q r uw hlo hhi hle hF => ?_) ?_
  · skip
    have h1 : 1 ≤ q := hlo 0 5 rfl rfl
    have h2 : q ≤ 2 := hle
    rcases (show q = 1 ∨ q = 2 by omega) with rfl | rfl
    · skip
      obtain ⟨wx38, key39, c40, sp41, e5, hS42, hwx38, HH⟩ := hF
      dsimp only
      rw [e5]
      exact Gives.run rfl (r_extract (vs := #[.agg #[i64 ((n : Nat)), .slice (ownA key39) (List.length (gs ++ [(⟨(3 : Int), (ra).getD 0 0, (0 : Int)⟩ : Gt)] ++ [(⟨(2 : Int), (wrW n gs), (rb).getD 0 0⟩ : Gt)])) c40, .slice oa on oc], i64 (wx38)]) rfl rfl) ⟨rfl, rfl⟩
    · skip
      obtain ⟨wx38, key39, c40, sp41, e5, e9, hS42, hwx38, HH⟩ := hF
      dsimp only
      rw [e5]
      exact Gives.run rfl (r_extract (vs := #[.agg #[i64 ((n : Nat)), .slice (ownA key39) (List.length (gs ++ [(⟨(3 : Int), (ra).getD 0 0, (0 : Int)⟩ : Gt)] ++ [(⟨(2 : Int), (wrW n gs), (rb).getD 0 0⟩ : Gt)])) c40, .slice oa on oc], i64 (wx38)]) rfl rfl) ⟨rfl, rfl⟩
  refine WalkC.eff 1 rfl (fun r uw45 hF47 => ?_) ?_
  · skip
    obtain ⟨wx38, key39, c40, sp41, e5, hS42, hwx38, H46⟩ := hF47
    dsimp only [List.take, List.map, List.cons_append, List.nil_append]
    rw [e5]
    refine Gives.ofW0 rfl (fun Q' hK => ?_)
    refine d_store (k := 2) (v := .agg #[i64 ((n : Nat)), .slice (ownA key39) (List.length (gs ++ [(⟨(3 : Int), (ra).getD 0 0, (0 : Int)⟩ : Gt)] ++ [(⟨(2 : Int), (wrW n gs), (rb).getD 0 0⟩ : Gt)])) c40, .slice oa on oc]) (cs' := #[i64 ((n : Nat)), .slice (ownA key39) (List.length (gs ++ [(⟨(3 : Int), (ra).getD 0 0, (0 : Int)⟩ : Gt)] ++ [(⟨(2 : Int), (wrW n gs), (rb).getD 0 0⟩ : Gt)])) c40, .slice oa on oc]) H46 rfl rfl rfl siz80 (by rfl) (by intro u hu; simp [Value.cells] at hu; first | (subst hu; rfl) | (rcases hu with rfl | rfl | rfl <;> rfl)) (by exact Nat.le_of_ble_eq_true rfl) (by rfl) ?_
    intro w48 H49 hC50
    have H49' := H49.as (L' := ((key39, sob EG 85 (gs ++ [(⟨(3 : Int), (ra).getD 0 0, (0 : Int)⟩ : Gt)] ++ [(⟨(2 : Int), (wrW n gs), (rb).getD 0 0⟩ : Gt)]) sp41) :: (some b5, .cells #[i64 ((0 : Int)), .slice none 0 0, .slice none 0 0] 80 (0, 0)) :: (some b1, .cells #[i64 ((n : Nat)), .slice (ownA key39) (List.length (gs ++ [(⟨(3 : Int), (ra).getD 0 0, (0 : Int)⟩ : Gt)] ++ [(⟨(2 : Int), (wrW n gs), (rb).getD 0 0⟩ : Gt)])) c40, .slice oa on oc] 80 (0, 0)) :: R)) rfl
    clear H49
    exact hK _ (fun _ => ⟨wx38, key39, c40, sp41, rfl, trivial, hS42, hwx38, H49'⟩)
  refine WalkC.look rfl (fun r => proj (r 5) 1) (fun r r' h => by rw [h 5 (by decide) rfl]) (fun q r uw _ _ _ _ => Gives.run rfl (r_assign rfl) ⟨rfl, rfl⟩) ?_
  refine WalkC.nil ?_
  intro r51 w52 hF54
  obtain ⟨wx38, key39, c40, sp41, e5, e9, hS42, hwx38, H53⟩ := hF54
  dsimp only
  rw [e5]
  subst hwx38
  have e55 : gs ++ [(⟨(3 : Int), (ra).getD 0 0, (0 : Int)⟩ : Gt)] ++ [(⟨(2 : Int), (wrW n gs), (rb).getD 0 0⟩ : Gt)] = (leS n gs ra rb 0).1 := by rfl
  have hS56 := hS42
  rw [e55] at hS56
  have H57 : Hp No w₀ w52 ((key39, sob EG 85 ((leS n gs ra rb 0).1) sp41) :: (some b5, .cells #[i64 ((0 : Int)), .slice none 0 0, .slice none 0 0] 80 (0, 0)) :: (some b1, .cells #[i64 ((n : Nat)), .slice (ownA key39) (List.length ((leS n gs ra rb 0).1)) c40, .slice oa on oc] 80 (0, 0)) :: R) := by rw [← e55]; exact H53
  refine wnil ?_
  refine thenNormal ?_
  refine seqAny ?_
  refine seqRegion ?_
  refine sq (r_assign (v := i64 ((1 : Int))) rfl) ?_
  refine wend ?_
  refine blockAny ?_
  refine loopAny (σ := Nat × Option Nat × Nat × List Value) (fun (i, kz, cz, sz) => [(1, .slice aa 64 ca), (2, .slice ab 64 cb), (3, .pointer (some ⟨b1, 0, none⟩)), (6, .pointer (some ⟨b5, 0, none⟩)), (9, i64 ((leS n gs ra rb i).2)), (10, i64 (((i + 1) : Nat)))]) (fun (i, kz, cz, sz) w' => (i ≤ 62 ∧ Sl EG kz (leS n gs ra rb i).1 cz sz) ∧ Hp No w₀ w' ((kz, sob EG 85 ((leS n gs ra rb i).1) sz) :: (some b1, .cells #[i64 ((n : Nat)), .slice (ownA kz) (List.length ((leS n gs ra rb i).1)) cz, .slice oa on oc] 80 (0, 0)) :: (some b5, .cells #[i64 ((0 : Int)), .slice none 0 0, .slice none 0 0] 80 (0, 0)) :: R)) (fun (i, kz, cz, sz) => 62 - i) ((0, key39, c40, sp41)) ?_ ?_ ?_
  · exact ⟨rfl, rfl, rfl, rfl, rfl, rfl, trivial⟩
  · exact ⟨⟨by omega, hS56⟩, (H57.pick 3 [0, 2, 1] (by decide) (by decide))⟩
  rintro ⟨i, kz, cz, sz⟩ ρ w58 ⟨⟨hq, hSz⟩, HL⟩
  have hll := leS_len n gs ra rb i
  refine seqAny ?_
  refine seqRegion ?_
  refine sq (r_move (v := i64 (((i + 1) : Nat))) rfl) ?_
  refine sq (r_lssI (a := ((i + 1) : Nat)) (b := (63 : Int)) rfl rfl) ?_
  refine wend ?_
  refine condProp ((((i + 1) : Nat) : Int) < (63 : Int)) rfl (fun c29 => ?_) (fun c29 => ?_)
  · skip
    refine skipAny ?_
    refine thenNormal ?_
    refine seqAny ?_
    refine blockAny ?_
    refine seqAny ?_
    refine drawC (m := 11) [0, 0, 0, 6, 14, 31, 63, 127, 127, 255, 1023] [5, 9] (fun q vs w' => match q, vs with | 0, [] => Hp No w₀ w' ((kz, sob EG 85 ((leS n gs ra rb i).1) sz) :: (some b1, .cells #[i64 ((n : Nat)), .slice (ownA kz) (List.length ((leS n gs ra rb i).1)) cz, .slice oa on oc] 80 (0, 0)) :: (some b5, .cells #[i64 ((0 : Int)), .slice none 0 0, .slice none 0 0] 80 (0, 0)) :: R) | 1, [v0] => ∃ (wx66 : Int) (key67 : Option Nat) (c68 : Nat) (sp69 : List Value), v0 = .tuple #[.agg #[i64 ((n : Nat)), .slice (ownA key67) (List.length (((leS n gs ra rb i).1) ++ [(⟨(3 : Int), (ra).getD (i + 1) 0, (0 : Int)⟩ : Gt)])) c68, .slice oa on oc], i64 (wx66)] ∧ Sl EG key67 (((leS n gs ra rb i).1) ++ [(⟨(3 : Int), (ra).getD (i + 1) 0, (0 : Int)⟩ : Gt)]) c68 sp69 ∧ wx66 = wrW n ((leS n gs ra rb i).1) ∧ Hp No w₀ w' ((key67, sob EG 85 (((leS n gs ra rb i).1) ++ [(⟨(3 : Int), (ra).getD (i + 1) 0, (0 : Int)⟩ : Gt)]) sp69) :: (some b1, .cells #[i64 ((n : Nat)), .slice (ownA kz) (List.length ((leS n gs ra rb i).1)) cz, .slice oa on oc] 80 (0, 0)) :: (some b5, .cells #[i64 ((0 : Int)), .slice none 0 0, .slice none 0 0] 80 (0, 0)) :: R) | 2, [v0, _] => ∃ (wx66 : Int) (key67 : Option Nat) (c68 : Nat) (sp69 : List Value), v0 = .tuple #[.agg #[i64 ((n : Nat)), .slice (ownA key67) (List.length (((leS n gs ra rb i).1) ++ [(⟨(3 : Int), (ra).getD (i + 1) 0, (0 : Int)⟩ : Gt)])) c68, .slice oa on oc], i64 (wx66)] ∧ True ∧ Sl EG key67 (((leS n gs ra rb i).1) ++ [(⟨(3 : Int), (ra).getD (i + 1) 0, (0 : Int)⟩ : Gt)]) c68 sp69 ∧ wx66 = wrW n ((leS n gs ra rb i).1) ∧ Hp No w₀ w' ((key67, sob EG 85 (((leS n gs ra rb i).1) ++ [(⟨(3 : Int), (ra).getD (i + 1) 0, (0 : Int)⟩ : Gt)]) sp69) :: (some b1, .cells #[i64 ((n : Nat)), .slice (ownA key67) (List.length (((leS n gs ra rb i).1) ++ [(⟨(3 : Int), (ra).getD (i + 1) 0, (0 : Int)⟩ : Gt)])) c68, .slice oa on oc] 80 (0, 0)) :: (some b5, .cells #[i64 ((0 : Int)), .slice none 0 0, .slice none 0 0] 80 (0, 0)) :: R) | _, _ => False) mixed (by kernel_rfl) (by kernel_rfl) HL.drew ?_
    refine WalkC.look rfl (fun _ => .agg #[i64 ((n : Nat)), .slice (ownA kz) (List.length ((leS n gs ra rb i).1)) cz, .slice oa on oc]) (fun _ _ _ => rfl) (fun q r uw hlo hhi hle hF => ?_) ?_
    · skip
      have h1 : 0 ≤ q := Nat.zero_le _
      have h2 : q ≤ 0 := hhi 0 5 rfl rfl
      rcases (show q = 0 by omega) with rfl
      · skip
        have HH := hF
        exact Gives.run rfl (r_loadA (cs' := #[i64 ((n : Nat)), .slice (ownA kz) (List.length ((leS n gs ra rb i).1)) cz, .slice oa on oc]) agg80 siz80 (HH.get (k := 1) rfl) (off := 0) rfl (by exact Nat.le_of_ble_eq_true rfl) (by rfl)) ⟨rfl, rfl⟩
    refine WalkC.look rfl (fun _ => .slice aa 64 ca) (fun _ _ _ => rfl) (fun q r uw _ _ _ _ => Gives.run rfl (r_move (v := .slice aa 64 ca) rfl) ⟨rfl, rfl⟩) ?_
    refine WalkC.look rfl (fun _ => i64 (((i + 1) : Nat))) (fun _ _ _ => rfl) (fun q r uw _ _ _ _ => Gives.run rfl (r_move (v := i64 (((i + 1) : Nat))) rfl) ⟨rfl, rfl⟩) ?_
    refine WalkC.look rfl (fun _ => .pointer (adr aa ((i + 1) * 1))) (fun _ _ _ => rfl) (fun q r uw hlo hhi hle hF => ?_) ?_
    · skip
      have h1 : 0 ≤ q := Nat.zero_le _
      have h2 : q ≤ 0 := hhi 0 5 rfl rfl
      rcases (show q = 0 by omega) with rfl
      · skip
        have HH := hF
        exact Gives.run rfl (r_idxS (E := EI) (l := ra) (j := (i + 1)) sli60 (hA _ HH.chg (fun p hp => HH.has p (List.mem_cons_of_mem _ (List.mem_cons_of_mem _ (List.mem_cons_of_mem _ (hp)))))) rfl rfl (by first | rfl | omega | (simp; omega)) (by exact hra.symm) (by omega)) ⟨rfl, rfl⟩
    refine WalkC.look rfl (fun _ => i64 ((ra).getD (i + 1) 0)) (fun _ _ _ => rfl) (fun q r uw hlo hhi hle hF => ?_) ?_
    · skip
      have h1 : 0 ≤ q := Nat.zero_le _
      have h2 : q ≤ 0 := hhi 0 5 rfl rfl
      rcases (show q = 0 by omega) with rfl
      · skip
        have HH := hF
        exact Gives.run rfl (r_ldS (E := EI) (l := ra) (j := (i + 1)) (v := (ra).getD (i + 1) 0) fits3 (hA _ HH.chg (fun p hp => HH.has p (List.mem_cons_of_mem _ (List.mem_cons_of_mem _ (List.mem_cons_of_mem _ (hp)))))) rfl rfl (at_getD (by omega))) ⟨rfl, rfl⟩
    refine WalkC.eff 0 rfl (fun r uw60 hF62 => ?_) ?_
    · skip
      have H61 := hF62
      dsimp only [List.take, List.map, List.cons_append, List.nil_append]
      refine Gives.ofW (d := 38) rfl rfl (fun Q' hK => ?_)
      have H63 := (H61).as (L' := ((kz, sob EG 85 ((leS n gs ra rb i).1) sz) :: ((some b1, .cells #[i64 ((n : Nat)), .slice (ownA kz) (List.length ((leS n gs ra rb i).1)) cz, .slice oa on oc] 80 (0, 0)) :: (some b5, .cells #[i64 ((0 : Int)), .slice none 0 0, .slice none 0 0] 80 (0, 0)) :: R))) rfl
      refine c_call (vs := [.agg #[i64 ((n : Nat)), .slice (ownA kz) (List.length ((leS n gs ra rb i).1)) cz, .slice oa on oc], i64 ((3 : Int)), i64 ((ra).getD (i + 1) 0), i64 ((0 : Int))]) call80 rfl (rput_ok n kz cz sz ((leS n gs ra rb i).1) hSz hn (by omega) oa on oc (3 : Int) ((ra).getD (i + 1) 0) (0 : Int) ((some b1, .cells #[i64 ((n : Nat)), .slice (ownA kz) (List.length ((leS n gs ra rb i).1)) cz, .slice oa on oc] 80 (0, 0)) :: (some b5, .cells #[i64 ((0 : Int)), .slice none 0 0, .slice none 0 0] 80 (0, 0)) :: R) w₀ uw60 H63) ?_
      rintro _ w64 ⟨wx66, key67, c68, sp69, hwx66, rfl, hS70, HN71⟩
      have H72 := HN71.as (L' := ((key67, sob EG 85 (((leS n gs ra rb i).1) ++ [(⟨(3 : Int), (ra).getD (i + 1) 0, (0 : Int)⟩ : Gt)]) sp69) :: (some b1, .cells #[i64 ((n : Nat)), .slice (ownA kz) (List.length ((leS n gs ra rb i).1)) cz, .slice oa on oc] 80 (0, 0)) :: (some b5, .cells #[i64 ((0 : Int)), .slice none 0 0, .slice none 0 0] 80 (0, 0)) :: R)) rfl
      exact hK _ _ ⟨wx66, key67, c68, sp69, rfl, hS70, hwx66, H72⟩
    refine WalkC.look rfl (fun r => r 5) (fun r r' h => h 5 (by decide) rfl) (fun q r uw _ _ _ _ => Gives.run rfl (r_move rfl) ⟨rfl, rfl⟩) ?_
    refine WalkC.look rfl (fun r => proj (r 5) 0) (fun r r' h => by rw [h 5 (by decide) rfl]) (fun q r uw hlo hhi hle hF => ?_) ?_
    · skip
      have h1 : 1 ≤ q := hlo 0 5 rfl rfl
      have h2 : q ≤ 1 := hhi 1 9 rfl rfl
      rcases (show q = 1 by omega) with rfl
      · skip
        obtain ⟨wx66, key67, c68, sp69, e5, hS70, hwx66, HH⟩ := hF
        dsimp only
        rw [e5]
        exact Gives.run rfl (r_extract (vs := #[.agg #[i64 ((n : Nat)), .slice (ownA key67) (List.length (((leS n gs ra rb i).1) ++ [(⟨(3 : Int), (ra).getD (i + 1) 0, (0 : Int)⟩ : Gt)])) c68, .slice oa on oc], i64 (wx66)]) rfl rfl) ⟨rfl, rfl⟩
    refine WalkC.look rfl (fun r => proj (r 5) 1) (fun r r' h => by rw [h 5 (by decide) rfl]) (fun q r uw hlo hhi hle hF => ?_) ?_
    · skip
      have h1 : 1 ≤ q := hlo 0 5 rfl rfl
      have h2 : q ≤ 2 := hle
      rcases (show q = 1 ∨ q = 2 by omega) with rfl | rfl
      · skip
        obtain ⟨wx66, key67, c68, sp69, e5, hS70, hwx66, HH⟩ := hF
        dsimp only
        rw [e5]
        exact Gives.run rfl (r_extract (vs := #[.agg #[i64 ((n : Nat)), .slice (ownA key67) (List.length (((leS n gs ra rb i).1) ++ [(⟨(3 : Int), (ra).getD (i + 1) 0, (0 : Int)⟩ : Gt)])) c68, .slice oa on oc], i64 (wx66)]) rfl rfl) ⟨rfl, rfl⟩
      · skip
        obtain ⟨wx66, key67, c68, sp69, e5, e9, hS70, hwx66, HH⟩ := hF
        dsimp only
        rw [e5]
        exact Gives.run rfl (r_extract (vs := #[.agg #[i64 ((n : Nat)), .slice (ownA key67) (List.length (((leS n gs ra rb i).1) ++ [(⟨(3 : Int), (ra).getD (i + 1) 0, (0 : Int)⟩ : Gt)])) c68, .slice oa on oc], i64 (wx66)]) rfl rfl) ⟨rfl, rfl⟩
    refine WalkC.eff 1 rfl (fun r uw73 hF75 => ?_) ?_
    · skip
      obtain ⟨wx66, key67, c68, sp69, e5, hS70, hwx66, H74⟩ := hF75
      dsimp only [List.take, List.map, List.cons_append, List.nil_append]
      rw [e5]
      refine Gives.ofW0 rfl (fun Q' hK => ?_)
      refine d_store (k := 1) (v := .agg #[i64 ((n : Nat)), .slice (ownA key67) (List.length (((leS n gs ra rb i).1) ++ [(⟨(3 : Int), (ra).getD (i + 1) 0, (0 : Int)⟩ : Gt)])) c68, .slice oa on oc]) (cs' := #[i64 ((n : Nat)), .slice (ownA key67) (List.length (((leS n gs ra rb i).1) ++ [(⟨(3 : Int), (ra).getD (i + 1) 0, (0 : Int)⟩ : Gt)])) c68, .slice oa on oc]) H74 rfl rfl rfl siz80 (by rfl) (by intro u hu; simp [Value.cells] at hu; first | (subst hu; rfl) | (rcases hu with rfl | rfl | rfl <;> rfl)) (by exact Nat.le_of_ble_eq_true rfl) (by rfl) ?_
      intro w76 H77 hC78
      have H77' := H77.as (L' := ((key67, sob EG 85 (((leS n gs ra rb i).1) ++ [(⟨(3 : Int), (ra).getD (i + 1) 0, (0 : Int)⟩ : Gt)]) sp69) :: (some b1, .cells #[i64 ((n : Nat)), .slice (ownA key67) (List.length (((leS n gs ra rb i).1) ++ [(⟨(3 : Int), (ra).getD (i + 1) 0, (0 : Int)⟩ : Gt)])) c68, .slice oa on oc] 80 (0, 0)) :: (some b5, .cells #[i64 ((0 : Int)), .slice none 0 0, .slice none 0 0] 80 (0, 0)) :: R)) rfl
      clear H77
      exact hK _ (fun _ => ⟨wx66, key67, c68, sp69, rfl, trivial, hS70, hwx66, H77'⟩)
    refine WalkC.look rfl (fun r => proj (r 5) 1) (fun r r' h => by rw [h 5 (by decide) rfl]) (fun q r uw _ _ _ _ => Gives.run rfl (r_assign rfl) ⟨rfl, rfl⟩) ?_
    refine WalkC.nil ?_
    intro r79 w80 hF82
    obtain ⟨wx66, key67, c68, sp69, e5, e9, hS70, hwx66, H81⟩ := hF82
    dsimp only
    rw [e5]
    subst hwx66
    refine wnil ?_
    refine thenNormal ?_
    refine drawC (m := 13) [0, 0, 0, 0, 12, 28, 0, 127, 255, 511, 511, 1023, 4095] [7, 11] (fun q vs w' => match q, vs with | 0, [] => Hp No w₀ w' ((key67, sob EG 85 (((leS n gs ra rb i).1) ++ [(⟨(3 : Int), (ra).getD (i + 1) 0, (0 : Int)⟩ : Gt)]) sp69) :: (some b1, .cells #[i64 ((n : Nat)), .slice (ownA key67) (List.length (((leS n gs ra rb i).1) ++ [(⟨(3 : Int), (ra).getD (i + 1) 0, (0 : Int)⟩ : Gt)])) c68, .slice oa on oc] 80 (0, 0)) :: (some b5, .cells #[i64 ((0 : Int)), .slice none 0 0, .slice none 0 0] 80 (0, 0)) :: R) | 1, [v0] => ∃ (wx89 : Int) (key90 : Option Nat) (c91 : Nat) (sp92 : List Value), v0 = .tuple #[.agg #[i64 ((n : Nat)), .slice (ownA key90) (List.length (caG n (((leS n gs ra rb i).1) ++ [(⟨(3 : Int), (ra).getD (i + 1) 0, (0 : Int)⟩ : Gt)]) (wrW n ((leS n gs ra rb i).1)) ((rb).getD (i + 1) 0) ((leS n gs ra rb i).2))) c91, .slice oa on oc], i64 (wx89)] ∧ Sl EG key90 (caG n (((leS n gs ra rb i).1) ++ [(⟨(3 : Int), (ra).getD (i + 1) 0, (0 : Int)⟩ : Gt)]) (wrW n ((leS n gs ra rb i).1)) ((rb).getD (i + 1) 0) ((leS n gs ra rb i).2)) c91 sp92 ∧ wx89 = caW n (((leS n gs ra rb i).1) ++ [(⟨(3 : Int), (ra).getD (i + 1) 0, (0 : Int)⟩ : Gt)]) ∧ Hp No w₀ w' ((key90, sob EG 85 (caG n (((leS n gs ra rb i).1) ++ [(⟨(3 : Int), (ra).getD (i + 1) 0, (0 : Int)⟩ : Gt)]) (wrW n ((leS n gs ra rb i).1)) ((rb).getD (i + 1) 0) ((leS n gs ra rb i).2)) sp92) :: (some b1, .cells #[i64 ((n : Nat)), .slice (ownA key67) (List.length (((leS n gs ra rb i).1) ++ [(⟨(3 : Int), (ra).getD (i + 1) 0, (0 : Int)⟩ : Gt)])) c68, .slice oa on oc] 80 (0, 0)) :: (some b5, .cells #[i64 ((0 : Int)), .slice none 0 0, .slice none 0 0] 80 (0, 0)) :: R) | 2, [v0, _] => ∃ (wx89 : Int) (key90 : Option Nat) (c91 : Nat) (sp92 : List Value), v0 = .tuple #[.agg #[i64 ((n : Nat)), .slice (ownA key90) (List.length (caG n (((leS n gs ra rb i).1) ++ [(⟨(3 : Int), (ra).getD (i + 1) 0, (0 : Int)⟩ : Gt)]) (wrW n ((leS n gs ra rb i).1)) ((rb).getD (i + 1) 0) ((leS n gs ra rb i).2))) c91, .slice oa on oc], i64 (wx89)] ∧ True ∧ Sl EG key90 (caG n (((leS n gs ra rb i).1) ++ [(⟨(3 : Int), (ra).getD (i + 1) 0, (0 : Int)⟩ : Gt)]) (wrW n ((leS n gs ra rb i).1)) ((rb).getD (i + 1) 0) ((leS n gs ra rb i).2)) c91 sp92 ∧ wx89 = caW n (((leS n gs ra rb i).1) ++ [(⟨(3 : Int), (ra).getD (i + 1) 0, (0 : Int)⟩ : Gt)]) ∧ Hp No w₀ w' ((key90, sob EG 85 (caG n (((leS n gs ra rb i).1) ++ [(⟨(3 : Int), (ra).getD (i + 1) 0, (0 : Int)⟩ : Gt)]) (wrW n ((leS n gs ra rb i).1)) ((rb).getD (i + 1) 0) ((leS n gs ra rb i).2)) sp92) :: (some b1, .cells #[i64 ((n : Nat)), .slice (ownA key90) (List.length (caG n (((leS n gs ra rb i).1) ++ [(⟨(3 : Int), (ra).getD (i + 1) 0, (0 : Int)⟩ : Gt)]) (wrW n ((leS n gs ra rb i).1)) ((rb).getD (i + 1) 0) ((leS n gs ra rb i).2))) c91, .slice oa on oc] 80 (0, 0)) :: (some b5, .cells #[i64 ((0 : Int)), .slice none 0 0, .slice none 0 0] 80 (0, 0)) :: R) | _, _ => False) mixed (by kernel_rfl) (by kernel_rfl) H81.drew ?_
    refine WalkC.look rfl (fun _ => .agg #[i64 ((n : Nat)), .slice (ownA key67) (List.length (((leS n gs ra rb i).1) ++ [(⟨(3 : Int), (ra).getD (i + 1) 0, (0 : Int)⟩ : Gt)])) c68, .slice oa on oc]) (fun _ _ _ => rfl) (fun q r uw hlo hhi hle hF => ?_) ?_
    · skip
      have h1 : 0 ≤ q := Nat.zero_le _
      have h2 : q ≤ 0 := hhi 0 7 rfl rfl
      rcases (show q = 0 by omega) with rfl
      · skip
        have HH := hF
        exact Gives.run rfl (r_loadA (cs' := #[i64 ((n : Nat)), .slice (ownA key67) (List.length (((leS n gs ra rb i).1) ++ [(⟨(3 : Int), (ra).getD (i + 1) 0, (0 : Int)⟩ : Gt)])) c68, .slice oa on oc]) agg80 siz80 (HH.get (k := 1) rfl) (off := 0) rfl (by exact Nat.le_of_ble_eq_true rfl) (by rfl)) ⟨rfl, rfl⟩
    refine WalkC.look rfl (fun _ => i64 ((wrW n ((leS n gs ra rb i).1)))) (fun _ _ _ => rfl) (fun q r uw _ _ _ _ => Gives.run rfl (r_move (v := i64 ((wrW n ((leS n gs ra rb i).1)))) rfl) ⟨rfl, rfl⟩) ?_
    refine WalkC.look rfl (fun _ => .slice ab 64 cb) (fun _ _ _ => rfl) (fun q r uw _ _ _ _ => Gives.run rfl (r_move (v := .slice ab 64 cb) rfl) ⟨rfl, rfl⟩) ?_
    refine WalkC.look rfl (fun _ => i64 (((i + 1) : Nat))) (fun _ _ _ => rfl) (fun q r uw _ _ _ _ => Gives.run rfl (r_move (v := i64 (((i + 1) : Nat))) rfl) ⟨rfl, rfl⟩) ?_
    refine WalkC.look rfl (fun _ => .pointer (adr ab ((i + 1) * 1))) (fun _ _ _ => rfl) (fun q r uw hlo hhi hle hF => ?_) ?_
    · skip
      have h1 : 0 ≤ q := Nat.zero_le _
      have h2 : q ≤ 0 := hhi 0 7 rfl rfl
      rcases (show q = 0 by omega) with rfl
      · skip
        have HH := hF
        exact Gives.run rfl (r_idxS (E := EI) (l := rb) (j := (i + 1)) sli60 (hB _ HH.chg (fun p hp => HH.has p (List.mem_cons_of_mem _ (List.mem_cons_of_mem _ (List.mem_cons_of_mem _ (hp)))))) rfl rfl (by first | rfl | omega | (simp; omega)) (by exact hrb.symm) (by omega)) ⟨rfl, rfl⟩
    refine WalkC.look rfl (fun _ => i64 ((rb).getD (i + 1) 0)) (fun _ _ _ => rfl) (fun q r uw hlo hhi hle hF => ?_) ?_
    · skip
      have h1 : 0 ≤ q := Nat.zero_le _
      have h2 : q ≤ 0 := hhi 0 7 rfl rfl
      rcases (show q = 0 by omega) with rfl
      · skip
        have HH := hF
        exact Gives.run rfl (r_ldS (E := EI) (l := rb) (j := (i + 1)) (v := (rb).getD (i + 1) 0) fits3 (hB _ HH.chg (fun p hp => HH.has p (List.mem_cons_of_mem _ (List.mem_cons_of_mem _ (List.mem_cons_of_mem _ (hp)))))) rfl rfl (at_getD (by omega))) ⟨rfl, rfl⟩
    refine WalkC.look rfl (fun _ => i64 ((leS n gs ra rb i).2)) (fun _ _ _ => rfl) (fun q r uw _ _ _ _ => Gives.run rfl (r_move (v := i64 ((leS n gs ra rb i).2)) rfl) ⟨rfl, rfl⟩) ?_
    refine WalkC.eff 0 rfl (fun r uw83 hF85 => ?_) ?_
    · skip
      have H84 := hF85
      dsimp only [List.take, List.map, List.cons_append, List.nil_append]
      refine Gives.ofW (d := 49) rfl rfl (fun Q' hK => ?_)
      have H86 := (H84).as (L' := ((key67, sob EG 85 (((leS n gs ra rb i).1) ++ [(⟨(3 : Int), (ra).getD (i + 1) 0, (0 : Int)⟩ : Gt)]) sp69) :: ((some b1, .cells #[i64 ((n : Nat)), .slice (ownA key67) (List.length (((leS n gs ra rb i).1) ++ [(⟨(3 : Int), (ra).getD (i + 1) 0, (0 : Int)⟩ : Gt)])) c68, .slice oa on oc] 80 (0, 0)) :: (some b5, .cells #[i64 ((0 : Int)), .slice none 0 0, .slice none 0 0] 80 (0, 0)) :: R))) rfl
      refine c_call (vs := [.agg #[i64 ((n : Nat)), .slice (ownA key67) (List.length (((leS n gs ra rb i).1) ++ [(⟨(3 : Int), (ra).getD (i + 1) 0, (0 : Int)⟩ : Gt)])) c68, .slice oa on oc], i64 ((wrW n ((leS n gs ra rb i).1))), i64 ((rb).getD (i + 1) 0), i64 ((leS n gs ra rb i).2)]) call105 rfl (rcarry_ok n key67 c68 sp69 (((leS n gs ra rb i).1) ++ [(⟨(3 : Int), (ra).getD (i + 1) 0, (0 : Int)⟩ : Gt)]) hS70 hn (by simp only [List.length_append, List.length_cons, List.length_nil]; omega) oa on oc (wrW n ((leS n gs ra rb i).1)) ((rb).getD (i + 1) 0) ((leS n gs ra rb i).2) ((some b1, .cells #[i64 ((n : Nat)), .slice (ownA key67) (List.length (((leS n gs ra rb i).1) ++ [(⟨(3 : Int), (ra).getD (i + 1) 0, (0 : Int)⟩ : Gt)])) c68, .slice oa on oc] 80 (0, 0)) :: (some b5, .cells #[i64 ((0 : Int)), .slice none 0 0, .slice none 0 0] 80 (0, 0)) :: R) w₀ uw83 H86) ?_
      rintro _ w87 ⟨wx89, key90, c91, sp92, hwx89, rfl, hS93, HN94⟩
      have H95 := HN94.as (L' := ((key90, sob EG 85 (caG n (((leS n gs ra rb i).1) ++ [(⟨(3 : Int), (ra).getD (i + 1) 0, (0 : Int)⟩ : Gt)]) (wrW n ((leS n gs ra rb i).1)) ((rb).getD (i + 1) 0) ((leS n gs ra rb i).2)) sp92) :: (some b1, .cells #[i64 ((n : Nat)), .slice (ownA key67) (List.length (((leS n gs ra rb i).1) ++ [(⟨(3 : Int), (ra).getD (i + 1) 0, (0 : Int)⟩ : Gt)])) c68, .slice oa on oc] 80 (0, 0)) :: (some b5, .cells #[i64 ((0 : Int)), .slice none 0 0, .slice none 0 0] 80 (0, 0)) :: R)) rfl
      exact hK _ _ ⟨wx89, key90, c91, sp92, rfl, hS93, hwx89, H95⟩
    refine WalkC.look rfl (fun r => r 7) (fun r r' h => h 7 (by decide) rfl) (fun q r uw _ _ _ _ => Gives.run rfl (r_move rfl) ⟨rfl, rfl⟩) ?_
    refine WalkC.look rfl (fun r => proj (r 7) 0) (fun r r' h => by rw [h 7 (by decide) rfl]) (fun q r uw hlo hhi hle hF => ?_) ?_
    · skip
      have h1 : 1 ≤ q := hlo 0 7 rfl rfl
      have h2 : q ≤ 1 := hhi 1 11 rfl rfl
      rcases (show q = 1 by omega) with rfl
      · skip
        obtain ⟨wx89, key90, c91, sp92, e7, hS93, hwx89, HH⟩ := hF
        dsimp only
        rw [e7]
        exact Gives.run rfl (r_extract (vs := #[.agg #[i64 ((n : Nat)), .slice (ownA key90) (List.length (caG n (((leS n gs ra rb i).1) ++ [(⟨(3 : Int), (ra).getD (i + 1) 0, (0 : Int)⟩ : Gt)]) (wrW n ((leS n gs ra rb i).1)) ((rb).getD (i + 1) 0) ((leS n gs ra rb i).2))) c91, .slice oa on oc], i64 (wx89)]) rfl rfl) ⟨rfl, rfl⟩
    refine WalkC.look rfl (fun r => proj (r 7) 1) (fun r r' h => by rw [h 7 (by decide) rfl]) (fun q r uw hlo hhi hle hF => ?_) ?_
    · skip
      have h1 : 1 ≤ q := hlo 0 7 rfl rfl
      have h2 : q ≤ 2 := hle
      rcases (show q = 1 ∨ q = 2 by omega) with rfl | rfl
      · skip
        obtain ⟨wx89, key90, c91, sp92, e7, hS93, hwx89, HH⟩ := hF
        dsimp only
        rw [e7]
        exact Gives.run rfl (r_extract (vs := #[.agg #[i64 ((n : Nat)), .slice (ownA key90) (List.length (caG n (((leS n gs ra rb i).1) ++ [(⟨(3 : Int), (ra).getD (i + 1) 0, (0 : Int)⟩ : Gt)]) (wrW n ((leS n gs ra rb i).1)) ((rb).getD (i + 1) 0) ((leS n gs ra rb i).2))) c91, .slice oa on oc], i64 (wx89)]) rfl rfl) ⟨rfl, rfl⟩
      · skip
        obtain ⟨wx89, key90, c91, sp92, e7, e11, hS93, hwx89, HH⟩ := hF
        dsimp only
        rw [e7]
        exact Gives.run rfl (r_extract (vs := #[.agg #[i64 ((n : Nat)), .slice (ownA key90) (List.length (caG n (((leS n gs ra rb i).1) ++ [(⟨(3 : Int), (ra).getD (i + 1) 0, (0 : Int)⟩ : Gt)]) (wrW n ((leS n gs ra rb i).1)) ((rb).getD (i + 1) 0) ((leS n gs ra rb i).2))) c91, .slice oa on oc], i64 (wx89)]) rfl rfl) ⟨rfl, rfl⟩
    refine WalkC.eff 1 rfl (fun r uw96 hF98 => ?_) ?_
    · skip
      obtain ⟨wx89, key90, c91, sp92, e7, hS93, hwx89, H97⟩ := hF98
      dsimp only [List.take, List.map, List.cons_append, List.nil_append]
      rw [e7]
      refine Gives.ofW0 rfl (fun Q' hK => ?_)
      refine d_store (k := 1) (v := .agg #[i64 ((n : Nat)), .slice (ownA key90) (List.length (caG n (((leS n gs ra rb i).1) ++ [(⟨(3 : Int), (ra).getD (i + 1) 0, (0 : Int)⟩ : Gt)]) (wrW n ((leS n gs ra rb i).1)) ((rb).getD (i + 1) 0) ((leS n gs ra rb i).2))) c91, .slice oa on oc]) (cs' := #[i64 ((n : Nat)), .slice (ownA key90) (List.length (caG n (((leS n gs ra rb i).1) ++ [(⟨(3 : Int), (ra).getD (i + 1) 0, (0 : Int)⟩ : Gt)]) (wrW n ((leS n gs ra rb i).1)) ((rb).getD (i + 1) 0) ((leS n gs ra rb i).2))) c91, .slice oa on oc]) H97 rfl rfl rfl siz80 (by rfl) (by intro u hu; simp [Value.cells] at hu; first | (subst hu; rfl) | (rcases hu with rfl | rfl | rfl <;> rfl)) (by exact Nat.le_of_ble_eq_true rfl) (by rfl) ?_
      intro w99 H100 hC101
      have H100' := H100.as (L' := ((key90, sob EG 85 (caG n (((leS n gs ra rb i).1) ++ [(⟨(3 : Int), (ra).getD (i + 1) 0, (0 : Int)⟩ : Gt)]) (wrW n ((leS n gs ra rb i).1)) ((rb).getD (i + 1) 0) ((leS n gs ra rb i).2)) sp92) :: (some b1, .cells #[i64 ((n : Nat)), .slice (ownA key90) (List.length (caG n (((leS n gs ra rb i).1) ++ [(⟨(3 : Int), (ra).getD (i + 1) 0, (0 : Int)⟩ : Gt)]) (wrW n ((leS n gs ra rb i).1)) ((rb).getD (i + 1) 0) ((leS n gs ra rb i).2))) c91, .slice oa on oc] 80 (0, 0)) :: (some b5, .cells #[i64 ((0 : Int)), .slice none 0 0, .slice none 0 0] 80 (0, 0)) :: R)) rfl
      clear H100
      exact hK _ (fun _ => ⟨wx89, key90, c91, sp92, rfl, trivial, hS93, hwx89, H100'⟩)
    refine WalkC.look rfl (fun r => proj (r 7) 1) (fun r r' h => by rw [h 7 (by decide) rfl]) (fun q r uw _ _ _ _ => Gives.run rfl (r_assign rfl) ⟨rfl, rfl⟩) ?_
    refine WalkC.nil ?_
    intro r102 w103 hF105
    obtain ⟨wx89, key90, c91, sp92, e7, e11, hS93, hwx89, H104⟩ := hF105
    dsimp only
    rw [e7]
    subst hwx89
    refine wnil ?_
    refine blockNormal ?_
    refine thenNormal ?_
    refine oneRegion ?_
    refine sq (r_move (v := i64 (((i + 1) : Nat))) rfl) ?_
    refine sq ((r_addI (a := ((i + 1) : Nat)) (b := (1 : Int)) rfl rfl (by omega)).as (v' := i64 (((i + 1 + 1) : Nat))) (by rfl)) ?_
    refine sq (r_assign (v := i64 (((i + 1 + 1) : Nat))) rfl) ?_
    refine wnil ?_
    refine thenNormal ?_
    have e106 : caG n (((leS n gs ra rb i).1) ++ [(⟨(3 : Int), (ra).getD (i + 1) 0, (0 : Int)⟩ : Gt)]) (wrW n ((leS n gs ra rb i).1)) ((rb).getD (i + 1) 0) ((leS n gs ra rb i).2) = (leS n gs ra rb (i + 1)).1 := by rfl
    have hS107 := hS93
    rw [e106] at hS107
    have H108 : Hp No w₀ w103 ((key90, sob EG 85 ((leS n gs ra rb (i + 1)).1) sp92) :: (some b1, .cells #[i64 ((n : Nat)), .slice (ownA key90) (List.length ((leS n gs ra rb (i + 1)).1)) c91, .slice oa on oc] 80 (0, 0)) :: (some b5, .cells #[i64 ((0 : Int)), .slice none 0 0, .slice none 0 0] 80 (0, 0)) :: R) := by rw [← e106]; exact H104
    exact ⟨(i + 1, key90, c91, sp92), _, rfl, ⟨rfl, rfl, rfl, rfl, rfl, rfl, trivial⟩, ⟨⟨by omega, hS107⟩, H108⟩, by show 62 - (i + 1) < 62 - i; omega⟩
  · skip
    have hie : i = 62 := by omega
    refine exitAny ?_
    refine thenExit ?_
    refine thenExit ?_
    refine blockHere ?_
    refine thenNormal ?_
    refine seqAny ?_
    refine drawC (m := 10) [0, 0, 2, 6, 15, 31, 63, 63, 127, 511] [4, 8] (fun q vs w' => match q, vs with | 0, [] => Hp No w₀ w' ((kz, sob EG 85 ((leS n gs ra rb i).1) sz) :: (some b1, .cells #[i64 ((n : Nat)), .slice (ownA kz) (List.length ((leS n gs ra rb i).1)) cz, .slice oa on oc] 80 (0, 0)) :: (some b5, .cells #[i64 ((0 : Int)), .slice none 0 0, .slice none 0 0] 80 (0, 0)) :: R) | 1, [v0] => ∃ (wx115 : Int) (key116 : Option Nat) (c117 : Nat) (sp118 : List Value), v0 = .tuple #[.agg #[i64 ((n : Nat)), .slice (ownA key116) (List.length (((leS n gs ra rb i).1) ++ [(⟨(3 : Int), (rb).getD 63 0, (0 : Int)⟩ : Gt)])) c117, .slice oa on oc], i64 (wx115)] ∧ Sl EG key116 (((leS n gs ra rb i).1) ++ [(⟨(3 : Int), (rb).getD 63 0, (0 : Int)⟩ : Gt)]) c117 sp118 ∧ wx115 = wrW n ((leS n gs ra rb i).1) ∧ Hp No w₀ w' ((key116, sob EG 85 (((leS n gs ra rb i).1) ++ [(⟨(3 : Int), (rb).getD 63 0, (0 : Int)⟩ : Gt)]) sp118) :: (some b1, .cells #[i64 ((n : Nat)), .slice (ownA kz) (List.length ((leS n gs ra rb i).1)) cz, .slice oa on oc] 80 (0, 0)) :: (some b5, .cells #[i64 ((0 : Int)), .slice none 0 0, .slice none 0 0] 80 (0, 0)) :: R) | 2, [v0, _] => ∃ (wx115 : Int) (key116 : Option Nat) (c117 : Nat) (sp118 : List Value), v0 = .tuple #[.agg #[i64 ((n : Nat)), .slice (ownA key116) (List.length (((leS n gs ra rb i).1) ++ [(⟨(3 : Int), (rb).getD 63 0, (0 : Int)⟩ : Gt)])) c117, .slice oa on oc], i64 (wx115)] ∧ True ∧ Sl EG key116 (((leS n gs ra rb i).1) ++ [(⟨(3 : Int), (rb).getD 63 0, (0 : Int)⟩ : Gt)]) c117 sp118 ∧ wx115 = wrW n ((leS n gs ra rb i).1) ∧ Hp No w₀ w' ((key116, sob EG 85 (((leS n gs ra rb i).1) ++ [(⟨(3 : Int), (rb).getD 63 0, (0 : Int)⟩ : Gt)]) sp118) :: (some b1, .cells #[i64 ((n : Nat)), .slice (ownA key116) (List.length (((leS n gs ra rb i).1) ++ [(⟨(3 : Int), (rb).getD 63 0, (0 : Int)⟩ : Gt)])) c117, .slice oa on oc] 80 (0, 0)) :: (some b5, .cells #[i64 ((0 : Int)), .slice none 0 0, .slice none 0 0] 80 (0, 0)) :: R) | _, _ => False) mixed (by kernel_rfl) (by kernel_rfl) HL.drew ?_
    refine WalkC.look rfl (fun _ => .agg #[i64 ((n : Nat)), .slice (ownA kz) (List.length ((leS n gs ra rb i).1)) cz, .slice oa on oc]) (fun _ _ _ => rfl) (fun q r uw hlo hhi hle hF => ?_) ?_
    · skip
      have h1 : 0 ≤ q := Nat.zero_le _
      have h2 : q ≤ 0 := hhi 0 4 rfl rfl
      rcases (show q = 0 by omega) with rfl
      · skip
        have HH := hF
        exact Gives.run rfl (r_loadA (cs' := #[i64 ((n : Nat)), .slice (ownA kz) (List.length ((leS n gs ra rb i).1)) cz, .slice oa on oc]) agg80 siz80 (HH.get (k := 1) rfl) (off := 0) rfl (by exact Nat.le_of_ble_eq_true rfl) (by rfl)) ⟨rfl, rfl⟩
    refine WalkC.look rfl (fun _ => .slice ab 64 cb) (fun _ _ _ => rfl) (fun q r uw _ _ _ _ => Gives.run rfl (r_move (v := .slice ab 64 cb) rfl) ⟨rfl, rfl⟩) ?_
    refine WalkC.look rfl (fun _ => .pointer (adr ab (63 * 1))) (fun _ _ _ => rfl) (fun q r uw hlo hhi hle hF => ?_) ?_
    · skip
      have h1 : 0 ≤ q := Nat.zero_le _
      have h2 : q ≤ 0 := hhi 0 4 rfl rfl
      rcases (show q = 0 by omega) with rfl
      · skip
        have HH := hF
        exact Gives.run rfl (r_idxS (E := EI) (l := rb) (j := 63) sli60 (hB _ HH.chg (fun p hp => HH.has p (List.mem_cons_of_mem _ (List.mem_cons_of_mem _ (List.mem_cons_of_mem _ (hp)))))) rfl rfl (by first | rfl | omega | (simp; omega)) (by exact hrb.symm) (by omega)) ⟨rfl, rfl⟩
    refine WalkC.look rfl (fun _ => i64 ((rb).getD 63 0)) (fun _ _ _ => rfl) (fun q r uw hlo hhi hle hF => ?_) ?_
    · skip
      have h1 : 0 ≤ q := Nat.zero_le _
      have h2 : q ≤ 0 := hhi 0 4 rfl rfl
      rcases (show q = 0 by omega) with rfl
      · skip
        have HH := hF
        exact Gives.run rfl (r_ldS (E := EI) (l := rb) (j := 63) (v := (rb).getD 63 0) fits3 (hB _ HH.chg (fun p hp => HH.has p (List.mem_cons_of_mem _ (List.mem_cons_of_mem _ (List.mem_cons_of_mem _ (hp)))))) rfl rfl (at_getD (by omega))) ⟨rfl, rfl⟩
    refine WalkC.eff 0 rfl (fun r uw109 hF111 => ?_) ?_
    · skip
      have H110 := hF111
      dsimp only [List.take, List.map, List.cons_append, List.nil_append]
      refine Gives.ofW (d := 57) rfl rfl (fun Q' hK => ?_)
      have H112 := (H110).as (L' := ((kz, sob EG 85 ((leS n gs ra rb i).1) sz) :: ((some b1, .cells #[i64 ((n : Nat)), .slice (ownA kz) (List.length ((leS n gs ra rb i).1)) cz, .slice oa on oc] 80 (0, 0)) :: (some b5, .cells #[i64 ((0 : Int)), .slice none 0 0, .slice none 0 0] 80 (0, 0)) :: R))) rfl
      refine c_call (vs := [.agg #[i64 ((n : Nat)), .slice (ownA kz) (List.length ((leS n gs ra rb i).1)) cz, .slice oa on oc], i64 ((3 : Int)), i64 ((rb).getD 63 0), i64 ((0 : Int))]) call80 rfl (rput_ok n kz cz sz ((leS n gs ra rb i).1) hSz hn (by omega) oa on oc (3 : Int) ((rb).getD 63 0) (0 : Int) ((some b1, .cells #[i64 ((n : Nat)), .slice (ownA kz) (List.length ((leS n gs ra rb i).1)) cz, .slice oa on oc] 80 (0, 0)) :: (some b5, .cells #[i64 ((0 : Int)), .slice none 0 0, .slice none 0 0] 80 (0, 0)) :: R) w₀ uw109 H112) ?_
      rintro _ w113 ⟨wx115, key116, c117, sp118, hwx115, rfl, hS119, HN120⟩
      have H121 := HN120.as (L' := ((key116, sob EG 85 (((leS n gs ra rb i).1) ++ [(⟨(3 : Int), (rb).getD 63 0, (0 : Int)⟩ : Gt)]) sp118) :: (some b1, .cells #[i64 ((n : Nat)), .slice (ownA kz) (List.length ((leS n gs ra rb i).1)) cz, .slice oa on oc] 80 (0, 0)) :: (some b5, .cells #[i64 ((0 : Int)), .slice none 0 0, .slice none 0 0] 80 (0, 0)) :: R)) rfl
      exact hK _ _ ⟨wx115, key116, c117, sp118, rfl, hS119, hwx115, H121⟩
    refine WalkC.look rfl (fun r => r 4) (fun r r' h => h 4 (by decide) rfl) (fun q r uw _ _ _ _ => Gives.run rfl (r_move rfl) ⟨rfl, rfl⟩) ?_
    refine WalkC.look rfl (fun r => proj (r 4) 0) (fun r r' h => by rw [h 4 (by decide) rfl]) (fun q r uw hlo hhi hle hF => ?_) ?_
    · skip
      have h1 : 1 ≤ q := hlo 0 4 rfl rfl
      have h2 : q ≤ 1 := hhi 1 8 rfl rfl
      rcases (show q = 1 by omega) with rfl
      · skip
        obtain ⟨wx115, key116, c117, sp118, e4, hS119, hwx115, HH⟩ := hF
        dsimp only
        rw [e4]
        exact Gives.run rfl (r_extract (vs := #[.agg #[i64 ((n : Nat)), .slice (ownA key116) (List.length (((leS n gs ra rb i).1) ++ [(⟨(3 : Int), (rb).getD 63 0, (0 : Int)⟩ : Gt)])) c117, .slice oa on oc], i64 (wx115)]) rfl rfl) ⟨rfl, rfl⟩
    refine WalkC.look rfl (fun r => proj (r 4) 1) (fun r r' h => by rw [h 4 (by decide) rfl]) (fun q r uw hlo hhi hle hF => ?_) ?_
    · skip
      have h1 : 1 ≤ q := hlo 0 4 rfl rfl
      have h2 : q ≤ 2 := hle
      rcases (show q = 1 ∨ q = 2 by omega) with rfl | rfl
      · skip
        obtain ⟨wx115, key116, c117, sp118, e4, hS119, hwx115, HH⟩ := hF
        dsimp only
        rw [e4]
        exact Gives.run rfl (r_extract (vs := #[.agg #[i64 ((n : Nat)), .slice (ownA key116) (List.length (((leS n gs ra rb i).1) ++ [(⟨(3 : Int), (rb).getD 63 0, (0 : Int)⟩ : Gt)])) c117, .slice oa on oc], i64 (wx115)]) rfl rfl) ⟨rfl, rfl⟩
      · skip
        obtain ⟨wx115, key116, c117, sp118, e4, e8, hS119, hwx115, HH⟩ := hF
        dsimp only
        rw [e4]
        exact Gives.run rfl (r_extract (vs := #[.agg #[i64 ((n : Nat)), .slice (ownA key116) (List.length (((leS n gs ra rb i).1) ++ [(⟨(3 : Int), (rb).getD 63 0, (0 : Int)⟩ : Gt)])) c117, .slice oa on oc], i64 (wx115)]) rfl rfl) ⟨rfl, rfl⟩
    refine WalkC.eff 1 rfl (fun r uw122 hF124 => ?_) ?_
    · skip
      obtain ⟨wx115, key116, c117, sp118, e4, hS119, hwx115, H123⟩ := hF124
      dsimp only [List.take, List.map, List.cons_append, List.nil_append]
      rw [e4]
      refine Gives.ofW0 rfl (fun Q' hK => ?_)
      refine d_store (k := 1) (v := .agg #[i64 ((n : Nat)), .slice (ownA key116) (List.length (((leS n gs ra rb i).1) ++ [(⟨(3 : Int), (rb).getD 63 0, (0 : Int)⟩ : Gt)])) c117, .slice oa on oc]) (cs' := #[i64 ((n : Nat)), .slice (ownA key116) (List.length (((leS n gs ra rb i).1) ++ [(⟨(3 : Int), (rb).getD 63 0, (0 : Int)⟩ : Gt)])) c117, .slice oa on oc]) H123 rfl rfl rfl siz80 (by rfl) (by intro u hu; simp [Value.cells] at hu; first | (subst hu; rfl) | (rcases hu with rfl | rfl | rfl <;> rfl)) (by exact Nat.le_of_ble_eq_true rfl) (by rfl) ?_
      intro w125 H126 hC127
      have H126' := H126.as (L' := ((key116, sob EG 85 (((leS n gs ra rb i).1) ++ [(⟨(3 : Int), (rb).getD 63 0, (0 : Int)⟩ : Gt)]) sp118) :: (some b1, .cells #[i64 ((n : Nat)), .slice (ownA key116) (List.length (((leS n gs ra rb i).1) ++ [(⟨(3 : Int), (rb).getD 63 0, (0 : Int)⟩ : Gt)])) c117, .slice oa on oc] 80 (0, 0)) :: (some b5, .cells #[i64 ((0 : Int)), .slice none 0 0, .slice none 0 0] 80 (0, 0)) :: R)) rfl
      clear H126
      exact hK _ (fun _ => ⟨wx115, key116, c117, sp118, rfl, trivial, hS119, hwx115, H126'⟩)
    refine WalkC.look rfl (fun r => proj (r 4) 1) (fun r r' h => by rw [h 4 (by decide) rfl]) (fun q r uw _ _ _ _ => Gives.run rfl (r_assign rfl) ⟨rfl, rfl⟩) ?_
    refine WalkC.nil ?_
    intro r128 w129 hF131
    obtain ⟨wx115, key116, c117, sp118, e4, e8, hS119, hwx115, H130⟩ := hF131
    dsimp only
    rw [e4]
    subst hwx115
    refine wnil ?_
    refine thenNormal ?_
    refine seqAny ?_
    refine drawC (m := 11) [0, 0, 2, 6, 0, 0, 63, 127, 127, 511, 1023] [6, 9] (fun q vs w' => match q, vs with | 0, [] => Hp No w₀ w' ((key116, sob EG 85 (((leS n gs ra rb i).1) ++ [(⟨(3 : Int), (rb).getD 63 0, (0 : Int)⟩ : Gt)]) sp118) :: (some b1, .cells #[i64 ((n : Nat)), .slice (ownA key116) (List.length (((leS n gs ra rb i).1) ++ [(⟨(3 : Int), (rb).getD 63 0, (0 : Int)⟩ : Gt)])) c117, .slice oa on oc] 80 (0, 0)) :: (some b5, .cells #[i64 ((0 : Int)), .slice none 0 0, .slice none 0 0] 80 (0, 0)) :: R) | 1, [v0] => ∃ (wx138 : Int) (key139 : Option Nat) (c140 : Nat) (sp141 : List Value), v0 = .tuple #[.agg #[i64 ((n : Nat)), .slice (ownA key139) (List.length (caG n (((leS n gs ra rb i).1) ++ [(⟨(3 : Int), (rb).getD 63 0, (0 : Int)⟩ : Gt)]) ((ra).getD 63 0) (wrW n ((leS n gs ra rb i).1)) ((leS n gs ra rb i).2))) c140, .slice oa on oc], i64 (wx138)] ∧ Sl EG key139 (caG n (((leS n gs ra rb i).1) ++ [(⟨(3 : Int), (rb).getD 63 0, (0 : Int)⟩ : Gt)]) ((ra).getD 63 0) (wrW n ((leS n gs ra rb i).1)) ((leS n gs ra rb i).2)) c140 sp141 ∧ wx138 = caW n (((leS n gs ra rb i).1) ++ [(⟨(3 : Int), (rb).getD 63 0, (0 : Int)⟩ : Gt)]) ∧ Hp No w₀ w' ((key139, sob EG 85 (caG n (((leS n gs ra rb i).1) ++ [(⟨(3 : Int), (rb).getD 63 0, (0 : Int)⟩ : Gt)]) ((ra).getD 63 0) (wrW n ((leS n gs ra rb i).1)) ((leS n gs ra rb i).2)) sp141) :: (some b1, .cells #[i64 ((n : Nat)), .slice (ownA key116) (List.length (((leS n gs ra rb i).1) ++ [(⟨(3 : Int), (rb).getD 63 0, (0 : Int)⟩ : Gt)])) c117, .slice oa on oc] 80 (0, 0)) :: (some b5, .cells #[i64 ((0 : Int)), .slice none 0 0, .slice none 0 0] 80 (0, 0)) :: R) | 2, [v0, _] => ∃ (wx138 : Int) (key139 : Option Nat) (c140 : Nat) (sp141 : List Value), v0 = .tuple #[.agg #[i64 ((n : Nat)), .slice (ownA key139) (List.length (caG n (((leS n gs ra rb i).1) ++ [(⟨(3 : Int), (rb).getD 63 0, (0 : Int)⟩ : Gt)]) ((ra).getD 63 0) (wrW n ((leS n gs ra rb i).1)) ((leS n gs ra rb i).2))) c140, .slice oa on oc], i64 (wx138)] ∧ True ∧ Sl EG key139 (caG n (((leS n gs ra rb i).1) ++ [(⟨(3 : Int), (rb).getD 63 0, (0 : Int)⟩ : Gt)]) ((ra).getD 63 0) (wrW n ((leS n gs ra rb i).1)) ((leS n gs ra rb i).2)) c140 sp141 ∧ wx138 = caW n (((leS n gs ra rb i).1) ++ [(⟨(3 : Int), (rb).getD 63 0, (0 : Int)⟩ : Gt)]) ∧ Hp No w₀ w' ((key139, sob EG 85 (caG n (((leS n gs ra rb i).1) ++ [(⟨(3 : Int), (rb).getD 63 0, (0 : Int)⟩ : Gt)]) ((ra).getD 63 0) (wrW n ((leS n gs ra rb i).1)) ((leS n gs ra rb i).2)) sp141) :: (some b1, .cells #[i64 ((n : Nat)), .slice (ownA key116) (List.length (((leS n gs ra rb i).1) ++ [(⟨(3 : Int), (rb).getD 63 0, (0 : Int)⟩ : Gt)])) c117, .slice oa on oc] 80 (0, 0)) :: (some b5, .cells #[i64 ((n : Nat)), .slice (ownA key139) (List.length (caG n (((leS n gs ra rb i).1) ++ [(⟨(3 : Int), (rb).getD 63 0, (0 : Int)⟩ : Gt)]) ((ra).getD 63 0) (wrW n ((leS n gs ra rb i).1)) ((leS n gs ra rb i).2))) c140, .slice oa on oc] 80 (0, 0)) :: R) | _, _ => False) mixed (by kernel_rfl) (by kernel_rfl) H130.drew ?_
    refine WalkC.look rfl (fun _ => .agg #[i64 ((n : Nat)), .slice (ownA key116) (List.length (((leS n gs ra rb i).1) ++ [(⟨(3 : Int), (rb).getD 63 0, (0 : Int)⟩ : Gt)])) c117, .slice oa on oc]) (fun _ _ _ => rfl) (fun q r uw hlo hhi hle hF => ?_) ?_
    · skip
      have h1 : 0 ≤ q := Nat.zero_le _
      have h2 : q ≤ 0 := hhi 0 6 rfl rfl
      rcases (show q = 0 by omega) with rfl
      · skip
        have HH := hF
        exact Gives.run rfl (r_loadA (cs' := #[i64 ((n : Nat)), .slice (ownA key116) (List.length (((leS n gs ra rb i).1) ++ [(⟨(3 : Int), (rb).getD 63 0, (0 : Int)⟩ : Gt)])) c117, .slice oa on oc]) agg80 siz80 (HH.get (k := 1) rfl) (off := 0) rfl (by exact Nat.le_of_ble_eq_true rfl) (by rfl)) ⟨rfl, rfl⟩
    refine WalkC.look rfl (fun _ => .slice aa 64 ca) (fun _ _ _ => rfl) (fun q r uw _ _ _ _ => Gives.run rfl (r_move (v := .slice aa 64 ca) rfl) ⟨rfl, rfl⟩) ?_
    refine WalkC.look rfl (fun _ => .pointer (adr aa (63 * 1))) (fun _ _ _ => rfl) (fun q r uw hlo hhi hle hF => ?_) ?_
    · skip
      have h1 : 0 ≤ q := Nat.zero_le _
      have h2 : q ≤ 0 := hhi 0 6 rfl rfl
      rcases (show q = 0 by omega) with rfl
      · skip
        have HH := hF
        exact Gives.run rfl (r_idxS (E := EI) (l := ra) (j := 63) sli60 (hA _ HH.chg (fun p hp => HH.has p (List.mem_cons_of_mem _ (List.mem_cons_of_mem _ (List.mem_cons_of_mem _ (hp)))))) rfl rfl (by first | rfl | omega | (simp; omega)) (by exact hra.symm) (by omega)) ⟨rfl, rfl⟩
    refine WalkC.look rfl (fun _ => i64 ((ra).getD 63 0)) (fun _ _ _ => rfl) (fun q r uw hlo hhi hle hF => ?_) ?_
    · skip
      have h1 : 0 ≤ q := Nat.zero_le _
      have h2 : q ≤ 0 := hhi 0 6 rfl rfl
      rcases (show q = 0 by omega) with rfl
      · skip
        have HH := hF
        exact Gives.run rfl (r_ldS (E := EI) (l := ra) (j := 63) (v := (ra).getD 63 0) fits3 (hA _ HH.chg (fun p hp => HH.has p (List.mem_cons_of_mem _ (List.mem_cons_of_mem _ (List.mem_cons_of_mem _ (hp)))))) rfl rfl (at_getD (by omega))) ⟨rfl, rfl⟩
    refine WalkC.look rfl (fun _ => i64 ((wrW n ((leS n gs ra rb i).1)))) (fun _ _ _ => rfl) (fun q r uw _ _ _ _ => Gives.run rfl (r_move (v := i64 ((wrW n ((leS n gs ra rb i).1)))) rfl) ⟨rfl, rfl⟩) ?_
    refine WalkC.look rfl (fun _ => i64 ((leS n gs ra rb i).2)) (fun _ _ _ => rfl) (fun q r uw _ _ _ _ => Gives.run rfl (r_move (v := i64 ((leS n gs ra rb i).2)) rfl) ⟨rfl, rfl⟩) ?_
    refine WalkC.eff 0 rfl (fun r uw132 hF134 => ?_) ?_
    · skip
      have H133 := hF134
      dsimp only [List.take, List.map, List.cons_append, List.nil_append]
      refine Gives.ofW (d := 66) rfl rfl (fun Q' hK => ?_)
      have H135 := (H133).as (L' := ((key116, sob EG 85 (((leS n gs ra rb i).1) ++ [(⟨(3 : Int), (rb).getD 63 0, (0 : Int)⟩ : Gt)]) sp118) :: ((some b1, .cells #[i64 ((n : Nat)), .slice (ownA key116) (List.length (((leS n gs ra rb i).1) ++ [(⟨(3 : Int), (rb).getD 63 0, (0 : Int)⟩ : Gt)])) c117, .slice oa on oc] 80 (0, 0)) :: (some b5, .cells #[i64 ((0 : Int)), .slice none 0 0, .slice none 0 0] 80 (0, 0)) :: R))) rfl
      refine c_call (vs := [.agg #[i64 ((n : Nat)), .slice (ownA key116) (List.length (((leS n gs ra rb i).1) ++ [(⟨(3 : Int), (rb).getD 63 0, (0 : Int)⟩ : Gt)])) c117, .slice oa on oc], i64 ((ra).getD 63 0), i64 ((wrW n ((leS n gs ra rb i).1))), i64 ((leS n gs ra rb i).2)]) call105 rfl (rcarry_ok n key116 c117 sp118 (((leS n gs ra rb i).1) ++ [(⟨(3 : Int), (rb).getD 63 0, (0 : Int)⟩ : Gt)]) hS119 hn (by simp only [List.length_append, List.length_cons, List.length_nil]; omega) oa on oc ((ra).getD 63 0) (wrW n ((leS n gs ra rb i).1)) ((leS n gs ra rb i).2) ((some b1, .cells #[i64 ((n : Nat)), .slice (ownA key116) (List.length (((leS n gs ra rb i).1) ++ [(⟨(3 : Int), (rb).getD 63 0, (0 : Int)⟩ : Gt)])) c117, .slice oa on oc] 80 (0, 0)) :: (some b5, .cells #[i64 ((0 : Int)), .slice none 0 0, .slice none 0 0] 80 (0, 0)) :: R) w₀ uw132 H135) ?_
      rintro _ w136 ⟨wx138, key139, c140, sp141, hwx138, rfl, hS142, HN143⟩
      have H144 := HN143.as (L' := ((key139, sob EG 85 (caG n (((leS n gs ra rb i).1) ++ [(⟨(3 : Int), (rb).getD 63 0, (0 : Int)⟩ : Gt)]) ((ra).getD 63 0) (wrW n ((leS n gs ra rb i).1)) ((leS n gs ra rb i).2)) sp141) :: (some b1, .cells #[i64 ((n : Nat)), .slice (ownA key116) (List.length (((leS n gs ra rb i).1) ++ [(⟨(3 : Int), (rb).getD 63 0, (0 : Int)⟩ : Gt)])) c117, .slice oa on oc] 80 (0, 0)) :: (some b5, .cells #[i64 ((0 : Int)), .slice none 0 0, .slice none 0 0] 80 (0, 0)) :: R)) rfl
      exact hK _ _ ⟨wx138, key139, c140, sp141, rfl, hS142, hwx138, H144⟩
    refine WalkC.look rfl (fun r => proj (r 6) 0) (fun r r' h => by rw [h 6 (by decide) rfl]) (fun q r uw hlo hhi hle hF => ?_) ?_
    · skip
      have h1 : 1 ≤ q := hlo 0 6 rfl rfl
      have h2 : q ≤ 1 := hhi 1 9 rfl rfl
      rcases (show q = 1 by omega) with rfl
      · skip
        obtain ⟨wx138, key139, c140, sp141, e6, hS142, hwx138, HH⟩ := hF
        dsimp only
        rw [e6]
        exact Gives.run rfl (r_extract (vs := #[.agg #[i64 ((n : Nat)), .slice (ownA key139) (List.length (caG n (((leS n gs ra rb i).1) ++ [(⟨(3 : Int), (rb).getD 63 0, (0 : Int)⟩ : Gt)]) ((ra).getD 63 0) (wrW n ((leS n gs ra rb i).1)) ((leS n gs ra rb i).2))) c140, .slice oa on oc], i64 (wx138)]) rfl rfl) ⟨rfl, rfl⟩
    refine WalkC.look rfl (fun r => proj (r 6) 1) (fun r r' h => by rw [h 6 (by decide) rfl]) (fun q r uw hlo hhi hle hF => ?_) ?_
    · skip
      have h1 : 1 ≤ q := hlo 0 6 rfl rfl
      have h2 : q ≤ 1 := hhi 1 9 rfl rfl
      rcases (show q = 1 by omega) with rfl
      · skip
        obtain ⟨wx138, key139, c140, sp141, e6, hS142, hwx138, HH⟩ := hF
        dsimp only
        rw [e6]
        exact Gives.run rfl (r_extract (vs := #[.agg #[i64 ((n : Nat)), .slice (ownA key139) (List.length (caG n (((leS n gs ra rb i).1) ++ [(⟨(3 : Int), (rb).getD 63 0, (0 : Int)⟩ : Gt)]) ((ra).getD 63 0) (wrW n ((leS n gs ra rb i).1)) ((leS n gs ra rb i).2))) c140, .slice oa on oc], i64 (wx138)]) rfl rfl) ⟨rfl, rfl⟩
    refine WalkC.eff 1 rfl (fun r uw145 hF147 => ?_) ?_
    · skip
      obtain ⟨wx138, key139, c140, sp141, e6, hS142, hwx138, H146⟩ := hF147
      dsimp only [List.take, List.map, List.cons_append, List.nil_append]
      rw [e6]
      refine Gives.ofW0 rfl (fun Q' hK => ?_)
      refine d_store (k := 2) (v := .agg #[i64 ((n : Nat)), .slice (ownA key139) (List.length (caG n (((leS n gs ra rb i).1) ++ [(⟨(3 : Int), (rb).getD 63 0, (0 : Int)⟩ : Gt)]) ((ra).getD 63 0) (wrW n ((leS n gs ra rb i).1)) ((leS n gs ra rb i).2))) c140, .slice oa on oc]) (cs' := #[i64 ((n : Nat)), .slice (ownA key139) (List.length (caG n (((leS n gs ra rb i).1) ++ [(⟨(3 : Int), (rb).getD 63 0, (0 : Int)⟩ : Gt)]) ((ra).getD 63 0) (wrW n ((leS n gs ra rb i).1)) ((leS n gs ra rb i).2))) c140, .slice oa on oc]) H146 rfl rfl rfl siz80 (by rfl) (by intro u hu; simp [Value.cells] at hu; first | (subst hu; rfl) | (rcases hu with rfl | rfl | rfl <;> rfl)) (by exact Nat.le_of_ble_eq_true rfl) (by rfl) ?_
      intro w148 H149 hC150
      have H149' := H149.as (L' := ((key139, sob EG 85 (caG n (((leS n gs ra rb i).1) ++ [(⟨(3 : Int), (rb).getD 63 0, (0 : Int)⟩ : Gt)]) ((ra).getD 63 0) (wrW n ((leS n gs ra rb i).1)) ((leS n gs ra rb i).2)) sp141) :: (some b1, .cells #[i64 ((n : Nat)), .slice (ownA key116) (List.length (((leS n gs ra rb i).1) ++ [(⟨(3 : Int), (rb).getD 63 0, (0 : Int)⟩ : Gt)])) c117, .slice oa on oc] 80 (0, 0)) :: (some b5, .cells #[i64 ((n : Nat)), .slice (ownA key139) (List.length (caG n (((leS n gs ra rb i).1) ++ [(⟨(3 : Int), (rb).getD 63 0, (0 : Int)⟩ : Gt)]) ((ra).getD 63 0) (wrW n ((leS n gs ra rb i).1)) ((leS n gs ra rb i).2))) c140, .slice oa on oc] 80 (0, 0)) :: R)) rfl
      clear H149
      exact hK _ (fun _ => ⟨wx138, key139, c140, sp141, rfl, trivial, hS142, hwx138, H149'⟩)
    refine WalkC.look rfl (fun r => proj (r 6) 1) (fun r r' h => by rw [h 6 (by decide) rfl]) (fun q r uw _ _ _ _ => Gives.run rfl (r_assign rfl) ⟨rfl, rfl⟩) ?_
    refine WalkC.nil ?_
    intro r151 w152 hF154
    obtain ⟨wx138, key139, c140, sp141, e6, e9, hS142, hwx138, H153⟩ := hF154
    dsimp only
    rw [e6]
    subst hwx138
    refine wnil ?_
    refine thenNormal ?_
    refine retAny ?_
    refine retG (rs := [.cell 6 80, .tmp 7]) (vs := [.agg #[i64 ((n : Nat)), .slice (ownA key139) (List.length (caG n (((leS n gs ra rb i).1) ++ [(⟨(3 : Int), (rb).getD 63 0, (0 : Int)⟩ : Gt)]) ((ra).getD 63 0) (wrW n ((leS n gs ra rb i).1)) ((leS n gs ra rb i).2))) c140, .slice oa on oc], i64 ((caW n (((leS n gs ra rb i).1) ++ [(⟨(3 : Int), (rb).getD 63 0, (0 : Int)⟩ : Gt)])))]) rfl ⟨r_loadA (cs' := #[i64 ((n : Nat)), .slice (ownA key139) (List.length (caG n (((leS n gs ra rb i).1) ++ [(⟨(3 : Int), (rb).getD 63 0, (0 : Int)⟩ : Gt)]) ((ra).getD 63 0) (wrW n ((leS n gs ra rb i).1)) ((leS n gs ra rb i).2))) c140, .slice oa on oc]) agg80 siz80 (H153.get (k := 2) rfl) (off := 0) rfl (by exact Nat.le_of_ble_eq_true rfl) (by rfl), ⟨rfl, rfl⟩, trivial⟩ ?_
    have e155 : caG n (((leS n gs ra rb i).1) ++ [(⟨(3 : Int), (rb).getD 63 0, (0 : Int)⟩ : Gt)]) ((ra).getD 63 0) (wrW n ((leS n gs ra rb i).1)) ((leS n gs ra rb i).2) = (leG n gs ra rb).1 := by rw [leG_eq hie]
    have hS156 := hS142
    rw [e155] at hS156
    have H157 : Hp No w₀ w152 ((key139, sob EG 85 ((leG n gs ra rb).1) sp141) :: (some b1, .cells #[i64 ((n : Nat)), .slice (ownA key116) (List.length (((leS n gs ra rb i).1) ++ [(⟨(3 : Int), (rb).getD 63 0, (0 : Int)⟩ : Gt)])) c117, .slice oa on oc] 80 (0, 0)) :: (some b5, .cells #[i64 ((n : Nat)), .slice (ownA key139) (List.length ((leG n gs ra rb).1)) c140, .slice oa on oc] 80 (0, 0)) :: R) := by rw [← e155]; exact H153
    exact ⟨_, rfl, (caW n (((leS n gs ra rb i).1) ++ [(⟨(3 : Int), (rb).getD 63 0, (0 : Int)⟩ : Gt)])), key139, c140, sp141, by rw [leG_eq hie], by rw [← e155] <;> rfl, hS156, ((H157.dropk 2).dropk 1)⟩
end Go.Proofs.YteofdmdpaejgaaaDoor.Cm
namespace Go.Proofs.YteofdmdpaejgaaaDoor.Cm
open Go Go.Proofs.YteofdmdpaejgaaaDoor.Vc Go.Proofs.YteofdmdpaejgaaaDoor.Er Go.Proofs.YteofdmdpaejgaaaDoor.Circ
set_option linter.unusedVariables false
theorem call82 : callable Tryd.prog 82 = true := by kernel_rfl
theorem rnop_ok (kd : Int) (fm : BitVec 64) (w : World) : Calls Tryd.prog 30 [i64 (kd), u64 (fm)].toArray w (Ret fun v w' => v = i64 ((nopS kd fm : Nat) : Int) ∧ Ext w w') := by
  have H := Hp.start No w
  refine enter (n := 21) Tryd.func30 rfl rfl (Nat.le_of_ble_eq_true rfl) ?_
  refine seqRegion ?_
  refine sq (r_assign (v := i64 ((0 : Int))) rfl) ?_
  refine wend ?_
  refine seqAny ?_
  refine seqRegion ?_
  refine sq (r_move (v := i64 (kd)) rfl) ?_
  refine sq (r_eqlI (a := kd) (b := (1 : Int)) rfl rfl) ?_
  refine sq (r_move (v := .bool (decide ((kd : Int) = (1 : Int)))) rfl) ?_
  by_cases g1 : (kd : Int) = (1 : Int)
  · skip
    refine sqAny (v := u64 (fm)) (w' := w) (wantedSome (d' := 7) (b := true) rfl rfl (congrArg Value.bool (decide_eq_true g1))) (r_move (v := u64 (fm)) rfl) ?_
    refine sqAny (v := .bool (decide (fm.toNat < (2#64).toNat))) (w' := w) (wantedSome (d' := 7) (b := true) rfl rfl (congrArg Value.bool (decide_eq_true g1))) (r_lss64 (a := fm) (b := 2#64) rfl rfl) ?_
    refine sq (r_pickT (u := .bool (decide (fm.toNat < (2#64).toNat))) (congrArg Value.bool (decide_eq_true g1)) rfl) ?_
    refine wend ?_
    refine condProp (fm.toNat < (2#64).toNat) rfl (fun c10 => ?_) (fun c10 => ?_)
    · skip
      refine seqRegion ?_
      refine sq (r_assign (v := i64 ((1 : Int))) rfl) ?_
      refine wend ?_
      refine retAny ?_
      refine thenRet ?_
      refine retG (rs := [.tmp 4]) (vs := [i64 ((1 : Int))]) rfl ⟨⟨rfl, rfl⟩, trivial⟩ ?_
      exact ⟨_, rfl, congrArg i64 (by have e2 : (2#64 : BitVec 64).toNat = 2 := rfl; have e4 : (4#64 : BitVec 64).toNat = 4 := rfl; unfold nopS; (repeat' split) <;> first | rfl | omega), H.chg⟩
    · skip
      refine skipAny ?_
      refine thenNormal ?_
      refine seqAny ?_
      refine seqRegion ?_
      refine sq (r_move (v := i64 (kd)) rfl) ?_
      refine sq (r_eqlI (a := kd) (b := (2 : Int)) rfl rfl) ?_
      refine sq (r_move (v := .bool (decide ((kd : Int) = (2 : Int)))) rfl) ?_
      by_cases g2 : (kd : Int) = (2 : Int)
      · skip
        refine skAny (wantedSome (d' := 13) (b := true) rfl rfl (congrArg Value.bool (decide_eq_true g2))) ?_
        refine skAny (wantedSome (d' := 13) (b := true) rfl rfl (congrArg Value.bool (decide_eq_true g2))) ?_
        refine sq (r_pickT (u := .bool (true)) (congrArg Value.bool (decide_eq_true g2)) rfl) ?_
        refine sq (r_move (v := .bool (true)) rfl) ?_
        refine sqAny (v := u64 (fm)) (w' := w) (wantedSome (d' := 17) (b := true) rfl rfl rfl) (r_move (v := u64 (fm)) rfl) ?_
        refine sqAny (v := .bool (decide (fm.toNat < (4#64).toNat))) (w' := w) (wantedSome (d' := 17) (b := true) rfl rfl rfl) (r_lss64 (a := fm) (b := 4#64) rfl rfl) ?_
        refine sq (r_pickT (u := .bool (decide (fm.toNat < (4#64).toNat))) rfl rfl) ?_
        refine wend ?_
        refine condProp (fm.toNat < (4#64).toNat) rfl (fun c20 => ?_) (fun c20 => ?_)
        · skip
          refine seqRegion ?_
          refine sq (r_assign (v := i64 ((2 : Int))) rfl) ?_
          refine wend ?_
          refine retAny ?_
          refine thenRet ?_
          refine retG (rs := [.tmp 4]) (vs := [i64 ((2 : Int))]) rfl ⟨⟨rfl, rfl⟩, trivial⟩ ?_
          exact ⟨_, rfl, congrArg i64 (by have e2 : (2#64 : BitVec 64).toNat = 2 := rfl; have e4 : (4#64 : BitVec 64).toNat = 4 := rfl; unfold nopS; (repeat' split) <;> first | rfl | omega), H.chg⟩
        · skip
          refine skipAny ?_
          refine thenNormal ?_
          refine seqRegion ?_
          refine sq (r_assign (v := i64 ((0 : Int))) rfl) ?_
          refine wend ?_
          refine retAny ?_
          refine retG (rs := [.tmp 4]) (vs := [i64 ((0 : Int))]) rfl ⟨⟨rfl, rfl⟩, trivial⟩ ?_
          exact ⟨_, rfl, congrArg i64 (by have e2 : (2#64 : BitVec 64).toNat = 2 := rfl; have e4 : (4#64 : BitVec 64).toNat = 4 := rfl; unfold nopS; (repeat' split) <;> first | rfl | omega), H.chg⟩
      · skip
        refine sqAny (v := i64 (kd)) (w' := w) (wantedSome (d' := 13) (b := false) rfl rfl (congrArg Value.bool (decide_eq_false g2))) (r_move (v := i64 (kd)) rfl) ?_
        refine sqAny (v := .bool (decide ((kd : Int) = (3 : Int)))) (w' := w) (wantedSome (d' := 13) (b := false) rfl rfl (congrArg Value.bool (decide_eq_false g2))) (r_eqlI (a := kd) (b := (3 : Int)) rfl rfl) ?_
        refine sq (r_pickF (v := .bool (decide ((kd : Int) = (3 : Int)))) (congrArg Value.bool (decide_eq_false g2)) rfl) ?_
        refine sq (r_move (v := .bool (decide ((kd : Int) = (3 : Int)))) rfl) ?_
        by_cases g3 : (kd : Int) = (3 : Int)
        · skip
          refine sqAny (v := u64 (fm)) (w' := w) (wantedSome (d' := 17) (b := true) rfl rfl (congrArg Value.bool (decide_eq_true g3))) (r_move (v := u64 (fm)) rfl) ?_
          refine sqAny (v := .bool (decide (fm.toNat < (4#64).toNat))) (w' := w) (wantedSome (d' := 17) (b := true) rfl rfl (congrArg Value.bool (decide_eq_true g3))) (r_lss64 (a := fm) (b := 4#64) rfl rfl) ?_
          refine sq (r_pickT (u := .bool (decide (fm.toNat < (4#64).toNat))) (congrArg Value.bool (decide_eq_true g3)) rfl) ?_
          refine wend ?_
          refine condProp (fm.toNat < (4#64).toNat) rfl (fun c20 => ?_) (fun c20 => ?_)
          · skip
            refine seqRegion ?_
            refine sq (r_assign (v := i64 ((2 : Int))) rfl) ?_
            refine wend ?_
            refine retAny ?_
            refine thenRet ?_
            refine retG (rs := [.tmp 4]) (vs := [i64 ((2 : Int))]) rfl ⟨⟨rfl, rfl⟩, trivial⟩ ?_
            exact ⟨_, rfl, congrArg i64 (by have e2 : (2#64 : BitVec 64).toNat = 2 := rfl; have e4 : (4#64 : BitVec 64).toNat = 4 := rfl; unfold nopS; (repeat' split) <;> first | rfl | omega), H.chg⟩
          · skip
            refine skipAny ?_
            refine thenNormal ?_
            refine seqRegion ?_
            refine sq (r_assign (v := i64 ((0 : Int))) rfl) ?_
            refine wend ?_
            refine retAny ?_
            refine retG (rs := [.tmp 4]) (vs := [i64 ((0 : Int))]) rfl ⟨⟨rfl, rfl⟩, trivial⟩ ?_
            exact ⟨_, rfl, congrArg i64 (by have e2 : (2#64 : BitVec 64).toNat = 2 := rfl; have e4 : (4#64 : BitVec 64).toNat = 4 := rfl; unfold nopS; (repeat' split) <;> first | rfl | omega), H.chg⟩
        · skip
          refine skAny (wantedSome (d' := 17) (b := false) rfl rfl (congrArg Value.bool (decide_eq_false g3))) ?_
          refine skAny (wantedSome (d' := 17) (b := false) rfl rfl (congrArg Value.bool (decide_eq_false g3))) ?_
          refine sq (r_pickF (v := .bool (false)) (congrArg Value.bool (decide_eq_false g3)) rfl) ?_
          refine wend ?_
          refine condFalse rfl ?_
          refine skipAny ?_
          refine thenNormal ?_
          refine seqRegion ?_
          refine sq (r_assign (v := i64 ((0 : Int))) rfl) ?_
          refine wend ?_
          refine retAny ?_
          refine retG (rs := [.tmp 4]) (vs := [i64 ((0 : Int))]) rfl ⟨⟨rfl, rfl⟩, trivial⟩ ?_
          exact ⟨_, rfl, congrArg i64 (by have e2 : (2#64 : BitVec 64).toNat = 2 := rfl; have e4 : (4#64 : BitVec 64).toNat = 4 := rfl; unfold nopS; (repeat' split) <;> first | rfl | omega), H.chg⟩
  · skip
    refine skAny (wantedSome (d' := 7) (b := false) rfl rfl (congrArg Value.bool (decide_eq_false g1))) ?_
    refine skAny (wantedSome (d' := 7) (b := false) rfl rfl (congrArg Value.bool (decide_eq_false g1))) ?_
    refine sq (r_pickF (v := .bool (false)) (congrArg Value.bool (decide_eq_false g1)) rfl) ?_
    refine wend ?_
    refine condFalse rfl ?_
    refine skipAny ?_
    refine thenNormal ?_
    refine seqAny ?_
    refine seqRegion ?_
    refine sq (r_move (v := i64 (kd)) rfl) ?_
    refine sq (r_eqlI (a := kd) (b := (2 : Int)) rfl rfl) ?_
    refine sq (r_move (v := .bool (decide ((kd : Int) = (2 : Int)))) rfl) ?_
    by_cases g4 : (kd : Int) = (2 : Int)
    · skip
      refine skAny (wantedSome (d' := 13) (b := true) rfl rfl (congrArg Value.bool (decide_eq_true g4))) ?_
      refine skAny (wantedSome (d' := 13) (b := true) rfl rfl (congrArg Value.bool (decide_eq_true g4))) ?_
      refine sq (r_pickT (u := .bool (true)) (congrArg Value.bool (decide_eq_true g4)) rfl) ?_
      refine sq (r_move (v := .bool (true)) rfl) ?_
      refine sqAny (v := u64 (fm)) (w' := w) (wantedSome (d' := 17) (b := true) rfl rfl rfl) (r_move (v := u64 (fm)) rfl) ?_
      refine sqAny (v := .bool (decide (fm.toNat < (4#64).toNat))) (w' := w) (wantedSome (d' := 17) (b := true) rfl rfl rfl) (r_lss64 (a := fm) (b := 4#64) rfl rfl) ?_
      refine sq (r_pickT (u := .bool (decide (fm.toNat < (4#64).toNat))) rfl rfl) ?_
      refine wend ?_
      refine condProp (fm.toNat < (4#64).toNat) rfl (fun c20 => ?_) (fun c20 => ?_)
      · skip
        refine seqRegion ?_
        refine sq (r_assign (v := i64 ((2 : Int))) rfl) ?_
        refine wend ?_
        refine retAny ?_
        refine thenRet ?_
        refine retG (rs := [.tmp 4]) (vs := [i64 ((2 : Int))]) rfl ⟨⟨rfl, rfl⟩, trivial⟩ ?_
        exact ⟨_, rfl, congrArg i64 (by have e2 : (2#64 : BitVec 64).toNat = 2 := rfl; have e4 : (4#64 : BitVec 64).toNat = 4 := rfl; unfold nopS; (repeat' split) <;> first | rfl | omega), H.chg⟩
      · skip
        refine skipAny ?_
        refine thenNormal ?_
        refine seqRegion ?_
        refine sq (r_assign (v := i64 ((0 : Int))) rfl) ?_
        refine wend ?_
        refine retAny ?_
        refine retG (rs := [.tmp 4]) (vs := [i64 ((0 : Int))]) rfl ⟨⟨rfl, rfl⟩, trivial⟩ ?_
        exact ⟨_, rfl, congrArg i64 (by have e2 : (2#64 : BitVec 64).toNat = 2 := rfl; have e4 : (4#64 : BitVec 64).toNat = 4 := rfl; unfold nopS; (repeat' split) <;> first | rfl | omega), H.chg⟩
    · skip
      refine sqAny (v := i64 (kd)) (w' := w) (wantedSome (d' := 13) (b := false) rfl rfl (congrArg Value.bool (decide_eq_false g4))) (r_move (v := i64 (kd)) rfl) ?_
      refine sqAny (v := .bool (decide ((kd : Int) = (3 : Int)))) (w' := w) (wantedSome (d' := 13) (b := false) rfl rfl (congrArg Value.bool (decide_eq_false g4))) (r_eqlI (a := kd) (b := (3 : Int)) rfl rfl) ?_
      refine sq (r_pickF (v := .bool (decide ((kd : Int) = (3 : Int)))) (congrArg Value.bool (decide_eq_false g4)) rfl) ?_
      refine sq (r_move (v := .bool (decide ((kd : Int) = (3 : Int)))) rfl) ?_
      by_cases g5 : (kd : Int) = (3 : Int)
      · skip
        refine sqAny (v := u64 (fm)) (w' := w) (wantedSome (d' := 17) (b := true) rfl rfl (congrArg Value.bool (decide_eq_true g5))) (r_move (v := u64 (fm)) rfl) ?_
        refine sqAny (v := .bool (decide (fm.toNat < (4#64).toNat))) (w' := w) (wantedSome (d' := 17) (b := true) rfl rfl (congrArg Value.bool (decide_eq_true g5))) (r_lss64 (a := fm) (b := 4#64) rfl rfl) ?_
        refine sq (r_pickT (u := .bool (decide (fm.toNat < (4#64).toNat))) (congrArg Value.bool (decide_eq_true g5)) rfl) ?_
        refine wend ?_
        refine condProp (fm.toNat < (4#64).toNat) rfl (fun c20 => ?_) (fun c20 => ?_)
        · skip
          refine seqRegion ?_
          refine sq (r_assign (v := i64 ((2 : Int))) rfl) ?_
          refine wend ?_
          refine retAny ?_
          refine thenRet ?_
          refine retG (rs := [.tmp 4]) (vs := [i64 ((2 : Int))]) rfl ⟨⟨rfl, rfl⟩, trivial⟩ ?_
          exact ⟨_, rfl, congrArg i64 (by have e2 : (2#64 : BitVec 64).toNat = 2 := rfl; have e4 : (4#64 : BitVec 64).toNat = 4 := rfl; unfold nopS; (repeat' split) <;> first | rfl | omega), H.chg⟩
        · skip
          refine skipAny ?_
          refine thenNormal ?_
          refine seqRegion ?_
          refine sq (r_assign (v := i64 ((0 : Int))) rfl) ?_
          refine wend ?_
          refine retAny ?_
          refine retG (rs := [.tmp 4]) (vs := [i64 ((0 : Int))]) rfl ⟨⟨rfl, rfl⟩, trivial⟩ ?_
          exact ⟨_, rfl, congrArg i64 (by have e2 : (2#64 : BitVec 64).toNat = 2 := rfl; have e4 : (4#64 : BitVec 64).toNat = 4 := rfl; unfold nopS; (repeat' split) <;> first | rfl | omega), H.chg⟩
      · skip
        refine skAny (wantedSome (d' := 17) (b := false) rfl rfl (congrArg Value.bool (decide_eq_false g5))) ?_
        refine skAny (wantedSome (d' := 17) (b := false) rfl rfl (congrArg Value.bool (decide_eq_false g5))) ?_
        refine sq (r_pickF (v := .bool (false)) (congrArg Value.bool (decide_eq_false g5)) rfl) ?_
        refine wend ?_
        refine condFalse rfl ?_
        refine skipAny ?_
        refine thenNormal ?_
        refine seqRegion ?_
        refine sq (r_assign (v := i64 ((0 : Int))) rfl) ?_
        refine wend ?_
        refine retAny ?_
        refine retG (rs := [.tmp 4]) (vs := [i64 ((0 : Int))]) rfl ⟨⟨rfl, rfl⟩, trivial⟩ ?_
        exact ⟨_, rfl, congrArg i64 (by have e2 : (2#64 : BitVec 64).toNat = 2 := rfl; have e4 : (4#64 : BitVec 64).toNat = 4 := rfl; unfold nopS; (repeat' split) <;> first | rfl | omega), H.chg⟩
theorem rls_ok (x y : BitVec 64) (w : World) : Calls Tryd.prog 82 [u64 (x), u64 (y)].toArray w (Ret fun v w' => v = u64 (if lsS x y = true then 1#64 else 0#64) ∧ Ext w w') := by
  have H := Hp.start No w
  refine enter (n := 10) Tryd.func82 rfl rfl (Nat.le_of_ble_eq_true rfl) ?_
  refine seqRegion ?_
  refine sq (r_assign (v := u64 (0#64)) rfl) ?_
  refine wend ?_
  refine seqAny ?_
  refine seqRegion ?_
  refine sq (r_move (v := u64 (x)) rfl) ?_
  refine sq (r_add64 (a := x) (b := 9223372036854775808#64) rfl rfl) ?_
  refine sq (r_move (v := u64 (y)) rfl) ?_
  refine sq (r_add64 (a := y) (b := 9223372036854775808#64) rfl rfl) ?_
  refine sq (r_lss64 (a := x + (9223372036854775808#64)) (b := y + (9223372036854775808#64)) rfl rfl) ?_
  refine wend ?_
  refine condProp ((x + (9223372036854775808#64)).toNat < (y + (9223372036854775808#64)).toNat) rfl (fun c9 => ?_) (fun c9 => ?_)
  · skip
    refine seqRegion ?_
    refine sq (r_assign (v := u64 (1#64)) rfl) ?_
    refine wend ?_
    refine retAny ?_
    refine thenRet ?_
    refine retG (rs := [.tmp 4]) (vs := [u64 (1#64)]) rfl ⟨⟨rfl, rfl⟩, trivial⟩ ?_
    exact ⟨_, rfl, congrArg u64 (by rw [if_pos (show lsS x y = true from decide_eq_true c9)]), H.chg⟩
  · skip
    refine skipAny ?_
    refine thenNormal ?_
    refine seqRegion ?_
    refine sq (r_assign (v := u64 (0#64)) rfl) ?_
    refine wend ?_
    refine retAny ?_
    refine retG (rs := [.tmp 4]) (vs := [u64 (0#64)]) rfl ⟨⟨rfl, rfl⟩, trivial⟩ ?_
    exact ⟨_, rfl, congrArg u64 (by rw [if_neg (by rw [show lsS x y = false from decide_eq_false c9]; decide)]), H.chg⟩
theorem rsays_ok (k : Nat) (x y : BitVec 64) (w : World) : Calls Tryd.prog 40 [i64 ((k : Nat)), u64 (x), u64 (y)].toArray w (Ret fun v w' => v = u64 (saysS k x y) ∧ Ext w w') := by
  have H := Hp.start No w
  refine enter (n := 25) Tryd.func40 rfl rfl (Nat.le_of_ble_eq_true rfl) ?_
  refine seqRegion ?_
  refine sq (r_assign (v := u64 (0#64)) rfl) ?_
  refine wend ?_
  refine seqAny ?_
  refine seqRegion ?_
  refine sq (r_move (v := i64 ((k : Nat))) rfl) ?_
  refine wend ?_
  refine blockAny ?_
  refine seqRegion ?_
  refine sq (r_eqlI (a := (k : Nat)) (b := (1 : Int)) rfl rfl) ?_
  refine sq (r_assign (v := .bool (decide (((k : Nat) : Int) = (1 : Int)))) rfl) ?_
  refine wend ?_
  refine condProp (((k : Nat) : Int) = (1 : Int)) rfl (fun c8 => ?_) (fun c8 => ?_)
  · skip
    have hk1 : k = 1 := by omega
    refine seqAny ?_
    refine seqRegion ?_
    refine sq (r_move (v := u64 (x)) rfl) ?_
    refine c_call (vs := [u64 (x), u64 (0#64)]) call82 rfl (rls_ok x (0#64) w) ?_
    rintro _ w1 ⟨rfl, hE2⟩
    have H3 := H.ext hE2
    refine sq ((r_eql64 (a := if lsS x (0#64) = true then 1#64 else 0#64) (b := 1#64) rfl rfl).as (v' := .bool (lsS x 0#64)) (by exact congrArg Value.bool (ls_one _))) ?_
    refine wend ?_
    refine condBool (lsS x 0#64) rfl (fun c12 => ?_) (fun c12 => ?_)
    · skip
      refine seqRegion ?_
      refine sq (r_assign (v := u64 (0#64)) rfl) ?_
      refine wend ?_
      refine retAny ?_
      refine thenRet ?_
      refine blockRet ?_
      refine thenRet ?_
      refine retG (rs := [.tmp 6]) (vs := [u64 (0#64)]) rfl ⟨⟨rfl, rfl⟩, trivial⟩ ?_
      exact ⟨_, rfl, congrArg u64 (by subst hk1; exact says1_t c12), H3.chg⟩
    · skip
      refine skipAny ?_
      refine thenNormal ?_
      refine seqRegion ?_
      refine sq (r_move (v := u64 (x)) rfl) ?_
      refine sq (r_assign (v := u64 (x)) rfl) ?_
      refine wend ?_
      refine retAny ?_
      refine blockRet ?_
      refine thenRet ?_
      refine retG (rs := [.tmp 6]) (vs := [u64 (x)]) rfl ⟨⟨rfl, rfl⟩, trivial⟩ ?_
      exact ⟨_, rfl, congrArg u64 (by subst hk1; exact says1_f c12), H3.chg⟩
  · skip
    have hk1 : k ≠ 1 := by omega
    refine seqRegion ?_
    refine sq (r_eqlI (a := (k : Nat)) (b := (2 : Int)) rfl rfl) ?_
    refine sq (r_assign (v := .bool (decide (((k : Nat) : Int) = (2 : Int)))) rfl) ?_
    refine wend ?_
    refine condProp (((k : Nat) : Int) = (2 : Int)) rfl (fun c14 => ?_) (fun c14 => ?_)
    · skip
      have hk2 : k = 2 := by omega
      refine seqRegion ?_
      refine sq (r_move (v := u64 (x)) rfl) ?_
      refine sq (r_move (v := u64 (y)) rfl) ?_
      refine c_call (vs := [u64 (x), u64 (y)]) call82 rfl (rls_ok x y w) ?_
      rintro _ w4 ⟨rfl, hE5⟩
      have H6 := H.ext hE5
      refine sq (r_assign (v := u64 (if lsS x y = true then 1#64 else 0#64)) rfl) ?_
      refine wend ?_
      refine retAny ?_
      refine blockRet ?_
      refine thenRet ?_
      refine retG (rs := [.tmp 6]) (vs := [u64 (if lsS x y = true then 1#64 else 0#64)]) rfl ⟨⟨rfl, rfl⟩, trivial⟩ ?_
      exact ⟨_, rfl, congrArg u64 (by subst hk2; exact says2), H6.chg⟩
    · skip
      have hk2 : k ≠ 2 := by omega
      refine skipAny ?_
      refine blockNormal ?_
      refine thenNormal ?_
      refine seqAny ?_
      refine seqRegion ?_
      refine sq (r_move (v := u64 (x)) rfl) ?_
      refine sq (r_move (v := u64 (y)) rfl) ?_
      refine c_call (vs := [u64 (x), u64 (y)]) call82 rfl (rls_ok x y w) ?_
      rintro _ w7 ⟨rfl, hE8⟩
      have H9 := H.ext hE8
      refine sq ((r_eql64 (a := if lsS x y = true then 1#64 else 0#64) (b := 1#64) rfl rfl).as (v' := .bool (lsS x y)) (by exact congrArg Value.bool (ls_one _))) ?_
      refine wend ?_
      refine condBool (lsS x y) rfl (fun c22 => ?_) (fun c22 => ?_)
      · skip
        refine seqRegion ?_
        refine sq (r_move (v := u64 (y)) rfl) ?_
        refine sq (r_assign (v := u64 (y)) rfl) ?_
        refine wend ?_
        refine retAny ?_
        refine thenRet ?_
        refine retG (rs := [.tmp 6]) (vs := [u64 (y)]) rfl ⟨⟨rfl, rfl⟩, trivial⟩ ?_
        exact ⟨_, rfl, congrArg u64 (by exact says3_t hk1 hk2 c22), H9.chg⟩
      · skip
        refine skipAny ?_
        refine thenNormal ?_
        refine seqRegion ?_
        refine sq (r_move (v := u64 (x)) rfl) ?_
        refine sq (r_assign (v := u64 (x)) rfl) ?_
        refine wend ?_
        refine retAny ?_
        refine retG (rs := [.tmp 6]) (vs := [u64 (x)]) rfl ⟨⟨rfl, rfl⟩, trivial⟩ ?_
        exact ⟨_, rfl, congrArg u64 (by exact says3_f hk1 hk2 c22), H9.chg⟩
theorem rwhole_ok (f : BitVec 64) (i : Nat) (a b : BitVec 64) (w : World) : Calls Tryd.prog 38 [u64 (f), i64 ((i : Nat)), u64 (a), u64 (b)].toArray w (Ret fun v w' => v = u64 (whS (fbS f i) a b) ∧ Ext w w') := by
  have H := Hp.start No w
  refine enter (n := 20) Tryd.func38 rfl rfl (Nat.le_of_ble_eq_true rfl) ?_
  refine seqRegion ?_
  refine sq (r_assign (v := u64 (0#64)) rfl) ?_
  refine wend ?_
  refine seqAny ?_
  refine seqRegion ?_
  refine sq (r_move (v := u64 (f)) rfl) ?_
  refine sq (r_move (v := i64 ((i : Nat))) rfl) ?_
  refine sq (r_shr64 (a := f) (c := i) rfl rfl) ?_
  refine sq (r_rem64 (a := f >>> (i : Nat)) (b := 2#64) rfl rfl (by decide)) ?_
  refine sq (r_eql64 (a := (f >>> (i : Nat)) % (2#64)) (b := 1#64) rfl rfl) ?_
  refine wend ?_
  refine condProp (((f >>> (i : Nat)) % (2#64)) = (1#64)) rfl (fun c13 => ?_) (fun c13 => ?_)
  · skip
    refine seqRegion ?_
    refine sq (r_move (v := u64 (a)) rfl) ?_
    refine sq (r_move (v := u64 (b)) rfl) ?_
    refine sq (r_xor64 (a := a) (b := b) rfl rfl) ?_
    refine sq (r_assign (v := u64 (a ^^^ b)) rfl) ?_
    refine wend ?_
    refine retAny ?_
    refine thenRet ?_
    refine retG (rs := [.tmp 8]) (vs := [u64 (a ^^^ b)]) rfl ⟨⟨rfl, rfl⟩, trivial⟩ ?_
    exact ⟨_, rfl, congrArg u64 (wh_t c13), H.chg⟩
  · skip
    refine skipAny ?_
    refine thenNormal ?_
    refine seqRegion ?_
    refine sq (r_move (v := u64 (a)) rfl) ?_
    refine sq (r_move (v := u64 (b)) rfl) ?_
    refine sq (r_add64 (a := a) (b := b) rfl rfl) ?_
    refine sq (r_assign (v := u64 (a + b)) rfl) ?_
    refine wend ?_
    refine retAny ?_
    refine retG (rs := [.tmp 8]) (vs := [u64 (a + b)]) rfl ⟨⟨rfl, rfl⟩, trivial⟩ ?_
    exact ⟨_, rfl, congrArg u64 (wh_f c13), H.chg⟩
theorem ints_ok (l : List Int) (a1 a2 : Option Addr) (n1 n2 c1 c2 : Nat) (hn1 : n1 = l.length) (hn2 : n2 = l.length) (w : World) (h1 : Rd EI w a1 l) (h2 : Rd EI w a2 l) (hl : l.length ≤ 140737488355328) : Calls Tryd.prog 36 [.slice a1 n1 c1, .slice a2 n2 c2].toArray w (Ret fun v w' => v = .bool true ∧ Ext w w') := by
  subst hn1 hn2
  have H := Hp.start No w
  refine enter (n := 26) Tryd.func36 rfl rfl (Nat.le_of_ble_eq_true rfl) ?_
  refine seqRegion ?_
  refine sq (r_assign (v := .bool (false)) rfl) ?_
  refine wend ?_
  refine seqAny ?_
  refine seqRegion ?_
  refine sq (r_move (v := .slice a1 l.length c1) rfl) ?_
  refine sq (r_lenS sli60 (a := a1) (m := l.length) (c := c1) rfl) ?_
  refine sq (r_move (v := .slice a2 l.length c2) rfl) ?_
  refine sq (r_lenS sli60 (a := a2) (m := l.length) (c := c2) rfl) ?_
  refine sq ((r_neqI (a := (l.length : Nat)) (b := (l.length : Nat)) rfl rfl).as (v' := .bool (false)) (by simp)) ?_
  refine wend ?_
  refine condFalse rfl ?_
  refine skipAny ?_
  refine thenNormal ?_
  refine seqAny ?_
  refine seqRegion ?_
  refine sq (r_move (v := .slice a1 l.length c1) rfl) ?_
  refine sq (r_lenS sli60 (a := a1) (m := l.length) (c := c1) rfl) ?_
  refine sq (r_move (v := i64 ((0 : Int))) rfl) ?_
  refine wend ?_
  refine blockAny ?_
  refine loopAny (σ := Nat) (fun q => [(0, .slice a1 l.length c1), (1, .slice a2 l.length c2), (12, i64 ((l.length : Nat))), (13, i64 ((q : Nat)))]) (fun q w' => q ≤ l.length ∧ Hp No w w' []) (fun q => l.length - q) (0) ?_ ?_ ?_
  · exact ⟨rfl, rfl, rfl, rfl, trivial⟩
  · exact ⟨Nat.zero_le _, H⟩
  rintro q ρ w1 ⟨hq, HL⟩
  refine seqRegion ?_
  refine sq (r_lssI (a := (q : Nat)) (b := (l.length : Nat)) rfl rfl) ?_
  refine wend ?_
  refine seqAny ?_
  refine condProp (((q : Nat) : Int) < (l.length : Nat)) rfl (fun c14 => ?_) (fun c14 => ?_)
  · skip
    refine skipAny ?_
    refine thenNormal ?_
    refine seqAny ?_
    refine blockAny ?_
    refine seqRegion ?_
    refine sq (r_move (v := i64 ((q : Nat))) rfl) ?_
    refine sq (r_assign (v := i64 ((q : Nat))) rfl) ?_
    refine wend ?_
    refine seqAny ?_
    refine drawAny (K := [none, none, none, none, none, none, none, none, none]) [0, 0, 3, 7, 0, 0, 48, 112, 255] (fun w' => Ext w1 w') (fun w' w'' => Ext w' w'') mixed (by kernel_rfl) (Ext.drew _) (fun _ _ h h' => h.trans h') ?_ ?_
    · exact relNone (by decide)
    refine ⟨.slice a1 l.length c1, fun _ uw3 hC4 _ => Gives.run rfl (r_move (v := .slice a1 l.length c1) rfl) ⟨rfl, Chg.refl _ _⟩, ?_⟩
    refine ⟨i64 ((q : Nat)), fun _ uw5 hC6 _ => Gives.run rfl (r_move (v := i64 ((q : Nat))) rfl) ⟨rfl, Chg.refl _ _⟩, ?_⟩
    refine ⟨.pointer (adr a1 (q * 1)), fun _ uw7 hC8 _ => Gives.run rfl (r_idxS (E := EI) (l := l) (j := q) sli60 (h1.ext (HL.ext hC8).chg) rfl rfl (by first | rfl | omega | (simp; omega)) (by rfl) (by omega)) ⟨rfl, Chg.refl _ _⟩, ?_⟩
    refine ⟨i64 ((l).getD q 0), fun _ uw9 hC10 _ => Gives.run rfl (r_ldS (E := EI) (l := l) (j := q) (v := (l).getD q 0) fits3 (h1.ext (HL.ext hC10).chg) rfl rfl (at_getD (by omega))) ⟨rfl, Chg.refl _ _⟩, ?_⟩
    refine ⟨.slice a2 l.length c2, fun _ uw11 hC12 _ => Gives.run rfl (r_move (v := .slice a2 l.length c2) rfl) ⟨rfl, Chg.refl _ _⟩, ?_⟩
    refine ⟨i64 ((q : Nat)), fun _ uw13 hC14 _ => Gives.run rfl (r_move (v := i64 ((q : Nat))) rfl) ⟨rfl, Chg.refl _ _⟩, ?_⟩
    refine ⟨.pointer (adr a2 (q * 1)), fun _ uw15 hC16 _ => Gives.run rfl (r_idxS (E := EI) (l := l) (j := q) sli60 (h2.ext (HL.ext hC16).chg) rfl rfl (by first | rfl | omega | (simp; omega)) (by rfl) (by omega)) ⟨rfl, Chg.refl _ _⟩, ?_⟩
    refine ⟨i64 ((l).getD q 0), fun _ uw17 hC18 _ => Gives.run rfl (r_ldS (E := EI) (l := l) (j := q) (v := (l).getD q 0) fits3 (h2.ext (HL.ext hC18).chg) rfl rfl (at_getD (by omega))) ⟨rfl, Chg.refl _ _⟩, ?_⟩
    refine ⟨.bool (false), fun _ uw19 hC20 _ => Gives.run rfl ((r_neqI (a := (l).getD q 0) (b := (l).getD q 0) rfl rfl).as (v' := .bool (false)) (by simp)) ⟨rfl, Chg.refl _ _⟩, ?_⟩
    intro r24 w21 hE23 hF
    have H22 := HL.ext hE23
    refine wnil ?_
    refine thenNormal ?_
    refine condFalse rfl ?_
    refine skipAny ?_
    refine blockNormal ?_
    refine thenNormal ?_
    refine oneRegion ?_
    refine sq (r_addI (a := (q : Nat)) (b := (1 : Int)) rfl rfl (by omega)) ?_
    refine sq (r_move (v := i64 ((q : Nat) + (1 : Int))) rfl) ?_
    refine wnil ?_
    refine thenNormal ?_
    exact ⟨q + 1, _, rfl, ⟨rfl, rfl, rfl, rfl, trivial⟩, ⟨by omega, H22⟩, by show l.length - (q + 1) < l.length - q; omega⟩
  · skip
    refine exitAny ?_
    refine thenExit ?_
    refine thenExit ?_
    refine blockHere ?_
    refine thenNormal ?_
    refine seqRegion ?_
    refine sq (r_assign (v := .bool (true)) rfl) ?_
    refine wend ?_
    refine retAny ?_
    refine retG (rs := [.tmp 4]) (vs := [.bool (true)]) rfl ⟨⟨rfl, rfl⟩, trivial⟩ ?_
    exact ⟨_, rfl, rfl, HL.chg⟩
end Go.Proofs.YteofdmdpaejgaaaDoor.Cm
namespace Go.Proofs.YteofdmdpaejgaaaDoor.Cm
open Go Go.Proofs.YteofdmdpaejgaaaDoor.Vc Go.Proofs.YteofdmdpaejgaaaDoor.Er Go.Proofs.YteofdmdpaejgaaaDoor.Circ
set_option linter.unusedVariables false
theorem call30 : callable Tryd.prog 30 = true := by kernel_rfl
theorem call79 : callable Tryd.prog 79 = true := by kernel_rfl
theorem fld80_2 : fld Tryd.prog 80 2 = some (2, 1, 60) := by kernel_rfl
theorem one60 : isOne Tryd.prog 60 = true := by kernel_rfl
theorem pls80 : pls Tryd.prog 80 = some #[(0, 1), (1, 1), (2, 1)] := by kernel_rfl
set_option maxHeartbeats 2000000 in
theorem rmake_k1 (fm : BitVec 64) (hf : fm < 2#64) (w : World) : Calls Tryd.prog 34 [i64 (1 : Int), u64 fm].toArray w (Ret fun v w' => ∃ (key : Option Nat) (c : Nat) (sp : List Value) (ko : Option Nat) (co : Nat) (so : List Value), v = .agg #[i64 ((128 : Nat) : Int), .slice (ownA key) (mk1 (fbS fm 0)).1.length c, .slice (ownA ko) 64 co] ∧ Sl EG key (mk1 (fbS fm 0)).1 c sp ∧ Sl EI ko (mk1 (fbS fm 0)).2 co so ∧ Hp No w w' [(key, sob EG 85 (mk1 (fbS fm 0)).1 sp), (ko, sob EI 3 (mk1 (fbS fm 0)).2 so)]) := by
  have H := Hp.start No w
  refine enter (n := 151) Tryd.func34 rfl rfl (Nat.le_of_ble_eq_true rfl) ?_
  refine seqRegion ?_
  refine q_alloc (o := .cells #[i64 ((0 : Int)), .slice none 0 0, .slice none 0 0] 80 (0, 0)) H zer80 (by kernel_rfl) ?_
  intro b1 w2 hb1 H3 hE4
  refine wend ?_
  refine seqRegion ?_
  refine sq (r_move (v := i64 ((1 : Int))) rfl) ?_
  refine sq (r_move (v := u64 (fm)) rfl) ?_
  refine c_call (vs := [i64 ((1 : Int)), u64 (fm)]) call30 rfl ((by have h := rnop_ok (1 : Int) fm w2; rw [nop_one fm hf] at h; exact h)) ?_
  rintro _ w5 ⟨rfl, hE6⟩
  have H7 := H3.ext hE6
  refine sq (r_assign (v := i64 ((1 : Nat))) rfl) ?_
  refine wend ?_
  refine seqRegion ?_
  refine sq (r_move (v := i64 ((1 : Nat))) rfl) ?_
  refine sq ((r_mulI (a := (128 : Int)) (b := (1 : Nat)) rfl rfl (by omega)).as (v' := i64 ((128 : Nat))) (by rfl)) ?_
  refine sq (r_build (cs' := #[i64 ((128 : Nat)), .slice none 0 0, .slice none 0 0]) (ps := [(0, i64 ((128 : Nat)))]) zer80 pls80 rfl (by rfl)) ?_
  refine q_alloc (o := .cells #[i64 ((0 : Int)), .slice none 0 0, .slice none 0 0] 80 (0, 0)) H7 zer80 (by kernel_rfl) ?_
  intro b8 w9 hb8 H10 hE11
  refine d_store (k := 0) (v := .agg #[i64 ((128 : Nat)), .slice none 0 0, .slice none 0 0]) (cs' := #[i64 ((128 : Nat)), .slice none 0 0, .slice none 0 0]) H10 rfl rfl rfl siz80 (by rfl) (by intro u hu; simp [Value.cells] at hu; first | (subst hu; rfl) | (rcases hu with rfl | rfl | rfl <;> rfl)) (by exact Nat.le_of_ble_eq_true rfl) (by rfl) ?_
  intro w12 H13 hC14
  have H13' := H13.as (L' := [(some b8, .cells #[i64 ((128 : Nat)), .slice none 0 0, .slice none 0 0] 80 (0, 0)), (some b1, .cells #[i64 ((0 : Int)), .slice none 0 0, .slice none 0 0] 80 (0, 0))]) rfl
  clear H13
  have H15 := H13'.nil (sob EG 85 [] [])
  have H16 := H15.as (L' := [(none, sob EG 85 ([] : List Gt) ([])), (some b8, .cells #[i64 ((128 : Nat)), .slice (ownA none) (List.length ([] : List Gt)) 0, .slice none 0 0] 80 (0, 0)), (some b1, .cells #[i64 ((0 : Int)), .slice none 0 0, .slice none 0 0] 80 (0, 0))]) rfl
  refine wend ?_
  refine seqRegion ?_
  refine sq (r_assign (v := .slice none 0 0) rfl) ?_
  refine sq (r_assign (v := .slice none 0 0) rfl) ?_
  refine wend ?_
  refine seqRegion ?_
  refine sq (r_loadA (cs' := #[i64 ((128 : Nat)), .slice (ownA none) (List.length ([] : List Gt)) 0, .slice none 0 0]) agg80 siz80 (H16.get (k := 1) rfl) (off := 0) rfl (by exact Nat.le_of_ble_eq_true rfl) (by rfl)) ?_
  refine sq (r_move (v := u64 (fm)) rfl) ?_
  refine sq (r_rem64 (a := fm) (b := 2#64) rfl rfl (by decide)) ?_
  refine sq ((r_eql64 (a := fm % (2#64)) (b := 1#64) rfl rfl).as (v' := .bool (fbS fm 0)) (by exact congrArg Value.bool (fb_rem0 fm))) ?_
  have H17 := (H16).as (L' := ((none, sob EG 85 ([] : List Gt) ([])) :: ([(some b8, .cells #[i64 ((128 : Nat)), .slice (ownA none) (List.length ([] : List Gt)) 0, .slice none 0 0] 80 (0, 0)), (some b1, .cells #[i64 ((0 : Int)), .slice none 0 0, .slice none 0 0] 80 (0, 0))]))) rfl
  refine c_call (vs := [.agg #[i64 ((128 : Nat)), .slice (ownA none) (List.length ([] : List Gt)) 0, .slice none 0 0], i64 ((0 : Int)), i64 ((64 : Int)), .bool (fbS fm 0)]) call79 rfl (rop_ok 128 none 0 ([]) ([] : List Gt) Sl.none (by omega) (by exact Nat.zero_le _) none 0 0 0 64 (by omega) (by omega) (fbS fm 0) ([(some b8, .cells #[i64 ((128 : Nat)), .slice (ownA none) (List.length ([] : List Gt)) 0, .slice none 0 0] 80 (0, 0)), (some b1, .cells #[i64 ((0 : Int)), .slice none 0 0, .slice none 0 0] 80 (0, 0))]) w w12 H17) ?_
  rintro _ w18 ⟨key20, c21, sp22, ko23, co24, so25, rfl, hS26, hO27, HN28⟩
  obtain ⟨o1, ho1⟩ : ∃ q, q = opS 128 ([] : List Gt) 0 64 (fbS fm 0) := ⟨_, rfl⟩
  rw [← ho1] at hS26 hO27 HN28 ⊢
  have hlo1 := opS_len 128 ([] : List Gt) 0 64 (fbS fm 0)
  rw [← ho1] at hlo1
  have H29 := HN28.as (L' := [(key20, sob EG 85 o1.1 sp22), (ko23, sob EI 3 o1.2 so25), (some b8, .cells #[i64 ((128 : Nat)), .slice (ownA none) (List.length ([] : List Gt)) 0, .slice none 0 0] 80 (0, 0)), (some b1, .cells #[i64 ((0 : Int)), .slice none 0 0, .slice none 0 0] 80 (0, 0))]) rfl
  refine sq (r_move (v := .tuple #[.agg #[i64 ((128 : Nat)), .slice (ownA key20) (List.length o1.1) c21, .slice none 0 0], .slice (ownA ko23) 64 co24]) rfl) ?_
  refine sq (r_extract (vs := #[.agg #[i64 ((128 : Nat)), .slice (ownA key20) (List.length o1.1) c21, .slice none 0 0], .slice (ownA ko23) 64 co24]) rfl rfl) ?_
  refine sq (r_extract (vs := #[.agg #[i64 ((128 : Nat)), .slice (ownA key20) (List.length o1.1) c21, .slice none 0 0], .slice (ownA ko23) 64 co24]) rfl rfl) ?_
  refine d_store (k := 2) (v := .agg #[i64 ((128 : Nat)), .slice (ownA key20) (List.length o1.1) c21, .slice none 0 0]) (cs' := #[i64 ((128 : Nat)), .slice (ownA key20) (List.length o1.1) c21, .slice none 0 0]) H29 rfl rfl rfl siz80 (by rfl) (by intro u hu; simp [Value.cells] at hu; first | (subst hu; rfl) | (rcases hu with rfl | rfl | rfl <;> rfl)) (by exact Nat.le_of_ble_eq_true rfl) (by rfl) ?_
  intro w30 H31 hC32
  have H31' := H31.as (L' := [(key20, sob EG 85 o1.1 sp22), (ko23, sob EI 3 o1.2 so25), (some b8, .cells #[i64 ((128 : Nat)), .slice (ownA key20) (List.length o1.1) c21, .slice none 0 0] 80 (0, 0)), (some b1, .cells #[i64 ((0 : Int)), .slice none 0 0, .slice none 0 0] 80 (0, 0))]) rfl
  clear H31
  refine sq (r_assign (v := .slice (ownA ko23) 64 co24) rfl) ?_
  simp only [List.length_nil] at hlo1
  refine wend ?_
  refine seqAny ?_
  refine seqRegion ?_
  refine sq (r_move (v := i64 ((1 : Nat))) rfl) ?_
  refine sq ((r_eqlI (a := (1 : Nat)) (b := (2 : Int)) rfl rfl).as (v' := .bool (false)) (by rfl)) ?_
  refine wend ?_
  refine condFalse rfl ?_
  refine skipAny ?_
  refine thenNormal ?_
  refine seqRegion ?_
  refine sq (r_loadA (cs' := #[i64 ((128 : Nat)), .slice (ownA key20) (List.length o1.1) c21, .slice none 0 0]) agg80 siz80 (H31'.get (k := 2) rfl) (off := 0) rfl (by exact Nat.le_of_ble_eq_true rfl) (by rfl)) ?_
  have H33 := (H31').as (L' := ((key20, sob EG 85 o1.1 sp22) :: ([(ko23, sob EI 3 o1.2 so25), (some b8, .cells #[i64 ((128 : Nat)), .slice (ownA key20) (List.length o1.1) c21, .slice none 0 0] 80 (0, 0)), (some b1, .cells #[i64 ((0 : Int)), .slice none 0 0, .slice none 0 0] 80 (0, 0))]))) rfl
  refine c_call (vs := [.agg #[i64 ((128 : Nat)), .slice (ownA key20) (List.length o1.1) c21, .slice none 0 0], i64 ((1 : Int)), i64 ((0 : Int)), i64 ((0 : Int))]) call80 rfl (rput_ok 128 key20 c21 sp22 o1.1 hS26 (by omega) (by omega) none 0 0 (1 : Int) (0 : Int) (0 : Int) ([(ko23, sob EI 3 o1.2 so25), (some b8, .cells #[i64 ((128 : Nat)), .slice (ownA key20) (List.length o1.1) c21, .slice none 0 0] 80 (0, 0)), (some b1, .cells #[i64 ((0 : Int)), .slice none 0 0, .slice none 0 0] 80 (0, 0))]) w w30 H33) ?_
  rintro _ w34 ⟨wx36, key37, c38, sp39, hwx36, rfl, hS40, HN41⟩
  have H42 := HN41.as (L' := [(key37, sob EG 85 (o1.1 ++ [(⟨(1 : Int), (0 : Int), (0 : Int)⟩ : Gt)]) sp39), (ko23, sob EI 3 o1.2 so25), (some b8, .cells #[i64 ((128 : Nat)), .slice (ownA key20) (List.length o1.1) c21, .slice none 0 0] 80 (0, 0)), (some b1, .cells #[i64 ((0 : Int)), .slice none 0 0, .slice none 0 0] 80 (0, 0))]) rfl
  refine sq (r_move (v := .tuple #[.agg #[i64 ((128 : Nat)), .slice (ownA key37) (List.length (o1.1 ++ [(⟨(1 : Int), (0 : Int), (0 : Int)⟩ : Gt)])) c38, .slice none 0 0], i64 (wx36)]) rfl) ?_
  refine sq (r_extract (vs := #[.agg #[i64 ((128 : Nat)), .slice (ownA key37) (List.length (o1.1 ++ [(⟨(1 : Int), (0 : Int), (0 : Int)⟩ : Gt)])) c38, .slice none 0 0], i64 (wx36)]) rfl rfl) ?_
  refine sq (r_extract (vs := #[.agg #[i64 ((128 : Nat)), .slice (ownA key37) (List.length (o1.1 ++ [(⟨(1 : Int), (0 : Int), (0 : Int)⟩ : Gt)])) c38, .slice none 0 0], i64 (wx36)]) rfl rfl) ?_
  refine d_store (k := 2) (v := .agg #[i64 ((128 : Nat)), .slice (ownA key37) (List.length (o1.1 ++ [(⟨(1 : Int), (0 : Int), (0 : Int)⟩ : Gt)])) c38, .slice none 0 0]) (cs' := #[i64 ((128 : Nat)), .slice (ownA key37) (List.length (o1.1 ++ [(⟨(1 : Int), (0 : Int), (0 : Int)⟩ : Gt)])) c38, .slice none 0 0]) H42 rfl rfl rfl siz80 (by rfl) (by intro u hu; simp [Value.cells] at hu; first | (subst hu; rfl) | (rcases hu with rfl | rfl | rfl <;> rfl)) (by exact Nat.le_of_ble_eq_true rfl) (by rfl) ?_
  intro w43 H44 hC45
  have H44' := H44.as (L' := [(key37, sob EG 85 (o1.1 ++ [(⟨(1 : Int), (0 : Int), (0 : Int)⟩ : Gt)]) sp39), (ko23, sob EI 3 o1.2 so25), (some b8, .cells #[i64 ((128 : Nat)), .slice (ownA key37) (List.length (o1.1 ++ [(⟨(1 : Int), (0 : Int), (0 : Int)⟩ : Gt)])) c38, .slice none 0 0] 80 (0, 0)), (some b1, .cells #[i64 ((0 : Int)), .slice none 0 0, .slice none 0 0] 80 (0, 0))]) rfl
  clear H44
  refine sq (r_assign (v := i64 (wx36)) rfl) ?_
  subst hwx36
  have e46 : o1.1 ++ [(⟨(1 : Int), (0 : Int), (0 : Int)⟩ : Gt)] = ze o1.1 := by rfl
  have hS47 := hS40
  rw [e46] at hS47
  have H48 : Hp No w w43 [(key37, sob EG 85 (ze o1.1) sp39), (ko23, sob EI 3 o1.2 so25), (some b8, .cells #[i64 ((128 : Nat)), .slice (ownA key37) (List.length (ze o1.1)) c38, .slice none 0 0] 80 (0, 0)), (some b1, .cells #[i64 ((0 : Int)), .slice none 0 0, .slice none 0 0] 80 (0, 0))] := by rw [← e46]; exact H44'
  have hzl : (ze o1.1).length = o1.1.length + 1 := by simp [ze]
  refine wend ?_
  refine seqAny ?_
  refine seqRegion ?_
  refine sq (r_move (v := i64 ((1 : Int))) rfl) ?_
  refine sq ((r_eqlI (a := (1 : Int)) (b := (1 : Int)) rfl rfl).as (v' := .bool (true)) (by rfl)) ?_
  refine wend ?_
  refine condTrue rfl ?_
  refine seqRegion ?_
  refine sq (r_assign (v := i64 ((0 : Int))) rfl) ?_
  refine wend ?_
  refine seqAny ?_
  refine drawC (m := 10) [0, 0, 2, 6, 15, 31, 63, 63, 127, 511] [4, 8] (fun q vs w' => match q, vs with | 0, [] => Hp No w w' [(key37, sob EG 85 (ze o1.1) sp39), (ko23, sob EI 3 o1.2 so25), (some b8, .cells #[i64 ((128 : Nat)), .slice (ownA key37) (List.length (ze o1.1)) c38, .slice none 0 0] 80 (0, 0)), (some b1, .cells #[i64 ((0 : Int)), .slice none 0 0, .slice none 0 0] 80 (0, 0))] | 1, [v0] => ∃ (wx55 : Int) (key56 : Option Nat) (c57 : Nat) (sp58 : List Value), v0 = .tuple #[.agg #[i64 ((128 : Nat)), .slice (ownA key56) (List.length ((ze o1.1) ++ [(⟨(3 : Int), (o1.2).getD 63 0, (0 : Int)⟩ : Gt)])) c57, .slice none 0 0], i64 (wx55)] ∧ Sl EG key56 ((ze o1.1) ++ [(⟨(3 : Int), (o1.2).getD 63 0, (0 : Int)⟩ : Gt)]) c57 sp58 ∧ wx55 = wrW 128 (ze o1.1) ∧ Hp No w w' [(key56, sob EG 85 ((ze o1.1) ++ [(⟨(3 : Int), (o1.2).getD 63 0, (0 : Int)⟩ : Gt)]) sp58), (ko23, sob EI 3 o1.2 so25), (some b8, .cells #[i64 ((128 : Nat)), .slice (ownA key37) (List.length (ze o1.1)) c38, .slice none 0 0] 80 (0, 0)), (some b1, .cells #[i64 ((0 : Int)), .slice none 0 0, .slice none 0 0] 80 (0, 0))] | 2, [v0, _] => ∃ (wx55 : Int) (key56 : Option Nat) (c57 : Nat) (sp58 : List Value), v0 = .tuple #[.agg #[i64 ((128 : Nat)), .slice (ownA key56) (List.length ((ze o1.1) ++ [(⟨(3 : Int), (o1.2).getD 63 0, (0 : Int)⟩ : Gt)])) c57, .slice none 0 0], i64 (wx55)] ∧ True ∧ Sl EG key56 ((ze o1.1) ++ [(⟨(3 : Int), (o1.2).getD 63 0, (0 : Int)⟩ : Gt)]) c57 sp58 ∧ wx55 = wrW 128 (ze o1.1) ∧ Hp No w w' [(key56, sob EG 85 ((ze o1.1) ++ [(⟨(3 : Int), (o1.2).getD 63 0, (0 : Int)⟩ : Gt)]) sp58), (ko23, sob EI 3 o1.2 so25), (some b8, .cells #[i64 ((128 : Nat)), .slice (ownA key56) (List.length ((ze o1.1) ++ [(⟨(3 : Int), (o1.2).getD 63 0, (0 : Int)⟩ : Gt)])) c57, .slice none 0 0] 80 (0, 0)), (some b1, .cells #[i64 ((0 : Int)), .slice none 0 0, .slice none 0 0] 80 (0, 0))] | _, _ => False) mixed (by kernel_rfl) (by kernel_rfl) H48.drew ?_
  refine WalkC.look rfl (fun _ => .agg #[i64 ((128 : Nat)), .slice (ownA key37) (List.length (ze o1.1)) c38, .slice none 0 0]) (fun _ _ _ => rfl) (fun q r uw hlo hhi hle hF => ?_) ?_
  · skip
    have h1 : 0 ≤ q := Nat.zero_le _
    have h2 : q ≤ 0 := hhi 0 4 rfl rfl
    rcases (show q = 0 by omega) with rfl
    · skip
      have HH := hF
      exact Gives.run rfl (r_loadA (cs' := #[i64 ((128 : Nat)), .slice (ownA key37) (List.length (ze o1.1)) c38, .slice none 0 0]) agg80 siz80 (HH.get (k := 2) rfl) (off := 0) rfl (by exact Nat.le_of_ble_eq_true rfl) (by rfl)) ⟨rfl, rfl⟩
  refine WalkC.look rfl (fun _ => .slice (ownA ko23) 64 co24) (fun _ _ _ => rfl) (fun q r uw _ _ _ _ => Gives.run rfl (r_move (v := .slice (ownA ko23) 64 co24) rfl) ⟨rfl, rfl⟩) ?_
  refine WalkC.look rfl (fun _ => .pointer (adr (ownA ko23) (63 * 1))) (fun _ _ _ => rfl) (fun q r uw hlo hhi hle hF => ?_) ?_
  · skip
    have h1 : 0 ≤ q := Nat.zero_le _
    have h2 : q ≤ 0 := hhi 0 4 rfl rfl
    rcases (show q = 0 by omega) with rfl
    · skip
      have HH := hF
      exact Gives.run rfl (r_idxS (E := EI) (l := o1.2) (j := 63) sli60 (HH.rd (k := 1) rfl hO27) rfl rfl (by first | rfl | omega | (simp; omega)) (by exact hlo1.2.symm) (by omega)) ⟨rfl, rfl⟩
  refine WalkC.look rfl (fun _ => i64 ((o1.2).getD 63 0)) (fun _ _ _ => rfl) (fun q r uw hlo hhi hle hF => ?_) ?_
  · skip
    have h1 : 0 ≤ q := Nat.zero_le _
    have h2 : q ≤ 0 := hhi 0 4 rfl rfl
    rcases (show q = 0 by omega) with rfl
    · skip
      have HH := hF
      exact Gives.run rfl (r_ldS (E := EI) (l := o1.2) (j := 63) (v := (o1.2).getD 63 0) fits3 (HH.rd (k := 1) rfl hO27) rfl rfl (at_getD (by omega))) ⟨rfl, rfl⟩
  refine WalkC.eff 0 rfl (fun r uw49 hF51 => ?_) ?_
  · skip
    have H50 := hF51
    dsimp only [List.take, List.map, List.cons_append, List.nil_append]
    refine Gives.ofW (d := 54) rfl rfl (fun Q' hK => ?_)
    have H52 := (H50).as (L' := ((key37, sob EG 85 (ze o1.1) sp39) :: ([(ko23, sob EI 3 o1.2 so25), (some b8, .cells #[i64 ((128 : Nat)), .slice (ownA key37) (List.length (ze o1.1)) c38, .slice none 0 0] 80 (0, 0)), (some b1, .cells #[i64 ((0 : Int)), .slice none 0 0, .slice none 0 0] 80 (0, 0))]))) rfl
    refine c_call (vs := [.agg #[i64 ((128 : Nat)), .slice (ownA key37) (List.length (ze o1.1)) c38, .slice none 0 0], i64 ((3 : Int)), i64 ((o1.2).getD 63 0), i64 ((0 : Int))]) call80 rfl (rput_ok 128 key37 c38 sp39 (ze o1.1) hS47 (by omega) (by omega) none 0 0 (3 : Int) ((o1.2).getD 63 0) (0 : Int) ([(ko23, sob EI 3 o1.2 so25), (some b8, .cells #[i64 ((128 : Nat)), .slice (ownA key37) (List.length (ze o1.1)) c38, .slice none 0 0] 80 (0, 0)), (some b1, .cells #[i64 ((0 : Int)), .slice none 0 0, .slice none 0 0] 80 (0, 0))]) w uw49 H52) ?_
    rintro _ w53 ⟨wx55, key56, c57, sp58, hwx55, rfl, hS59, HN60⟩
    have H61 := HN60.as (L' := [(key56, sob EG 85 ((ze o1.1) ++ [(⟨(3 : Int), (o1.2).getD 63 0, (0 : Int)⟩ : Gt)]) sp58), (ko23, sob EI 3 o1.2 so25), (some b8, .cells #[i64 ((128 : Nat)), .slice (ownA key37) (List.length (ze o1.1)) c38, .slice none 0 0] 80 (0, 0)), (some b1, .cells #[i64 ((0 : Int)), .slice none 0 0, .slice none 0 0] 80 (0, 0))]) rfl
    exact hK _ _ ⟨wx55, key56, c57, sp58, rfl, hS59, hwx55, H61⟩
  refine WalkC.look rfl (fun r => r 4) (fun r r' h => h 4 (by decide) rfl) (fun q r uw _ _ _ _ => Gives.run rfl (r_move rfl) ⟨rfl, rfl⟩) ?_
  refine WalkC.look rfl (fun r => proj (r 4) 0) (fun r r' h => by rw [h 4 (by decide) rfl]) (fun q r uw hlo hhi hle hF => ?_) ?_
  · skip
    have h1 : 1 ≤ q := hlo 0 4 rfl rfl
    have h2 : q ≤ 1 := hhi 1 8 rfl rfl
    rcases (show q = 1 by omega) with rfl
    · skip
      obtain ⟨wx55, key56, c57, sp58, e4, hS59, hwx55, HH⟩ := hF
      dsimp only
      rw [e4]
      exact Gives.run rfl (r_extract (vs := #[.agg #[i64 ((128 : Nat)), .slice (ownA key56) (List.length ((ze o1.1) ++ [(⟨(3 : Int), (o1.2).getD 63 0, (0 : Int)⟩ : Gt)])) c57, .slice none 0 0], i64 (wx55)]) rfl rfl) ⟨rfl, rfl⟩
  refine WalkC.look rfl (fun r => proj (r 4) 1) (fun r r' h => by rw [h 4 (by decide) rfl]) (fun q r uw hlo hhi hle hF => ?_) ?_
  · skip
    have h1 : 1 ≤ q := hlo 0 4 rfl rfl
    have h2 : q ≤ 2 := hle
    rcases (show q = 1 ∨ q = 2 by omega) with rfl | rfl
    · skip
      obtain ⟨wx55, key56, c57, sp58, e4, hS59, hwx55, HH⟩ := hF
      dsimp only
      rw [e4]
      exact Gives.run rfl (r_extract (vs := #[.agg #[i64 ((128 : Nat)), .slice (ownA key56) (List.length ((ze o1.1) ++ [(⟨(3 : Int), (o1.2).getD 63 0, (0 : Int)⟩ : Gt)])) c57, .slice none 0 0], i64 (wx55)]) rfl rfl) ⟨rfl, rfl⟩
    · skip
      obtain ⟨wx55, key56, c57, sp58, e4, e8, hS59, hwx55, HH⟩ := hF
      dsimp only
      rw [e4]
      exact Gives.run rfl (r_extract (vs := #[.agg #[i64 ((128 : Nat)), .slice (ownA key56) (List.length ((ze o1.1) ++ [(⟨(3 : Int), (o1.2).getD 63 0, (0 : Int)⟩ : Gt)])) c57, .slice none 0 0], i64 (wx55)]) rfl rfl) ⟨rfl, rfl⟩
  refine WalkC.eff 1 rfl (fun r uw62 hF64 => ?_) ?_
  · skip
    obtain ⟨wx55, key56, c57, sp58, e4, hS59, hwx55, H63⟩ := hF64
    dsimp only [List.take, List.map, List.cons_append, List.nil_append]
    rw [e4]
    refine Gives.ofW0 rfl (fun Q' hK => ?_)
    refine d_store (k := 2) (v := .agg #[i64 ((128 : Nat)), .slice (ownA key56) (List.length ((ze o1.1) ++ [(⟨(3 : Int), (o1.2).getD 63 0, (0 : Int)⟩ : Gt)])) c57, .slice none 0 0]) (cs' := #[i64 ((128 : Nat)), .slice (ownA key56) (List.length ((ze o1.1) ++ [(⟨(3 : Int), (o1.2).getD 63 0, (0 : Int)⟩ : Gt)])) c57, .slice none 0 0]) H63 rfl rfl rfl siz80 (by rfl) (by intro u hu; simp [Value.cells] at hu; first | (subst hu; rfl) | (rcases hu with rfl | rfl | rfl <;> rfl)) (by exact Nat.le_of_ble_eq_true rfl) (by rfl) ?_
    intro w65 H66 hC67
    have H66' := H66.as (L' := [(key56, sob EG 85 ((ze o1.1) ++ [(⟨(3 : Int), (o1.2).getD 63 0, (0 : Int)⟩ : Gt)]) sp58), (ko23, sob EI 3 o1.2 so25), (some b8, .cells #[i64 ((128 : Nat)), .slice (ownA key56) (List.length ((ze o1.1) ++ [(⟨(3 : Int), (o1.2).getD 63 0, (0 : Int)⟩ : Gt)])) c57, .slice none 0 0] 80 (0, 0)), (some b1, .cells #[i64 ((0 : Int)), .slice none 0 0, .slice none 0 0] 80 (0, 0))]) rfl
    clear H66
    exact hK _ (fun _ => ⟨wx55, key56, c57, sp58, rfl, trivial, hS59, hwx55, H66'⟩)
  refine WalkC.look rfl (fun r => proj (r 4) 1) (fun r r' h => by rw [h 4 (by decide) rfl]) (fun q r uw _ _ _ _ => Gives.run rfl (r_assign rfl) ⟨rfl, rfl⟩) ?_
  refine WalkC.nil ?_
  intro r68 w69 hF71
  obtain ⟨wx55, key56, c57, sp58, e4, e8, hS59, hwx55, H70⟩ := hF71
  dsimp only
  rw [e4]
  subst hwx55
  have hgl : (ze o1.1 ++ [(⟨3, o1.2.getD 63 0, 0⟩ : Gt)]).length = o1.1.length + 2 := by rw [List.length_append, hzl]; rfl
  have H72 := H70.nil (sob EI 3 [] [])
  have H73 := H72.as (L' := [(none, sob EI 3 ([] : List Int) ([])), (key56, sob EG 85 ((ze o1.1) ++ [(⟨(3 : Int), (o1.2).getD 63 0, (0 : Int)⟩ : Gt)]) sp58), (ko23, sob EI 3 o1.2 so25), (some b8, .cells #[i64 ((128 : Nat)), .slice (ownA key56) (List.length ((ze o1.1) ++ [(⟨(3 : Int), (o1.2).getD 63 0, (0 : Int)⟩ : Gt)])) c57, .slice (ownA none) 0 0] 80 (0, 0)), (some b1, .cells #[i64 ((0 : Int)), .slice none 0 0, .slice none 0 0] 80 (0, 0))]) rfl
  refine wnil ?_
  refine thenNormal ?_
  refine seqAny ?_
  refine seqRegion ?_
  refine sq (r_assign (v := i64 ((0 : Int))) rfl) ?_
  refine wend ?_
  refine blockAny ?_
  refine loopAny (σ := Nat × Option Nat × Nat × List Value × Option Nat × Nat × List Value) (fun (i, ky, cy, sy, ku, cu, su) => [(4, .pointer (some ⟨b1, 0, none⟩)), (6, .pointer (some ⟨b8, 0, none⟩)), (7, .slice (ownA ko23) 64 co24), (9, i64 ((wrW 128 o1.1))), (10, i64 ((wrW 128 (ze o1.1)))), (11, i64 ((i : Nat)))]) (fun (i, ky, cy, sy, ku, cu, su) w' => (i ≤ 63 ∧ Sl EG ky (reS 128 (ze o1.1 ++ [(⟨3, o1.2.getD 63 0, 0⟩ : Gt)]) (wrW 128 (ze o1.1)) o1.2 i).1 cy sy ∧ Sl EI ku (reS 128 (ze o1.1 ++ [(⟨3, o1.2.getD 63 0, 0⟩ : Gt)]) (wrW 128 (ze o1.1)) o1.2 i).2 cu su) ∧ Hp No w w' [(ky, sob EG 85 ((reS 128 (ze o1.1 ++ [(⟨3, o1.2.getD 63 0, 0⟩ : Gt)]) (wrW 128 (ze o1.1)) o1.2 i).1) sy), (ku, sob EI 3 ((reS 128 (ze o1.1 ++ [(⟨3, o1.2.getD 63 0, 0⟩ : Gt)]) (wrW 128 (ze o1.1)) o1.2 i).2) su), (some b8, .cells #[i64 ((128 : Nat)), .slice (ownA ky) (List.length ((reS 128 (ze o1.1 ++ [(⟨3, o1.2.getD 63 0, 0⟩ : Gt)]) (wrW 128 (ze o1.1)) o1.2 i).1)) cy, .slice (ownA ku) i cu] 80 (0, 0)), (some b1, .cells #[i64 ((0 : Int)), .slice none 0 0, .slice none 0 0] 80 (0, 0)), (ko23, sob EI 3 o1.2 so25)]) (fun (i, ky, cy, sy, ku, cu, su) => 63 - i) ((0, key56, c57, sp58, none, 0, [])) ?_ ?_ ?_
  · exact ⟨rfl, rfl, rfl, rfl, rfl, rfl, trivial⟩
  · exact ⟨⟨by omega, hS59, Sl.none⟩, (H73.pick 5 [1, 0, 3, 4, 2] (by decide) (by decide))⟩
  rintro ⟨i, ky, cy, sy, ku, cu, su⟩ ρ w74 ⟨⟨hq, hSy, hSu⟩, HL⟩
  have hre := reS_len 128 (ze o1.1 ++ [(⟨3, o1.2.getD 63 0, 0⟩ : Gt)]) (wrW 128 (ze o1.1)) o1.2 i
  refine seqAny ?_
  refine seqRegion ?_
  refine sq (r_move (v := i64 ((i : Nat))) rfl) ?_
  refine sq (r_lssI (a := (i : Nat)) (b := (63 : Int)) rfl rfl) ?_
  refine wend ?_
  refine condProp (((i : Nat) : Int) < (63 : Int)) rfl (fun c58 => ?_) (fun c58 => ?_)
  · skip
    refine skipAny ?_
    refine thenNormal ?_
    refine seqAny ?_
    refine blockAny ?_
    refine seqRegion ?_
    refine sq (r_assign (v := i64 ((0 : Int))) rfl) ?_
    refine wend ?_
    refine seqAny ?_
    refine drawC (m := 12) [0, 0, 0, 0, 12, 28, 63, 127, 255, 255, 511, 2047] [6, 10] (fun q vs w' => match q, vs with | 0, [] => Hp No w w' [(ky, sob EG 85 ((reS 128 (ze o1.1 ++ [(⟨3, o1.2.getD 63 0, 0⟩ : Gt)]) (wrW 128 (ze o1.1)) o1.2 i).1) sy), (ku, sob EI 3 ((reS 128 (ze o1.1 ++ [(⟨3, o1.2.getD 63 0, 0⟩ : Gt)]) (wrW 128 (ze o1.1)) o1.2 i).2) su), (some b8, .cells #[i64 ((128 : Nat)), .slice (ownA ky) (List.length ((reS 128 (ze o1.1 ++ [(⟨3, o1.2.getD 63 0, 0⟩ : Gt)]) (wrW 128 (ze o1.1)) o1.2 i).1)) cy, .slice (ownA ku) i cu] 80 (0, 0)), (some b1, .cells #[i64 ((0 : Int)), .slice none 0 0, .slice none 0 0] 80 (0, 0)), (ko23, sob EI 3 o1.2 so25)] | 1, [v0] => ∃ (wx82 : Int) (key83 : Option Nat) (c84 : Nat) (sp85 : List Value), v0 = .tuple #[.agg #[i64 ((128 : Nat)), .slice (ownA key83) (List.length (((reS 128 (ze o1.1 ++ [(⟨3, o1.2.getD 63 0, 0⟩ : Gt)]) (wrW 128 (ze o1.1)) o1.2 i).1) ++ [(⟨(2 : Int), (wrW 128 (ze o1.1)), (o1.2).getD i 0⟩ : Gt)])) c84, .slice (ownA ku) i cu], i64 (wx82)] ∧ Sl EG key83 (((reS 128 (ze o1.1 ++ [(⟨3, o1.2.getD 63 0, 0⟩ : Gt)]) (wrW 128 (ze o1.1)) o1.2 i).1) ++ [(⟨(2 : Int), (wrW 128 (ze o1.1)), (o1.2).getD i 0⟩ : Gt)]) c84 sp85 ∧ wx82 = wrW 128 ((reS 128 (ze o1.1 ++ [(⟨3, o1.2.getD 63 0, 0⟩ : Gt)]) (wrW 128 (ze o1.1)) o1.2 i).1) ∧ Hp No w w' [(key83, sob EG 85 (((reS 128 (ze o1.1 ++ [(⟨3, o1.2.getD 63 0, 0⟩ : Gt)]) (wrW 128 (ze o1.1)) o1.2 i).1) ++ [(⟨(2 : Int), (wrW 128 (ze o1.1)), (o1.2).getD i 0⟩ : Gt)]) sp85), (ku, sob EI 3 ((reS 128 (ze o1.1 ++ [(⟨3, o1.2.getD 63 0, 0⟩ : Gt)]) (wrW 128 (ze o1.1)) o1.2 i).2) su), (some b8, .cells #[i64 ((128 : Nat)), .slice (ownA ky) (List.length ((reS 128 (ze o1.1 ++ [(⟨3, o1.2.getD 63 0, 0⟩ : Gt)]) (wrW 128 (ze o1.1)) o1.2 i).1)) cy, .slice (ownA ku) i cu] 80 (0, 0)), (some b1, .cells #[i64 ((0 : Int)), .slice none 0 0, .slice none 0 0] 80 (0, 0)), (ko23, sob EI 3 o1.2 so25)] | 2, [v0, _] => ∃ (wx82 : Int) (key83 : Option Nat) (c84 : Nat) (sp85 : List Value), v0 = .tuple #[.agg #[i64 ((128 : Nat)), .slice (ownA key83) (List.length (((reS 128 (ze o1.1 ++ [(⟨3, o1.2.getD 63 0, 0⟩ : Gt)]) (wrW 128 (ze o1.1)) o1.2 i).1) ++ [(⟨(2 : Int), (wrW 128 (ze o1.1)), (o1.2).getD i 0⟩ : Gt)])) c84, .slice (ownA ku) i cu], i64 (wx82)] ∧ True ∧ Sl EG key83 (((reS 128 (ze o1.1 ++ [(⟨3, o1.2.getD 63 0, 0⟩ : Gt)]) (wrW 128 (ze o1.1)) o1.2 i).1) ++ [(⟨(2 : Int), (wrW 128 (ze o1.1)), (o1.2).getD i 0⟩ : Gt)]) c84 sp85 ∧ wx82 = wrW 128 ((reS 128 (ze o1.1 ++ [(⟨3, o1.2.getD 63 0, 0⟩ : Gt)]) (wrW 128 (ze o1.1)) o1.2 i).1) ∧ Hp No w w' [(key83, sob EG 85 (((reS 128 (ze o1.1 ++ [(⟨3, o1.2.getD 63 0, 0⟩ : Gt)]) (wrW 128 (ze o1.1)) o1.2 i).1) ++ [(⟨(2 : Int), (wrW 128 (ze o1.1)), (o1.2).getD i 0⟩ : Gt)]) sp85), (ku, sob EI 3 ((reS 128 (ze o1.1 ++ [(⟨3, o1.2.getD 63 0, 0⟩ : Gt)]) (wrW 128 (ze o1.1)) o1.2 i).2) su), (some b8, .cells #[i64 ((128 : Nat)), .slice (ownA key83) (List.length (((reS 128 (ze o1.1 ++ [(⟨3, o1.2.getD 63 0, 0⟩ : Gt)]) (wrW 128 (ze o1.1)) o1.2 i).1) ++ [(⟨(2 : Int), (wrW 128 (ze o1.1)), (o1.2).getD i 0⟩ : Gt)])) c84, .slice (ownA ku) i cu] 80 (0, 0)), (some b1, .cells #[i64 ((0 : Int)), .slice none 0 0, .slice none 0 0] 80 (0, 0)), (ko23, sob EI 3 o1.2 so25)] | _, _ => False) mixed (by kernel_rfl) (by kernel_rfl) HL.drew ?_
    refine WalkC.look rfl (fun _ => .agg #[i64 ((128 : Nat)), .slice (ownA ky) (List.length ((reS 128 (ze o1.1 ++ [(⟨3, o1.2.getD 63 0, 0⟩ : Gt)]) (wrW 128 (ze o1.1)) o1.2 i).1)) cy, .slice (ownA ku) i cu]) (fun _ _ _ => rfl) (fun q r uw hlo hhi hle hF => ?_) ?_
    · skip
      have h1 : 0 ≤ q := Nat.zero_le _
      have h2 : q ≤ 0 := hhi 0 6 rfl rfl
      rcases (show q = 0 by omega) with rfl
      · skip
        have HH := hF
        exact Gives.run rfl (r_loadA (cs' := #[i64 ((128 : Nat)), .slice (ownA ky) (List.length ((reS 128 (ze o1.1 ++ [(⟨3, o1.2.getD 63 0, 0⟩ : Gt)]) (wrW 128 (ze o1.1)) o1.2 i).1)) cy, .slice (ownA ku) i cu]) agg80 siz80 (HH.get (k := 2) rfl) (off := 0) rfl (by exact Nat.le_of_ble_eq_true rfl) (by rfl)) ⟨rfl, rfl⟩
    refine WalkC.look rfl (fun _ => i64 ((wrW 128 (ze o1.1)))) (fun _ _ _ => rfl) (fun q r uw _ _ _ _ => Gives.run rfl (r_move (v := i64 ((wrW 128 (ze o1.1)))) rfl) ⟨rfl, rfl⟩) ?_
    refine WalkC.look rfl (fun _ => .slice (ownA ko23) 64 co24) (fun _ _ _ => rfl) (fun q r uw _ _ _ _ => Gives.run rfl (r_move (v := .slice (ownA ko23) 64 co24) rfl) ⟨rfl, rfl⟩) ?_
    refine WalkC.look rfl (fun _ => i64 ((i : Nat))) (fun _ _ _ => rfl) (fun q r uw _ _ _ _ => Gives.run rfl (r_move (v := i64 ((i : Nat))) rfl) ⟨rfl, rfl⟩) ?_
    refine WalkC.look rfl (fun _ => .pointer (adr (ownA ko23) (i * 1))) (fun _ _ _ => rfl) (fun q r uw hlo hhi hle hF => ?_) ?_
    · skip
      have h1 : 0 ≤ q := Nat.zero_le _
      have h2 : q ≤ 0 := hhi 0 6 rfl rfl
      rcases (show q = 0 by omega) with rfl
      · skip
        have HH := hF
        exact Gives.run rfl (r_idxS (E := EI) (l := o1.2) (j := i) sli60 (HH.rd (k := 4) rfl hO27) rfl rfl (by first | rfl | omega | (simp; omega)) (by exact hlo1.2.symm) (by omega)) ⟨rfl, rfl⟩
    refine WalkC.look rfl (fun _ => i64 ((o1.2).getD i 0)) (fun _ _ _ => rfl) (fun q r uw hlo hhi hle hF => ?_) ?_
    · skip
      have h1 : 0 ≤ q := Nat.zero_le _
      have h2 : q ≤ 0 := hhi 0 6 rfl rfl
      rcases (show q = 0 by omega) with rfl
      · skip
        have HH := hF
        exact Gives.run rfl (r_ldS (E := EI) (l := o1.2) (j := i) (v := (o1.2).getD i 0) fits3 (HH.rd (k := 4) rfl hO27) rfl rfl (at_getD (by omega))) ⟨rfl, rfl⟩
    refine WalkC.eff 0 rfl (fun r uw76 hF78 => ?_) ?_
    · skip
      have H77 := hF78
      dsimp only [List.take, List.map, List.cons_append, List.nil_append]
      refine Gives.ofW (d := 68) rfl rfl (fun Q' hK => ?_)
      have H79 := (H77).as (L' := ((ky, sob EG 85 ((reS 128 (ze o1.1 ++ [(⟨3, o1.2.getD 63 0, 0⟩ : Gt)]) (wrW 128 (ze o1.1)) o1.2 i).1) sy) :: ([(ku, sob EI 3 ((reS 128 (ze o1.1 ++ [(⟨3, o1.2.getD 63 0, 0⟩ : Gt)]) (wrW 128 (ze o1.1)) o1.2 i).2) su), (some b8, .cells #[i64 ((128 : Nat)), .slice (ownA ky) (List.length ((reS 128 (ze o1.1 ++ [(⟨3, o1.2.getD 63 0, 0⟩ : Gt)]) (wrW 128 (ze o1.1)) o1.2 i).1)) cy, .slice (ownA ku) i cu] 80 (0, 0)), (some b1, .cells #[i64 ((0 : Int)), .slice none 0 0, .slice none 0 0] 80 (0, 0)), (ko23, sob EI 3 o1.2 so25)]))) rfl
      refine c_call (vs := [.agg #[i64 ((128 : Nat)), .slice (ownA ky) (List.length ((reS 128 (ze o1.1 ++ [(⟨3, o1.2.getD 63 0, 0⟩ : Gt)]) (wrW 128 (ze o1.1)) o1.2 i).1)) cy, .slice (ownA ku) i cu], i64 ((2 : Int)), i64 ((wrW 128 (ze o1.1))), i64 ((o1.2).getD i 0)]) call80 rfl (rput_ok 128 ky cy sy ((reS 128 (ze o1.1 ++ [(⟨3, o1.2.getD 63 0, 0⟩ : Gt)]) (wrW 128 (ze o1.1)) o1.2 i).1) hSy (by omega) (by omega) (ownA ku) i cu (2 : Int) (wrW 128 (ze o1.1)) ((o1.2).getD i 0) ([(ku, sob EI 3 ((reS 128 (ze o1.1 ++ [(⟨3, o1.2.getD 63 0, 0⟩ : Gt)]) (wrW 128 (ze o1.1)) o1.2 i).2) su), (some b8, .cells #[i64 ((128 : Nat)), .slice (ownA ky) (List.length ((reS 128 (ze o1.1 ++ [(⟨3, o1.2.getD 63 0, 0⟩ : Gt)]) (wrW 128 (ze o1.1)) o1.2 i).1)) cy, .slice (ownA ku) i cu] 80 (0, 0)), (some b1, .cells #[i64 ((0 : Int)), .slice none 0 0, .slice none 0 0] 80 (0, 0)), (ko23, sob EI 3 o1.2 so25)]) w uw76 H79) ?_
      rintro _ w80 ⟨wx82, key83, c84, sp85, hwx82, rfl, hS86, HN87⟩
      have H88 := HN87.as (L' := [(key83, sob EG 85 (((reS 128 (ze o1.1 ++ [(⟨3, o1.2.getD 63 0, 0⟩ : Gt)]) (wrW 128 (ze o1.1)) o1.2 i).1) ++ [(⟨(2 : Int), (wrW 128 (ze o1.1)), (o1.2).getD i 0⟩ : Gt)]) sp85), (ku, sob EI 3 ((reS 128 (ze o1.1 ++ [(⟨3, o1.2.getD 63 0, 0⟩ : Gt)]) (wrW 128 (ze o1.1)) o1.2 i).2) su), (some b8, .cells #[i64 ((128 : Nat)), .slice (ownA ky) (List.length ((reS 128 (ze o1.1 ++ [(⟨3, o1.2.getD 63 0, 0⟩ : Gt)]) (wrW 128 (ze o1.1)) o1.2 i).1)) cy, .slice (ownA ku) i cu] 80 (0, 0)), (some b1, .cells #[i64 ((0 : Int)), .slice none 0 0, .slice none 0 0] 80 (0, 0)), (ko23, sob EI 3 o1.2 so25)]) rfl
      exact hK _ _ ⟨wx82, key83, c84, sp85, rfl, hS86, hwx82, H88⟩
    refine WalkC.look rfl (fun r => r 6) (fun r r' h => h 6 (by decide) rfl) (fun q r uw _ _ _ _ => Gives.run rfl (r_move rfl) ⟨rfl, rfl⟩) ?_
    refine WalkC.look rfl (fun r => proj (r 6) 0) (fun r r' h => by rw [h 6 (by decide) rfl]) (fun q r uw hlo hhi hle hF => ?_) ?_
    · skip
      have h1 : 1 ≤ q := hlo 0 6 rfl rfl
      have h2 : q ≤ 1 := hhi 1 10 rfl rfl
      rcases (show q = 1 by omega) with rfl
      · skip
        obtain ⟨wx82, key83, c84, sp85, e6, hS86, hwx82, HH⟩ := hF
        dsimp only
        rw [e6]
        exact Gives.run rfl (r_extract (vs := #[.agg #[i64 ((128 : Nat)), .slice (ownA key83) (List.length (((reS 128 (ze o1.1 ++ [(⟨3, o1.2.getD 63 0, 0⟩ : Gt)]) (wrW 128 (ze o1.1)) o1.2 i).1) ++ [(⟨(2 : Int), (wrW 128 (ze o1.1)), (o1.2).getD i 0⟩ : Gt)])) c84, .slice (ownA ku) i cu], i64 (wx82)]) rfl rfl) ⟨rfl, rfl⟩
    refine WalkC.look rfl (fun r => proj (r 6) 1) (fun r r' h => by rw [h 6 (by decide) rfl]) (fun q r uw hlo hhi hle hF => ?_) ?_
    · skip
      have h1 : 1 ≤ q := hlo 0 6 rfl rfl
      have h2 : q ≤ 2 := hle
      rcases (show q = 1 ∨ q = 2 by omega) with rfl | rfl
      · skip
        obtain ⟨wx82, key83, c84, sp85, e6, hS86, hwx82, HH⟩ := hF
        dsimp only
        rw [e6]
        exact Gives.run rfl (r_extract (vs := #[.agg #[i64 ((128 : Nat)), .slice (ownA key83) (List.length (((reS 128 (ze o1.1 ++ [(⟨3, o1.2.getD 63 0, 0⟩ : Gt)]) (wrW 128 (ze o1.1)) o1.2 i).1) ++ [(⟨(2 : Int), (wrW 128 (ze o1.1)), (o1.2).getD i 0⟩ : Gt)])) c84, .slice (ownA ku) i cu], i64 (wx82)]) rfl rfl) ⟨rfl, rfl⟩
      · skip
        obtain ⟨wx82, key83, c84, sp85, e6, e10, hS86, hwx82, HH⟩ := hF
        dsimp only
        rw [e6]
        exact Gives.run rfl (r_extract (vs := #[.agg #[i64 ((128 : Nat)), .slice (ownA key83) (List.length (((reS 128 (ze o1.1 ++ [(⟨3, o1.2.getD 63 0, 0⟩ : Gt)]) (wrW 128 (ze o1.1)) o1.2 i).1) ++ [(⟨(2 : Int), (wrW 128 (ze o1.1)), (o1.2).getD i 0⟩ : Gt)])) c84, .slice (ownA ku) i cu], i64 (wx82)]) rfl rfl) ⟨rfl, rfl⟩
    refine WalkC.eff 1 rfl (fun r uw89 hF91 => ?_) ?_
    · skip
      obtain ⟨wx82, key83, c84, sp85, e6, hS86, hwx82, H90⟩ := hF91
      dsimp only [List.take, List.map, List.cons_append, List.nil_append]
      rw [e6]
      refine Gives.ofW0 rfl (fun Q' hK => ?_)
      refine d_store (k := 2) (v := .agg #[i64 ((128 : Nat)), .slice (ownA key83) (List.length (((reS 128 (ze o1.1 ++ [(⟨3, o1.2.getD 63 0, 0⟩ : Gt)]) (wrW 128 (ze o1.1)) o1.2 i).1) ++ [(⟨(2 : Int), (wrW 128 (ze o1.1)), (o1.2).getD i 0⟩ : Gt)])) c84, .slice (ownA ku) i cu]) (cs' := #[i64 ((128 : Nat)), .slice (ownA key83) (List.length (((reS 128 (ze o1.1 ++ [(⟨3, o1.2.getD 63 0, 0⟩ : Gt)]) (wrW 128 (ze o1.1)) o1.2 i).1) ++ [(⟨(2 : Int), (wrW 128 (ze o1.1)), (o1.2).getD i 0⟩ : Gt)])) c84, .slice (ownA ku) i cu]) H90 rfl rfl rfl siz80 (by rfl) (by intro u hu; simp [Value.cells] at hu; first | (subst hu; rfl) | (rcases hu with rfl | rfl | rfl <;> rfl)) (by exact Nat.le_of_ble_eq_true rfl) (by rfl) ?_
      intro w92 H93 hC94
      have H93' := H93.as (L' := [(key83, sob EG 85 (((reS 128 (ze o1.1 ++ [(⟨3, o1.2.getD 63 0, 0⟩ : Gt)]) (wrW 128 (ze o1.1)) o1.2 i).1) ++ [(⟨(2 : Int), (wrW 128 (ze o1.1)), (o1.2).getD i 0⟩ : Gt)]) sp85), (ku, sob EI 3 ((reS 128 (ze o1.1 ++ [(⟨3, o1.2.getD 63 0, 0⟩ : Gt)]) (wrW 128 (ze o1.1)) o1.2 i).2) su), (some b8, .cells #[i64 ((128 : Nat)), .slice (ownA key83) (List.length (((reS 128 (ze o1.1 ++ [(⟨3, o1.2.getD 63 0, 0⟩ : Gt)]) (wrW 128 (ze o1.1)) o1.2 i).1) ++ [(⟨(2 : Int), (wrW 128 (ze o1.1)), (o1.2).getD i 0⟩ : Gt)])) c84, .slice (ownA ku) i cu] 80 (0, 0)), (some b1, .cells #[i64 ((0 : Int)), .slice none 0 0, .slice none 0 0] 80 (0, 0)), (ko23, sob EI 3 o1.2 so25)]) rfl
      clear H93
      exact hK _ (fun _ => ⟨wx82, key83, c84, sp85, rfl, trivial, hS86, hwx82, H93'⟩)
    refine WalkC.look rfl (fun r => proj (r 6) 1) (fun r r' h => by rw [h 6 (by decide) rfl]) (fun q r uw _ _ _ _ => Gives.run rfl (r_assign rfl) ⟨rfl, rfl⟩) ?_
    refine WalkC.nil ?_
    intro r95 w96 hF98
    obtain ⟨wx82, key83, c84, sp85, e6, e10, hS86, hwx82, H97⟩ := hF98
    dsimp only
    rw [e6]
    subst hwx82
    refine wnil ?_
    refine thenNormal ?_
    refine oneRegion ?_
    refine sq (r_fieldAddr (off' := 2) fld80_2 (by decide) (b := b8) (off := 0) rfl (by omega)) ?_
    refine sq (r_loadC (v := .slice (ownA ku) i cu) one60 (H97.get (k := 2) rfl) (off := 2) rfl (by rfl)) ?_
    refine sq (r_move (v := i64 ((wrW 128 ((reS 128 (ze o1.1 ++ [(⟨3, o1.2.getD 63 0, 0⟩ : Gt)]) (wrW 128 (ze o1.1)) o1.2 i).1)))) rfl) ?_
    refine q_buildSlice (E := EI) (l := [(wrW 128 ((reS 128 (ze o1.1 ++ [(⟨3, o1.2.getD 63 0, 0⟩ : Gt)]) (wrW 128 (ze o1.1)) o1.2 i).1))]) H97 sli60 zer3 (Nat.le_of_ble_eq_true rfl) (ps := [(0, i64 ((wrW 128 ((reS 128 (ze o1.1 ++ [(⟨3, o1.2.getD 63 0, 0⟩ : Gt)]) (wrW 128 (ze o1.1)) o1.2 i).1))))]) rfl (by exact fillAll rfl rfl) rfl ?_
    intro b99 w101 hS100 H102 hE103
    refine q_append (E := EI) (k := 2) (l := (reS 128 (ze o1.1 ++ [(⟨3, o1.2.getD 63 0, 0⟩ : Gt)]) (wrW 128 (ze o1.1)) o1.2 i).2) (l2 := [(wrW 128 ((reS 128 (ze o1.1 ++ [(⟨3, o1.2.getD 63 0, 0⟩ : Gt)]) (wrW 128 (ze o1.1)) o1.2 i).1))]) H102 rfl hSu sli60 zer3 rfl byt3 (H102.rd (k := 0) rfl hS100) rfl (by exact hre.2.symm) rfl (by rfl) (by omega) ?_
    intro key104 c105 sp106 w108 hS107 hne110 H109
    have H109' := H109.as (L' := [((some b99), sob EI 3 ([(wrW 128 ((reS 128 (ze o1.1 ++ [(⟨3, o1.2.getD 63 0, 0⟩ : Gt)]) (wrW 128 (ze o1.1)) o1.2 i).1))]) ([])), (key83, sob EG 85 (((reS 128 (ze o1.1 ++ [(⟨3, o1.2.getD 63 0, 0⟩ : Gt)]) (wrW 128 (ze o1.1)) o1.2 i).1) ++ [(⟨(2 : Int), (wrW 128 (ze o1.1)), (o1.2).getD i 0⟩ : Gt)]) sp85), (key104, sob EI 3 (((reS 128 (ze o1.1 ++ [(⟨3, o1.2.getD 63 0, 0⟩ : Gt)]) (wrW 128 (ze o1.1)) o1.2 i).2) ++ ([(wrW 128 ((reS 128 (ze o1.1 ++ [(⟨3, o1.2.getD 63 0, 0⟩ : Gt)]) (wrW 128 (ze o1.1)) o1.2 i).1))])) sp106), (some b8, .cells #[i64 ((128 : Nat)), .slice (ownA key83) (List.length (((reS 128 (ze o1.1 ++ [(⟨3, o1.2.getD 63 0, 0⟩ : Gt)]) (wrW 128 (ze o1.1)) o1.2 i).1) ++ [(⟨(2 : Int), (wrW 128 (ze o1.1)), (o1.2).getD i 0⟩ : Gt)])) c84, .slice (ownA ku) i cu] 80 (0, 0)), (some b1, .cells #[i64 ((0 : Int)), .slice none 0 0, .slice none 0 0] 80 (0, 0)), (ko23, sob EI 3 o1.2 so25)]) rfl
    clear H109
    refine sq (r_fieldAddr (off' := 2) fld80_2 (by decide) (b := b8) (off := 0) rfl (by omega)) ?_
    refine d_store (k := 3) (v := .slice (ownA key104) (i + 1) c105) (cs' := #[i64 ((128 : Nat)), .slice (ownA key83) (List.length (((reS 128 (ze o1.1 ++ [(⟨3, o1.2.getD 63 0, 0⟩ : Gt)]) (wrW 128 (ze o1.1)) o1.2 i).1) ++ [(⟨(2 : Int), (wrW 128 (ze o1.1)), (o1.2).getD i 0⟩ : Gt)])) c84, .slice (ownA key104) (i + 1) c105]) H109' rfl rfl rfl siz60 (by rfl) (by intro u hu; simp [Value.cells] at hu; first | (subst hu; rfl) | (rcases hu with rfl <;> rfl)) (by exact Nat.le_of_ble_eq_true rfl) (by rfl) ?_
    intro w111 H112 hC113
    have H112' := H112.as (L' := [((some b99), sob EI 3 ([(wrW 128 ((reS 128 (ze o1.1 ++ [(⟨3, o1.2.getD 63 0, 0⟩ : Gt)]) (wrW 128 (ze o1.1)) o1.2 i).1))]) ([])), (key83, sob EG 85 (((reS 128 (ze o1.1 ++ [(⟨3, o1.2.getD 63 0, 0⟩ : Gt)]) (wrW 128 (ze o1.1)) o1.2 i).1) ++ [(⟨(2 : Int), (wrW 128 (ze o1.1)), (o1.2).getD i 0⟩ : Gt)]) sp85), (key104, sob EI 3 (((reS 128 (ze o1.1 ++ [(⟨3, o1.2.getD 63 0, 0⟩ : Gt)]) (wrW 128 (ze o1.1)) o1.2 i).2) ++ ([(wrW 128 ((reS 128 (ze o1.1 ++ [(⟨3, o1.2.getD 63 0, 0⟩ : Gt)]) (wrW 128 (ze o1.1)) o1.2 i).1))])) sp106), (some b8, .cells #[i64 ((128 : Nat)), .slice (ownA key83) (List.length (((reS 128 (ze o1.1 ++ [(⟨3, o1.2.getD 63 0, 0⟩ : Gt)]) (wrW 128 (ze o1.1)) o1.2 i).1) ++ [(⟨(2 : Int), (wrW 128 (ze o1.1)), (o1.2).getD i 0⟩ : Gt)])) c84, .slice (ownA key104) (i + 1) c105] 80 (0, 0)), (some b1, .cells #[i64 ((0 : Int)), .slice none 0 0, .slice none 0 0] 80 (0, 0)), (ko23, sob EI 3 o1.2 so25)]) rfl
    clear H112
    refine wnil ?_
    refine blockNormal ?_
    refine thenNormal ?_
    refine oneRegion ?_
    refine sq (r_move (v := i64 ((i : Nat))) rfl) ?_
    refine sq (r_addI (a := (i : Nat)) (b := (1 : Int)) rfl rfl (by omega)) ?_
    refine sq (r_assign (v := i64 ((i : Nat) + (1 : Int))) rfl) ?_
    refine wnil ?_
    refine thenNormal ?_
    have e114 : ((reS 128 (ze o1.1 ++ [(⟨3, o1.2.getD 63 0, 0⟩ : Gt)]) (wrW 128 (ze o1.1)) o1.2 i).1) ++ [(⟨(2 : Int), (wrW 128 (ze o1.1)), (o1.2).getD i 0⟩ : Gt)] = (reS 128 (ze o1.1 ++ [(⟨3, o1.2.getD 63 0, 0⟩ : Gt)]) (wrW 128 (ze o1.1)) o1.2 (i + 1)).1 := by rfl
    have hS115 := hS86
    rw [e114] at hS115
    have H116 : Hp No w w111 [((some b99), sob EI 3 ([(wrW 128 ((reS 128 (ze o1.1 ++ [(⟨3, o1.2.getD 63 0, 0⟩ : Gt)]) (wrW 128 (ze o1.1)) o1.2 i).1))]) ([])), (key83, sob EG 85 ((reS 128 (ze o1.1 ++ [(⟨3, o1.2.getD 63 0, 0⟩ : Gt)]) (wrW 128 (ze o1.1)) o1.2 (i + 1)).1) sp85), (key104, sob EI 3 (((reS 128 (ze o1.1 ++ [(⟨3, o1.2.getD 63 0, 0⟩ : Gt)]) (wrW 128 (ze o1.1)) o1.2 i).2) ++ ([(wrW 128 ((reS 128 (ze o1.1 ++ [(⟨3, o1.2.getD 63 0, 0⟩ : Gt)]) (wrW 128 (ze o1.1)) o1.2 i).1))])) sp106), (some b8, .cells #[i64 ((128 : Nat)), .slice (ownA key83) (List.length ((reS 128 (ze o1.1 ++ [(⟨3, o1.2.getD 63 0, 0⟩ : Gt)]) (wrW 128 (ze o1.1)) o1.2 (i + 1)).1)) c84, .slice (ownA key104) (i + 1) c105] 80 (0, 0)), (some b1, .cells #[i64 ((0 : Int)), .slice none 0 0, .slice none 0 0] 80 (0, 0)), (ko23, sob EI 3 o1.2 so25)] := by rw [← e114]; exact H112'
    have e117 : ((reS 128 (ze o1.1 ++ [(⟨3, o1.2.getD 63 0, 0⟩ : Gt)]) (wrW 128 (ze o1.1)) o1.2 i).2) ++ ([(wrW 128 ((reS 128 (ze o1.1 ++ [(⟨3, o1.2.getD 63 0, 0⟩ : Gt)]) (wrW 128 (ze o1.1)) o1.2 i).1))]) = (reS 128 (ze o1.1 ++ [(⟨3, o1.2.getD 63 0, 0⟩ : Gt)]) (wrW 128 (ze o1.1)) o1.2 (i + 1)).2 := by rfl
    have hS118 := hS107
    rw [e117] at hS118
    have H119 := H116.as (L' := [((some b99), sob EI 3 ([(wrW 128 ((reS 128 (ze o1.1 ++ [(⟨3, o1.2.getD 63 0, 0⟩ : Gt)]) (wrW 128 (ze o1.1)) o1.2 i).1))]) ([])), (key83, sob EG 85 ((reS 128 (ze o1.1 ++ [(⟨3, o1.2.getD 63 0, 0⟩ : Gt)]) (wrW 128 (ze o1.1)) o1.2 (i + 1)).1) sp85), (key104, sob EI 3 ((reS 128 (ze o1.1 ++ [(⟨3, o1.2.getD 63 0, 0⟩ : Gt)]) (wrW 128 (ze o1.1)) o1.2 (i + 1)).2) sp106), (some b8, .cells #[i64 ((128 : Nat)), .slice (ownA key83) (List.length ((reS 128 (ze o1.1 ++ [(⟨3, o1.2.getD 63 0, 0⟩ : Gt)]) (wrW 128 (ze o1.1)) o1.2 (i + 1)).1)) c84, .slice (ownA key104) (i + 1) c105] 80 (0, 0)), (some b1, .cells #[i64 ((0 : Int)), .slice none 0 0, .slice none 0 0] 80 (0, 0)), (ko23, sob EI 3 o1.2 so25)]) (by rw [e117])
    exact ⟨(i + 1, key83, c84, sp85, key104, c105, sp106), _, rfl, ⟨rfl, rfl, rfl, rfl, rfl, rfl, trivial⟩, ⟨⟨by omega, hS115, hS118⟩, (H119.dropk 0)⟩, by show 63 - (i + 1) < 63 - i; omega⟩
  · skip
    have hj : i = 63 := by omega
    refine exitAny ?_
    refine thenExit ?_
    refine thenExit ?_
    refine blockHere ?_
    refine thenNormal ?_
    refine seqRegion ?_
    refine sq (r_fieldAddr (off' := 2) fld80_2 (by decide) (b := b8) (off := 0) rfl (by omega)) ?_
    refine sq (r_loadC (v := .slice (ownA ku) i cu) one60 (HL.get (k := 2) rfl) (off := 2) rfl (by rfl)) ?_
    refine sq (r_move (v := i64 ((wrW 128 o1.1))) rfl) ?_
    refine q_buildSlice (E := EI) (l := [(wrW 128 o1.1)]) HL sli60 zer3 (Nat.le_of_ble_eq_true rfl) (ps := [(0, i64 ((wrW 128 o1.1)))]) rfl (by exact fillAll rfl rfl) rfl ?_
    intro b120 w122 hS121 H123 hE124
    refine q_append (E := EI) (k := 2) (l := (reS 128 (ze o1.1 ++ [(⟨3, o1.2.getD 63 0, 0⟩ : Gt)]) (wrW 128 (ze o1.1)) o1.2 i).2) (l2 := [(wrW 128 o1.1)]) H123 rfl hSu sli60 zer3 rfl byt3 (H123.rd (k := 0) rfl hS121) rfl (by exact hre.2.symm) rfl (by rfl) (by omega) ?_
    intro key125 c126 sp127 w129 hS128 hne131 H130
    have H130' := H130.as (L' := [((some b120), sob EI 3 ([(wrW 128 o1.1)]) ([])), (ky, sob EG 85 ((reS 128 (ze o1.1 ++ [(⟨3, o1.2.getD 63 0, 0⟩ : Gt)]) (wrW 128 (ze o1.1)) o1.2 i).1) sy), (key125, sob EI 3 (((reS 128 (ze o1.1 ++ [(⟨3, o1.2.getD 63 0, 0⟩ : Gt)]) (wrW 128 (ze o1.1)) o1.2 i).2) ++ ([(wrW 128 o1.1)])) sp127), (some b8, .cells #[i64 ((128 : Nat)), .slice (ownA ky) (List.length ((reS 128 (ze o1.1 ++ [(⟨3, o1.2.getD 63 0, 0⟩ : Gt)]) (wrW 128 (ze o1.1)) o1.2 i).1)) cy, .slice (ownA ku) i cu] 80 (0, 0)), (some b1, .cells #[i64 ((0 : Int)), .slice none 0 0, .slice none 0 0] 80 (0, 0)), (ko23, sob EI 3 o1.2 so25)]) rfl
    clear H130
    refine sq (r_fieldAddr (off' := 2) fld80_2 (by decide) (b := b8) (off := 0) rfl (by omega)) ?_
    refine d_store (k := 3) (v := .slice (ownA key125) (i + 1) c126) (cs' := #[i64 ((128 : Nat)), .slice (ownA ky) (List.length ((reS 128 (ze o1.1 ++ [(⟨3, o1.2.getD 63 0, 0⟩ : Gt)]) (wrW 128 (ze o1.1)) o1.2 i).1)) cy, .slice (ownA key125) (i + 1) c126]) H130' rfl rfl rfl siz60 (by rfl) (by intro u hu; simp [Value.cells] at hu; first | (subst hu; rfl) | (rcases hu with rfl <;> rfl)) (by exact Nat.le_of_ble_eq_true rfl) (by rfl) ?_
    intro w132 H133 hC134
    have H133' := H133.as (L' := [((some b120), sob EI 3 ([(wrW 128 o1.1)]) ([])), (ky, sob EG 85 ((reS 128 (ze o1.1 ++ [(⟨3, o1.2.getD 63 0, 0⟩ : Gt)]) (wrW 128 (ze o1.1)) o1.2 i).1) sy), (key125, sob EI 3 (((reS 128 (ze o1.1 ++ [(⟨3, o1.2.getD 63 0, 0⟩ : Gt)]) (wrW 128 (ze o1.1)) o1.2 i).2) ++ ([(wrW 128 o1.1)])) sp127), (some b8, .cells #[i64 ((128 : Nat)), .slice (ownA ky) (List.length ((reS 128 (ze o1.1 ++ [(⟨3, o1.2.getD 63 0, 0⟩ : Gt)]) (wrW 128 (ze o1.1)) o1.2 i).1)) cy, .slice (ownA key125) (i + 1) c126] 80 (0, 0)), (some b1, .cells #[i64 ((0 : Int)), .slice none 0 0, .slice none 0 0] 80 (0, 0)), (ko23, sob EI 3 o1.2 so25)]) rfl
    clear H133
    refine wend ?_
    refine seqRegion ?_
    refine sq (r_loadA (cs' := #[i64 ((128 : Nat)), .slice (ownA ky) (List.length ((reS 128 (ze o1.1 ++ [(⟨3, o1.2.getD 63 0, 0⟩ : Gt)]) (wrW 128 (ze o1.1)) o1.2 i).1)) cy, .slice (ownA key125) (i + 1) c126]) agg80 siz80 (H133'.get (k := 3) rfl) (off := 0) rfl (by exact Nat.le_of_ble_eq_true rfl) (by rfl)) ?_
    refine d_store (k := 4) (v := .agg #[i64 ((128 : Nat)), .slice (ownA ky) (List.length ((reS 128 (ze o1.1 ++ [(⟨3, o1.2.getD 63 0, 0⟩ : Gt)]) (wrW 128 (ze o1.1)) o1.2 i).1)) cy, .slice (ownA key125) (i + 1) c126]) (cs' := #[i64 ((128 : Nat)), .slice (ownA ky) (List.length ((reS 128 (ze o1.1 ++ [(⟨3, o1.2.getD 63 0, 0⟩ : Gt)]) (wrW 128 (ze o1.1)) o1.2 i).1)) cy, .slice (ownA key125) (i + 1) c126]) H133' rfl rfl rfl siz80 (by rfl) (by intro u hu; simp [Value.cells] at hu; first | (subst hu; rfl) | (rcases hu with rfl | rfl | rfl <;> rfl)) (by exact Nat.le_of_ble_eq_true rfl) (by rfl) ?_
    intro w135 H136 hC137
    have H136' := H136.as (L' := [((some b120), sob EI 3 ([(wrW 128 o1.1)]) ([])), (ky, sob EG 85 ((reS 128 (ze o1.1 ++ [(⟨3, o1.2.getD 63 0, 0⟩ : Gt)]) (wrW 128 (ze o1.1)) o1.2 i).1) sy), (key125, sob EI 3 (((reS 128 (ze o1.1 ++ [(⟨3, o1.2.getD 63 0, 0⟩ : Gt)]) (wrW 128 (ze o1.1)) o1.2 i).2) ++ ([(wrW 128 o1.1)])) sp127), (some b8, .cells #[i64 ((128 : Nat)), .slice (ownA ky) (List.length ((reS 128 (ze o1.1 ++ [(⟨3, o1.2.getD 63 0, 0⟩ : Gt)]) (wrW 128 (ze o1.1)) o1.2 i).1)) cy, .slice (ownA key125) (i + 1) c126] 80 (0, 0)), (some b1, .cells #[i64 ((128 : Nat)), .slice (ownA ky) (List.length ((reS 128 (ze o1.1 ++ [(⟨3, o1.2.getD 63 0, 0⟩ : Gt)]) (wrW 128 (ze o1.1)) o1.2 i).1)) cy, .slice (ownA key125) (i + 1) c126] 80 (0, 0)), (ko23, sob EI 3 o1.2 so25)]) rfl
    clear H136
    refine wend ?_
    refine retAny ?_
    refine thenRet ?_
    refine retG (rs := [.cell 4 80]) (vs := [.agg #[i64 ((128 : Nat)), .slice (ownA ky) (List.length ((reS 128 (ze o1.1 ++ [(⟨3, o1.2.getD 63 0, 0⟩ : Gt)]) (wrW 128 (ze o1.1)) o1.2 i).1)) cy, .slice (ownA key125) (i + 1) c126]]) rfl ⟨r_loadA (cs' := #[i64 ((128 : Nat)), .slice (ownA ky) (List.length ((reS 128 (ze o1.1 ++ [(⟨3, o1.2.getD 63 0, 0⟩ : Gt)]) (wrW 128 (ze o1.1)) o1.2 i).1)) cy, .slice (ownA key125) (i + 1) c126]) agg80 siz80 (H136'.get (k := 4) rfl) (off := 0) rfl (by exact Nat.le_of_ble_eq_true rfl) (by rfl), trivial⟩ ?_
    subst hj
    rw [show (mk1 (fbS fm 0)) = _ from mk1_eq _, ← ho1]
    exact ⟨_, rfl, ky, cy, sy, key125, c126, sp127, rfl, hSy, hS128, ((((H136'.dropk 5).dropk 4).dropk 3).dropk 0)⟩
end Go.Proofs.YteofdmdpaejgaaaDoor.Cm
namespace Go.Proofs.YteofdmdpaejgaaaDoor.Cm
open Go Go.Proofs.YteofdmdpaejgaaaDoor.Vc Go.Proofs.YteofdmdpaejgaaaDoor.Er Go.Proofs.YteofdmdpaejgaaaDoor.Circ
set_option linter.unusedVariables false
theorem call81 : callable Tryd.prog 81 = true := by kernel_rfl
set_option maxHeartbeats 2000000 in
theorem rmake_k2 (fm : BitVec 64) (hf : fm < 4#64) (w : World) : Calls Tryd.prog 34 [i64 (2 : Int), u64 fm].toArray w (Ret fun v w' => ∃ (key : Option Nat) (c : Nat) (sp : List Value) (ko : Option Nat) (co : Nat) (so : List Value), v = .agg #[i64 ((256 : Nat) : Int), .slice (ownA key) (mk2 (fbS fm 0) (fbS fm 1)).1.length c, .slice (ownA ko) 64 co] ∧ Sl EG key (mk2 (fbS fm 0) (fbS fm 1)).1 c sp ∧ Sl EI ko (mk2 (fbS fm 0) (fbS fm 1)).2 co so ∧ Hp No w w' [(key, sob EG 85 (mk2 (fbS fm 0) (fbS fm 1)).1 sp), (ko, sob EI 3 (mk2 (fbS fm 0) (fbS fm 1)).2 so)]) := by
  have H := Hp.start No w
  refine enter (n := 151) Tryd.func34 rfl rfl (Nat.le_of_ble_eq_true rfl) ?_
  refine seqRegion ?_
  refine q_alloc (o := .cells #[i64 ((0 : Int)), .slice none 0 0, .slice none 0 0] 80 (0, 0)) H zer80 (by kernel_rfl) ?_
  intro b1 w2 hb1 H3 hE4
  refine wend ?_
  refine seqRegion ?_
  refine sq (r_move (v := i64 ((2 : Int))) rfl) ?_
  refine sq (r_move (v := u64 (fm)) rfl) ?_
  refine c_call (vs := [i64 ((2 : Int)), u64 (fm)]) call30 rfl ((by have h := rnop_ok (2 : Int) fm w2; rw [nop_two fm hf] at h; exact h)) ?_
  rintro _ w5 ⟨rfl, hE6⟩
  have H7 := H3.ext hE6
  refine sq (r_assign (v := i64 ((2 : Nat))) rfl) ?_
  refine wend ?_
  refine seqRegion ?_
  refine sq (r_move (v := i64 ((2 : Nat))) rfl) ?_
  refine sq ((r_mulI (a := (128 : Int)) (b := (2 : Nat)) rfl rfl (by omega)).as (v' := i64 ((256 : Nat))) (by rfl)) ?_
  refine sq (r_build (cs' := #[i64 ((256 : Nat)), .slice none 0 0, .slice none 0 0]) (ps := [(0, i64 ((256 : Nat)))]) zer80 pls80 rfl (by rfl)) ?_
  refine q_alloc (o := .cells #[i64 ((0 : Int)), .slice none 0 0, .slice none 0 0] 80 (0, 0)) H7 zer80 (by kernel_rfl) ?_
  intro b8 w9 hb8 H10 hE11
  refine d_store (k := 0) (v := .agg #[i64 ((256 : Nat)), .slice none 0 0, .slice none 0 0]) (cs' := #[i64 ((256 : Nat)), .slice none 0 0, .slice none 0 0]) H10 rfl rfl rfl siz80 (by rfl) (by intro u hu; simp [Value.cells] at hu; first | (subst hu; rfl) | (rcases hu with rfl | rfl | rfl <;> rfl)) (by exact Nat.le_of_ble_eq_true rfl) (by rfl) ?_
  intro w12 H13 hC14
  have H13' := H13.as (L' := [(some b8, .cells #[i64 ((256 : Nat)), .slice none 0 0, .slice none 0 0] 80 (0, 0)), (some b1, .cells #[i64 ((0 : Int)), .slice none 0 0, .slice none 0 0] 80 (0, 0))]) rfl
  clear H13
  have H15 := H13'.nil (sob EG 85 [] [])
  have H16 := H15.as (L' := [(none, sob EG 85 ([] : List Gt) ([])), (some b8, .cells #[i64 ((256 : Nat)), .slice (ownA none) (List.length ([] : List Gt)) 0, .slice none 0 0] 80 (0, 0)), (some b1, .cells #[i64 ((0 : Int)), .slice none 0 0, .slice none 0 0] 80 (0, 0))]) rfl
  refine wend ?_
  refine seqRegion ?_
  refine sq (r_assign (v := .slice none 0 0) rfl) ?_
  refine sq (r_assign (v := .slice none 0 0) rfl) ?_
  refine wend ?_
  refine seqRegion ?_
  refine sq (r_loadA (cs' := #[i64 ((256 : Nat)), .slice (ownA none) (List.length ([] : List Gt)) 0, .slice none 0 0]) agg80 siz80 (H16.get (k := 1) rfl) (off := 0) rfl (by exact Nat.le_of_ble_eq_true rfl) (by rfl)) ?_
  refine sq (r_move (v := u64 (fm)) rfl) ?_
  refine sq (r_rem64 (a := fm) (b := 2#64) rfl rfl (by decide)) ?_
  refine sq ((r_eql64 (a := fm % (2#64)) (b := 1#64) rfl rfl).as (v' := .bool (fbS fm 0)) (by exact congrArg Value.bool (fb_rem0 fm))) ?_
  have H17 := (H16).as (L' := ((none, sob EG 85 ([] : List Gt) ([])) :: ([(some b8, .cells #[i64 ((256 : Nat)), .slice (ownA none) (List.length ([] : List Gt)) 0, .slice none 0 0] 80 (0, 0)), (some b1, .cells #[i64 ((0 : Int)), .slice none 0 0, .slice none 0 0] 80 (0, 0))]))) rfl
  refine c_call (vs := [.agg #[i64 ((256 : Nat)), .slice (ownA none) (List.length ([] : List Gt)) 0, .slice none 0 0], i64 ((0 : Int)), i64 ((64 : Int)), .bool (fbS fm 0)]) call79 rfl (rop_ok 256 none 0 ([]) ([] : List Gt) Sl.none (by omega) (by exact Nat.zero_le _) none 0 0 0 64 (by omega) (by omega) (fbS fm 0) ([(some b8, .cells #[i64 ((256 : Nat)), .slice (ownA none) (List.length ([] : List Gt)) 0, .slice none 0 0] 80 (0, 0)), (some b1, .cells #[i64 ((0 : Int)), .slice none 0 0, .slice none 0 0] 80 (0, 0))]) w w12 H17) ?_
  rintro _ w18 ⟨key20, c21, sp22, ko23, co24, so25, rfl, hS26, hO27, HN28⟩
  obtain ⟨o1, ho1⟩ : ∃ q, q = opS 256 ([] : List Gt) 0 64 (fbS fm 0) := ⟨_, rfl⟩
  rw [← ho1] at hS26 hO27 HN28 ⊢
  have hlo1 := opS_len 256 ([] : List Gt) 0 64 (fbS fm 0)
  rw [← ho1] at hlo1
  have H29 := HN28.as (L' := [(key20, sob EG 85 o1.1 sp22), (ko23, sob EI 3 o1.2 so25), (some b8, .cells #[i64 ((256 : Nat)), .slice (ownA none) (List.length ([] : List Gt)) 0, .slice none 0 0] 80 (0, 0)), (some b1, .cells #[i64 ((0 : Int)), .slice none 0 0, .slice none 0 0] 80 (0, 0))]) rfl
  refine sq (r_move (v := .tuple #[.agg #[i64 ((256 : Nat)), .slice (ownA key20) (List.length o1.1) c21, .slice none 0 0], .slice (ownA ko23) 64 co24]) rfl) ?_
  refine sq (r_extract (vs := #[.agg #[i64 ((256 : Nat)), .slice (ownA key20) (List.length o1.1) c21, .slice none 0 0], .slice (ownA ko23) 64 co24]) rfl rfl) ?_
  refine sq (r_extract (vs := #[.agg #[i64 ((256 : Nat)), .slice (ownA key20) (List.length o1.1) c21, .slice none 0 0], .slice (ownA ko23) 64 co24]) rfl rfl) ?_
  refine d_store (k := 2) (v := .agg #[i64 ((256 : Nat)), .slice (ownA key20) (List.length o1.1) c21, .slice none 0 0]) (cs' := #[i64 ((256 : Nat)), .slice (ownA key20) (List.length o1.1) c21, .slice none 0 0]) H29 rfl rfl rfl siz80 (by rfl) (by intro u hu; simp [Value.cells] at hu; first | (subst hu; rfl) | (rcases hu with rfl | rfl | rfl <;> rfl)) (by exact Nat.le_of_ble_eq_true rfl) (by rfl) ?_
  intro w30 H31 hC32
  have H31' := H31.as (L' := [(key20, sob EG 85 o1.1 sp22), (ko23, sob EI 3 o1.2 so25), (some b8, .cells #[i64 ((256 : Nat)), .slice (ownA key20) (List.length o1.1) c21, .slice none 0 0] 80 (0, 0)), (some b1, .cells #[i64 ((0 : Int)), .slice none 0 0, .slice none 0 0] 80 (0, 0))]) rfl
  clear H31
  refine sq (r_assign (v := .slice (ownA ko23) 64 co24) rfl) ?_
  simp only [List.length_nil] at hlo1
  refine wend ?_
  refine seqAny ?_
  refine seqRegion ?_
  refine sq (r_move (v := i64 ((2 : Nat))) rfl) ?_
  refine sq ((r_eqlI (a := (2 : Nat)) (b := (2 : Int)) rfl rfl).as (v' := .bool (true)) (by rfl)) ?_
  refine wend ?_
  refine condTrue rfl ?_
  refine oneRegion ?_
  refine sq (r_loadA (cs' := #[i64 ((256 : Nat)), .slice (ownA key20) (List.length o1.1) c21, .slice none 0 0]) agg80 siz80 (H31'.get (k := 2) rfl) (off := 0) rfl (by exact Nat.le_of_ble_eq_true rfl) (by rfl)) ?_
  refine sq (r_move (v := u64 (fm)) rfl) ?_
  refine sq (r_quo64 (a := fm) (b := 2#64) rfl rfl (by decide)) ?_
  refine sq (r_rem64 (a := fm / (2#64)) (b := 2#64) rfl rfl (by decide)) ?_
  refine sq ((r_eql64 (a := (fm / (2#64)) % (2#64)) (b := 1#64) rfl rfl).as (v' := .bool (fbS fm 1)) (by exact congrArg Value.bool (fb_rem1 fm))) ?_
  have H33 := (H31').as (L' := ((key20, sob EG 85 o1.1 sp22) :: ([(ko23, sob EI 3 o1.2 so25), (some b8, .cells #[i64 ((256 : Nat)), .slice (ownA key20) (List.length o1.1) c21, .slice none 0 0] 80 (0, 0)), (some b1, .cells #[i64 ((0 : Int)), .slice none 0 0, .slice none 0 0] 80 (0, 0))]))) rfl
  refine c_call (vs := [.agg #[i64 ((256 : Nat)), .slice (ownA key20) (List.length o1.1) c21, .slice none 0 0], i64 ((128 : Int)), i64 ((192 : Int)), .bool (fbS fm 1)]) call79 rfl (rop_ok 256 key20 c21 sp22 o1.1 hS26 (by omega) (by omega) none 0 0 128 192 (by omega) (by omega) (fbS fm 1) ([(ko23, sob EI 3 o1.2 so25), (some b8, .cells #[i64 ((256 : Nat)), .slice (ownA key20) (List.length o1.1) c21, .slice none 0 0] 80 (0, 0)), (some b1, .cells #[i64 ((0 : Int)), .slice none 0 0, .slice none 0 0] 80 (0, 0))]) w w30 H33) ?_
  rintro _ w34 ⟨key36, c37, sp38, ko39, co40, so41, rfl, hS42, hO43, HN44⟩
  obtain ⟨o2, ho2⟩ : ∃ q, q = opS 256 o1.1 128 192 (fbS fm 1) := ⟨_, rfl⟩
  rw [← ho2] at hS42 hO43 HN44 ⊢
  have hlo2 := opS_len 256 o1.1 128 192 (fbS fm 1)
  rw [← ho2] at hlo2
  have H45 := HN44.as (L' := [(key36, sob EG 85 o2.1 sp38), (ko39, sob EI 3 o2.2 so41), (ko23, sob EI 3 o1.2 so25), (some b8, .cells #[i64 ((256 : Nat)), .slice (ownA key20) (List.length o1.1) c21, .slice none 0 0] 80 (0, 0)), (some b1, .cells #[i64 ((0 : Int)), .slice none 0 0, .slice none 0 0] 80 (0, 0))]) rfl
  refine sq (r_move (v := .tuple #[.agg #[i64 ((256 : Nat)), .slice (ownA key36) (List.length o2.1) c37, .slice none 0 0], .slice (ownA ko39) 64 co40]) rfl) ?_
  refine sq (r_extract (vs := #[.agg #[i64 ((256 : Nat)), .slice (ownA key36) (List.length o2.1) c37, .slice none 0 0], .slice (ownA ko39) 64 co40]) rfl rfl) ?_
  refine sq (r_extract (vs := #[.agg #[i64 ((256 : Nat)), .slice (ownA key36) (List.length o2.1) c37, .slice none 0 0], .slice (ownA ko39) 64 co40]) rfl rfl) ?_
  refine d_store (k := 3) (v := .agg #[i64 ((256 : Nat)), .slice (ownA key36) (List.length o2.1) c37, .slice none 0 0]) (cs' := #[i64 ((256 : Nat)), .slice (ownA key36) (List.length o2.1) c37, .slice none 0 0]) H45 rfl rfl rfl siz80 (by rfl) (by intro u hu; simp [Value.cells] at hu; first | (subst hu; rfl) | (rcases hu with rfl | rfl | rfl <;> rfl)) (by exact Nat.le_of_ble_eq_true rfl) (by rfl) ?_
  intro w46 H47 hC48
  have H47' := H47.as (L' := [(key36, sob EG 85 o2.1 sp38), (ko39, sob EI 3 o2.2 so41), (ko23, sob EI 3 o1.2 so25), (some b8, .cells #[i64 ((256 : Nat)), .slice (ownA key36) (List.length o2.1) c37, .slice none 0 0] 80 (0, 0)), (some b1, .cells #[i64 ((0 : Int)), .slice none 0 0, .slice none 0 0] 80 (0, 0))]) rfl
  clear H47
  refine sq (r_assign (v := .slice (ownA ko39) 64 co40) rfl) ?_
  refine wnil ?_
  refine thenNormal ?_
  refine seqRegion ?_
  refine sq (r_loadA (cs' := #[i64 ((256 : Nat)), .slice (ownA key36) (List.length o2.1) c37, .slice none 0 0]) agg80 siz80 (H47'.get (k := 3) rfl) (off := 0) rfl (by exact Nat.le_of_ble_eq_true rfl) (by rfl)) ?_
  have H49 := (H47').as (L' := ((key36, sob EG 85 o2.1 sp38) :: ([(ko39, sob EI 3 o2.2 so41), (ko23, sob EI 3 o1.2 so25), (some b8, .cells #[i64 ((256 : Nat)), .slice (ownA key36) (List.length o2.1) c37, .slice none 0 0] 80 (0, 0)), (some b1, .cells #[i64 ((0 : Int)), .slice none 0 0, .slice none 0 0] 80 (0, 0))]))) rfl
  refine c_call (vs := [.agg #[i64 ((256 : Nat)), .slice (ownA key36) (List.length o2.1) c37, .slice none 0 0], i64 ((1 : Int)), i64 ((0 : Int)), i64 ((0 : Int))]) call80 rfl (rput_ok 256 key36 c37 sp38 o2.1 hS42 (by omega) (by omega) none 0 0 (1 : Int) (0 : Int) (0 : Int) ([(ko39, sob EI 3 o2.2 so41), (ko23, sob EI 3 o1.2 so25), (some b8, .cells #[i64 ((256 : Nat)), .slice (ownA key36) (List.length o2.1) c37, .slice none 0 0] 80 (0, 0)), (some b1, .cells #[i64 ((0 : Int)), .slice none 0 0, .slice none 0 0] 80 (0, 0))]) w w46 H49) ?_
  rintro _ w50 ⟨wx52, key53, c54, sp55, hwx52, rfl, hS56, HN57⟩
  have H58 := HN57.as (L' := [(key53, sob EG 85 (o2.1 ++ [(⟨(1 : Int), (0 : Int), (0 : Int)⟩ : Gt)]) sp55), (ko39, sob EI 3 o2.2 so41), (ko23, sob EI 3 o1.2 so25), (some b8, .cells #[i64 ((256 : Nat)), .slice (ownA key36) (List.length o2.1) c37, .slice none 0 0] 80 (0, 0)), (some b1, .cells #[i64 ((0 : Int)), .slice none 0 0, .slice none 0 0] 80 (0, 0))]) rfl
  refine sq (r_move (v := .tuple #[.agg #[i64 ((256 : Nat)), .slice (ownA key53) (List.length (o2.1 ++ [(⟨(1 : Int), (0 : Int), (0 : Int)⟩ : Gt)])) c54, .slice none 0 0], i64 (wx52)]) rfl) ?_
  refine sq (r_extract (vs := #[.agg #[i64 ((256 : Nat)), .slice (ownA key53) (List.length (o2.1 ++ [(⟨(1 : Int), (0 : Int), (0 : Int)⟩ : Gt)])) c54, .slice none 0 0], i64 (wx52)]) rfl rfl) ?_
  refine sq (r_extract (vs := #[.agg #[i64 ((256 : Nat)), .slice (ownA key53) (List.length (o2.1 ++ [(⟨(1 : Int), (0 : Int), (0 : Int)⟩ : Gt)])) c54, .slice none 0 0], i64 (wx52)]) rfl rfl) ?_
  refine d_store (k := 3) (v := .agg #[i64 ((256 : Nat)), .slice (ownA key53) (List.length (o2.1 ++ [(⟨(1 : Int), (0 : Int), (0 : Int)⟩ : Gt)])) c54, .slice none 0 0]) (cs' := #[i64 ((256 : Nat)), .slice (ownA key53) (List.length (o2.1 ++ [(⟨(1 : Int), (0 : Int), (0 : Int)⟩ : Gt)])) c54, .slice none 0 0]) H58 rfl rfl rfl siz80 (by rfl) (by intro u hu; simp [Value.cells] at hu; first | (subst hu; rfl) | (rcases hu with rfl | rfl | rfl <;> rfl)) (by exact Nat.le_of_ble_eq_true rfl) (by rfl) ?_
  intro w59 H60 hC61
  have H60' := H60.as (L' := [(key53, sob EG 85 (o2.1 ++ [(⟨(1 : Int), (0 : Int), (0 : Int)⟩ : Gt)]) sp55), (ko39, sob EI 3 o2.2 so41), (ko23, sob EI 3 o1.2 so25), (some b8, .cells #[i64 ((256 : Nat)), .slice (ownA key53) (List.length (o2.1 ++ [(⟨(1 : Int), (0 : Int), (0 : Int)⟩ : Gt)])) c54, .slice none 0 0] 80 (0, 0)), (some b1, .cells #[i64 ((0 : Int)), .slice none 0 0, .slice none 0 0] 80 (0, 0))]) rfl
  clear H60
  refine sq (r_assign (v := i64 (wx52)) rfl) ?_
  subst hwx52
  have e62 : o2.1 ++ [(⟨(1 : Int), (0 : Int), (0 : Int)⟩ : Gt)] = ze o2.1 := by rfl
  have hS63 := hS56
  rw [e62] at hS63
  have H64 : Hp No w w59 [(key53, sob EG 85 (ze o2.1) sp55), (ko39, sob EI 3 o2.2 so41), (ko23, sob EI 3 o1.2 so25), (some b8, .cells #[i64 ((256 : Nat)), .slice (ownA key53) (List.length (ze o2.1)) c54, .slice none 0 0] 80 (0, 0)), (some b1, .cells #[i64 ((0 : Int)), .slice none 0 0, .slice none 0 0] 80 (0, 0))] := by rw [← e62]; exact H60'
  have hzl : (ze o2.1).length = o2.1.length + 1 := by simp [ze]
  refine wend ?_
  refine seqAny ?_
  refine seqRegion ?_
  refine sq (r_move (v := i64 ((2 : Int))) rfl) ?_
  refine sq ((r_eqlI (a := (2 : Int)) (b := (1 : Int)) rfl rfl).as (v' := .bool (false)) (by rfl)) ?_
  refine wend ?_
  refine condFalse rfl ?_
  refine skipAny ?_
  refine thenNormal ?_
  refine seqRegion ?_
  refine sq (r_assign (v := i64 ((0 : Int))) rfl) ?_
  refine wend ?_
  refine seqRegion ?_
  refine sq (r_loadA (cs' := #[i64 ((256 : Nat)), .slice (ownA key53) (List.length (ze o2.1)) c54, .slice none 0 0]) agg80 siz80 (H64.get (k := 3) rfl) (off := 0) rfl (by exact Nat.le_of_ble_eq_true rfl) (by rfl)) ?_
  refine sq (r_move (v := .slice (ownA ko23) 64 co24) rfl) ?_
  refine sq (r_move (v := .slice (ownA ko39) 64 co40) rfl) ?_
  have H65 := (H64).as (L' := ((key53, sob EG 85 (ze o2.1) sp55) :: ([(ko39, sob EI 3 o2.2 so41), (ko23, sob EI 3 o1.2 so25), (some b8, .cells #[i64 ((256 : Nat)), .slice (ownA key53) (List.length (ze o2.1)) c54, .slice none 0 0] 80 (0, 0)), (some b1, .cells #[i64 ((0 : Int)), .slice none 0 0, .slice none 0 0] 80 (0, 0))]))) rfl
  refine c_call (vs := [.agg #[i64 ((256 : Nat)), .slice (ownA key53) (List.length (ze o2.1)) c54, .slice none 0 0], .slice (ownA ko23) 64 co24, .slice (ownA ko39) 64 co40]) call81 rfl (rless_ok 256 key53 c54 sp55 (ze o2.1) hS63 (by omega) (by omega) none 0 0 o1.2 o2.2 (by exact hlo1.2) (by exact hlo2.2) (ownA ko23) (ownA ko39) co24 co40 ([(ko39, sob EI 3 o2.2 so41), (ko23, sob EI 3 o1.2 so25), (some b8, .cells #[i64 ((256 : Nat)), .slice (ownA key53) (List.length (ze o2.1)) c54, .slice none 0 0] 80 (0, 0)), (some b1, .cells #[i64 ((0 : Int)), .slice none 0 0, .slice none 0 0] 80 (0, 0))]) w w59 (fun w' _ hR => rdKept hO27 (List.mem_of_getElem? (i := 1) rfl) hR) (fun w' _ hR => rdKept hO43 (List.mem_of_getElem? (i := 0) rfl) hR) H65) ?_
  rintro _ w66 ⟨wx68, key69, c70, sp71, hwx68, rfl, hS72, HN73⟩
  have H74 := HN73.as (L' := [(key69, sob EG 85 ((leG 256 (ze o2.1) o1.2 o2.2).1) sp71), (ko39, sob EI 3 o2.2 so41), (ko23, sob EI 3 o1.2 so25), (some b8, .cells #[i64 ((256 : Nat)), .slice (ownA key53) (List.length (ze o2.1)) c54, .slice none 0 0] 80 (0, 0)), (some b1, .cells #[i64 ((0 : Int)), .slice none 0 0, .slice none 0 0] 80 (0, 0))]) rfl
  refine sq (r_move (v := .tuple #[.agg #[i64 ((256 : Nat)), .slice (ownA key69) (List.length ((leG 256 (ze o2.1) o1.2 o2.2).1)) c70, .slice none 0 0], i64 (wx68)]) rfl) ?_
  refine sq (r_extract (vs := #[.agg #[i64 ((256 : Nat)), .slice (ownA key69) (List.length ((leG 256 (ze o2.1) o1.2 o2.2).1)) c70, .slice none 0 0], i64 (wx68)]) rfl rfl) ?_
  refine sq (r_extract (vs := #[.agg #[i64 ((256 : Nat)), .slice (ownA key69) (List.length ((leG 256 (ze o2.1) o1.2 o2.2).1)) c70, .slice none 0 0], i64 (wx68)]) rfl rfl) ?_
  refine d_store (k := 3) (v := .agg #[i64 ((256 : Nat)), .slice (ownA key69) (List.length ((leG 256 (ze o2.1) o1.2 o2.2).1)) c70, .slice none 0 0]) (cs' := #[i64 ((256 : Nat)), .slice (ownA key69) (List.length ((leG 256 (ze o2.1) o1.2 o2.2).1)) c70, .slice none 0 0]) H74 rfl rfl rfl siz80 (by rfl) (by intro u hu; simp [Value.cells] at hu; first | (subst hu; rfl) | (rcases hu with rfl | rfl | rfl <;> rfl)) (by exact Nat.le_of_ble_eq_true rfl) (by rfl) ?_
  intro w75 H76 hC77
  have H76' := H76.as (L' := [(key69, sob EG 85 ((leG 256 (ze o2.1) o1.2 o2.2).1) sp71), (ko39, sob EI 3 o2.2 so41), (ko23, sob EI 3 o1.2 so25), (some b8, .cells #[i64 ((256 : Nat)), .slice (ownA key69) (List.length ((leG 256 (ze o2.1) o1.2 o2.2).1)) c70, .slice none 0 0] 80 (0, 0)), (some b1, .cells #[i64 ((0 : Int)), .slice none 0 0, .slice none 0 0] 80 (0, 0))]) rfl
  clear H76
  refine sq (r_assign (v := i64 (wx68)) rfl) ?_
  subst hwx68
  have hlg := leG_len 256 (ze o2.1) o1.2 o2.2
  have H78 := H76'.nil (sob EI 3 [] [])
  have H79 := H78.as (L' := [(none, sob EI 3 ([] : List Int) ([])), (key69, sob EG 85 ((leG 256 (ze o2.1) o1.2 o2.2).1) sp71), (ko39, sob EI 3 o2.2 so41), (ko23, sob EI 3 o1.2 so25), (some b8, .cells #[i64 ((256 : Nat)), .slice (ownA key69) (List.length ((leG 256 (ze o2.1) o1.2 o2.2).1)) c70, .slice (ownA none) 0 0] 80 (0, 0)), (some b1, .cells #[i64 ((0 : Int)), .slice none 0 0, .slice none 0 0] 80 (0, 0))]) rfl
  refine wend ?_
  refine seqAny ?_
  refine seqRegion ?_
  refine sq (r_move (v := i64 ((2 : Int))) rfl) ?_
  refine sq ((r_eqlI (a := (2 : Int)) (b := (2 : Int)) rfl rfl).as (v' := .bool (true)) (by rfl)) ?_
  refine wend ?_
  refine condTrue rfl ?_
  refine seqRegion ?_
  refine sq (r_fieldAddr (off' := 2) fld80_2 (by decide) (b := b8) (off := 0) rfl (by omega)) ?_
  refine sq (r_loadC (v := .slice (ownA none) 0 0) one60 (H79.get (k := 4) rfl) (off := 2) rfl (by rfl)) ?_
  refine sq (r_move (v := i64 (((leG 256 (ze o2.1) o1.2 o2.2).2))) rfl) ?_
  refine q_buildSlice (E := EI) (l := [((leG 256 (ze o2.1) o1.2 o2.2).2)]) H79 sli60 zer3 (Nat.le_of_ble_eq_true rfl) (ps := [(0, i64 (((leG 256 (ze o2.1) o1.2 o2.2).2)))]) rfl (by exact fillAll rfl rfl) rfl ?_
  intro b80 w82 hS81 H83 hE84
  refine q_append (E := EI) (k := 1) (l := ([] : List Int)) (l2 := [((leG 256 (ze o2.1) o1.2 o2.2).2)]) H83 rfl Sl.none sli60 zer3 rfl byt3 (H83.rd (k := 0) rfl hS81) rfl (by rfl) rfl (by rfl) (by omega) ?_
  intro key85 c86 sp87 w89 hS88 hne91 H90
  have H90' := H90.as (L' := [((some b80), sob EI 3 ([((leG 256 (ze o2.1) o1.2 o2.2).2)]) ([])), (key85, sob EI 3 (([] : List Int) ++ ([((leG 256 (ze o2.1) o1.2 o2.2).2)])) sp87), (key69, sob EG 85 ((leG 256 (ze o2.1) o1.2 o2.2).1) sp71), (ko39, sob EI 3 o2.2 so41), (ko23, sob EI 3 o1.2 so25), (some b8, .cells #[i64 ((256 : Nat)), .slice (ownA key69) (List.length ((leG 256 (ze o2.1) o1.2 o2.2).1)) c70, .slice (ownA none) 0 0] 80 (0, 0)), (some b1, .cells #[i64 ((0 : Int)), .slice none 0 0, .slice none 0 0] 80 (0, 0))]) rfl
  clear H90
  refine sq (r_fieldAddr (off' := 2) fld80_2 (by decide) (b := b8) (off := 0) rfl (by omega)) ?_
  refine d_store (k := 5) (v := .slice (ownA key85) (0 + 1) c86) (cs' := #[i64 ((256 : Nat)), .slice (ownA key69) (List.length ((leG 256 (ze o2.1) o1.2 o2.2).1)) c70, .slice (ownA key85) (0 + 1) c86]) H90' rfl rfl rfl siz60 (by rfl) (by intro u hu; simp [Value.cells] at hu; first | (subst hu; rfl) | (rcases hu with rfl <;> rfl)) (by exact Nat.le_of_ble_eq_true rfl) (by rfl) ?_
  intro w92 H93 hC94
  have H93' := H93.as (L' := [((some b80), sob EI 3 ([((leG 256 (ze o2.1) o1.2 o2.2).2)]) ([])), (key85, sob EI 3 (([] : List Int) ++ ([((leG 256 (ze o2.1) o1.2 o2.2).2)])) sp87), (key69, sob EG 85 ((leG 256 (ze o2.1) o1.2 o2.2).1) sp71), (ko39, sob EI 3 o2.2 so41), (ko23, sob EI 3 o1.2 so25), (some b8, .cells #[i64 ((256 : Nat)), .slice (ownA key69) (List.length ((leG 256 (ze o2.1) o1.2 o2.2).1)) c70, .slice (ownA key85) (0 + 1) c86] 80 (0, 0)), (some b1, .cells #[i64 ((0 : Int)), .slice none 0 0, .slice none 0 0] 80 (0, 0))]) rfl
  clear H93
  have e95 : ([] : List Int) ++ ([((leG 256 (ze o2.1) o1.2 o2.2).2)]) = (leG 256 (ze o2.1) o1.2 o2.2).2 :: List.replicate 0 (wrW 256 o2.1) := by rfl
  have hS96 := hS88
  rw [e95] at hS96
  have H97 := H93'.as (L' := [((some b80), sob EI 3 ([((leG 256 (ze o2.1) o1.2 o2.2).2)]) ([])), (key85, sob EI 3 ((leG 256 (ze o2.1) o1.2 o2.2).2 :: List.replicate 0 (wrW 256 o2.1)) sp87), (key69, sob EG 85 ((leG 256 (ze o2.1) o1.2 o2.2).1) sp71), (ko39, sob EI 3 o2.2 so41), (ko23, sob EI 3 o1.2 so25), (some b8, .cells #[i64 ((256 : Nat)), .slice (ownA key69) (List.length ((leG 256 (ze o2.1) o1.2 o2.2).1)) c70, .slice (ownA key85) (0 + 1) c86] 80 (0, 0)), (some b1, .cells #[i64 ((0 : Int)), .slice none 0 0, .slice none 0 0] 80 (0, 0))]) (by rw [e95])
  refine wend ?_
  refine seqAny ?_
  refine seqRegion ?_
  refine sq (r_assign (v := i64 ((1 : Int))) rfl) ?_
  refine wend ?_
  refine blockAny ?_
  refine loopAny (σ := Nat × Option Nat × Nat × List Value) (fun (i, ku, cu, su) => [(4, .pointer (some ⟨b1, 0, none⟩)), (6, .pointer (some ⟨b8, 0, none⟩)), (9, i64 ((wrW 256 o2.1))), (14, i64 (((i + 1) : Nat)))]) (fun (i, ku, cu, su) w' => (i ≤ 63 ∧ Sl EI ku ((leG 256 (ze o2.1) o1.2 o2.2).2 :: List.replicate i (wrW 256 o2.1)) cu su) ∧ Hp No w w' [(key69, sob EG 85 ((leG 256 (ze o2.1) o1.2 o2.2).1) sp71), (ku, sob EI 3 ((leG 256 (ze o2.1) o1.2 o2.2).2 :: List.replicate i (wrW 256 o2.1)) su), (some b8, .cells #[i64 ((256 : Nat)), .slice (ownA key69) (List.length ((leG 256 (ze o2.1) o1.2 o2.2).1)) c70, .slice (ownA ku) (i + 1) cu] 80 (0, 0)), (some b1, .cells #[i64 ((0 : Int)), .slice none 0 0, .slice none 0 0] 80 (0, 0)), (ko23, sob EI 3 o1.2 so25), (ko39, sob EI 3 o2.2 so41)]) (fun (i, ku, cu, su) => 63 - i) ((0, key85, c86, sp87)) ?_ ?_ ?_
  · exact ⟨rfl, rfl, rfl, rfl, trivial⟩
  · exact ⟨⟨by omega, hS96⟩, (H97.pick 7 [2, 1, 5, 6, 4, 3] (by decide) (by decide))⟩
  rintro ⟨i, ku, cu, su⟩ ρ w98 ⟨⟨hq, hSu⟩, HL⟩
  refine seqAny ?_
  refine seqRegion ?_
  refine sq (r_move (v := i64 (((i + 1) : Nat))) rfl) ?_
  refine sq (r_lssI (a := ((i + 1) : Nat)) (b := (64 : Int)) rfl rfl) ?_
  refine wend ?_
  refine condProp ((((i + 1) : Nat) : Int) < (64 : Int)) rfl (fun c100 => ?_) (fun c100 => ?_)
  · skip
    refine skipAny ?_
    refine thenNormal ?_
    refine seqAny ?_
    refine blockAny ?_
    refine oneRegion ?_
    refine sq (r_fieldAddr (off' := 2) fld80_2 (by decide) (b := b8) (off := 0) rfl (by omega)) ?_
    refine sq (r_loadC (v := .slice (ownA ku) (i + 1) cu) one60 (HL.get (k := 2) rfl) (off := 2) rfl (by rfl)) ?_
    refine sq (r_move (v := i64 ((wrW 256 o2.1))) rfl) ?_
    refine q_buildSlice (E := EI) (l := [(wrW 256 o2.1)]) HL sli60 zer3 (Nat.le_of_ble_eq_true rfl) (ps := [(0, i64 ((wrW 256 o2.1)))]) rfl (by exact fillAll rfl rfl) rfl ?_
    intro b100 w102 hS101 H103 hE104
    refine q_append (E := EI) (k := 2) (l := (leG 256 (ze o2.1) o1.2 o2.2).2 :: List.replicate i (wrW 256 o2.1)) (l2 := [(wrW 256 o2.1)]) H103 rfl hSu sli60 zer3 rfl byt3 (H103.rd (k := 0) rfl hS101) rfl (by rw [List.length_cons, List.length_replicate]) rfl (by rfl) (by omega) ?_
    intro key105 c106 sp107 w109 hS108 hne111 H110
    have H110' := H110.as (L' := [((some b100), sob EI 3 ([(wrW 256 o2.1)]) ([])), (key69, sob EG 85 ((leG 256 (ze o2.1) o1.2 o2.2).1) sp71), (key105, sob EI 3 (((leG 256 (ze o2.1) o1.2 o2.2).2 :: List.replicate i (wrW 256 o2.1)) ++ ([(wrW 256 o2.1)])) sp107), (some b8, .cells #[i64 ((256 : Nat)), .slice (ownA key69) (List.length ((leG 256 (ze o2.1) o1.2 o2.2).1)) c70, .slice (ownA ku) (i + 1) cu] 80 (0, 0)), (some b1, .cells #[i64 ((0 : Int)), .slice none 0 0, .slice none 0 0] 80 (0, 0)), (ko23, sob EI 3 o1.2 so25), (ko39, sob EI 3 o2.2 so41)]) rfl
    clear H110
    refine sq (r_fieldAddr (off' := 2) fld80_2 (by decide) (b := b8) (off := 0) rfl (by omega)) ?_
    refine d_store (k := 3) (v := .slice (ownA key105) ((i + 1) + 1) c106) (cs' := #[i64 ((256 : Nat)), .slice (ownA key69) (List.length ((leG 256 (ze o2.1) o1.2 o2.2).1)) c70, .slice (ownA key105) ((i + 1) + 1) c106]) H110' rfl rfl rfl siz60 (by rfl) (by intro u hu; simp [Value.cells] at hu; first | (subst hu; rfl) | (rcases hu with rfl <;> rfl)) (by exact Nat.le_of_ble_eq_true rfl) (by rfl) ?_
    intro w112 H113 hC114
    have H113' := H113.as (L' := [((some b100), sob EI 3 ([(wrW 256 o2.1)]) ([])), (key69, sob EG 85 ((leG 256 (ze o2.1) o1.2 o2.2).1) sp71), (key105, sob EI 3 (((leG 256 (ze o2.1) o1.2 o2.2).2 :: List.replicate i (wrW 256 o2.1)) ++ ([(wrW 256 o2.1)])) sp107), (some b8, .cells #[i64 ((256 : Nat)), .slice (ownA key69) (List.length ((leG 256 (ze o2.1) o1.2 o2.2).1)) c70, .slice (ownA key105) ((i + 1) + 1) c106] 80 (0, 0)), (some b1, .cells #[i64 ((0 : Int)), .slice none 0 0, .slice none 0 0] 80 (0, 0)), (ko23, sob EI 3 o1.2 so25), (ko39, sob EI 3 o2.2 so41)]) rfl
    clear H113
    refine wnil ?_
    refine blockNormal ?_
    refine thenNormal ?_
    refine oneRegion ?_
    refine sq (r_move (v := i64 (((i + 1) : Nat))) rfl) ?_
    refine sq ((r_addI (a := ((i + 1) : Nat)) (b := (1 : Int)) rfl rfl (by omega)).as (v' := i64 (((i + 1 + 1) : Nat))) (by rfl)) ?_
    refine sq (r_assign (v := i64 (((i + 1 + 1) : Nat))) rfl) ?_
    refine wnil ?_
    refine thenNormal ?_
    have e115 : ((leG 256 (ze o2.1) o1.2 o2.2).2 :: List.replicate i (wrW 256 o2.1)) ++ ([(wrW 256 o2.1)]) = (leG 256 (ze o2.1) o1.2 o2.2).2 :: List.replicate (i + 1) (wrW 256 o2.1) := by rw [List.replicate_succ']; rfl
    have hS116 := hS108
    rw [e115] at hS116
    have H117 := H113'.as (L' := [((some b100), sob EI 3 ([(wrW 256 o2.1)]) ([])), (key69, sob EG 85 ((leG 256 (ze o2.1) o1.2 o2.2).1) sp71), (key105, sob EI 3 ((leG 256 (ze o2.1) o1.2 o2.2).2 :: List.replicate (i + 1) (wrW 256 o2.1)) sp107), (some b8, .cells #[i64 ((256 : Nat)), .slice (ownA key69) (List.length ((leG 256 (ze o2.1) o1.2 o2.2).1)) c70, .slice (ownA key105) ((i + 1) + 1) c106] 80 (0, 0)), (some b1, .cells #[i64 ((0 : Int)), .slice none 0 0, .slice none 0 0] 80 (0, 0)), (ko23, sob EI 3 o1.2 so25), (ko39, sob EI 3 o2.2 so41)]) (by rw [e115])
    exact ⟨(i + 1, key105, c106, sp107), _, rfl, ⟨rfl, rfl, rfl, rfl, trivial⟩, ⟨⟨by omega, hS116⟩, (H117.dropk 0)⟩, by show 63 - (i + 1) < 63 - i; omega⟩
  · skip
    have hj : i = 63 := by omega
    refine exitAny ?_
    refine thenExit ?_
    refine thenExit ?_
    refine blockHere ?_
    refine thenNormal ?_
    refine seqRegion ?_
    refine sq (r_loadA (cs' := #[i64 ((256 : Nat)), .slice (ownA key69) (List.length ((leG 256 (ze o2.1) o1.2 o2.2).1)) c70, .slice (ownA ku) (i + 1) cu]) agg80 siz80 (HL.get (k := 2) rfl) (off := 0) rfl (by exact Nat.le_of_ble_eq_true rfl) (by rfl)) ?_
    refine d_store (k := 3) (v := .agg #[i64 ((256 : Nat)), .slice (ownA key69) (List.length ((leG 256 (ze o2.1) o1.2 o2.2).1)) c70, .slice (ownA ku) (i + 1) cu]) (cs' := #[i64 ((256 : Nat)), .slice (ownA key69) (List.length ((leG 256 (ze o2.1) o1.2 o2.2).1)) c70, .slice (ownA ku) (i + 1) cu]) HL rfl rfl rfl siz80 (by rfl) (by intro u hu; simp [Value.cells] at hu; first | (subst hu; rfl) | (rcases hu with rfl | rfl | rfl <;> rfl)) (by exact Nat.le_of_ble_eq_true rfl) (by rfl) ?_
    intro w118 H119 hC120
    have H119' := H119.as (L' := [(key69, sob EG 85 ((leG 256 (ze o2.1) o1.2 o2.2).1) sp71), (ku, sob EI 3 ((leG 256 (ze o2.1) o1.2 o2.2).2 :: List.replicate i (wrW 256 o2.1)) su), (some b8, .cells #[i64 ((256 : Nat)), .slice (ownA key69) (List.length ((leG 256 (ze o2.1) o1.2 o2.2).1)) c70, .slice (ownA ku) (i + 1) cu] 80 (0, 0)), (some b1, .cells #[i64 ((256 : Nat)), .slice (ownA key69) (List.length ((leG 256 (ze o2.1) o1.2 o2.2).1)) c70, .slice (ownA ku) (i + 1) cu] 80 (0, 0)), (ko23, sob EI 3 o1.2 so25), (ko39, sob EI 3 o2.2 so41)]) rfl
    clear H119
    refine wend ?_
    refine retAny ?_
    refine thenRet ?_
    refine retG (rs := [.cell 4 80]) (vs := [.agg #[i64 ((256 : Nat)), .slice (ownA key69) (List.length ((leG 256 (ze o2.1) o1.2 o2.2).1)) c70, .slice (ownA ku) (i + 1) cu]]) rfl ⟨r_loadA (cs' := #[i64 ((256 : Nat)), .slice (ownA key69) (List.length ((leG 256 (ze o2.1) o1.2 o2.2).1)) c70, .slice (ownA ku) (i + 1) cu]) agg80 siz80 (H119'.get (k := 3) rfl) (off := 0) rfl (by exact Nat.le_of_ble_eq_true rfl) (by rfl), trivial⟩ ?_
    subst hj
    rw [mk2_eq ho1 ho2]
    exact ⟨_, rfl, key69, c70, sp71, ku, cu, su, rfl, hS72, hSu, ((((H119'.dropk 5).dropk 4).dropk 3).dropk 2)⟩
end Go.Proofs.YteofdmdpaejgaaaDoor.Cm
