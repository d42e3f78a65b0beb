/- The walks of the circuits. -/
import Derived.Test.YteofdmdpaejgaaaDoorCirc
namespace Go.Proofs.YteofdmdpaejgaaaDoor.Er
open Go Go.Proofs.YteofdmdpaejgaaaDoor.Vc Go.Proofs.YteofdmdpaejgaaaDoor.Circ
theorem byt3 : byt Tryd.prog 3 = some 8 := by kernel_rfl
theorem byt85 : byt Tryd.prog 85 = some 24 := by kernel_rfl
theorem byt99 : byt Tryd.prog 99 = some 24 := by kernel_rfl
theorem fits85 : Fits Tryd.prog 85 EG := fitsG (by kernel_rfl) (by kernel_rfl)
theorem fld85_0 : fld Tryd.prog 85 0 = some (0, 1, 3) := by kernel_rfl
theorem fld85_1 : fld Tryd.prog 85 1 = some (1, 1, 3) := by kernel_rfl
theorem fld85_2 : fld Tryd.prog 85 2 = some (2, 1, 3) := by kernel_rfl
theorem gty99 : Tryd.prog.eqGuardType Tryd.prog.depth 99 = false := by kernel_rfl
theorem mixed : Tryd.prog.follows .mixedOrders = true := by kernel_rfl
theorem pls85 : pls Tryd.prog 85 = some #[(0, 1), (1, 1), (2, 1)] := by kernel_rfl
theorem siz60 : siz Tryd.prog 60 = some 1 := by kernel_rfl
theorem siz68 : siz Tryd.prog 68 = some 1 := by kernel_rfl
theorem siz85 : siz Tryd.prog 85 = some 3 := by kernel_rfl
theorem sli78 : sli Tryd.prog 78 = some (85, 3) := by kernel_rfl
theorem zer85 : zer Tryd.prog 85 = some (.agg #[.int .i64 0, .int .i64 0, .int .i64 0]) := by kernel_rfl
def OwnR (n : Int) (gs : List Gt) (ol : List Int) (w : World) (v : Value) (w' : World) : Prop := ∃ ng no kg cg spg ko co spo, v = .agg #[i64 n, .slice (ownA kg) ng cg, .slice (ownA ko) no co] ∧ ng = gs.length ∧ no = ol.length ∧ Sl EG kg gs cg spg ∧ Sl EI ko ol co spo ∧ Hp No w w' [(ko, sob EI 3 ol spo), (kg, sob EG 99 gs spg)]

theorem own_ok (n : Int) (gs : List Gt) (ol : List Int) (ga oa : Option Addr) (gc oc : Nat) (hgc : gs.length ≤ gc) (hoc : ol.length ≤ oc) (w : World) (hGs : Rd EG w ga gs) (hOl : Rd EI w oa ol) : Calls Tryd.prog 43 [.agg #[i64 (n), .slice ga gs.length gc, .slice oa ol.length oc]].toArray w (Ret fun v w' => OwnR n (gs.take 4200) (ol.take 80) w v w' ∧ Ext w w') := by
  have H := Hp.start No w
  refine enter (n := 24) Tryd.func43 rfl rfl (Nat.le_of_ble_eq_true rfl) ?_
  refine seqRegion ?_
  refine q_box (v := .agg #[i64 (n), .slice ga gs.length gc, .slice oa ol.length oc]) (o := .cells #[i64 (n), .slice ga gs.length gc, .slice oa ol.length oc] 70 (0, 0)) H rfl (by rfl) ?_
  intro b1 w2 hb1 H3 hE4
  refine q_alloc (o := .cells #[i64 ((0 : Int)), .slice none 0 0, .slice none 0 0] 70 (0, 0)) H3 zer70 (by kernel_rfl) ?_
  intro b5 w6 hb5 H7 hE8
  refine wend ?_
  refine seqRegion ?_
  refine q_buildSlice (E := EG) (l := ([] : List Gt)) H7 sli68 zer99 (Nat.le_of_ble_eq_true rfl) (ps := []) rfl (by exact fillAll rfl rfl) rfl ?_
  intro b9 w11 hS10 H12 hE13
  refine sq (r_fieldAddr (off' := 1) fld70_1 (by decide) (b := b1) (off := 0) rfl (by omega)) ?_
  refine sq (r_loadC (v := .slice ga gs.length gc) one68 (H12.get (k := 2) rfl) (off := 1) rfl (by rfl)) ?_
  refine sq (r_fieldAddr (off' := 1) fld70_1 (by decide) (b := b1) (off := 0) rfl (by omega)) ?_
  refine sq (r_loadC (v := .slice ga gs.length gc) one68 (H12.get (k := 2) rfl) (off := 1) rfl (by rfl)) ?_
  refine sq (r_lenS sli68 (a := ga) (m := gs.length) (c := gc) rfl) ?_
  refine sq ((r_minI (a := (gs.length : Nat)) (b := (4200 : Int)) rfl rfl).as (v' := i64 ((min gs.length 4200 : Nat))) (by exact congrArg i64 (by omega))) ?_
  refine sq ((r_sliceS (l := 0) (h := min gs.length 4200) sli68 rfl (.inr ⟨rfl, rfl⟩) (.inl ⟨_, _, _, rfl, rfl, by first | rfl | omega | (simp; omega)⟩) (by omega) (by omega)).as (v' := .slice (if gc = 0 then ga else adr ga (0 * 3)) (min gs.length 4200) (gc - 0)) (by rw [show (min gs.length 4200) - 0 = min gs.length 4200 by omega])) ?_
  refine q_append (E := EG) (k := 0) (l := ([] : List Gt)) (l2 := (gs.drop 0).take (min gs.length 4200)) H12 rfl hS10 sli68 zer99 rfl byt99 (Rd.sub (hGs.ext H12.chg) 0 (min gs.length 4200) (m := gc) (fun e => by first | exact absurd e (by omega) | (rw [show min gs.length 4200 = 0 by omega]; rfl))) rfl (by rfl) rfl (by rw [List.length_take, List.length_drop]; omega) (by omega) ?_
  intro key14 c15 sp16 w18 hS17 hne20 H19
  have H19' := H19.as (L' := [(key14, sob EG 99 (([] : List Gt) ++ ((gs.drop 0).take (min gs.length 4200))) sp16), (some b5, .cells #[i64 ((0 : Int)), .slice none 0 0, .slice none 0 0] 70 (0, 0)), (some b1, .cells #[i64 (n), .slice ga gs.length gc, .slice oa ol.length oc] 70 (0, 0))]) rfl
  clear H19
  have e21 : ([] : List Gt) ++ ((gs.drop 0).take (min gs.length 4200)) = gs.take 4200 := by exact own_take _ _
  have hS22 := hS17
  rw [e21] at hS22
  have H23 := H19'.as (L' := [(key14, sob EG 99 (gs.take 4200) sp16), (some b5, .cells #[i64 ((0 : Int)), .slice none 0 0, .slice none 0 0] 70 (0, 0)), (some b1, .cells #[i64 (n), .slice ga gs.length gc, .slice oa ol.length oc] 70 (0, 0))]) (by rw [e21])
  refine sq (r_fieldAddr (off' := 1) fld70_1 (by decide) (b := b1) (off := 0) rfl (by omega)) ?_
  refine d_store (k := 2) (v := .slice (ownA key14) (0 + (min gs.length 4200)) c15) (cs' := #[i64 (n), .slice (ownA key14) (0 + (min gs.length 4200)) c15, .slice oa ol.length oc]) H23 rfl rfl rfl siz68 (by rfl) (by intro u hu; simp [Value.cells] at hu; first | (subst hu; rfl) | (rcases hu with rfl <;> rfl)) (by exact Nat.le_of_ble_eq_true rfl) (by rfl) ?_
  intro w24 H25 hC26
  have H25' := H25.as (L' := [(key14, sob EG 99 (gs.take 4200) sp16), (some b5, .cells #[i64 ((0 : Int)), .slice none 0 0, .slice none 0 0] 70 (0, 0)), (some b1, .cells #[i64 (n), .slice (ownA key14) (0 + (min gs.length 4200)) c15, .slice oa ol.length oc] 70 (0, 0))]) rfl
  clear H25
  refine wend ?_
  refine seqRegion ?_
  refine q_buildSlice (E := EI) (l := []) H25' sli60 zer3 (Nat.le_of_ble_eq_true rfl) (ps := []) rfl (by exact fillAll rfl rfl) rfl ?_
  intro b27 w29 hS28 H30 hE31
  refine sq (r_fieldAddr (off' := 2) fld70_2 (by decide) (b := b1) (off := 0) rfl (by omega)) ?_
  refine sq (r_loadC (v := .slice oa ol.length oc) one60 (H30.get (k := 3) rfl) (off := 2) rfl (by rfl)) ?_
  refine sq (r_fieldAddr (off' := 2) fld70_2 (by decide) (b := b1) (off := 0) rfl (by omega)) ?_
  refine sq (r_loadC (v := .slice oa ol.length oc) one60 (H30.get (k := 3) rfl) (off := 2) rfl (by rfl)) ?_
  refine sq (r_lenS sli60 (a := oa) (m := ol.length) (c := oc) rfl) ?_
  refine sq ((r_minI (a := (ol.length : Nat)) (b := (80 : Int)) rfl rfl).as (v' := i64 ((min ol.length 80 : Nat))) (by exact congrArg i64 (by omega))) ?_
  refine sq ((r_sliceS (l := 0) (h := min ol.length 80) sli60 rfl (.inr ⟨rfl, rfl⟩) (.inl ⟨_, _, _, rfl, rfl, by first | rfl | omega | (simp; omega)⟩) (by omega) (by omega)).as (v' := .slice (if oc = 0 then oa else adr oa (0 * 1)) (min ol.length 80) (oc - 0)) (by rw [show (min ol.length 80) - 0 = min ol.length 80 by omega])) ?_
  refine q_append (E := EI) (k := 0) (l := []) (l2 := (ol.drop 0).take (min ol.length 80)) H30 rfl hS28 sli60 zer3 rfl byt3 (Rd.sub (hOl.ext H30.chg) 0 (min ol.length 80) (m := oc) (fun e => by first | exact absurd e (by omega) | (rw [show min ol.length 80 = 0 by omega]; rfl))) rfl (by rfl) rfl (by rw [List.length_take, List.length_drop]; omega) (by omega) ?_
  intro key32 c33 sp34 w36 hS35 hne38 H37
  have H37' := H37.as (L' := [(key32, sob EI 3 (([]) ++ ((ol.drop 0).take (min ol.length 80))) sp34), (key14, sob EG 99 (gs.take 4200) sp16), (some b5, .cells #[i64 ((0 : Int)), .slice none 0 0, .slice none 0 0] 70 (0, 0)), (some b1, .cells #[i64 (n), .slice (ownA key14) (0 + (min gs.length 4200)) c15, .slice oa ol.length oc] 70 (0, 0))]) rfl
  clear H37
  have e39 : ([]) ++ ((ol.drop 0).take (min ol.length 80)) = ol.take 80 := by exact own_take _ _
  have hS40 := hS35
  rw [e39] at hS40
  have H41 := H37'.as (L' := [(key32, sob EI 3 (ol.take 80) sp34), (key14, sob EG 99 (gs.take 4200) sp16), (some b5, .cells #[i64 ((0 : Int)), .slice none 0 0, .slice none 0 0] 70 (0, 0)), (some b1, .cells #[i64 (n), .slice (ownA key14) (0 + (min gs.length 4200)) c15, .slice oa ol.length oc] 70 (0, 0))]) (by rw [e39])
  refine sq (r_fieldAddr (off' := 2) fld70_2 (by decide) (b := b1) (off := 0) rfl (by omega)) ?_
  refine d_store (k := 3) (v := .slice (ownA key32) (0 + (min ol.length 80)) c33) (cs' := #[i64 (n), .slice (ownA key14) (0 + (min gs.length 4200)) c15, .slice (ownA key32) (0 + (min ol.length 80)) c33]) H41 rfl rfl rfl siz60 (by rfl) (by intro u hu; simp [Value.cells] at hu; first | (subst hu; rfl) | (rcases hu with rfl <;> rfl)) (by exact Nat.le_of_ble_eq_true rfl) (by rfl) ?_
  intro w42 H43 hC44
  have H43' := H43.as (L' := [(key32, sob EI 3 (ol.take 80) sp34), (key14, sob EG 99 (gs.take 4200) sp16), (some b5, .cells #[i64 ((0 : Int)), .slice none 0 0, .slice none 0 0] 70 (0, 0)), (some b1, .cells #[i64 (n), .slice (ownA key14) (0 + (min gs.length 4200)) c15, .slice (ownA key32) (0 + (min ol.length 80)) c33] 70 (0, 0))]) rfl
  clear H43
  refine wend ?_
  refine seqRegion ?_
  refine sq (r_loadA (cs' := #[i64 (n), .slice (ownA key14) (0 + (min gs.length 4200)) c15, .slice (ownA key32) (0 + (min ol.length 80)) c33]) agg70 siz70 (H43'.get (k := 3) rfl) (off := 0) rfl (by exact Nat.le_of_ble_eq_true rfl) (by rfl)) ?_
  refine d_store (k := 2) (v := .agg #[i64 (n), .slice (ownA key14) (0 + (min gs.length 4200)) c15, .slice (ownA key32) (0 + (min ol.length 80)) c33]) (cs' := #[i64 (n), .slice (ownA key14) (0 + (min gs.length 4200)) c15, .slice (ownA key32) (0 + (min ol.length 80)) c33]) H43' rfl rfl rfl siz70 (by rfl) (by intro u hu; simp [Value.cells] at hu; first | (subst hu; rfl) | (rcases hu with rfl | rfl | rfl <;> rfl)) (by exact Nat.le_of_ble_eq_true rfl) (by rfl) ?_
  intro w45 H46 hC47
  have H46' := H46.as (L' := [(key32, sob EI 3 (ol.take 80) sp34), (key14, sob EG 99 (gs.take 4200) sp16), (some b5, .cells #[i64 (n), .slice (ownA key14) (0 + (min gs.length 4200)) c15, .slice (ownA key32) (0 + (min ol.length 80)) c33] 70 (0, 0)), (some b1, .cells #[i64 (n), .slice (ownA key14) (0 + (min gs.length 4200)) c15, .slice (ownA key32) (0 + (min ol.length 80)) c33] 70 (0, 0))]) rfl
  clear H46
  refine wend ?_
  refine retAny ?_
  refine retG (rs := [.cell 2 70]) (vs := [.agg #[i64 (n), .slice (ownA key14) (0 + (min gs.length 4200)) c15, .slice (ownA key32) (0 + (min ol.length 80)) c33]]) rfl ⟨r_loadA (cs' := #[i64 (n), .slice (ownA key14) (0 + (min gs.length 4200)) c15, .slice (ownA key32) (0 + (min ol.length 80)) c33]) agg70 siz70 (H46'.get (k := 2) rfl) (off := 0) rfl (by exact Nat.le_of_ble_eq_true rfl) (by rfl), trivial⟩ ?_
  exact ⟨_, rfl, ⟨_, _, key14, c15, sp16, key32, c33, sp34, rfl, by rw [List.length_take]; omega, by rw [List.length_take]; omega, hS22, hS40, ((H46'.dropk 3).dropk 2)⟩, H46'.chg⟩

theorem gates_ok (n : Int) (gs : List Gt) (ol : List Int) (ga oa : Option Addr) (gc oc : Nat) (w : World) (hGs : Rd EG w ga gs) (hgl : gs.length ≤ 4200) : Calls Tryd.prog 35 [.agg #[i64 (n), .slice ga gs.length gc, .slice oa ol.length oc]].toArray w (Ret fun v w' => SlRes EG 85 gs w v w' ∧ Ext w w') := by
  have H := Hp.start No w
  refine enter (n := 25) Tryd.func35 rfl rfl (Nat.le_of_ble_eq_true rfl) ?_
  refine seqRegion ?_
  refine q_box (v := .agg #[i64 (n), .slice ga gs.length gc, .slice oa ol.length oc]) (o := .cells #[i64 (n), .slice ga gs.length gc, .slice oa ol.length oc] 70 (0, 0)) H rfl (by rfl) ?_
  intro b1 w2 hb1 H3 hE4
  refine sq (r_assign (v := .slice none 0 0) rfl) ?_
  refine wend ?_
  refine seqRegion ?_
  refine sq (r_assign (v := .slice none 0 0) rfl) ?_
  have H5 := H3.nil (sob EG 85 [] [])
  refine wend ?_
  refine seqAny ?_
  refine seqRegion ?_
  refine sq (r_fieldAddr (off' := 1) fld70_1 (by decide) (b := b1) (off := 0) rfl (by omega)) ?_
  refine sq (r_loadC (v := .slice ga gs.length gc) one68 (H5.get (k := 1) rfl) (off := 1) rfl (by rfl)) ?_
  refine sq (r_lenS sli68 (a := ga) (m := gs.length) (c := gc) rfl) ?_
  refine sq (r_move (v := i64 ((0 : Int))) rfl) ?_
  refine wend ?_
  refine blockAny ?_
  refine loopAny (σ := Nat × Option Nat × Nat × List Value) (fun (i, key, c, sp) => [(1, .pointer (some ⟨b1, 0, none⟩)), (3, .slice (ownA key) i c), (7, .slice ga gs.length gc), (8, i64 ((gs.length : Nat))), (9, i64 ((i : Nat)))]) (fun (i, key, c, sp) w' => i ≤ gs.length ∧ Sl EG key (gs.take i) c sp ∧ Hp No w w' [(key, sob EG 85 (gs.take i) sp), (some b1, .cells #[i64 (n), .slice ga gs.length gc, .slice oa ol.length oc] 70 (0, 0))]) (fun (i, key, c, sp) => gs.length - i) ((0, none, 0, [])) ?_ ?_ ?_
  · exact ⟨rfl, rfl, rfl, rfl, rfl, trivial⟩
  · exact ⟨by omega, Sl.none, H5⟩
  rintro ⟨i, key, c, sp⟩ ρ w6 ⟨hi, hS, HL⟩
  refine seqRegion ?_
  refine sq (r_lssI (a := (i : Nat)) (b := (gs.length : Nat)) rfl rfl) ?_
  refine wend ?_
  refine seqAny ?_
  refine condProp (((i : Nat) : Int) < (gs.length : Nat)) rfl (fun c10 => ?_) (fun c10 => ?_)
  · skip
    refine skipAny ?_
    refine thenNormal ?_
    refine seqAny ?_
    refine blockAny ?_
    refine seqRegion ?_
    refine sq (r_idxS (E := EG) (l := gs) (j := i) sli68 (hGs.ext HL.chg) rfl rfl (by first | rfl | omega | (simp; omega)) (by rfl) (by omega)) ?_
    refine sq ((r_ldS (E := EG) (l := gs) (j := i) (v := (gs).getD i g0) fits99 (hGs.ext HL.chg) rfl rfl (at_getD (by omega))).as (v' := .agg #[i64 (((gs).getD i g0).k), i64 (((gs).getD i g0).a), i64 (((gs).getD i g0).b)]) rfl) ?_
    refine q_alloc (o := .cells #[i64 ((0 : Int)), i64 ((0 : Int)), i64 ((0 : Int))] 99 (0, 0)) HL zer99 (by kernel_rfl) ?_
    intro b8 w9 hb8 H10 hE11
    refine d_store (k := 0) (v := .agg #[i64 (((gs).getD i g0).k), i64 (((gs).getD i g0).a), i64 (((gs).getD i g0).b)]) (cs' := #[i64 (((gs).getD i g0).k), i64 (((gs).getD i g0).a), i64 (((gs).getD i g0).b)]) H10 rfl rfl rfl siz99 (by rfl) (by intro u hu; simp [Value.cells] at hu; first | (subst hu; rfl) | (rcases hu with rfl | rfl | rfl <;> rfl)) (by exact Nat.le_of_ble_eq_true rfl) (by rfl) ?_
    intro w12 H13 hC14
    have H13' := H13.as (L' := [(some b8, .cells #[i64 (((gs).getD i g0).k), i64 (((gs).getD i g0).a), i64 (((gs).getD i g0).b)] 99 (0, 0)), (key, sob EG 85 (gs.take i) sp), (some b1, .cells #[i64 (n), .slice ga gs.length gc, .slice oa ol.length oc] 70 (0, 0))]) rfl
    clear H13
    refine wend ?_
    refine oneRegion ?_
    refine sq (r_move (v := .slice (ownA key) i c) rfl) ?_
    refine sq (r_fieldAddr (off' := 0) fld99_0 (by decide) (b := b8) (off := 0) rfl (by omega)) ?_
    refine sq (r_loadC (v := i64 (((gs).getD i g0).k)) one97 (H13'.get (k := 0) rfl) (off := 0) rfl (by rfl)) ?_
    refine sq (r_fieldAddr (off' := 1) fld99_1 (by decide) (b := b8) (off := 0) rfl (by omega)) ?_
    refine sq (r_loadC (v := i64 (((gs).getD i g0).a)) one3 (H13'.get (k := 0) rfl) (off := 1) rfl (by rfl)) ?_
    refine sq (r_fieldAddr (off' := 2) fld99_2 (by decide) (b := b8) (off := 0) rfl (by omega)) ?_
    refine sq (r_loadC (v := i64 (((gs).getD i g0).b)) one3 (H13'.get (k := 0) rfl) (off := 2) rfl (by rfl)) ?_
    refine sq (r_build (cs' := #[i64 (((gs).getD i g0).k), i64 (((gs).getD i g0).a), i64 (((gs).getD i g0).b)]) (ps := [(0, i64 (((gs).getD i g0).k)), (1, i64 (((gs).getD i g0).a)), (2, i64 (((gs).getD i g0).b))]) zer85 pls85 rfl (by rfl)) ?_
    refine q_buildSlice (E := EG) (l := ([⟨((gs).getD i g0).k, ((gs).getD i g0).a, ((gs).getD i g0).b⟩] : List Gt)) H13' sli78 zer85 (Nat.le_of_ble_eq_true rfl) (ps := [(0, .agg #[i64 (((gs).getD i g0).k), i64 (((gs).getD i g0).a), i64 (((gs).getD i g0).b)])]) rfl (by exact fillAll rfl rfl) rfl ?_
    intro b15 w17 hS16 H18 hE19
    refine q_append (E := EG) (k := 2) (l := gs.take i) (l2 := ([⟨((gs).getD i g0).k, ((gs).getD i g0).a, ((gs).getD i g0).b⟩] : List Gt)) H18 rfl hS sli78 zer85 rfl byt85 (H18.rd (k := 0) rfl hS16) rfl (by rw [List.length_take]; omega) rfl (by rfl) (by omega) ?_
    intro key20 c21 sp22 w24 hS23 hne26 H25
    have H25' := H25.as (L' := [((some b15), sob EG 85 ([⟨((gs).getD i g0).k, ((gs).getD i g0).a, ((gs).getD i g0).b⟩] : List Gt) ([])), (some b8, .cells #[i64 (((gs).getD i g0).k), i64 (((gs).getD i g0).a), i64 (((gs).getD i g0).b)] 99 (0, 0)), (key20, sob EG 85 ((gs.take i) ++ ([⟨((gs).getD i g0).k, ((gs).getD i g0).a, ((gs).getD i g0).b⟩] : List Gt)) sp22), (some b1, .cells #[i64 (n), .slice ga gs.length gc, .slice oa ol.length oc] 70 (0, 0))]) rfl
    clear H25
    have e27 : (gs.take i) ++ ([⟨((gs).getD i g0).k, ((gs).getD i g0).a, ((gs).getD i g0).b⟩] : List Gt) = gs.take (i + 1) := by exact take_snoc gs i (by omega)
    have hS28 := hS23
    rw [e27] at hS28
    have H29 := H25'.as (L' := [((some b15), sob EG 85 ([⟨((gs).getD i g0).k, ((gs).getD i g0).a, ((gs).getD i g0).b⟩] : List Gt) ([])), (some b8, .cells #[i64 (((gs).getD i g0).k), i64 (((gs).getD i g0).a), i64 (((gs).getD i g0).b)] 99 (0, 0)), (key20, sob EG 85 (gs.take (i + 1)) sp22), (some b1, .cells #[i64 (n), .slice ga gs.length gc, .slice oa ol.length oc] 70 (0, 0))]) (by rw [e27])
    refine sq (r_assign (v := .slice (ownA key20) (i + 1) c21) rfl) ?_
    refine wnil ?_
    refine blockNormal ?_
    refine thenNormal ?_
    refine oneRegion ?_
    refine sq (r_addI (a := (i : Nat)) (b := (1 : Int)) rfl rfl (by omega)) ?_
    refine sq (r_move (v := i64 ((i : Nat) + (1 : Int))) rfl) ?_
    refine wnil ?_
    refine thenNormal ?_
    exact ⟨(i + 1, key20, c21, sp22), _, rfl, ⟨rfl, rfl, rfl, rfl, rfl, trivial⟩, ⟨by omega, hS28, ((H29.dropk 1).dropk 0)⟩, by show gs.length - (i + 1) < gs.length - i; omega⟩
  · skip
    obtain rfl : i = gs.length := by omega
    refine exitAny ?_
    refine thenExit ?_
    refine thenExit ?_
    refine blockHere ?_
    refine thenNormal ?_
    refine seqRegion ?_
    refine sq (r_move (v := .slice (ownA key) gs.length c) rfl) ?_
    refine sq (r_assign (v := .slice (ownA key) gs.length c) rfl) ?_
    refine wend ?_
    refine retAny ?_
    refine retG (rs := [.tmp 2]) (vs := [.slice (ownA key) gs.length c]) rfl ⟨⟨rfl, rfl⟩, trivial⟩ ?_
    exact ⟨_, rfl, by have h := HL.resN (k := 0) (q := gs.length) rfl hS (by rw [List.length_take]; omega); rwa [List.take_length] at h, HL.chg⟩

set_option maxHeartbeats 2000000 in
theorem good_ok (n : Int) (gs : List Gt) (ol : List Int) (ga oa : Option Addr) (gc oc : Nat) (w : World) (hGs : Rd EG w ga gs) (hOl : Rd EI w oa ol) (hgl : gs.length ≤ 140737488355328) (hol : ol.length ≤ 140737488355328) : Calls Tryd.prog 53 [i64 (n), .slice ga gs.length gc, .slice oa ol.length oc].toArray w (Ret fun v w' => ((v = .bool true ∧ IsC n gs ol) ∨ (v = .bool false ∧ ¬ IsC n gs ol)) ∧ Ext w w') := by
  have H := Hp.start No w
  refine enter (n := 107) Tryd.func53 rfl rfl (Nat.le_of_ble_eq_true rfl) ?_
  refine seqRegion ?_
  refine sq (r_assign (v := .bool (false)) rfl) ?_
  refine wend ?_
  refine seqAny ?_
  refine seqRegion ?_
  refine sq (r_move (v := i64 (n)) rfl) ?_
  refine sq (r_lssI (a := n) (b := (0 : Int)) rfl rfl) ?_
  refine sq (r_move (v := .bool (decide ((n : Int) < (0 : Int)))) rfl) ?_
  by_cases g1 : (n : Int) < (0 : Int)
  · skip
    refine skAny (wantedSome (d' := 12) (b := true) rfl rfl (congrArg Value.bool (decide_eq_true g1))) ?_
    refine skAny (wantedSome (d' := 12) (b := true) rfl rfl (congrArg Value.bool (decide_eq_true g1))) ?_
    refine sq (r_pickT (u := .bool (true)) (congrArg Value.bool (decide_eq_true g1)) rfl) ?_
    refine sq (r_move (v := .bool (true)) rfl) ?_
    refine skAny (wantedSome (d' := 16) (b := true) rfl rfl rfl) ?_
    refine skAny (wantedSome (d' := 16) (b := true) rfl rfl rfl) ?_
    refine skAny (wantedSome (d' := 16) (b := true) rfl rfl rfl) ?_
    refine sq (r_pickT (u := .bool (true)) rfl rfl) ?_
    refine sq (r_move (v := .bool (true)) rfl) ?_
    refine skAny (wantedSome (d' := 21) (b := true) rfl rfl rfl) ?_
    refine skAny (wantedSome (d' := 21) (b := true) rfl rfl rfl) ?_
    refine skAny (wantedSome (d' := 21) (b := true) rfl rfl rfl) ?_
    refine sq (r_pickT (u := .bool (true)) rfl rfl) ?_
    refine wend ?_
    refine condTrue rfl ?_
    refine seqRegion ?_
    refine sq (r_assign (v := .bool (false)) rfl) ?_
    refine wend ?_
    refine retAny ?_
    refine thenRet ?_
    refine retG (rs := [.tmp 6]) (vs := [.bool (false)]) rfl ⟨⟨rfl, rfl⟩, trivial⟩ ?_
    exact ⟨_, rfl, .inr ⟨rfl, fun hg => by have := hg.lo; have := hg.hi; have := hg.gates; have := hg.outs; omega⟩, H.chg⟩
  · skip
    refine sqAny (v := i64 (n)) (w' := w) (wantedSome (d' := 12) (b := false) rfl rfl (congrArg Value.bool (decide_eq_false g1))) (r_move (v := i64 (n)) rfl) ?_
    refine sqAny (v := .bool (decide (((4096 : Int) : Int) < n))) (w' := w) (wantedSome (d' := 12) (b := false) rfl rfl (congrArg Value.bool (decide_eq_false g1))) (r_gtrI (a := n) (b := (4096 : Int)) rfl rfl) ?_
    refine sq (r_pickF (v := .bool (decide (((4096 : Int) : Int) < n))) (congrArg Value.bool (decide_eq_false g1)) rfl) ?_
    refine sq (r_move (v := .bool (decide (((4096 : Int) : Int) < n))) rfl) ?_
    by_cases g2 : ((4096 : Int) : Int) < n
    · skip
      refine skAny (wantedSome (d' := 16) (b := true) rfl rfl (congrArg Value.bool (decide_eq_true g2))) ?_
      refine skAny (wantedSome (d' := 16) (b := true) rfl rfl (congrArg Value.bool (decide_eq_true g2))) ?_
      refine skAny (wantedSome (d' := 16) (b := true) rfl rfl (congrArg Value.bool (decide_eq_true g2))) ?_
      refine sq (r_pickT (u := .bool (true)) (congrArg Value.bool (decide_eq_true g2)) rfl) ?_
      refine sq (r_move (v := .bool (true)) rfl) ?_
      refine skAny (wantedSome (d' := 21) (b := true) rfl rfl rfl) ?_
      refine skAny (wantedSome (d' := 21) (b := true) rfl rfl rfl) ?_
      refine skAny (wantedSome (d' := 21) (b := true) rfl rfl rfl) ?_
      refine sq (r_pickT (u := .bool (true)) rfl rfl) ?_
      refine wend ?_
      refine condTrue rfl ?_
      refine seqRegion ?_
      refine sq (r_assign (v := .bool (false)) rfl) ?_
      refine wend ?_
      refine retAny ?_
      refine thenRet ?_
      refine retG (rs := [.tmp 6]) (vs := [.bool (false)]) rfl ⟨⟨rfl, rfl⟩, trivial⟩ ?_
      exact ⟨_, rfl, .inr ⟨rfl, fun hg => by have := hg.lo; have := hg.hi; have := hg.gates; have := hg.outs; omega⟩, H.chg⟩
    · skip
      refine sqAny (v := .slice ga gs.length gc) (w' := w) (wantedSome (d' := 16) (b := false) rfl rfl (congrArg Value.bool (decide_eq_false g2))) (r_move (v := .slice ga gs.length gc) rfl) ?_
      refine sqAny (v := i64 ((gs.length : Nat))) (w' := w) (wantedSome (d' := 16) (b := false) rfl rfl (congrArg Value.bool (decide_eq_false g2))) (r_lenS sli78 (a := ga) (m := gs.length) (c := gc) rfl) ?_
      refine sqAny (v := .bool (decide (((4096 : Int) : Int) < (gs.length : Nat)))) (w' := w) (wantedSome (d' := 16) (b := false) rfl rfl (congrArg Value.bool (decide_eq_false g2))) (r_gtrI (a := (gs.length : Nat)) (b := (4096 : Int)) rfl rfl) ?_
      refine sq (r_pickF (v := .bool (decide (((4096 : Int) : Int) < (gs.length : Nat)))) (congrArg Value.bool (decide_eq_false g2)) rfl) ?_
      refine sq (r_move (v := .bool (decide (((4096 : Int) : Int) < (gs.length : Nat)))) rfl) ?_
      by_cases g3 : ((4096 : Int) : Int) < (gs.length : Nat)
      · skip
        refine skAny (wantedSome (d' := 21) (b := true) rfl rfl (congrArg Value.bool (decide_eq_true g3))) ?_
        refine skAny (wantedSome (d' := 21) (b := true) rfl rfl (congrArg Value.bool (decide_eq_true g3))) ?_
        refine skAny (wantedSome (d' := 21) (b := true) rfl rfl (congrArg Value.bool (decide_eq_true g3))) ?_
        refine sq (r_pickT (u := .bool (true)) (congrArg Value.bool (decide_eq_true g3)) rfl) ?_
        refine wend ?_
        refine condTrue rfl ?_
        refine seqRegion ?_
        refine sq (r_assign (v := .bool (false)) rfl) ?_
        refine wend ?_
        refine retAny ?_
        refine thenRet ?_
        refine retG (rs := [.tmp 6]) (vs := [.bool (false)]) rfl ⟨⟨rfl, rfl⟩, trivial⟩ ?_
        exact ⟨_, rfl, .inr ⟨rfl, fun hg => by have := hg.lo; have := hg.hi; have := hg.gates; have := hg.outs; omega⟩, H.chg⟩
      · skip
        refine sqAny (v := .slice oa ol.length oc) (w' := w) (wantedSome (d' := 21) (b := false) rfl rfl (congrArg Value.bool (decide_eq_false g3))) (r_move (v := .slice oa ol.length oc) rfl) ?_
        refine sqAny (v := i64 ((ol.length : Nat))) (w' := w) (wantedSome (d' := 21) (b := false) rfl rfl (congrArg Value.bool (decide_eq_false g3))) (r_lenS sli60 (a := oa) (m := ol.length) (c := oc) rfl) ?_
        refine sqAny (v := .bool (decide (((64 : Int) : Int) < (ol.length : Nat)))) (w' := w) (wantedSome (d' := 21) (b := false) rfl rfl (congrArg Value.bool (decide_eq_false g3))) (r_gtrI (a := (ol.length : Nat)) (b := (64 : Int)) rfl rfl) ?_
        refine sq (r_pickF (v := .bool (decide (((64 : Int) : Int) < (ol.length : Nat)))) (congrArg Value.bool (decide_eq_false g3)) rfl) ?_
        refine wend ?_
        refine condProp (((64 : Int) : Int) < (ol.length : Nat)) rfl (fun c25 => ?_) (fun c25 => ?_)
        · skip
          refine seqRegion ?_
          refine sq (r_assign (v := .bool (false)) rfl) ?_
          refine wend ?_
          refine retAny ?_
          refine thenRet ?_
          refine retG (rs := [.tmp 6]) (vs := [.bool (false)]) rfl ⟨⟨rfl, rfl⟩, trivial⟩ ?_
          exact ⟨_, rfl, .inr ⟨rfl, fun hg => by have := hg.lo; have := hg.hi; have := hg.gates; have := hg.outs; omega⟩, H.chg⟩
        · skip
          refine skipAny ?_
          refine thenNormal ?_
          refine seqAny ?_
          refine seqRegion ?_
          refine sq (r_assign (v := i64 ((0 : Int))) rfl) ?_
          refine wend ?_
          refine blockAny ?_
          refine loopAny (σ := Nat) (fun i => [(0, i64 (n)), (1, .slice ga gs.length gc), (2, .slice oa ol.length oc), (7, i64 ((i : Nat)))]) (fun i w' => i ≤ gs.length ∧ (∀ j, j < i → gokP (gs.getD j g0) (n + (j : Nat))) ∧ Hp No w w' []) (fun i => gs.length - i) (0) ?_ ?_ ?_
          · exact ⟨rfl, rfl, rfl, rfl, trivial⟩
          · exact ⟨by omega, fun j hj => by omega, H⟩
          rintro i ρ w4 ⟨hi, hgs, HL⟩
          refine seqAny ?_
          refine seqRegion ?_
          refine sq (r_move (v := i64 ((i : Nat))) rfl) ?_
          refine sq (r_move (v := .slice ga gs.length gc) rfl) ?_
          refine sq (r_lenS sli78 (a := ga) (m := gs.length) (c := gc) rfl) ?_
          refine sq (r_lssI (a := (i : Nat)) (b := (gs.length : Nat)) rfl rfl) ?_
          refine wend ?_
          refine condProp (((i : Nat) : Int) < (gs.length : Nat)) rfl (fun c29 => ?_) (fun c29 => ?_)
          · skip
            refine skipAny ?_
            refine thenNormal ?_
            refine seqAny ?_
            refine blockAny ?_
            refine seqRegion ?_
            refine sq (r_move (v := .slice ga gs.length gc) rfl) ?_
            refine sq (r_move (v := i64 ((i : Nat))) rfl) ?_
            refine sq (r_idxS (E := EG) (l := gs) (j := i) sli78 (hGs.ext HL.chg) rfl rfl (by first | rfl | omega | (simp; omega)) (by rfl) (by omega)) ?_
            refine sq ((r_ldS (E := EG) (l := gs) (j := i) (v := (gs).getD i g0) fits85 (hGs.ext HL.chg) rfl rfl (at_getD (by omega))).as (v' := .agg #[i64 (((gs).getD i g0).k), i64 (((gs).getD i g0).a), i64 (((gs).getD i g0).b)]) rfl) ?_
            refine q_alloc (o := .cells #[i64 ((0 : Int)), i64 ((0 : Int)), i64 ((0 : Int))] 85 (0, 0)) HL zer85 (by kernel_rfl) ?_
            intro b6 w7 hb6 H8 hE9
            refine d_store (k := 0) (v := .agg #[i64 (((gs).getD i g0).k), i64 (((gs).getD i g0).a), i64 (((gs).getD i g0).b)]) (cs' := #[i64 (((gs).getD i g0).k), i64 (((gs).getD i g0).a), i64 (((gs).getD i g0).b)]) H8 rfl rfl rfl siz85 (by rfl) (by intro u hu; simp [Value.cells] at hu; first | (subst hu; rfl) | (rcases hu with rfl | rfl | rfl <;> rfl)) (by exact Nat.le_of_ble_eq_true rfl) (by rfl) ?_
            intro w10 H11 hC12
            have H11' := H11.as (L' := [(some b6, .cells #[i64 (((gs).getD i g0).k), i64 (((gs).getD i g0).a), i64 (((gs).getD i g0).b)] 85 (0, 0))]) rfl
            clear H11
            refine wend ?_
            refine seqRegion ?_
            refine sq (r_fieldAddr (off' := 0) fld85_0 (by decide) (b := b6) (off := 0) rfl (by omega)) ?_
            refine sq (r_loadC (v := i64 (((gs).getD i g0).k)) one3 (H11'.get (k := 0) rfl) (off := 0) rfl (by rfl)) ?_
            refine sq (r_lssI (a := ((gs).getD i g0).k) (b := (1 : Int)) rfl rfl) ?_
            refine sq (r_move (v := .bool (decide ((((gs).getD i g0).k : Int) < (1 : Int)))) rfl) ?_
            by_cases g13 : (((gs).getD i g0).k : Int) < (1 : Int)
            · skip
              refine skAny (wantedSome (d' := 39) (b := true) rfl rfl (congrArg Value.bool (decide_eq_true g13))) ?_
              refine skAny (wantedSome (d' := 39) (b := true) rfl rfl (congrArg Value.bool (decide_eq_true g13))) ?_
              refine skAny (wantedSome (d' := 39) (b := true) rfl rfl (congrArg Value.bool (decide_eq_true g13))) ?_
              refine sq (r_pickT (u := .bool (true)) (congrArg Value.bool (decide_eq_true g13)) rfl) ?_
              refine sq (r_move (v := .bool (true)) rfl) ?_
              refine skAny (wantedSome (d' := 44) (b := true) rfl rfl rfl) ?_
              refine skAny (wantedSome (d' := 44) (b := true) rfl rfl rfl) ?_
              refine skAny (wantedSome (d' := 44) (b := true) rfl rfl rfl) ?_
              refine sq (r_pickT (u := .bool (true)) rfl rfl) ?_
              refine sq (r_move (v := .bool (true)) rfl) ?_
              refine skAny (wantedSome (d' := 49) (b := true) rfl rfl rfl) ?_
              refine skAny (wantedSome (d' := 49) (b := true) rfl rfl rfl) ?_
              refine skAny (wantedSome (d' := 49) (b := true) rfl rfl rfl) ?_
              refine skAny (wantedSome (d' := 49) (b := true) rfl rfl rfl) ?_
              refine skAny (wantedSome (d' := 49) (b := true) rfl rfl rfl) ?_
              refine skAny (wantedSome (d' := 49) (b := true) rfl rfl rfl) ?_
              refine sq (r_pickT (u := .bool (true)) rfl rfl) ?_
              refine sq (r_move (v := .bool (true)) rfl) ?_
              refine skAny (wantedSome (d' := 57) (b := true) rfl rfl rfl) ?_
              refine skAny (wantedSome (d' := 57) (b := true) rfl rfl rfl) ?_
              refine skAny (wantedSome (d' := 57) (b := true) rfl rfl rfl) ?_
              refine sq (r_pickT (u := .bool (true)) rfl rfl) ?_
              refine sq (r_move (v := .bool (true)) rfl) ?_
              refine skAny (wantedSome (d' := 62) (b := true) rfl rfl rfl) ?_
              refine skAny (wantedSome (d' := 62) (b := true) rfl rfl rfl) ?_
              refine skAny (wantedSome (d' := 62) (b := true) rfl rfl rfl) ?_
              refine skAny (wantedSome (d' := 62) (b := true) rfl rfl rfl) ?_
              refine skAny (wantedUndef (d' := 66) rfl rfl rfl) ?_
              refine skAny (wantedUndef (d' := 66) rfl rfl rfl) ?_
              refine skAny (wantedUndef (d' := 66) rfl rfl rfl) ?_
              refine skAny (wantedUndef (d' := 66) rfl rfl rfl) ?_
              refine skAny (wantedUndef (d' := 66) rfl rfl rfl) ?_
              refine skAny (wantedUndef (d' := 66) rfl rfl rfl) ?_
              refine skAny (wantedSome (d' := 62) (b := true) rfl rfl rfl) ?_
              refine sq (r_pickT (u := .bool (true)) rfl rfl) ?_
              refine sq (r_move (v := .bool (true)) rfl) ?_
              refine skAny (wantedSome (d' := 75) (b := true) rfl rfl rfl) ?_
              refine skAny (wantedSome (d' := 75) (b := true) rfl rfl rfl) ?_
              refine skAny (wantedSome (d' := 75) (b := true) rfl rfl rfl) ?_
              refine skAny (wantedSome (d' := 75) (b := true) rfl rfl rfl) ?_
              refine skAny (wantedUndef (d' := 79) rfl rfl rfl) ?_
              refine skAny (wantedUndef (d' := 79) rfl rfl rfl) ?_
              refine skAny (wantedUndef (d' := 79) rfl rfl rfl) ?_
              refine skAny (wantedSome (d' := 75) (b := true) rfl rfl rfl) ?_
              refine sq (r_pickT (u := .bool (true)) rfl rfl) ?_
              refine wend ?_
              refine condTrue rfl ?_
              refine seqRegion ?_
              refine sq (r_assign (v := .bool (false)) rfl) ?_
              refine wend ?_
              refine retAny ?_
              refine blockRet ?_
              refine thenRet ?_
              refine thenRet ?_
              refine blockRet ?_
              refine thenRet ?_
              refine retG (rs := [.tmp 6]) (vs := [.bool (false)]) rfl ⟨⟨rfl, rfl⟩, trivial⟩ ?_
              exact ⟨_, rfl, .inr ⟨rfl, fun hg => by have := hg.gok i (by omega); unfold gokP at this; omega⟩, H11'.chg⟩
            · skip
              refine sqAny (v := .pointer (some ⟨b6, 0, none⟩)) (w' := w10) (wantedSome (d' := 39) (b := false) rfl rfl (congrArg Value.bool (decide_eq_false g13))) (r_fieldAddr (off' := 0) fld85_0 (by decide) (b := b6) (off := 0) rfl (by omega)) ?_
              refine sqAny (v := i64 (((gs).getD i g0).k)) (w' := w10) (wantedSome (d' := 39) (b := false) rfl rfl (congrArg Value.bool (decide_eq_false g13))) (r_loadC (v := i64 (((gs).getD i g0).k)) one3 (H11'.get (k := 0) rfl) (off := 0) rfl (by rfl)) ?_
              refine sqAny (v := .bool (decide (((3 : Int) : Int) < (((gs).getD i g0).k)))) (w' := w10) (wantedSome (d' := 39) (b := false) rfl rfl (congrArg Value.bool (decide_eq_false g13))) (r_gtrI (a := ((gs).getD i g0).k) (b := (3 : Int)) rfl rfl) ?_
              refine sq (r_pickF (v := .bool (decide (((3 : Int) : Int) < (((gs).getD i g0).k)))) (congrArg Value.bool (decide_eq_false g13)) rfl) ?_
              refine sq (r_move (v := .bool (decide (((3 : Int) : Int) < (((gs).getD i g0).k)))) rfl) ?_
              by_cases g14 : ((3 : Int) : Int) < (((gs).getD i g0).k)
              · skip
                refine skAny (wantedSome (d' := 44) (b := true) rfl rfl (congrArg Value.bool (decide_eq_true g14))) ?_
                refine skAny (wantedSome (d' := 44) (b := true) rfl rfl (congrArg Value.bool (decide_eq_true g14))) ?_
                refine skAny (wantedSome (d' := 44) (b := true) rfl rfl (congrArg Value.bool (decide_eq_true g14))) ?_
                refine sq (r_pickT (u := .bool (true)) (congrArg Value.bool (decide_eq_true g14)) rfl) ?_
                refine sq (r_move (v := .bool (true)) rfl) ?_
                refine skAny (wantedSome (d' := 49) (b := true) rfl rfl rfl) ?_
                refine skAny (wantedSome (d' := 49) (b := true) rfl rfl rfl) ?_
                refine skAny (wantedSome (d' := 49) (b := true) rfl rfl rfl) ?_
                refine skAny (wantedSome (d' := 49) (b := true) rfl rfl rfl) ?_
                refine skAny (wantedSome (d' := 49) (b := true) rfl rfl rfl) ?_
                refine skAny (wantedSome (d' := 49) (b := true) rfl rfl rfl) ?_
                refine sq (r_pickT (u := .bool (true)) rfl rfl) ?_
                refine sq (r_move (v := .bool (true)) rfl) ?_
                refine skAny (wantedSome (d' := 57) (b := true) rfl rfl rfl) ?_
                refine skAny (wantedSome (d' := 57) (b := true) rfl rfl rfl) ?_
                refine skAny (wantedSome (d' := 57) (b := true) rfl rfl rfl) ?_
                refine sq (r_pickT (u := .bool (true)) rfl rfl) ?_
                refine sq (r_move (v := .bool (true)) rfl) ?_
                refine skAny (wantedSome (d' := 62) (b := true) rfl rfl rfl) ?_
                refine skAny (wantedSome (d' := 62) (b := true) rfl rfl rfl) ?_
                refine skAny (wantedSome (d' := 62) (b := true) rfl rfl rfl) ?_
                refine skAny (wantedSome (d' := 62) (b := true) rfl rfl rfl) ?_
                refine skAny (wantedUndef (d' := 66) rfl rfl rfl) ?_
                refine skAny (wantedUndef (d' := 66) rfl rfl rfl) ?_
                refine skAny (wantedUndef (d' := 66) rfl rfl rfl) ?_
                refine skAny (wantedUndef (d' := 66) rfl rfl rfl) ?_
                refine skAny (wantedUndef (d' := 66) rfl rfl rfl) ?_
                refine skAny (wantedUndef (d' := 66) rfl rfl rfl) ?_
                refine skAny (wantedSome (d' := 62) (b := true) rfl rfl rfl) ?_
                refine sq (r_pickT (u := .bool (true)) rfl rfl) ?_
                refine sq (r_move (v := .bool (true)) rfl) ?_
                refine skAny (wantedSome (d' := 75) (b := true) rfl rfl rfl) ?_
                refine skAny (wantedSome (d' := 75) (b := true) rfl rfl rfl) ?_
                refine skAny (wantedSome (d' := 75) (b := true) rfl rfl rfl) ?_
                refine skAny (wantedSome (d' := 75) (b := true) rfl rfl rfl) ?_
                refine skAny (wantedUndef (d' := 79) rfl rfl rfl) ?_
                refine skAny (wantedUndef (d' := 79) rfl rfl rfl) ?_
                refine skAny (wantedUndef (d' := 79) rfl rfl rfl) ?_
                refine skAny (wantedSome (d' := 75) (b := true) rfl rfl rfl) ?_
                refine sq (r_pickT (u := .bool (true)) rfl rfl) ?_
                refine wend ?_
                refine condTrue rfl ?_
                refine seqRegion ?_
                refine sq (r_assign (v := .bool (false)) rfl) ?_
                refine wend ?_
                refine retAny ?_
                refine blockRet ?_
                refine thenRet ?_
                refine thenRet ?_
                refine blockRet ?_
                refine thenRet ?_
                refine retG (rs := [.tmp 6]) (vs := [.bool (false)]) rfl ⟨⟨rfl, rfl⟩, trivial⟩ ?_
                exact ⟨_, rfl, .inr ⟨rfl, fun hg => by have := hg.gok i (by omega); unfold gokP at this; omega⟩, H11'.chg⟩
              · skip
                refine sqAny (v := .pointer (some ⟨b6, 1, none⟩)) (w' := w10) (wantedSome (d' := 44) (b := false) rfl rfl (congrArg Value.bool (decide_eq_false g14))) (r_fieldAddr (off' := 1) fld85_1 (by decide) (b := b6) (off := 0) rfl (by omega)) ?_
                refine sqAny (v := i64 (((gs).getD i g0).a)) (w' := w10) (wantedSome (d' := 44) (b := false) rfl rfl (congrArg Value.bool (decide_eq_false g14))) (r_loadC (v := i64 (((gs).getD i g0).a)) one3 (H11'.get (k := 0) rfl) (off := 1) rfl (by rfl)) ?_
                refine sqAny (v := .bool (decide ((((gs).getD i g0).a : Int) < (0 : Int)))) (w' := w10) (wantedSome (d' := 44) (b := false) rfl rfl (congrArg Value.bool (decide_eq_false g14))) (r_lssI (a := ((gs).getD i g0).a) (b := (0 : Int)) rfl rfl) ?_
                refine sq (r_pickF (v := .bool (decide ((((gs).getD i g0).a : Int) < (0 : Int)))) (congrArg Value.bool (decide_eq_false g14)) rfl) ?_
                refine sq (r_move (v := .bool (decide ((((gs).getD i g0).a : Int) < (0 : Int)))) rfl) ?_
                by_cases g15 : (((gs).getD i g0).a : Int) < (0 : Int)
                · skip
                  refine skAny (wantedSome (d' := 49) (b := true) rfl rfl (congrArg Value.bool (decide_eq_true g15))) ?_
                  refine skAny (wantedSome (d' := 49) (b := true) rfl rfl (congrArg Value.bool (decide_eq_true g15))) ?_
                  refine skAny (wantedSome (d' := 49) (b := true) rfl rfl (congrArg Value.bool (decide_eq_true g15))) ?_
                  refine skAny (wantedSome (d' := 49) (b := true) rfl rfl (congrArg Value.bool (decide_eq_true g15))) ?_
                  refine skAny (wantedSome (d' := 49) (b := true) rfl rfl (congrArg Value.bool (decide_eq_true g15))) ?_
                  refine skAny (wantedSome (d' := 49) (b := true) rfl rfl (congrArg Value.bool (decide_eq_true g15))) ?_
                  refine sq (r_pickT (u := .bool (true)) (congrArg Value.bool (decide_eq_true g15)) rfl) ?_
                  refine sq (r_move (v := .bool (true)) rfl) ?_
                  refine skAny (wantedSome (d' := 57) (b := true) rfl rfl rfl) ?_
                  refine skAny (wantedSome (d' := 57) (b := true) rfl rfl rfl) ?_
                  refine skAny (wantedSome (d' := 57) (b := true) rfl rfl rfl) ?_
                  refine sq (r_pickT (u := .bool (true)) rfl rfl) ?_
                  refine sq (r_move (v := .bool (true)) rfl) ?_
                  refine skAny (wantedSome (d' := 62) (b := true) rfl rfl rfl) ?_
                  refine skAny (wantedSome (d' := 62) (b := true) rfl rfl rfl) ?_
                  refine skAny (wantedSome (d' := 62) (b := true) rfl rfl rfl) ?_
                  refine skAny (wantedSome (d' := 62) (b := true) rfl rfl rfl) ?_
                  refine skAny (wantedUndef (d' := 66) rfl rfl rfl) ?_
                  refine skAny (wantedUndef (d' := 66) rfl rfl rfl) ?_
                  refine skAny (wantedUndef (d' := 66) rfl rfl rfl) ?_
                  refine skAny (wantedUndef (d' := 66) rfl rfl rfl) ?_
                  refine skAny (wantedUndef (d' := 66) rfl rfl rfl) ?_
                  refine skAny (wantedUndef (d' := 66) rfl rfl rfl) ?_
                  refine skAny (wantedSome (d' := 62) (b := true) rfl rfl rfl) ?_
                  refine sq (r_pickT (u := .bool (true)) rfl rfl) ?_
                  refine sq (r_move (v := .bool (true)) rfl) ?_
                  refine skAny (wantedSome (d' := 75) (b := true) rfl rfl rfl) ?_
                  refine skAny (wantedSome (d' := 75) (b := true) rfl rfl rfl) ?_
                  refine skAny (wantedSome (d' := 75) (b := true) rfl rfl rfl) ?_
                  refine skAny (wantedSome (d' := 75) (b := true) rfl rfl rfl) ?_
                  refine skAny (wantedUndef (d' := 79) rfl rfl rfl) ?_
                  refine skAny (wantedUndef (d' := 79) rfl rfl rfl) ?_
                  refine skAny (wantedUndef (d' := 79) rfl rfl rfl) ?_
                  refine skAny (wantedSome (d' := 75) (b := true) rfl rfl rfl) ?_
                  refine sq (r_pickT (u := .bool (true)) rfl rfl) ?_
                  refine wend ?_
                  refine condTrue rfl ?_
                  refine seqRegion ?_
                  refine sq (r_assign (v := .bool (false)) rfl) ?_
                  refine wend ?_
                  refine retAny ?_
                  refine blockRet ?_
                  refine thenRet ?_
                  refine thenRet ?_
                  refine blockRet ?_
                  refine thenRet ?_
                  refine retG (rs := [.tmp 6]) (vs := [.bool (false)]) rfl ⟨⟨rfl, rfl⟩, trivial⟩ ?_
                  exact ⟨_, rfl, .inr ⟨rfl, fun hg => by have := hg.gok i (by omega); unfold gokP at this; omega⟩, H11'.chg⟩
                · skip
                  refine sqAny (v := .pointer (some ⟨b6, 1, none⟩)) (w' := w10) (wantedSome (d' := 49) (b := false) rfl rfl (congrArg Value.bool (decide_eq_false g15))) (r_fieldAddr (off' := 1) fld85_1 (by decide) (b := b6) (off := 0) rfl (by omega)) ?_
                  refine sqAny (v := i64 (((gs).getD i g0).a)) (w' := w10) (wantedSome (d' := 49) (b := false) rfl rfl (congrArg Value.bool (decide_eq_false g15))) (r_loadC (v := i64 (((gs).getD i g0).a)) one3 (H11'.get (k := 0) rfl) (off := 1) rfl (by rfl)) ?_
                  refine sqAny (v := i64 (n)) (w' := w10) (wantedSome (d' := 49) (b := false) rfl rfl (congrArg Value.bool (decide_eq_false g15))) (r_move (v := i64 (n)) rfl) ?_
                  refine sqAny (v := i64 ((i : Nat))) (w' := w10) (wantedSome (d' := 49) (b := false) rfl rfl (congrArg Value.bool (decide_eq_false g15))) (r_move (v := i64 ((i : Nat))) rfl) ?_
                  refine sqAny (v := i64 (n + (i : Nat))) (w' := w10) (wantedSome (d' := 49) (b := false) rfl rfl (congrArg Value.bool (decide_eq_false g15))) (r_addI (a := n) (b := (i : Nat)) rfl rfl (by omega)) ?_
                  refine sqAny (v := .bool (decide ((n + (i : Nat) : Int) ≤ (((gs).getD i g0).a)))) (w' := w10) (wantedSome (d' := 49) (b := false) rfl rfl (congrArg Value.bool (decide_eq_false g15))) (r_geqI (a := ((gs).getD i g0).a) (b := n + (i : Nat)) rfl rfl) ?_
                  refine sq (r_pickF (v := .bool (decide ((n + (i : Nat) : Int) ≤ (((gs).getD i g0).a)))) (congrArg Value.bool (decide_eq_false g15)) rfl) ?_
                  refine sq (r_move (v := .bool (decide ((n + (i : Nat) : Int) ≤ (((gs).getD i g0).a)))) rfl) ?_
                  by_cases g16 : (n + (i : Nat) : Int) ≤ (((gs).getD i g0).a)
                  · skip
                    refine skAny (wantedSome (d' := 57) (b := true) rfl rfl (congrArg Value.bool (decide_eq_true g16))) ?_
                    refine skAny (wantedSome (d' := 57) (b := true) rfl rfl (congrArg Value.bool (decide_eq_true g16))) ?_
                    refine skAny (wantedSome (d' := 57) (b := true) rfl rfl (congrArg Value.bool (decide_eq_true g16))) ?_
                    refine sq (r_pickT (u := .bool (true)) (congrArg Value.bool (decide_eq_true g16)) rfl) ?_
                    refine sq (r_move (v := .bool (true)) rfl) ?_
                    refine skAny (wantedSome (d' := 62) (b := true) rfl rfl rfl) ?_
                    refine skAny (wantedSome (d' := 62) (b := true) rfl rfl rfl) ?_
                    refine skAny (wantedSome (d' := 62) (b := true) rfl rfl rfl) ?_
                    refine skAny (wantedSome (d' := 62) (b := true) rfl rfl rfl) ?_
                    refine skAny (wantedUndef (d' := 66) rfl rfl rfl) ?_
                    refine skAny (wantedUndef (d' := 66) rfl rfl rfl) ?_
                    refine skAny (wantedUndef (d' := 66) rfl rfl rfl) ?_
                    refine skAny (wantedUndef (d' := 66) rfl rfl rfl) ?_
                    refine skAny (wantedUndef (d' := 66) rfl rfl rfl) ?_
                    refine skAny (wantedUndef (d' := 66) rfl rfl rfl) ?_
                    refine skAny (wantedSome (d' := 62) (b := true) rfl rfl rfl) ?_
                    refine sq (r_pickT (u := .bool (true)) rfl rfl) ?_
                    refine sq (r_move (v := .bool (true)) rfl) ?_
                    refine skAny (wantedSome (d' := 75) (b := true) rfl rfl rfl) ?_
                    refine skAny (wantedSome (d' := 75) (b := true) rfl rfl rfl) ?_
                    refine skAny (wantedSome (d' := 75) (b := true) rfl rfl rfl) ?_
                    refine skAny (wantedSome (d' := 75) (b := true) rfl rfl rfl) ?_
                    refine skAny (wantedUndef (d' := 79) rfl rfl rfl) ?_
                    refine skAny (wantedUndef (d' := 79) rfl rfl rfl) ?_
                    refine skAny (wantedUndef (d' := 79) rfl rfl rfl) ?_
                    refine skAny (wantedSome (d' := 75) (b := true) rfl rfl rfl) ?_
                    refine sq (r_pickT (u := .bool (true)) rfl rfl) ?_
                    refine wend ?_
                    refine condTrue rfl ?_
                    refine seqRegion ?_
                    refine sq (r_assign (v := .bool (false)) rfl) ?_
                    refine wend ?_
                    refine retAny ?_
                    refine blockRet ?_
                    refine thenRet ?_
                    refine thenRet ?_
                    refine blockRet ?_
                    refine thenRet ?_
                    refine retG (rs := [.tmp 6]) (vs := [.bool (false)]) rfl ⟨⟨rfl, rfl⟩, trivial⟩ ?_
                    exact ⟨_, rfl, .inr ⟨rfl, fun hg => by have := hg.gok i (by omega); unfold gokP at this; omega⟩, H11'.chg⟩
                  · skip
                    refine sqAny (v := .pointer (some ⟨b6, 2, none⟩)) (w' := w10) (wantedSome (d' := 57) (b := false) rfl rfl (congrArg Value.bool (decide_eq_false g16))) (r_fieldAddr (off' := 2) fld85_2 (by decide) (b := b6) (off := 0) rfl (by omega)) ?_
                    refine sqAny (v := i64 (((gs).getD i g0).b)) (w' := w10) (wantedSome (d' := 57) (b := false) rfl rfl (congrArg Value.bool (decide_eq_false g16))) (r_loadC (v := i64 (((gs).getD i g0).b)) one3 (H11'.get (k := 0) rfl) (off := 2) rfl (by rfl)) ?_
                    refine sqAny (v := .bool (decide ((((gs).getD i g0).b : Int) < (0 : Int)))) (w' := w10) (wantedSome (d' := 57) (b := false) rfl rfl (congrArg Value.bool (decide_eq_false g16))) (r_lssI (a := ((gs).getD i g0).b) (b := (0 : Int)) rfl rfl) ?_
                    refine sq (r_pickF (v := .bool (decide ((((gs).getD i g0).b : Int) < (0 : Int)))) (congrArg Value.bool (decide_eq_false g16)) rfl) ?_
                    refine sq (r_move (v := .bool (decide ((((gs).getD i g0).b : Int) < (0 : Int)))) rfl) ?_
                    by_cases g17 : (((gs).getD i g0).b : Int) < (0 : Int)
                    · skip
                      refine skAny (wantedSome (d' := 62) (b := true) rfl rfl (congrArg Value.bool (decide_eq_true g17))) ?_
                      refine skAny (wantedSome (d' := 62) (b := true) rfl rfl (congrArg Value.bool (decide_eq_true g17))) ?_
                      refine skAny (wantedSome (d' := 62) (b := true) rfl rfl (congrArg Value.bool (decide_eq_true g17))) ?_
                      refine skAny (wantedSome (d' := 62) (b := true) rfl rfl (congrArg Value.bool (decide_eq_true g17))) ?_
                      refine skAny (wantedUndef (d' := 66) rfl rfl rfl) ?_
                      refine skAny (wantedUndef (d' := 66) rfl rfl rfl) ?_
                      refine skAny (wantedUndef (d' := 66) rfl rfl rfl) ?_
                      refine skAny (wantedUndef (d' := 66) rfl rfl rfl) ?_
                      refine skAny (wantedUndef (d' := 66) rfl rfl rfl) ?_
                      refine skAny (wantedUndef (d' := 66) rfl rfl rfl) ?_
                      refine skAny (wantedSome (d' := 62) (b := true) rfl rfl (congrArg Value.bool (decide_eq_true g17))) ?_
                      refine sq (r_pickT (u := .bool (true)) (congrArg Value.bool (decide_eq_true g17)) rfl) ?_
                      refine sq (r_move (v := .bool (true)) rfl) ?_
                      refine skAny (wantedSome (d' := 75) (b := true) rfl rfl rfl) ?_
                      refine skAny (wantedSome (d' := 75) (b := true) rfl rfl rfl) ?_
                      refine skAny (wantedSome (d' := 75) (b := true) rfl rfl rfl) ?_
                      refine skAny (wantedSome (d' := 75) (b := true) rfl rfl rfl) ?_
                      refine skAny (wantedUndef (d' := 79) rfl rfl rfl) ?_
                      refine skAny (wantedUndef (d' := 79) rfl rfl rfl) ?_
                      refine skAny (wantedUndef (d' := 79) rfl rfl rfl) ?_
                      refine skAny (wantedSome (d' := 75) (b := true) rfl rfl rfl) ?_
                      refine sq (r_pickT (u := .bool (true)) rfl rfl) ?_
                      refine wend ?_
                      refine condTrue rfl ?_
                      refine seqRegion ?_
                      refine sq (r_assign (v := .bool (false)) rfl) ?_
                      refine wend ?_
                      refine retAny ?_
                      refine blockRet ?_
                      refine thenRet ?_
                      refine thenRet ?_
                      refine blockRet ?_
                      refine thenRet ?_
                      refine retG (rs := [.tmp 6]) (vs := [.bool (false)]) rfl ⟨⟨rfl, rfl⟩, trivial⟩ ?_
                      exact ⟨_, rfl, .inr ⟨rfl, fun hg => by have := hg.gok i (by omega); unfold gokP at this; omega⟩, H11'.chg⟩
                    · skip
                      refine sqAny (v := .pointer (some ⟨b6, 0, none⟩)) (w' := w10) (wantedSome (d' := 62) (b := false) rfl rfl (congrArg Value.bool (decide_eq_false g17))) (r_fieldAddr (off' := 0) fld85_0 (by decide) (b := b6) (off := 0) rfl (by omega)) ?_
                      refine sqAny (v := i64 (((gs).getD i g0).k)) (w' := w10) (wantedSome (d' := 62) (b := false) rfl rfl (congrArg Value.bool (decide_eq_false g17))) (r_loadC (v := i64 (((gs).getD i g0).k)) one3 (H11'.get (k := 0) rfl) (off := 0) rfl (by rfl)) ?_
                      refine sqAny (v := .bool (decide ((((gs).getD i g0).k : Int) < (3 : Int)))) (w' := w10) (wantedSome (d' := 62) (b := false) rfl rfl (congrArg Value.bool (decide_eq_false g17))) (r_lssI (a := ((gs).getD i g0).k) (b := (3 : Int)) rfl rfl) ?_
                      refine sqAny (v := .bool (decide ((((gs).getD i g0).k : Int) < (3 : Int)))) (w' := w10) (wantedSome (d' := 62) (b := false) rfl rfl (congrArg Value.bool (decide_eq_false g17))) (r_move (v := .bool (decide ((((gs).getD i g0).k : Int) < (3 : Int)))) rfl) ?_
                      by_cases g18 : (((gs).getD i g0).k : Int) < (3 : Int)
                      · skip
                        refine sqAny (v := .pointer (some ⟨b6, 2, none⟩)) (w' := w10) (wantedSome (d' := 66) (b := true) rfl rfl (congrArg Value.bool (decide_eq_true g18))) (r_fieldAddr (off' := 2) fld85_2 (by decide) (b := b6) (off := 0) rfl (by omega)) ?_
                        refine sqAny (v := i64 (((gs).getD i g0).b)) (w' := w10) (wantedSome (d' := 66) (b := true) rfl rfl (congrArg Value.bool (decide_eq_true g18))) (r_loadC (v := i64 (((gs).getD i g0).b)) one3 (H11'.get (k := 0) rfl) (off := 2) rfl (by rfl)) ?_
                        refine sqAny (v := i64 (n)) (w' := w10) (wantedSome (d' := 66) (b := true) rfl rfl (congrArg Value.bool (decide_eq_true g18))) (r_move (v := i64 (n)) rfl) ?_
                        refine sqAny (v := i64 ((i : Nat))) (w' := w10) (wantedSome (d' := 66) (b := true) rfl rfl (congrArg Value.bool (decide_eq_true g18))) (r_move (v := i64 ((i : Nat))) rfl) ?_
                        refine sqAny (v := i64 (n + (i : Nat))) (w' := w10) (wantedSome (d' := 66) (b := true) rfl rfl (congrArg Value.bool (decide_eq_true g18))) (r_addI (a := n) (b := (i : Nat)) rfl rfl (by omega)) ?_
                        refine sqAny (v := .bool (decide ((n + (i : Nat) : Int) ≤ (((gs).getD i g0).b)))) (w' := w10) (wantedSome (d' := 66) (b := true) rfl rfl (congrArg Value.bool (decide_eq_true g18))) (r_geqI (a := ((gs).getD i g0).b) (b := n + (i : Nat)) rfl rfl) ?_
                        refine sqAny (v := .bool (decide ((n + (i : Nat) : Int) ≤ (((gs).getD i g0).b)))) (w' := w10) (wantedSome (d' := 62) (b := false) rfl rfl (congrArg Value.bool (decide_eq_false g17))) (r_pickT (u := .bool (decide ((n + (i : Nat) : Int) ≤ (((gs).getD i g0).b)))) (congrArg Value.bool (decide_eq_true g18)) rfl) ?_
                        refine sq (r_pickF (v := .bool (decide ((n + (i : Nat) : Int) ≤ (((gs).getD i g0).b)))) (congrArg Value.bool (decide_eq_false g17)) rfl) ?_
                        refine sq (r_move (v := .bool (decide ((n + (i : Nat) : Int) ≤ (((gs).getD i g0).b)))) rfl) ?_
                        by_cases g19 : (n + (i : Nat) : Int) ≤ (((gs).getD i g0).b)
                        · skip
                          refine skAny (wantedSome (d' := 75) (b := true) rfl rfl (congrArg Value.bool (decide_eq_true g19))) ?_
                          refine skAny (wantedSome (d' := 75) (b := true) rfl rfl (congrArg Value.bool (decide_eq_true g19))) ?_
                          refine skAny (wantedSome (d' := 75) (b := true) rfl rfl (congrArg Value.bool (decide_eq_true g19))) ?_
                          refine skAny (wantedSome (d' := 75) (b := true) rfl rfl (congrArg Value.bool (decide_eq_true g19))) ?_
                          refine skAny (wantedUndef (d' := 79) rfl rfl rfl) ?_
                          refine skAny (wantedUndef (d' := 79) rfl rfl rfl) ?_
                          refine skAny (wantedUndef (d' := 79) rfl rfl rfl) ?_
                          refine skAny (wantedSome (d' := 75) (b := true) rfl rfl (congrArg Value.bool (decide_eq_true g19))) ?_
                          refine sq (r_pickT (u := .bool (true)) (congrArg Value.bool (decide_eq_true g19)) rfl) ?_
                          refine wend ?_
                          refine condTrue rfl ?_
                          refine seqRegion ?_
                          refine sq (r_assign (v := .bool (false)) rfl) ?_
                          refine wend ?_
                          refine retAny ?_
                          refine blockRet ?_
                          refine thenRet ?_
                          refine thenRet ?_
                          refine blockRet ?_
                          refine thenRet ?_
                          refine retG (rs := [.tmp 6]) (vs := [.bool (false)]) rfl ⟨⟨rfl, rfl⟩, trivial⟩ ?_
                          exact ⟨_, rfl, .inr ⟨rfl, fun hg => by have := hg.gok i (by omega); unfold gokP at this; omega⟩, H11'.chg⟩
                        · skip
                          refine sqAny (v := .pointer (some ⟨b6, 0, none⟩)) (w' := w10) (wantedSome (d' := 75) (b := false) rfl rfl (congrArg Value.bool (decide_eq_false g19))) (r_fieldAddr (off' := 0) fld85_0 (by decide) (b := b6) (off := 0) rfl (by omega)) ?_
                          refine sqAny (v := i64 (((gs).getD i g0).k)) (w' := w10) (wantedSome (d' := 75) (b := false) rfl rfl (congrArg Value.bool (decide_eq_false g19))) (r_loadC (v := i64 (((gs).getD i g0).k)) one3 (H11'.get (k := 0) rfl) (off := 0) rfl (by rfl)) ?_
                          refine sqAny (v := .bool (decide ((((gs).getD i g0).k : Int) = (3 : Int)))) (w' := w10) (wantedSome (d' := 75) (b := false) rfl rfl (congrArg Value.bool (decide_eq_false g19))) (r_eqlI (a := ((gs).getD i g0).k) (b := (3 : Int)) rfl rfl) ?_
                          refine sqAny (v := .bool (decide ((((gs).getD i g0).k : Int) = (3 : Int)))) (w' := w10) (wantedSome (d' := 75) (b := false) rfl rfl (congrArg Value.bool (decide_eq_false g19))) (r_move (v := .bool (decide ((((gs).getD i g0).k : Int) = (3 : Int)))) rfl) ?_
                          by_cases g20 : (((gs).getD i g0).k : Int) = (3 : Int)
                          · skip
                            refine sqAny (v := .pointer (some ⟨b6, 2, none⟩)) (w' := w10) (wantedSome (d' := 79) (b := true) rfl rfl (congrArg Value.bool (decide_eq_true g20))) (r_fieldAddr (off' := 2) fld85_2 (by decide) (b := b6) (off := 0) rfl (by omega)) ?_
                            refine sqAny (v := i64 (((gs).getD i g0).b)) (w' := w10) (wantedSome (d' := 79) (b := true) rfl rfl (congrArg Value.bool (decide_eq_true g20))) (r_loadC (v := i64 (((gs).getD i g0).b)) one3 (H11'.get (k := 0) rfl) (off := 2) rfl (by rfl)) ?_
                            refine sqAny (v := .bool (decide ((((gs).getD i g0).b : Int) ≠ (0 : Int)))) (w' := w10) (wantedSome (d' := 79) (b := true) rfl rfl (congrArg Value.bool (decide_eq_true g20))) (r_neqI (a := ((gs).getD i g0).b) (b := (0 : Int)) rfl rfl) ?_
                            refine sqAny (v := .bool (decide ((((gs).getD i g0).b : Int) ≠ (0 : Int)))) (w' := w10) (wantedSome (d' := 75) (b := false) rfl rfl (congrArg Value.bool (decide_eq_false g19))) (r_pickT (u := .bool (decide ((((gs).getD i g0).b : Int) ≠ (0 : Int)))) (congrArg Value.bool (decide_eq_true g20)) rfl) ?_
                            refine sq (r_pickF (v := .bool (decide ((((gs).getD i g0).b : Int) ≠ (0 : Int)))) (congrArg Value.bool (decide_eq_false g19)) rfl) ?_
                            refine wend ?_
                            refine condProp ((((gs).getD i g0).b : Int) ≠ (0 : Int)) rfl (fun c84 => ?_) (fun c84 => ?_)
                            · skip
                              refine seqRegion ?_
                              refine sq (r_assign (v := .bool (false)) rfl) ?_
                              refine wend ?_
                              refine retAny ?_
                              refine blockRet ?_
                              refine thenRet ?_
                              refine thenRet ?_
                              refine blockRet ?_
                              refine thenRet ?_
                              refine retG (rs := [.tmp 6]) (vs := [.bool (false)]) rfl ⟨⟨rfl, rfl⟩, trivial⟩ ?_
                              exact ⟨_, rfl, .inr ⟨rfl, fun hg => by have := hg.gok i (by omega); unfold gokP at this; omega⟩, H11'.chg⟩
                            · skip
                              refine skipAny ?_
                              refine blockNormal ?_
                              refine thenNormal ?_
                              refine oneRegion ?_
                              refine sq (r_move (v := i64 ((i : Nat))) rfl) ?_
                              refine sq (r_addI (a := (i : Nat)) (b := (1 : Int)) rfl rfl (by omega)) ?_
                              refine sq (r_assign (v := i64 ((i : Nat) + (1 : Int))) rfl) ?_
                              refine wnil ?_
                              refine thenNormal ?_
                              have hgi : gokP (gs.getD i g0) (n + (i : Nat)) := by unfold gokP; omega
                              exact ⟨i + 1, _, rfl, ⟨rfl, rfl, rfl, rfl, trivial⟩, ⟨by omega, fun j hj => if h : j < i then hgs j h else by (rw [show j = i by omega]; exact hgi), (H11'.dropk 0)⟩, by show gs.length - (i + 1) < gs.length - i; omega⟩
                          · skip
                            refine skAny (wantedSome (d' := 79) (b := false) rfl rfl (congrArg Value.bool (decide_eq_false g20))) ?_
                            refine skAny (wantedSome (d' := 79) (b := false) rfl rfl (congrArg Value.bool (decide_eq_false g20))) ?_
                            refine skAny (wantedSome (d' := 79) (b := false) rfl rfl (congrArg Value.bool (decide_eq_false g20))) ?_
                            refine sqAny (v := .bool (false)) (w' := w10) (wantedSome (d' := 75) (b := false) rfl rfl (congrArg Value.bool (decide_eq_false g19))) (r_pickF (v := .bool (false)) (congrArg Value.bool (decide_eq_false g20)) rfl) ?_
                            refine sq (r_pickF (v := .bool (false)) (congrArg Value.bool (decide_eq_false g19)) rfl) ?_
                            refine wend ?_
                            refine condFalse rfl ?_
                            refine skipAny ?_
                            refine blockNormal ?_
                            refine thenNormal ?_
                            refine oneRegion ?_
                            refine sq (r_move (v := i64 ((i : Nat))) rfl) ?_
                            refine sq (r_addI (a := (i : Nat)) (b := (1 : Int)) rfl rfl (by omega)) ?_
                            refine sq (r_assign (v := i64 ((i : Nat) + (1 : Int))) rfl) ?_
                            refine wnil ?_
                            refine thenNormal ?_
                            have hgi : gokP (gs.getD i g0) (n + (i : Nat)) := by unfold gokP; omega
                            exact ⟨i + 1, _, rfl, ⟨rfl, rfl, rfl, rfl, trivial⟩, ⟨by omega, fun j hj => if h : j < i then hgs j h else by (rw [show j = i by omega]; exact hgi), (H11'.dropk 0)⟩, by show gs.length - (i + 1) < gs.length - i; omega⟩
                      · skip
                        refine skAny (wantedSome (d' := 66) (b := false) rfl rfl (congrArg Value.bool (decide_eq_false g18))) ?_
                        refine skAny (wantedSome (d' := 66) (b := false) rfl rfl (congrArg Value.bool (decide_eq_false g18))) ?_
                        refine skAny (wantedSome (d' := 66) (b := false) rfl rfl (congrArg Value.bool (decide_eq_false g18))) ?_
                        refine skAny (wantedSome (d' := 66) (b := false) rfl rfl (congrArg Value.bool (decide_eq_false g18))) ?_
                        refine skAny (wantedSome (d' := 66) (b := false) rfl rfl (congrArg Value.bool (decide_eq_false g18))) ?_
                        refine skAny (wantedSome (d' := 66) (b := false) rfl rfl (congrArg Value.bool (decide_eq_false g18))) ?_
                        refine sqAny (v := .bool (false)) (w' := w10) (wantedSome (d' := 62) (b := false) rfl rfl (congrArg Value.bool (decide_eq_false g17))) (r_pickF (v := .bool (false)) (congrArg Value.bool (decide_eq_false g18)) rfl) ?_
                        refine sq (r_pickF (v := .bool (false)) (congrArg Value.bool (decide_eq_false g17)) rfl) ?_
                        refine sq (r_move (v := .bool (false)) rfl) ?_
                        refine sqAny (v := .pointer (some ⟨b6, 0, none⟩)) (w' := w10) (wantedSome (d' := 75) (b := false) rfl rfl rfl) (r_fieldAddr (off' := 0) fld85_0 (by decide) (b := b6) (off := 0) rfl (by omega)) ?_
                        refine sqAny (v := i64 (((gs).getD i g0).k)) (w' := w10) (wantedSome (d' := 75) (b := false) rfl rfl rfl) (r_loadC (v := i64 (((gs).getD i g0).k)) one3 (H11'.get (k := 0) rfl) (off := 0) rfl (by rfl)) ?_
                        refine sqAny (v := .bool (decide ((((gs).getD i g0).k : Int) = (3 : Int)))) (w' := w10) (wantedSome (d' := 75) (b := false) rfl rfl rfl) (r_eqlI (a := ((gs).getD i g0).k) (b := (3 : Int)) rfl rfl) ?_
                        refine sqAny (v := .bool (decide ((((gs).getD i g0).k : Int) = (3 : Int)))) (w' := w10) (wantedSome (d' := 75) (b := false) rfl rfl rfl) (r_move (v := .bool (decide ((((gs).getD i g0).k : Int) = (3 : Int)))) rfl) ?_
                        by_cases g21 : (((gs).getD i g0).k : Int) = (3 : Int)
                        · skip
                          refine sqAny (v := .pointer (some ⟨b6, 2, none⟩)) (w' := w10) (wantedSome (d' := 79) (b := true) rfl rfl (congrArg Value.bool (decide_eq_true g21))) (r_fieldAddr (off' := 2) fld85_2 (by decide) (b := b6) (off := 0) rfl (by omega)) ?_
                          refine sqAny (v := i64 (((gs).getD i g0).b)) (w' := w10) (wantedSome (d' := 79) (b := true) rfl rfl (congrArg Value.bool (decide_eq_true g21))) (r_loadC (v := i64 (((gs).getD i g0).b)) one3 (H11'.get (k := 0) rfl) (off := 2) rfl (by rfl)) ?_
                          refine sqAny (v := .bool (decide ((((gs).getD i g0).b : Int) ≠ (0 : Int)))) (w' := w10) (wantedSome (d' := 79) (b := true) rfl rfl (congrArg Value.bool (decide_eq_true g21))) (r_neqI (a := ((gs).getD i g0).b) (b := (0 : Int)) rfl rfl) ?_
                          refine sqAny (v := .bool (decide ((((gs).getD i g0).b : Int) ≠ (0 : Int)))) (w' := w10) (wantedSome (d' := 75) (b := false) rfl rfl rfl) (r_pickT (u := .bool (decide ((((gs).getD i g0).b : Int) ≠ (0 : Int)))) (congrArg Value.bool (decide_eq_true g21)) rfl) ?_
                          refine sq (r_pickF (v := .bool (decide ((((gs).getD i g0).b : Int) ≠ (0 : Int)))) rfl rfl) ?_
                          refine wend ?_
                          refine condProp ((((gs).getD i g0).b : Int) ≠ (0 : Int)) rfl (fun c84 => ?_) (fun c84 => ?_)
                          · skip
                            refine seqRegion ?_
                            refine sq (r_assign (v := .bool (false)) rfl) ?_
                            refine wend ?_
                            refine retAny ?_
                            refine blockRet ?_
                            refine thenRet ?_
                            refine thenRet ?_
                            refine blockRet ?_
                            refine thenRet ?_
                            refine retG (rs := [.tmp 6]) (vs := [.bool (false)]) rfl ⟨⟨rfl, rfl⟩, trivial⟩ ?_
                            exact ⟨_, rfl, .inr ⟨rfl, fun hg => by have := hg.gok i (by omega); unfold gokP at this; omega⟩, H11'.chg⟩
                          · skip
                            refine skipAny ?_
                            refine blockNormal ?_
                            refine thenNormal ?_
                            refine oneRegion ?_
                            refine sq (r_move (v := i64 ((i : Nat))) rfl) ?_
                            refine sq (r_addI (a := (i : Nat)) (b := (1 : Int)) rfl rfl (by omega)) ?_
                            refine sq (r_assign (v := i64 ((i : Nat) + (1 : Int))) rfl) ?_
                            refine wnil ?_
                            refine thenNormal ?_
                            have hgi : gokP (gs.getD i g0) (n + (i : Nat)) := by unfold gokP; omega
                            exact ⟨i + 1, _, rfl, ⟨rfl, rfl, rfl, rfl, trivial⟩, ⟨by omega, fun j hj => if h : j < i then hgs j h else by (rw [show j = i by omega]; exact hgi), (H11'.dropk 0)⟩, by show gs.length - (i + 1) < gs.length - i; omega⟩
                        · skip
                          refine skAny (wantedSome (d' := 79) (b := false) rfl rfl (congrArg Value.bool (decide_eq_false g21))) ?_
                          refine skAny (wantedSome (d' := 79) (b := false) rfl rfl (congrArg Value.bool (decide_eq_false g21))) ?_
                          refine skAny (wantedSome (d' := 79) (b := false) rfl rfl (congrArg Value.bool (decide_eq_false g21))) ?_
                          refine sqAny (v := .bool (false)) (w' := w10) (wantedSome (d' := 75) (b := false) rfl rfl rfl) (r_pickF (v := .bool (false)) (congrArg Value.bool (decide_eq_false g21)) rfl) ?_
                          refine sq (r_pickF (v := .bool (false)) rfl rfl) ?_
                          refine wend ?_
                          refine condFalse rfl ?_
                          refine skipAny ?_
                          refine blockNormal ?_
                          refine thenNormal ?_
                          refine oneRegion ?_
                          refine sq (r_move (v := i64 ((i : Nat))) rfl) ?_
                          refine sq (r_addI (a := (i : Nat)) (b := (1 : Int)) rfl rfl (by omega)) ?_
                          refine sq (r_assign (v := i64 ((i : Nat) + (1 : Int))) rfl) ?_
                          refine wnil ?_
                          refine thenNormal ?_
                          have hgi : gokP (gs.getD i g0) (n + (i : Nat)) := by unfold gokP; omega
                          exact ⟨i + 1, _, rfl, ⟨rfl, rfl, rfl, rfl, trivial⟩, ⟨by omega, fun j hj => if h : j < i then hgs j h else by (rw [show j = i by omega]; exact hgi), (H11'.dropk 0)⟩, by show gs.length - (i + 1) < gs.length - i; omega⟩
          · skip
            refine exitAny ?_
            refine thenExit ?_
            refine thenExit ?_
            refine blockHere ?_
            refine thenNormal ?_
            refine seqAny ?_
            refine seqRegion ?_
            refine sq (r_assign (v := i64 ((0 : Int))) rfl) ?_
            refine wend ?_
            refine blockAny ?_
            refine loopAny (σ := Nat) (fun q => [(0, i64 (n)), (1, .slice ga gs.length gc), (2, .slice oa ol.length oc), (9, i64 ((q : Nat)))]) (fun q w' => q ≤ ol.length ∧ (∀ j, j < q → 0 ≤ ol.getD j 0 ∧ ol.getD j 0 < n + (gs.length : Nat)) ∧ Hp No w w' []) (fun q => ol.length - q) (0) ?_ ?_ ?_
            · exact ⟨rfl, rfl, rfl, rfl, trivial⟩
            · exact ⟨by omega, fun j hj => by omega, HL⟩
            rintro q ρ w22 ⟨hq, hos, HL2⟩
            refine seqAny ?_
            refine seqRegion ?_
            refine sq (r_move (v := i64 ((q : Nat))) rfl) ?_
            refine sq (r_move (v := .slice oa ol.length oc) rfl) ?_
            refine sq (r_lenS sli60 (a := oa) (m := ol.length) (c := oc) rfl) ?_
            refine sq (r_lssI (a := (q : Nat)) (b := (ol.length : Nat)) rfl rfl) ?_
            refine wend ?_
            refine condProp (((q : Nat) : Int) < (ol.length : Nat)) rfl (fun c88 => ?_) (fun c88 => ?_)
            · skip
              refine skipAny ?_
              refine thenNormal ?_
              refine seqAny ?_
              refine blockAny ?_
              refine seqRegion ?_
              refine sq (r_move (v := .slice oa ol.length oc) rfl) ?_
              refine sq (r_move (v := i64 ((q : Nat))) rfl) ?_
              refine sq (r_idxS (E := EI) (l := ol) (j := q) sli60 (hOl.ext HL2.chg) rfl rfl (by first | rfl | omega | (simp; omega)) (by rfl) (by omega)) ?_
              refine sq (r_ldS (E := EI) (l := ol) (j := q) (v := (ol).getD q 0) fits3 (hOl.ext HL2.chg) rfl rfl (at_getD (by omega))) ?_
              refine sq (r_lssI (a := (ol).getD q 0) (b := (0 : Int)) rfl rfl) ?_
              refine sq (r_move (v := .bool (decide (((ol).getD q 0 : Int) < (0 : Int)))) rfl) ?_
              by_cases g24 : ((ol).getD q 0 : Int) < (0 : Int)
              · skip
                refine skAny (wantedSome (d' := 96) (b := true) rfl rfl (congrArg Value.bool (decide_eq_true g24))) ?_
                refine skAny (wantedSome (d' := 96) (b := true) rfl rfl (congrArg Value.bool (decide_eq_true g24))) ?_
                refine skAny (wantedSome (d' := 96) (b := true) rfl rfl (congrArg Value.bool (decide_eq_true g24))) ?_
                refine skAny (wantedSome (d' := 96) (b := true) rfl rfl (congrArg Value.bool (decide_eq_true g24))) ?_
                refine skAny (wantedSome (d' := 96) (b := true) rfl rfl (congrArg Value.bool (decide_eq_true g24))) ?_
                refine skAny (wantedSome (d' := 96) (b := true) rfl rfl (congrArg Value.bool (decide_eq_true g24))) ?_
                refine skAny (wantedSome (d' := 96) (b := true) rfl rfl (congrArg Value.bool (decide_eq_true g24))) ?_
                refine skAny (wantedSome (d' := 96) (b := true) rfl rfl (congrArg Value.bool (decide_eq_true g24))) ?_
                refine skAny (wantedSome (d' := 96) (b := true) rfl rfl (congrArg Value.bool (decide_eq_true g24))) ?_
                refine sq (r_pickT (u := .bool (true)) (congrArg Value.bool (decide_eq_true g24)) rfl) ?_
                refine wend ?_
                refine condTrue rfl ?_
                refine seqRegion ?_
                refine sq (r_assign (v := .bool (false)) rfl) ?_
                refine wend ?_
                refine retAny ?_
                refine blockRet ?_
                refine thenRet ?_
                refine thenRet ?_
                refine blockRet ?_
                refine thenRet ?_
                refine retG (rs := [.tmp 6]) (vs := [.bool (false)]) rfl ⟨⟨rfl, rfl⟩, trivial⟩ ?_
                exact ⟨_, rfl, .inr ⟨rfl, fun hg => by have := hg.ook q (by omega); omega⟩, HL2.chg⟩
              · skip
                refine sqAny (v := .slice oa ol.length oc) (w' := w22) (wantedSome (d' := 96) (b := false) rfl rfl (congrArg Value.bool (decide_eq_false g24))) (r_move (v := .slice oa ol.length oc) rfl) ?_
                refine sqAny (v := i64 ((q : Nat))) (w' := w22) (wantedSome (d' := 96) (b := false) rfl rfl (congrArg Value.bool (decide_eq_false g24))) (r_move (v := i64 ((q : Nat))) rfl) ?_
                refine sqAny (v := .pointer (adr oa (q * 1))) (w' := w22) (wantedSome (d' := 96) (b := false) rfl rfl (congrArg Value.bool (decide_eq_false g24))) (r_idxS (E := EI) (l := ol) (j := q) sli60 (hOl.ext HL2.chg) rfl rfl (by first | rfl | omega | (simp; omega)) (by rfl) (by omega)) ?_
                refine sqAny (v := i64 ((ol).getD q 0)) (w' := w22) (wantedSome (d' := 96) (b := false) rfl rfl (congrArg Value.bool (decide_eq_false g24))) (r_ldS (E := EI) (l := ol) (j := q) (v := (ol).getD q 0) fits3 (hOl.ext HL2.chg) rfl rfl (at_getD (by omega))) ?_
                refine sqAny (v := i64 (n)) (w' := w22) (wantedSome (d' := 96) (b := false) rfl rfl (congrArg Value.bool (decide_eq_false g24))) (r_move (v := i64 (n)) rfl) ?_
                refine sqAny (v := .slice ga gs.length gc) (w' := w22) (wantedSome (d' := 96) (b := false) rfl rfl (congrArg Value.bool (decide_eq_false g24))) (r_move (v := .slice ga gs.length gc) rfl) ?_
                refine sqAny (v := i64 ((gs.length : Nat))) (w' := w22) (wantedSome (d' := 96) (b := false) rfl rfl (congrArg Value.bool (decide_eq_false g24))) (r_lenS sli78 (a := ga) (m := gs.length) (c := gc) rfl) ?_
                refine sqAny (v := i64 (n + (gs.length : Nat))) (w' := w22) (wantedSome (d' := 96) (b := false) rfl rfl (congrArg Value.bool (decide_eq_false g24))) (r_addI (a := n) (b := (gs.length : Nat)) rfl rfl (by omega)) ?_
                refine sqAny (v := .bool (decide ((n + (gs.length : Nat) : Int) ≤ ((ol).getD q 0)))) (w' := w22) (wantedSome (d' := 96) (b := false) rfl rfl (congrArg Value.bool (decide_eq_false g24))) (r_geqI (a := (ol).getD q 0) (b := n + (gs.length : Nat)) rfl rfl) ?_
                refine sq (r_pickF (v := .bool (decide ((n + (gs.length : Nat) : Int) ≤ ((ol).getD q 0)))) (congrArg Value.bool (decide_eq_false g24)) rfl) ?_
                refine wend ?_
                refine condProp ((n + (gs.length : Nat) : Int) ≤ ((ol).getD q 0)) rfl (fun c106 => ?_) (fun c106 => ?_)
                · skip
                  refine seqRegion ?_
                  refine sq (r_assign (v := .bool (false)) rfl) ?_
                  refine wend ?_
                  refine retAny ?_
                  refine blockRet ?_
                  refine thenRet ?_
                  refine thenRet ?_
                  refine blockRet ?_
                  refine thenRet ?_
                  refine retG (rs := [.tmp 6]) (vs := [.bool (false)]) rfl ⟨⟨rfl, rfl⟩, trivial⟩ ?_
                  exact ⟨_, rfl, .inr ⟨rfl, fun hg => by have := hg.ook q (by omega); omega⟩, HL2.chg⟩
                · skip
                  refine skipAny ?_
                  refine blockNormal ?_
                  refine thenNormal ?_
                  refine oneRegion ?_
                  refine sq (r_move (v := i64 ((q : Nat))) rfl) ?_
                  refine sq (r_addI (a := (q : Nat)) (b := (1 : Int)) rfl rfl (by omega)) ?_
                  refine sq (r_assign (v := i64 ((q : Nat) + (1 : Int))) rfl) ?_
                  refine wnil ?_
                  refine thenNormal ?_
                  exact ⟨q + 1, _, rfl, ⟨rfl, rfl, rfl, rfl, trivial⟩, ⟨by omega, fun j hj => if h : j < q then hos j h else by (rw [show j = q by omega]; omega), HL2⟩, by show ol.length - (q + 1) < ol.length - q; omega⟩
            · skip
              refine exitAny ?_
              refine thenExit ?_
              refine thenExit ?_
              refine blockHere ?_
              refine thenNormal ?_
              refine seqRegion ?_
              refine sq (r_assign (v := .bool (true)) rfl) ?_
              refine wend ?_
              refine retAny ?_
              refine retG (rs := [.tmp 6]) (vs := [.bool (true)]) rfl ⟨⟨rfl, rfl⟩, trivial⟩ ?_
              exact ⟨_, rfl, .inl ⟨rfl, ⟨by omega, by omega, by omega, by omega, fun j hj => hgs j (by omega), fun j hj => hos j (by omega)⟩⟩, HL2.chg⟩

set_option maxHeartbeats 2000000 in
theorem reval_ok (n : Int) (gs : List Gt) (ol : List Int) (ga oa : Option Addr) (gc oc : Nat) (inp : List Bool) (ia : Option Addr) (ic : Nat) (w : World) (hGs : Rd EG w ga gs) (hOl : Rd EI w oa ol) (hIn : Rd EB w ia inp) (hg : IsC n gs ol) (hl0 : (inp.length : Int) = n) : Calls Tryd.prog 49 [.slice ga gs.length gc, .slice oa ol.length oc, .slice ia inp.length ic].toArray w (Ret fun v w' => SlRes EB 4 (evalS gs ol inp) w v w' ∧ Ext w w') := by
  have hlo := hg.lo
  have hhi := hg.hi
  have hgt := hg.gates
  have hou := hg.outs
  have H := Hp.start No w
  refine enter (n := 86) Tryd.func49 rfl rfl (Nat.le_of_ble_eq_true rfl) ?_
  refine seqRegion ?_
  refine sq (r_assign (v := .slice none 0 0) rfl) ?_
  refine wend ?_
  refine seqRegion ?_
  refine q_buildSlice (E := EB) (l := []) H sli76 zer4 (Nat.le_of_ble_eq_true rfl) (ps := []) rfl (by exact fillAll rfl rfl) rfl ?_
  intro b1 w3 hS2 H4 hE5
  refine sq (r_move (v := .slice ia inp.length ic) rfl) ?_
  refine q_append (E := EB) (k := 0) (l := []) (l2 := inp) H4 rfl hS2 sli76 zer4 rfl byt4 (hIn.ext H4.chg) rfl (by rfl) rfl (by rfl) (by omega) ?_
  intro key6 c7 sp8 w10 hS9 hne12 H11
  have H11' := H11.as (L' := [(key6, sob EB 4 (([]) ++ inp) sp8)]) rfl
  clear H11
  have e13 : ([]) ++ inp = wS gs inp 0 := by rfl
  have hS14 := hS9
  rw [e13] at hS14
  have H15 := H11'.as (L' := [(key6, sob EB 4 (wS gs inp 0) sp8)]) (by rw [e13])
  refine sq (r_assign (v := .slice (ownA key6) (0 + inp.length) c7) rfl) ?_
  refine wend ?_
  refine seqAny ?_
  refine seqRegion ?_
  refine sq (r_assign (v := i64 ((0 : Int))) rfl) ?_
  refine wend ?_
  refine blockAny ?_
  refine loopAny (σ := Nat × Option Nat × Nat × List Value) (fun (i, key, c, sp) => [(0, .slice ga gs.length gc), (1, .slice oa ol.length oc), (7, .slice (ownA key) (inp.length + i) c), (8, i64 ((i : Nat)))]) (fun (i, key, c, sp) w' => i ≤ gs.length ∧ Sl EB key (wS gs inp i) c sp ∧ Hp No w w' [(key, sob EB 4 (wS gs inp i) sp)]) (fun (i, key, c, sp) => gs.length - i) ((0, key6, c7, sp8)) ?_ ?_ ?_
  · exact ⟨rfl, rfl, congrArg (fun q => Value.slice _ q _) (by omega), rfl, trivial⟩
  · exact ⟨by omega, hS14, H15⟩
  rintro ⟨i, key, c, sp⟩ ρ w16 ⟨hi, hS, HL⟩
  have hl := wS_len gs inp i
  refine seqAny ?_
  refine seqRegion ?_
  refine sq (r_move (v := i64 ((i : Nat))) rfl) ?_
  refine sq (r_move (v := .slice ga gs.length gc) rfl) ?_
  refine sq (r_lenS sli78 (a := ga) (m := gs.length) (c := gc) rfl) ?_
  refine sq (r_lssI (a := (i : Nat)) (b := (gs.length : Nat)) rfl rfl) ?_
  refine wend ?_
  refine condProp (((i : Nat) : Int) < (gs.length : Nat)) rfl (fun c18 => ?_) (fun c18 => ?_)
  · skip
    have hgi := hg.gok i (by omega)
    unfold gokP at hgi
    refine skipAny ?_
    refine thenNormal ?_
    refine seqAny ?_
    refine blockAny ?_
    refine seqRegion ?_
    refine sq (r_move (v := .slice ga gs.length gc) rfl) ?_
    refine sq (r_move (v := i64 ((i : Nat))) rfl) ?_
    refine sq (r_idxS (E := EG) (l := gs) (j := i) sli78 (hGs.ext HL.chg) rfl rfl (by first | rfl | omega | (simp; omega)) (by rfl) (by omega)) ?_
    refine sq ((r_ldS (E := EG) (l := gs) (j := i) (v := (gs).getD i g0) fits85 (hGs.ext HL.chg) rfl rfl (at_getD (by omega))).as (v' := .agg #[i64 (((gs).getD i g0).k), i64 (((gs).getD i g0).a), i64 (((gs).getD i g0).b)]) rfl) ?_
    refine q_alloc (o := .cells #[i64 ((0 : Int)), i64 ((0 : Int)), i64 ((0 : Int))] 85 (0, 0)) HL zer85 (by kernel_rfl) ?_
    intro b18 w19 hb18 H20 hE21
    refine d_store (k := 0) (v := .agg #[i64 (((gs).getD i g0).k), i64 (((gs).getD i g0).a), i64 (((gs).getD i g0).b)]) (cs' := #[i64 (((gs).getD i g0).k), i64 (((gs).getD i g0).a), i64 (((gs).getD i g0).b)]) H20 rfl rfl rfl siz85 (by rfl) (by intro u hu; simp [Value.cells] at hu; first | (subst hu; rfl) | (rcases hu with rfl | rfl | rfl <;> rfl)) (by exact Nat.le_of_ble_eq_true rfl) (by rfl) ?_
    intro w22 H23 hC24
    have H23' := H23.as (L' := [(some b18, .cells #[i64 (((gs).getD i g0).k), i64 (((gs).getD i g0).a), i64 (((gs).getD i g0).b)] 85 (0, 0)), (key, sob EB 4 (wS gs inp i) sp)]) rfl
    clear H23
    refine wend ?_
    refine seqRegion ?_
    refine sq (r_fieldAddr (off' := 0) fld85_0 (by decide) (b := b18) (off := 0) rfl (by omega)) ?_
    refine sq (r_loadC (v := i64 (((gs).getD i g0).k)) one3 (H23'.get (k := 0) rfl) (off := 0) rfl (by rfl)) ?_
    refine wend ?_
    refine blockAny ?_
    refine seqRegion ?_
    refine sq (r_eqlI (a := ((gs).getD i g0).k) (b := (1 : Int)) rfl rfl) ?_
    refine sq (r_assign (v := .bool (decide ((((gs).getD i g0).k : Int) = (1 : Int)))) rfl) ?_
    refine wend ?_
    refine condProp ((((gs).getD i g0).k : Int) = (1 : Int)) rfl (fun kc36 => ?_) (fun kc36 => ?_)
    · skip
      refine drawAny (K := [none, none, none, none, none, none, none, none, none, none, none, none, some (bsRel EB 4 [((wS gs inp i).getD (((gs.getD i g0).a).toNat) false) != ((wS gs inp i).getD (((gs.getD i g0).b).toNat) false)] 1 w22), some (appRel EB 4 key (wS gs inp i) ([((wS gs inp i).getD (((gs.getD i g0).a).toNat) false) != ((wS gs inp i).getD (((gs.getD i g0).b).toNat) false)]) ((inp.length + i) + 1) w22)]) [0, 0, 0, 4, 14, 30, 0, 0, 128, 448, 960, 2046, 4094, 8191, 16383] (AppC key (sob EB 4 (wS gs inp i) sp) (ob2 EB 4 (wS gs inp i) ([((wS gs inp i).getD (((gs.getD i g0).a).toNat) false) != ((wS gs inp i).getD (((gs.getD i g0).b).toNat) false)]) c sp) w22) (AppR key (sob EB 4 (wS gs inp i) sp) (ob2 EB 4 (wS gs inp i) ([((wS gs inp i).getD (((gs.getD i g0).a).toNat) false) != ((wS gs inp i).getD (((gs.getD i g0).b).toNat) false)]) c sp)) mixed (by kernel_rfl) (AppC.drew fun g hg => H23'.has _ (List.mem_of_getElem? (i := 1) rfl) g hg) AppC.trans ?_ ?_
      · exact relAll ⟨⟨fun _ _ _ _ _ hR h => bsRel_app (fun g hg => H23'.lt (List.mem_of_getElem? (i := 1) rfl) hg) hR h, fun _ _ _ _ _ h => h⟩, ⟨fun _ _ _ _ _ hR h => appRel_stable hR h, fun _ _ _ _ _ h => h⟩, trivial⟩
      refine ⟨.slice (ownA key) (inp.length + i) c, fun _ uw25 hC26 _ => Gives.run rfl (r_move (v := .slice (ownA key) (inp.length + i) c) rfl) ⟨rfl, AppR.refl⟩, ?_⟩
      refine ⟨.slice (ownA key) (inp.length + i) c, fun _ uw30 hC31 _ => Gives.run rfl (r_move (v := .slice (ownA key) (inp.length + i) c) rfl) ⟨rfl, AppR.refl⟩, ?_⟩
      refine ⟨.pointer (some ⟨b18, 1, none⟩), fun _ uw35 hC36 _ => Gives.run rfl (r_fieldAddr (off' := 1) fld85_1 (by decide) (b := b18) (off := 0) rfl (by omega)) ⟨rfl, AppR.refl⟩, ?_⟩
      refine ⟨i64 (((gs).getD i g0).a), fun _ uw40 hC41 _ => ?_, ?_⟩
      · obtain ⟨sp42, H43, hS44, _⟩ := hC41.hp H23' (k := 1) rfl hS
        exact Gives.run rfl (r_loadC (v := i64 (((gs).getD i g0).a)) one3 (H43.get (k := 0) rfl) (off := 1) rfl (by rfl)) ⟨rfl, AppR.refl⟩
      refine ⟨.pointer (adr (ownA key) ((((gs.getD i g0).a).toNat) * 1)), fun _ uw45 hC46 _ => ?_, ?_⟩
      · obtain ⟨sp47, H48, hS49, _⟩ := hC46.hp H23' (k := 1) rfl hS
        exact Gives.run rfl (r_idxS (E := EB) (l := wS gs inp i) (j := ((gs.getD i g0).a).toNat) sli76 (H48.rd (k := 1) rfl hS49) rfl rfl (by omega) (by omega) (by omega)) ⟨rfl, AppR.refl⟩
      refine ⟨.bool ((wS gs inp i).getD (((gs.getD i g0).a).toNat) false), fun _ uw50 hC51 _ => ?_, ?_⟩
      · obtain ⟨sp52, H53, hS54, _⟩ := hC51.hp H23' (k := 1) rfl hS
        exact Gives.run rfl (r_ldS (E := EB) (l := wS gs inp i) (j := ((gs.getD i g0).a).toNat) (v := (wS gs inp i).getD (((gs.getD i g0).a).toNat) false) fits4 (H53.rd (k := 1) rfl hS54) rfl rfl (at_getD (by omega))) ⟨rfl, AppR.refl⟩
      refine ⟨.slice (ownA key) (inp.length + i) c, fun _ uw55 hC56 _ => Gives.run rfl (r_move (v := .slice (ownA key) (inp.length + i) c) rfl) ⟨rfl, AppR.refl⟩, ?_⟩
      refine ⟨.pointer (some ⟨b18, 2, none⟩), fun _ uw60 hC61 _ => Gives.run rfl (r_fieldAddr (off' := 2) fld85_2 (by decide) (b := b18) (off := 0) rfl (by omega)) ⟨rfl, AppR.refl⟩, ?_⟩
      refine ⟨i64 (((gs).getD i g0).b), fun _ uw65 hC66 _ => ?_, ?_⟩
      · obtain ⟨sp67, H68, hS69, _⟩ := hC66.hp H23' (k := 1) rfl hS
        exact Gives.run rfl (r_loadC (v := i64 (((gs).getD i g0).b)) one3 (H68.get (k := 0) rfl) (off := 2) rfl (by rfl)) ⟨rfl, AppR.refl⟩
      refine ⟨.pointer (adr (ownA key) ((((gs.getD i g0).b).toNat) * 1)), fun _ uw70 hC71 _ => ?_, ?_⟩
      · obtain ⟨sp72, H73, hS74, _⟩ := hC71.hp H23' (k := 1) rfl hS
        exact Gives.run rfl (r_idxS (E := EB) (l := wS gs inp i) (j := ((gs.getD i g0).b).toNat) sli76 (H73.rd (k := 1) rfl hS74) rfl rfl (by omega) (by omega) (by omega)) ⟨rfl, AppR.refl⟩
      refine ⟨.bool ((wS gs inp i).getD (((gs.getD i g0).b).toNat) false), fun _ uw75 hC76 _ => ?_, ?_⟩
      · obtain ⟨sp77, H78, hS79, _⟩ := hC76.hp H23' (k := 1) rfl hS
        exact Gives.run rfl (r_ldS (E := EB) (l := wS gs inp i) (j := ((gs.getD i g0).b).toNat) (v := (wS gs inp i).getD (((gs.getD i g0).b).toNat) false) fits4 (H78.rd (k := 1) rfl hS79) rfl rfl (at_getD (by omega))) ⟨rfl, AppR.refl⟩
      refine ⟨.bool (((wS gs inp i).getD (((gs.getD i g0).a).toNat) false) != ((wS gs inp i).getD (((gs.getD i g0).b).toNat) false)), fun _ uw80 hC81 _ => Gives.run rfl (r_neqB und4 (a := (wS gs inp i).getD (((gs.getD i g0).a).toNat) false) (b := (wS gs inp i).getD (((gs.getD i g0).b).toNat) false) rfl rfl) ⟨rfl, AppR.refl⟩, ?_⟩
      refine ⟨fun r uw85 hC86 hF => bsGives (E := EB) (l := [((wS gs inp i).getD (((gs.getD i g0).a).toNat) false) != ((wS gs inp i).getD (((gs.getD i g0).b).toNat) false)]) sli76 zer4 (Nat.le_of_ble_eq_true rfl) (ps := [(0, .bool (((wS gs inp i).getD (((gs.getD i g0).a).toNat) false) != ((wS gs inp i).getD (((gs.getD i g0).b).toNat) false)))]) rfl (by exact fillAll rfl rfl) hC86.1.size (fun _ h => AppR.ext h), ?_⟩
      refine ⟨fun r uw87 hC88 hF => ?_, ?_⟩
      · obtain ⟨sp92, H93, hS94, _⟩ := hC88.hp H23' (k := 1) rfl hS
        obtain ⟨b91, e89, _, h90⟩ := hF 12 _ rfl rfl
        exact appGives hC88 H23' (k := 1) rfl hS sli76 zer4 rfl byt4 (Rd.row h90) rfl (by omega) e89 (by rfl) (by omega)
      intro r98 w95 hE97 hF
      obtain ⟨key99, c100, sp101, e102, hS103, hne104, hk105⟩ := hF 13 _ rfl
      have H96 := (H23'.turn (k := 1) rfl hE97.1 hk105).as (L' := [(some b18, .cells #[i64 (((gs).getD i g0).k), i64 (((gs).getD i g0).a), i64 (((gs).getD i g0).b)] 85 (0, 0)), (key99, sob EB 4 ((wS gs inp i) ++ ([((wS gs inp i).getD (((gs.getD i g0).a).toNat) false) != ((wS gs inp i).getD (((gs.getD i g0).b).toNat) false)])) sp101)]) rfl
      dsimp only
      rw [e102]
      have e106 : (wS gs inp i) ++ ([((wS gs inp i).getD (((gs.getD i g0).a).toNat) false) != ((wS gs inp i).getD (((gs.getD i g0).b).toNat) false)]) = wS gs inp (i + 1) := by rw [wS, gval, if_pos kc36]
      have hS107 := hS103
      rw [e106] at hS107
      have H108 := H96.as (L' := [(some b18, .cells #[i64 (((gs).getD i g0).k), i64 (((gs).getD i g0).a), i64 (((gs).getD i g0).b)] 85 (0, 0)), (key99, sob EB 4 (wS gs inp (i + 1)) sp101)]) (by rw [e106])
      refine sq (r_assign (v := .slice (ownA key99) ((inp.length + i) + 1) c100) rfl) ?_
      refine wnil ?_
      refine blockNormal ?_
      refine blockNormal ?_
      refine thenNormal ?_
      refine oneRegion ?_
      refine sq (r_move (v := i64 ((i : Nat))) rfl) ?_
      refine sq (r_addI (a := (i : Nat)) (b := (1 : Int)) rfl rfl (by omega)) ?_
      refine sq (r_assign (v := i64 ((i : Nat) + (1 : Int))) rfl) ?_
      refine wnil ?_
      refine thenNormal ?_
      exact ⟨(i + 1, key99, c100, sp101), _, rfl, ⟨rfl, rfl, rfl, rfl, trivial⟩, ⟨by omega, hS107, (H108.dropk 0)⟩, by show gs.length - (i + 1) < gs.length - i; omega⟩
    · skip
      refine seqRegion ?_
      refine sq (r_eqlI (a := ((gs).getD i g0).k) (b := (2 : Int)) rfl rfl) ?_
      refine sq (r_assign (v := .bool (decide ((((gs).getD i g0).k : Int) = (2 : Int)))) rfl) ?_
      refine wend ?_
      refine condProp ((((gs).getD i g0).k : Int) = (2 : Int)) rfl (fun kc52 => ?_) (fun kc52 => ?_)
      · skip
        refine oneRegion ?_
        refine sq (r_move (v := .slice (ownA key) (inp.length + i) c) rfl) ?_
        refine sq (r_move (v := .slice (ownA key) (inp.length + i) c) rfl) ?_
        refine sq (r_fieldAddr (off' := 1) fld85_1 (by decide) (b := b18) (off := 0) rfl (by omega)) ?_
        refine sq (r_loadC (v := i64 (((gs).getD i g0).a)) one3 (H23'.get (k := 0) rfl) (off := 1) rfl (by rfl)) ?_
        refine sq (r_idxS (E := EB) (l := wS gs inp i) (j := ((gs.getD i g0).a).toNat) sli76 (H23'.rd (k := 1) rfl hS) rfl rfl (by omega) (by omega) (by omega)) ?_
        refine sq (r_ldS (E := EB) (l := wS gs inp i) (j := ((gs.getD i g0).a).toNat) (v := (wS gs inp i).getD (((gs.getD i g0).a).toNat) false) fits4 (H23'.rd (k := 1) rfl hS) rfl rfl (at_getD (by omega))) ?_
        refine sq (r_move (v := .bool ((wS gs inp i).getD (((gs.getD i g0).a).toNat) false)) rfl) ?_
        rcases Bool.eq_false_or_eq_true ((wS gs inp i).getD (((gs.getD i g0).a).toNat) false) with g109 | g109
        · skip
          refine sqAny (v := .slice (ownA key) (inp.length + i) c) (w' := w22) (wantedSome (d' := 60) (b := true) rfl rfl (congrArg Value.bool g109)) (r_move (v := .slice (ownA key) (inp.length + i) c) rfl) ?_
          refine sqAny (v := .pointer (some ⟨b18, 2, none⟩)) (w' := w22) (wantedSome (d' := 60) (b := true) rfl rfl (congrArg Value.bool g109)) (r_fieldAddr (off' := 2) fld85_2 (by decide) (b := b18) (off := 0) rfl (by omega)) ?_
          refine sqAny (v := i64 (((gs).getD i g0).b)) (w' := w22) (wantedSome (d' := 60) (b := true) rfl rfl (congrArg Value.bool g109)) (r_loadC (v := i64 (((gs).getD i g0).b)) one3 (H23'.get (k := 0) rfl) (off := 2) rfl (by rfl)) ?_
          refine sqAny (v := .pointer (adr (ownA key) ((((gs.getD i g0).b).toNat) * 1))) (w' := w22) (wantedSome (d' := 60) (b := true) rfl rfl (congrArg Value.bool g109)) (r_idxS (E := EB) (l := wS gs inp i) (j := ((gs.getD i g0).b).toNat) sli76 (H23'.rd (k := 1) rfl hS) rfl rfl (by omega) (by omega) (by omega)) ?_
          refine sqAny (v := .bool ((wS gs inp i).getD (((gs.getD i g0).b).toNat) false)) (w' := w22) (wantedSome (d' := 60) (b := true) rfl rfl (congrArg Value.bool g109)) (r_ldS (E := EB) (l := wS gs inp i) (j := ((gs.getD i g0).b).toNat) (v := (wS gs inp i).getD (((gs.getD i g0).b).toNat) false) fits4 (H23'.rd (k := 1) rfl hS) rfl rfl (at_getD (by omega))) ?_
          refine sq (r_pickT (u := .bool ((wS gs inp i).getD (((gs.getD i g0).b).toNat) false)) (congrArg Value.bool g109) rfl) ?_
          refine q_buildSlice (E := EB) (l := [(wS gs inp i).getD (((gs.getD i g0).b).toNat) false]) H23' sli76 zer4 (Nat.le_of_ble_eq_true rfl) (ps := [(0, .bool ((wS gs inp i).getD (((gs.getD i g0).b).toNat) false))]) rfl (by exact fillAll rfl rfl) rfl ?_
          intro b110 w112 hS111 H113 hE114
          refine q_append (E := EB) (k := 2) (l := wS gs inp i) (l2 := [(wS gs inp i).getD (((gs.getD i g0).b).toNat) false]) H113 rfl hS sli76 zer4 rfl byt4 (H113.rd (k := 0) rfl hS111) rfl (by omega) rfl (by rfl) (by omega) ?_
          intro key115 c116 sp117 w119 hS118 hne121 H120
          have H120' := H120.as (L' := [((some b110), sob EB 4 ([(wS gs inp i).getD (((gs.getD i g0).b).toNat) false]) ([])), (some b18, .cells #[i64 (((gs).getD i g0).k), i64 (((gs).getD i g0).a), i64 (((gs).getD i g0).b)] 85 (0, 0)), (key115, sob EB 4 ((wS gs inp i) ++ ([(wS gs inp i).getD (((gs.getD i g0).b).toNat) false])) sp117)]) rfl
          clear H120
          have e122 : (wS gs inp i) ++ ([(wS gs inp i).getD (((gs.getD i g0).b).toNat) false]) = wS gs inp (i + 1) := by rw [wS, gval, if_neg kc36, if_pos kc52, g109]; rfl
          have hS123 := hS118
          rw [e122] at hS123
          have H124 := H120'.as (L' := [((some b110), sob EB 4 ([(wS gs inp i).getD (((gs.getD i g0).b).toNat) false]) ([])), (some b18, .cells #[i64 (((gs).getD i g0).k), i64 (((gs).getD i g0).a), i64 (((gs).getD i g0).b)] 85 (0, 0)), (key115, sob EB 4 (wS gs inp (i + 1)) sp117)]) (by rw [e122])
          refine sq (r_assign (v := .slice (ownA key115) ((inp.length + i) + 1) c116) rfl) ?_
          refine wnil ?_
          refine blockNormal ?_
          refine blockNormal ?_
          refine thenNormal ?_
          refine oneRegion ?_
          refine sq (r_move (v := i64 ((i : Nat))) rfl) ?_
          refine sq (r_addI (a := (i : Nat)) (b := (1 : Int)) rfl rfl (by omega)) ?_
          refine sq (r_assign (v := i64 ((i : Nat) + (1 : Int))) rfl) ?_
          refine wnil ?_
          refine thenNormal ?_
          exact ⟨(i + 1, key115, c116, sp117), _, rfl, ⟨rfl, rfl, rfl, rfl, trivial⟩, ⟨by omega, hS123, ((H124.dropk 1).dropk 0)⟩, by show gs.length - (i + 1) < gs.length - i; omega⟩
        · skip
          refine skAny (wantedSome (d' := 60) (b := false) rfl rfl (congrArg Value.bool g109)) ?_
          refine skAny (wantedSome (d' := 60) (b := false) rfl rfl (congrArg Value.bool g109)) ?_
          refine skAny (wantedSome (d' := 60) (b := false) rfl rfl (congrArg Value.bool g109)) ?_
          refine skAny (wantedSome (d' := 60) (b := false) rfl rfl (congrArg Value.bool g109)) ?_
          refine skAny (wantedSome (d' := 60) (b := false) rfl rfl (congrArg Value.bool g109)) ?_
          refine sq (r_pickF (v := .bool (false)) (congrArg Value.bool g109) rfl) ?_
          refine q_buildSlice (E := EB) (l := [false]) H23' sli76 zer4 (Nat.le_of_ble_eq_true rfl) (ps := [(0, .bool (false))]) rfl (by exact fillAll rfl rfl) rfl ?_
          intro b125 w127 hS126 H128 hE129
          refine q_append (E := EB) (k := 2) (l := wS gs inp i) (l2 := [false]) H128 rfl hS sli76 zer4 rfl byt4 (H128.rd (k := 0) rfl hS126) rfl (by omega) rfl (by rfl) (by omega) ?_
          intro key130 c131 sp132 w134 hS133 hne136 H135
          have H135' := H135.as (L' := [((some b125), sob EB 4 ([false]) ([])), (some b18, .cells #[i64 (((gs).getD i g0).k), i64 (((gs).getD i g0).a), i64 (((gs).getD i g0).b)] 85 (0, 0)), (key130, sob EB 4 ((wS gs inp i) ++ ([false])) sp132)]) rfl
          clear H135
          have e137 : (wS gs inp i) ++ ([false]) = wS gs inp (i + 1) := by rw [wS, gval, if_neg kc36, if_pos kc52, g109]; rfl
          have hS138 := hS133
          rw [e137] at hS138
          have H139 := H135'.as (L' := [((some b125), sob EB 4 ([false]) ([])), (some b18, .cells #[i64 (((gs).getD i g0).k), i64 (((gs).getD i g0).a), i64 (((gs).getD i g0).b)] 85 (0, 0)), (key130, sob EB 4 (wS gs inp (i + 1)) sp132)]) (by rw [e137])
          refine sq (r_assign (v := .slice (ownA key130) ((inp.length + i) + 1) c131) rfl) ?_
          refine wnil ?_
          refine blockNormal ?_
          refine blockNormal ?_
          refine thenNormal ?_
          refine oneRegion ?_
          refine sq (r_move (v := i64 ((i : Nat))) rfl) ?_
          refine sq (r_addI (a := (i : Nat)) (b := (1 : Int)) rfl rfl (by omega)) ?_
          refine sq (r_assign (v := i64 ((i : Nat) + (1 : Int))) rfl) ?_
          refine wnil ?_
          refine thenNormal ?_
          exact ⟨(i + 1, key130, c131, sp132), _, rfl, ⟨rfl, rfl, rfl, rfl, trivial⟩, ⟨by omega, hS138, ((H139.dropk 1).dropk 0)⟩, by show gs.length - (i + 1) < gs.length - i; omega⟩
      · skip
        refine oneRegion ?_
        refine sq (r_move (v := .slice (ownA key) (inp.length + i) c) rfl) ?_
        refine sq (r_move (v := .slice (ownA key) (inp.length + i) c) rfl) ?_
        refine sq (r_fieldAddr (off' := 1) fld85_1 (by decide) (b := b18) (off := 0) rfl (by omega)) ?_
        refine sq (r_loadC (v := i64 (((gs).getD i g0).a)) one3 (H23'.get (k := 0) rfl) (off := 1) rfl (by rfl)) ?_
        refine sq (r_idxS (E := EB) (l := wS gs inp i) (j := ((gs.getD i g0).a).toNat) sli76 (H23'.rd (k := 1) rfl hS) rfl rfl (by omega) (by omega) (by omega)) ?_
        refine sq (r_ldS (E := EB) (l := wS gs inp i) (j := ((gs.getD i g0).a).toNat) (v := (wS gs inp i).getD (((gs.getD i g0).a).toNat) false) fits4 (H23'.rd (k := 1) rfl hS) rfl rfl (at_getD (by omega))) ?_
        refine sq (r_not (b := (wS gs inp i).getD (((gs.getD i g0).a).toNat) false) rfl) ?_
        refine q_buildSlice (E := EB) (l := [!((wS gs inp i).getD (((gs.getD i g0).a).toNat) false)]) H23' sli76 zer4 (Nat.le_of_ble_eq_true rfl) (ps := [(0, .bool (!((wS gs inp i).getD (((gs.getD i g0).a).toNat) false)))]) rfl (by exact fillAll rfl rfl) rfl ?_
        intro b140 w142 hS141 H143 hE144
        refine q_append (E := EB) (k := 2) (l := wS gs inp i) (l2 := [!((wS gs inp i).getD (((gs.getD i g0).a).toNat) false)]) H143 rfl hS sli76 zer4 rfl byt4 (H143.rd (k := 0) rfl hS141) rfl (by omega) rfl (by rfl) (by omega) ?_
        intro key145 c146 sp147 w149 hS148 hne151 H150
        have H150' := H150.as (L' := [((some b140), sob EB 4 ([!((wS gs inp i).getD (((gs.getD i g0).a).toNat) false)]) ([])), (some b18, .cells #[i64 (((gs).getD i g0).k), i64 (((gs).getD i g0).a), i64 (((gs).getD i g0).b)] 85 (0, 0)), (key145, sob EB 4 ((wS gs inp i) ++ ([!((wS gs inp i).getD (((gs.getD i g0).a).toNat) false)])) sp147)]) rfl
        clear H150
        have e152 : (wS gs inp i) ++ ([!((wS gs inp i).getD (((gs.getD i g0).a).toNat) false)]) = wS gs inp (i + 1) := by rw [wS, gval, if_neg kc36, if_neg kc52]
        have hS153 := hS148
        rw [e152] at hS153
        have H154 := H150'.as (L' := [((some b140), sob EB 4 ([!((wS gs inp i).getD (((gs.getD i g0).a).toNat) false)]) ([])), (some b18, .cells #[i64 (((gs).getD i g0).k), i64 (((gs).getD i g0).a), i64 (((gs).getD i g0).b)] 85 (0, 0)), (key145, sob EB 4 (wS gs inp (i + 1)) sp147)]) (by rw [e152])
        refine sq (r_assign (v := .slice (ownA key145) ((inp.length + i) + 1) c146) rfl) ?_
        refine wnil ?_
        refine blockNormal ?_
        refine blockNormal ?_
        refine thenNormal ?_
        refine oneRegion ?_
        refine sq (r_move (v := i64 ((i : Nat))) rfl) ?_
        refine sq (r_addI (a := (i : Nat)) (b := (1 : Int)) rfl rfl (by omega)) ?_
        refine sq (r_assign (v := i64 ((i : Nat) + (1 : Int))) rfl) ?_
        refine wnil ?_
        refine thenNormal ?_
        exact ⟨(i + 1, key145, c146, sp147), _, rfl, ⟨rfl, rfl, rfl, rfl, trivial⟩, ⟨by omega, hS153, ((H154.dropk 1).dropk 0)⟩, by show gs.length - (i + 1) < gs.length - i; omega⟩
  · skip
    obtain rfl : i = gs.length := by omega
    refine exitAny ?_
    refine thenExit ?_
    refine thenExit ?_
    refine blockHere ?_
    refine thenNormal ?_
    refine seqRegion ?_
    refine sq (r_assign (v := .slice none 0 0) rfl) ?_
    have H155 := HL.nil (sob EB 4 [] [])
    refine wend ?_
    refine seqAny ?_
    refine seqRegion ?_
    refine sq (r_assign (v := i64 ((0 : Int))) rfl) ?_
    refine wend ?_
    refine blockAny ?_
    refine loopAny (σ := Nat × Option Nat × Nat × List Value) (fun (q, k2, c2, sp2) => [(1, .slice oa ol.length oc), (7, .slice (ownA key) (inp.length + gs.length) c), (10, .slice (ownA k2) q c2), (11, i64 ((q : Nat)))]) (fun (q, k2, c2, sp2) w' => q ≤ ol.length ∧ Sl EB k2 (oS (wS gs inp gs.length) ol q) c2 sp2 ∧ Hp No w w' [(k2, sob EB 4 (oS (wS gs inp gs.length) ol q) sp2), (key, sob EB 4 (wS gs inp gs.length) sp)]) (fun (q, k2, c2, sp2) => ol.length - q) ((0, none, 0, [])) ?_ ?_ ?_
    · exact ⟨rfl, rfl, rfl, rfl, trivial⟩
    · exact ⟨by omega, Sl.none, H155⟩
    rintro ⟨q, k2, c2, sp2⟩ ρ w156 ⟨hq, hS2, HL2⟩
    have hl2 := oS_len (wS gs inp gs.length) ol q
    refine seqAny ?_
    refine seqRegion ?_
    refine sq (r_move (v := i64 ((q : Nat))) rfl) ?_
    refine sq (r_move (v := .slice oa ol.length oc) rfl) ?_
    refine sq (r_lenS sli60 (a := oa) (m := ol.length) (c := oc) rfl) ?_
    refine sq (r_lssI (a := (q : Nat)) (b := (ol.length : Nat)) rfl rfl) ?_
    refine wend ?_
    refine condProp (((q : Nat) : Int) < (ol.length : Nat)) rfl (fun c72 => ?_) (fun c72 => ?_)
    · skip
      have hoi := hg.ook q (by omega)
      refine skipAny ?_
      refine thenNormal ?_
      refine seqAny ?_
      refine blockAny ?_
      refine oneRegion ?_
      refine sq (r_move (v := .slice (ownA k2) q c2) rfl) ?_
      refine sq (r_move (v := .slice (ownA key) (inp.length + gs.length) c) rfl) ?_
      refine sq (r_move (v := .slice oa ol.length oc) rfl) ?_
      refine sq (r_move (v := i64 ((q : Nat))) rfl) ?_
      refine sq (r_idxS (E := EI) (l := ol) (j := q) sli60 (hOl.ext HL2.chg) rfl rfl (by first | rfl | omega | (simp; omega)) (by rfl) (by omega)) ?_
      refine sq (r_ldS (E := EI) (l := ol) (j := q) (v := (ol).getD q 0) fits3 (hOl.ext HL2.chg) rfl rfl (at_getD (by omega))) ?_
      refine sq (r_idxS (E := EB) (l := wS gs inp gs.length) (j := (ol.getD q 0).toNat) sli76 (HL2.rd (k := 1) rfl hS) rfl rfl (by omega) (by omega) (by omega)) ?_
      refine sq (r_ldS (E := EB) (l := wS gs inp gs.length) (j := (ol.getD q 0).toNat) (v := (wS gs inp gs.length).getD ((ol.getD q 0).toNat) false) fits4 (HL2.rd (k := 1) rfl hS) rfl rfl (at_getD (by omega))) ?_
      refine q_buildSlice (E := EB) (l := [(wS gs inp gs.length).getD ((ol.getD q 0).toNat) false]) HL2 sli76 zer4 (Nat.le_of_ble_eq_true rfl) (ps := [(0, .bool ((wS gs inp gs.length).getD ((ol.getD q 0).toNat) false))]) rfl (by exact fillAll rfl rfl) rfl ?_
      intro b158 w160 hS159 H161 hE162
      refine q_append (E := EB) (k := 1) (l := oS (wS gs inp gs.length) ol q) (l2 := [(wS gs inp gs.length).getD ((ol.getD q 0).toNat) false]) H161 rfl hS2 sli76 zer4 rfl byt4 (H161.rd (k := 0) rfl hS159) rfl (by exact (oS_len _ _ _).symm) rfl (by rfl) (by omega) ?_
      intro key163 c164 sp165 w167 hS166 hne169 H168
      have H168' := H168.as (L' := [((some b158), sob EB 4 ([(wS gs inp gs.length).getD ((ol.getD q 0).toNat) false]) ([])), (key163, sob EB 4 ((oS (wS gs inp gs.length) ol q) ++ ([(wS gs inp gs.length).getD ((ol.getD q 0).toNat) false])) sp165), (key, sob EB 4 (wS gs inp gs.length) sp)]) rfl
      clear H168
      have e170 : (oS (wS gs inp gs.length) ol q) ++ ([(wS gs inp gs.length).getD ((ol.getD q 0).toNat) false]) = oS (wS gs inp gs.length) ol (q + 1) := by rw [oS]
      have hS171 := hS166
      rw [e170] at hS171
      have H172 := H168'.as (L' := [((some b158), sob EB 4 ([(wS gs inp gs.length).getD ((ol.getD q 0).toNat) false]) ([])), (key163, sob EB 4 (oS (wS gs inp gs.length) ol (q + 1)) sp165), (key, sob EB 4 (wS gs inp gs.length) sp)]) (by rw [e170])
      refine sq (r_assign (v := .slice (ownA key163) (q + 1) c164) rfl) ?_
      refine wnil ?_
      refine blockNormal ?_
      refine thenNormal ?_
      refine oneRegion ?_
      refine sq (r_move (v := i64 ((q : Nat))) rfl) ?_
      refine sq (r_addI (a := (q : Nat)) (b := (1 : Int)) rfl rfl (by omega)) ?_
      refine sq (r_assign (v := i64 ((q : Nat) + (1 : Int))) rfl) ?_
      refine wnil ?_
      refine thenNormal ?_
      exact ⟨(q + 1, key163, c164, sp165), _, rfl, ⟨rfl, rfl, rfl, rfl, trivial⟩, ⟨by omega, hS171, (H172.dropk 0)⟩, by show ol.length - (q + 1) < ol.length - q; omega⟩
    · skip
      obtain rfl : q = ol.length := by omega
      refine exitAny ?_
      refine thenExit ?_
      refine thenExit ?_
      refine blockHere ?_
      refine thenNormal ?_
      refine seqRegion ?_
      refine sq (r_move (v := .slice (ownA k2) ol.length c2) rfl) ?_
      refine sq (r_assign (v := .slice (ownA k2) ol.length c2) rfl) ?_
      refine wend ?_
      refine retAny ?_
      refine retG (rs := [.tmp 6]) (vs := [.slice (ownA k2) ol.length c2]) rfl ⟨⟨rfl, rfl⟩, trivial⟩ ?_
      exact ⟨_, rfl, HL2.resN (k := 0) rfl hS2 (by rw [evalS_len]), HL2.chg⟩

theorem sameI (T : TypeId) (h : Tryd.prog.underlying T = some (.int .i64)) (a : Int) (w : World) : (Op.equalIn 9999 T (.int .i64 a) (.int .i64 a)).run Tryd.prog w = .ok true w := by
  have := run_equalIn_int (P := Tryd.prog) w 9998 T .i64 .i64 a a h
  simpa using this

theorem sameG (a b c : Int) (w : World) : (Op.equalIn 10000 99 (.agg #[i64 a, i64 b, i64 c]) (.agg #[i64 a, i64 b, i64 c])).run Tryd.prog w = .ok true w := by
  rw [run_equalIn_agg _ _ _ _ _ (by kernel_rfl) (by kernel_rfl)]
  simp [Program.fieldsOf, Tryd.underlying99, Op.eqFields, part, i64, sameI _ Tryd.underlying97, sameI _ Tryd.underlying3, Result.andThen_ok]

theorem r_eqlSame99 {n : Nat} {ρ : Env} {w : World} {d : Option Nat} {t T : TypeId} {pos : String} {after : Array Edge} {g : Option (Nat × Bool)} {x y : Operand} {a b c : Int} (hx : ev n ρ x = .agg #[i64 a, i64 b, i64 c]) (hy : ev n ρ y = .agg #[i64 a, i64 b, i64 c]) : Runs Tryd.prog n ρ ⟨d, .binOp .eql 99 x y T, t, pos, after, g⟩ w (.bool true) w := by
  have h1 := run_eqGuard_agg (P := Tryd.prog) w .eql 99 x y #[i64 a, i64 b, i64 c] #[i64 a, i64 b, i64 c] gty99
  have h2 : (binOp .eql 99 (.agg #[i64 a, i64 b, i64 c]) (.agg #[i64 a, i64 b, i64 c])).run Tryd.prog w = .ok (.bool true) w := by
    rw [run_eql_struct, sameG]; rfl
  simp only [Runs, execOp, hx, hy, Sem.run_bind, h1, Result.andThen_ok, h2, Sem.run_pure]

theorem r_neqSame99 {n : Nat} {ρ : Env} {w : World} {d : Option Nat} {t T : TypeId} {pos : String} {after : Array Edge} {g : Option (Nat × Bool)} {x y : Operand} {a b c : Int} (hx : ev n ρ x = .agg #[i64 a, i64 b, i64 c]) (hy : ev n ρ y = .agg #[i64 a, i64 b, i64 c]) : Runs Tryd.prog n ρ ⟨d, .binOp .neq 99 x y T, t, pos, after, g⟩ w (.bool false) w := by
  have h1 := run_eqGuard_agg (P := Tryd.prog) w .neq 99 x y #[i64 a, i64 b, i64 c] #[i64 a, i64 b, i64 c] gty99
  have h2 : (binOp .neq 99 (.agg #[i64 a, i64 b, i64 c]) (.agg #[i64 a, i64 b, i64 c])).run Tryd.prog w = .ok (.bool false) w := by
    rw [run_neq_struct, sameG]; rfl
  simp only [Runs, execOp, hx, hy, Sem.run_bind, h1, Result.andThen_ok, h2, Sem.run_pure]

theorem own2_ok (n : Int) (gs : List Gt) (ol : List Int) (ga oa : Option Addr) (gc oc : Nat) (hgc : gs.length ≤ gc) (hoc : ol.length ≤ oc) (w : World) (hGs : Rd EG w ga gs) (hOl : Rd EI w oa ol) (hgl : gs.length ≤ 4200) (hol : ol.length ≤ 80) : Calls Tryd.prog 43 [.agg #[i64 (n), .slice ga gs.length gc, .slice oa ol.length oc]].toArray w (Ret fun v w' => OwnR n gs ol w v w' ∧ Ext w w') := by
  have h := own_ok n gs ol ga oa gc oc hgc hoc w hGs hOl
  rwa [List.take_of_length_le hgl, List.take_of_length_le hol] at h

theorem check_good (n : Int) (gs : List Gt) (ol : List Int) (ga oa : Option Addr) (gc oc : Nat) (w : World) (hG : Gl w) (hGs : Rd EG w ga gs) (hOl : Rd EI w oa ol) (hgl : gs.length ≤ 140737488355328) (hol : ol.length ≤ 140737488355328) (hb : IsC n gs ol) : Calls Tryd.prog 31 [.agg #[i64 (n), .slice ga gs.length gc, .slice oa ol.length oc]].toArray w (Ret fun v w' => v = .nilIface ∧ Ext w w') :=
  (check_ok n gs ol ga oa gc oc w hG hGs hOl hgl hol).mono fun e w' ⟨v, he, h, hE⟩ => by
    rcases h with ⟨h, _⟩ | ⟨_, h⟩
    · exact ⟨v, he, h, hE⟩
    · exact absurd hb h

theorem good_yes (n : Int) (gs : List Gt) (ol : List Int) (ga oa : Option Addr) (gc oc : Nat) (w : World) (hGs : Rd EG w ga gs) (hOl : Rd EI w oa ol) (hgl : gs.length ≤ 140737488355328) (hol : ol.length ≤ 140737488355328) (hb : IsC n gs ol) : Calls Tryd.prog 53 [i64 (n), .slice ga gs.length gc, .slice oa ol.length oc].toArray w (Ret fun v w' => v = .bool true ∧ Ext w w') :=
  (good_ok n gs ol ga oa gc oc w hGs hOl hgl hol).mono fun e w' ⟨v, he, h, hE⟩ => by
    rcases h with ⟨h, h2⟩ | ⟨h, h2⟩
    · exact ⟨v, he, h, hE⟩
    · exact absurd hb h2

theorem good_no (n : Int) (gs : List Gt) (ol : List Int) (ga oa : Option Addr) (gc oc : Nat) (w : World) (hGs : Rd EG w ga gs) (hOl : Rd EI w oa ol) (hgl : gs.length ≤ 140737488355328) (hol : ol.length ≤ 140737488355328) (hb : ¬ IsC n gs ol) : Calls Tryd.prog 53 [i64 (n), .slice ga gs.length gc, .slice oa ol.length oc].toArray w (Ret fun v w' => v = .bool false ∧ Ext w w') :=
  (good_ok n gs ol ga oa gc oc w hGs hOl hgl hol).mono fun e w' ⟨v, he, h, hE⟩ => by
    rcases h with ⟨h, h2⟩ | ⟨h, h2⟩
    · exact absurd h2 hb
    · exact ⟨v, he, h, hE⟩

end Go.Proofs.YteofdmdpaejgaaaDoor.Er
