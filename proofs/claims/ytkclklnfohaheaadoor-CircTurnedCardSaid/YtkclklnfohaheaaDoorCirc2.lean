/- The walks of the circuits. -/
import Derived.Test.YtkclklnfohaheaaDoorCirc
namespace Go.Proofs.YtkclklnfohaheaaDoor.Er
open Go Go.Proofs.YtkclklnfohaheaaDoor.Vc Go.Proofs.YtkclklnfohaheaaDoor.Circ
theorem byt3 : byt Tryd.prog 3 = some 8 := by kernel_rfl
theorem byt56 : byt Tryd.prog 56 = some 24 := by kernel_rfl
theorem byt78 : byt Tryd.prog 78 = some 24 := by kernel_rfl
theorem call24 : callable Tryd.prog 24 = true := by kernel_rfl
theorem call28 : callable Tryd.prog 28 = true := by kernel_rfl
theorem call29 : callable Tryd.prog 29 = true := by kernel_rfl
theorem call30 : callable Tryd.prog 30 = true := by kernel_rfl
theorem call31 : callable Tryd.prog 31 = true := by kernel_rfl
theorem fits78 : Fits Tryd.prog 78 EG := fitsG (by kernel_rfl) (by kernel_rfl)
theorem fld78_0 : fld Tryd.prog 78 0 = some (0, 1, 3) := by kernel_rfl
theorem fld78_1 : fld Tryd.prog 78 1 = some (1, 1, 3) := by kernel_rfl
theorem fld78_2 : fld Tryd.prog 78 2 = some (2, 1, 3) := by kernel_rfl
theorem gty56 : Tryd.prog.eqGuardType Tryd.prog.depth 56 = false := by kernel_rfl
theorem pls78 : pls Tryd.prog 78 = some #[(0, 1), (1, 1), (2, 1)] := by kernel_rfl
theorem siz23 : siz Tryd.prog 23 = some 1 := by kernel_rfl
theorem siz46 : siz Tryd.prog 46 = some 1 := by kernel_rfl
theorem siz78 : siz Tryd.prog 78 = some 3 := by kernel_rfl
theorem sli60 : sli Tryd.prog 60 = some (78, 3) := by kernel_rfl
theorem zer78 : zer Tryd.prog 78 = some (.agg #[.int .i64 0, .int .i64 0, .int .i64 0]) := by kernel_rfl
def OwnR (n : Int) (gs : List Gt) (ol : List Int) (w : World) (v : Value) (w' : World) : Prop := ∃ ng no kg cg spg ko co spo, v = .agg #[i64 n, .slice (ownA kg) ng cg, .slice (ownA ko) no co] ∧ ng = gs.length ∧ no = ol.length ∧ Sl EG kg gs cg spg ∧ Sl EI ko ol co spo ∧ Hp No w w' [(ko, sob EI 3 ol spo), (kg, sob EG 56 gs spg)]

theorem own_ok (n : Int) (gs : List Gt) (ol : List Int) (ga oa : Option Addr) (gc oc : Nat) (hgc : gs.length ≤ gc) (hoc : ol.length ≤ oc) (w : World) (hGs : Rd EG w ga gs) (hOl : Rd EI w oa ol) : Calls Tryd.prog 24 [.agg #[i64 (n), .slice ga gs.length gc, .slice oa ol.length oc]].toArray w (Ret fun v w' => OwnR n (gs.take 4200) (ol.take 80) w v w' ∧ Ext w w') := by
  have H := Hp.start No w
  refine enter (n := 24) Tryd.func24 rfl rfl (Nat.le_of_ble_eq_true rfl) ?_
  refine seqRegion ?_
  refine q_box (v := .agg #[i64 (n), .slice ga gs.length gc, .slice oa ol.length oc]) (o := .cells #[i64 (n), .slice ga gs.length gc, .slice oa ol.length oc] 48 (0, 0)) H rfl (by rfl) ?_
  intro b1 w2 hb1 H3 hE4
  refine q_alloc (o := .cells #[i64 ((0 : Int)), .slice none 0 0, .slice none 0 0] 48 (0, 0)) H3 zer48 (by kernel_rfl) ?_
  intro b5 w6 hb5 H7 hE8
  refine wend ?_
  refine seqRegion ?_
  refine q_buildSlice (E := EG) (l := ([] : List Gt)) H7 sli46 zer56 (Nat.le_of_ble_eq_true rfl) (ps := []) rfl (by exact fillAll rfl rfl) rfl ?_
  intro b9 w11 hS10 H12 hE13
  refine sq (r_fieldAddr (off' := 1) fld48_1 (by decide) (b := b1) (off := 0) rfl (by omega)) ?_
  refine sq (r_loadC (v := .slice ga gs.length gc) one46 (H12.get (k := 2) rfl) (off := 1) rfl (by rfl)) ?_
  refine sq (r_fieldAddr (off' := 1) fld48_1 (by decide) (b := b1) (off := 0) rfl (by omega)) ?_
  refine sq (r_loadC (v := .slice ga gs.length gc) one46 (H12.get (k := 2) rfl) (off := 1) rfl (by rfl)) ?_
  refine sq (r_lenS sli46 (a := ga) (m := gs.length) (c := gc) rfl) ?_
  refine sq ((r_minI (a := (gs.length : Nat)) (b := (4200 : Int)) rfl rfl).as (v' := i64 ((min gs.length 4200 : Nat))) (by exact congrArg i64 (by omega))) ?_
  refine sq ((r_sliceS (l := 0) (h := min gs.length 4200) sli46 rfl (.inr ⟨rfl, rfl⟩) (.inl ⟨_, _, _, rfl, rfl, by first | rfl | omega | (simp; omega)⟩) (by omega) (by omega)).as (v' := .slice (if gc = 0 then ga else adr ga (0 * 3)) (min gs.length 4200) (gc - 0)) (by rw [show (min gs.length 4200) - 0 = min gs.length 4200 by omega])) ?_
  refine q_append (E := EG) (k := 0) (l := ([] : List Gt)) (l2 := (gs.drop 0).take (min gs.length 4200)) H12 rfl hS10 sli46 zer56 rfl byt56 (Rd.sub (hGs.ext H12.chg) 0 (min gs.length 4200) (m := gc) (fun e => by first | exact absurd e (by omega) | (rw [show min gs.length 4200 = 0 by omega]; rfl))) rfl (by rfl) rfl (by rw [List.length_take, List.length_drop]; omega) (by omega) ?_
  intro key14 c15 sp16 w18 hS17 hne20 H19
  have H19' := H19.as (L' := [(key14, sob EG 56 (([] : List Gt) ++ ((gs.drop 0).take (min gs.length 4200))) sp16), (some b5, .cells #[i64 ((0 : Int)), .slice none 0 0, .slice none 0 0] 48 (0, 0)), (some b1, .cells #[i64 (n), .slice ga gs.length gc, .slice oa ol.length oc] 48 (0, 0))]) rfl
  clear H19
  have e21 : ([] : List Gt) ++ ((gs.drop 0).take (min gs.length 4200)) = gs.take 4200 := by exact own_take _ _
  have hS22 := hS17
  rw [e21] at hS22
  have H23 := H19'.as (L' := [(key14, sob EG 56 (gs.take 4200) sp16), (some b5, .cells #[i64 ((0 : Int)), .slice none 0 0, .slice none 0 0] 48 (0, 0)), (some b1, .cells #[i64 (n), .slice ga gs.length gc, .slice oa ol.length oc] 48 (0, 0))]) (by rw [e21])
  refine sq (r_fieldAddr (off' := 1) fld48_1 (by decide) (b := b1) (off := 0) rfl (by omega)) ?_
  refine d_store (k := 2) (v := .slice (ownA key14) (0 + (min gs.length 4200)) c15) (cs' := #[i64 (n), .slice (ownA key14) (0 + (min gs.length 4200)) c15, .slice oa ol.length oc]) H23 rfl rfl rfl siz46 (by rfl) (by intro u hu; simp [Value.cells] at hu; first | (subst hu; rfl) | (rcases hu with rfl <;> rfl)) (by exact Nat.le_of_ble_eq_true rfl) (by rfl) ?_
  intro w24 H25 hC26
  have H25' := H25.as (L' := [(key14, sob EG 56 (gs.take 4200) sp16), (some b5, .cells #[i64 ((0 : Int)), .slice none 0 0, .slice none 0 0] 48 (0, 0)), (some b1, .cells #[i64 (n), .slice (ownA key14) (0 + (min gs.length 4200)) c15, .slice oa ol.length oc] 48 (0, 0))]) rfl
  clear H25
  refine wend ?_
  refine seqRegion ?_
  refine q_buildSlice (E := EI) (l := []) H25' sli23 zer3 (Nat.le_of_ble_eq_true rfl) (ps := []) rfl (by exact fillAll rfl rfl) rfl ?_
  intro b27 w29 hS28 H30 hE31
  refine sq (r_fieldAddr (off' := 2) fld48_2 (by decide) (b := b1) (off := 0) rfl (by omega)) ?_
  refine sq (r_loadC (v := .slice oa ol.length oc) one23 (H30.get (k := 3) rfl) (off := 2) rfl (by rfl)) ?_
  refine sq (r_fieldAddr (off' := 2) fld48_2 (by decide) (b := b1) (off := 0) rfl (by omega)) ?_
  refine sq (r_loadC (v := .slice oa ol.length oc) one23 (H30.get (k := 3) rfl) (off := 2) rfl (by rfl)) ?_
  refine sq (r_lenS sli23 (a := oa) (m := ol.length) (c := oc) rfl) ?_
  refine sq ((r_minI (a := (ol.length : Nat)) (b := (80 : Int)) rfl rfl).as (v' := i64 ((min ol.length 80 : Nat))) (by exact congrArg i64 (by omega))) ?_
  refine sq ((r_sliceS (l := 0) (h := min ol.length 80) sli23 rfl (.inr ⟨rfl, rfl⟩) (.inl ⟨_, _, _, rfl, rfl, by first | rfl | omega | (simp; omega)⟩) (by omega) (by omega)).as (v' := .slice (if oc = 0 then oa else adr oa (0 * 1)) (min ol.length 80) (oc - 0)) (by rw [show (min ol.length 80) - 0 = min ol.length 80 by omega])) ?_
  refine q_append (E := EI) (k := 0) (l := []) (l2 := (ol.drop 0).take (min ol.length 80)) H30 rfl hS28 sli23 zer3 rfl byt3 (Rd.sub (hOl.ext H30.chg) 0 (min ol.length 80) (m := oc) (fun e => by first | exact absurd e (by omega) | (rw [show min ol.length 80 = 0 by omega]; rfl))) rfl (by rfl) rfl (by rw [List.length_take, List.length_drop]; omega) (by omega) ?_
  intro key32 c33 sp34 w36 hS35 hne38 H37
  have H37' := H37.as (L' := [(key32, sob EI 3 (([]) ++ ((ol.drop 0).take (min ol.length 80))) sp34), (key14, sob EG 56 (gs.take 4200) sp16), (some b5, .cells #[i64 ((0 : Int)), .slice none 0 0, .slice none 0 0] 48 (0, 0)), (some b1, .cells #[i64 (n), .slice (ownA key14) (0 + (min gs.length 4200)) c15, .slice oa ol.length oc] 48 (0, 0))]) rfl
  clear H37
  have e39 : ([]) ++ ((ol.drop 0).take (min ol.length 80)) = ol.take 80 := by exact own_take _ _
  have hS40 := hS35
  rw [e39] at hS40
  have H41 := H37'.as (L' := [(key32, sob EI 3 (ol.take 80) sp34), (key14, sob EG 56 (gs.take 4200) sp16), (some b5, .cells #[i64 ((0 : Int)), .slice none 0 0, .slice none 0 0] 48 (0, 0)), (some b1, .cells #[i64 (n), .slice (ownA key14) (0 + (min gs.length 4200)) c15, .slice oa ol.length oc] 48 (0, 0))]) (by rw [e39])
  refine sq (r_fieldAddr (off' := 2) fld48_2 (by decide) (b := b1) (off := 0) rfl (by omega)) ?_
  refine d_store (k := 3) (v := .slice (ownA key32) (0 + (min ol.length 80)) c33) (cs' := #[i64 (n), .slice (ownA key14) (0 + (min gs.length 4200)) c15, .slice (ownA key32) (0 + (min ol.length 80)) c33]) H41 rfl rfl rfl siz23 (by rfl) (by intro u hu; simp [Value.cells] at hu; first | (subst hu; rfl) | (rcases hu with rfl <;> rfl)) (by exact Nat.le_of_ble_eq_true rfl) (by rfl) ?_
  intro w42 H43 hC44
  have H43' := H43.as (L' := [(key32, sob EI 3 (ol.take 80) sp34), (key14, sob EG 56 (gs.take 4200) sp16), (some b5, .cells #[i64 ((0 : Int)), .slice none 0 0, .slice none 0 0] 48 (0, 0)), (some b1, .cells #[i64 (n), .slice (ownA key14) (0 + (min gs.length 4200)) c15, .slice (ownA key32) (0 + (min ol.length 80)) c33] 48 (0, 0))]) rfl
  clear H43
  refine wend ?_
  refine seqRegion ?_
  refine sq (r_loadA (cs' := #[i64 (n), .slice (ownA key14) (0 + (min gs.length 4200)) c15, .slice (ownA key32) (0 + (min ol.length 80)) c33]) agg48 siz48 (H43'.get (k := 3) rfl) (off := 0) rfl (by exact Nat.le_of_ble_eq_true rfl) (by rfl)) ?_
  refine d_store (k := 2) (v := .agg #[i64 (n), .slice (ownA key14) (0 + (min gs.length 4200)) c15, .slice (ownA key32) (0 + (min ol.length 80)) c33]) (cs' := #[i64 (n), .slice (ownA key14) (0 + (min gs.length 4200)) c15, .slice (ownA key32) (0 + (min ol.length 80)) c33]) H43' rfl rfl rfl siz48 (by rfl) (by intro u hu; simp [Value.cells] at hu; first | (subst hu; rfl) | (rcases hu with rfl | rfl | rfl <;> rfl)) (by exact Nat.le_of_ble_eq_true rfl) (by rfl) ?_
  intro w45 H46 hC47
  have H46' := H46.as (L' := [(key32, sob EI 3 (ol.take 80) sp34), (key14, sob EG 56 (gs.take 4200) sp16), (some b5, .cells #[i64 (n), .slice (ownA key14) (0 + (min gs.length 4200)) c15, .slice (ownA key32) (0 + (min ol.length 80)) c33] 48 (0, 0)), (some b1, .cells #[i64 (n), .slice (ownA key14) (0 + (min gs.length 4200)) c15, .slice (ownA key32) (0 + (min ol.length 80)) c33] 48 (0, 0))]) rfl
  clear H46
  refine wend ?_
  refine retAny ?_
  refine retG (rs := [.cell 2 48]) (vs := [.agg #[i64 (n), .slice (ownA key14) (0 + (min gs.length 4200)) c15, .slice (ownA key32) (0 + (min ol.length 80)) c33]]) rfl ⟨r_loadA (cs' := #[i64 (n), .slice (ownA key14) (0 + (min gs.length 4200)) c15, .slice (ownA key32) (0 + (min ol.length 80)) c33]) agg48 siz48 (H46'.get (k := 2) rfl) (off := 0) rfl (by exact Nat.le_of_ble_eq_true rfl) (by rfl), trivial⟩ ?_
  exact ⟨_, rfl, ⟨_, _, key14, c15, sp16, key32, c33, sp34, rfl, by rw [List.length_take]; omega, by rw [List.length_take]; omega, hS22, hS40, ((H46'.dropk 3).dropk 2)⟩, H46'.chg⟩

theorem gates_ok (n : Int) (gs : List Gt) (ol : List Int) (ga oa : Option Addr) (gc oc : Nat) (w : World) (hGs : Rd EG w ga gs) (hgl : gs.length ≤ 4200) : Calls Tryd.prog 29 [.agg #[i64 (n), .slice ga gs.length gc, .slice oa ol.length oc]].toArray w (Ret fun v w' => SlRes EG 78 gs w v w' ∧ Ext w w') := by
  have H := Hp.start No w
  refine enter (n := 25) Tryd.func29 rfl rfl (Nat.le_of_ble_eq_true rfl) ?_
  refine seqRegion ?_
  refine q_box (v := .agg #[i64 (n), .slice ga gs.length gc, .slice oa ol.length oc]) (o := .cells #[i64 (n), .slice ga gs.length gc, .slice oa ol.length oc] 48 (0, 0)) H rfl (by rfl) ?_
  intro b1 w2 hb1 H3 hE4
  refine sq (r_assign (v := .slice none 0 0) rfl) ?_
  refine wend ?_
  refine seqRegion ?_
  refine sq (r_assign (v := .slice none 0 0) rfl) ?_
  have H5 := H3.nil (sob EG 78 [] [])
  refine wend ?_
  refine seqAny ?_
  refine seqRegion ?_
  refine sq (r_fieldAddr (off' := 1) fld48_1 (by decide) (b := b1) (off := 0) rfl (by omega)) ?_
  refine sq (r_loadC (v := .slice ga gs.length gc) one46 (H5.get (k := 1) rfl) (off := 1) rfl (by rfl)) ?_
  refine sq (r_lenS sli46 (a := ga) (m := gs.length) (c := gc) rfl) ?_
  refine sq (r_move (v := i64 ((0 : Int))) rfl) ?_
  refine wend ?_
  refine blockAny ?_
  refine loopAny (σ := Nat × Option Nat × Nat × List Value) (fun (i, key, c, sp) => [(1, .pointer (some ⟨b1, 0, none⟩)), (3, .slice (ownA key) i c), (7, .slice ga gs.length gc), (8, i64 ((gs.length : Nat))), (9, i64 ((i : Nat)))]) (fun (i, key, c, sp) w' => i ≤ gs.length ∧ Sl EG key (gs.take i) c sp ∧ Hp No w w' [(key, sob EG 78 (gs.take i) sp), (some b1, .cells #[i64 (n), .slice ga gs.length gc, .slice oa ol.length oc] 48 (0, 0))]) (fun (i, key, c, sp) => gs.length - i) ((0, none, 0, [])) ?_ ?_ ?_
  · exact ⟨rfl, rfl, rfl, rfl, rfl, trivial⟩
  · exact ⟨by omega, Sl.none, H5⟩
  rintro ⟨i, key, c, sp⟩ ρ w6 ⟨hi, hS, HL⟩
  refine seqRegion ?_
  refine sq (r_lssI (a := (i : Nat)) (b := (gs.length : Nat)) rfl rfl) ?_
  refine wend ?_
  refine seqAny ?_
  refine condProp (((i : Nat) : Int) < (gs.length : Nat)) rfl (fun c10 => ?_) (fun c10 => ?_)
  · skip
    refine skipAny ?_
    refine thenNormal ?_
    refine seqAny ?_
    refine blockAny ?_
    refine seqRegion ?_
    refine sq (r_idxS (E := EG) (l := gs) (j := i) sli46 (hGs.ext HL.chg) rfl rfl (by first | rfl | omega | (simp; omega)) (by rfl) (by omega)) ?_
    refine sq ((r_ldS (E := EG) (l := gs) (j := i) (v := (gs).getD i g0) fits56 (hGs.ext HL.chg) rfl rfl (at_getD (by omega))).as (v' := .agg #[i64 (((gs).getD i g0).k), i64 (((gs).getD i g0).a), i64 (((gs).getD i g0).b)]) rfl) ?_
    refine q_alloc (o := .cells #[i64 ((0 : Int)), i64 ((0 : Int)), i64 ((0 : Int))] 56 (0, 0)) HL zer56 (by kernel_rfl) ?_
    intro b8 w9 hb8 H10 hE11
    refine d_store (k := 0) (v := .agg #[i64 (((gs).getD i g0).k), i64 (((gs).getD i g0).a), i64 (((gs).getD i g0).b)]) (cs' := #[i64 (((gs).getD i g0).k), i64 (((gs).getD i g0).a), i64 (((gs).getD i g0).b)]) H10 rfl rfl rfl siz56 (by rfl) (by intro u hu; simp [Value.cells] at hu; first | (subst hu; rfl) | (rcases hu with rfl | rfl | rfl <;> rfl)) (by exact Nat.le_of_ble_eq_true rfl) (by rfl) ?_
    intro w12 H13 hC14
    have H13' := H13.as (L' := [(some b8, .cells #[i64 (((gs).getD i g0).k), i64 (((gs).getD i g0).a), i64 (((gs).getD i g0).b)] 56 (0, 0)), (key, sob EG 78 (gs.take i) sp), (some b1, .cells #[i64 (n), .slice ga gs.length gc, .slice oa ol.length oc] 48 (0, 0))]) rfl
    clear H13
    refine wend ?_
    refine oneRegion ?_
    refine sq (r_move (v := .slice (ownA key) i c) rfl) ?_
    refine sq (r_fieldAddr (off' := 0) fld56_0 (by decide) (b := b8) (off := 0) rfl (by omega)) ?_
    refine sq (r_loadC (v := i64 (((gs).getD i g0).k)) one54 (H13'.get (k := 0) rfl) (off := 0) rfl (by rfl)) ?_
    refine sq (r_fieldAddr (off' := 1) fld56_1 (by decide) (b := b8) (off := 0) rfl (by omega)) ?_
    refine sq (r_loadC (v := i64 (((gs).getD i g0).a)) one3 (H13'.get (k := 0) rfl) (off := 1) rfl (by rfl)) ?_
    refine sq (r_fieldAddr (off' := 2) fld56_2 (by decide) (b := b8) (off := 0) rfl (by omega)) ?_
    refine sq (r_loadC (v := i64 (((gs).getD i g0).b)) one3 (H13'.get (k := 0) rfl) (off := 2) rfl (by rfl)) ?_
    refine sq (r_build (cs' := #[i64 (((gs).getD i g0).k), i64 (((gs).getD i g0).a), i64 (((gs).getD i g0).b)]) (ps := [(0, i64 (((gs).getD i g0).k)), (1, i64 (((gs).getD i g0).a)), (2, i64 (((gs).getD i g0).b))]) zer78 pls78 rfl (by rfl)) ?_
    refine q_buildSlice (E := EG) (l := ([⟨((gs).getD i g0).k, ((gs).getD i g0).a, ((gs).getD i g0).b⟩] : List Gt)) H13' sli60 zer78 (Nat.le_of_ble_eq_true rfl) (ps := [(0, .agg #[i64 (((gs).getD i g0).k), i64 (((gs).getD i g0).a), i64 (((gs).getD i g0).b)])]) rfl (by exact fillAll rfl rfl) rfl ?_
    intro b15 w17 hS16 H18 hE19
    refine q_append (E := EG) (k := 2) (l := gs.take i) (l2 := ([⟨((gs).getD i g0).k, ((gs).getD i g0).a, ((gs).getD i g0).b⟩] : List Gt)) H18 rfl hS sli60 zer78 rfl byt78 (H18.rd (k := 0) rfl hS16) rfl (by rw [List.length_take]; omega) rfl (by rfl) (by omega) ?_
    intro key20 c21 sp22 w24 hS23 hne26 H25
    have H25' := H25.as (L' := [((some b15), sob EG 78 ([⟨((gs).getD i g0).k, ((gs).getD i g0).a, ((gs).getD i g0).b⟩] : List Gt) ([])), (some b8, .cells #[i64 (((gs).getD i g0).k), i64 (((gs).getD i g0).a), i64 (((gs).getD i g0).b)] 56 (0, 0)), (key20, sob EG 78 ((gs.take i) ++ ([⟨((gs).getD i g0).k, ((gs).getD i g0).a, ((gs).getD i g0).b⟩] : List Gt)) sp22), (some b1, .cells #[i64 (n), .slice ga gs.length gc, .slice oa ol.length oc] 48 (0, 0))]) rfl
    clear H25
    have e27 : (gs.take i) ++ ([⟨((gs).getD i g0).k, ((gs).getD i g0).a, ((gs).getD i g0).b⟩] : List Gt) = gs.take (i + 1) := by exact take_snoc gs i (by omega)
    have hS28 := hS23
    rw [e27] at hS28
    have H29 := H25'.as (L' := [((some b15), sob EG 78 ([⟨((gs).getD i g0).k, ((gs).getD i g0).a, ((gs).getD i g0).b⟩] : List Gt) ([])), (some b8, .cells #[i64 (((gs).getD i g0).k), i64 (((gs).getD i g0).a), i64 (((gs).getD i g0).b)] 56 (0, 0)), (key20, sob EG 78 (gs.take (i + 1)) sp22), (some b1, .cells #[i64 (n), .slice ga gs.length gc, .slice oa ol.length oc] 48 (0, 0))]) (by rw [e27])
    refine sq (r_assign (v := .slice (ownA key20) (i + 1) c21) rfl) ?_
    refine wnil ?_
    refine blockNormal ?_
    refine thenNormal ?_
    refine oneRegion ?_
    refine sq (r_addI (a := (i : Nat)) (b := (1 : Int)) rfl rfl (by omega)) ?_
    refine sq (r_move (v := i64 ((i : Nat) + (1 : Int))) rfl) ?_
    refine wnil ?_
    refine thenNormal ?_
    exact ⟨(i + 1, key20, c21, sp22), _, rfl, ⟨rfl, rfl, rfl, rfl, rfl, trivial⟩, ⟨by omega, hS28, ((H29.dropk 1).dropk 0)⟩, by show gs.length - (i + 1) < gs.length - i; omega⟩
  · skip
    obtain rfl : i = gs.length := by omega
    refine exitAny ?_
    refine thenExit ?_
    refine thenExit ?_
    refine blockHere ?_
    refine thenNormal ?_
    refine seqRegion ?_
    refine sq (r_move (v := .slice (ownA key) gs.length c) rfl) ?_
    refine sq (r_assign (v := .slice (ownA key) gs.length c) rfl) ?_
    refine wend ?_
    refine retAny ?_
    refine retG (rs := [.tmp 2]) (vs := [.slice (ownA key) gs.length c]) rfl ⟨⟨rfl, rfl⟩, trivial⟩ ?_
    exact ⟨_, rfl, by have h := HL.resN (k := 0) (q := gs.length) rfl hS (by rw [List.length_take]; omega); rwa [List.take_length] at h, HL.chg⟩

set_option maxHeartbeats 2000000 in
theorem good_ok (n : Int) (gs : List Gt) (ol : List Int) (ga oa : Option Addr) (gc oc : Nat) (w : World) (hGs : Rd EG w ga gs) (hOl : Rd EI w oa ol) (hgl : gs.length ≤ 140737488355328) (hol : ol.length ≤ 140737488355328) : Calls Tryd.prog 28 [i64 (n), .slice ga gs.length gc, .slice oa ol.length oc].toArray w (Ret fun v w' => ((v = .bool true ∧ IsC n gs ol) ∨ (v = .bool false ∧ ¬ IsC n gs ol)) ∧ Ext w w') := by
  have H := Hp.start No w
  refine enter (n := 107) Tryd.func28 rfl rfl (Nat.le_of_ble_eq_true rfl) ?_
  refine seqRegion ?_
  refine sq (r_assign (v := .bool (false)) rfl) ?_
  refine wend ?_
  refine seqAny ?_
  refine seqRegion ?_
  refine sq (r_move (v := i64 (n)) rfl) ?_
  refine sq (r_lssI (a := n) (b := (0 : Int)) rfl rfl) ?_
  refine sq (r_move (v := .bool (decide ((n : Int) < (0 : Int)))) rfl) ?_
  by_cases g1 : (n : Int) < (0 : Int)
  · skip
    refine skAny (wantedSome (d' := 12) (b := true) rfl rfl (congrArg Value.bool (decide_eq_true g1))) ?_
    refine skAny (wantedSome (d' := 12) (b := true) rfl rfl (congrArg Value.bool (decide_eq_true g1))) ?_
    refine sq (r_pickT (u := .bool (true)) (congrArg Value.bool (decide_eq_true g1)) rfl) ?_
    refine sq (r_move (v := .bool (true)) rfl) ?_
    refine skAny (wantedSome (d' := 16) (b := true) rfl rfl rfl) ?_
    refine skAny (wantedSome (d' := 16) (b := true) rfl rfl rfl) ?_
    refine skAny (wantedSome (d' := 16) (b := true) rfl rfl rfl) ?_
    refine sq (r_pickT (u := .bool (true)) rfl rfl) ?_
    refine sq (r_move (v := .bool (true)) rfl) ?_
    refine skAny (wantedSome (d' := 21) (b := true) rfl rfl rfl) ?_
    refine skAny (wantedSome (d' := 21) (b := true) rfl rfl rfl) ?_
    refine skAny (wantedSome (d' := 21) (b := true) rfl rfl rfl) ?_
    refine sq (r_pickT (u := .bool (true)) rfl rfl) ?_
    refine wend ?_
    refine condTrue rfl ?_
    refine seqRegion ?_
    refine sq (r_assign (v := .bool (false)) rfl) ?_
    refine wend ?_
    refine retAny ?_
    refine thenRet ?_
    refine retG (rs := [.tmp 6]) (vs := [.bool (false)]) rfl ⟨⟨rfl, rfl⟩, trivial⟩ ?_
    exact ⟨_, rfl, .inr ⟨rfl, fun hg => by have := hg.lo; have := hg.hi; have := hg.gates; have := hg.outs; omega⟩, H.chg⟩
  · skip
    refine sqAny (v := i64 (n)) (w' := w) (wantedSome (d' := 12) (b := false) rfl rfl (congrArg Value.bool (decide_eq_false g1))) (r_move (v := i64 (n)) rfl) ?_
    refine sqAny (v := .bool (decide (((4096 : Int) : Int) < n))) (w' := w) (wantedSome (d' := 12) (b := false) rfl rfl (congrArg Value.bool (decide_eq_false g1))) (r_gtrI (a := n) (b := (4096 : Int)) rfl rfl) ?_
    refine sq (r_pickF (v := .bool (decide (((4096 : Int) : Int) < n))) (congrArg Value.bool (decide_eq_false g1)) rfl) ?_
    refine sq (r_move (v := .bool (decide (((4096 : Int) : Int) < n))) rfl) ?_
    by_cases g2 : ((4096 : Int) : Int) < n
    · skip
      refine skAny (wantedSome (d' := 16) (b := true) rfl rfl (congrArg Value.bool (decide_eq_true g2))) ?_
      refine skAny (wantedSome (d' := 16) (b := true) rfl rfl (congrArg Value.bool (decide_eq_true g2))) ?_
      refine skAny (wantedSome (d' := 16) (b := true) rfl rfl (congrArg Value.bool (decide_eq_true g2))) ?_
      refine sq (r_pickT (u := .bool (true)) (congrArg Value.bool (decide_eq_true g2)) rfl) ?_
      refine sq (r_move (v := .bool (true)) rfl) ?_
      refine skAny (wantedSome (d' := 21) (b := true) rfl rfl rfl) ?_
      refine skAny (wantedSome (d' := 21) (b := true) rfl rfl rfl) ?_
      refine skAny (wantedSome (d' := 21) (b := true) rfl rfl rfl) ?_
      refine sq (r_pickT (u := .bool (true)) rfl rfl) ?_
      refine wend ?_
      refine condTrue rfl ?_
      refine seqRegion ?_
      refine sq (r_assign (v := .bool (false)) rfl) ?_
      refine wend ?_
      refine retAny ?_
      refine thenRet ?_
      refine retG (rs := [.tmp 6]) (vs := [.bool (false)]) rfl ⟨⟨rfl, rfl⟩, trivial⟩ ?_
      exact ⟨_, rfl, .inr ⟨rfl, fun hg => by have := hg.lo; have := hg.hi; have := hg.gates; have := hg.outs; omega⟩, H.chg⟩
    · skip
      refine sqAny (v := .slice ga gs.length gc) (w' := w) (wantedSome (d' := 16) (b := false) rfl rfl (congrArg Value.bool (decide_eq_false g2))) (r_move (v := .slice ga gs.length gc) rfl) ?_
      refine sqAny (v := i64 ((gs.length : Nat))) (w' := w) (wantedSome (d' := 16) (b := false) rfl rfl (congrArg Value.bool (decide_eq_false g2))) (r_lenS sli60 (a := ga) (m := gs.length) (c := gc) rfl) ?_
      refine sqAny (v := .bool (decide (((4096 : Int) : Int) < (gs.length : Nat)))) (w' := w) (wantedSome (d' := 16) (b := false) rfl rfl (congrArg Value.bool (decide_eq_false g2))) (r_gtrI (a := (gs.length : Nat)) (b := (4096 : Int)) rfl rfl) ?_
      refine sq (r_pickF (v := .bool (decide (((4096 : Int) : Int) < (gs.length : Nat)))) (congrArg Value.bool (decide_eq_false g2)) rfl) ?_
      refine sq (r_move (v := .bool (decide (((4096 : Int) : Int) < (gs.length : Nat)))) rfl) ?_
      by_cases g3 : ((4096 : Int) : Int) < (gs.length : Nat)
      · skip
        refine skAny (wantedSome (d' := 21) (b := true) rfl rfl (congrArg Value.bool (decide_eq_true g3))) ?_
        refine skAny (wantedSome (d' := 21) (b := true) rfl rfl (congrArg Value.bool (decide_eq_true g3))) ?_
        refine skAny (wantedSome (d' := 21) (b := true) rfl rfl (congrArg Value.bool (decide_eq_true g3))) ?_
        refine sq (r_pickT (u := .bool (true)) (congrArg Value.bool (decide_eq_true g3)) rfl) ?_
        refine wend ?_
        refine condTrue rfl ?_
        refine seqRegion ?_
        refine sq (r_assign (v := .bool (false)) rfl) ?_
        refine wend ?_
        refine retAny ?_
        refine thenRet ?_
        refine retG (rs := [.tmp 6]) (vs := [.bool (false)]) rfl ⟨⟨rfl, rfl⟩, trivial⟩ ?_
        exact ⟨_, rfl, .inr ⟨rfl, fun hg => by have := hg.lo; have := hg.hi; have := hg.gates; have := hg.outs; omega⟩, H.chg⟩
      · skip
        refine sqAny (v := .slice oa ol.length oc) (w' := w) (wantedSome (d' := 21) (b := false) rfl rfl (congrArg Value.bool (decide_eq_false g3))) (r_move (v := .slice oa ol.length oc) rfl) ?_
        refine sqAny (v := i64 ((ol.length : Nat))) (w' := w) (wantedSome (d' := 21) (b := false) rfl rfl (congrArg Value.bool (decide_eq_false g3))) (r_lenS sli23 (a := oa) (m := ol.length) (c := oc) rfl) ?_
        refine sqAny (v := .bool (decide (((64 : Int) : Int) < (ol.length : Nat)))) (w' := w) (wantedSome (d' := 21) (b := false) rfl rfl (congrArg Value.bool (decide_eq_false g3))) (r_gtrI (a := (ol.length : Nat)) (b := (64 : Int)) rfl rfl) ?_
        refine sq (r_pickF (v := .bool (decide (((64 : Int) : Int) < (ol.length : Nat)))) (congrArg Value.bool (decide_eq_false g3)) rfl) ?_
        refine wend ?_
        refine condProp (((64 : Int) : Int) < (ol.length : Nat)) rfl (fun c25 => ?_) (fun c25 => ?_)
        · skip
          refine seqRegion ?_
          refine sq (r_assign (v := .bool (false)) rfl) ?_
          refine wend ?_
          refine retAny ?_
          refine thenRet ?_
          refine retG (rs := [.tmp 6]) (vs := [.bool (false)]) rfl ⟨⟨rfl, rfl⟩, trivial⟩ ?_
          exact ⟨_, rfl, .inr ⟨rfl, fun hg => by have := hg.lo; have := hg.hi; have := hg.gates; have := hg.outs; omega⟩, H.chg⟩
        · skip
          refine skipAny ?_
          refine thenNormal ?_
          refine seqAny ?_
          refine seqRegion ?_
          refine sq (r_assign (v := i64 ((0 : Int))) rfl) ?_
          refine wend ?_
          refine blockAny ?_
          refine loopAny (σ := Nat) (fun i => [(0, i64 (n)), (1, .slice ga gs.length gc), (2, .slice oa ol.length oc), (7, i64 ((i : Nat)))]) (fun i w' => i ≤ gs.length ∧ (∀ j, j < i → gokP (gs.getD j g0) (n + (j : Nat))) ∧ Hp No w w' []) (fun i => gs.length - i) (0) ?_ ?_ ?_
          · exact ⟨rfl, rfl, rfl, rfl, trivial⟩
          · exact ⟨by omega, fun j hj => by omega, H⟩
          rintro i ρ w4 ⟨hi, hgs, HL⟩
          refine seqAny ?_
          refine seqRegion ?_
          refine sq (r_move (v := i64 ((i : Nat))) rfl) ?_
          refine sq (r_move (v := .slice ga gs.length gc) rfl) ?_
          refine sq (r_lenS sli60 (a := ga) (m := gs.length) (c := gc) rfl) ?_
          refine sq (r_lssI (a := (i : Nat)) (b := (gs.length : Nat)) rfl rfl) ?_
          refine wend ?_
          refine condProp (((i : Nat) : Int) < (gs.length : Nat)) rfl (fun c29 => ?_) (fun c29 => ?_)
          · skip
            refine skipAny ?_
            refine thenNormal ?_
            refine seqAny ?_
            refine blockAny ?_
            refine seqRegion ?_
            refine sq (r_move (v := .slice ga gs.length gc) rfl) ?_
            refine sq (r_move (v := i64 ((i : Nat))) rfl) ?_
            refine sq (r_idxS (E := EG) (l := gs) (j := i) sli60 (hGs.ext HL.chg) rfl rfl (by first | rfl | omega | (simp; omega)) (by rfl) (by omega)) ?_
            refine sq ((r_ldS (E := EG) (l := gs) (j := i) (v := (gs).getD i g0) fits78 (hGs.ext HL.chg) rfl rfl (at_getD (by omega))).as (v' := .agg #[i64 (((gs).getD i g0).k), i64 (((gs).getD i g0).a), i64 (((gs).getD i g0).b)]) rfl) ?_
            refine q_alloc (o := .cells #[i64 ((0 : Int)), i64 ((0 : Int)), i64 ((0 : Int))] 78 (0, 0)) HL zer78 (by kernel_rfl) ?_
            intro b6 w7 hb6 H8 hE9
            refine d_store (k := 0) (v := .agg #[i64 (((gs).getD i g0).k), i64 (((gs).getD i g0).a), i64 (((gs).getD i g0).b)]) (cs' := #[i64 (((gs).getD i g0).k), i64 (((gs).getD i g0).a), i64 (((gs).getD i g0).b)]) H8 rfl rfl rfl siz78 (by rfl) (by intro u hu; simp [Value.cells] at hu; first | (subst hu; rfl) | (rcases hu with rfl | rfl | rfl <;> rfl)) (by exact Nat.le_of_ble_eq_true rfl) (by rfl) ?_
            intro w10 H11 hC12
            have H11' := H11.as (L' := [(some b6, .cells #[i64 (((gs).getD i g0).k), i64 (((gs).getD i g0).a), i64 (((gs).getD i g0).b)] 78 (0, 0))]) rfl
            clear H11
            refine wend ?_
            refine seqRegion ?_
            refine sq (r_fieldAddr (off' := 0) fld78_0 (by decide) (b := b6) (off := 0) rfl (by omega)) ?_
            refine sq (r_loadC (v := i64 (((gs).getD i g0).k)) one3 (H11'.get (k := 0) rfl) (off := 0) rfl (by rfl)) ?_
            refine sq (r_lssI (a := ((gs).getD i g0).k) (b := (1 : Int)) rfl rfl) ?_
            refine sq (r_move (v := .bool (decide ((((gs).getD i g0).k : Int) < (1 : Int)))) rfl) ?_
            by_cases g13 : (((gs).getD i g0).k : Int) < (1 : Int)
            · skip
              refine skAny (wantedSome (d' := 39) (b := true) rfl rfl (congrArg Value.bool (decide_eq_true g13))) ?_
              refine skAny (wantedSome (d' := 39) (b := true) rfl rfl (congrArg Value.bool (decide_eq_true g13))) ?_
              refine skAny (wantedSome (d' := 39) (b := true) rfl rfl (congrArg Value.bool (decide_eq_true g13))) ?_
              refine sq (r_pickT (u := .bool (true)) (congrArg Value.bool (decide_eq_true g13)) rfl) ?_
              refine sq (r_move (v := .bool (true)) rfl) ?_
              refine skAny (wantedSome (d' := 44) (b := true) rfl rfl rfl) ?_
              refine skAny (wantedSome (d' := 44) (b := true) rfl rfl rfl) ?_
              refine skAny (wantedSome (d' := 44) (b := true) rfl rfl rfl) ?_
              refine sq (r_pickT (u := .bool (true)) rfl rfl) ?_
              refine sq (r_move (v := .bool (true)) rfl) ?_
              refine skAny (wantedSome (d' := 49) (b := true) rfl rfl rfl) ?_
              refine skAny (wantedSome (d' := 49) (b := true) rfl rfl rfl) ?_
              refine skAny (wantedSome (d' := 49) (b := true) rfl rfl rfl) ?_
              refine skAny (wantedSome (d' := 49) (b := true) rfl rfl rfl) ?_
              refine skAny (wantedSome (d' := 49) (b := true) rfl rfl rfl) ?_
              refine skAny (wantedSome (d' := 49) (b := true) rfl rfl rfl) ?_
              refine sq (r_pickT (u := .bool (true)) rfl rfl) ?_
              refine sq (r_move (v := .bool (true)) rfl) ?_
              refine skAny (wantedSome (d' := 57) (b := true) rfl rfl rfl) ?_
              refine skAny (wantedSome (d' := 57) (b := true) rfl rfl rfl) ?_
              refine skAny (wantedSome (d' := 57) (b := true) rfl rfl rfl) ?_
              refine sq (r_pickT (u := .bool (true)) rfl rfl) ?_
              refine sq (r_move (v := .bool (true)) rfl) ?_
              refine skAny (wantedSome (d' := 62) (b := true) rfl rfl rfl) ?_
              refine skAny (wantedSome (d' := 62) (b := true) rfl rfl rfl) ?_
              refine skAny (wantedSome (d' := 62) (b := true) rfl rfl rfl) ?_
              refine skAny (wantedSome (d' := 62) (b := true) rfl rfl rfl) ?_
              refine skAny (wantedUndef (d' := 66) rfl rfl rfl) ?_
              refine skAny (wantedUndef (d' := 66) rfl rfl rfl) ?_
              refine skAny (wantedUndef (d' := 66) rfl rfl rfl) ?_
              refine skAny (wantedUndef (d' := 66) rfl rfl rfl) ?_
              refine skAny (wantedUndef (d' := 66) rfl rfl rfl) ?_
              refine skAny (wantedUndef (d' := 66) rfl rfl rfl) ?_
              refine skAny (wantedSome (d' := 62) (b := true) rfl rfl rfl) ?_
              refine sq (r_pickT (u := .bool (true)) rfl rfl) ?_
              refine sq (r_move (v := .bool (true)) rfl) ?_
              refine skAny (wantedSome (d' := 75) (b := true) rfl rfl rfl) ?_
              refine skAny (wantedSome (d' := 75) (b := true) rfl rfl rfl) ?_
              refine skAny (wantedSome (d' := 75) (b := true) rfl rfl rfl) ?_
              refine skAny (wantedSome (d' := 75) (b := true) rfl rfl rfl) ?_
              refine skAny (wantedUndef (d' := 79) rfl rfl rfl) ?_
              refine skAny (wantedUndef (d' := 79) rfl rfl rfl) ?_
              refine skAny (wantedUndef (d' := 79) rfl rfl rfl) ?_
              refine skAny (wantedSome (d' := 75) (b := true) rfl rfl rfl) ?_
              refine sq (r_pickT (u := .bool (true)) rfl rfl) ?_
              refine wend ?_
              refine condTrue rfl ?_
              refine seqRegion ?_
              refine sq (r_assign (v := .bool (false)) rfl) ?_
              refine wend ?_
              refine retAny ?_
              refine blockRet ?_
              refine thenRet ?_
              refine thenRet ?_
              refine blockRet ?_
              refine thenRet ?_
              refine retG (rs := [.tmp 6]) (vs := [.bool (false)]) rfl ⟨⟨rfl, rfl⟩, trivial⟩ ?_
              exact ⟨_, rfl, .inr ⟨rfl, fun hg => by have := hg.gok i (by omega); unfold gokP at this; omega⟩, H11'.chg⟩
            · skip
              refine sqAny (v := .pointer (some ⟨b6, 0, none⟩)) (w' := w10) (wantedSome (d' := 39) (b := false) rfl rfl (congrArg Value.bool (decide_eq_false g13))) (r_fieldAddr (off' := 0) fld78_0 (by decide) (b := b6) (off := 0) rfl (by omega)) ?_
              refine sqAny (v := i64 (((gs).getD i g0).k)) (w' := w10) (wantedSome (d' := 39) (b := false) rfl rfl (congrArg Value.bool (decide_eq_false g13))) (r_loadC (v := i64 (((gs).getD i g0).k)) one3 (H11'.get (k := 0) rfl) (off := 0) rfl (by rfl)) ?_
              refine sqAny (v := .bool (decide (((3 : Int) : Int) < (((gs).getD i g0).k)))) (w' := w10) (wantedSome (d' := 39) (b := false) rfl rfl (congrArg Value.bool (decide_eq_false g13))) (r_gtrI (a := ((gs).getD i g0).k) (b := (3 : Int)) rfl rfl) ?_
              refine sq (r_pickF (v := .bool (decide (((3 : Int) : Int) < (((gs).getD i g0).k)))) (congrArg Value.bool (decide_eq_false g13)) rfl) ?_
              refine sq (r_move (v := .bool (decide (((3 : Int) : Int) < (((gs).getD i g0).k)))) rfl) ?_
              by_cases g14 : ((3 : Int) : Int) < (((gs).getD i g0).k)
              · skip
                refine skAny (wantedSome (d' := 44) (b := true) rfl rfl (congrArg Value.bool (decide_eq_true g14))) ?_
                refine skAny (wantedSome (d' := 44) (b := true) rfl rfl (congrArg Value.bool (decide_eq_true g14))) ?_
                refine skAny (wantedSome (d' := 44) (b := true) rfl rfl (congrArg Value.bool (decide_eq_true g14))) ?_
                refine sq (r_pickT (u := .bool (true)) (congrArg Value.bool (decide_eq_true g14)) rfl) ?_
                refine sq (r_move (v := .bool (true)) rfl) ?_
                refine skAny (wantedSome (d' := 49) (b := true) rfl rfl rfl) ?_
                refine skAny (wantedSome (d' := 49) (b := true) rfl rfl rfl) ?_
                refine skAny (wantedSome (d' := 49) (b := true) rfl rfl rfl) ?_
                refine skAny (wantedSome (d' := 49) (b := true) rfl rfl rfl) ?_
                refine skAny (wantedSome (d' := 49) (b := true) rfl rfl rfl) ?_
                refine skAny (wantedSome (d' := 49) (b := true) rfl rfl rfl) ?_
                refine sq (r_pickT (u := .bool (true)) rfl rfl) ?_
                refine sq (r_move (v := .bool (true)) rfl) ?_
                refine skAny (wantedSome (d' := 57) (b := true) rfl rfl rfl) ?_
                refine skAny (wantedSome (d' := 57) (b := true) rfl rfl rfl) ?_
                refine skAny (wantedSome (d' := 57) (b := true) rfl rfl rfl) ?_
                refine sq (r_pickT (u := .bool (true)) rfl rfl) ?_
                refine sq (r_move (v := .bool (true)) rfl) ?_
                refine skAny (wantedSome (d' := 62) (b := true) rfl rfl rfl) ?_
                refine skAny (wantedSome (d' := 62) (b := true) rfl rfl rfl) ?_
                refine skAny (wantedSome (d' := 62) (b := true) rfl rfl rfl) ?_
                refine skAny (wantedSome (d' := 62) (b := true) rfl rfl rfl) ?_
                refine skAny (wantedUndef (d' := 66) rfl rfl rfl) ?_
                refine skAny (wantedUndef (d' := 66) rfl rfl rfl) ?_
                refine skAny (wantedUndef (d' := 66) rfl rfl rfl) ?_
                refine skAny (wantedUndef (d' := 66) rfl rfl rfl) ?_
                refine skAny (wantedUndef (d' := 66) rfl rfl rfl) ?_
                refine skAny (wantedUndef (d' := 66) rfl rfl rfl) ?_
                refine skAny (wantedSome (d' := 62) (b := true) rfl rfl rfl) ?_
                refine sq (r_pickT (u := .bool (true)) rfl rfl) ?_
                refine sq (r_move (v := .bool (true)) rfl) ?_
                refine skAny (wantedSome (d' := 75) (b := true) rfl rfl rfl) ?_
                refine skAny (wantedSome (d' := 75) (b := true) rfl rfl rfl) ?_
                refine skAny (wantedSome (d' := 75) (b := true) rfl rfl rfl) ?_
                refine skAny (wantedSome (d' := 75) (b := true) rfl rfl rfl) ?_
                refine skAny (wantedUndef (d' := 79) rfl rfl rfl) ?_
                refine skAny (wantedUndef (d' := 79) rfl rfl rfl) ?_
                refine skAny (wantedUndef (d' := 79) rfl rfl rfl) ?_
                refine skAny (wantedSome (d' := 75) (b := true) rfl rfl rfl) ?_
                refine sq (r_pickT (u := .bool (true)) rfl rfl) ?_
                refine wend ?_
                refine condTrue rfl ?_
                refine seqRegion ?_
                refine sq (r_assign (v := .bool (false)) rfl) ?_
                refine wend ?_
                refine retAny ?_
                refine blockRet ?_
                refine thenRet ?_
                refine thenRet ?_
                refine blockRet ?_
                refine thenRet ?_
                refine retG (rs := [.tmp 6]) (vs := [.bool (false)]) rfl ⟨⟨rfl, rfl⟩, trivial⟩ ?_
                exact ⟨_, rfl, .inr ⟨rfl, fun hg => by have := hg.gok i (by omega); unfold gokP at this; omega⟩, H11'.chg⟩
              · skip
                refine sqAny (v := .pointer (some ⟨b6, 1, none⟩)) (w' := w10) (wantedSome (d' := 44) (b := false) rfl rfl (congrArg Value.bool (decide_eq_false g14))) (r_fieldAddr (off' := 1) fld78_1 (by decide) (b := b6) (off := 0) rfl (by omega)) ?_
                refine sqAny (v := i64 (((gs).getD i g0).a)) (w' := w10) (wantedSome (d' := 44) (b := false) rfl rfl (congrArg Value.bool (decide_eq_false g14))) (r_loadC (v := i64 (((gs).getD i g0).a)) one3 (H11'.get (k := 0) rfl) (off := 1) rfl (by rfl)) ?_
                refine sqAny (v := .bool (decide ((((gs).getD i g0).a : Int) < (0 : Int)))) (w' := w10) (wantedSome (d' := 44) (b := false) rfl rfl (congrArg Value.bool (decide_eq_false g14))) (r_lssI (a := ((gs).getD i g0).a) (b := (0 : Int)) rfl rfl) ?_
                refine sq (r_pickF (v := .bool (decide ((((gs).getD i g0).a : Int) < (0 : Int)))) (congrArg Value.bool (decide_eq_false g14)) rfl) ?_
                refine sq (r_move (v := .bool (decide ((((gs).getD i g0).a : Int) < (0 : Int)))) rfl) ?_
                by_cases g15 : (((gs).getD i g0).a : Int) < (0 : Int)
                · skip
                  refine skAny (wantedSome (d' := 49) (b := true) rfl rfl (congrArg Value.bool (decide_eq_true g15))) ?_
                  refine skAny (wantedSome (d' := 49) (b := true) rfl rfl (congrArg Value.bool (decide_eq_true g15))) ?_
                  refine skAny (wantedSome (d' := 49) (b := true) rfl rfl (congrArg Value.bool (decide_eq_true g15))) ?_
                  refine skAny (wantedSome (d' := 49) (b := true) rfl rfl (congrArg Value.bool (decide_eq_true g15))) ?_
                  refine skAny (wantedSome (d' := 49) (b := true) rfl rfl (congrArg Value.bool (decide_eq_true g15))) ?_
                  refine skAny (wantedSome (d' := 49) (b := true) rfl rfl (congrArg Value.bool (decide_eq_true g15))) ?_
                  refine sq (r_pickT (u := .bool (true)) (congrArg Value.bool (decide_eq_true g15)) rfl) ?_
                  refine sq (r_move (v := .bool (true)) rfl) ?_
                  refine skAny (wantedSome (d' := 57) (b := true) rfl rfl rfl) ?_
                  refine skAny (wantedSome (d' := 57) (b := true) rfl rfl rfl) ?_
                  refine skAny (wantedSome (d' := 57) (b := true) rfl rfl rfl) ?_
                  refine sq (r_pickT (u := .bool (true)) rfl rfl) ?_
                  refine sq (r_move (v := .bool (true)) rfl) ?_
                  refine skAny (wantedSome (d' := 62) (b := true) rfl rfl rfl) ?_
                  refine skAny (wantedSome (d' := 62) (b := true) rfl rfl rfl) ?_
                  refine skAny (wantedSome (d' := 62) (b := true) rfl rfl rfl) ?_
                  refine skAny (wantedSome (d' := 62) (b := true) rfl rfl rfl) ?_
                  refine skAny (wantedUndef (d' := 66) rfl rfl rfl) ?_
                  refine skAny (wantedUndef (d' := 66) rfl rfl rfl) ?_
                  refine skAny (wantedUndef (d' := 66) rfl rfl rfl) ?_
                  refine skAny (wantedUndef (d' := 66) rfl rfl rfl) ?_
                  refine skAny (wantedUndef (d' := 66) rfl rfl rfl) ?_
                  refine skAny (wantedUndef (d' := 66) rfl rfl rfl) ?_
                  refine skAny (wantedSome (d' := 62) (b := true) rfl rfl rfl) ?_
                  refine sq (r_pickT (u := .bool (true)) rfl rfl) ?_
                  refine sq (r_move (v := .bool (true)) rfl) ?_
                  refine skAny (wantedSome (d' := 75) (b := true) rfl rfl rfl) ?_
                  refine skAny (wantedSome (d' := 75) (b := true) rfl rfl rfl) ?_
                  refine skAny (wantedSome (d' := 75) (b := true) rfl rfl rfl) ?_
                  refine skAny (wantedSome (d' := 75) (b := true) rfl rfl rfl) ?_
                  refine skAny (wantedUndef (d' := 79) rfl rfl rfl) ?_
                  refine skAny (wantedUndef (d' := 79) rfl rfl rfl) ?_
                  refine skAny (wantedUndef (d' := 79) rfl rfl rfl) ?_
                  refine skAny (wantedSome (d' := 75) (b := true) rfl rfl rfl) ?_
                  refine sq (r_pickT (u := .bool (true)) rfl rfl) ?_
                  refine wend ?_
                  refine condTrue rfl ?_
                  refine seqRegion ?_
                  refine sq (r_assign (v := .bool (false)) rfl) ?_
                  refine wend ?_
                  refine retAny ?_
                  refine blockRet ?_
                  refine thenRet ?_
                  refine thenRet ?_
                  refine blockRet ?_
                  refine thenRet ?_
                  refine retG (rs := [.tmp 6]) (vs := [.bool (false)]) rfl ⟨⟨rfl, rfl⟩, trivial⟩ ?_
                  exact ⟨_, rfl, .inr ⟨rfl, fun hg => by have := hg.gok i (by omega); unfold gokP at this; omega⟩, H11'.chg⟩
                · skip
                  refine sqAny (v := .pointer (some ⟨b6, 1, none⟩)) (w' := w10) (wantedSome (d' := 49) (b := false) rfl rfl (congrArg Value.bool (decide_eq_false g15))) (r_fieldAddr (off' := 1) fld78_1 (by decide) (b := b6) (off := 0) rfl (by omega)) ?_
                  refine sqAny (v := i64 (((gs).getD i g0).a)) (w' := w10) (wantedSome (d' := 49) (b := false) rfl rfl (congrArg Value.bool (decide_eq_false g15))) (r_loadC (v := i64 (((gs).getD i g0).a)) one3 (H11'.get (k := 0) rfl) (off := 1) rfl (by rfl)) ?_
                  refine sqAny (v := i64 (n)) (w' := w10) (wantedSome (d' := 49) (b := false) rfl rfl (congrArg Value.bool (decide_eq_false g15))) (r_move (v := i64 (n)) rfl) ?_
                  refine sqAny (v := i64 ((i : Nat))) (w' := w10) (wantedSome (d' := 49) (b := false) rfl rfl (congrArg Value.bool (decide_eq_false g15))) (r_move (v := i64 ((i : Nat))) rfl) ?_
                  refine sqAny (v := i64 (n + (i : Nat))) (w' := w10) (wantedSome (d' := 49) (b := false) rfl rfl (congrArg Value.bool (decide_eq_false g15))) (r_addI (a := n) (b := (i : Nat)) rfl rfl (by omega)) ?_
                  refine sqAny (v := .bool (decide ((n + (i : Nat) : Int) ≤ (((gs).getD i g0).a)))) (w' := w10) (wantedSome (d' := 49) (b := false) rfl rfl (congrArg Value.bool (decide_eq_false g15))) (r_geqI (a := ((gs).getD i g0).a) (b := n + (i : Nat)) rfl rfl) ?_
                  refine sq (r_pickF (v := .bool (decide ((n + (i : Nat) : Int) ≤ (((gs).getD i g0).a)))) (congrArg Value.bool (decide_eq_false g15)) rfl) ?_
                  refine sq (r_move (v := .bool (decide ((n + (i : Nat) : Int) ≤ (((gs).getD i g0).a)))) rfl) ?_
                  by_cases g16 : (n + (i : Nat) : Int) ≤ (((gs).getD i g0).a)
                  · skip
                    refine skAny (wantedSome (d' := 57) (b := true) rfl rfl (congrArg Value.bool (decide_eq_true g16))) ?_
                    refine skAny (wantedSome (d' := 57) (b := true) rfl rfl (congrArg Value.bool (decide_eq_true g16))) ?_
                    refine skAny (wantedSome (d' := 57) (b := true) rfl rfl (congrArg Value.bool (decide_eq_true g16))) ?_
                    refine sq (r_pickT (u := .bool (true)) (congrArg Value.bool (decide_eq_true g16)) rfl) ?_
                    refine sq (r_move (v := .bool (true)) rfl) ?_
                    refine skAny (wantedSome (d' := 62) (b := true) rfl rfl rfl) ?_
                    refine skAny (wantedSome (d' := 62) (b := true) rfl rfl rfl) ?_
                    refine skAny (wantedSome (d' := 62) (b := true) rfl rfl rfl) ?_
                    refine skAny (wantedSome (d' := 62) (b := true) rfl rfl rfl) ?_
                    refine skAny (wantedUndef (d' := 66) rfl rfl rfl) ?_
                    refine skAny (wantedUndef (d' := 66) rfl rfl rfl) ?_
                    refine skAny (wantedUndef (d' := 66) rfl rfl rfl) ?_
                    refine skAny (wantedUndef (d' := 66) rfl rfl rfl) ?_
                    refine skAny (wantedUndef (d' := 66) rfl rfl rfl) ?_
                    refine skAny (wantedUndef (d' := 66) rfl rfl rfl) ?_
                    refine skAny (wantedSome (d' := 62) (b := true) rfl rfl rfl) ?_
                    refine sq (r_pickT (u := .bool (true)) rfl rfl) ?_
                    refine sq (r_move (v := .bool (true)) rfl) ?_
                    refine skAny (wantedSome (d' := 75) (b := true) rfl rfl rfl) ?_
                    refine skAny (wantedSome (d' := 75) (b := true) rfl rfl rfl) ?_
                    refine skAny (wantedSome (d' := 75) (b := true) rfl rfl rfl) ?_
                    refine skAny (wantedSome (d' := 75) (b := true) rfl rfl rfl) ?_
                    refine skAny (wantedUndef (d' := 79) rfl rfl rfl) ?_
                    refine skAny (wantedUndef (d' := 79) rfl rfl rfl) ?_
                    refine skAny (wantedUndef (d' := 79) rfl rfl rfl) ?_
                    refine skAny (wantedSome (d' := 75) (b := true) rfl rfl rfl) ?_
                    refine sq (r_pickT (u := .bool (true)) rfl rfl) ?_
                    refine wend ?_
                    refine condTrue rfl ?_
                    refine seqRegion ?_
                    refine sq (r_assign (v := .bool (false)) rfl) ?_
                    refine wend ?_
                    refine retAny ?_
                    refine blockRet ?_
                    refine thenRet ?_
                    refine thenRet ?_
                    refine blockRet ?_
                    refine thenRet ?_
                    refine retG (rs := [.tmp 6]) (vs := [.bool (false)]) rfl ⟨⟨rfl, rfl⟩, trivial⟩ ?_
                    exact ⟨_, rfl, .inr ⟨rfl, fun hg => by have := hg.gok i (by omega); unfold gokP at this; omega⟩, H11'.chg⟩
                  · skip
                    refine sqAny (v := .pointer (some ⟨b6, 2, none⟩)) (w' := w10) (wantedSome (d' := 57) (b := false) rfl rfl (congrArg Value.bool (decide_eq_false g16))) (r_fieldAddr (off' := 2) fld78_2 (by decide) (b := b6) (off := 0) rfl (by omega)) ?_
                    refine sqAny (v := i64 (((gs).getD i g0).b)) (w' := w10) (wantedSome (d' := 57) (b := false) rfl rfl (congrArg Value.bool (decide_eq_false g16))) (r_loadC (v := i64 (((gs).getD i g0).b)) one3 (H11'.get (k := 0) rfl) (off := 2) rfl (by rfl)) ?_
                    refine sqAny (v := .bool (decide ((((gs).getD i g0).b : Int) < (0 : Int)))) (w' := w10) (wantedSome (d' := 57) (b := false) rfl rfl (congrArg Value.bool (decide_eq_false g16))) (r_lssI (a := ((gs).getD i g0).b) (b := (0 : Int)) rfl rfl) ?_
                    refine sq (r_pickF (v := .bool (decide ((((gs).getD i g0).b : Int) < (0 : Int)))) (congrArg Value.bool (decide_eq_false g16)) rfl) ?_
                    refine sq (r_move (v := .bool (decide ((((gs).getD i g0).b : Int) < (0 : Int)))) rfl) ?_
                    by_cases g17 : (((gs).getD i g0).b : Int) < (0 : Int)
                    · skip
                      refine skAny (wantedSome (d' := 62) (b := true) rfl rfl (congrArg Value.bool (decide_eq_true g17))) ?_
                      refine skAny (wantedSome (d' := 62) (b := true) rfl rfl (congrArg Value.bool (decide_eq_true g17))) ?_
                      refine skAny (wantedSome (d' := 62) (b := true) rfl rfl (congrArg Value.bool (decide_eq_true g17))) ?_
                      refine skAny (wantedSome (d' := 62) (b := true) rfl rfl (congrArg Value.bool (decide_eq_true g17))) ?_
                      refine skAny (wantedUndef (d' := 66) rfl rfl rfl) ?_
                      refine skAny (wantedUndef (d' := 66) rfl rfl rfl) ?_
                      refine skAny (wantedUndef (d' := 66) rfl rfl rfl) ?_
                      refine skAny (wantedUndef (d' := 66) rfl rfl rfl) ?_
                      refine skAny (wantedUndef (d' := 66) rfl rfl rfl) ?_
                      refine skAny (wantedUndef (d' := 66) rfl rfl rfl) ?_
                      refine skAny (wantedSome (d' := 62) (b := true) rfl rfl (congrArg Value.bool (decide_eq_true g17))) ?_
                      refine sq (r_pickT (u := .bool (true)) (congrArg Value.bool (decide_eq_true g17)) rfl) ?_
                      refine sq (r_move (v := .bool (true)) rfl) ?_
                      refine skAny (wantedSome (d' := 75) (b := true) rfl rfl rfl) ?_
                      refine skAny (wantedSome (d' := 75) (b := true) rfl rfl rfl) ?_
                      refine skAny (wantedSome (d' := 75) (b := true) rfl rfl rfl) ?_
                      refine skAny (wantedSome (d' := 75) (b := true) rfl rfl rfl) ?_
                      refine skAny (wantedUndef (d' := 79) rfl rfl rfl) ?_
                      refine skAny (wantedUndef (d' := 79) rfl rfl rfl) ?_
                      refine skAny (wantedUndef (d' := 79) rfl rfl rfl) ?_
                      refine skAny (wantedSome (d' := 75) (b := true) rfl rfl rfl) ?_
                      refine sq (r_pickT (u := .bool (true)) rfl rfl) ?_
                      refine wend ?_
                      refine condTrue rfl ?_
                      refine seqRegion ?_
                      refine sq (r_assign (v := .bool (false)) rfl) ?_
                      refine wend ?_
                      refine retAny ?_
                      refine blockRet ?_
                      refine thenRet ?_
                      refine thenRet ?_
                      refine blockRet ?_
                      refine thenRet ?_
                      refine retG (rs := [.tmp 6]) (vs := [.bool (false)]) rfl ⟨⟨rfl, rfl⟩, trivial⟩ ?_
                      exact ⟨_, rfl, .inr ⟨rfl, fun hg => by have := hg.gok i (by omega); unfold gokP at this; omega⟩, H11'.chg⟩
                    · skip
                      refine sqAny (v := .pointer (some ⟨b6, 0, none⟩)) (w' := w10) (wantedSome (d' := 62) (b := false) rfl rfl (congrArg Value.bool (decide_eq_false g17))) (r_fieldAddr (off' := 0) fld78_0 (by decide) (b := b6) (off := 0) rfl (by omega)) ?_
                      refine sqAny (v := i64 (((gs).getD i g0).k)) (w' := w10) (wantedSome (d' := 62) (b := false) rfl rfl (congrArg Value.bool (decide_eq_false g17))) (r_loadC (v := i64 (((gs).getD i g0).k)) one3 (H11'.get (k := 0) rfl) (off := 0) rfl (by rfl)) ?_
                      refine sqAny (v := .bool (decide ((((gs).getD i g0).k : Int) < (3 : Int)))) (w' := w10) (wantedSome (d' := 62) (b := false) rfl rfl (congrArg Value.bool (decide_eq_false g17))) (r_lssI (a := ((gs).getD i g0).k) (b := (3 : Int)) rfl rfl) ?_
                      refine sqAny (v := .bool (decide ((((gs).getD i g0).k : Int) < (3 : Int)))) (w' := w10) (wantedSome (d' := 62) (b := false) rfl rfl (congrArg Value.bool (decide_eq_false g17))) (r_move (v := .bool (decide ((((gs).getD i g0).k : Int) < (3 : Int)))) rfl) ?_
                      by_cases g18 : (((gs).getD i g0).k : Int) < (3 : Int)
                      · skip
                        refine sqAny (v := .pointer (some ⟨b6, 2, none⟩)) (w' := w10) (wantedSome (d' := 66) (b := true) rfl rfl (congrArg Value.bool (decide_eq_true g18))) (r_fieldAddr (off' := 2) fld78_2 (by decide) (b := b6) (off := 0) rfl (by omega)) ?_
                        refine sqAny (v := i64 (((gs).getD i g0).b)) (w' := w10) (wantedSome (d' := 66) (b := true) rfl rfl (congrArg Value.bool (decide_eq_true g18))) (r_loadC (v := i64 (((gs).getD i g0).b)) one3 (H11'.get (k := 0) rfl) (off := 2) rfl (by rfl)) ?_
                        refine sqAny (v := i64 (n)) (w' := w10) (wantedSome (d' := 66) (b := true) rfl rfl (congrArg Value.bool (decide_eq_true g18))) (r_move (v := i64 (n)) rfl) ?_
                        refine sqAny (v := i64 ((i : Nat))) (w' := w10) (wantedSome (d' := 66) (b := true) rfl rfl (congrArg Value.bool (decide_eq_true g18))) (r_move (v := i64 ((i : Nat))) rfl) ?_
                        refine sqAny (v := i64 (n + (i : Nat))) (w' := w10) (wantedSome (d' := 66) (b := true) rfl rfl (congrArg Value.bool (decide_eq_true g18))) (r_addI (a := n) (b := (i : Nat)) rfl rfl (by omega)) ?_
                        refine sqAny (v := .bool (decide ((n + (i : Nat) : Int) ≤ (((gs).getD i g0).b)))) (w' := w10) (wantedSome (d' := 66) (b := true) rfl rfl (congrArg Value.bool (decide_eq_true g18))) (r_geqI (a := ((gs).getD i g0).b) (b := n + (i : Nat)) rfl rfl) ?_
                        refine sqAny (v := .bool (decide ((n + (i : Nat) : Int) ≤ (((gs).getD i g0).b)))) (w' := w10) (wantedSome (d' := 62) (b := false) rfl rfl (congrArg Value.bool (decide_eq_false g17))) (r_pickT (u := .bool (decide ((n + (i : Nat) : Int) ≤ (((gs).getD i g0).b)))) (congrArg Value.bool (decide_eq_true g18)) rfl) ?_
                        refine sq (r_pickF (v := .bool (decide ((n + (i : Nat) : Int) ≤ (((gs).getD i g0).b)))) (congrArg Value.bool (decide_eq_false g17)) rfl) ?_
                        refine sq (r_move (v := .bool (decide ((n + (i : Nat) : Int) ≤ (((gs).getD i g0).b)))) rfl) ?_
                        by_cases g19 : (n + (i : Nat) : Int) ≤ (((gs).getD i g0).b)
                        · skip
                          refine skAny (wantedSome (d' := 75) (b := true) rfl rfl (congrArg Value.bool (decide_eq_true g19))) ?_
                          refine skAny (wantedSome (d' := 75) (b := true) rfl rfl (congrArg Value.bool (decide_eq_true g19))) ?_
                          refine skAny (wantedSome (d' := 75) (b := true) rfl rfl (congrArg Value.bool (decide_eq_true g19))) ?_
                          refine skAny (wantedSome (d' := 75) (b := true) rfl rfl (congrArg Value.bool (decide_eq_true g19))) ?_
                          refine skAny (wantedUndef (d' := 79) rfl rfl rfl) ?_
                          refine skAny (wantedUndef (d' := 79) rfl rfl rfl) ?_
                          refine skAny (wantedUndef (d' := 79) rfl rfl rfl) ?_
                          refine skAny (wantedSome (d' := 75) (b := true) rfl rfl (congrArg Value.bool (decide_eq_true g19))) ?_
                          refine sq (r_pickT (u := .bool (true)) (congrArg Value.bool (decide_eq_true g19)) rfl) ?_
                          refine wend ?_
                          refine condTrue rfl ?_
                          refine seqRegion ?_
                          refine sq (r_assign (v := .bool (false)) rfl) ?_
                          refine wend ?_
                          refine retAny ?_
                          refine blockRet ?_
                          refine thenRet ?_
                          refine thenRet ?_
                          refine blockRet ?_
                          refine thenRet ?_
                          refine retG (rs := [.tmp 6]) (vs := [.bool (false)]) rfl ⟨⟨rfl, rfl⟩, trivial⟩ ?_
                          exact ⟨_, rfl, .inr ⟨rfl, fun hg => by have := hg.gok i (by omega); unfold gokP at this; omega⟩, H11'.chg⟩
                        · skip
                          refine sqAny (v := .pointer (some ⟨b6, 0, none⟩)) (w' := w10) (wantedSome (d' := 75) (b := false) rfl rfl (congrArg Value.bool (decide_eq_false g19))) (r_fieldAddr (off' := 0) fld78_0 (by decide) (b := b6) (off := 0) rfl (by omega)) ?_
                          refine sqAny (v := i64 (((gs).getD i g0).k)) (w' := w10) (wantedSome (d' := 75) (b := false) rfl rfl (congrArg Value.bool (decide_eq_false g19))) (r_loadC (v := i64 (((gs).getD i g0).k)) one3 (H11'.get (k := 0) rfl) (off := 0) rfl (by rfl)) ?_
                          refine sqAny (v := .bool (decide ((((gs).getD i g0).k : Int) = (3 : Int)))) (w' := w10) (wantedSome (d' := 75) (b := false) rfl rfl (congrArg Value.bool (decide_eq_false g19))) (r_eqlI (a := ((gs).getD i g0).k) (b := (3 : Int)) rfl rfl) ?_
                          refine sqAny (v := .bool (decide ((((gs).getD i g0).k : Int) = (3 : Int)))) (w' := w10) (wantedSome (d' := 75) (b := false) rfl rfl (congrArg Value.bool (decide_eq_false g19))) (r_move (v := .bool (decide ((((gs).getD i g0).k : Int) = (3 : Int)))) rfl) ?_
                          by_cases g20 : (((gs).getD i g0).k : Int) = (3 : Int)
                          · skip
                            refine sqAny (v := .pointer (some ⟨b6, 2, none⟩)) (w' := w10) (wantedSome (d' := 79) (b := true) rfl rfl (congrArg Value.bool (decide_eq_true g20))) (r_fieldAddr (off' := 2) fld78_2 (by decide) (b := b6) (off := 0) rfl (by omega)) ?_
                            refine sqAny (v := i64 (((gs).getD i g0).b)) (w' := w10) (wantedSome (d' := 79) (b := true) rfl rfl (congrArg Value.bool (decide_eq_true g20))) (r_loadC (v := i64 (((gs).getD i g0).b)) one3 (H11'.get (k := 0) rfl) (off := 2) rfl (by rfl)) ?_
                            refine sqAny (v := .bool (decide ((((gs).getD i g0).b : Int) ≠ (0 : Int)))) (w' := w10) (wantedSome (d' := 79) (b := true) rfl rfl (congrArg Value.bool (decide_eq_true g20))) (r_neqI (a := ((gs).getD i g0).b) (b := (0 : Int)) rfl rfl) ?_
                            refine sqAny (v := .bool (decide ((((gs).getD i g0).b : Int) ≠ (0 : Int)))) (w' := w10) (wantedSome (d' := 75) (b := false) rfl rfl (congrArg Value.bool (decide_eq_false g19))) (r_pickT (u := .bool (decide ((((gs).getD i g0).b : Int) ≠ (0 : Int)))) (congrArg Value.bool (decide_eq_true g20)) rfl) ?_
                            refine sq (r_pickF (v := .bool (decide ((((gs).getD i g0).b : Int) ≠ (0 : Int)))) (congrArg Value.bool (decide_eq_false g19)) rfl) ?_
                            refine wend ?_
                            refine condProp ((((gs).getD i g0).b : Int) ≠ (0 : Int)) rfl (fun c84 => ?_) (fun c84 => ?_)
                            · skip
                              refine seqRegion ?_
                              refine sq (r_assign (v := .bool (false)) rfl) ?_
                              refine wend ?_
                              refine retAny ?_
                              refine blockRet ?_
                              refine thenRet ?_
                              refine thenRet ?_
                              refine blockRet ?_
                              refine thenRet ?_
                              refine retG (rs := [.tmp 6]) (vs := [.bool (false)]) rfl ⟨⟨rfl, rfl⟩, trivial⟩ ?_
                              exact ⟨_, rfl, .inr ⟨rfl, fun hg => by have := hg.gok i (by omega); unfold gokP at this; omega⟩, H11'.chg⟩
                            · skip
                              refine skipAny ?_
                              refine blockNormal ?_
                              refine thenNormal ?_
                              refine oneRegion ?_
                              refine sq (r_move (v := i64 ((i : Nat))) rfl) ?_
                              refine sq (r_addI (a := (i : Nat)) (b := (1 : Int)) rfl rfl (by omega)) ?_
                              refine sq (r_assign (v := i64 ((i : Nat) + (1 : Int))) rfl) ?_
                              refine wnil ?_
                              refine thenNormal ?_
                              have hgi : gokP (gs.getD i g0) (n + (i : Nat)) := by unfold gokP; omega
                              exact ⟨i + 1, _, rfl, ⟨rfl, rfl, rfl, rfl, trivial⟩, ⟨by omega, fun j hj => if h : j < i then hgs j h else by (rw [show j = i by omega]; exact hgi), (H11'.dropk 0)⟩, by show gs.length - (i + 1) < gs.length - i; omega⟩
                          · skip
                            refine skAny (wantedSome (d' := 79) (b := false) rfl rfl (congrArg Value.bool (decide_eq_false g20))) ?_
                            refine skAny (wantedSome (d' := 79) (b := false) rfl rfl (congrArg Value.bool (decide_eq_false g20))) ?_
                            refine skAny (wantedSome (d' := 79) (b := false) rfl rfl (congrArg Value.bool (decide_eq_false g20))) ?_
                            refine sqAny (v := .bool (false)) (w' := w10) (wantedSome (d' := 75) (b := false) rfl rfl (congrArg Value.bool (decide_eq_false g19))) (r_pickF (v := .bool (false)) (congrArg Value.bool (decide_eq_false g20)) rfl) ?_
                            refine sq (r_pickF (v := .bool (false)) (congrArg Value.bool (decide_eq_false g19)) rfl) ?_
                            refine wend ?_
                            refine condFalse rfl ?_
                            refine skipAny ?_
                            refine blockNormal ?_
                            refine thenNormal ?_
                            refine oneRegion ?_
                            refine sq (r_move (v := i64 ((i : Nat))) rfl) ?_
                            refine sq (r_addI (a := (i : Nat)) (b := (1 : Int)) rfl rfl (by omega)) ?_
                            refine sq (r_assign (v := i64 ((i : Nat) + (1 : Int))) rfl) ?_
                            refine wnil ?_
                            refine thenNormal ?_
                            have hgi : gokP (gs.getD i g0) (n + (i : Nat)) := by unfold gokP; omega
                            exact ⟨i + 1, _, rfl, ⟨rfl, rfl, rfl, rfl, trivial⟩, ⟨by omega, fun j hj => if h : j < i then hgs j h else by (rw [show j = i by omega]; exact hgi), (H11'.dropk 0)⟩, by show gs.length - (i + 1) < gs.length - i; omega⟩
                      · skip
                        refine skAny (wantedSome (d' := 66) (b := false) rfl rfl (congrArg Value.bool (decide_eq_false g18))) ?_
                        refine skAny (wantedSome (d' := 66) (b := false) rfl rfl (congrArg Value.bool (decide_eq_false g18))) ?_
                        refine skAny (wantedSome (d' := 66) (b := false) rfl rfl (congrArg Value.bool (decide_eq_false g18))) ?_
                        refine skAny (wantedSome (d' := 66) (b := false) rfl rfl (congrArg Value.bool (decide_eq_false g18))) ?_
                        refine skAny (wantedSome (d' := 66) (b := false) rfl rfl (congrArg Value.bool (decide_eq_false g18))) ?_
                        refine skAny (wantedSome (d' := 66) (b := false) rfl rfl (congrArg Value.bool (decide_eq_false g18))) ?_
                        refine sqAny (v := .bool (false)) (w' := w10) (wantedSome (d' := 62) (b := false) rfl rfl (congrArg Value.bool (decide_eq_false g17))) (r_pickF (v := .bool (false)) (congrArg Value.bool (decide_eq_false g18)) rfl) ?_
                        refine sq (r_pickF (v := .bool (false)) (congrArg Value.bool (decide_eq_false g17)) rfl) ?_
                        refine sq (r_move (v := .bool (false)) rfl) ?_
                        refine sqAny (v := .pointer (some ⟨b6, 0, none⟩)) (w' := w10) (wantedSome (d' := 75) (b := false) rfl rfl rfl) (r_fieldAddr (off' := 0) fld78_0 (by decide) (b := b6) (off := 0) rfl (by omega)) ?_
                        refine sqAny (v := i64 (((gs).getD i g0).k)) (w' := w10) (wantedSome (d' := 75) (b := false) rfl rfl rfl) (r_loadC (v := i64 (((gs).getD i g0).k)) one3 (H11'.get (k := 0) rfl) (off := 0) rfl (by rfl)) ?_
                        refine sqAny (v := .bool (decide ((((gs).getD i g0).k : Int) = (3 : Int)))) (w' := w10) (wantedSome (d' := 75) (b := false) rfl rfl rfl) (r_eqlI (a := ((gs).getD i g0).k) (b := (3 : Int)) rfl rfl) ?_
                        refine sqAny (v := .bool (decide ((((gs).getD i g0).k : Int) = (3 : Int)))) (w' := w10) (wantedSome (d' := 75) (b := false) rfl rfl rfl) (r_move (v := .bool (decide ((((gs).getD i g0).k : Int) = (3 : Int)))) rfl) ?_
                        by_cases g21 : (((gs).getD i g0).k : Int) = (3 : Int)
                        · skip
                          refine sqAny (v := .pointer (some ⟨b6, 2, none⟩)) (w' := w10) (wantedSome (d' := 79) (b := true) rfl rfl (congrArg Value.bool (decide_eq_true g21))) (r_fieldAddr (off' := 2) fld78_2 (by decide) (b := b6) (off := 0) rfl (by omega)) ?_
                          refine sqAny (v := i64 (((gs).getD i g0).b)) (w' := w10) (wantedSome (d' := 79) (b := true) rfl rfl (congrArg Value.bool (decide_eq_true g21))) (r_loadC (v := i64 (((gs).getD i g0).b)) one3 (H11'.get (k := 0) rfl) (off := 2) rfl (by rfl)) ?_
                          refine sqAny (v := .bool (decide ((((gs).getD i g0).b : Int) ≠ (0 : Int)))) (w' := w10) (wantedSome (d' := 79) (b := true) rfl rfl (congrArg Value.bool (decide_eq_true g21))) (r_neqI (a := ((gs).getD i g0).b) (b := (0 : Int)) rfl rfl) ?_
                          refine sqAny (v := .bool (decide ((((gs).getD i g0).b : Int) ≠ (0 : Int)))) (w' := w10) (wantedSome (d' := 75) (b := false) rfl rfl rfl) (r_pickT (u := .bool (decide ((((gs).getD i g0).b : Int) ≠ (0 : Int)))) (congrArg Value.bool (decide_eq_true g21)) rfl) ?_
                          refine sq (r_pickF (v := .bool (decide ((((gs).getD i g0).b : Int) ≠ (0 : Int)))) rfl rfl) ?_
                          refine wend ?_
                          refine condProp ((((gs).getD i g0).b : Int) ≠ (0 : Int)) rfl (fun c84 => ?_) (fun c84 => ?_)
                          · skip
                            refine seqRegion ?_
                            refine sq (r_assign (v := .bool (false)) rfl) ?_
                            refine wend ?_
                            refine retAny ?_
                            refine blockRet ?_
                            refine thenRet ?_
                            refine thenRet ?_
                            refine blockRet ?_
                            refine thenRet ?_
                            refine retG (rs := [.tmp 6]) (vs := [.bool (false)]) rfl ⟨⟨rfl, rfl⟩, trivial⟩ ?_
                            exact ⟨_, rfl, .inr ⟨rfl, fun hg => by have := hg.gok i (by omega); unfold gokP at this; omega⟩, H11'.chg⟩
                          · skip
                            refine skipAny ?_
                            refine blockNormal ?_
                            refine thenNormal ?_
                            refine oneRegion ?_
                            refine sq (r_move (v := i64 ((i : Nat))) rfl) ?_
                            refine sq (r_addI (a := (i : Nat)) (b := (1 : Int)) rfl rfl (by omega)) ?_
                            refine sq (r_assign (v := i64 ((i : Nat) + (1 : Int))) rfl) ?_
                            refine wnil ?_
                            refine thenNormal ?_
                            have hgi : gokP (gs.getD i g0) (n + (i : Nat)) := by unfold gokP; omega
                            exact ⟨i + 1, _, rfl, ⟨rfl, rfl, rfl, rfl, trivial⟩, ⟨by omega, fun j hj => if h : j < i then hgs j h else by (rw [show j = i by omega]; exact hgi), (H11'.dropk 0)⟩, by show gs.length - (i + 1) < gs.length - i; omega⟩
                        · skip
                          refine skAny (wantedSome (d' := 79) (b := false) rfl rfl (congrArg Value.bool (decide_eq_false g21))) ?_
                          refine skAny (wantedSome (d' := 79) (b := false) rfl rfl (congrArg Value.bool (decide_eq_false g21))) ?_
                          refine skAny (wantedSome (d' := 79) (b := false) rfl rfl (congrArg Value.bool (decide_eq_false g21))) ?_
                          refine sqAny (v := .bool (false)) (w' := w10) (wantedSome (d' := 75) (b := false) rfl rfl rfl) (r_pickF (v := .bool (false)) (congrArg Value.bool (decide_eq_false g21)) rfl) ?_
                          refine sq (r_pickF (v := .bool (false)) rfl rfl) ?_
                          refine wend ?_
                          refine condFalse rfl ?_
                          refine skipAny ?_
                          refine blockNormal ?_
                          refine thenNormal ?_
                          refine oneRegion ?_
                          refine sq (r_move (v := i64 ((i : Nat))) rfl) ?_
                          refine sq (r_addI (a := (i : Nat)) (b := (1 : Int)) rfl rfl (by omega)) ?_
                          refine sq (r_assign (v := i64 ((i : Nat) + (1 : Int))) rfl) ?_
                          refine wnil ?_
                          refine thenNormal ?_
                          have hgi : gokP (gs.getD i g0) (n + (i : Nat)) := by unfold gokP; omega
                          exact ⟨i + 1, _, rfl, ⟨rfl, rfl, rfl, rfl, trivial⟩, ⟨by omega, fun j hj => if h : j < i then hgs j h else by (rw [show j = i by omega]; exact hgi), (H11'.dropk 0)⟩, by show gs.length - (i + 1) < gs.length - i; omega⟩
          · skip
            refine exitAny ?_
            refine thenExit ?_
            refine thenExit ?_
            refine blockHere ?_
            refine thenNormal ?_
            refine seqAny ?_
            refine seqRegion ?_
            refine sq (r_assign (v := i64 ((0 : Int))) rfl) ?_
            refine wend ?_
            refine blockAny ?_
            refine loopAny (σ := Nat) (fun q => [(0, i64 (n)), (1, .slice ga gs.length gc), (2, .slice oa ol.length oc), (9, i64 ((q : Nat)))]) (fun q w' => q ≤ ol.length ∧ (∀ j, j < q → 0 ≤ ol.getD j 0 ∧ ol.getD j 0 < n + (gs.length : Nat)) ∧ Hp No w w' []) (fun q => ol.length - q) (0) ?_ ?_ ?_
            · exact ⟨rfl, rfl, rfl, rfl, trivial⟩
            · exact ⟨by omega, fun j hj => by omega, HL⟩
            rintro q ρ w22 ⟨hq, hos, HL2⟩
            refine seqAny ?_
            refine seqRegion ?_
            refine sq (r_move (v := i64 ((q : Nat))) rfl) ?_
            refine sq (r_move (v := .slice oa ol.length oc) rfl) ?_
            refine sq (r_lenS sli23 (a := oa) (m := ol.length) (c := oc) rfl) ?_
            refine sq (r_lssI (a := (q : Nat)) (b := (ol.length : Nat)) rfl rfl) ?_
            refine wend ?_
            refine condProp (((q : Nat) : Int) < (ol.length : Nat)) rfl (fun c88 => ?_) (fun c88 => ?_)
            · skip
              refine skipAny ?_
              refine thenNormal ?_
              refine seqAny ?_
              refine blockAny ?_
              refine seqRegion ?_
              refine sq (r_move (v := .slice oa ol.length oc) rfl) ?_
              refine sq (r_move (v := i64 ((q : Nat))) rfl) ?_
              refine sq (r_idxS (E := EI) (l := ol) (j := q) sli23 (hOl.ext HL2.chg) rfl rfl (by first | rfl | omega | (simp; omega)) (by rfl) (by omega)) ?_
              refine sq (r_ldS (E := EI) (l := ol) (j := q) (v := (ol).getD q 0) fits3 (hOl.ext HL2.chg) rfl rfl (at_getD (by omega))) ?_
              refine sq (r_lssI (a := (ol).getD q 0) (b := (0 : Int)) rfl rfl) ?_
              refine sq (r_move (v := .bool (decide (((ol).getD q 0 : Int) < (0 : Int)))) rfl) ?_
              by_cases g24 : ((ol).getD q 0 : Int) < (0 : Int)
              · skip
                refine skAny (wantedSome (d' := 96) (b := true) rfl rfl (congrArg Value.bool (decide_eq_true g24))) ?_
                refine skAny (wantedSome (d' := 96) (b := true) rfl rfl (congrArg Value.bool (decide_eq_true g24))) ?_
                refine skAny (wantedSome (d' := 96) (b := true) rfl rfl (congrArg Value.bool (decide_eq_true g24))) ?_
                refine skAny (wantedSome (d' := 96) (b := true) rfl rfl (congrArg Value.bool (decide_eq_true g24))) ?_
                refine skAny (wantedSome (d' := 96) (b := true) rfl rfl (congrArg Value.bool (decide_eq_true g24))) ?_
                refine skAny (wantedSome (d' := 96) (b := true) rfl rfl (congrArg Value.bool (decide_eq_true g24))) ?_
                refine skAny (wantedSome (d' := 96) (b := true) rfl rfl (congrArg Value.bool (decide_eq_true g24))) ?_
                refine skAny (wantedSome (d' := 96) (b := true) rfl rfl (congrArg Value.bool (decide_eq_true g24))) ?_
                refine skAny (wantedSome (d' := 96) (b := true) rfl rfl (congrArg Value.bool (decide_eq_true g24))) ?_
                refine sq (r_pickT (u := .bool (true)) (congrArg Value.bool (decide_eq_true g24)) rfl) ?_
                refine wend ?_
                refine condTrue rfl ?_
                refine seqRegion ?_
                refine sq (r_assign (v := .bool (false)) rfl) ?_
                refine wend ?_
                refine retAny ?_
                refine blockRet ?_
                refine thenRet ?_
                refine thenRet ?_
                refine blockRet ?_
                refine thenRet ?_
                refine retG (rs := [.tmp 6]) (vs := [.bool (false)]) rfl ⟨⟨rfl, rfl⟩, trivial⟩ ?_
                exact ⟨_, rfl, .inr ⟨rfl, fun hg => by have := hg.ook q (by omega); omega⟩, HL2.chg⟩
              · skip
                refine sqAny (v := .slice oa ol.length oc) (w' := w22) (wantedSome (d' := 96) (b := false) rfl rfl (congrArg Value.bool (decide_eq_false g24))) (r_move (v := .slice oa ol.length oc) rfl) ?_
                refine sqAny (v := i64 ((q : Nat))) (w' := w22) (wantedSome (d' := 96) (b := false) rfl rfl (congrArg Value.bool (decide_eq_false g24))) (r_move (v := i64 ((q : Nat))) rfl) ?_
                refine sqAny (v := .pointer (adr oa (q * 1))) (w' := w22) (wantedSome (d' := 96) (b := false) rfl rfl (congrArg Value.bool (decide_eq_false g24))) (r_idxS (E := EI) (l := ol) (j := q) sli23 (hOl.ext HL2.chg) rfl rfl (by first | rfl | omega | (simp; omega)) (by rfl) (by omega)) ?_
                refine sqAny (v := i64 ((ol).getD q 0)) (w' := w22) (wantedSome (d' := 96) (b := false) rfl rfl (congrArg Value.bool (decide_eq_false g24))) (r_ldS (E := EI) (l := ol) (j := q) (v := (ol).getD q 0) fits3 (hOl.ext HL2.chg) rfl rfl (at_getD (by omega))) ?_
                refine sqAny (v := i64 (n)) (w' := w22) (wantedSome (d' := 96) (b := false) rfl rfl (congrArg Value.bool (decide_eq_false g24))) (r_move (v := i64 (n)) rfl) ?_
                refine sqAny (v := .slice ga gs.length gc) (w' := w22) (wantedSome (d' := 96) (b := false) rfl rfl (congrArg Value.bool (decide_eq_false g24))) (r_move (v := .slice ga gs.length gc) rfl) ?_
                refine sqAny (v := i64 ((gs.length : Nat))) (w' := w22) (wantedSome (d' := 96) (b := false) rfl rfl (congrArg Value.bool (decide_eq_false g24))) (r_lenS sli60 (a := ga) (m := gs.length) (c := gc) rfl) ?_
                refine sqAny (v := i64 (n + (gs.length : Nat))) (w' := w22) (wantedSome (d' := 96) (b := false) rfl rfl (congrArg Value.bool (decide_eq_false g24))) (r_addI (a := n) (b := (gs.length : Nat)) rfl rfl (by omega)) ?_
                refine sqAny (v := .bool (decide ((n + (gs.length : Nat) : Int) ≤ ((ol).getD q 0)))) (w' := w22) (wantedSome (d' := 96) (b := false) rfl rfl (congrArg Value.bool (decide_eq_false g24))) (r_geqI (a := (ol).getD q 0) (b := n + (gs.length : Nat)) rfl rfl) ?_
                refine sq (r_pickF (v := .bool (decide ((n + (gs.length : Nat) : Int) ≤ ((ol).getD q 0)))) (congrArg Value.bool (decide_eq_false g24)) rfl) ?_
                refine wend ?_
                refine condProp ((n + (gs.length : Nat) : Int) ≤ ((ol).getD q 0)) rfl (fun c106 => ?_) (fun c106 => ?_)
                · skip
                  refine seqRegion ?_
                  refine sq (r_assign (v := .bool (false)) rfl) ?_
                  refine wend ?_
                  refine retAny ?_
                  refine blockRet ?_
                  refine thenRet ?_
                  refine thenRet ?_
                  refine blockRet ?_
                  refine thenRet ?_
                  refine retG (rs := [.tmp 6]) (vs := [.bool (false)]) rfl ⟨⟨rfl, rfl⟩, trivial⟩ ?_
                  exact ⟨_, rfl, .inr ⟨rfl, fun hg => by have := hg.ook q (by omega); omega⟩, HL2.chg⟩
                · skip
                  refine skipAny ?_
                  refine blockNormal ?_
                  refine thenNormal ?_
                  refine oneRegion ?_
                  refine sq (r_move (v := i64 ((q : Nat))) rfl) ?_
                  refine sq (r_addI (a := (q : Nat)) (b := (1 : Int)) rfl rfl (by omega)) ?_
                  refine sq (r_assign (v := i64 ((q : Nat) + (1 : Int))) rfl) ?_
                  refine wnil ?_
                  refine thenNormal ?_
                  exact ⟨q + 1, _, rfl, ⟨rfl, rfl, rfl, rfl, trivial⟩, ⟨by omega, fun j hj => if h : j < q then hos j h else by (rw [show j = q by omega]; omega), HL2⟩, by show ol.length - (q + 1) < ol.length - q; omega⟩
            · skip
              refine exitAny ?_
              refine thenExit ?_
              refine thenExit ?_
              refine blockHere ?_
              refine thenNormal ?_
              refine seqRegion ?_
              refine sq (r_assign (v := .bool (true)) rfl) ?_
              refine wend ?_
              refine retAny ?_
              refine retG (rs := [.tmp 6]) (vs := [.bool (true)]) rfl ⟨⟨rfl, rfl⟩, trivial⟩ ?_
              exact ⟨_, rfl, .inl ⟨rfl, ⟨by omega, by omega, by omega, by omega, fun j hj => hgs j (by omega), fun j hj => hos j (by omega)⟩⟩, HL2.chg⟩

set_option maxHeartbeats 2000000 in
theorem reval_ok (n : Int) (gs : List Gt) (ol : List Int) (ga oa : Option Addr) (gc oc : Nat) (inp : List Bool) (ia : Option Addr) (ic : Nat) (w : World) (hGs : Rd EG w ga gs) (hOl : Rd EI w oa ol) (hIn : Rd EB w ia inp) (hg : IsC n gs ol) (hl0 : (inp.length : Int) = n) : Calls Tryd.prog 31 [.slice ga gs.length gc, .slice oa ol.length oc, .slice ia inp.length ic].toArray w (Ret fun v w' => SlRes EB 4 (evalS gs ol inp) w v w' ∧ Ext w w') := by
  have hlo := hg.lo
  have hhi := hg.hi
  have hgt := hg.gates
  have hou := hg.outs
  have H := Hp.start No w
  refine enter (n := 86) Tryd.func31 rfl rfl (Nat.le_of_ble_eq_true rfl) ?_
  refine seqRegion ?_
  refine sq (r_assign (v := .slice none 0 0) rfl) ?_
  refine wend ?_
  refine seqRegion ?_
  refine q_buildSlice (E := EB) (l := []) H sli49 zer4 (Nat.le_of_ble_eq_true rfl) (ps := []) rfl (by exact fillAll rfl rfl) rfl ?_
  intro b1 w3 hS2 H4 hE5
  refine sq (r_move (v := .slice ia inp.length ic) rfl) ?_
  refine q_append (E := EB) (k := 0) (l := []) (l2 := inp) H4 rfl hS2 sli49 zer4 rfl byt4 (hIn.ext H4.chg) rfl (by rfl) rfl (by rfl) (by omega) ?_
  intro key6 c7 sp8 w10 hS9 hne12 H11
  have H11' := H11.as (L' := [(key6, sob EB 4 (([]) ++ inp) sp8)]) rfl
  clear H11
  have e13 : ([]) ++ inp = wS gs inp 0 := by rfl
  have hS14 := hS9
  rw [e13] at hS14
  have H15 := H11'.as (L' := [(key6, sob EB 4 (wS gs inp 0) sp8)]) (by rw [e13])
  refine sq (r_assign (v := .slice (ownA key6) (0 + inp.length) c7) rfl) ?_
  refine wend ?_
  refine seqAny ?_
  refine seqRegion ?_
  refine sq (r_assign (v := i64 ((0 : Int))) rfl) ?_
  refine wend ?_
  refine blockAny ?_
  refine loopAny (σ := Nat × Option Nat × Nat × List Value) (fun (i, key, c, sp) => [(0, .slice ga gs.length gc), (1, .slice oa ol.length oc), (7, .slice (ownA key) (inp.length + i) c), (8, i64 ((i : Nat)))]) (fun (i, key, c, sp) w' => i ≤ gs.length ∧ Sl EB key (wS gs inp i) c sp ∧ Hp No w w' [(key, sob EB 4 (wS gs inp i) sp)]) (fun (i, key, c, sp) => gs.length - i) ((0, key6, c7, sp8)) ?_ ?_ ?_
  · exact ⟨rfl, rfl, congrArg (fun q => Value.slice _ q _) (by omega), rfl, trivial⟩
  · exact ⟨by omega, hS14, H15⟩
  rintro ⟨i, key, c, sp⟩ ρ w16 ⟨hi, hS, HL⟩
  have hl := wS_len gs inp i
  refine seqAny ?_
  refine seqRegion ?_
  refine sq (r_move (v := i64 ((i : Nat))) rfl) ?_
  refine sq (r_move (v := .slice ga gs.length gc) rfl) ?_
  refine sq (r_lenS sli60 (a := ga) (m := gs.length) (c := gc) rfl) ?_
  refine sq (r_lssI (a := (i : Nat)) (b := (gs.length : Nat)) rfl rfl) ?_
  refine wend ?_
  refine condProp (((i : Nat) : Int) < (gs.length : Nat)) rfl (fun c18 => ?_) (fun c18 => ?_)
  · skip
    have hgi := hg.gok i (by omega)
    unfold gokP at hgi
    refine skipAny ?_
    refine thenNormal ?_
    refine seqAny ?_
    refine blockAny ?_
    refine seqRegion ?_
    refine sq (r_move (v := .slice ga gs.length gc) rfl) ?_
    refine sq (r_move (v := i64 ((i : Nat))) rfl) ?_
    refine sq (r_idxS (E := EG) (l := gs) (j := i) sli60 (hGs.ext HL.chg) rfl rfl (by first | rfl | omega | (simp; omega)) (by rfl) (by omega)) ?_
    refine sq ((r_ldS (E := EG) (l := gs) (j := i) (v := (gs).getD i g0) fits78 (hGs.ext HL.chg) rfl rfl (at_getD (by omega))).as (v' := .agg #[i64 (((gs).getD i g0).k), i64 (((gs).getD i g0).a), i64 (((gs).getD i g0).b)]) rfl) ?_
    refine q_alloc (o := .cells #[i64 ((0 : Int)), i64 ((0 : Int)), i64 ((0 : Int))] 78 (0, 0)) HL zer78 (by kernel_rfl) ?_
    intro b18 w19 hb18 H20 hE21
    refine d_store (k := 0) (v := .agg #[i64 (((gs).getD i g0).k), i64 (((gs).getD i g0).a), i64 (((gs).getD i g0).b)]) (cs' := #[i64 (((gs).getD i g0).k), i64 (((gs).getD i g0).a), i64 (((gs).getD i g0).b)]) H20 rfl rfl rfl siz78 (by rfl) (by intro u hu; simp [Value.cells] at hu; first | (subst hu; rfl) | (rcases hu with rfl | rfl | rfl <;> rfl)) (by exact Nat.le_of_ble_eq_true rfl) (by rfl) ?_
    intro w22 H23 hC24
    have H23' := H23.as (L' := [(some b18, .cells #[i64 (((gs).getD i g0).k), i64 (((gs).getD i g0).a), i64 (((gs).getD i g0).b)] 78 (0, 0)), (key, sob EB 4 (wS gs inp i) sp)]) rfl
    clear H23
    refine wend ?_
    refine seqRegion ?_
    refine sq (r_fieldAddr (off' := 0) fld78_0 (by decide) (b := b18) (off := 0) rfl (by omega)) ?_
    refine sq (r_loadC (v := i64 (((gs).getD i g0).k)) one3 (H23'.get (k := 0) rfl) (off := 0) rfl (by rfl)) ?_
    refine wend ?_
    refine blockAny ?_
    refine seqRegion ?_
    refine sq (r_eqlI (a := ((gs).getD i g0).k) (b := (1 : Int)) rfl rfl) ?_
    refine sq (r_assign (v := .bool (decide ((((gs).getD i g0).k : Int) = (1 : Int)))) rfl) ?_
    refine wend ?_
    refine condProp ((((gs).getD i g0).k : Int) = (1 : Int)) rfl (fun kc36 => ?_) (fun kc36 => ?_)
    · skip
      refine drawAny (K := [none, none, none, none, none, none, none, none, none, none, none, none, some (bsRel EB 4 [((wS gs inp i).getD (((gs.getD i g0).a).toNat) false) != ((wS gs inp i).getD (((gs.getD i g0).b).toNat) false)] 1 w22), some (appRel EB 4 key (wS gs inp i) ([((wS gs inp i).getD (((gs.getD i g0).a).toNat) false) != ((wS gs inp i).getD (((gs.getD i g0).b).toNat) false)]) ((inp.length + i) + 1) w22)]) [0, 0, 0, 4, 14, 30, 0, 0, 128, 448, 960, 2046, 4094, 8191, 16383] (AppC key (sob EB 4 (wS gs inp i) sp) (ob2 EB 4 (wS gs inp i) ([((wS gs inp i).getD (((gs.getD i g0).a).toNat) false) != ((wS gs inp i).getD (((gs.getD i g0).b).toNat) false)]) c sp) w22) (AppR key (sob EB 4 (wS gs inp i) sp) (ob2 EB 4 (wS gs inp i) ([((wS gs inp i).getD (((gs.getD i g0).a).toNat) false) != ((wS gs inp i).getD (((gs.getD i g0).b).toNat) false)]) c sp)) mixed (by kernel_rfl) (AppC.drew fun g hg => H23'.has _ (List.mem_of_getElem? (i := 1) rfl) g hg) AppC.trans ?_ ?_
      · exact relAll ⟨⟨fun _ _ _ _ _ hR h => bsRel_app (fun g hg => H23'.lt (List.mem_of_getElem? (i := 1) rfl) hg) hR h, fun _ _ _ _ _ h => h⟩, ⟨fun _ _ _ _ _ hR h => appRel_stable hR h, fun _ _ _ _ _ h => h⟩, trivial⟩
      refine ⟨.slice (ownA key) (inp.length + i) c, fun _ uw25 hC26 _ => Gives.run rfl (r_move (v := .slice (ownA key) (inp.length + i) c) rfl) ⟨rfl, AppR.refl⟩, ?_⟩
      refine ⟨.slice (ownA key) (inp.length + i) c, fun _ uw30 hC31 _ => Gives.run rfl (r_move (v := .slice (ownA key) (inp.length + i) c) rfl) ⟨rfl, AppR.refl⟩, ?_⟩
      refine ⟨.pointer (some ⟨b18, 1, none⟩), fun _ uw35 hC36 _ => Gives.run rfl (r_fieldAddr (off' := 1) fld78_1 (by decide) (b := b18) (off := 0) rfl (by omega)) ⟨rfl, AppR.refl⟩, ?_⟩
      refine ⟨i64 (((gs).getD i g0).a), fun _ uw40 hC41 _ => ?_, ?_⟩
      · obtain ⟨sp42, H43, hS44, _⟩ := hC41.hp H23' (k := 1) rfl hS
        exact Gives.run rfl (r_loadC (v := i64 (((gs).getD i g0).a)) one3 (H43.get (k := 0) rfl) (off := 1) rfl (by rfl)) ⟨rfl, AppR.refl⟩
      refine ⟨.pointer (adr (ownA key) ((((gs.getD i g0).a).toNat) * 1)), fun _ uw45 hC46 _ => ?_, ?_⟩
      · obtain ⟨sp47, H48, hS49, _⟩ := hC46.hp H23' (k := 1) rfl hS
        exact Gives.run rfl (r_idxS (E := EB) (l := wS gs inp i) (j := ((gs.getD i g0).a).toNat) sli49 (H48.rd (k := 1) rfl hS49) rfl rfl (by omega) (by omega) (by omega)) ⟨rfl, AppR.refl⟩
      refine ⟨.bool ((wS gs inp i).getD (((gs.getD i g0).a).toNat) false), fun _ uw50 hC51 _ => ?_, ?_⟩
      · obtain ⟨sp52, H53, hS54, _⟩ := hC51.hp H23' (k := 1) rfl hS
        exact Gives.run rfl (r_ldS (E := EB) (l := wS gs inp i) (j := ((gs.getD i g0).a).toNat) (v := (wS gs inp i).getD (((gs.getD i g0).a).toNat) false) fits4 (H53.rd (k := 1) rfl hS54) rfl rfl (at_getD (by omega))) ⟨rfl, AppR.refl⟩
      refine ⟨.slice (ownA key) (inp.length + i) c, fun _ uw55 hC56 _ => Gives.run rfl (r_move (v := .slice (ownA key) (inp.length + i) c) rfl) ⟨rfl, AppR.refl⟩, ?_⟩
      refine ⟨.pointer (some ⟨b18, 2, none⟩), fun _ uw60 hC61 _ => Gives.run rfl (r_fieldAddr (off' := 2) fld78_2 (by decide) (b := b18) (off := 0) rfl (by omega)) ⟨rfl, AppR.refl⟩, ?_⟩
      refine ⟨i64 (((gs).getD i g0).b), fun _ uw65 hC66 _ => ?_, ?_⟩
      · obtain ⟨sp67, H68, hS69, _⟩ := hC66.hp H23' (k := 1) rfl hS
        exact Gives.run rfl (r_loadC (v := i64 (((gs).getD i g0).b)) one3 (H68.get (k := 0) rfl) (off := 2) rfl (by rfl)) ⟨rfl, AppR.refl⟩
      refine ⟨.pointer (adr (ownA key) ((((gs.getD i g0).b).toNat) * 1)), fun _ uw70 hC71 _ => ?_, ?_⟩
      · obtain ⟨sp72, H73, hS74, _⟩ := hC71.hp H23' (k := 1) rfl hS
        exact Gives.run rfl (r_idxS (E := EB) (l := wS gs inp i) (j := ((gs.getD i g0).b).toNat) sli49 (H73.rd (k := 1) rfl hS74) rfl rfl (by omega) (by omega) (by omega)) ⟨rfl, AppR.refl⟩
      refine ⟨.bool ((wS gs inp i).getD (((gs.getD i g0).b).toNat) false), fun _ uw75 hC76 _ => ?_, ?_⟩
      · obtain ⟨sp77, H78, hS79, _⟩ := hC76.hp H23' (k := 1) rfl hS
        exact Gives.run rfl (r_ldS (E := EB) (l := wS gs inp i) (j := ((gs.getD i g0).b).toNat) (v := (wS gs inp i).getD (((gs.getD i g0).b).toNat) false) fits4 (H78.rd (k := 1) rfl hS79) rfl rfl (at_getD (by omega))) ⟨rfl, AppR.refl⟩
      refine ⟨.bool (((wS gs inp i).getD (((gs.getD i g0).a).toNat) false) != ((wS gs inp i).getD (((gs.getD i g0).b).toNat) false)), fun _ uw80 hC81 _ => Gives.run rfl (r_neqB und4 (a := (wS gs inp i).getD (((gs.getD i g0).a).toNat) false) (b := (wS gs inp i).getD (((gs.getD i g0).b).toNat) false) rfl rfl) ⟨rfl, AppR.refl⟩, ?_⟩
      refine ⟨fun r uw85 hC86 hF => bsGives (E := EB) (l := [((wS gs inp i).getD (((gs.getD i g0).a).toNat) false) != ((wS gs inp i).getD (((gs.getD i g0).b).toNat) false)]) sli49 zer4 (Nat.le_of_ble_eq_true rfl) (ps := [(0, .bool (((wS gs inp i).getD (((gs.getD i g0).a).toNat) false) != ((wS gs inp i).getD (((gs.getD i g0).b).toNat) false)))]) rfl (by exact fillAll rfl rfl) hC86.1.size (fun _ h => AppR.ext h), ?_⟩
      refine ⟨fun r uw87 hC88 hF => ?_, ?_⟩
      · obtain ⟨sp92, H93, hS94, _⟩ := hC88.hp H23' (k := 1) rfl hS
        obtain ⟨b91, e89, _, h90⟩ := hF 12 _ rfl rfl
        exact appGives hC88 H23' (k := 1) rfl hS sli49 zer4 rfl byt4 (Rd.row h90) rfl (by omega) e89 (by rfl) (by omega)
      intro r98 w95 hE97 hF
      obtain ⟨key99, c100, sp101, e102, hS103, hne104, hk105⟩ := hF 13 _ rfl
      have H96 := (H23'.turn (k := 1) rfl hE97.1 hk105).as (L' := [(some b18, .cells #[i64 (((gs).getD i g0).k), i64 (((gs).getD i g0).a), i64 (((gs).getD i g0).b)] 78 (0, 0)), (key99, sob EB 4 ((wS gs inp i) ++ ([((wS gs inp i).getD (((gs.getD i g0).a).toNat) false) != ((wS gs inp i).getD (((gs.getD i g0).b).toNat) false)])) sp101)]) rfl
      dsimp only
      rw [e102]
      have e106 : (wS gs inp i) ++ ([((wS gs inp i).getD (((gs.getD i g0).a).toNat) false) != ((wS gs inp i).getD (((gs.getD i g0).b).toNat) false)]) = wS gs inp (i + 1) := by rw [wS, gval, if_pos kc36]
      have hS107 := hS103
      rw [e106] at hS107
      have H108 := H96.as (L' := [(some b18, .cells #[i64 (((gs).getD i g0).k), i64 (((gs).getD i g0).a), i64 (((gs).getD i g0).b)] 78 (0, 0)), (key99, sob EB 4 (wS gs inp (i + 1)) sp101)]) (by rw [e106])
      refine sq (r_assign (v := .slice (ownA key99) ((inp.length + i) + 1) c100) rfl) ?_
      refine wnil ?_
      refine blockNormal ?_
      refine blockNormal ?_
      refine thenNormal ?_
      refine oneRegion ?_
      refine sq (r_move (v := i64 ((i : Nat))) rfl) ?_
      refine sq (r_addI (a := (i : Nat)) (b := (1 : Int)) rfl rfl (by omega)) ?_
      refine sq (r_assign (v := i64 ((i : Nat) + (1 : Int))) rfl) ?_
      refine wnil ?_
      refine thenNormal ?_
      exact ⟨(i + 1, key99, c100, sp101), _, rfl, ⟨rfl, rfl, rfl, rfl, trivial⟩, ⟨by omega, hS107, (H108.dropk 0)⟩, by show gs.length - (i + 1) < gs.length - i; omega⟩
    · skip
      refine seqRegion ?_
      refine sq (r_eqlI (a := ((gs).getD i g0).k) (b := (2 : Int)) rfl rfl) ?_
      refine sq (r_assign (v := .bool (decide ((((gs).getD i g0).k : Int) = (2 : Int)))) rfl) ?_
      refine wend ?_
      refine condProp ((((gs).getD i g0).k : Int) = (2 : Int)) rfl (fun kc52 => ?_) (fun kc52 => ?_)
      · skip
        refine oneRegion ?_
        refine sq (r_move (v := .slice (ownA key) (inp.length + i) c) rfl) ?_
        refine sq (r_move (v := .slice (ownA key) (inp.length + i) c) rfl) ?_
        refine sq (r_fieldAddr (off' := 1) fld78_1 (by decide) (b := b18) (off := 0) rfl (by omega)) ?_
        refine sq (r_loadC (v := i64 (((gs).getD i g0).a)) one3 (H23'.get (k := 0) rfl) (off := 1) rfl (by rfl)) ?_
        refine sq (r_idxS (E := EB) (l := wS gs inp i) (j := ((gs.getD i g0).a).toNat) sli49 (H23'.rd (k := 1) rfl hS) rfl rfl (by omega) (by omega) (by omega)) ?_
        refine sq (r_ldS (E := EB) (l := wS gs inp i) (j := ((gs.getD i g0).a).toNat) (v := (wS gs inp i).getD (((gs.getD i g0).a).toNat) false) fits4 (H23'.rd (k := 1) rfl hS) rfl rfl (at_getD (by omega))) ?_
        refine sq (r_move (v := .bool ((wS gs inp i).getD (((gs.getD i g0).a).toNat) false)) rfl) ?_
        rcases Bool.eq_false_or_eq_true ((wS gs inp i).getD (((gs.getD i g0).a).toNat) false) with g109 | g109
        · skip
          refine sqAny (v := .slice (ownA key) (inp.length + i) c) (w' := w22) (wantedSome (d' := 60) (b := true) rfl rfl (congrArg Value.bool g109)) (r_move (v := .slice (ownA key) (inp.length + i) c) rfl) ?_
          refine sqAny (v := .pointer (some ⟨b18, 2, none⟩)) (w' := w22) (wantedSome (d' := 60) (b := true) rfl rfl (congrArg Value.bool g109)) (r_fieldAddr (off' := 2) fld78_2 (by decide) (b := b18) (off := 0) rfl (by omega)) ?_
          refine sqAny (v := i64 (((gs).getD i g0).b)) (w' := w22) (wantedSome (d' := 60) (b := true) rfl rfl (congrArg Value.bool g109)) (r_loadC (v := i64 (((gs).getD i g0).b)) one3 (H23'.get (k := 0) rfl) (off := 2) rfl (by rfl)) ?_
          refine sqAny (v := .pointer (adr (ownA key) ((((gs.getD i g0).b).toNat) * 1))) (w' := w22) (wantedSome (d' := 60) (b := true) rfl rfl (congrArg Value.bool g109)) (r_idxS (E := EB) (l := wS gs inp i) (j := ((gs.getD i g0).b).toNat) sli49 (H23'.rd (k := 1) rfl hS) rfl rfl (by omega) (by omega) (by omega)) ?_
          refine sqAny (v := .bool ((wS gs inp i).getD (((gs.getD i g0).b).toNat) false)) (w' := w22) (wantedSome (d' := 60) (b := true) rfl rfl (congrArg Value.bool g109)) (r_ldS (E := EB) (l := wS gs inp i) (j := ((gs.getD i g0).b).toNat) (v := (wS gs inp i).getD (((gs.getD i g0).b).toNat) false) fits4 (H23'.rd (k := 1) rfl hS) rfl rfl (at_getD (by omega))) ?_
          refine sq (r_pickT (u := .bool ((wS gs inp i).getD (((gs.getD i g0).b).toNat) false)) (congrArg Value.bool g109) rfl) ?_
          refine q_buildSlice (E := EB) (l := [(wS gs inp i).getD (((gs.getD i g0).b).toNat) false]) H23' sli49 zer4 (Nat.le_of_ble_eq_true rfl) (ps := [(0, .bool ((wS gs inp i).getD (((gs.getD i g0).b).toNat) false))]) rfl (by exact fillAll rfl rfl) rfl ?_
          intro b110 w112 hS111 H113 hE114
          refine q_append (E := EB) (k := 2) (l := wS gs inp i) (l2 := [(wS gs inp i).getD (((gs.getD i g0).b).toNat) false]) H113 rfl hS sli49 zer4 rfl byt4 (H113.rd (k := 0) rfl hS111) rfl (by omega) rfl (by rfl) (by omega) ?_
          intro key115 c116 sp117 w119 hS118 hne121 H120
          have H120' := H120.as (L' := [((some b110), sob EB 4 ([(wS gs inp i).getD (((gs.getD i g0).b).toNat) false]) ([])), (some b18, .cells #[i64 (((gs).getD i g0).k), i64 (((gs).getD i g0).a), i64 (((gs).getD i g0).b)] 78 (0, 0)), (key115, sob EB 4 ((wS gs inp i) ++ ([(wS gs inp i).getD (((gs.getD i g0).b).toNat) false])) sp117)]) rfl
          clear H120
          have e122 : (wS gs inp i) ++ ([(wS gs inp i).getD (((gs.getD i g0).b).toNat) false]) = wS gs inp (i + 1) := by rw [wS, gval, if_neg kc36, if_pos kc52, g109]; rfl
          have hS123 := hS118
          rw [e122] at hS123
          have H124 := H120'.as (L' := [((some b110), sob EB 4 ([(wS gs inp i).getD (((gs.getD i g0).b).toNat) false]) ([])), (some b18, .cells #[i64 (((gs).getD i g0).k), i64 (((gs).getD i g0).a), i64 (((gs).getD i g0).b)] 78 (0, 0)), (key115, sob EB 4 (wS gs inp (i + 1)) sp117)]) (by rw [e122])
          refine sq (r_assign (v := .slice (ownA key115) ((inp.length + i) + 1) c116) rfl) ?_
          refine wnil ?_
          refine blockNormal ?_
          refine blockNormal ?_
          refine thenNormal ?_
          refine oneRegion ?_
          refine sq (r_move (v := i64 ((i : Nat))) rfl) ?_
          refine sq (r_addI (a := (i : Nat)) (b := (1 : Int)) rfl rfl (by omega)) ?_
          refine sq (r_assign (v := i64 ((i : Nat) + (1 : Int))) rfl) ?_
          refine wnil ?_
          refine thenNormal ?_
          exact ⟨(i + 1, key115, c116, sp117), _, rfl, ⟨rfl, rfl, rfl, rfl, trivial⟩, ⟨by omega, hS123, ((H124.dropk 1).dropk 0)⟩, by show gs.length - (i + 1) < gs.length - i; omega⟩
        · skip
          refine skAny (wantedSome (d' := 60) (b := false) rfl rfl (congrArg Value.bool g109)) ?_
          refine skAny (wantedSome (d' := 60) (b := false) rfl rfl (congrArg Value.bool g109)) ?_
          refine skAny (wantedSome (d' := 60) (b := false) rfl rfl (congrArg Value.bool g109)) ?_
          refine skAny (wantedSome (d' := 60) (b := false) rfl rfl (congrArg Value.bool g109)) ?_
          refine skAny (wantedSome (d' := 60) (b := false) rfl rfl (congrArg Value.bool g109)) ?_
          refine sq (r_pickF (v := .bool (false)) (congrArg Value.bool g109) rfl) ?_
          refine q_buildSlice (E := EB) (l := [false]) H23' sli49 zer4 (Nat.le_of_ble_eq_true rfl) (ps := [(0, .bool (false))]) rfl (by exact fillAll rfl rfl) rfl ?_
          intro b125 w127 hS126 H128 hE129
          refine q_append (E := EB) (k := 2) (l := wS gs inp i) (l2 := [false]) H128 rfl hS sli49 zer4 rfl byt4 (H128.rd (k := 0) rfl hS126) rfl (by omega) rfl (by rfl) (by omega) ?_
          intro key130 c131 sp132 w134 hS133 hne136 H135
          have H135' := H135.as (L' := [((some b125), sob EB 4 ([false]) ([])), (some b18, .cells #[i64 (((gs).getD i g0).k), i64 (((gs).getD i g0).a), i64 (((gs).getD i g0).b)] 78 (0, 0)), (key130, sob EB 4 ((wS gs inp i) ++ ([false])) sp132)]) rfl
          clear H135
          have e137 : (wS gs inp i) ++ ([false]) = wS gs inp (i + 1) := by rw [wS, gval, if_neg kc36, if_pos kc52, g109]; rfl
          have hS138 := hS133
          rw [e137] at hS138
          have H139 := H135'.as (L' := [((some b125), sob EB 4 ([false]) ([])), (some b18, .cells #[i64 (((gs).getD i g0).k), i64 (((gs).getD i g0).a), i64 (((gs).getD i g0).b)] 78 (0, 0)), (key130, sob EB 4 (wS gs inp (i + 1)) sp132)]) (by rw [e137])
          refine sq (r_assign (v := .slice (ownA key130) ((inp.length + i) + 1) c131) rfl) ?_
          refine wnil ?_
          refine blockNormal ?_
          refine blockNormal ?_
          refine thenNormal ?_
          refine oneRegion ?_
          refine sq (r_move (v := i64 ((i : Nat))) rfl) ?_
          refine sq (r_addI (a := (i : Nat)) (b := (1 : Int)) rfl rfl (by omega)) ?_
          refine sq (r_assign (v := i64 ((i : Nat) + (1 : Int))) rfl) ?_
          refine wnil ?_
          refine thenNormal ?_
          exact ⟨(i + 1, key130, c131, sp132), _, rfl, ⟨rfl, rfl, rfl, rfl, trivial⟩, ⟨by omega, hS138, ((H139.dropk 1).dropk 0)⟩, by show gs.length - (i + 1) < gs.length - i; omega⟩
      · skip
        refine oneRegion ?_
        refine sq (r_move (v := .slice (ownA key) (inp.length + i) c) rfl) ?_
        refine sq (r_move (v := .slice (ownA key) (inp.length + i) c) rfl) ?_
        refine sq (r_fieldAddr (off' := 1) fld78_1 (by decide) (b := b18) (off := 0) rfl (by omega)) ?_
        refine sq (r_loadC (v := i64 (((gs).getD i g0).a)) one3 (H23'.get (k := 0) rfl) (off := 1) rfl (by rfl)) ?_
        refine sq (r_idxS (E := EB) (l := wS gs inp i) (j := ((gs.getD i g0).a).toNat) sli49 (H23'.rd (k := 1) rfl hS) rfl rfl (by omega) (by omega) (by omega)) ?_
        refine sq (r_ldS (E := EB) (l := wS gs inp i) (j := ((gs.getD i g0).a).toNat) (v := (wS gs inp i).getD (((gs.getD i g0).a).toNat) false) fits4 (H23'.rd (k := 1) rfl hS) rfl rfl (at_getD (by omega))) ?_
        refine sq (r_not (b := (wS gs inp i).getD (((gs.getD i g0).a).toNat) false) rfl) ?_
        refine q_buildSlice (E := EB) (l := [!((wS gs inp i).getD (((gs.getD i g0).a).toNat) false)]) H23' sli49 zer4 (Nat.le_of_ble_eq_true rfl) (ps := [(0, .bool (!((wS gs inp i).getD (((gs.getD i g0).a).toNat) false)))]) rfl (by exact fillAll rfl rfl) rfl ?_
        intro b140 w142 hS141 H143 hE144
        refine q_append (E := EB) (k := 2) (l := wS gs inp i) (l2 := [!((wS gs inp i).getD (((gs.getD i g0).a).toNat) false)]) H143 rfl hS sli49 zer4 rfl byt4 (H143.rd (k := 0) rfl hS141) rfl (by omega) rfl (by rfl) (by omega) ?_
        intro key145 c146 sp147 w149 hS148 hne151 H150
        have H150' := H150.as (L' := [((some b140), sob EB 4 ([!((wS gs inp i).getD (((gs.getD i g0).a).toNat) false)]) ([])), (some b18, .cells #[i64 (((gs).getD i g0).k), i64 (((gs).getD i g0).a), i64 (((gs).getD i g0).b)] 78 (0, 0)), (key145, sob EB 4 ((wS gs inp i) ++ ([!((wS gs inp i).getD (((gs.getD i g0).a).toNat) false)])) sp147)]) rfl
        clear H150
        have e152 : (wS gs inp i) ++ ([!((wS gs inp i).getD (((gs.getD i g0).a).toNat) false)]) = wS gs inp (i + 1) := by rw [wS, gval, if_neg kc36, if_neg kc52]
        have hS153 := hS148
        rw [e152] at hS153
        have H154 := H150'.as (L' := [((some b140), sob EB 4 ([!((wS gs inp i).getD (((gs.getD i g0).a).toNat) false)]) ([])), (some b18, .cells #[i64 (((gs).getD i g0).k), i64 (((gs).getD i g0).a), i64 (((gs).getD i g0).b)] 78 (0, 0)), (key145, sob EB 4 (wS gs inp (i + 1)) sp147)]) (by rw [e152])
        refine sq (r_assign (v := .slice (ownA key145) ((inp.length + i) + 1) c146) rfl) ?_
        refine wnil ?_
        refine blockNormal ?_
        refine blockNormal ?_
        refine thenNormal ?_
        refine oneRegion ?_
        refine sq (r_move (v := i64 ((i : Nat))) rfl) ?_
        refine sq (r_addI (a := (i : Nat)) (b := (1 : Int)) rfl rfl (by omega)) ?_
        refine sq (r_assign (v := i64 ((i : Nat) + (1 : Int))) rfl) ?_
        refine wnil ?_
        refine thenNormal ?_
        exact ⟨(i + 1, key145, c146, sp147), _, rfl, ⟨rfl, rfl, rfl, rfl, trivial⟩, ⟨by omega, hS153, ((H154.dropk 1).dropk 0)⟩, by show gs.length - (i + 1) < gs.length - i; omega⟩
  · skip
    obtain rfl : i = gs.length := by omega
    refine exitAny ?_
    refine thenExit ?_
    refine thenExit ?_
    refine blockHere ?_
    refine thenNormal ?_
    refine seqRegion ?_
    refine sq (r_assign (v := .slice none 0 0) rfl) ?_
    have H155 := HL.nil (sob EB 4 [] [])
    refine wend ?_
    refine seqAny ?_
    refine seqRegion ?_
    refine sq (r_assign (v := i64 ((0 : Int))) rfl) ?_
    refine wend ?_
    refine blockAny ?_
    refine loopAny (σ := Nat × Option Nat × Nat × List Value) (fun (q, k2, c2, sp2) => [(1, .slice oa ol.length oc), (7, .slice (ownA key) (inp.length + gs.length) c), (10, .slice (ownA k2) q c2), (11, i64 ((q : Nat)))]) (fun (q, k2, c2, sp2) w' => q ≤ ol.length ∧ Sl EB k2 (oS (wS gs inp gs.length) ol q) c2 sp2 ∧ Hp No w w' [(k2, sob EB 4 (oS (wS gs inp gs.length) ol q) sp2), (key, sob EB 4 (wS gs inp gs.length) sp)]) (fun (q, k2, c2, sp2) => ol.length - q) ((0, none, 0, [])) ?_ ?_ ?_
    · exact ⟨rfl, rfl, rfl, rfl, trivial⟩
    · exact ⟨by omega, Sl.none, H155⟩
    rintro ⟨q, k2, c2, sp2⟩ ρ w156 ⟨hq, hS2, HL2⟩
    have hl2 := oS_len (wS gs inp gs.length) ol q
    refine seqAny ?_
    refine seqRegion ?_
    refine sq (r_move (v := i64 ((q : Nat))) rfl) ?_
    refine sq (r_move (v := .slice oa ol.length oc) rfl) ?_
    refine sq (r_lenS sli23 (a := oa) (m := ol.length) (c := oc) rfl) ?_
    refine sq (r_lssI (a := (q : Nat)) (b := (ol.length : Nat)) rfl rfl) ?_
    refine wend ?_
    refine condProp (((q : Nat) : Int) < (ol.length : Nat)) rfl (fun c72 => ?_) (fun c72 => ?_)
    · skip
      have hoi := hg.ook q (by omega)
      refine skipAny ?_
      refine thenNormal ?_
      refine seqAny ?_
      refine blockAny ?_
      refine oneRegion ?_
      refine sq (r_move (v := .slice (ownA k2) q c2) rfl) ?_
      refine sq (r_move (v := .slice (ownA key) (inp.length + gs.length) c) rfl) ?_
      refine sq (r_move (v := .slice oa ol.length oc) rfl) ?_
      refine sq (r_move (v := i64 ((q : Nat))) rfl) ?_
      refine sq (r_idxS (E := EI) (l := ol) (j := q) sli23 (hOl.ext HL2.chg) rfl rfl (by first | rfl | omega | (simp; omega)) (by rfl) (by omega)) ?_
      refine sq (r_ldS (E := EI) (l := ol) (j := q) (v := (ol).getD q 0) fits3 (hOl.ext HL2.chg) rfl rfl (at_getD (by omega))) ?_
      refine sq (r_idxS (E := EB) (l := wS gs inp gs.length) (j := (ol.getD q 0).toNat) sli49 (HL2.rd (k := 1) rfl hS) rfl rfl (by omega) (by omega) (by omega)) ?_
      refine sq (r_ldS (E := EB) (l := wS gs inp gs.length) (j := (ol.getD q 0).toNat) (v := (wS gs inp gs.length).getD ((ol.getD q 0).toNat) false) fits4 (HL2.rd (k := 1) rfl hS) rfl rfl (at_getD (by omega))) ?_
      refine q_buildSlice (E := EB) (l := [(wS gs inp gs.length).getD ((ol.getD q 0).toNat) false]) HL2 sli49 zer4 (Nat.le_of_ble_eq_true rfl) (ps := [(0, .bool ((wS gs inp gs.length).getD ((ol.getD q 0).toNat) false))]) rfl (by exact fillAll rfl rfl) rfl ?_
      intro b158 w160 hS159 H161 hE162
      refine q_append (E := EB) (k := 1) (l := oS (wS gs inp gs.length) ol q) (l2 := [(wS gs inp gs.length).getD ((ol.getD q 0).toNat) false]) H161 rfl hS2 sli49 zer4 rfl byt4 (H161.rd (k := 0) rfl hS159) rfl (by exact (oS_len _ _ _).symm) rfl (by rfl) (by omega) ?_
      intro key163 c164 sp165 w167 hS166 hne169 H168
      have H168' := H168.as (L' := [((some b158), sob EB 4 ([(wS gs inp gs.length).getD ((ol.getD q 0).toNat) false]) ([])), (key163, sob EB 4 ((oS (wS gs inp gs.length) ol q) ++ ([(wS gs inp gs.length).getD ((ol.getD q 0).toNat) false])) sp165), (key, sob EB 4 (wS gs inp gs.length) sp)]) rfl
      clear H168
      have e170 : (oS (wS gs inp gs.length) ol q) ++ ([(wS gs inp gs.length).getD ((ol.getD q 0).toNat) false]) = oS (wS gs inp gs.length) ol (q + 1) := by rw [oS]
      have hS171 := hS166
      rw [e170] at hS171
      have H172 := H168'.as (L' := [((some b158), sob EB 4 ([(wS gs inp gs.length).getD ((ol.getD q 0).toNat) false]) ([])), (key163, sob EB 4 (oS (wS gs inp gs.length) ol (q + 1)) sp165), (key, sob EB 4 (wS gs inp gs.length) sp)]) (by rw [e170])
      refine sq (r_assign (v := .slice (ownA key163) (q + 1) c164) rfl) ?_
      refine wnil ?_
      refine blockNormal ?_
      refine thenNormal ?_
      refine oneRegion ?_
      refine sq (r_move (v := i64 ((q : Nat))) rfl) ?_
      refine sq (r_addI (a := (q : Nat)) (b := (1 : Int)) rfl rfl (by omega)) ?_
      refine sq (r_assign (v := i64 ((q : Nat) + (1 : Int))) rfl) ?_
      refine wnil ?_
      refine thenNormal ?_
      exact ⟨(q + 1, key163, c164, sp165), _, rfl, ⟨rfl, rfl, rfl, rfl, trivial⟩, ⟨by omega, hS171, (H172.dropk 0)⟩, by show ol.length - (q + 1) < ol.length - q; omega⟩
    · skip
      obtain rfl : q = ol.length := by omega
      refine exitAny ?_
      refine thenExit ?_
      refine thenExit ?_
      refine blockHere ?_
      refine thenNormal ?_
      refine seqRegion ?_
      refine sq (r_move (v := .slice (ownA k2) ol.length c2) rfl) ?_
      refine sq (r_assign (v := .slice (ownA k2) ol.length c2) rfl) ?_
      refine wend ?_
      refine retAny ?_
      refine retG (rs := [.tmp 6]) (vs := [.slice (ownA k2) ol.length c2]) rfl ⟨⟨rfl, rfl⟩, trivial⟩ ?_
      exact ⟨_, rfl, HL2.resN (k := 0) rfl hS2 (by rw [evalS_len]), HL2.chg⟩

theorem sameI (T : TypeId) (h : Tryd.prog.underlying T = some (.int .i64)) (a : Int) (w : World) : (Op.equalIn 9999 T (.int .i64 a) (.int .i64 a)).run Tryd.prog w = .ok true w := by
  have := run_equalIn_int (P := Tryd.prog) w 9998 T .i64 .i64 a a h
  simpa using this

theorem sameG (a b c : Int) (w : World) : (Op.equalIn 10000 56 (.agg #[i64 a, i64 b, i64 c]) (.agg #[i64 a, i64 b, i64 c])).run Tryd.prog w = .ok true w := by
  rw [run_equalIn_agg _ _ _ _ _ (by kernel_rfl) (by kernel_rfl)]
  simp [Program.fieldsOf, Tryd.underlying56, Op.eqFields, part, i64, sameI _ Tryd.underlying54, sameI _ Tryd.underlying3, Result.andThen_ok]

theorem r_eqlSame56 {n : Nat} {ρ : Env} {w : World} {d : Option Nat} {t T : TypeId} {pos : String} {after : Array Edge} {g : Option (Nat × Bool)} {x y : Operand} {a b c : Int} (hx : ev n ρ x = .agg #[i64 a, i64 b, i64 c]) (hy : ev n ρ y = .agg #[i64 a, i64 b, i64 c]) : Runs Tryd.prog n ρ ⟨d, .binOp .eql 56 x y T, t, pos, after, g⟩ w (.bool true) w := by
  have h1 := run_eqGuard_agg (P := Tryd.prog) w .eql 56 x y #[i64 a, i64 b, i64 c] #[i64 a, i64 b, i64 c] gty56
  have h2 : (binOp .eql 56 (.agg #[i64 a, i64 b, i64 c]) (.agg #[i64 a, i64 b, i64 c])).run Tryd.prog w = .ok (.bool true) w := by
    rw [run_eql_struct, sameG]; rfl
  simp only [Runs, execOp, hx, hy, Sem.run_bind, h1, Result.andThen_ok, h2, Sem.run_pure]

theorem r_neqSame56 {n : Nat} {ρ : Env} {w : World} {d : Option Nat} {t T : TypeId} {pos : String} {after : Array Edge} {g : Option (Nat × Bool)} {x y : Operand} {a b c : Int} (hx : ev n ρ x = .agg #[i64 a, i64 b, i64 c]) (hy : ev n ρ y = .agg #[i64 a, i64 b, i64 c]) : Runs Tryd.prog n ρ ⟨d, .binOp .neq 56 x y T, t, pos, after, g⟩ w (.bool false) w := by
  have h1 := run_eqGuard_agg (P := Tryd.prog) w .neq 56 x y #[i64 a, i64 b, i64 c] #[i64 a, i64 b, i64 c] gty56
  have h2 : (binOp .neq 56 (.agg #[i64 a, i64 b, i64 c]) (.agg #[i64 a, i64 b, i64 c])).run Tryd.prog w = .ok (.bool false) w := by
    rw [run_neq_struct, sameG]; rfl
  simp only [Runs, execOp, hx, hy, Sem.run_bind, h1, Result.andThen_ok, h2, Sem.run_pure]

theorem own2_ok (n : Int) (gs : List Gt) (ol : List Int) (ga oa : Option Addr) (gc oc : Nat) (hgc : gs.length ≤ gc) (hoc : ol.length ≤ oc) (w : World) (hGs : Rd EG w ga gs) (hOl : Rd EI w oa ol) (hgl : gs.length ≤ 4200) (hol : ol.length ≤ 80) : Calls Tryd.prog 24 [.agg #[i64 (n), .slice ga gs.length gc, .slice oa ol.length oc]].toArray w (Ret fun v w' => OwnR n gs ol w v w' ∧ Ext w w') := by
  have h := own_ok n gs ol ga oa gc oc hgc hoc w hGs hOl
  rwa [List.take_of_length_le hgl, List.take_of_length_le hol] at h

theorem check_good (n : Int) (gs : List Gt) (ol : List Int) (ga oa : Option Addr) (gc oc : Nat) (w : World) (hG : Gl w) (hGs : Rd EG w ga gs) (hOl : Rd EI w oa ol) (hgl : gs.length ≤ 140737488355328) (hol : ol.length ≤ 140737488355328) (hb : IsC n gs ol) : Calls Tryd.prog 25 [.agg #[i64 (n), .slice ga gs.length gc, .slice oa ol.length oc]].toArray w (Ret fun v w' => v = .nilIface ∧ Ext w w') :=
  (check_ok n gs ol ga oa gc oc w hG hGs hOl hgl hol).mono fun e w' ⟨v, he, h, hE⟩ => by
    rcases h with ⟨h, _⟩ | ⟨_, h⟩
    · exact ⟨v, he, h, hE⟩
    · exact absurd hb h

theorem good_yes (n : Int) (gs : List Gt) (ol : List Int) (ga oa : Option Addr) (gc oc : Nat) (w : World) (hGs : Rd EG w ga gs) (hOl : Rd EI w oa ol) (hgl : gs.length ≤ 140737488355328) (hol : ol.length ≤ 140737488355328) (hb : IsC n gs ol) : Calls Tryd.prog 28 [i64 (n), .slice ga gs.length gc, .slice oa ol.length oc].toArray w (Ret fun v w' => v = .bool true ∧ Ext w w') :=
  (good_ok n gs ol ga oa gc oc w hGs hOl hgl hol).mono fun e w' ⟨v, he, h, hE⟩ => by
    rcases h with ⟨h, h2⟩ | ⟨h, h2⟩
    · exact ⟨v, he, h, hE⟩
    · exact absurd hb h2

theorem good_no (n : Int) (gs : List Gt) (ol : List Int) (ga oa : Option Addr) (gc oc : Nat) (w : World) (hGs : Rd EG w ga gs) (hOl : Rd EI w oa ol) (hgl : gs.length ≤ 140737488355328) (hol : ol.length ≤ 140737488355328) (hb : ¬ IsC n gs ol) : Calls Tryd.prog 28 [i64 (n), .slice ga gs.length gc, .slice oa ol.length oc].toArray w (Ret fun v w' => v = .bool false ∧ Ext w w') :=
  (good_ok n gs ol ga oa gc oc w hGs hOl hgl hol).mono fun e w' ⟨v, he, h, hE⟩ => by
    rcases h with ⟨h, h2⟩ | ⟨h, h2⟩
    · exact absurd h2 hb
    · exact ⟨v, he, h, hE⟩

set_option maxHeartbeats 4000000 in
theorem circevals_ok (n : Int) (gs : List Gt) (ol : List Int) (ga oa : Option Addr) (gc oc : Nat) (inp : List Bool) (ia : Option Addr) (ic : Nat) (hgc : gs.length ≤ gc) (hoc : ol.length ≤ oc) (w : World) (hG : Gl w) (hGs : Rd EG w ga gs) (hOl : Rd EI w oa ol) (hIn : Rd EB w ia inp) : Calls Tryd.prog 7 [.agg #[i64 (n), .slice ga gs.length gc, .slice oa ol.length oc], .slice ia inp.length ic].toArray w (Ret fun v w' => v = .bool true ∧ Ext w w') := by
  obtain ⟨g1, hg1⟩ : ∃ g1, g1 = gs.take 4200 := ⟨_, rfl⟩
  obtain ⟨l1, hl1⟩ : ∃ l1, l1 = ol.take 80 := ⟨_, rfl⟩
  have hgl1 : g1.length ≤ 4200 := by rw [hg1, List.length_take]; omega
  have hll1 : l1.length ≤ 80 := by rw [hl1, List.length_take]; omega
  have H := Hp.start No w
  refine enter (n := 132) Tryd.func7 rfl rfl (Nat.le_of_ble_eq_true rfl) ?_
  refine seqRegion ?_
  refine q_box (v := .agg #[i64 (n), .slice ga gs.length gc, .slice oa ol.length oc]) (o := .cells #[i64 (n), .slice ga gs.length gc, .slice oa ol.length oc] 48 (0, 0)) H rfl (by rfl) ?_
  intro b1 w2 hb1 H3 hE4
  refine sq (r_assign (v := .bool (false)) rfl) ?_
  refine wend ?_
  refine seqAny ?_
  refine seqRegion ?_
  refine c_call (vs := []) call23 rfl (cawake_ok w2 (Chg.gl H3.chg (fun x => x) hG)) ?_
  rintro _ w5 ⟨rfl, hE6⟩
  have H7 := H3.ext hE6
  refine sq (r_notT rfl) ?_
  refine sq (r_move (v := .bool (false)) rfl) ?_
  refine sqAny (v := .slice ia inp.length ic) (w' := w5) (wantedSome (d' := 16) (b := false) rfl rfl rfl) (r_move (v := .slice ia inp.length ic) rfl) ?_
  refine sqAny (v := i64 ((inp.length : Nat))) (w' := w5) (wantedSome (d' := 16) (b := false) rfl rfl rfl) (r_lenS sli49 (a := ia) (m := inp.length) (c := ic) rfl) ?_
  refine sqAny (v := .bool (decide (((5000 : Int) : Int) < (inp.length : Nat)))) (w' := w5) (wantedSome (d' := 16) (b := false) rfl rfl rfl) (r_gtrI (a := (inp.length : Nat)) (b := (5000 : Int)) rfl rfl) ?_
  refine sq (r_pickF (v := .bool (decide (((5000 : Int) : Int) < (inp.length : Nat)))) rfl rfl) ?_
  refine wend ?_
  refine condProp (((5000 : Int) : Int) < (inp.length : Nat)) rfl (fun c20 => ?_) (fun c20 => ?_)
  · skip
    refine seqRegion ?_
    refine c_call (vs := []) call23 rfl (cawake_ok w5 (Chg.gl H7.chg (fun x => x) hG)) ?_
    rintro _ w8 ⟨rfl, hE9⟩
    have H10 := H7.ext hE9
    refine sq (r_assign (v := .bool (true)) rfl) ?_
    refine wend ?_
    refine retAny ?_
    refine thenRet ?_
    refine retG (rs := [.tmp 4]) (vs := [.bool (true)]) rfl ⟨⟨rfl, rfl⟩, trivial⟩ ?_
    exact ⟨_, rfl, rfl, H10.chg⟩
  · skip
    refine skipAny ?_
    refine thenNormal ?_
    refine seqRegion ?_
    refine sq (r_loadA (cs' := #[i64 (n), .slice ga gs.length gc, .slice oa ol.length oc]) agg48 siz48 (H7.get (k := 0) rfl) (off := 0) rfl (by exact Nat.le_of_ble_eq_true rfl) (by rfl)) ?_
    refine c_call (vs := [.agg #[i64 (n), .slice ga gs.length gc, .slice oa ol.length oc]]) call24 rfl (own_ok n gs ol ga oa gc oc hgc hoc w5 (hGs.ext H7.chg) (hOl.ext H7.chg)) ?_
    rintro _ w11 ⟨⟨ng13, no14, kg15, cg16, spg17, ko18, co19, spo20, rfl, rfl, rfl, hSg21, hSo22, HN23⟩, hE24⟩
    rw [← hg1] at hSg21 HN23
    rw [← hl1] at hSo22 HN23
    rw [← hg1, ← hl1]
    have H25 := (H7.join HN23).as (L' := [(ko18, sob EI 3 l1 spo20), (kg15, sob EG 56 g1 spg17), (some b1, .cells #[i64 (n), .slice ga gs.length gc, .slice oa ol.length oc] 48 (0, 0))]) rfl
    refine d_store (k := 2) (v := .agg #[i64 (n), .slice (ownA kg15) g1.length cg16, .slice (ownA ko18) l1.length co19]) (cs' := #[i64 (n), .slice (ownA kg15) g1.length cg16, .slice (ownA ko18) l1.length co19]) H25 rfl rfl rfl siz48 (by rfl) (by intro u hu; simp [Value.cells] at hu; first | (subst hu; rfl) | (rcases hu with rfl | rfl | rfl <;> rfl)) (by exact Nat.le_of_ble_eq_true rfl) (by rfl) ?_
    intro w26 H27 hC28
    have H27' := H27.as (L' := [(ko18, sob EI 3 l1 spo20), (kg15, sob EG 56 g1 spg17), (some b1, .cells #[i64 (n), .slice (ownA kg15) g1.length cg16, .slice (ownA ko18) l1.length co19] 48 (0, 0))]) rfl
    clear H27
    refine wend ?_
    refine seqRegion ?_
    refine sq (r_loadA (cs' := #[i64 (n), .slice (ownA kg15) g1.length cg16, .slice (ownA ko18) l1.length co19]) agg48 siz48 (H27'.get (k := 2) rfl) (off := 0) rfl (by exact Nat.le_of_ble_eq_true rfl) (by rfl)) ?_
    refine c_call (vs := [.agg #[i64 (n), .slice (ownA kg15) g1.length cg16, .slice (ownA ko18) l1.length co19]]) call24 rfl (own2_ok n g1 l1 (ownA kg15) (ownA ko18) cg16 co19 hSg21.cap hSo22.cap w26 (H27'.rd (k := 1) rfl hSg21) (H27'.rd (k := 0) rfl hSo22) (by omega) (by omega)) ?_
    rintro _ w29 ⟨⟨ng31, no32, kg33, cg34, spg35, ko36, co37, spo38, rfl, rfl, rfl, hSg39, hSo40, HN41⟩, hE42⟩
    have H43 := (H27'.join HN41).as (L' := [(ko36, sob EI 3 l1 spo38), (kg33, sob EG 56 g1 spg35), (ko18, sob EI 3 l1 spo20), (kg15, sob EG 56 g1 spg17), (some b1, .cells #[i64 (n), .slice (ownA kg15) g1.length cg16, .slice (ownA ko18) l1.length co19] 48 (0, 0))]) rfl
    refine q_alloc (o := .cells #[i64 ((0 : Int)), .slice none 0 0, .slice none 0 0] 48 (0, 0)) H43 zer48 (by kernel_rfl) ?_
    intro b44 w45 hb44 H46 hE47
    refine d_store (k := 0) (v := .agg #[i64 (n), .slice (ownA kg33) g1.length cg34, .slice (ownA ko36) l1.length co37]) (cs' := #[i64 (n), .slice (ownA kg33) g1.length cg34, .slice (ownA ko36) l1.length co37]) H46 rfl rfl rfl siz48 (by rfl) (by intro u hu; simp [Value.cells] at hu; first | (subst hu; rfl) | (rcases hu with rfl | rfl | rfl <;> rfl)) (by exact Nat.le_of_ble_eq_true rfl) (by rfl) ?_
    intro w48 H49 hC50
    have H49' := H49.as (L' := [(some b44, .cells #[i64 (n), .slice (ownA kg33) g1.length cg34, .slice (ownA ko36) l1.length co37] 48 (0, 0)), (ko36, sob EI 3 l1 spo38), (kg33, sob EG 56 g1 spg35), (ko18, sob EI 3 l1 spo20), (kg15, sob EG 56 g1 spg17), (some b1, .cells #[i64 (n), .slice (ownA kg15) g1.length cg16, .slice (ownA ko18) l1.length co19] 48 (0, 0))]) rfl
    clear H49
    refine wend ?_
    refine seqRegion ?_
    refine q_buildSlice (E := EB) (l := []) H49' sli49 zer4 (Nat.le_of_ble_eq_true rfl) (ps := []) rfl (by exact fillAll rfl rfl) rfl ?_
    intro b51 w53 hS52 H54 hE55
    refine sq (r_move (v := .slice ia inp.length ic) rfl) ?_
    refine q_append (E := EB) (k := 0) (l := []) (l2 := inp) H54 rfl hS52 sli49 zer4 rfl byt4 (hIn.ext H54.chg) rfl (by rfl) rfl (by rfl) (by omega) ?_
    intro key56 c57 sp58 w60 hS59 hne62 H61
    have H61' := H61.as (L' := [(key56, sob EB 4 (([]) ++ inp) sp58), (some b44, .cells #[i64 (n), .slice (ownA kg33) g1.length cg34, .slice (ownA ko36) l1.length co37] 48 (0, 0)), (ko36, sob EI 3 l1 spo38), (kg33, sob EG 56 g1 spg35), (ko18, sob EI 3 l1 spo20), (kg15, sob EG 56 g1 spg17), (some b1, .cells #[i64 (n), .slice (ownA kg15) g1.length cg16, .slice (ownA ko18) l1.length co19] 48 (0, 0))]) rfl
    clear H61
    have e63 : ([]) ++ inp = inp := by rw [List.nil_append]
    have hS64 := hS59
    rw [e63] at hS64
    have H65 := H61'.as (L' := [(key56, sob EB 4 inp sp58), (some b44, .cells #[i64 (n), .slice (ownA kg33) g1.length cg34, .slice (ownA ko36) l1.length co37] 48 (0, 0)), (ko36, sob EI 3 l1 spo38), (kg33, sob EG 56 g1 spg35), (ko18, sob EI 3 l1 spo20), (kg15, sob EG 56 g1 spg17), (some b1, .cells #[i64 (n), .slice (ownA kg15) g1.length cg16, .slice (ownA ko18) l1.length co19] 48 (0, 0))]) (by rw [e63])
    refine sq (r_assign (v := .slice (ownA key56) (0 + inp.length) c57) rfl) ?_
    rw [show 0 + inp.length = inp.length from Nat.zero_add _]
    refine wend ?_
    refine seqRegion ?_
    refine sq (r_loadA (cs' := #[i64 (n), .slice (ownA kg33) g1.length cg34, .slice (ownA ko36) l1.length co37]) agg48 siz48 (H65.get (k := 1) rfl) (off := 0) rfl (by exact Nat.le_of_ble_eq_true rfl) (by rfl)) ?_
    refine sq (r_move (v := .slice (ownA key56) inp.length c57) rfl) ?_
    have := H65.lt (List.mem_of_getElem? (i := 1) rfl) rfl
    have := H65.lt (List.mem_of_getElem? (i := 6) rfl) rfl
    refine c_call (vs := [.agg #[i64 (n), .slice (ownA kg33) g1.length cg34, .slice (ownA ko36) l1.length co37], .slice (ownA key56) inp.length c57]) call26 rfl (eval_ok n g1 l1 (ownA kg33) (ownA ko36) cg34 co37 inp (ownA key56) c57 w60 (Chg.gl H65.chg (fun x => x) hG) (H65.rd (k := 3) rfl hSg39) (H65.rd (k := 2) rfl hSo40) (by omega) (by omega) (H65.rd (k := 0) rfl hS64)) ?_
    rintro _ w66 ⟨⟨hg75, hl76, _, rfl, key68, c69, sp70, rfl, hS71, hk72⟩ | ⟨v78, rfl, ⟨hg75, hEr77⟩ | ⟨hg75, hl76, hEr77⟩⟩, hE73⟩
    · skip
      rw [show (evalS g1 l1 inp).length = l1.length from evalS_len _ _ _]
      have H74 := H65.add hE73 hk72
      refine sq (r_move (v := .tuple #[.slice (ownA key68) l1.length c69, .nilIface]) rfl) ?_
      refine sq (r_extract (vs := #[.slice (ownA key68) l1.length c69, .nilIface]) rfl rfl) ?_
      refine sq (r_extract (vs := #[.slice (ownA key68) l1.length c69, .nilIface]) rfl rfl) ?_
      refine sq (r_assign (v := .slice (ownA key68) l1.length c69) rfl) ?_
      refine sq (r_assign (v := .nilIface) rfl) ?_
      refine wend ?_
      refine seqAny ?_
      refine drawAny (K := [none, none, none, some (slRel EG 78 g1 w66), none, none, none, none]) [0, 1, 0, 4, 0, 16, 63, 127] (fun w' => Ext w66 w') (fun w' w'' => Ext w' w'') mixed (by kernel_rfl) (Ext.drew _) (fun _ _ h h' => h.trans h') ?_ ?_
      · exact relAll ⟨⟨fun _ _ _ _ _ hR h => SlRes.ext h hR, fun _ _ _ _ _ h => h⟩, trivial⟩
      refine ⟨.pointer (some ⟨b1, 0, none⟩), fun _ uw81 hC82 _ => Gives.run rfl (r_fieldAddr (off' := 0) fld48_0 (by decide) (b := b1) (off := 0) rfl (by omega)) ⟨rfl, Chg.refl _ _⟩, ?_⟩
      refine ⟨i64 (n), fun _ uw83 hC84 _ => Gives.run rfl (r_loadC (v := i64 (n)) one3 ((H74.ext hC84).get (k := 7) rfl) (off := 0) rfl (by rfl)) ⟨rfl, Chg.refl _ _⟩, ?_⟩
      refine ⟨.agg #[i64 (n), .slice (ownA kg15) g1.length cg16, .slice (ownA ko18) l1.length co19], fun _ uw85 hC86 _ => Gives.run rfl (r_loadA (cs' := #[i64 (n), .slice (ownA kg15) g1.length cg16, .slice (ownA ko18) l1.length co19]) agg48 siz48 ((H74.ext hC86).get (k := 7) rfl) (off := 0) rfl (by exact Nat.le_of_ble_eq_true rfl) (by rfl)) ⟨rfl, Chg.refl _ _⟩, ?_⟩
      refine ⟨fun r uw87 hC88 hF => Gives.call rfl (Enters.callL (vs := [.agg #[i64 (n), .slice (ownA kg15) g1.length cg16, .slice (ownA ko18) l1.length co19]]) call29 rfl) ((gates_ok n g1 l1 (ownA kg15) (ownA ko18) cg16 co19 uw87 ((H74.ext hC88).rd (k := 6) rfl hSg21) (by omega)).mono fun _ _ ⟨v, h1, h2, h3⟩ => ⟨v, h1, h2.old (hC88.size), h3⟩), ?_⟩
      refine ⟨.pointer (some ⟨b1, 2, none⟩), fun _ uw89 hC90 _ => Gives.run rfl (r_fieldAddr (off' := 2) fld48_2 (by decide) (b := b1) (off := 0) rfl (by omega)) ⟨rfl, Chg.refl _ _⟩, ?_⟩
      refine ⟨.slice (ownA ko18) l1.length co19, fun _ uw91 hC92 _ => Gives.run rfl (r_loadC (v := .slice (ownA ko18) l1.length co19) one23 ((H74.ext hC92).get (k := 7) rfl) (off := 2) rfl (by rfl)) ⟨rfl, Chg.refl _ _⟩, ?_⟩
      refine ⟨.bool (true), fun _ uw93 hC94 hF => ?_, ?_⟩
      · obtain ⟨x97, c98, e95, h96⟩ := SlRes.rd (hF 3 _ rfl rfl)
        rw [show g1.length = g1.length from rfl] at e95
        exact Gives.call rfl (Enters.callL (vs := [i64 (n), .slice x97 g1.length c98, .slice (ownA ko18) l1.length co19]) call28 (by simp only [List.map]; exact (congr (congrArg List.cons rfl) (congr (congrArg List.cons e95) (congr (congrArg List.cons rfl) rfl))))) (good_yes n g1 l1 x97 (ownA ko18) c98 co19 uw93 h96 ((H74.ext hC94).rd (k := 5) rfl hSo22) (by omega) (by omega) hg75)
      refine ⟨.bool (true), fun _ uw99 hC100 _ => Gives.run rfl (r_assign (v := .bool (true)) rfl) ⟨rfl, Chg.refl _ _⟩, ?_⟩
      intro r104 w101 hE103 hF
      have H102 := H74.ext hE103
      refine wnil ?_
      refine thenNormal ?_
      refine seqAny ?_
      refine seqRegion ?_
      refine sq (r_move (v := .bool (true)) rfl) ?_
      refine sq (r_loadA (cs' := #[i64 (n), .slice (ownA kg15) g1.length cg16, .slice (ownA ko18) l1.length co19]) agg48 siz48 (H102.get (k := 7) rfl) (off := 0) rfl (by exact Nat.le_of_ble_eq_true rfl) (by rfl)) ?_
      refine c_call (vs := [.agg #[i64 (n), .slice (ownA kg15) g1.length cg16, .slice (ownA ko18) l1.length co19]]) call24 rfl (own2_ok n g1 l1 (ownA kg15) (ownA ko18) cg16 co19 hSg21.cap hSo22.cap w101 (H102.rd (k := 6) rfl hSg21) (H102.rd (k := 5) rfl hSo22) (by omega) (by omega)) ?_
      rintro _ w105 ⟨⟨ng107, no108, kg109, cg110, spg111, ko112, co113, spo114, rfl, rfl, rfl, hSg115, hSo116, HN117⟩, hE118⟩
      have H119 := (H102.join HN117).as (L' := [(ko112, sob EI 3 l1 spo114), (kg109, sob EG 56 g1 spg111), (key68, sob EB 4 (evalS g1 l1 inp) sp70), (key56, sob EB 4 inp sp58), (some b44, .cells #[i64 (n), .slice (ownA kg33) g1.length cg34, .slice (ownA ko36) l1.length co37] 48 (0, 0)), (ko36, sob EI 3 l1 spo38), (kg33, sob EG 56 g1 spg35), (ko18, sob EI 3 l1 spo20), (kg15, sob EG 56 g1 spg17), (some b1, .cells #[i64 (n), .slice (ownA kg15) g1.length cg16, .slice (ownA ko18) l1.length co19] 48 (0, 0))]) rfl
      refine c_call (vs := [.agg #[i64 (n), .slice (ownA kg109) g1.length cg110, .slice (ownA ko112) l1.length co113]]) call25 rfl (check_good n g1 l1 (ownA kg109) (ownA ko112) cg110 co113 w105 (Chg.gl H119.chg (fun x => x) hG) (H119.rd (k := 1) rfl hSg115) (H119.rd (k := 0) rfl hSo116) (by omega) (by omega) hg75) ?_
      rintro _ w120 ⟨rfl, hE121⟩
      have H122 := H119.ext hE121
      refine sq (r_eqlNN isI40 rfl rfl) ?_
      refine sq (r_neqB und4 (a := true) (b := true) rfl rfl) ?_
      refine wend ?_
      refine condFalse rfl ?_
      refine skipAny ?_
      refine thenNormal ?_
      refine seqAny ?_
      refine seqRegion ?_
      refine sq (r_move (v := .bool (true)) rfl) ?_
      refine sq (r_notT rfl) ?_
      refine wend ?_
      refine condFalse rfl ?_
      refine skipAny ?_
      refine thenNormal ?_
      refine seqRegion ?_
      refine sq (r_assign (v := i64 ((0 : Int))) rfl) ?_
      refine wend ?_
      refine seqAny ?_
      refine seqRegion ?_
      refine sq (r_fieldAddr (off' := 1) fld48_1 (by decide) (b := b1) (off := 0) rfl (by omega)) ?_
      refine sq (r_loadC (v := .slice (ownA kg15) g1.length cg16) one46 (H122.get (k := 9) rfl) (off := 1) rfl (by rfl)) ?_
      refine sq (r_lenS sli46 (a := ownA kg15) (m := g1.length) (c := cg16) rfl) ?_
      refine sq (r_move (v := i64 ((0 : Int))) rfl) ?_
      refine wend ?_
      refine blockAny ?_
      refine loopAny (σ := Nat) (fun i => [(1, .slice ia inp.length ic), (2, .pointer (some ⟨b1, 0, none⟩)), (5, .pointer (some ⟨b44, 0, none⟩)), (7, .slice (ownA key68) l1.length c69), (8, .nilIface), (10, i64 ((andsS g1 i : Nat))), (60, i64 ((g1.length : Nat))), (61, i64 ((i : Nat)))]) (fun i w' => i ≤ g1.length ∧ Hp No w w' [(ko112, sob EI 3 l1 spo114), (kg109, sob EG 56 g1 spg111), (key68, sob EB 4 (evalS g1 l1 inp) sp70), (key56, sob EB 4 inp sp58), (some b44, .cells #[i64 (n), .slice (ownA kg33) g1.length cg34, .slice (ownA ko36) l1.length co37] 48 (0, 0)), (ko36, sob EI 3 l1 spo38), (kg33, sob EG 56 g1 spg35), (ko18, sob EI 3 l1 spo20), (kg15, sob EG 56 g1 spg17), (some b1, .cells #[i64 (n), .slice (ownA kg15) g1.length cg16, .slice (ownA ko18) l1.length co19] 48 (0, 0))]) (fun i => g1.length - i) (0) ?_ ?_ ?_
      · exact ⟨rfl, rfl, rfl, rfl, rfl, rfl, rfl, rfl, trivial⟩
      · exact ⟨by omega, H122⟩
      rintro i ρ w123 ⟨hi, HL⟩
      have hle := andsS_le g1 i
      refine seqRegion ?_
      refine sq (r_lssI (a := (i : Nat)) (b := (g1.length : Nat)) rfl rfl) ?_
      refine wend ?_
      refine seqAny ?_
      refine condProp (((i : Nat) : Int) < (g1.length : Nat)) rfl (fun c62 => ?_) (fun c62 => ?_)
      · skip
        refine skipAny ?_
        refine thenNormal ?_
        refine seqAny ?_
        refine blockAny ?_
        refine seqRegion ?_
        refine sq (r_move (v := i64 ((i : Nat))) rfl) ?_
        refine sq (r_assign (v := i64 ((i : Nat))) rfl) ?_
        refine wend ?_
        refine seqAny ?_
        refine seqAny ?_
        refine drawAny (K := [none, none, none, none, none, none, none, none, none, none, none]) [0, 1, 0, 7, 15, 0, 32, 0, 224, 480, 1023] (fun w' => Ext w123 w') (fun w' w'' => Ext w' w'') mixed (by kernel_rfl) (Ext.drew _) (fun _ _ h h' => h.trans h') ?_ ?_
        · exact relNone (by decide)
        refine ⟨.pointer (some ⟨b44, 1, none⟩), fun _ uw125 hC126 _ => Gives.run rfl (r_fieldAddr (off' := 1) fld48_1 (by decide) (b := b44) (off := 0) rfl (by omega)) ⟨rfl, Chg.refl _ _⟩, ?_⟩
        refine ⟨.slice (ownA kg33) g1.length cg34, fun _ uw127 hC128 _ => Gives.run rfl (r_loadC (v := .slice (ownA kg33) g1.length cg34) one46 ((HL.ext hC128).get (k := 4) rfl) (off := 1) rfl (by rfl)) ⟨rfl, Chg.refl _ _⟩, ?_⟩
        refine ⟨i64 ((i : Nat)), fun _ uw129 hC130 _ => Gives.run rfl (r_move (v := i64 ((i : Nat))) rfl) ⟨rfl, Chg.refl _ _⟩, ?_⟩
        refine ⟨.pointer (adr (ownA kg33) (i * 3)), fun _ uw131 hC132 _ => Gives.run rfl (r_idxS (E := EG) (l := g1) (j := i) sli46 ((HL.ext hC132).rd (k := 6) rfl hSg39) rfl rfl (by first | rfl | omega | (simp; omega)) (by rfl) (by omega)) ⟨rfl, Chg.refl _ _⟩, ?_⟩
        refine ⟨.agg #[i64 (((g1).getD i g0).k), i64 (((g1).getD i g0).a), i64 (((g1).getD i g0).b)], fun _ uw133 hC134 _ => Gives.run rfl ((r_ldS (E := EG) (l := g1) (j := i) (v := (g1).getD i g0) fits56 ((HL.ext hC134).rd (k := 6) rfl hSg39) rfl rfl (at_getD (by omega))).as (v' := .agg #[i64 (((g1).getD i g0).k), i64 (((g1).getD i g0).a), i64 (((g1).getD i g0).b)]) rfl) ⟨rfl, Chg.refl _ _⟩, ?_⟩
        refine ⟨.pointer (some ⟨b1, 1, none⟩), fun _ uw135 hC136 _ => Gives.run rfl (r_fieldAddr (off' := 1) fld48_1 (by decide) (b := b1) (off := 0) rfl (by omega)) ⟨rfl, Chg.refl _ _⟩, ?_⟩
        refine ⟨.slice (ownA kg15) g1.length cg16, fun _ uw137 hC138 _ => Gives.run rfl (r_loadC (v := .slice (ownA kg15) g1.length cg16) one46 ((HL.ext hC138).get (k := 9) rfl) (off := 1) rfl (by rfl)) ⟨rfl, Chg.refl _ _⟩, ?_⟩
        refine ⟨i64 ((i : Nat)), fun _ uw139 hC140 _ => Gives.run rfl (r_move (v := i64 ((i : Nat))) rfl) ⟨rfl, Chg.refl _ _⟩, ?_⟩
        refine ⟨.pointer (adr (ownA kg15) (i * 3)), fun _ uw141 hC142 _ => Gives.run rfl (r_idxS (E := EG) (l := g1) (j := i) sli46 ((HL.ext hC142).rd (k := 8) rfl hSg21) rfl rfl (by first | rfl | omega | (simp; omega)) (by rfl) (by omega)) ⟨rfl, Chg.refl _ _⟩, ?_⟩
        refine ⟨.agg #[i64 (((g1).getD i g0).k), i64 (((g1).getD i g0).a), i64 (((g1).getD i g0).b)], fun _ uw143 hC144 _ => Gives.run rfl ((r_ldS (E := EG) (l := g1) (j := i) (v := (g1).getD i g0) fits56 ((HL.ext hC144).rd (k := 8) rfl hSg21) rfl rfl (at_getD (by omega))).as (v' := .agg #[i64 (((g1).getD i g0).k), i64 (((g1).getD i g0).a), i64 (((g1).getD i g0).b)]) rfl) ⟨rfl, Chg.refl _ _⟩, ?_⟩
        refine ⟨.bool (false), fun _ uw145 hC146 _ => Gives.run rfl (r_neqSame56 rfl rfl) ⟨rfl, Chg.refl _ _⟩, ?_⟩
        intro r150 w147 hE149 hF
        have H148 := HL.ext hE149
        refine wnil ?_
        refine thenNormal ?_
        refine condFalse rfl ?_
        refine skipAny ?_
        refine thenNormal ?_
        refine seqRegion ?_
        refine sq (r_fieldAddr (off' := 1) fld48_1 (by decide) (b := b1) (off := 0) rfl (by omega)) ?_
        refine sq (r_loadC (v := .slice (ownA kg15) g1.length cg16) one46 (H148.get (k := 9) rfl) (off := 1) rfl (by rfl)) ?_
        refine sq (r_move (v := i64 ((i : Nat))) rfl) ?_
        refine sq (r_idxS (E := EG) (l := g1) (j := i) sli46 (H148.rd (k := 8) rfl hSg21) rfl rfl (by first | rfl | omega | (simp; omega)) (by rfl) (by omega)) ?_
        refine sq (r_fieldS (E := EG) (l := g1) fld56_0 (by decide) (H148.rd (k := 8) rfl hSg21) (by omega) rfl rfl) ?_
        refine sq (r_ldP (E := EG) (l := g1) (j := i) (o := 0) (v := (g1.getD i g0)) (u := i64 ((g1.getD i g0).k)) one54 (H148.rd (k := 8) rfl hSg21) (at_getD (by omega)) rfl rfl rfl) ?_
        refine sq (r_eqlI (a := (g1.getD i g0).k) (b := (2 : Int)) rfl rfl) ?_
        refine wend ?_
        refine condProp (((g1.getD i g0).k : Int) = (2 : Int)) rfl (fun c81 => ?_) (fun c81 => ?_)
        · skip
          refine oneRegion ?_
          refine sq (r_move (v := i64 ((andsS g1 i : Nat))) rfl) ?_
          refine sq (r_addI (a := (andsS g1 i : Nat)) (b := (1 : Int)) rfl rfl (by omega)) ?_
          refine sq (r_assign (v := i64 ((andsS g1 i : Nat) + (1 : Int))) rfl) ?_
          refine wnil ?_
          refine blockNormal ?_
          refine thenNormal ?_
          refine oneRegion ?_
          refine sq (r_addI (a := (i : Nat)) (b := (1 : Int)) rfl rfl (by omega)) ?_
          refine sq (r_move (v := i64 ((i : Nat) + (1 : Int))) rfl) ?_
          refine wnil ?_
          refine thenNormal ?_
          exact ⟨i + 1, _, rfl, ⟨rfl, rfl, rfl, rfl, rfl, congrArg i64 (by rw [andsS, if_pos c81]; rfl), rfl, rfl, trivial⟩, ⟨by omega, H148⟩, by show g1.length - (i + 1) < g1.length - i; omega⟩
        · skip
          refine skipAny ?_
          refine blockNormal ?_
          refine thenNormal ?_
          refine oneRegion ?_
          refine sq (r_addI (a := (i : Nat)) (b := (1 : Int)) rfl rfl (by omega)) ?_
          refine sq (r_move (v := i64 ((i : Nat) + (1 : Int))) rfl) ?_
          refine wnil ?_
          refine thenNormal ?_
          exact ⟨i + 1, _, rfl, ⟨rfl, rfl, rfl, rfl, rfl, congrArg i64 (by rw [andsS, if_neg c81]), rfl, rfl, trivial⟩, ⟨by omega, H148⟩, by show g1.length - (i + 1) < g1.length - i; omega⟩
      · skip
        obtain rfl : i = g1.length := by omega
        refine exitAny ?_
        refine thenExit ?_
        refine thenExit ?_
        refine blockHere ?_
        refine thenNormal ?_
        refine seqAny ?_
        refine seqRegion ?_
        refine sq (r_loadA (cs' := #[i64 (n), .slice (ownA kg15) g1.length cg16, .slice (ownA ko18) l1.length co19]) agg48 siz48 (HL.get (k := 9) rfl) (off := 0) rfl (by exact Nat.le_of_ble_eq_true rfl) (by rfl)) ?_
        refine c_call (vs := [.agg #[i64 (n), .slice (ownA kg15) g1.length cg16, .slice (ownA ko18) l1.length co19]]) call27 rfl (ands_ok n g1 l1 (ownA kg15) (ownA ko18) cg16 co19 w123 (HL.rd (k := 8) rfl hSg21) (by omega)) ?_
        rintro _ w151 ⟨rfl, hE152⟩
        have H153 := HL.ext hE152
        refine sq (r_move (v := i64 ((andsS g1 g1.length : Nat))) rfl) ?_
        refine sq ((r_neqI (a := (andsS g1 g1.length : Nat)) (b := (andsS g1 g1.length : Nat)) rfl rfl).as (v' := .bool (false)) (by simp)) ?_
        refine wend ?_
        refine condFalse rfl ?_
        refine skipAny ?_
        refine thenNormal ?_
        refine seqAny ?_
        refine seqRegion ?_
        refine sq (r_move (v := .slice ia inp.length ic) rfl) ?_
        refine sq (r_lenS sli49 (a := ia) (m := inp.length) (c := ic) rfl) ?_
        refine sq (r_fieldAddr (off' := 0) fld48_0 (by decide) (b := b1) (off := 0) rfl (by omega)) ?_
        refine sq (r_loadC (v := i64 (n)) one3 (H153.get (k := 9) rfl) (off := 0) rfl (by rfl)) ?_
        refine sq (r_neqI (a := (inp.length : Nat)) (b := n) rfl rfl) ?_
        refine wend ?_
        refine condProp (((inp.length : Nat) : Int) ≠ n) rfl (fun c93 => ?_) (fun c93 => ?_)
        · skip
          exfalso
          omega
        · skip
          refine skipAny ?_
          refine thenNormal ?_
          refine seqAny ?_
          refine drawAny (K := [none, some (slRel EG 78 g1 w151), none, none, none, some (slRel EB 4 (evalS g1 l1 inp) w151)]) [0, 1, 0, 4, 0, 31, 63] (fun w' => Ext w151 w') (fun w' w'' => Ext w' w'') mixed (by kernel_rfl) (Ext.drew _) (fun _ _ h h' => h.trans h') ?_ ?_
          · exact relAll ⟨⟨fun _ _ _ _ _ hR h => SlRes.ext h hR, fun _ _ _ _ _ h => h⟩, ⟨fun _ _ _ _ _ hR h => SlRes.ext h hR, fun _ _ _ _ _ h => h⟩, trivial⟩
          refine ⟨.agg #[i64 (n), .slice (ownA kg15) g1.length cg16, .slice (ownA ko18) l1.length co19], fun _ uw154 hC155 _ => Gives.run rfl (r_loadA (cs' := #[i64 (n), .slice (ownA kg15) g1.length cg16, .slice (ownA ko18) l1.length co19]) agg48 siz48 ((H153.ext hC155).get (k := 9) rfl) (off := 0) rfl (by exact Nat.le_of_ble_eq_true rfl) (by rfl)) ⟨rfl, Chg.refl _ _⟩, ?_⟩
          refine ⟨fun r uw156 hC157 hF => Gives.call rfl (Enters.callL (vs := [.agg #[i64 (n), .slice (ownA kg15) g1.length cg16, .slice (ownA ko18) l1.length co19]]) call29 rfl) ((gates_ok n g1 l1 (ownA kg15) (ownA ko18) cg16 co19 uw156 ((H153.ext hC157).rd (k := 8) rfl hSg21) (by omega)).mono fun _ _ ⟨v, h1, h2, h3⟩ => ⟨v, h1, h2.old (hC157.size), h3⟩), ?_⟩
          refine ⟨.pointer (some ⟨b1, 2, none⟩), fun _ uw158 hC159 _ => Gives.run rfl (r_fieldAddr (off' := 2) fld48_2 (by decide) (b := b1) (off := 0) rfl (by omega)) ⟨rfl, Chg.refl _ _⟩, ?_⟩
          refine ⟨.slice (ownA ko18) l1.length co19, fun _ uw160 hC161 _ => Gives.run rfl (r_loadC (v := .slice (ownA ko18) l1.length co19) one23 ((H153.ext hC161).get (k := 9) rfl) (off := 2) rfl (by rfl)) ⟨rfl, Chg.refl _ _⟩, ?_⟩
          refine ⟨.slice ia inp.length ic, fun _ uw162 hC163 _ => Gives.run rfl (r_move (v := .slice ia inp.length ic) rfl) ⟨rfl, Chg.refl _ _⟩, ?_⟩
          refine ⟨fun r uw164 hC165 hF => ?_, ?_⟩
          · obtain ⟨x168, c169, e166, h167⟩ := SlRes.rd (hF 1 _ rfl rfl)
            rw [show g1.length = g1.length from rfl] at e166
            exact Gives.call rfl (Enters.callL (vs := [.slice x168 g1.length c169, .slice (ownA ko18) l1.length co19, .slice ia inp.length ic]) call31 (by simp only [List.map]; exact (congr (congrArg List.cons e166) (congr (congrArg List.cons rfl) (congr (congrArg List.cons rfl) rfl))))) ((reval_ok n g1 l1 x168 (ownA ko18) c169 co19 inp ia ic uw164 h167 ((H153.ext hC165).rd (k := 7) rfl hSo22) (hIn.ext (H153.ext hC165).chg) hg75 hl76).mono fun _ _ ⟨v, h1, h2, h3⟩ => ⟨v, h1, h2.old (hC165.size), h3⟩)
          intro r173 w170 hE172 hF
          have H171 := H153.ext hE172
          obtain ⟨key177, c178, sp179, e174, hS175, H176⟩ := Hp.ownSl H153 hE172 (hF 5 _ rfl)
          rw [show (evalS g1 l1 inp).length = l1.length from evalS_len _ _ _] at e174
          dsimp only
          rw [e174]
          refine sq (r_assign (v := .slice (ownA key177) l1.length c178) rfl) ?_
          refine wnil ?_
          refine thenNormal ?_
          refine seqAny ?_
          refine seqRegion ?_
          refine sq (r_move (v := .nilIface) rfl) ?_
          refine sq (r_neqNN isI40 rfl rfl) ?_
          refine sq (r_move (v := .bool (false)) rfl) ?_
          refine sqAny (v := .slice (ownA key68) l1.length c69) (w' := w170) (wantedSome (d' := 110) (b := false) rfl rfl rfl) (r_move (v := .slice (ownA key68) l1.length c69) rfl) ?_
          refine sqAny (v := i64 ((l1.length : Nat))) (w' := w170) (wantedSome (d' := 110) (b := false) rfl rfl rfl) (r_lenS sli49 (a := ownA key68) (m := l1.length) (c := c69) rfl) ?_
          refine sqAny (v := .slice (ownA key177) l1.length c178) (w' := w170) (wantedSome (d' := 110) (b := false) rfl rfl rfl) (r_move (v := .slice (ownA key177) l1.length c178) rfl) ?_
          refine sqAny (v := i64 ((l1.length : Nat))) (w' := w170) (wantedSome (d' := 110) (b := false) rfl rfl rfl) (r_lenS sli49 (a := ownA key177) (m := l1.length) (c := c178) rfl) ?_
          refine sqAny (v := .bool (false)) (w' := w170) (wantedSome (d' := 110) (b := false) rfl rfl rfl) ((r_neqI (a := (l1.length : Nat)) (b := (l1.length : Nat)) rfl rfl).as (v' := .bool (false)) (by simp)) ?_
          refine sq (r_pickF (v := .bool (false)) rfl rfl) ?_
          refine wend ?_
          refine condFalse rfl ?_
          refine skipAny ?_
          refine thenNormal ?_
          refine seqAny ?_
          refine seqRegion ?_
          refine sq (r_move (v := .slice (ownA key177) l1.length c178) rfl) ?_
          refine sq (r_lenS sli49 (a := ownA key177) (m := l1.length) (c := c178) rfl) ?_
          refine sq (r_move (v := i64 ((0 : Int))) rfl) ?_
          refine wend ?_
          refine blockAny ?_
          refine loopAny (σ := Nat) (fun q => [(7, .slice (ownA key68) l1.length c69), (12, .slice (ownA key177) l1.length c178), (118, i64 ((l1.length : Nat))), (119, i64 ((q : Nat)))]) (fun q w' => q ≤ l1.length ∧ Hp No w w' [(key177, sob EB 4 (evalS g1 l1 inp) sp179), (ko112, sob EI 3 l1 spo114), (kg109, sob EG 56 g1 spg111), (key68, sob EB 4 (evalS g1 l1 inp) sp70), (key56, sob EB 4 inp sp58), (some b44, .cells #[i64 (n), .slice (ownA kg33) g1.length cg34, .slice (ownA ko36) l1.length co37] 48 (0, 0)), (ko36, sob EI 3 l1 spo38), (kg33, sob EG 56 g1 spg35), (ko18, sob EI 3 l1 spo20), (kg15, sob EG 56 g1 spg17), (some b1, .cells #[i64 (n), .slice (ownA kg15) g1.length cg16, .slice (ownA ko18) l1.length co19] 48 (0, 0))]) (fun q => l1.length - q) (0) ?_ ?_ ?_
          · exact ⟨rfl, rfl, rfl, rfl, trivial⟩
          · exact ⟨by omega, H176⟩
          rintro q ρ w180 ⟨hq, HL3⟩
          have hvl := evalS_len g1 l1 inp
          refine seqRegion ?_
          refine sq (r_lssI (a := (q : Nat)) (b := (l1.length : Nat)) rfl rfl) ?_
          refine wend ?_
          refine seqAny ?_
          refine condProp (((q : Nat) : Int) < (l1.length : Nat)) rfl (fun c120 => ?_) (fun c120 => ?_)
          · skip
            refine skipAny ?_
            refine thenNormal ?_
            refine seqAny ?_
            refine blockAny ?_
            refine seqRegion ?_
            refine sq (r_move (v := i64 ((q : Nat))) rfl) ?_
            refine sq (r_assign (v := i64 ((q : Nat))) rfl) ?_
            refine wend ?_
            refine seqAny ?_
            refine drawAny (K := [none, none, none, none, none, none, none, none, none]) [0, 0, 3, 7, 0, 0, 48, 112, 255] (fun w' => Ext w180 w') (fun w' w'' => Ext w' w'') mixed (by kernel_rfl) (Ext.drew _) (fun _ _ h h' => h.trans h') ?_ ?_
            · exact relNone (by decide)
            refine ⟨.slice (ownA key68) l1.length c69, fun _ uw182 hC183 _ => Gives.run rfl (r_move (v := .slice (ownA key68) l1.length c69) rfl) ⟨rfl, Chg.refl _ _⟩, ?_⟩
            refine ⟨i64 ((q : Nat)), fun _ uw184 hC185 _ => Gives.run rfl (r_move (v := i64 ((q : Nat))) rfl) ⟨rfl, Chg.refl _ _⟩, ?_⟩
            refine ⟨.pointer (adr (ownA key68) (q * 1)), fun _ uw186 hC187 _ => Gives.run rfl (r_idxS (E := EB) (l := evalS g1 l1 inp) (j := q) sli49 ((HL3.ext hC187).rd (k := 3) rfl hS71) rfl rfl (by first | rfl | omega | (simp; omega)) (by exact (evalS_len _ _ _).symm) (by omega)) ⟨rfl, Chg.refl _ _⟩, ?_⟩
            refine ⟨.bool ((evalS g1 l1 inp).getD q false), fun _ uw188 hC189 _ => Gives.run rfl (r_ldS (E := EB) (l := evalS g1 l1 inp) (j := q) (v := (evalS g1 l1 inp).getD q false) fits4 ((HL3.ext hC189).rd (k := 3) rfl hS71) rfl rfl (at_getD (by omega))) ⟨rfl, Chg.refl _ _⟩, ?_⟩
            refine ⟨.slice (ownA key177) l1.length c178, fun _ uw190 hC191 _ => Gives.run rfl (r_move (v := .slice (ownA key177) l1.length c178) rfl) ⟨rfl, Chg.refl _ _⟩, ?_⟩
            refine ⟨i64 ((q : Nat)), fun _ uw192 hC193 _ => Gives.run rfl (r_move (v := i64 ((q : Nat))) rfl) ⟨rfl, Chg.refl _ _⟩, ?_⟩
            refine ⟨.pointer (adr (ownA key177) (q * 1)), fun _ uw194 hC195 _ => Gives.run rfl (r_idxS (E := EB) (l := evalS g1 l1 inp) (j := q) sli49 ((HL3.ext hC195).rd (k := 0) rfl hS175) rfl rfl (by first | rfl | omega | (simp; omega)) (by exact (evalS_len _ _ _).symm) (by omega)) ⟨rfl, Chg.refl _ _⟩, ?_⟩
            refine ⟨.bool ((evalS g1 l1 inp).getD q false), fun _ uw196 hC197 _ => Gives.run rfl (r_ldS (E := EB) (l := evalS g1 l1 inp) (j := q) (v := (evalS g1 l1 inp).getD q false) fits4 ((HL3.ext hC197).rd (k := 0) rfl hS175) rfl rfl (at_getD (by omega))) ⟨rfl, Chg.refl _ _⟩, ?_⟩
            refine ⟨.bool (false), fun _ uw198 hC199 _ => Gives.run rfl ((r_neqB und4 (a := (evalS g1 l1 inp).getD q false) (b := (evalS g1 l1 inp).getD q false) rfl rfl).as (v' := .bool (false)) (by simp)) ⟨rfl, Chg.refl _ _⟩, ?_⟩
            intro r203 w200 hE202 hF
            have H201 := HL3.ext hE202
            refine wnil ?_
            refine thenNormal ?_
            refine condFalse rfl ?_
            refine skipAny ?_
            refine blockNormal ?_
            refine thenNormal ?_
            refine oneRegion ?_
            refine sq (r_addI (a := (q : Nat)) (b := (1 : Int)) rfl rfl (by omega)) ?_
            refine sq (r_move (v := i64 ((q : Nat) + (1 : Int))) rfl) ?_
            refine wnil ?_
            refine thenNormal ?_
            exact ⟨q + 1, _, rfl, ⟨rfl, rfl, rfl, rfl, trivial⟩, ⟨by omega, H201⟩, by show l1.length - (q + 1) < l1.length - q; omega⟩
          · skip
            refine exitAny ?_
            refine thenExit ?_
            refine thenExit ?_
            refine blockHere ?_
            refine thenNormal ?_
            refine seqRegion ?_
            refine sq (r_assign (v := .bool (true)) rfl) ?_
            refine wend ?_
            refine retAny ?_
            refine retG (rs := [.tmp 4]) (vs := [.bool (true)]) rfl ⟨⟨rfl, rfl⟩, trivial⟩ ?_
            exact ⟨_, rfl, rfl, HL3.chg⟩
    · skip
      have H74 := H65.ext hE73
      obtain ⟨T79, x80, rfl⟩ := hEr77.iface
      refine sq (r_move (v := .tuple #[.slice none 0 0, .iface T79 (x80)]) rfl) ?_
      refine sq (r_extract (vs := #[.slice none 0 0, .iface T79 (x80)]) rfl rfl) ?_
      refine sq (r_extract (vs := #[.slice none 0 0, .iface T79 (x80)]) rfl rfl) ?_
      refine sq (r_assign (v := .slice none 0 0) rfl) ?_
      refine sq (r_assign (v := .iface T79 (x80)) rfl) ?_
      refine wend ?_
      refine seqAny ?_
      refine drawAny (K := [none, none, none, some (slRel EG 78 g1 w66), none, none, none, none]) [0, 1, 0, 4, 0, 16, 63, 127] (fun w' => Ext w66 w') (fun w' w'' => Ext w' w'') mixed (by kernel_rfl) (Ext.drew _) (fun _ _ h h' => h.trans h') ?_ ?_
      · exact relAll ⟨⟨fun _ _ _ _ _ hR h => SlRes.ext h hR, fun _ _ _ _ _ h => h⟩, trivial⟩
      refine ⟨.pointer (some ⟨b1, 0, none⟩), fun _ uw204 hC205 _ => Gives.run rfl (r_fieldAddr (off' := 0) fld48_0 (by decide) (b := b1) (off := 0) rfl (by omega)) ⟨rfl, Chg.refl _ _⟩, ?_⟩
      refine ⟨i64 (n), fun _ uw206 hC207 _ => Gives.run rfl (r_loadC (v := i64 (n)) one3 ((H74.ext hC207).get (k := 6) rfl) (off := 0) rfl (by rfl)) ⟨rfl, Chg.refl _ _⟩, ?_⟩
      refine ⟨.agg #[i64 (n), .slice (ownA kg15) g1.length cg16, .slice (ownA ko18) l1.length co19], fun _ uw208 hC209 _ => Gives.run rfl (r_loadA (cs' := #[i64 (n), .slice (ownA kg15) g1.length cg16, .slice (ownA ko18) l1.length co19]) agg48 siz48 ((H74.ext hC209).get (k := 6) rfl) (off := 0) rfl (by exact Nat.le_of_ble_eq_true rfl) (by rfl)) ⟨rfl, Chg.refl _ _⟩, ?_⟩
      refine ⟨fun r uw210 hC211 hF => Gives.call rfl (Enters.callL (vs := [.agg #[i64 (n), .slice (ownA kg15) g1.length cg16, .slice (ownA ko18) l1.length co19]]) call29 rfl) ((gates_ok n g1 l1 (ownA kg15) (ownA ko18) cg16 co19 uw210 ((H74.ext hC211).rd (k := 5) rfl hSg21) (by omega)).mono fun _ _ ⟨v, h1, h2, h3⟩ => ⟨v, h1, h2.old (hC211.size), h3⟩), ?_⟩
      refine ⟨.pointer (some ⟨b1, 2, none⟩), fun _ uw212 hC213 _ => Gives.run rfl (r_fieldAddr (off' := 2) fld48_2 (by decide) (b := b1) (off := 0) rfl (by omega)) ⟨rfl, Chg.refl _ _⟩, ?_⟩
      refine ⟨.slice (ownA ko18) l1.length co19, fun _ uw214 hC215 _ => Gives.run rfl (r_loadC (v := .slice (ownA ko18) l1.length co19) one23 ((H74.ext hC215).get (k := 6) rfl) (off := 2) rfl (by rfl)) ⟨rfl, Chg.refl _ _⟩, ?_⟩
      refine ⟨.bool (false), fun _ uw216 hC217 hF => ?_, ?_⟩
      · obtain ⟨x220, c221, e218, h219⟩ := SlRes.rd (hF 3 _ rfl rfl)
        rw [show g1.length = g1.length from rfl] at e218
        exact Gives.call rfl (Enters.callL (vs := [i64 (n), .slice x220 g1.length c221, .slice (ownA ko18) l1.length co19]) call28 (by simp only [List.map]; exact (congr (congrArg List.cons rfl) (congr (congrArg List.cons e218) (congr (congrArg List.cons rfl) rfl))))) (good_no n g1 l1 x220 (ownA ko18) c221 co19 uw216 h219 ((H74.ext hC217).rd (k := 4) rfl hSo22) (by omega) (by omega) hg75)
      refine ⟨.bool (false), fun _ uw222 hC223 _ => Gives.run rfl (r_assign (v := .bool (false)) rfl) ⟨rfl, Chg.refl _ _⟩, ?_⟩
      intro r227 w224 hE226 hF
      have H225 := H74.ext hE226
      refine wnil ?_
      refine thenNormal ?_
      refine seqAny ?_
      refine seqRegion ?_
      refine sq (r_move (v := .bool (false)) rfl) ?_
      refine sq (r_loadA (cs' := #[i64 (n), .slice (ownA kg15) g1.length cg16, .slice (ownA ko18) l1.length co19]) agg48 siz48 (H225.get (k := 6) rfl) (off := 0) rfl (by exact Nat.le_of_ble_eq_true rfl) (by rfl)) ?_
      refine c_call (vs := [.agg #[i64 (n), .slice (ownA kg15) g1.length cg16, .slice (ownA ko18) l1.length co19]]) call24 rfl (own2_ok n g1 l1 (ownA kg15) (ownA ko18) cg16 co19 hSg21.cap hSo22.cap w224 (H225.rd (k := 5) rfl hSg21) (H225.rd (k := 4) rfl hSo22) (by omega) (by omega)) ?_
      rintro _ w228 ⟨⟨ng230, no231, kg232, cg233, spg234, ko235, co236, spo237, rfl, rfl, rfl, hSg238, hSo239, HN240⟩, hE241⟩
      have H242 := (H225.join HN240).as (L' := [(ko235, sob EI 3 l1 spo237), (kg232, sob EG 56 g1 spg234), (key56, sob EB 4 inp sp58), (some b44, .cells #[i64 (n), .slice (ownA kg33) g1.length cg34, .slice (ownA ko36) l1.length co37] 48 (0, 0)), (ko36, sob EI 3 l1 spo38), (kg33, sob EG 56 g1 spg35), (ko18, sob EI 3 l1 spo20), (kg15, sob EG 56 g1 spg17), (some b1, .cells #[i64 (n), .slice (ownA kg15) g1.length cg16, .slice (ownA ko18) l1.length co19] 48 (0, 0))]) rfl
      have := H242.lt (List.mem_of_getElem? (i := 3) rfl) rfl
      have := H242.lt (List.mem_of_getElem? (i := 8) rfl) rfl
      refine c_call (vs := [.agg #[i64 (n), .slice (ownA kg232) g1.length cg233, .slice (ownA ko235) l1.length co236]]) call25 rfl (check_bad n g1 l1 (ownA kg232) (ownA ko235) cg233 co236 w228 (Chg.gl H242.chg (fun x => x) hG) (H242.rd (k := 1) rfl hSg238) (H242.rd (k := 0) rfl hSo239) (by omega) (by omega) (hg75)) ?_
      rintro v245 w243 ⟨hEr248, hE246⟩
      have H247 := H242.ext hE246
      obtain ⟨T249, x250, rfl⟩ := hEr248.iface
      refine sq (r_eqlIN isI40 rfl rfl) ?_
      refine sq (r_neqB und4 (a := false) (b := false) rfl rfl) ?_
      refine wend ?_
      refine condFalse rfl ?_
      refine skipAny ?_
      refine thenNormal ?_
      refine seqAny ?_
      refine seqRegion ?_
      refine sq (r_move (v := .bool (false)) rfl) ?_
      refine sq (r_notF rfl) ?_
      refine wend ?_
      refine condTrue rfl ?_
      refine seqRegion ?_
      refine sq (r_move (v := .slice none 0 0) rfl) ?_
      refine sq (r_lenS sli49 (a := none) (m := 0) (c := 0) rfl) ?_
      refine sq ((r_eqlI (a := (0 : Nat)) (b := (0 : Int)) rfl rfl).as (v' := .bool (true)) (by rfl)) ?_
      refine sq (r_move (v := .bool (true)) rfl) ?_
      refine sqAny (v := .iface T79 (x80)) (w' := w243) (wantedSome (d' := 53) (b := true) rfl rfl rfl) (r_move (v := .iface T79 (x80)) rfl) ?_
      refine caAny (wantedSome (d' := 53) (b := true) rfl rfl rfl) (Enters.callL (vs := [.iface T79 (x80)]) call30 rfl) (code_ok 90 1 w60.heap.size (.iface T79 (x80)) w243 (Chg.gl H247.chg (fun x => x) hG) ((((hEr77.ext hE226).ext hE241).ext hE246))) ?_
      rintro _ w251 ⟨rfl, hE252⟩
      have H253 := H247.ext hE252
      refine sqAny (v := .bool (true)) (w' := w251) (wantedSome (d' := 53) (b := true) rfl rfl rfl) ((r_eqlI (a := 90) (b := (90 : Int)) rfl rfl).as (v' := .bool (true)) (by rfl)) ?_
      refine sq (r_pickT (u := .bool (true)) rfl rfl) ?_
      refine sq (r_assign (v := .bool (true)) rfl) ?_
      refine wend ?_
      refine retAny ?_
      refine thenRet ?_
      refine retG (rs := [.tmp 4]) (vs := [.bool (true)]) rfl ⟨⟨rfl, rfl⟩, trivial⟩ ?_
      exact ⟨_, rfl, rfl, H253.chg⟩
    · skip
      have H74 := H65.ext hE73
      obtain ⟨T79, x80, rfl⟩ := hEr77.iface
      refine sq (r_move (v := .tuple #[.slice none 0 0, .iface T79 (x80)]) rfl) ?_
      refine sq (r_extract (vs := #[.slice none 0 0, .iface T79 (x80)]) rfl rfl) ?_
      refine sq (r_extract (vs := #[.slice none 0 0, .iface T79 (x80)]) rfl rfl) ?_
      refine sq (r_assign (v := .slice none 0 0) rfl) ?_
      refine sq (r_assign (v := .iface T79 (x80)) rfl) ?_
      refine wend ?_
      refine seqAny ?_
      refine drawAny (K := [none, none, none, some (slRel EG 78 g1 w66), none, none, none, none]) [0, 1, 0, 4, 0, 16, 63, 127] (fun w' => Ext w66 w') (fun w' w'' => Ext w' w'') mixed (by kernel_rfl) (Ext.drew _) (fun _ _ h h' => h.trans h') ?_ ?_
      · exact relAll ⟨⟨fun _ _ _ _ _ hR h => SlRes.ext h hR, fun _ _ _ _ _ h => h⟩, trivial⟩
      refine ⟨.pointer (some ⟨b1, 0, none⟩), fun _ uw254 hC255 _ => Gives.run rfl (r_fieldAddr (off' := 0) fld48_0 (by decide) (b := b1) (off := 0) rfl (by omega)) ⟨rfl, Chg.refl _ _⟩, ?_⟩
      refine ⟨i64 (n), fun _ uw256 hC257 _ => Gives.run rfl (r_loadC (v := i64 (n)) one3 ((H74.ext hC257).get (k := 6) rfl) (off := 0) rfl (by rfl)) ⟨rfl, Chg.refl _ _⟩, ?_⟩
      refine ⟨.agg #[i64 (n), .slice (ownA kg15) g1.length cg16, .slice (ownA ko18) l1.length co19], fun _ uw258 hC259 _ => Gives.run rfl (r_loadA (cs' := #[i64 (n), .slice (ownA kg15) g1.length cg16, .slice (ownA ko18) l1.length co19]) agg48 siz48 ((H74.ext hC259).get (k := 6) rfl) (off := 0) rfl (by exact Nat.le_of_ble_eq_true rfl) (by rfl)) ⟨rfl, Chg.refl _ _⟩, ?_⟩
      refine ⟨fun r uw260 hC261 hF => Gives.call rfl (Enters.callL (vs := [.agg #[i64 (n), .slice (ownA kg15) g1.length cg16, .slice (ownA ko18) l1.length co19]]) call29 rfl) ((gates_ok n g1 l1 (ownA kg15) (ownA ko18) cg16 co19 uw260 ((H74.ext hC261).rd (k := 5) rfl hSg21) (by omega)).mono fun _ _ ⟨v, h1, h2, h3⟩ => ⟨v, h1, h2.old (hC261.size), h3⟩), ?_⟩
      refine ⟨.pointer (some ⟨b1, 2, none⟩), fun _ uw262 hC263 _ => Gives.run rfl (r_fieldAddr (off' := 2) fld48_2 (by decide) (b := b1) (off := 0) rfl (by omega)) ⟨rfl, Chg.refl _ _⟩, ?_⟩
      refine ⟨.slice (ownA ko18) l1.length co19, fun _ uw264 hC265 _ => Gives.run rfl (r_loadC (v := .slice (ownA ko18) l1.length co19) one23 ((H74.ext hC265).get (k := 6) rfl) (off := 2) rfl (by rfl)) ⟨rfl, Chg.refl _ _⟩, ?_⟩
      refine ⟨.bool (true), fun _ uw266 hC267 hF => ?_, ?_⟩
      · obtain ⟨x270, c271, e268, h269⟩ := SlRes.rd (hF 3 _ rfl rfl)
        rw [show g1.length = g1.length from rfl] at e268
        exact Gives.call rfl (Enters.callL (vs := [i64 (n), .slice x270 g1.length c271, .slice (ownA ko18) l1.length co19]) call28 (by simp only [List.map]; exact (congr (congrArg List.cons rfl) (congr (congrArg List.cons e268) (congr (congrArg List.cons rfl) rfl))))) (good_yes n g1 l1 x270 (ownA ko18) c271 co19 uw266 h269 ((H74.ext hC267).rd (k := 4) rfl hSo22) (by omega) (by omega) hg75)
      refine ⟨.bool (true), fun _ uw272 hC273 _ => Gives.run rfl (r_assign (v := .bool (true)) rfl) ⟨rfl, Chg.refl _ _⟩, ?_⟩
      intro r277 w274 hE276 hF
      have H275 := H74.ext hE276
      refine wnil ?_
      refine thenNormal ?_
      refine seqAny ?_
      refine seqRegion ?_
      refine sq (r_move (v := .bool (true)) rfl) ?_
      refine sq (r_loadA (cs' := #[i64 (n), .slice (ownA kg15) g1.length cg16, .slice (ownA ko18) l1.length co19]) agg48 siz48 (H275.get (k := 6) rfl) (off := 0) rfl (by exact Nat.le_of_ble_eq_true rfl) (by rfl)) ?_
      refine c_call (vs := [.agg #[i64 (n), .slice (ownA kg15) g1.length cg16, .slice (ownA ko18) l1.length co19]]) call24 rfl (own2_ok n g1 l1 (ownA kg15) (ownA ko18) cg16 co19 hSg21.cap hSo22.cap w274 (H275.rd (k := 5) rfl hSg21) (H275.rd (k := 4) rfl hSo22) (by omega) (by omega)) ?_
      rintro _ w278 ⟨⟨ng280, no281, kg282, cg283, spg284, ko285, co286, spo287, rfl, rfl, rfl, hSg288, hSo289, HN290⟩, hE291⟩
      have H292 := (H275.join HN290).as (L' := [(ko285, sob EI 3 l1 spo287), (kg282, sob EG 56 g1 spg284), (key56, sob EB 4 inp sp58), (some b44, .cells #[i64 (n), .slice (ownA kg33) g1.length cg34, .slice (ownA ko36) l1.length co37] 48 (0, 0)), (ko36, sob EI 3 l1 spo38), (kg33, sob EG 56 g1 spg35), (ko18, sob EI 3 l1 spo20), (kg15, sob EG 56 g1 spg17), (some b1, .cells #[i64 (n), .slice (ownA kg15) g1.length cg16, .slice (ownA ko18) l1.length co19] 48 (0, 0))]) rfl
      refine c_call (vs := [.agg #[i64 (n), .slice (ownA kg282) g1.length cg283, .slice (ownA ko285) l1.length co286]]) call25 rfl (check_good n g1 l1 (ownA kg282) (ownA ko285) cg283 co286 w278 (Chg.gl H292.chg (fun x => x) hG) (H292.rd (k := 1) rfl hSg288) (H292.rd (k := 0) rfl hSo289) (by omega) (by omega) hg75) ?_
      rintro _ w293 ⟨rfl, hE294⟩
      have H295 := H292.ext hE294
      refine sq (r_eqlNN isI40 rfl rfl) ?_
      refine sq (r_neqB und4 (a := true) (b := true) rfl rfl) ?_
      refine wend ?_
      refine condFalse rfl ?_
      refine skipAny ?_
      refine thenNormal ?_
      refine seqAny ?_
      refine seqRegion ?_
      refine sq (r_move (v := .bool (true)) rfl) ?_
      refine sq (r_notT rfl) ?_
      refine wend ?_
      refine condFalse rfl ?_
      refine skipAny ?_
      refine thenNormal ?_
      refine seqRegion ?_
      refine sq (r_assign (v := i64 ((0 : Int))) rfl) ?_
      refine wend ?_
      refine seqAny ?_
      refine seqRegion ?_
      refine sq (r_fieldAddr (off' := 1) fld48_1 (by decide) (b := b1) (off := 0) rfl (by omega)) ?_
      refine sq (r_loadC (v := .slice (ownA kg15) g1.length cg16) one46 (H295.get (k := 8) rfl) (off := 1) rfl (by rfl)) ?_
      refine sq (r_lenS sli46 (a := ownA kg15) (m := g1.length) (c := cg16) rfl) ?_
      refine sq (r_move (v := i64 ((0 : Int))) rfl) ?_
      refine wend ?_
      refine blockAny ?_
      refine loopAny (σ := Nat) (fun i => [(1, .slice ia inp.length ic), (2, .pointer (some ⟨b1, 0, none⟩)), (5, .pointer (some ⟨b44, 0, none⟩)), (7, .slice none 0 0), (8, .iface T79 (x80)), (10, i64 ((andsS g1 i : Nat))), (60, i64 ((g1.length : Nat))), (61, i64 ((i : Nat)))]) (fun i w' => i ≤ g1.length ∧ Er (w60.heap.size) w' 1 1 (.iface T79 (x80)) ∧ Hp No w w' [(ko285, sob EI 3 l1 spo287), (kg282, sob EG 56 g1 spg284), (key56, sob EB 4 inp sp58), (some b44, .cells #[i64 (n), .slice (ownA kg33) g1.length cg34, .slice (ownA ko36) l1.length co37] 48 (0, 0)), (ko36, sob EI 3 l1 spo38), (kg33, sob EG 56 g1 spg35), (ko18, sob EI 3 l1 spo20), (kg15, sob EG 56 g1 spg17), (some b1, .cells #[i64 (n), .slice (ownA kg15) g1.length cg16, .slice (ownA ko18) l1.length co19] 48 (0, 0))]) (fun i => g1.length - i) (0) ?_ ?_ ?_
      · exact ⟨rfl, rfl, rfl, rfl, rfl, rfl, rfl, rfl, trivial⟩
      · exact ⟨by omega, (((hEr77.ext hE276).ext hE291).ext hE294), H295⟩
      rintro i ρ w296 ⟨hi, hErL, HL⟩
      have hle := andsS_le g1 i
      refine seqRegion ?_
      refine sq (r_lssI (a := (i : Nat)) (b := (g1.length : Nat)) rfl rfl) ?_
      refine wend ?_
      refine seqAny ?_
      refine condProp (((i : Nat) : Int) < (g1.length : Nat)) rfl (fun c62 => ?_) (fun c62 => ?_)
      · skip
        refine skipAny ?_
        refine thenNormal ?_
        refine seqAny ?_
        refine blockAny ?_
        refine seqRegion ?_
        refine sq (r_move (v := i64 ((i : Nat))) rfl) ?_
        refine sq (r_assign (v := i64 ((i : Nat))) rfl) ?_
        refine wend ?_
        refine seqAny ?_
        refine seqAny ?_
        refine drawAny (K := [none, none, none, none, none, none, none, none, none, none, none]) [0, 1, 0, 7, 15, 0, 32, 0, 224, 480, 1023] (fun w' => Ext w296 w') (fun w' w'' => Ext w' w'') mixed (by kernel_rfl) (Ext.drew _) (fun _ _ h h' => h.trans h') ?_ ?_
        · exact relNone (by decide)
        refine ⟨.pointer (some ⟨b44, 1, none⟩), fun _ uw298 hC299 _ => Gives.run rfl (r_fieldAddr (off' := 1) fld48_1 (by decide) (b := b44) (off := 0) rfl (by omega)) ⟨rfl, Chg.refl _ _⟩, ?_⟩
        refine ⟨.slice (ownA kg33) g1.length cg34, fun _ uw300 hC301 _ => Gives.run rfl (r_loadC (v := .slice (ownA kg33) g1.length cg34) one46 ((HL.ext hC301).get (k := 3) rfl) (off := 1) rfl (by rfl)) ⟨rfl, Chg.refl _ _⟩, ?_⟩
        refine ⟨i64 ((i : Nat)), fun _ uw302 hC303 _ => Gives.run rfl (r_move (v := i64 ((i : Nat))) rfl) ⟨rfl, Chg.refl _ _⟩, ?_⟩
        refine ⟨.pointer (adr (ownA kg33) (i * 3)), fun _ uw304 hC305 _ => Gives.run rfl (r_idxS (E := EG) (l := g1) (j := i) sli46 ((HL.ext hC305).rd (k := 5) rfl hSg39) rfl rfl (by first | rfl | omega | (simp; omega)) (by rfl) (by omega)) ⟨rfl, Chg.refl _ _⟩, ?_⟩
        refine ⟨.agg #[i64 (((g1).getD i g0).k), i64 (((g1).getD i g0).a), i64 (((g1).getD i g0).b)], fun _ uw306 hC307 _ => Gives.run rfl ((r_ldS (E := EG) (l := g1) (j := i) (v := (g1).getD i g0) fits56 ((HL.ext hC307).rd (k := 5) rfl hSg39) rfl rfl (at_getD (by omega))).as (v' := .agg #[i64 (((g1).getD i g0).k), i64 (((g1).getD i g0).a), i64 (((g1).getD i g0).b)]) rfl) ⟨rfl, Chg.refl _ _⟩, ?_⟩
        refine ⟨.pointer (some ⟨b1, 1, none⟩), fun _ uw308 hC309 _ => Gives.run rfl (r_fieldAddr (off' := 1) fld48_1 (by decide) (b := b1) (off := 0) rfl (by omega)) ⟨rfl, Chg.refl _ _⟩, ?_⟩
        refine ⟨.slice (ownA kg15) g1.length cg16, fun _ uw310 hC311 _ => Gives.run rfl (r_loadC (v := .slice (ownA kg15) g1.length cg16) one46 ((HL.ext hC311).get (k := 8) rfl) (off := 1) rfl (by rfl)) ⟨rfl, Chg.refl _ _⟩, ?_⟩
        refine ⟨i64 ((i : Nat)), fun _ uw312 hC313 _ => Gives.run rfl (r_move (v := i64 ((i : Nat))) rfl) ⟨rfl, Chg.refl _ _⟩, ?_⟩
        refine ⟨.pointer (adr (ownA kg15) (i * 3)), fun _ uw314 hC315 _ => Gives.run rfl (r_idxS (E := EG) (l := g1) (j := i) sli46 ((HL.ext hC315).rd (k := 7) rfl hSg21) rfl rfl (by first | rfl | omega | (simp; omega)) (by rfl) (by omega)) ⟨rfl, Chg.refl _ _⟩, ?_⟩
        refine ⟨.agg #[i64 (((g1).getD i g0).k), i64 (((g1).getD i g0).a), i64 (((g1).getD i g0).b)], fun _ uw316 hC317 _ => Gives.run rfl ((r_ldS (E := EG) (l := g1) (j := i) (v := (g1).getD i g0) fits56 ((HL.ext hC317).rd (k := 7) rfl hSg21) rfl rfl (at_getD (by omega))).as (v' := .agg #[i64 (((g1).getD i g0).k), i64 (((g1).getD i g0).a), i64 (((g1).getD i g0).b)]) rfl) ⟨rfl, Chg.refl _ _⟩, ?_⟩
        refine ⟨.bool (false), fun _ uw318 hC319 _ => Gives.run rfl (r_neqSame56 rfl rfl) ⟨rfl, Chg.refl _ _⟩, ?_⟩
        intro r323 w320 hE322 hF
        have H321 := HL.ext hE322
        refine wnil ?_
        refine thenNormal ?_
        refine condFalse rfl ?_
        refine skipAny ?_
        refine thenNormal ?_
        refine seqRegion ?_
        refine sq (r_fieldAddr (off' := 1) fld48_1 (by decide) (b := b1) (off := 0) rfl (by omega)) ?_
        refine sq (r_loadC (v := .slice (ownA kg15) g1.length cg16) one46 (H321.get (k := 8) rfl) (off := 1) rfl (by rfl)) ?_
        refine sq (r_move (v := i64 ((i : Nat))) rfl) ?_
        refine sq (r_idxS (E := EG) (l := g1) (j := i) sli46 (H321.rd (k := 7) rfl hSg21) rfl rfl (by first | rfl | omega | (simp; omega)) (by rfl) (by omega)) ?_
        refine sq (r_fieldS (E := EG) (l := g1) fld56_0 (by decide) (H321.rd (k := 7) rfl hSg21) (by omega) rfl rfl) ?_
        refine sq (r_ldP (E := EG) (l := g1) (j := i) (o := 0) (v := (g1.getD i g0)) (u := i64 ((g1.getD i g0).k)) one54 (H321.rd (k := 7) rfl hSg21) (at_getD (by omega)) rfl rfl rfl) ?_
        refine sq (r_eqlI (a := (g1.getD i g0).k) (b := (2 : Int)) rfl rfl) ?_
        refine wend ?_
        refine condProp (((g1.getD i g0).k : Int) = (2 : Int)) rfl (fun c81 => ?_) (fun c81 => ?_)
        · skip
          refine oneRegion ?_
          refine sq (r_move (v := i64 ((andsS g1 i : Nat))) rfl) ?_
          refine sq (r_addI (a := (andsS g1 i : Nat)) (b := (1 : Int)) rfl rfl (by omega)) ?_
          refine sq (r_assign (v := i64 ((andsS g1 i : Nat) + (1 : Int))) rfl) ?_
          refine wnil ?_
          refine blockNormal ?_
          refine thenNormal ?_
          refine oneRegion ?_
          refine sq (r_addI (a := (i : Nat)) (b := (1 : Int)) rfl rfl (by omega)) ?_
          refine sq (r_move (v := i64 ((i : Nat) + (1 : Int))) rfl) ?_
          refine wnil ?_
          refine thenNormal ?_
          exact ⟨i + 1, _, rfl, ⟨rfl, rfl, rfl, rfl, rfl, congrArg i64 (by rw [andsS, if_pos c81]; rfl), rfl, rfl, trivial⟩, ⟨by omega, (hErL.ext hE322), H321⟩, by show g1.length - (i + 1) < g1.length - i; omega⟩
        · skip
          refine skipAny ?_
          refine blockNormal ?_
          refine thenNormal ?_
          refine oneRegion ?_
          refine sq (r_addI (a := (i : Nat)) (b := (1 : Int)) rfl rfl (by omega)) ?_
          refine sq (r_move (v := i64 ((i : Nat) + (1 : Int))) rfl) ?_
          refine wnil ?_
          refine thenNormal ?_
          exact ⟨i + 1, _, rfl, ⟨rfl, rfl, rfl, rfl, rfl, congrArg i64 (by rw [andsS, if_neg c81]), rfl, rfl, trivial⟩, ⟨by omega, (hErL.ext hE322), H321⟩, by show g1.length - (i + 1) < g1.length - i; omega⟩
      · skip
        obtain rfl : i = g1.length := by omega
        refine exitAny ?_
        refine thenExit ?_
        refine thenExit ?_
        refine blockHere ?_
        refine thenNormal ?_
        refine seqAny ?_
        refine seqRegion ?_
        refine sq (r_loadA (cs' := #[i64 (n), .slice (ownA kg15) g1.length cg16, .slice (ownA ko18) l1.length co19]) agg48 siz48 (HL.get (k := 8) rfl) (off := 0) rfl (by exact Nat.le_of_ble_eq_true rfl) (by rfl)) ?_
        refine c_call (vs := [.agg #[i64 (n), .slice (ownA kg15) g1.length cg16, .slice (ownA ko18) l1.length co19]]) call27 rfl (ands_ok n g1 l1 (ownA kg15) (ownA ko18) cg16 co19 w296 (HL.rd (k := 7) rfl hSg21) (by omega)) ?_
        rintro _ w324 ⟨rfl, hE325⟩
        have H326 := HL.ext hE325
        refine sq (r_move (v := i64 ((andsS g1 g1.length : Nat))) rfl) ?_
        refine sq ((r_neqI (a := (andsS g1 g1.length : Nat)) (b := (andsS g1 g1.length : Nat)) rfl rfl).as (v' := .bool (false)) (by simp)) ?_
        refine wend ?_
        refine condFalse rfl ?_
        refine skipAny ?_
        refine thenNormal ?_
        refine seqAny ?_
        refine seqRegion ?_
        refine sq (r_move (v := .slice ia inp.length ic) rfl) ?_
        refine sq (r_lenS sli49 (a := ia) (m := inp.length) (c := ic) rfl) ?_
        refine sq (r_fieldAddr (off' := 0) fld48_0 (by decide) (b := b1) (off := 0) rfl (by omega)) ?_
        refine sq (r_loadC (v := i64 (n)) one3 (H326.get (k := 8) rfl) (off := 0) rfl (by rfl)) ?_
        refine sq (r_neqI (a := (inp.length : Nat)) (b := n) rfl rfl) ?_
        refine wend ?_
        refine condProp (((inp.length : Nat) : Int) ≠ n) rfl (fun c93 => ?_) (fun c93 => ?_)
        · skip
          refine seqRegion ?_
          refine sq (r_move (v := .slice none 0 0) rfl) ?_
          refine sq (r_lenS sli49 (a := none) (m := 0) (c := 0) rfl) ?_
          refine sq ((r_eqlI (a := (0 : Nat)) (b := (0 : Int)) rfl rfl).as (v' := .bool (true)) (by rfl)) ?_
          refine sq (r_move (v := .bool (true)) rfl) ?_
          refine sqAny (v := .iface T79 (x80)) (w' := w324) (wantedSome (d' := 97) (b := true) rfl rfl rfl) (r_move (v := .iface T79 (x80)) rfl) ?_
          refine caAny (wantedSome (d' := 97) (b := true) rfl rfl rfl) (Enters.callL (vs := [.iface T79 (x80)]) call30 rfl) (code_ok 1 1 w60.heap.size (.iface T79 (x80)) w324 (Chg.gl H326.chg (fun x => x) hG) ((hErL.ext hE325))) ?_
          rintro _ w327 ⟨rfl, hE328⟩
          have H329 := H326.ext hE328
          refine sqAny (v := .bool (true)) (w' := w327) (wantedSome (d' := 97) (b := true) rfl rfl rfl) ((r_eqlI (a := 1) (b := (1 : Int)) rfl rfl).as (v' := .bool (true)) (by rfl)) ?_
          refine sq (r_pickT (u := .bool (true)) rfl rfl) ?_
          refine sq (r_assign (v := .bool (true)) rfl) ?_
          refine wend ?_
          refine retAny ?_
          refine thenRet ?_
          refine retG (rs := [.tmp 4]) (vs := [.bool (true)]) rfl ⟨⟨rfl, rfl⟩, trivial⟩ ?_
          exact ⟨_, rfl, rfl, H329.chg⟩
        · skip
          exfalso
          omega
end Go.Proofs.YtkclklnfohaheaaDoor.Er
