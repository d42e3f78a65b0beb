/- The walks of the garbled circuits. -/
import Derived.Test.YteofdmdpaejgaaaDoorGarb6
namespace Go.Proofs.YteofdmdpaejgaaaDoor.Gb
open Go Go.Proofs.YteofdmdpaejgaaaDoor.Vc Go.Proofs.YteofdmdpaejgaaaDoor.Er Go.Proofs.YteofdmdpaejgaaaDoor.Circ
set_option linter.unusedVariables false
theorem agg94 : isAgg' Tryd.prog 94 = true := by kernel_rfl
theorem call41 : callable Tryd.prog 41 = true := by kernel_rfl
theorem call42 : callable Tryd.prog 42 = true := by kernel_rfl
theorem call43 : callable Tryd.prog 43 = true := by kernel_rfl
theorem call44 : callable Tryd.prog 44 = true := by kernel_rfl
theorem call47 : callable Tryd.prog 47 = true := by kernel_rfl
theorem fld94_0 : fld Tryd.prog 94 0 = some (0, 2, 38) := by kernel_rfl
theorem fld94_2 : fld Tryd.prog 94 2 = some (3, 1, 32) := by kernel_rfl
theorem siz32 : siz Tryd.prog 32 = some 1 := by kernel_rfl
theorem siz94 : siz Tryd.prog 94 = some 4 := by kernel_rfl
theorem siz97 : siz Tryd.prog 97 = some 1 := by kernel_rfl
set_option maxHeartbeats 1000000 in
theorem gfree_good (n : Int) (gs : List Gt) (ol : List Int) (ga oa : Option Addr) (gc oc : Nat) (δ : Lb) (zs : List Lb) (za : Option Addr) (zc : Nat) (first : BitVec 64) (hgc : gs.length ≤ gc) (hoc : ol.length ≤ oc) (hzc : zs.length ≤ zc) (w : World) (hG : Gl w) (hGs : Rd EG w ga gs) (hOl : Rd EI w oa ol) (hZ : Rd ELb w za zs) (hzs : zs.length ≤ 140737488355328) (h1s : gs.length ≤ 60) (h2s : n ≤ 200) (hg : IsC n (frL (gs.take 4200) (gs.take 4200).length) (ol.take 80)) : Calls Tryd.prog 9 [.agg #[i64 (n), .slice ga gs.length gc, .slice oa ol.length oc], .agg #[u64 (δ.1), u64 (δ.2), .slice za zs.length zc, u64 (first)]].toArray w (Ret fun v w' => v = .bool true ∧ Ext w w') := by
  obtain ⟨g1, hg1⟩ : ∃ g1, g1 = gs.take 4200 := ⟨_, rfl⟩
  obtain ⟨l1, hl1⟩ : ∃ l1, l1 = ol.take 80 := ⟨_, rfl⟩
  have hgl1 : g1.length ≤ 60 := by rw [hg1, List.length_take]; omega
  have hll1 : l1.length ≤ 80 := by rw [hl1, List.length_take]; omega
  rw [← hg1, ← hl1] at hg
  have H := Hp.start No w
  refine enter (n := 122) Tryd.func9 rfl rfl (Nat.le_of_ble_eq_true rfl) ?_
  refine seqRegion ?_
  refine q_box (v := .agg #[i64 (n), .slice ga gs.length gc, .slice oa ol.length oc]) (o := .cells #[i64 (n), .slice ga gs.length gc, .slice oa ol.length oc] 70 (0, 0)) H rfl (by rfl) ?_
  intro b1 w2 hb1 H3 hE4
  refine q_box (v := .agg #[u64 (δ.1), u64 (δ.2), .slice za zs.length zc, u64 (first)]) (o := .cells #[u64 (δ.1), u64 (δ.2), .slice za zs.length zc, u64 (first)] 94 (0, 0)) H3 rfl (by rfl) ?_
  intro b5 w6 hb5 H7 hE8
  refine sq (r_assign (v := .bool (false)) rfl) ?_
  refine wend ?_
  refine seqAny ?_
  refine seqRegion ?_
  refine c_call (vs := []) call41 rfl (gawake_ok w6 (Chg.gl H7.chg (fun x => x) hG)) ?_
  rintro _ w9 ⟨rfl, hE10⟩
  have H11 := H7.ext hE10
  refine sq (r_notT rfl) ?_
  refine sq (r_move (v := .bool (false)) rfl) ?_
  refine sqAny (v := .agg #[i64 (n), .slice ga gs.length gc, .slice oa ol.length oc]) (w' := w9) (wantedSome (d' := 17) (b := false) rfl rfl rfl) (r_loadA (cs' := #[i64 (n), .slice ga gs.length gc, .slice oa ol.length oc]) agg70 siz70 (H11.get (k := 1) rfl) (off := 0) rfl (by exact Nat.le_of_ble_eq_true rfl) (by rfl)) ?_
  refine caAny (wantedSome (d' := 17) (b := false) rfl rfl rfl) (Enters.callL (vs := [.agg #[i64 (n), .slice ga gs.length gc, .slice oa ol.length oc]]) call42 rfl) (small_yes n gs ol ga oa gc oc w9 h1s h2s) ?_
  rintro _ w12 ⟨rfl, hE13⟩
  have H14 := H11.ext hE13
  refine sqAny (v := .bool (false)) (w' := w12) (wantedSome (d' := 17) (b := false) rfl rfl rfl) (r_notT rfl) ?_
  refine sq (r_pickF (v := .bool (false)) rfl rfl) ?_
  refine wend ?_
  refine condFalse rfl ?_
  refine skipAny ?_
  refine thenNormal ?_
  refine seqRegion ?_
  refine sq (r_loadA (cs' := #[i64 (n), .slice ga gs.length gc, .slice oa ol.length oc]) agg70 siz70 (H14.get (k := 1) rfl) (off := 0) rfl (by exact Nat.le_of_ble_eq_true rfl) (by rfl)) ?_
  refine c_call (vs := [.agg #[i64 (n), .slice ga gs.length gc, .slice oa ol.length oc]]) call43 rfl (own_ok n gs ol ga oa gc oc hgc hoc w12 (hGs.ext H14.chg) (hOl.ext H14.chg)) ?_
  rintro _ w15 ⟨⟨ng17, no18, kg19, cg20, spg21, ko22, co23, spo24, rfl, rfl, rfl, hSg25, hSo26, HN27⟩, hE28⟩
  rw [← hg1] at hSg25 HN27
  rw [← hl1] at hSo26 HN27
  rw [← hg1, ← hl1]
  have H29 := (H14.join HN27).as (L' := [(ko22, sob EI 3 l1 spo24), (kg19, sob EG 99 g1 spg21), (some b5, .cells #[u64 (δ.1), u64 (δ.2), .slice za zs.length zc, u64 (first)] 94 (0, 0)), (some b1, .cells #[i64 (n), .slice ga gs.length gc, .slice oa ol.length oc] 70 (0, 0))]) rfl
  refine d_store (k := 3) (v := .agg #[i64 (n), .slice (ownA kg19) g1.length cg20, .slice (ownA ko22) l1.length co23]) (cs' := #[i64 (n), .slice (ownA kg19) g1.length cg20, .slice (ownA ko22) l1.length co23]) H29 rfl rfl rfl siz70 (by rfl) (by intro u hu; simp [Value.cells] at hu; first | (subst hu; rfl) | (rcases hu with rfl | rfl | rfl <;> rfl)) (by exact Nat.le_of_ble_eq_true rfl) (by rfl) ?_
  intro w30 H31 hC32
  have H31' := H31.as (L' := [(ko22, sob EI 3 l1 spo24), (kg19, sob EG 99 g1 spg21), (some b5, .cells #[u64 (δ.1), u64 (δ.2), .slice za zs.length zc, u64 (first)] 94 (0, 0)), (some b1, .cells #[i64 (n), .slice (ownA kg19) g1.length cg20, .slice (ownA ko22) l1.length co23] 70 (0, 0))]) rfl
  clear H31
  refine wend ?_
  refine seqAny ?_
  refine seqRegion ?_
  refine sq (r_fieldAddr (off' := 1) fld70_1 (by decide) (b := b1) (off := 0) rfl (by omega)) ?_
  refine sq (r_loadC (v := .slice (ownA kg19) g1.length cg20) one68 (H31'.get (k := 3) rfl) (off := 1) rfl (by rfl)) ?_
  refine sq (r_lenS sli68 (a := ownA kg19) (m := g1.length) (c := cg20) rfl) ?_
  refine sq (r_move (v := i64 ((0 : Int))) rfl) ?_
  refine wend ?_
  refine blockAny ?_
  refine loopAny (σ := Nat) (fun i => [(2, .pointer (some ⟨b1, 0, none⟩)), (3, .pointer (some ⟨b5, 0, none⟩)), (27, i64 ((g1.length : Nat))), (28, i64 ((i : Nat)))]) (fun i w' => (i ≤ g1.length ∧ Sl EG kg19 (frL g1 i) cg20 spg21) ∧ Hp No w w' [(ko22, sob EI 3 l1 spo24), (kg19, sob EG 99 (frL g1 i) spg21), (some b5, .cells #[u64 (δ.1), u64 (δ.2), .slice za zs.length zc, u64 (first)] 94 (0, 0)), (some b1, .cells #[i64 (n), .slice (ownA kg19) g1.length cg20, .slice (ownA ko22) l1.length co23] 70 (0, 0))]) (fun i => g1.length - i) (0) ?_ ?_ ?_
  · exact ⟨rfl, rfl, rfl, rfl, trivial⟩
  · exact ⟨⟨Nat.zero_le _, hSg25⟩, H31'⟩
  rintro i ρ w33 ⟨⟨hi, h1⟩, HL⟩
  have hfl := frL_len g1 i
  refine seqRegion ?_
  refine sq (r_lssI (a := (i : Nat)) (b := (g1.length : Nat)) rfl rfl) ?_
  refine wend ?_
  refine seqAny ?_
  refine condProp (((i : Nat) : Int) < (g1.length : Nat)) rfl (fun c29 => ?_) (fun c29 => ?_)
  · skip
    refine skipAny ?_
    refine thenNormal ?_
    refine seqAny ?_
    refine blockAny ?_
    refine seqRegion ?_
    refine sq (r_move (v := i64 ((i : Nat))) rfl) ?_
    refine sq (r_assign (v := i64 ((i : Nat))) rfl) ?_
    refine wend ?_
    refine seqRegion ?_
    refine sq (r_fieldAddr (off' := 1) fld70_1 (by decide) (b := b1) (off := 0) rfl (by omega)) ?_
    refine sq (r_loadC (v := .slice (ownA kg19) g1.length cg20) one68 (HL.get (k := 3) rfl) (off := 1) rfl (by rfl)) ?_
    refine sq (r_move (v := i64 ((i : Nat))) rfl) ?_
    refine sq (r_idxS (E := EG) (l := frL g1 i) (j := i) sli68 (HL.rd (k := 1) rfl h1) rfl rfl (by first | rfl | omega | (simp; omega)) (by exact (frL_len _ _).symm) (by omega)) ?_
    refine sq (r_fieldS (E := EG) (l := frL g1 i) fld99_0 (by decide) (HL.rd (k := 1) rfl h1) (by omega) rfl rfl) ?_
    refine sq (r_ldP (E := EG) (l := frL g1 i) (j := i) (o := 0) (v := ((frL g1 i).getD i g0)) (u := i64 (((frL g1 i).getD i g0).k)) one97 (HL.rd (k := 1) rfl h1) (at_getD (by omega)) rfl rfl rfl) ?_
    refine sq (r_eqlI (a := ((frL g1 i).getD i g0).k) (b := (2 : Int)) rfl rfl) ?_
    refine wend ?_
    refine condProp ((((frL g1 i).getD i g0).k : Int) = (2 : Int)) rfl (fun c37 => ?_) (fun c37 => ?_)
    · skip
      refine oneRegion ?_
      refine sq (r_fieldAddr (off' := 1) fld70_1 (by decide) (b := b1) (off := 0) rfl (by omega)) ?_
      refine sq (r_loadC (v := .slice (ownA kg19) g1.length cg20) one68 (HL.get (k := 3) rfl) (off := 1) rfl (by rfl)) ?_
      refine sq (r_move (v := i64 ((i : Nat))) rfl) ?_
      refine sq (r_idxS (E := EG) (l := frL g1 i) (j := i) sli68 (HL.rd (k := 1) rfl h1) rfl rfl (by first | rfl | omega | (simp; omega)) (by exact (frL_len _ _).symm) (by omega)) ?_
      refine sq (r_fieldS (E := EG) (l := frL g1 i) fld99_0 (by decide) (HL.rd (k := 1) rfl h1) (by omega) rfl rfl) ?_
      refine d_storeP (E := EG) (k := 1) (l := frL g1 i) (j := i) (o := 0) (a := ((frL g1 i).getD i g0)) (b := (⟨(1 : Int), ((frL g1 i).getD i g0).a, ((frL g1 i).getD i g0).b⟩ : Gt)) (v := i64 ((1 : Int))) HL rfl h1 rfl rfl rfl siz97 rfl rfl (by decide) rfl (at_getD (by omega)) ?_
      intro w36 hS35 H37
      have H37' := H37.as (L' := [(ko22, sob EI 3 l1 spo24), (kg19, sob EG 99 ((frL g1 i).set i (⟨(1 : Int), ((frL g1 i).getD i g0).a, ((frL g1 i).getD i g0).b⟩ : Gt)) spg21), (some b5, .cells #[u64 (δ.1), u64 (δ.2), .slice za zs.length zc, u64 (first)] 94 (0, 0)), (some b1, .cells #[i64 (n), .slice (ownA kg19) g1.length cg20, .slice (ownA ko22) l1.length co23] 70 (0, 0))]) rfl
      clear H37
      refine wnil ?_
      refine blockNormal ?_
      refine thenNormal ?_
      refine oneRegion ?_
      refine sq (r_addI (a := (i : Nat)) (b := (1 : Int)) rfl rfl (by omega)) ?_
      refine sq (r_move (v := i64 ((i : Nat) + (1 : Int))) rfl) ?_
      refine wnil ?_
      refine thenNormal ?_
      have e38 : (frL g1 i).set i (⟨(1 : Int), ((frL g1 i).getD i g0).a, ((frL g1 i).getD i g0).b⟩ : Gt) = frL g1 (i + 1) := by rw [frL, if_pos c37]
      have hS39 := hS35
      rw [e38] at hS39
      have H40 := H37'.as (L' := [(ko22, sob EI 3 l1 spo24), (kg19, sob EG 99 (frL g1 (i + 1)) spg21), (some b5, .cells #[u64 (δ.1), u64 (δ.2), .slice za zs.length zc, u64 (first)] 94 (0, 0)), (some b1, .cells #[i64 (n), .slice (ownA kg19) g1.length cg20, .slice (ownA ko22) l1.length co23] 70 (0, 0))]) (by rw [e38])
      exact ⟨i + 1, _, rfl, ⟨rfl, rfl, rfl, rfl, trivial⟩, ⟨⟨by omega, hS39⟩, H40⟩, by show g1.length - (i + 1) < g1.length - i; omega⟩
    · skip
      refine skipAny ?_
      refine blockNormal ?_
      refine thenNormal ?_
      refine oneRegion ?_
      refine sq (r_addI (a := (i : Nat)) (b := (1 : Int)) rfl rfl (by omega)) ?_
      refine sq (r_move (v := i64 ((i : Nat) + (1 : Int))) rfl) ?_
      refine wnil ?_
      refine thenNormal ?_
      have e41 : frL g1 i = frL g1 (i + 1) := by rw [frL, if_neg c37]
      have hS42 := h1
      rw [e41] at hS42
      have H43 := HL.as (L' := [(ko22, sob EI 3 l1 spo24), (kg19, sob EG 99 (frL g1 (i + 1)) spg21), (some b5, .cells #[u64 (δ.1), u64 (δ.2), .slice za zs.length zc, u64 (first)] 94 (0, 0)), (some b1, .cells #[i64 (n), .slice (ownA kg19) g1.length cg20, .slice (ownA ko22) l1.length co23] 70 (0, 0))]) (by rw [e41])
      exact ⟨i + 1, _, rfl, ⟨rfl, rfl, rfl, rfl, trivial⟩, ⟨⟨by omega, hS42⟩, H43⟩, by show g1.length - (i + 1) < g1.length - i; omega⟩
  · skip
    obtain rfl : i = g1.length := by omega
    have hfr0 := frL_no g1 g1.length (Nat.le_refl _)
    obtain ⟨g2, hg2⟩ : ∃ x, x = frL g1 g1.length := ⟨_, rfl⟩
    have hl2 : g1.length = g2.length := by rw [hg2, frL_len]
    rw [← hg2] at HL h1 hg hfr0
    rw [hl2] at HL hfr0 hgl1 ⊢
    have hand : andsS g2 g2.length = 0 := ands_free _ hfr0
    have hlo := hg.lo
    refine exitAny ?_
    refine thenExit ?_
    refine thenExit ?_
    refine blockHere ?_
    refine thenNormal ?_
    refine seqRegion ?_
    refine sq (r_fieldAddr (off' := 0) fld94_0 (by decide) (b := b5) (off := 0) rfl (by omega)) ?_
    refine sq (r_indexA (off' := 0) (j := 0) arr38 (b := b5) (off := 0) rfl rfl (by first | rfl | omega | (simp; omega)) (by omega) (by omega)) ?_
    refine sq (r_loadC (v := u64 (δ.1)) one32 (HL.get (k := 2) rfl) (off := 0) rfl (by rfl)) ?_
    refine sq (r_or64 (a := δ.1) (b := 1#64) rfl rfl) ?_
    refine sq (r_fieldAddr (off' := 0) fld94_0 (by decide) (b := b5) (off := 0) rfl (by omega)) ?_
    refine sq (r_indexA (off' := 0) (j := 0) arr38 (b := b5) (off := 0) rfl rfl (by first | rfl | omega | (simp; omega)) (by omega) (by omega)) ?_
    refine d_store (k := 2) (v := u64 (δ.1 ||| (1#64))) (cs' := #[u64 (δ.1 ||| (1#64)), u64 (δ.2), .slice za zs.length zc, u64 (first)]) HL rfl rfl rfl siz32 (by rfl) (by exact E64.one _) (by exact Nat.le_of_ble_eq_true rfl) (by rfl) ?_
    intro w44 H45 hC46
    have H45' := H45.as (L' := [(ko22, sob EI 3 l1 spo24), (kg19, sob EG 99 g2 spg21), (some b5, .cells #[u64 (δ.1 ||| (1#64)), u64 (δ.2), .slice za zs.length zc, u64 (first)] 94 (0, 0)), (some b1, .cells #[i64 (n), .slice (ownA kg19) g2.length cg20, .slice (ownA ko22) l1.length co23] 70 (0, 0))]) rfl
    clear H45
    refine wend ?_
    refine seqRegion ?_
    refine sq (r_loadA (cs' := #[u64 (δ.1 ||| (1#64)), u64 (δ.2), .slice za zs.length zc, u64 (first)]) agg94 siz94 (H45'.get (k := 2) rfl) (off := 0) rfl (by exact Nat.le_of_ble_eq_true rfl) (by rfl)) ?_
    refine sq (r_fieldAddr (off' := 0) fld70_0 (by decide) (b := b1) (off := 0) rfl (by omega)) ?_
    refine sq (r_loadC (v := i64 (n)) one3 (H45'.get (k := 3) rfl) (off := 0) rfl (by rfl)) ?_
    refine c_call (vs := [.agg #[u64 (δ.1 ||| (1#64)), u64 (δ.2), .slice za zs.length zc, u64 (first)], i64 (n)]) call44 rfl (zeros_ok (δ.1 ||| (1#64), δ.2) zs za zc hzc first n h2s w44 (hZ.ext H45'.chg)) ?_
    rintro _ w47 ⟨⟨key49, c50, sp51, rfl, hS52, hk53⟩, hE54⟩
    obtain ⟨z, hz⟩ : ∃ x, x = zerosS zs n.toNat := ⟨_, rfl⟩
    have hzl : z.length = n.toNat := by rw [hz, zerosS_len]
    rw [← hz] at hS52 hk53 ⊢
    have H55 := H45'.add hE54 hk53
    refine sq (r_assign (v := .slice (ownA key49) z.length c50) rfl) ?_
    refine wend ?_
    refine seqRegion ?_
    refine sq (r_loadA (cs' := #[i64 (n), .slice (ownA kg19) g2.length cg20, .slice (ownA ko22) l1.length co23]) agg70 siz70 (H55.get (k := 4) rfl) (off := 0) rfl (by exact Nat.le_of_ble_eq_true rfl) (by rfl)) ?_
    refine sq (r_fieldAddr (off' := 0) fld94_0 (by decide) (b := b5) (off := 0) rfl (by omega)) ?_
    refine sq (r_loadA (cs' := (cel E64 [δ.1 ||| (1#64), δ.2]).toArray) agg38 siz38 (H55.get (k := 3) rfl) (off := 0) rfl (by exact Nat.le_of_ble_eq_true rfl) (by rfl)) ?_
    refine sq (r_move (v := .slice (ownA key49) z.length c50) rfl) ?_
    refine sq (r_fieldAddr (off' := 3) fld94_2 (by decide) (b := b5) (off := 0) rfl (by omega)) ?_
    refine sq (r_loadC (v := u64 (first)) one32 (H55.get (k := 3) rfl) (off := 3) rfl (by rfl)) ?_
    refine c_call (vs := [.agg #[i64 (n), .slice (ownA kg19) g2.length cg20, .slice (ownA ko22) l1.length co23], .agg (cel E64 [δ.1 ||| (1#64), δ.2]).toArray, .slice (ownA key49) z.length c50, u64 (first)]) call45 rfl (garble_ok n g2 l1 (ownA kg19) (ownA ko22) cg20 co23 (δ.1 ||| (1#64), δ.2) z (ownA key49) c50 first w47 (Chg.gl H55.chg (fun x => x) hG) (H55.rd (k := 2) rfl h1) (H55.rd (k := 1) rfl hSo26) (by first | omega | exact Nat.le_of_ble_eq_true rfl) (by first | omega | exact Nat.le_of_ble_eq_true rfl) (H55.rd (k := 0) rfl hS52) hg (by omega) (col_or _ _)) ?_
    rintro _ w56 ⟨k58, c59, z60, k61, c62, z63, rfl, hS64, hS65, HN66⟩
    obtain ⟨tb, htb⟩ : ∃ x, x = (gS lhash (δ.1 ||| (1#64), δ.2) first g2 z g2.length).2 := ⟨_, rfl⟩
    obtain ⟨ot, hot⟩ : ∃ x, x = oL (gS lhash (δ.1 ||| (1#64), δ.2) first g2 z g2.length).1 l1 l1.length := ⟨_, rfl⟩
    rw [← htb] at hS64 HN66 ⊢
    rw [← hot] at hS65 HN66 ⊢
    have H67 := (H55.join HN66).as (L' := [(k58, sob ELb 38 tb z60), (k61, sob ELb 38 ot z63), (key49, sob ELb 38 z sp51), (ko22, sob EI 3 l1 spo24), (kg19, sob EG 99 g2 spg21), (some b5, .cells #[u64 (δ.1 ||| (1#64)), u64 (δ.2), .slice za zs.length zc, u64 (first)] 94 (0, 0)), (some b1, .cells #[i64 (n), .slice (ownA kg19) g2.length cg20, .slice (ownA ko22) l1.length co23] 70 (0, 0))]) rfl
    refine sq (r_move (v := .tuple #[.slice (ownA k58) tb.length c59, .slice (ownA k61) ot.length c62, .nilIface]) rfl) ?_
    refine sq (r_extract (vs := #[.slice (ownA k58) tb.length c59, .slice (ownA k61) ot.length c62, .nilIface]) rfl rfl) ?_
    refine sq (r_extract (vs := #[.slice (ownA k58) tb.length c59, .slice (ownA k61) ot.length c62, .nilIface]) rfl rfl) ?_
    refine sq (r_extract (vs := #[.slice (ownA k58) tb.length c59, .slice (ownA k61) ot.length c62, .nilIface]) rfl rfl) ?_
    refine sq (r_assign (v := .slice (ownA k58) tb.length c59) rfl) ?_
    refine sq (r_assign (v := .slice (ownA k61) ot.length c62) rfl) ?_
    refine sq (r_assign (v := .nilIface) rfl) ?_
    refine wend ?_
    refine seqRegion ?_
    refine sq (r_loadA (cs' := #[i64 (n), .slice (ownA kg19) g2.length cg20, .slice (ownA ko22) l1.length co23]) agg70 siz70 (H67.get (k := 6) rfl) (off := 0) rfl (by exact Nat.le_of_ble_eq_true rfl) (by rfl)) ?_
    refine sq (r_fieldAddr (off' := 0) fld94_0 (by decide) (b := b5) (off := 0) rfl (by omega)) ?_
    refine sq (r_loadA (cs' := (cel E64 [δ.1 ||| (1#64), δ.2]).toArray) agg38 siz38 (H67.get (k := 5) rfl) (off := 0) rfl (by exact Nat.le_of_ble_eq_true rfl) (by rfl)) ?_
    refine sq (r_move (v := .slice (ownA key49) z.length c50) rfl) ?_
    refine sq (r_fieldAddr (off' := 3) fld94_2 (by decide) (b := b5) (off := 0) rfl (by omega)) ?_
    refine sq (r_loadC (v := u64 (first)) one32 (H67.get (k := 5) rfl) (off := 3) rfl (by rfl)) ?_
    refine sq (r_add64 (a := first) (b := 1#64) rfl rfl) ?_
    refine c_call (vs := [.agg #[i64 (n), .slice (ownA kg19) g2.length cg20, .slice (ownA ko22) l1.length co23], .agg (cel E64 [δ.1 ||| (1#64), δ.2]).toArray, .slice (ownA key49) z.length c50, u64 (first + (1#64))]) call45 rfl (garble_ok n g2 l1 (ownA kg19) (ownA ko22) cg20 co23 (δ.1 ||| (1#64), δ.2) z (ownA key49) c50 (first + (1#64)) w56 (Chg.gl H67.chg (fun x => x) hG) (H67.rd (k := 4) rfl h1) (H67.rd (k := 3) rfl hSo26) (by first | omega | exact Nat.le_of_ble_eq_true rfl) (by first | omega | exact Nat.le_of_ble_eq_true rfl) (H67.rd (k := 2) rfl hS52) hg (by omega) (col_or _ _)) ?_
    rintro _ w68 ⟨k70, c71, z72, k73, c74, z75, rfl, hS76, hS77, HN78⟩
    obtain ⟨tc, htc⟩ : ∃ x, x = (gS lhash (δ.1 ||| (1#64), δ.2) (first + (1#64)) g2 z g2.length).2 := ⟨_, rfl⟩
    obtain ⟨ou, hou⟩ : ∃ x, x = oL (gS lhash (δ.1 ||| (1#64), δ.2) (first + (1#64)) g2 z g2.length).1 l1 l1.length := ⟨_, rfl⟩
    rw [← htc] at hS76 HN78 ⊢
    rw [← hou] at hS77 HN78 ⊢
    have H79 := (H67.join HN78).as (L' := [(k70, sob ELb 38 tc z72), (k73, sob ELb 38 ou z75), (k58, sob ELb 38 tb z60), (k61, sob ELb 38 ot z63), (key49, sob ELb 38 z sp51), (ko22, sob EI 3 l1 spo24), (kg19, sob EG 99 g2 spg21), (some b5, .cells #[u64 (δ.1 ||| (1#64)), u64 (δ.2), .slice za zs.length zc, u64 (first)] 94 (0, 0)), (some b1, .cells #[i64 (n), .slice (ownA kg19) g2.length cg20, .slice (ownA ko22) l1.length co23] 70 (0, 0))]) rfl
    refine sq (r_move (v := .tuple #[.slice (ownA k70) tc.length c71, .slice (ownA k73) ou.length c74, .nilIface]) rfl) ?_
    refine sq (r_extract (vs := #[.slice (ownA k70) tc.length c71, .slice (ownA k73) ou.length c74, .nilIface]) rfl rfl) ?_
    refine sq (r_extract (vs := #[.slice (ownA k70) tc.length c71, .slice (ownA k73) ou.length c74, .nilIface]) rfl rfl) ?_
    refine sq (r_extract (vs := #[.slice (ownA k70) tc.length c71, .slice (ownA k73) ou.length c74, .nilIface]) rfl rfl) ?_
    refine sq (r_assign (v := .slice (ownA k70) tc.length c71) rfl) ?_
    refine sq (r_assign (v := .slice (ownA k73) ou.length c74) rfl) ?_
    refine sq (r_assign (v := .nilIface) rfl) ?_
    have hgk : ∀ x, x < g2.length → gokP (g2.getD x g0) ((z.length : Nat) + (x : Nat)) := fun x hx => by have := hg.gok x hx; rwa [show n = ((z.length : Nat) : Int) by omega] at this
    have htb0 : tb.length = 0 := by rw [htb, (free_same (first' := first) hgk hfr0).2]; rfl
    have htc0 : tc.length = 0 := by rw [htc, (free_same (first' := first) hgk hfr0).2]; rfl
    have hoo : ou = ot := by rw [hou, hot, (free_same (first' := first) hgk hfr0).1]
    have hot1 : ot.length = l1.length := by rw [hot, oL_len]
    refine wend ?_
    refine seqAny ?_
    refine seqRegion ?_
    refine sq (r_loadA (cs' := #[i64 (n), .slice (ownA kg19) g2.length cg20, .slice (ownA ko22) l1.length co23]) agg70 siz70 (H79.get (k := 8) rfl) (off := 0) rfl (by exact Nat.le_of_ble_eq_true rfl) (by rfl)) ?_
    refine c_call (vs := [.agg #[i64 (n), .slice (ownA kg19) g2.length cg20, .slice (ownA ko22) l1.length co23]]) call31 rfl (check_good n g2 l1 (ownA kg19) (ownA ko22) cg20 co23 w68 (Chg.gl H79.chg (fun x => x) hG) (H79.rd (k := 6) rfl h1) (H79.rd (k := 5) rfl hSo26) (by omega) (by omega) hg) ?_
    rintro _ w80 ⟨rfl, hE81⟩
    have H82 := H79.ext hE81
    refine sq (r_neqNN isI27 rfl rfl) ?_
    refine wend ?_
    refine condFalse rfl ?_
    refine skipAny ?_
    refine thenNormal ?_
    refine seqRegion ?_
    refine sq (r_loadA (cs' := #[i64 (n), .slice (ownA kg19) g2.length cg20, .slice (ownA ko22) l1.length co23]) agg70 siz70 (H82.get (k := 8) rfl) (off := 0) rfl (by exact Nat.le_of_ble_eq_true rfl) (by rfl)) ?_
    refine sq (r_move (v := .slice (ownA key49) z.length c50) rfl) ?_
    refine c_call (vs := [.agg #[i64 (n), .slice (ownA kg19) g2.length cg20, .slice (ownA ko22) l1.length co23], .slice (ownA key49) z.length c50, .slice none 0 0, u64 (0#64)]) call46 rfl (eval_ok n g2 l1 (ownA kg19) (ownA ko22) cg20 co23 z ([]) (ownA key49) none c50 0 (0#64) w80 (Chg.gl H82.chg (fun x => x) hG) (H82.rd (k := 6) rfl h1) (H82.rd (k := 5) rfl hSo26) (by first | omega | exact Nat.le_of_ble_eq_true rfl) (by first | omega | exact Nat.le_of_ble_eq_true rfl) (H82.rd (k := 4) rfl hS52) Rd.nil hg (by omega) (by rw [hand]; rfl)) ?_
    rintro _ w83 ⟨k85, c86, z87, rfl, hS88, HN89⟩
    have H90 := (H82.join HN89).as (L' := [(k85, sob ELb 38 (oL (eS lhash (0#64) g2 ([]) z g2.length).1 l1 l1.length) z87), (k70, sob ELb 38 tc z72), (k73, sob ELb 38 ou z75), (k58, sob ELb 38 tb z60), (k61, sob ELb 38 ot z63), (key49, sob ELb 38 z sp51), (ko22, sob EI 3 l1 spo24), (kg19, sob EG 99 g2 spg21), (some b5, .cells #[u64 (δ.1 ||| (1#64)), u64 (δ.2), .slice za zs.length zc, u64 (first)] 94 (0, 0)), (some b1, .cells #[i64 (n), .slice (ownA kg19) g2.length cg20, .slice (ownA ko22) l1.length co23] 70 (0, 0))]) rfl
    refine sq (r_move (v := .tuple #[.slice (ownA k85) l1.length c86, .nilIface]) rfl) ?_
    refine sq (r_extract (vs := #[.slice (ownA k85) l1.length c86, .nilIface]) rfl rfl) ?_
    refine sq (r_extract (vs := #[.slice (ownA k85) l1.length c86, .nilIface]) rfl rfl) ?_
    refine sq (r_assign (v := .slice (ownA k85) l1.length c86) rfl) ?_
    refine sq (r_assign (v := .nilIface) rfl) ?_
    refine wend ?_
    refine seqRegion ?_
    refine sq (r_move (v := .nilIface) rfl) ?_
    refine sq (r_eqlNN isI27 rfl rfl) ?_
    refine sq (r_move (v := .bool (true)) rfl) ?_
    refine sqAny (v := .nilIface) (w' := w83) (wantedSome (d' := 94) (b := true) rfl rfl rfl) (r_move (v := .nilIface) rfl) ?_
    refine sqAny (v := .bool (true)) (w' := w83) (wantedSome (d' := 94) (b := true) rfl rfl rfl) (r_eqlNN isI27 rfl rfl) ?_
    refine sq (r_pickT (u := .bool (true)) rfl rfl) ?_
    refine sq (r_move (v := .bool (true)) rfl) ?_
    refine sqAny (v := .nilIface) (w' := w83) (wantedSome (d' := 98) (b := true) rfl rfl rfl) (r_move (v := .nilIface) rfl) ?_
    refine sqAny (v := .bool (true)) (w' := w83) (wantedSome (d' := 98) (b := true) rfl rfl rfl) (r_eqlNN isI27 rfl rfl) ?_
    refine sq (r_pickT (u := .bool (true)) rfl rfl) ?_
    refine sq (r_move (v := .bool (true)) rfl) ?_
    refine sqAny (v := .slice (ownA k58) tb.length c59) (w' := w83) (wantedSome (d' := 102) (b := true) rfl rfl rfl) (r_move (v := .slice (ownA k58) tb.length c59) rfl) ?_
    refine sqAny (v := i64 ((tb.length : Nat))) (w' := w83) (wantedSome (d' := 102) (b := true) rfl rfl rfl) (r_lenS sli92 (a := ownA k58) (m := tb.length) (c := c59) rfl) ?_
    refine sqAny (v := .slice (ownA k70) tc.length c71) (w' := w83) (wantedSome (d' := 102) (b := true) rfl rfl rfl) (r_move (v := .slice (ownA k70) tc.length c71) rfl) ?_
    refine sqAny (v := i64 ((tc.length : Nat))) (w' := w83) (wantedSome (d' := 102) (b := true) rfl rfl rfl) (r_lenS sli92 (a := ownA k70) (m := tc.length) (c := c71) rfl) ?_
    refine sqAny (v := i64 ((tb.length : Nat) + (tc.length : Nat))) (w' := w83) (wantedSome (d' := 102) (b := true) rfl rfl rfl) (r_addI (a := (tb.length : Nat)) (b := (tc.length : Nat)) rfl rfl (by omega)) ?_
    refine sqAny (v := .bool (true)) (w' := w83) (wantedSome (d' := 102) (b := true) rfl rfl rfl) ((r_eqlI (a := (tb.length : Nat) + (tc.length : Nat)) (b := (0 : Int)) rfl rfl).as (v' := .bool (true)) (by exact congrArg Value.bool (decide_eq_true (by omega)))) ?_
    refine sq (r_pickT (u := .bool (true)) rfl rfl) ?_
    refine sq (r_move (v := .bool (true)) rfl) ?_
    refine sqAny (v := .slice (ownA k61) ot.length c62) (w' := w83) (wantedSome (d' := 110) (b := true) rfl rfl rfl) (r_move (v := .slice (ownA k61) ot.length c62) rfl) ?_
    refine sqAny (v := .slice (ownA k73) ou.length c74) (w' := w83) (wantedSome (d' := 110) (b := true) rfl rfl rfl) (r_move (v := .slice (ownA k73) ou.length c74) rfl) ?_
    refine caAny (wantedSome (d' := 110) (b := true) rfl rfl rfl) (Enters.callL (vs := [.slice (ownA k61) ot.length c62, .slice (ownA k73) ou.length c74]) call47 rfl) (same_ok ot (ownA k61) (ownA k73) ot.length ou.length c62 c74 (by first | rfl | omega | (simp; omega) | (simp at *; omega)) (by rw [hoo]) w83 (H90.rd (k := 4) rfl hS65) (hoo ▸ (H90.rd (k := 2) rfl hS77)) (by omega)) ?_
    rintro _ w91 ⟨rfl, hE92⟩
    have H93 := H90.ext hE92
    refine sq (r_pickT (u := .bool (true)) rfl rfl) ?_
    refine sq (r_move (v := .bool (true)) rfl) ?_
    refine sqAny (v := .slice (ownA k85) l1.length c86) (w' := w91) (wantedSome (d' := 115) (b := true) rfl rfl rfl) (r_move (v := .slice (ownA k85) l1.length c86) rfl) ?_
    refine sqAny (v := i64 ((l1.length : Nat))) (w' := w91) (wantedSome (d' := 115) (b := true) rfl rfl rfl) (r_lenS sli92 (a := ownA k85) (m := l1.length) (c := c86) rfl) ?_
    refine sqAny (v := .slice (ownA k61) ot.length c62) (w' := w91) (wantedSome (d' := 115) (b := true) rfl rfl rfl) (r_move (v := .slice (ownA k61) ot.length c62) rfl) ?_
    refine sqAny (v := i64 ((ot.length : Nat))) (w' := w91) (wantedSome (d' := 115) (b := true) rfl rfl rfl) (r_lenS sli92 (a := ownA k61) (m := ot.length) (c := c62) rfl) ?_
    refine sqAny (v := .bool (true)) (w' := w91) (wantedSome (d' := 115) (b := true) rfl rfl rfl) ((r_eqlI (a := (l1.length : Nat)) (b := (ot.length : Nat)) rfl rfl).as (v' := .bool (true)) (by exact congrArg Value.bool (decide_eq_true (by omega)))) ?_
    refine sq (r_pickT (u := .bool (true)) rfl rfl) ?_
    refine sq (r_assign (v := .bool (true)) rfl) ?_
    refine wend ?_
    refine retAny ?_
    refine retG (rs := [.tmp 4]) (vs := [.bool (true)]) rfl ⟨⟨rfl, rfl⟩, trivial⟩ ?_
    exact ⟨_, rfl, rfl, H93.chg⟩

set_option maxHeartbeats 1000000 in
theorem gfree_bad (n : Int) (gs : List Gt) (ol : List Int) (ga oa : Option Addr) (gc oc : Nat) (δ : Lb) (zs : List Lb) (za : Option Addr) (zc : Nat) (first : BitVec 64) (hgc : gs.length ≤ gc) (hoc : ol.length ≤ oc) (hzc : zs.length ≤ zc) (w : World) (hG : Gl w) (hGs : Rd EG w ga gs) (hOl : Rd EI w oa ol) (hZ : Rd ELb w za zs) (hzs : zs.length ≤ 140737488355328) (h1s : gs.length ≤ 60) (h2s : n ≤ 200) (hg : ¬ IsC n (frL (gs.take 4200) (gs.take 4200).length) (ol.take 80)) : Calls Tryd.prog 9 [.agg #[i64 (n), .slice ga gs.length gc, .slice oa ol.length oc], .agg #[u64 (δ.1), u64 (δ.2), .slice za zs.length zc, u64 (first)]].toArray w (Ret fun v w' => v = .bool true ∧ Ext w w') := by
  obtain ⟨g1, hg1⟩ : ∃ g1, g1 = gs.take 4200 := ⟨_, rfl⟩
  obtain ⟨l1, hl1⟩ : ∃ l1, l1 = ol.take 80 := ⟨_, rfl⟩
  have hgl1 : g1.length ≤ 60 := by rw [hg1, List.length_take]; omega
  have hll1 : l1.length ≤ 80 := by rw [hl1, List.length_take]; omega
  rw [← hg1, ← hl1] at hg
  have H := Hp.start No w
  refine enter (n := 122) Tryd.func9 rfl rfl (Nat.le_of_ble_eq_true rfl) ?_
  refine seqRegion ?_
  refine q_box (v := .agg #[i64 (n), .slice ga gs.length gc, .slice oa ol.length oc]) (o := .cells #[i64 (n), .slice ga gs.length gc, .slice oa ol.length oc] 70 (0, 0)) H rfl (by rfl) ?_
  intro b1 w2 hb1 H3 hE4
  refine q_box (v := .agg #[u64 (δ.1), u64 (δ.2), .slice za zs.length zc, u64 (first)]) (o := .cells #[u64 (δ.1), u64 (δ.2), .slice za zs.length zc, u64 (first)] 94 (0, 0)) H3 rfl (by rfl) ?_
  intro b5 w6 hb5 H7 hE8
  refine sq (r_assign (v := .bool (false)) rfl) ?_
  refine wend ?_
  refine seqAny ?_
  refine seqRegion ?_
  refine c_call (vs := []) call41 rfl (gawake_ok w6 (Chg.gl H7.chg (fun x => x) hG)) ?_
  rintro _ w9 ⟨rfl, hE10⟩
  have H11 := H7.ext hE10
  refine sq (r_notT rfl) ?_
  refine sq (r_move (v := .bool (false)) rfl) ?_
  refine sqAny (v := .agg #[i64 (n), .slice ga gs.length gc, .slice oa ol.length oc]) (w' := w9) (wantedSome (d' := 17) (b := false) rfl rfl rfl) (r_loadA (cs' := #[i64 (n), .slice ga gs.length gc, .slice oa ol.length oc]) agg70 siz70 (H11.get (k := 1) rfl) (off := 0) rfl (by exact Nat.le_of_ble_eq_true rfl) (by rfl)) ?_
  refine caAny (wantedSome (d' := 17) (b := false) rfl rfl rfl) (Enters.callL (vs := [.agg #[i64 (n), .slice ga gs.length gc, .slice oa ol.length oc]]) call42 rfl) (small_yes n gs ol ga oa gc oc w9 h1s h2s) ?_
  rintro _ w12 ⟨rfl, hE13⟩
  have H14 := H11.ext hE13
  refine sqAny (v := .bool (false)) (w' := w12) (wantedSome (d' := 17) (b := false) rfl rfl rfl) (r_notT rfl) ?_
  refine sq (r_pickF (v := .bool (false)) rfl rfl) ?_
  refine wend ?_
  refine condFalse rfl ?_
  refine skipAny ?_
  refine thenNormal ?_
  refine seqRegion ?_
  refine sq (r_loadA (cs' := #[i64 (n), .slice ga gs.length gc, .slice oa ol.length oc]) agg70 siz70 (H14.get (k := 1) rfl) (off := 0) rfl (by exact Nat.le_of_ble_eq_true rfl) (by rfl)) ?_
  refine c_call (vs := [.agg #[i64 (n), .slice ga gs.length gc, .slice oa ol.length oc]]) call43 rfl (own_ok n gs ol ga oa gc oc hgc hoc w12 (hGs.ext H14.chg) (hOl.ext H14.chg)) ?_
  rintro _ w15 ⟨⟨ng17, no18, kg19, cg20, spg21, ko22, co23, spo24, rfl, rfl, rfl, hSg25, hSo26, HN27⟩, hE28⟩
  rw [← hg1] at hSg25 HN27
  rw [← hl1] at hSo26 HN27
  rw [← hg1, ← hl1]
  have H29 := (H14.join HN27).as (L' := [(ko22, sob EI 3 l1 spo24), (kg19, sob EG 99 g1 spg21), (some b5, .cells #[u64 (δ.1), u64 (δ.2), .slice za zs.length zc, u64 (first)] 94 (0, 0)), (some b1, .cells #[i64 (n), .slice ga gs.length gc, .slice oa ol.length oc] 70 (0, 0))]) rfl
  refine d_store (k := 3) (v := .agg #[i64 (n), .slice (ownA kg19) g1.length cg20, .slice (ownA ko22) l1.length co23]) (cs' := #[i64 (n), .slice (ownA kg19) g1.length cg20, .slice (ownA ko22) l1.length co23]) H29 rfl rfl rfl siz70 (by rfl) (by intro u hu; simp [Value.cells] at hu; first | (subst hu; rfl) | (rcases hu with rfl | rfl | rfl <;> rfl)) (by exact Nat.le_of_ble_eq_true rfl) (by rfl) ?_
  intro w30 H31 hC32
  have H31' := H31.as (L' := [(ko22, sob EI 3 l1 spo24), (kg19, sob EG 99 g1 spg21), (some b5, .cells #[u64 (δ.1), u64 (δ.2), .slice za zs.length zc, u64 (first)] 94 (0, 0)), (some b1, .cells #[i64 (n), .slice (ownA kg19) g1.length cg20, .slice (ownA ko22) l1.length co23] 70 (0, 0))]) rfl
  clear H31
  refine wend ?_
  refine seqAny ?_
  refine seqRegion ?_
  refine sq (r_fieldAddr (off' := 1) fld70_1 (by decide) (b := b1) (off := 0) rfl (by omega)) ?_
  refine sq (r_loadC (v := .slice (ownA kg19) g1.length cg20) one68 (H31'.get (k := 3) rfl) (off := 1) rfl (by rfl)) ?_
  refine sq (r_lenS sli68 (a := ownA kg19) (m := g1.length) (c := cg20) rfl) ?_
  refine sq (r_move (v := i64 ((0 : Int))) rfl) ?_
  refine wend ?_
  refine blockAny ?_
  refine loopAny (σ := Nat) (fun i => [(2, .pointer (some ⟨b1, 0, none⟩)), (3, .pointer (some ⟨b5, 0, none⟩)), (27, i64 ((g1.length : Nat))), (28, i64 ((i : Nat)))]) (fun i w' => (i ≤ g1.length ∧ Sl EG kg19 (frL g1 i) cg20 spg21) ∧ Hp No w w' [(ko22, sob EI 3 l1 spo24), (kg19, sob EG 99 (frL g1 i) spg21), (some b5, .cells #[u64 (δ.1), u64 (δ.2), .slice za zs.length zc, u64 (first)] 94 (0, 0)), (some b1, .cells #[i64 (n), .slice (ownA kg19) g1.length cg20, .slice (ownA ko22) l1.length co23] 70 (0, 0))]) (fun i => g1.length - i) (0) ?_ ?_ ?_
  · exact ⟨rfl, rfl, rfl, rfl, trivial⟩
  · exact ⟨⟨Nat.zero_le _, hSg25⟩, H31'⟩
  rintro i ρ w33 ⟨⟨hi, h1⟩, HL⟩
  have hfl := frL_len g1 i
  refine seqRegion ?_
  refine sq (r_lssI (a := (i : Nat)) (b := (g1.length : Nat)) rfl rfl) ?_
  refine wend ?_
  refine seqAny ?_
  refine condProp (((i : Nat) : Int) < (g1.length : Nat)) rfl (fun c29 => ?_) (fun c29 => ?_)
  · skip
    refine skipAny ?_
    refine thenNormal ?_
    refine seqAny ?_
    refine blockAny ?_
    refine seqRegion ?_
    refine sq (r_move (v := i64 ((i : Nat))) rfl) ?_
    refine sq (r_assign (v := i64 ((i : Nat))) rfl) ?_
    refine wend ?_
    refine seqRegion ?_
    refine sq (r_fieldAddr (off' := 1) fld70_1 (by decide) (b := b1) (off := 0) rfl (by omega)) ?_
    refine sq (r_loadC (v := .slice (ownA kg19) g1.length cg20) one68 (HL.get (k := 3) rfl) (off := 1) rfl (by rfl)) ?_
    refine sq (r_move (v := i64 ((i : Nat))) rfl) ?_
    refine sq (r_idxS (E := EG) (l := frL g1 i) (j := i) sli68 (HL.rd (k := 1) rfl h1) rfl rfl (by first | rfl | omega | (simp; omega)) (by exact (frL_len _ _).symm) (by omega)) ?_
    refine sq (r_fieldS (E := EG) (l := frL g1 i) fld99_0 (by decide) (HL.rd (k := 1) rfl h1) (by omega) rfl rfl) ?_
    refine sq (r_ldP (E := EG) (l := frL g1 i) (j := i) (o := 0) (v := ((frL g1 i).getD i g0)) (u := i64 (((frL g1 i).getD i g0).k)) one97 (HL.rd (k := 1) rfl h1) (at_getD (by omega)) rfl rfl rfl) ?_
    refine sq (r_eqlI (a := ((frL g1 i).getD i g0).k) (b := (2 : Int)) rfl rfl) ?_
    refine wend ?_
    refine condProp ((((frL g1 i).getD i g0).k : Int) = (2 : Int)) rfl (fun c37 => ?_) (fun c37 => ?_)
    · skip
      refine oneRegion ?_
      refine sq (r_fieldAddr (off' := 1) fld70_1 (by decide) (b := b1) (off := 0) rfl (by omega)) ?_
      refine sq (r_loadC (v := .slice (ownA kg19) g1.length cg20) one68 (HL.get (k := 3) rfl) (off := 1) rfl (by rfl)) ?_
      refine sq (r_move (v := i64 ((i : Nat))) rfl) ?_
      refine sq (r_idxS (E := EG) (l := frL g1 i) (j := i) sli68 (HL.rd (k := 1) rfl h1) rfl rfl (by first | rfl | omega | (simp; omega)) (by exact (frL_len _ _).symm) (by omega)) ?_
      refine sq (r_fieldS (E := EG) (l := frL g1 i) fld99_0 (by decide) (HL.rd (k := 1) rfl h1) (by omega) rfl rfl) ?_
      refine d_storeP (E := EG) (k := 1) (l := frL g1 i) (j := i) (o := 0) (a := ((frL g1 i).getD i g0)) (b := (⟨(1 : Int), ((frL g1 i).getD i g0).a, ((frL g1 i).getD i g0).b⟩ : Gt)) (v := i64 ((1 : Int))) HL rfl h1 rfl rfl rfl siz97 rfl rfl (by decide) rfl (at_getD (by omega)) ?_
      intro w36 hS35 H37
      have H37' := H37.as (L' := [(ko22, sob EI 3 l1 spo24), (kg19, sob EG 99 ((frL g1 i).set i (⟨(1 : Int), ((frL g1 i).getD i g0).a, ((frL g1 i).getD i g0).b⟩ : Gt)) spg21), (some b5, .cells #[u64 (δ.1), u64 (δ.2), .slice za zs.length zc, u64 (first)] 94 (0, 0)), (some b1, .cells #[i64 (n), .slice (ownA kg19) g1.length cg20, .slice (ownA ko22) l1.length co23] 70 (0, 0))]) rfl
      clear H37
      refine wnil ?_
      refine blockNormal ?_
      refine thenNormal ?_
      refine oneRegion ?_
      refine sq (r_addI (a := (i : Nat)) (b := (1 : Int)) rfl rfl (by omega)) ?_
      refine sq (r_move (v := i64 ((i : Nat) + (1 : Int))) rfl) ?_
      refine wnil ?_
      refine thenNormal ?_
      have e38 : (frL g1 i).set i (⟨(1 : Int), ((frL g1 i).getD i g0).a, ((frL g1 i).getD i g0).b⟩ : Gt) = frL g1 (i + 1) := by rw [frL, if_pos c37]
      have hS39 := hS35
      rw [e38] at hS39
      have H40 := H37'.as (L' := [(ko22, sob EI 3 l1 spo24), (kg19, sob EG 99 (frL g1 (i + 1)) spg21), (some b5, .cells #[u64 (δ.1), u64 (δ.2), .slice za zs.length zc, u64 (first)] 94 (0, 0)), (some b1, .cells #[i64 (n), .slice (ownA kg19) g1.length cg20, .slice (ownA ko22) l1.length co23] 70 (0, 0))]) (by rw [e38])
      exact ⟨i + 1, _, rfl, ⟨rfl, rfl, rfl, rfl, trivial⟩, ⟨⟨by omega, hS39⟩, H40⟩, by show g1.length - (i + 1) < g1.length - i; omega⟩
    · skip
      refine skipAny ?_
      refine blockNormal ?_
      refine thenNormal ?_
      refine oneRegion ?_
      refine sq (r_addI (a := (i : Nat)) (b := (1 : Int)) rfl rfl (by omega)) ?_
      refine sq (r_move (v := i64 ((i : Nat) + (1 : Int))) rfl) ?_
      refine wnil ?_
      refine thenNormal ?_
      have e41 : frL g1 i = frL g1 (i + 1) := by rw [frL, if_neg c37]
      have hS42 := h1
      rw [e41] at hS42
      have H43 := HL.as (L' := [(ko22, sob EI 3 l1 spo24), (kg19, sob EG 99 (frL g1 (i + 1)) spg21), (some b5, .cells #[u64 (δ.1), u64 (δ.2), .slice za zs.length zc, u64 (first)] 94 (0, 0)), (some b1, .cells #[i64 (n), .slice (ownA kg19) g1.length cg20, .slice (ownA ko22) l1.length co23] 70 (0, 0))]) (by rw [e41])
      exact ⟨i + 1, _, rfl, ⟨rfl, rfl, rfl, rfl, trivial⟩, ⟨⟨by omega, hS42⟩, H43⟩, by show g1.length - (i + 1) < g1.length - i; omega⟩
  · skip
    obtain rfl : i = g1.length := by omega
    have hfr0 := frL_no g1 g1.length (Nat.le_refl _)
    obtain ⟨g2, hg2⟩ : ∃ x, x = frL g1 g1.length := ⟨_, rfl⟩
    have hl2 : g1.length = g2.length := by rw [hg2, frL_len]
    rw [← hg2] at HL h1 hg hfr0
    rw [hl2] at HL hfr0 hgl1 ⊢
    have hand : andsS g2 g2.length = 0 := ands_free _ hfr0
    skip
    refine exitAny ?_
    refine thenExit ?_
    refine thenExit ?_
    refine blockHere ?_
    refine thenNormal ?_
    refine seqRegion ?_
    refine sq (r_fieldAddr (off' := 0) fld94_0 (by decide) (b := b5) (off := 0) rfl (by omega)) ?_
    refine sq (r_indexA (off' := 0) (j := 0) arr38 (b := b5) (off := 0) rfl rfl (by first | rfl | omega | (simp; omega)) (by omega) (by omega)) ?_
    refine sq (r_loadC (v := u64 (δ.1)) one32 (HL.get (k := 2) rfl) (off := 0) rfl (by rfl)) ?_
    refine sq (r_or64 (a := δ.1) (b := 1#64) rfl rfl) ?_
    refine sq (r_fieldAddr (off' := 0) fld94_0 (by decide) (b := b5) (off := 0) rfl (by omega)) ?_
    refine sq (r_indexA (off' := 0) (j := 0) arr38 (b := b5) (off := 0) rfl rfl (by first | rfl | omega | (simp; omega)) (by omega) (by omega)) ?_
    refine d_store (k := 2) (v := u64 (δ.1 ||| (1#64))) (cs' := #[u64 (δ.1 ||| (1#64)), u64 (δ.2), .slice za zs.length zc, u64 (first)]) HL rfl rfl rfl siz32 (by rfl) (by exact E64.one _) (by exact Nat.le_of_ble_eq_true rfl) (by rfl) ?_
    intro w44 H45 hC46
    have H45' := H45.as (L' := [(ko22, sob EI 3 l1 spo24), (kg19, sob EG 99 g2 spg21), (some b5, .cells #[u64 (δ.1 ||| (1#64)), u64 (δ.2), .slice za zs.length zc, u64 (first)] 94 (0, 0)), (some b1, .cells #[i64 (n), .slice (ownA kg19) g2.length cg20, .slice (ownA ko22) l1.length co23] 70 (0, 0))]) rfl
    clear H45
    refine wend ?_
    refine seqRegion ?_
    refine sq (r_loadA (cs' := #[u64 (δ.1 ||| (1#64)), u64 (δ.2), .slice za zs.length zc, u64 (first)]) agg94 siz94 (H45'.get (k := 2) rfl) (off := 0) rfl (by exact Nat.le_of_ble_eq_true rfl) (by rfl)) ?_
    refine sq (r_fieldAddr (off' := 0) fld70_0 (by decide) (b := b1) (off := 0) rfl (by omega)) ?_
    refine sq (r_loadC (v := i64 (n)) one3 (H45'.get (k := 3) rfl) (off := 0) rfl (by rfl)) ?_
    refine c_call (vs := [.agg #[u64 (δ.1 ||| (1#64)), u64 (δ.2), .slice za zs.length zc, u64 (first)], i64 (n)]) call44 rfl (zeros_ok (δ.1 ||| (1#64), δ.2) zs za zc hzc first n h2s w44 (hZ.ext H45'.chg)) ?_
    rintro _ w47 ⟨⟨key49, c50, sp51, rfl, hS52, hk53⟩, hE54⟩
    obtain ⟨z, hz⟩ : ∃ x, x = zerosS zs n.toNat := ⟨_, rfl⟩
    have hzl : z.length = n.toNat := by rw [hz, zerosS_len]
    rw [← hz] at hS52 hk53 ⊢
    have H55 := H45'.add hE54 hk53
    refine sq (r_assign (v := .slice (ownA key49) z.length c50) rfl) ?_
    refine wend ?_
    refine seqRegion ?_
    refine sq (r_loadA (cs' := #[i64 (n), .slice (ownA kg19) g2.length cg20, .slice (ownA ko22) l1.length co23]) agg70 siz70 (H55.get (k := 4) rfl) (off := 0) rfl (by exact Nat.le_of_ble_eq_true rfl) (by rfl)) ?_
    refine sq (r_fieldAddr (off' := 0) fld94_0 (by decide) (b := b5) (off := 0) rfl (by omega)) ?_
    refine sq (r_loadA (cs' := (cel E64 [δ.1 ||| (1#64), δ.2]).toArray) agg38 siz38 (H55.get (k := 3) rfl) (off := 0) rfl (by exact Nat.le_of_ble_eq_true rfl) (by rfl)) ?_
    refine sq (r_move (v := .slice (ownA key49) z.length c50) rfl) ?_
    refine sq (r_fieldAddr (off' := 3) fld94_2 (by decide) (b := b5) (off := 0) rfl (by omega)) ?_
    refine sq (r_loadC (v := u64 (first)) one32 (H55.get (k := 3) rfl) (off := 3) rfl (by rfl)) ?_
    have := H55.lt (List.mem_of_getElem? (i := 3) rfl) rfl
    have := H55.lt (List.mem_of_getElem? (i := 4) rfl) rfl
    refine c_call (vs := [.agg #[i64 (n), .slice (ownA kg19) g2.length cg20, .slice (ownA ko22) l1.length co23], .agg (cel E64 [δ.1 ||| (1#64), δ.2]).toArray, .slice (ownA key49) z.length c50, u64 (first)]) call45 rfl (garble_bad n g2 l1 (ownA kg19) (ownA ko22) cg20 co23 (δ.1 ||| (1#64), δ.2) z (ownA key49) c50 first w47 (Chg.gl H55.chg (fun x => x) hG) (H55.rd (k := 2) rfl h1) (H55.rd (k := 1) rfl hSo26) (by first | omega | exact Nat.le_of_ble_eq_true rfl) (by first | omega | exact Nat.le_of_ble_eq_true rfl) (H55.rd (k := 0) rfl hS52) hg) ?_
    rintro _ w56 ⟨⟨v58, rfl, hEr59⟩, hE60⟩
    have H61 := H55.ext hE60
    obtain ⟨T62, x63, rfl⟩ := hEr59.iface
    refine sq (r_move (v := .tuple #[.slice none 0 0, .slice none 0 0, .iface T62 (x63)]) rfl) ?_
    refine sq (r_extract (vs := #[.slice none 0 0, .slice none 0 0, .iface T62 (x63)]) rfl rfl) ?_
    refine sq (r_extract (vs := #[.slice none 0 0, .slice none 0 0, .iface T62 (x63)]) rfl rfl) ?_
    refine sq (r_extract (vs := #[.slice none 0 0, .slice none 0 0, .iface T62 (x63)]) rfl rfl) ?_
    refine sq (r_assign (v := .slice none 0 0) rfl) ?_
    refine sq (r_assign (v := .slice none 0 0) rfl) ?_
    refine sq (r_assign (v := .iface T62 (x63)) rfl) ?_
    refine wend ?_
    refine seqRegion ?_
    refine sq (r_loadA (cs' := #[i64 (n), .slice (ownA kg19) g2.length cg20, .slice (ownA ko22) l1.length co23]) agg70 siz70 (H61.get (k := 4) rfl) (off := 0) rfl (by exact Nat.le_of_ble_eq_true rfl) (by rfl)) ?_
    refine sq (r_fieldAddr (off' := 0) fld94_0 (by decide) (b := b5) (off := 0) rfl (by omega)) ?_
    refine sq (r_loadA (cs' := (cel E64 [δ.1 ||| (1#64), δ.2]).toArray) agg38 siz38 (H61.get (k := 3) rfl) (off := 0) rfl (by exact Nat.le_of_ble_eq_true rfl) (by rfl)) ?_
    refine sq (r_move (v := .slice (ownA key49) z.length c50) rfl) ?_
    refine sq (r_fieldAddr (off' := 3) fld94_2 (by decide) (b := b5) (off := 0) rfl (by omega)) ?_
    refine sq (r_loadC (v := u64 (first)) one32 (H61.get (k := 3) rfl) (off := 3) rfl (by rfl)) ?_
    refine sq (r_add64 (a := first) (b := 1#64) rfl rfl) ?_
    have := H61.lt (List.mem_of_getElem? (i := 3) rfl) rfl
    have := H61.lt (List.mem_of_getElem? (i := 4) rfl) rfl
    refine c_call (vs := [.agg #[i64 (n), .slice (ownA kg19) g2.length cg20, .slice (ownA ko22) l1.length co23], .agg (cel E64 [δ.1 ||| (1#64), δ.2]).toArray, .slice (ownA key49) z.length c50, u64 (first + (1#64))]) call45 rfl (garble_bad n g2 l1 (ownA kg19) (ownA ko22) cg20 co23 (δ.1 ||| (1#64), δ.2) z (ownA key49) c50 (first + (1#64)) w56 (Chg.gl H61.chg (fun x => x) hG) (H61.rd (k := 2) rfl h1) (H61.rd (k := 1) rfl hSo26) (by first | omega | exact Nat.le_of_ble_eq_true rfl) (by first | omega | exact Nat.le_of_ble_eq_true rfl) (H61.rd (k := 0) rfl hS52) hg) ?_
    rintro _ w64 ⟨⟨v66, rfl, hEr67⟩, hE68⟩
    have H69 := H61.ext hE68
    obtain ⟨T70, x71, rfl⟩ := hEr67.iface
    refine sq (r_move (v := .tuple #[.slice none 0 0, .slice none 0 0, .iface T70 (x71)]) rfl) ?_
    refine sq (r_extract (vs := #[.slice none 0 0, .slice none 0 0, .iface T70 (x71)]) rfl rfl) ?_
    refine sq (r_extract (vs := #[.slice none 0 0, .slice none 0 0, .iface T70 (x71)]) rfl rfl) ?_
    refine sq (r_extract (vs := #[.slice none 0 0, .slice none 0 0, .iface T70 (x71)]) rfl rfl) ?_
    refine sq (r_assign (v := .slice none 0 0) rfl) ?_
    refine sq (r_assign (v := .slice none 0 0) rfl) ?_
    refine sq (r_assign (v := .iface T70 (x71)) rfl) ?_
    refine wend ?_
    refine seqAny ?_
    refine seqRegion ?_
    refine sq (r_loadA (cs' := #[i64 (n), .slice (ownA kg19) g2.length cg20, .slice (ownA ko22) l1.length co23]) agg70 siz70 (H69.get (k := 4) rfl) (off := 0) rfl (by exact Nat.le_of_ble_eq_true rfl) (by rfl)) ?_
    have := H69.lt (List.mem_of_getElem? (i := 3) rfl) rfl
    have := H69.lt (List.mem_of_getElem? (i := 4) rfl) rfl
    refine c_call (vs := [.agg #[i64 (n), .slice (ownA kg19) g2.length cg20, .slice (ownA ko22) l1.length co23]]) call31 rfl (check_bad n g2 l1 (ownA kg19) (ownA ko22) cg20 co23 w64 (Chg.gl H69.chg (fun x => x) hG) (H69.rd (k := 2) rfl h1) (H69.rd (k := 1) rfl hSo26) (by omega) (by omega) hg) ?_
    rintro v74 w72 ⟨hEr75, hE76⟩
    have H77 := H69.ext hE76
    obtain ⟨T78, x79, rfl⟩ := hEr75.iface
    refine sq (r_neqIN isI27 rfl rfl) ?_
    refine wend ?_
    refine condTrue rfl ?_
    refine seqRegion ?_
    refine sq (r_move (v := .iface T62 (x63)) rfl) ?_
    refine sq (r_neqIN isI27 rfl rfl) ?_
    refine sq (r_move (v := .bool (true)) rfl) ?_
    refine sqAny (v := .iface T70 (x71)) (w' := w72) (wantedSome (d' := 82) (b := true) rfl rfl rfl) (r_move (v := .iface T70 (x71)) rfl) ?_
    refine sqAny (v := .bool (true)) (w' := w72) (wantedSome (d' := 82) (b := true) rfl rfl rfl) (r_neqIN isI27 rfl rfl) ?_
    refine sq (r_pickT (u := .bool (true)) rfl rfl) ?_
    refine sq (r_assign (v := .bool (true)) rfl) ?_
    refine wend ?_
    refine retAny ?_
    refine thenRet ?_
    refine retG (rs := [.tmp 4]) (vs := [.bool (true)]) rfl ⟨⟨rfl, rfl⟩, trivial⟩ ?_
    exact ⟨_, rfl, rfl, H77.chg⟩

theorem gfree_big1 (n : Int) (gs : List Gt) (ol : List Int) (ga oa : Option Addr) (gc oc : Nat) (δ : Lb) (zs : List Lb) (za : Option Addr) (zc : Nat) (first : BitVec 64) (hgc : gs.length ≤ gc) (hoc : ol.length ≤ oc) (hzc : zs.length ≤ zc) (w : World) (hG : Gl w) (hGs : Rd EG w ga gs) (hOl : Rd EI w oa ol) (hZ : Rd ELb w za zs) (hzs : zs.length ≤ 140737488355328) (h1s : ¬ gs.length ≤ 60) : Calls Tryd.prog 9 [.agg #[i64 (n), .slice ga gs.length gc, .slice oa ol.length oc], .agg #[u64 (δ.1), u64 (δ.2), .slice za zs.length zc, u64 (first)]].toArray w (Ret fun v w' => v = .bool true ∧ Ext w w') := by
  have H := Hp.start No w
  refine enter (n := 122) Tryd.func9 rfl rfl (Nat.le_of_ble_eq_true rfl) ?_
  refine seqRegion ?_
  refine q_box (v := .agg #[i64 (n), .slice ga gs.length gc, .slice oa ol.length oc]) (o := .cells #[i64 (n), .slice ga gs.length gc, .slice oa ol.length oc] 70 (0, 0)) H rfl (by rfl) ?_
  intro b1 w2 hb1 H3 hE4
  refine q_box (v := .agg #[u64 (δ.1), u64 (δ.2), .slice za zs.length zc, u64 (first)]) (o := .cells #[u64 (δ.1), u64 (δ.2), .slice za zs.length zc, u64 (first)] 94 (0, 0)) H3 rfl (by rfl) ?_
  intro b5 w6 hb5 H7 hE8
  refine sq (r_assign (v := .bool (false)) rfl) ?_
  refine wend ?_
  refine seqAny ?_
  refine seqRegion ?_
  refine c_call (vs := []) call41 rfl (gawake_ok w6 (Chg.gl H7.chg (fun x => x) hG)) ?_
  rintro _ w9 ⟨rfl, hE10⟩
  have H11 := H7.ext hE10
  refine sq (r_notT rfl) ?_
  refine sq (r_move (v := .bool (false)) rfl) ?_
  refine sqAny (v := .agg #[i64 (n), .slice ga gs.length gc, .slice oa ol.length oc]) (w' := w9) (wantedSome (d' := 17) (b := false) rfl rfl rfl) (r_loadA (cs' := #[i64 (n), .slice ga gs.length gc, .slice oa ol.length oc]) agg70 siz70 (H11.get (k := 1) rfl) (off := 0) rfl (by exact Nat.le_of_ble_eq_true rfl) (by rfl)) ?_
  refine caAny (wantedSome (d' := 17) (b := false) rfl rfl rfl) (Enters.callL (vs := [.agg #[i64 (n), .slice ga gs.length gc, .slice oa ol.length oc]]) call42 rfl) (small_no1 n gs ol ga oa gc oc w9 h1s) ?_
  rintro _ w12 ⟨rfl, hE13⟩
  have H14 := H11.ext hE13
  refine sqAny (v := .bool (true)) (w' := w12) (wantedSome (d' := 17) (b := false) rfl rfl rfl) (r_notF rfl) ?_
  refine sq (r_pickF (v := .bool (true)) rfl rfl) ?_
  refine wend ?_
  refine condTrue rfl ?_
  refine seqRegion ?_
  refine c_call (vs := []) call41 rfl (gawake_ok w12 (Chg.gl H14.chg (fun x => x) hG)) ?_
  rintro _ w15 ⟨rfl, hE16⟩
  have H17 := H14.ext hE16
  refine sq (r_assign (v := .bool (true)) rfl) ?_
  refine wend ?_
  refine retAny ?_
  refine thenRet ?_
  refine retG (rs := [.tmp 4]) (vs := [.bool (true)]) rfl ⟨⟨rfl, rfl⟩, trivial⟩ ?_
  exact ⟨_, rfl, rfl, H17.chg⟩

theorem gfree_big2 (n : Int) (gs : List Gt) (ol : List Int) (ga oa : Option Addr) (gc oc : Nat) (δ : Lb) (zs : List Lb) (za : Option Addr) (zc : Nat) (first : BitVec 64) (hgc : gs.length ≤ gc) (hoc : ol.length ≤ oc) (hzc : zs.length ≤ zc) (w : World) (hG : Gl w) (hGs : Rd EG w ga gs) (hOl : Rd EI w oa ol) (hZ : Rd ELb w za zs) (hzs : zs.length ≤ 140737488355328) (h1s : gs.length ≤ 60) (h2s : ¬ n ≤ 200) : Calls Tryd.prog 9 [.agg #[i64 (n), .slice ga gs.length gc, .slice oa ol.length oc], .agg #[u64 (δ.1), u64 (δ.2), .slice za zs.length zc, u64 (first)]].toArray w (Ret fun v w' => v = .bool true ∧ Ext w w') := by
  have H := Hp.start No w
  refine enter (n := 122) Tryd.func9 rfl rfl (Nat.le_of_ble_eq_true rfl) ?_
  refine seqRegion ?_
  refine q_box (v := .agg #[i64 (n), .slice ga gs.length gc, .slice oa ol.length oc]) (o := .cells #[i64 (n), .slice ga gs.length gc, .slice oa ol.length oc] 70 (0, 0)) H rfl (by rfl) ?_
  intro b1 w2 hb1 H3 hE4
  refine q_box (v := .agg #[u64 (δ.1), u64 (δ.2), .slice za zs.length zc, u64 (first)]) (o := .cells #[u64 (δ.1), u64 (δ.2), .slice za zs.length zc, u64 (first)] 94 (0, 0)) H3 rfl (by rfl) ?_
  intro b5 w6 hb5 H7 hE8
  refine sq (r_assign (v := .bool (false)) rfl) ?_
  refine wend ?_
  refine seqAny ?_
  refine seqRegion ?_
  refine c_call (vs := []) call41 rfl (gawake_ok w6 (Chg.gl H7.chg (fun x => x) hG)) ?_
  rintro _ w9 ⟨rfl, hE10⟩
  have H11 := H7.ext hE10
  refine sq (r_notT rfl) ?_
  refine sq (r_move (v := .bool (false)) rfl) ?_
  refine sqAny (v := .agg #[i64 (n), .slice ga gs.length gc, .slice oa ol.length oc]) (w' := w9) (wantedSome (d' := 17) (b := false) rfl rfl rfl) (r_loadA (cs' := #[i64 (n), .slice ga gs.length gc, .slice oa ol.length oc]) agg70 siz70 (H11.get (k := 1) rfl) (off := 0) rfl (by exact Nat.le_of_ble_eq_true rfl) (by rfl)) ?_
  refine caAny (wantedSome (d' := 17) (b := false) rfl rfl rfl) (Enters.callL (vs := [.agg #[i64 (n), .slice ga gs.length gc, .slice oa ol.length oc]]) call42 rfl) (small_no2 n gs ol ga oa gc oc w9 h1s h2s) ?_
  rintro _ w12 ⟨rfl, hE13⟩
  have H14 := H11.ext hE13
  refine sqAny (v := .bool (true)) (w' := w12) (wantedSome (d' := 17) (b := false) rfl rfl rfl) (r_notF rfl) ?_
  refine sq (r_pickF (v := .bool (true)) rfl rfl) ?_
  refine wend ?_
  refine condTrue rfl ?_
  refine seqRegion ?_
  refine c_call (vs := []) call41 rfl (gawake_ok w12 (Chg.gl H14.chg (fun x => x) hG)) ?_
  rintro _ w15 ⟨rfl, hE16⟩
  have H17 := H14.ext hE16
  refine sq (r_assign (v := .bool (true)) rfl) ?_
  refine wend ?_
  refine retAny ?_
  refine thenRet ?_
  refine retG (rs := [.tmp 4]) (vs := [.bool (true)]) rfl ⟨⟨rfl, rfl⟩, trivial⟩ ?_
  exact ⟨_, rfl, rfl, H17.chg⟩

theorem gfree_ok (n : Int) (gs : List Gt) (ol : List Int) (ga oa : Option Addr) (gc oc : Nat) (δ : Lb) (zs : List Lb) (za : Option Addr) (zc : Nat) (first : BitVec 64) (hgc : gs.length ≤ gc) (hoc : ol.length ≤ oc) (hzc : zs.length ≤ zc) (w : World) (hG : Gl w) (hGs : Rd EG w ga gs) (hOl : Rd EI w oa ol) (hZ : Rd ELb w za zs) (hzs : zs.length ≤ 140737488355328) : Calls Tryd.prog 9 [.agg #[i64 (n), .slice ga gs.length gc, .slice oa ol.length oc], .agg #[u64 (δ.1), u64 (δ.2), .slice za zs.length zc, u64 (first)]].toArray w (Ret fun v w' => v = .bool true ∧ Ext w w') := by
  by_cases h1s : gs.length ≤ 60
  · by_cases h2s : n ≤ 200
    · by_cases hg : IsC n (frL (gs.take 4200) (gs.take 4200).length) (ol.take 80)
      · exact gfree_good n gs ol ga oa gc oc δ zs za zc first hgc hoc hzc w hG hGs hOl hZ hzs h1s h2s hg
      · exact gfree_bad n gs ol ga oa gc oc δ zs za zc first hgc hoc hzc w hG hGs hOl hZ hzs h1s h2s hg
    · exact gfree_big2 n gs ol ga oa gc oc δ zs za zc first hgc hoc hzc w hG hGs hOl hZ hzs h1s h2s
  · exact gfree_big1 n gs ol ga oa gc oc δ zs za zc first hgc hoc hzc w hG hGs hOl hZ hzs h1s
end Go.Proofs.YteofdmdpaejgaaaDoor.Gb
