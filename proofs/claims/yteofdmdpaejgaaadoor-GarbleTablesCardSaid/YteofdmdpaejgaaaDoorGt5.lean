/- What the claim has need of: Garb3, Garb4, Garb5, Garb6, Garb7, Garb8, Garb9, Garb10. -/
import Derived.Test.YteofdmdpaejgaaaDoorGt4
namespace Go.Proofs.YteofdmdpaejgaaaDoor.Gb
open Go Go.Proofs.YteofdmdpaejgaaaDoor.Vc Go.Proofs.YteofdmdpaejgaaaDoor.Er Go.Proofs.YteofdmdpaejgaaaDoor.Circ
set_option linter.unusedVariables false
theorem call85 : callable Tryd.prog 85 = true := by kernel_rfl
theorem call87 : callable Tryd.prog 87 = true := by kernel_rfl
theorem call88 : callable Tryd.prog 88 = true := by kernel_rfl
theorem call89 : callable Tryd.prog 89 = true := by kernel_rfl
theorem call90 : callable Tryd.prog 90 = true := by kernel_rfl
theorem fits99 : Fits Tryd.prog 99 EG := fitsG (by kernel_rfl) (by kernel_rfl)
theorem fld70_1 : fld Tryd.prog 70 1 = some (1, 1, 68) := by kernel_rfl
theorem fld99_0 : fld Tryd.prog 99 0 = some (0, 1, 97) := by kernel_rfl
theorem fld99_1 : fld Tryd.prog 99 1 = some (1, 1, 3) := by kernel_rfl
theorem fld99_2 : fld Tryd.prog 99 2 = some (2, 1, 3) := by kernel_rfl
theorem mixed : Tryd.prog.follows .mixedOrders = true := by kernel_rfl
theorem one68 : isOne Tryd.prog 68 = true := by kernel_rfl
theorem one97 : isOne Tryd.prog 97 = true := by kernel_rfl
theorem siz99 : siz Tryd.prog 99 = some 3 := by kernel_rfl
theorem sli68 : sli Tryd.prog 68 = some (99, 3) := by kernel_rfl
theorem und3 : Tryd.prog.underlying 3 = some (.int .i64) := by kernel_rfl
theorem und32 : Tryd.prog.underlying 32 = some (.int .u64) := by kernel_rfl
theorem zer99 : zer Tryd.prog 99 = some (.agg #[.int .i64 0, .int .i64 0, .int .i64 0]) := by kernel_rfl
set_option maxRecDepth 20000 in
set_option maxHeartbeats 4000000 in
theorem garble_ok (n : Int) (gs : List Gt) (ol : List Int) (ga oa : Option Addr) (gc oc : Nat) (δ : Lb) (zs : List Lb) (za : Option Addr) (zc : Nat) (first : BitVec 64) (w : World) (hG : Gl w) (hGs : Rd EG w ga gs) (hOl : Rd EI w oa ol) (hgl : gs.length ≤ 140737488355328) (hol : ol.length ≤ 140737488355328) (hZ : Rd ELb w za zs) (hg : IsC n gs ol) (hm : (zs.length : Int) = n) (hc : col δ = true) : Calls Tryd.prog 45 [.agg #[i64 n, .slice ga gs.length gc, .slice oa ol.length oc], .agg (cel E64 [(δ).1, (δ).2]).toArray, .slice za zs.length zc, u64 first].toArray w (Ret fun v w' => ∃ (k1 : Option Nat) (c1 : Nat) (z1 : List Value) (k2 : Option Nat) (c2 : Nat) (z2 : List Value), v = .tuple #[.slice (ownA k1) ((gS lhash δ first gs zs gs.length).2).length c1, .slice (ownA k2) (oL (gS lhash δ first gs zs gs.length).1 ol ol.length).length c2, .nilIface] ∧ Sl ELb k1 ((gS lhash δ first gs zs gs.length).2) c1 z1 ∧ Sl ELb k2 (oL (gS lhash δ first gs zs gs.length).1 ol ol.length) c2 z2 ∧ Hp No w w' [(k1, sob ELb 38 ((gS lhash δ first gs zs gs.length).2) z1), (k2, sob ELb 38 (oL (gS lhash δ first gs zs gs.length).1 ol ol.length) z2)]) := by
 subst hm
 have hgt := hg.gates
 have hot := hg.outs
 have hhi := hg.hi
 have H := Hp.start No w
 refine enter (n := 152) Tryd.func45 rfl rfl (bLe rfl) ?_
 refine sR ?_
 refine q_box (v := .agg #[i64 (zs.length : Nat), .slice ga gs.length gc, .slice oa ol.length oc]) (o := .cells #[i64 (zs.length : Nat), .slice ga gs.length gc, .slice oa ol.length oc] 70 (0, 0)) H rfl (by rfl) ?_
 intro b1 w2 hb1 H3 hE4
 refine q_box (v := .agg (cel E64 [(δ).1, (δ).2]).toArray) (o := lO (δ)) H3 rfl (by rfl) ?_
 intro b5 w6 hb5 H7 hE8
 refine sA (.slice none 0 0) rfl ?_
 refine sA (.slice none 0 0) rfl ?_
 refine sA (.nilIface) rfl ?_
 refine wend ?_
 refine seqAny ?_
 refine sR ?_
 refine sq (r_loadA (cs' := #[i64 (zs.length : Nat), .slice ga gs.length gc, .slice oa ol.length oc]) agg70 siz70 (H7.get (k := 1) rfl) (off := 0) rfl (by exact bLe rfl) (by rfl)) ?_
 refine sM (.slice za zs.length zc) rfl ?_
 refine sq (r_lenS sli92 (a := za) (m := zs.length) (c := zc) rfl) ?_
 refine c_call (vs := [.agg #[i64 (zs.length : Nat), .slice ga gs.length gc, .slice oa ol.length oc], i64 (zs.length : Nat)]) call83 rfl (look_good (zs.length : Nat) gs ol ga oa gc oc zs.length w6 (Chg.gl H7.chg (fun x => x) hG) (hGs.ext H7.chg) (hOl.ext H7.chg) (by omega) (by omega) hg (by omega)) ?_
 rintro _ w9 ⟨rfl, hE10⟩
 have H11 := H7.ext hE10
 refine sA (.nilIface) rfl ?_
 refine wend ?_
 refine sR ?_
 refine sM (.nilIface) rfl ?_
 refine sq (r_neqNN isI27 rfl rfl) ?_
 refine wend ?_
 refine condFalse rfl ?_
 refine skipAny ?_
 refine thenNormal ?_
 refine seqAny ?_
 refine sR ?_
 refine sq (r_loadA (cs' := (cel E64 ([(δ).1, (δ).2])).toArray) agg38 siz38 (H11.get (k := 0) rfl) (off := 0) rfl (by exact bLe rfl) (by exact ext_all rfl)) ?_
 refine c_call (vs := [lV (δ)]) call84 rfl (col_ok δ w9) ?_
 rintro _ w12 ⟨rfl, hE13⟩
 have H14 := H11.ext hE13
 refine sq ((r_not (b := col δ) rfl).as (v' := .bool (false)) (by rw [hc]; rfl)) ?_
 refine wend ?_
 refine condFalse rfl ?_
 refine skipAny ?_
 refine thenNormal ?_
 refine sR ?_
 refine c_call (vs := []) call85 rfl (Aes.fixed_ok w12) ?_
 rintro _ w15 ⟨⟨b17, rfl, hb18, ho19⟩, hE20⟩
 have H21 := H14.add1 hE20 hb18 ho19
 refine sA (pT b17) rfl ?_
 refine wend ?_
 refine sR ?_
 refine sq (r_fieldAddr (off' := 0) fld70_0 (by decide) (b := b1) (off := 0) rfl (by omega)) ?_
 refine sq (r_loadC (v := i64 (zs.length : Nat)) one3 (H21.get (k := 2) rfl) (off := 0) rfl (by rfl)) ?_
 refine sq (r_fieldAddr (off' := 1) fld70_1 (by decide) (b := b1) (off := 0) rfl (by omega)) ?_
 refine sq (r_loadC (v := .slice ga gs.length gc) one68 (H21.get (k := 2) rfl) (off := 1) rfl (by rfl)) ?_
 refine sq (r_lenS sli68 (a := ga) (m := gs.length) (c := gc) rfl) ?_
 refine sq ((r_addI (a := (zs.length : Nat)) (b := (gs.length : Nat)) rfl rfl (by omega)).as (v' := i64 (((zs.length + gs.length) : Nat))) (by rfl)) ?_
 refine q_makeSlice (E := ELb) (m := 0) (c := (zs.length + gs.length)) (z0 := lb0) H21 sli92 zer38 rfl byt38 rfl rfl (by first | rfl | omega | (simp; omega)) (by first | rfl | omega | (simp; omega)) (by omega) (by omega) ?_
 intro b22 w24 hS23 H25 hE26
 refine sM (.slice za zs.length zc) rfl ?_
 refine q_append (E := ELb) (k := 0) (l := List.replicate 0 lb0) (l2 := zs) H25 rfl hS23 sli92 zer38 rfl byt38 (hZ.ext H25.chg) rfl (by simp) rfl (by rfl) (by omega) ?_
 intro key27 c28 sp29 w31 hS30 hne33 H32
 have H32' := H32.as (L' := [(key27, sob ELb 38 ((List.replicate 0 lb0) ++ zs) sp29), (some b17, .cells (cel E8 (AesSpec.cipher AesSpec.fixKey)).toArray 215 (0, 0)), (some b5, lO (δ)), (some b1, .cells #[i64 (zs.length : Nat), .slice ga gs.length gc, .slice oa ol.length oc] 70 (0, 0))]) rfl
 clear H32
 have e34 : (List.replicate 0 lb0) ++ zs = zs := by rfl
 have hS35 := hS30
 rw [e34] at hS35
 have H36 := H32'.as (L' := [(key27, sob ELb 38 zs sp29), (some b17, .cells (cel E8 (AesSpec.cipher AesSpec.fixKey)).toArray 215 (0, 0)), (some b5, lO (δ)), (some b1, .cells #[i64 (zs.length : Nat), .slice ga gs.length gc, .slice oa ol.length oc] 70 (0, 0))]) (by rw [e34])
 refine sA (.slice (ownA key27) (0 + zs.length) c28) rfl ?_
 refine wend ?_
 refine sR ?_
 refine sA (.slice none 0 0) rfl ?_
 refine wend ?_
 refine seqAny ?_
 refine sR ?_
 refine sq (r_fieldAddr (off' := 1) fld70_1 (by decide) (b := b1) (off := 0) rfl (by omega)) ?_
 refine sq (r_loadC (v := .slice ga gs.length gc) one68 (H36.get (k := 3) rfl) (off := 1) rfl (by rfl)) ?_
 refine sq (r_lenS sli68 (a := ga) (m := gs.length) (c := gc) rfl) ?_
 refine sM (i64 ((0 : Int))) rfl ?_
 refine wend ?_
 refine blockAny ?_
 refine loopAny (σ := Nat × Option Nat × Nat × List Value × Option Nat × Nat × List Value × Nat) (fun (i, k1, c1, z1, k2, c2, z2, m) => [(3, u64 (first)), (4, pT b1), (5, pT b5), (12, pT b17), (13, .slice (ownA k1) (zs.length + i) c1), (14, .slice (ownA k2) m c2), (47, .slice ga gs.length gc), (48, i64 (gs.length : Nat)), (49, i64 (i : Nat))]) (fun (i, k1, c1, z1, k2, c2, z2, m) w' => (i ≤ gs.length ∧ Sl ELb k1 (gS lhash δ first gs zs i).1 c1 z1 ∧ Sl ELb k2 (gS lhash δ first gs zs i).2 c2 z2 ∧ m = (gS lhash δ first gs zs i).2.length) ∧ Hp No w w' [(k1, sob ELb 38 ((gS lhash δ first gs zs i).1) z1), (k2, sob ELb 38 ((gS lhash δ first gs zs i).2) z2), (some b17, .cells (cel E8 (AesSpec.cipher AesSpec.fixKey)).toArray 215 (0, 0)), (some b1, .cells #[i64 (zs.length : Nat), .slice ga gs.length gc, .slice oa ol.length oc] 70 (0, 0)), (some b5, lO (δ))]) (fun (i, k1, c1, z1, k2, c2, z2, m) => gs.length - i) ((0, key27, c28, sp29, none, 0, [], 0)) ?_ ?_ ?_
 ·exact ⟨rfl, rfl, rfl, rfl, congrArg (fun q => Value.slice _ q _) (by omega), rfl, rfl, rfl, rfl, trivial⟩
 ·exact ⟨⟨Nat.zero_le _, hS35, Sl.none, rfl⟩, ((H36.nil (sob ELb 38 [] [])).pick 5 [1, 0, 2, 4, 3] (by decide) (by decide))⟩
 rintro ⟨i, k1, c1, z1, k2, c2, z2, m⟩ ρ w37 ⟨⟨hi, h1, h2, rfl⟩, HL⟩
 have hwl := gS_len (h := lhash) (δ := δ) (first := first) (gs := gs) (zs := zs) i
 have htl := gS_tab (h := lhash) (δ := δ) (first := first) (gs := gs) (zs := zs) i
 refine sR ?_
 refine sq (r_lssI (a := (i : Nat)) (b := (gs.length : Nat)) rfl rfl) ?_
 refine wend ?_
 refine seqAny ?_
 refine condProp (((i : Nat) : Int) < (gs.length : Nat)) rfl (fun c50 => ?_) (fun c50 => ?_)
 ·skip
  have hgi := hg.gok i (by omega)
  unfold gokP at hgi
  refine skipAny ?_
  refine thenNormal ?_
  refine seqAny ?_
  refine blockAny ?_
  refine sR ?_
  refine sq (r_idxS (E := EG) (l := gs) (j := i) sli68 (hGs.ext HL.chg) rfl rfl (by first | rfl | omega | (simp; omega)) (by rfl) (by omega)) ?_
  refine sq ((r_ldS (E := EG) (l := gs) (j := i) (v := (gs).getD i g0) fits99 (hGs.ext HL.chg) rfl rfl (at_getD (by omega))).as (v' := .agg #[i64 (((gs).getD i g0).k), i64 (((gs).getD i g0).a), i64 (((gs).getD i g0).b)]) rfl) ?_
  refine q_alloc (o := .cells #[i64 ((0 : Int)), i64 ((0 : Int)), i64 ((0 : Int))] 99 (0, 0)) HL zer99 (by kernel_rfl) ?_
  intro b39 w40 hb39 H41 hE42
  refine d_store (k := 0) (v := .agg #[i64 (((gs).getD i g0).k), i64 (((gs).getD i g0).a), i64 (((gs).getD i g0).b)]) (cs' := #[i64 (((gs).getD i g0).k), i64 (((gs).getD i g0).a), i64 (((gs).getD i g0).b)]) H41 rfl rfl rfl siz99 (by rfl) (by intro u hu; simp [Value.cells] at hu; first | (subst hu; rfl) | (rcases hu with rfl | rfl | rfl <;> rfl)) (by exact bLe rfl) (by rfl) ?_
  intro w43 H44 hC45
  have H44' := H44.as (L' := [(some b39, .cells #[i64 (((gs).getD i g0).k), i64 (((gs).getD i g0).a), i64 (((gs).getD i g0).b)] 99 (0, 0)), (k1, sob ELb 38 ((gS lhash δ first gs zs i).1) z1), (k2, sob ELb 38 ((gS lhash δ first gs zs i).2) z2), (some b17, .cells (cel E8 (AesSpec.cipher AesSpec.fixKey)).toArray 215 (0, 0)), (some b1, .cells #[i64 (zs.length : Nat), .slice ga gs.length gc, .slice oa ol.length oc] 70 (0, 0)), (some b5, lO (δ))]) rfl
  clear H44
  refine wend ?_
  refine sR ?_
  refine sM (.slice (ownA k1) (zs.length + i) c1) rfl ?_
  refine sq (r_fieldAddr (off' := 1) fld99_1 (by decide) (b := b39) (off := 0) rfl (by omega)) ?_
  refine sq (r_loadC (v := i64 (((gs).getD i g0).a)) one3 (H44'.get (k := 0) rfl) (off := 1) rfl (by rfl)) ?_
  refine sq (r_idxS (E := ELb) (l := (gS lhash δ first gs zs i).1) (j := (gs.getD i g0).a.toNat) sli92 (H44'.rd (k := 1) rfl h1) rfl rfl (by omega) (by rw [gS_len]) (by omega)) ?_
  refine sq ((r_ldS (E := ELb) (l := (gS lhash δ first gs zs i).1) (j := (gs.getD i g0).a.toNat) (v := ((gS lhash δ first gs zs i).1).getD ((gs.getD i g0).a.toNat) lb0) fits38 (H44'.rd (k := 1) rfl h1) rfl rfl (at_getD (by omega))).as (v' := .agg (cel E64 [(((gS lhash δ first gs zs i).1).getD ((gs.getD i g0).a.toNat) lb0).1, (((gS lhash δ first gs zs i).1).getD ((gs.getD i g0).a.toNat) lb0).2]).toArray) rfl) ?_
  refine q_alloc (o := .cells (cel E64 ([0#64, 0#64])).toArray 38 (0, 0)) H44' zer38 (by kernel_rfl) ?_
  intro b46 w47 hb46 H48 hE49
  refine d_store (k := 0) (v := .agg (cel E64 [(((gS lhash δ first gs zs i).1).getD ((gs.getD i g0).a.toNat) lb0).1, (((gS lhash δ first gs zs i).1).getD ((gs.getD i g0).a.toNat) lb0).2]).toArray) (cs' := (cel E64 ([(((gS lhash δ first gs zs i).1).getD ((gs.getD i g0).a.toNat) lb0).1, (((gS lhash δ first gs zs i).1).getD ((gs.getD i g0).a.toNat) lb0).2])).toArray) H48 rfl rfl rfl siz38 (by exact celSize (by first | rfl | (show _ * 1 = _; omega))) (by exact celOne _) (by rw [List.size_toArray, cel_length]; show _ ≤ _ * 1; first | omega | (simp only [List.length_set]; omega) | exact bLe rfl | (simp <;> omega)) (by exact putAll (by first | rfl | omega | (simp <;> omega))) ?_
  intro w50 H51 hC52
  have H51' := H51.as (L' := [(some b46, lO (((gS lhash δ first gs zs i).1).getD ((gs.getD i g0).a.toNat) lb0)), (some b39, .cells #[i64 (((gs).getD i g0).k), i64 (((gs).getD i g0).a), i64 (((gs).getD i g0).b)] 99 (0, 0)), (k1, sob ELb 38 ((gS lhash δ first gs zs i).1) z1), (k2, sob ELb 38 ((gS lhash δ first gs zs i).2) z2), (some b17, .cells (cel E8 (AesSpec.cipher AesSpec.fixKey)).toArray 215 (0, 0)), (some b1, .cells #[i64 (zs.length : Nat), .slice ga gs.length gc, .slice oa ol.length oc] 70 (0, 0)), (some b5, lO (δ))]) rfl
  clear H51
  obtain ⟨la, hla⟩ : ∃ x : Lb, x = (((gS lhash δ first gs zs i).1).getD (gs.getD i g0).a.toNat lb0) := ⟨_, rfl⟩
  rw [← hla] at H51' ⊢
  refine wend ?_
  refine sR ?_
  refine sq (r_fieldAddr (off' := 0) fld99_0 (by decide) (b := b39) (off := 0) rfl (by omega)) ?_
  refine sq (r_loadC (v := i64 (((gs).getD i g0).k)) one97 (H51'.get (k := 1) rfl) (off := 0) rfl (by rfl)) ?_
  refine wend ?_
  refine blockAny ?_
  refine sR ?_
  refine sq (r_eqlI (a := ((gs).getD i g0).k) (b := (3 : Int)) rfl rfl) ?_
  refine sA (.bool (decide ((((gs).getD i g0).k : Int) = (3 : Int)))) rfl ?_
  refine wend ?_
  refine condProp ((((gs).getD i g0).k : Int) = (3 : Int)) rfl (fun hk => ?_) (fun hk => ?_)
  ·skip
   refine oneRegion ?_
   refine sM (.slice (ownA k1) (zs.length + i) c1) rfl ?_
   refine sq (r_loadA (cs' := (cel E64 ([(la).1, (la).2])).toArray) agg38 siz38 (H51'.get (k := 0) rfl) (off := 0) rfl (by exact bLe rfl) (by exact ext_all rfl)) ?_
   refine sq (r_loadA (cs' := (cel E64 ([(δ).1, (δ).2])).toArray) agg38 siz38 (H51'.get (k := 6) rfl) (off := 0) rfl (by exact bLe rfl) (by exact ext_all rfl)) ?_
   refine c_call (vs := [lV (la), lV (δ)]) call86 rfl (lxor_ok la δ w50) ?_
   rintro _ w53 ⟨rfl, hE54⟩
   have H55 := H51'.ext hE54
   refine q_buildSlice (E := ELb) (l := ([lx la δ] : List LbT)) H55 sli92 zer38 (bLe rfl) (ps := [(0, .agg (cel E64 [(lx la δ).1, (lx la δ).2]).toArray)]) rfl (by exact fillAll rfl rfl) rfl ?_
   intro b56 w58 hS57 H59 hE60
   refine q_append (E := ELb) (k := 3) (l := (gS lhash δ first gs zs i).1) (l2 := ([lx la δ] : List LbT)) H59 rfl h1 sli92 zer38 rfl byt38 (H59.rd (k := 0) rfl hS57) rfl (by rw [gS_len]) rfl (by rfl) (by omega) ?_
   intro key61 c62 sp63 w65 hS64 hne67 H66
   have H66' := H66.as (L' := [((some b56), sob ELb 38 ([lx la δ] : List LbT) ([])), (some b46, lO (la)), (some b39, .cells #[i64 (((gs).getD i g0).k), i64 (((gs).getD i g0).a), i64 (((gs).getD i g0).b)] 99 (0, 0)), (key61, sob ELb 38 (((gS lhash δ first gs zs i).1) ++ ([lx la δ] : List LbT)) sp63), (k2, sob ELb 38 ((gS lhash δ first gs zs i).2) z2), (some b17, .cells (cel E8 (AesSpec.cipher AesSpec.fixKey)).toArray 215 (0, 0)), (some b1, .cells #[i64 (zs.length : Nat), .slice ga gs.length gc, .slice oa ol.length oc] 70 (0, 0)), (some b5, lO (δ))]) rfl
   clear H66
   have e68 : ((gS lhash δ first gs zs i).1) ++ ([lx la δ] : List LbT) = (gS lhash δ first gs zs (i + 1)).1 := by rw [gS, gstep, if_pos hk, hla]
   have hS69 := hS64
   rw [e68] at hS69
   have H70 := H66'.as (L' := [((some b56), sob ELb 38 ([lx la δ] : List LbT) ([])), (some b46, lO (la)), (some b39, .cells #[i64 (((gs).getD i g0).k), i64 (((gs).getD i g0).a), i64 (((gs).getD i g0).b)] 99 (0, 0)), (key61, sob ELb 38 ((gS lhash δ first gs zs (i + 1)).1) sp63), (k2, sob ELb 38 ((gS lhash δ first gs zs i).2) z2), (some b17, .cells (cel E8 (AesSpec.cipher AesSpec.fixKey)).toArray 215 (0, 0)), (some b1, .cells #[i64 (zs.length : Nat), .slice ga gs.length gc, .slice oa ol.length oc] 70 (0, 0)), (some b5, lO (δ))]) (by rw [e68])
   refine sA (.slice (ownA key61) ((zs.length + i) + 1) c62) rfl ?_
   refine wnil ?_
   refine blockNormal ?_
   refine blockNormal ?_
   refine thenNormal ?_
   refine oneRegion ?_
   refine sq (r_addI (a := (i : Nat)) (b := (1 : Int)) rfl rfl (by omega)) ?_
   refine sM (i64 ((i : Nat) + (1 : Int))) rfl ?_
   refine wnil ?_
   refine thenNormal ?_
   have e71 : (gS lhash δ first gs zs i).2 = (gS lhash δ first gs zs (i + 1)).2 := by rw [gS, gstep, if_pos hk]
   have hS72 := h2
   rw [e71] at hS72
   have H73 := H70.as (L' := [((some b56), sob ELb 38 ([lx la δ] : List LbT) ([])), (some b46, lO (la)), (some b39, .cells #[i64 (((gs).getD i g0).k), i64 (((gs).getD i g0).a), i64 (((gs).getD i g0).b)] 99 (0, 0)), (key61, sob ELb 38 ((gS lhash δ first gs zs (i + 1)).1) sp63), (k2, sob ELb 38 ((gS lhash δ first gs zs (i + 1)).2) z2), (some b17, .cells (cel E8 (AesSpec.cipher AesSpec.fixKey)).toArray 215 (0, 0)), (some b1, .cells #[i64 (zs.length : Nat), .slice ga gs.length gc, .slice oa ol.length oc] 70 (0, 0)), (some b5, lO (δ))]) (by rw [e71])
   exact ⟨(i + 1, key61, c62, sp63, k2, c2, z2, (gS lhash δ first gs zs i).2.length), _, rfl, ⟨rfl, rfl, rfl, rfl, rfl, rfl, rfl, rfl, rfl, trivial⟩, ⟨⟨by omega, hS69, hS72, by rw [gS, gstep, if_pos hk]⟩, (((H73.dropk 2).dropk 1).dropk 0)⟩, by show gs.length - (i + 1) < gs.length - i; omega⟩
  ·skip
   have hn3 := hk
   refine sR ?_
   refine sq (r_eqlI (a := ((gs).getD i g0).k) (b := (1 : Int)) rfl rfl) ?_
   refine sA (.bool (decide ((((gs).getD i g0).k : Int) = (1 : Int)))) rfl ?_
   refine wend ?_
   refine condProp ((((gs).getD i g0).k : Int) = (1 : Int)) rfl (fun hk1 => ?_) (fun hk1 => ?_)
   ·skip
    have hk := hk1
    refine drawE (m := 11) [0, 0, 0, 0, 8, 28, 60, 126, 254, 511, 1023] [8, 9] (fun bs vs w' => match bs, vs with | [false, false], [_, _] => Hp No w w' [(some b46, lO (la)), (some b39, .cells #[i64 (((gs).getD i g0).k), i64 (((gs).getD i g0).a), i64 (((gs).getD i g0).b)] 99 (0, 0)), (k1, sob ELb 38 ((gS lhash δ first gs zs i).1) z1), (k2, sob ELb 38 ((gS lhash δ first gs zs i).2) z2), (some b17, .cells (cel E8 (AesSpec.cipher AesSpec.fixKey)).toArray 215 (0, 0)), (some b1, .cells #[i64 (zs.length : Nat), .slice ga gs.length gc, .slice oa ol.length oc] 70 (0, 0)), (some b5, lO (δ))] | [true, false], [v8, _] => ∃ (b75 : Nat), v8 = .slice (ownA (some b75)) 1 1 ∧ Sl ELb (some b75) ([lx la (((gS lhash δ first gs zs i).1).getD ((gs.getD i g0).b.toNat) lb0)] : List LbT) 1 ([]) ∧ Hp No w w' [((some b75), sob ELb 38 ([lx la (((gS lhash δ first gs zs i).1).getD ((gs.getD i g0).b.toNat) lb0)] : List LbT) ([])), (some b46, lO (la)), (some b39, .cells #[i64 (((gs).getD i g0).k), i64 (((gs).getD i g0).a), i64 (((gs).getD i g0).b)] 99 (0, 0)), (k1, sob ELb 38 ((gS lhash δ first gs zs i).1) z1), (k2, sob ELb 38 ((gS lhash δ first gs zs i).2) z2), (some b17, .cells (cel E8 (AesSpec.cipher AesSpec.fixKey)).toArray 215 (0, 0)), (some b1, .cells #[i64 (zs.length : Nat), .slice ga gs.length gc, .slice oa ol.length oc] 70 (0, 0)), (some b5, lO (δ))] | [true, true], [v8, v9] => ∃ (b75 : Nat) (key81 : Option Nat) (c82 : Nat) (sp83 : List Value), v8 = .slice (ownA (some b75)) 1 1 ∧ v9 = .slice (ownA key81) ((zs.length + i) + 1) c82 ∧ Sl ELb (some b75) ([lx la (((gS lhash δ first gs zs i).1).getD ((gs.getD i g0).b.toNat) lb0)] : List LbT) 1 ([]) ∧ Sl ELb key81 ((gS lhash δ first gs zs (i + 1)).1) c82 sp83 ∧ Hp No w w' [((some b75), sob ELb 38 ([lx la (((gS lhash δ first gs zs i).1).getD ((gs.getD i g0).b.toNat) lb0)] : List LbT) ([])), (some b46, lO (la)), (some b39, .cells #[i64 (((gs).getD i g0).k), i64 (((gs).getD i g0).a), i64 (((gs).getD i g0).b)] 99 (0, 0)), (key81, sob ELb 38 ((gS lhash δ first gs zs (i + 1)).1) sp83), (k2, sob ELb 38 ((gS lhash δ first gs zs i).2) z2), (some b17, .cells (cel E8 (AesSpec.cipher AesSpec.fixKey)).toArray 215 (0, 0)), (some b1, .cells #[i64 (zs.length : Nat), .slice ga gs.length gc, .slice oa ol.length oc] 70 (0, 0)), (some b5, lO (δ))] | _, _ => False) mixed (by kernel_rfl) (by kernel_rfl) H51'.drew ?_
    refine WalkE.look rfl (fun _ => .slice (ownA k1) (zs.length + i) c1) (fun _ _ _ => rfl) (fun L r _ uw _ _ _ _ => Gives.run rfl (r_move (v := .slice (ownA k1) (zs.length + i) c1) rfl) ⟨rfl, rfl⟩) ?_
    refine WalkE.look rfl (fun _ => lV (la)) (fun _ _ _ => rfl) (fun L r uw0 uw hAn hDn hF hEx => ?_) ?_
    ·skip
     have b8 := hDn 8 (by decide) rfl
     have b9 := hDn 9 (by decide) rfl
     have hb := mp2 b8 b9
     rw [hb] at hF
     have HH := hF
     replace HH := HH.ext hEx
     exact Gives.run rfl (r_loadA (cs' := (cel E64 ([(la).1, (la).2])).toArray) agg38 siz38 (HH.get (k := 0) rfl) (off := 0) rfl (by exact bLe rfl) (by exact ext_all rfl)) ⟨rfl, rfl⟩
    refine WalkE.look rfl (fun _ => .slice (ownA k1) (zs.length + i) c1) (fun _ _ _ => rfl) (fun L r _ uw _ _ _ _ => Gives.run rfl (r_move (v := .slice (ownA k1) (zs.length + i) c1) rfl) ⟨rfl, rfl⟩) ?_
    refine WalkE.look rfl (fun _ => .pointer (some ⟨b39, 2, none⟩)) (fun _ _ _ => rfl) (fun L r _ uw _ _ _ _ => Gives.run rfl (r_fieldAddr (off' := 2) fld99_2 (by decide) (b := b39) (off := 0) rfl (by omega)) ⟨rfl, rfl⟩) ?_
    refine WalkE.look rfl (fun _ => i64 (((gs).getD i g0).b)) (fun _ _ _ => rfl) (fun L r uw0 uw hAn hDn hF hEx => ?_) ?_
    ·skip
     have b8 := hDn 8 (by decide) rfl
     have b9 := hDn 9 (by decide) rfl
     have hb := mp2 b8 b9
     rw [hb] at hF
     have HH := hF
     replace HH := HH.ext hEx
     exact Gives.run rfl (r_loadC (v := i64 (((gs).getD i g0).b)) one3 (HH.get (k := 1) rfl) (off := 2) rfl (by rfl)) ⟨rfl, rfl⟩
    refine WalkE.look rfl (fun _ => .pointer (adr (ownA k1) (((gs.getD i g0).b.toNat) * 2))) (fun _ _ _ => rfl) (fun L r uw0 uw hAn hDn hF hEx => ?_) ?_
    ·skip
     have b8 := hDn 8 (by decide) rfl
     have b9 := hDn 9 (by decide) rfl
     have hb := mp2 b8 b9
     rw [hb] at hF
     have HH := hF
     replace HH := HH.ext hEx
     exact Gives.run rfl (r_idxS (E := ELb) (l := (gS lhash δ first gs zs i).1) (j := (gs.getD i g0).b.toNat) sli92 (HH.rd (k := 2) rfl h1) rfl rfl (by omega) (by rw [gS_len]) (by omega)) ⟨rfl, rfl⟩
    refine WalkE.look rfl (fun _ => .agg (cel E64 [(((gS lhash δ first gs zs i).1).getD ((gs.getD i g0).b.toNat) lb0).1, (((gS lhash δ first gs zs i).1).getD ((gs.getD i g0).b.toNat) lb0).2]).toArray) (fun _ _ _ => rfl) (fun L r uw0 uw hAn hDn hF hEx => ?_) ?_
    ·skip
     have b8 := hDn 8 (by decide) rfl
     have b9 := hDn 9 (by decide) rfl
     have hb := mp2 b8 b9
     rw [hb] at hF
     have HH := hF
     replace HH := HH.ext hEx
     exact Gives.run rfl ((r_ldS (E := ELb) (l := (gS lhash δ first gs zs i).1) (j := (gs.getD i g0).b.toNat) (v := ((gS lhash δ first gs zs i).1).getD ((gs.getD i g0).b.toNat) lb0) fits38 (HH.rd (k := 2) rfl h1) rfl rfl (at_getD (by omega))).as (v' := .agg (cel E64 [(((gS lhash δ first gs zs i).1).getD ((gs.getD i g0).b.toNat) lb0).1, (((gS lhash δ first gs zs i).1).getD ((gs.getD i g0).b.toNat) lb0).2]).toArray) rfl) ⟨rfl, rfl⟩
    refine WalkE.call rfl (fun _ => .agg (cel E64 [(lx la (((gS lhash δ first gs zs i).1).getD ((gs.getD i g0).b.toNat) lb0)).1, (lx la (((gS lhash δ first gs zs i).1).getD ((gs.getD i g0).b.toNat) lb0)).2]).toArray) (fun _ _ _ => rfl) (fun L r uw0 uw hAn hDn hF hEx => ?_) ?_
    ·skip
     have b8 := hDn 8 (by decide) rfl
     have b9 := hDn 9 (by decide) rfl
     have hb := mp2 b8 b9
     rw [hb] at hF
     have HH := hF
     replace HH := HH.ext hEx
     exact Gives.call rfl (Enters.callL (vs := [lV (la), .agg (cel E64 [(((gS lhash δ first gs zs i).1).getD ((gs.getD i g0).b.toNat) lb0).1, (((gS lhash δ first gs zs i).1).getD ((gs.getD i g0).b.toNat) lb0).2]).toArray]) call86 rfl) (lxor_ok la (((gS lhash δ first gs zs i).1).getD ((gs.getD i g0).b.toNat) lb0) uw)
    refine WalkE.eff 0 rfl (fun L r uw0 uw hLn hAn hDn hF hEx => ?_) ?_
    ·skip
     have b8 : L 8 = false := hLn
     have b9 := hDn 9 (by decide) rfl
     have hb := mp2 b8 b9
     rw [hb] at hF ⊢
     have H91 := hF
     replace H91 := H91.ext hEx
     dsimp only
     refine Gives.ofW (d := 78) rfl rfl (fun Q' hK => ?_)
     refine q_buildSlice (E := ELb) (l := ([lx la (((gS lhash δ first gs zs i).1).getD ((gs.getD i g0).b.toNat) lb0)] : List LbT)) H91 sli92 zer38 (bLe rfl) (ps := [(0, .agg (cel E64 [(lx la (((gS lhash δ first gs zs i).1).getD ((gs.getD i g0).b.toNat) lb0)).1, (lx la (((gS lhash δ first gs zs i).1).getD ((gs.getD i g0).b.toNat) lb0)).2]).toArray)]) rfl (by exact fillAll rfl rfl) rfl ?_
     intro b92 w94 hS93 H95 hE96
     exact hK _ _ (show ∃ (b75 : Nat), (_ : Value) = .slice (ownA (some b75)) 1 1 ∧ Sl ELb (some b75) ([lx la (((gS lhash δ first gs zs i).1).getD ((gs.getD i g0).b.toNat) lb0)] : List LbT) 1 ([]) ∧ Hp No w w94 [((some b75), sob ELb 38 ([lx la (((gS lhash δ first gs zs i).1).getD ((gs.getD i g0).b.toNat) lb0)] : List LbT) ([])), (some b46, lO (la)), (some b39, .cells #[i64 (((gs).getD i g0).k), i64 (((gs).getD i g0).a), i64 (((gs).getD i g0).b)] 99 (0, 0)), (k1, sob ELb 38 ((gS lhash δ first gs zs i).1) z1), (k2, sob ELb 38 ((gS lhash δ first gs zs i).2) z2), (some b17, .cells (cel E8 (AesSpec.cipher AesSpec.fixKey)).toArray 215 (0, 0)), (some b1, .cells #[i64 (zs.length : Nat), .slice ga gs.length gc, .slice oa ol.length oc] 70 (0, 0)), (some b5, lO (δ))] from ⟨b92, rfl, hS93, ((((((((H95.pull (k := 7) rfl).pull (k := 7) rfl).pull (k := 7) rfl).pull (k := 7) rfl).pull (k := 7) rfl).pull (k := 7) rfl).pull (k := 7) rfl).pull (k := 7) rfl)⟩)
    refine WalkE.eff 1 rfl (fun L r uw0 uw hLn hAn hDn hF hEx => ?_) ?_
    ·skip
     have b8 := hAn 8 (by decide) rfl
     have b9 : L 9 = false := hLn
     have hb := mp2 b8 b9
     rw [hb] at hF ⊢
     obtain ⟨b75, e8, hS76, H97⟩ := hF
     replace H97 := H97.ext hEx
     dsimp only
     rw [e8]
     refine Gives.ofW (d := 79) rfl rfl (fun Q' hK => ?_)
     refine q_append (E := ELb) (k := 3) (l := (gS lhash δ first gs zs i).1) (l2 := ([lx la (((gS lhash δ first gs zs i).1).getD ((gs.getD i g0).b.toNat) lb0)] : List LbT)) H97 rfl h1 sli92 zer38 rfl byt38 (H97.rd (k := 0) rfl hS76) rfl (by rw [gS_len]) rfl (by rfl) (by omega) ?_
     intro key98 c99 sp100 w102 hS101 hne104 H103
     have H103' := H103.as (L' := [((some b75), sob ELb 38 ([lx la (((gS lhash δ first gs zs i).1).getD ((gs.getD i g0).b.toNat) lb0)] : List LbT) ([])), (some b46, lO (la)), (some b39, .cells #[i64 (((gs).getD i g0).k), i64 (((gs).getD i g0).a), i64 (((gs).getD i g0).b)] 99 (0, 0)), (key98, sob ELb 38 (((gS lhash δ first gs zs i).1) ++ ([lx la (((gS lhash δ first gs zs i).1).getD ((gs.getD i g0).b.toNat) lb0)] : List LbT)) sp100), (k2, sob ELb 38 ((gS lhash δ first gs zs i).2) z2), (some b17, .cells (cel E8 (AesSpec.cipher AesSpec.fixKey)).toArray 215 (0, 0)), (some b1, .cells #[i64 (zs.length : Nat), .slice ga gs.length gc, .slice oa ol.length oc] 70 (0, 0)), (some b5, lO (δ))]) rfl
     clear H103
     have e105 : ((gS lhash δ first gs zs i).1) ++ ([lx la (((gS lhash δ first gs zs i).1).getD ((gs.getD i g0).b.toNat) lb0)] : List LbT) = (gS lhash δ first gs zs (i + 1)).1 := by rw [gS, gstep, if_neg hn3, if_pos hk, hla]
     have hS106 := hS101
     rw [e105] at hS106
     have H107 := H103'.as (L' := [((some b75), sob ELb 38 ([lx la (((gS lhash δ first gs zs i).1).getD ((gs.getD i g0).b.toNat) lb0)] : List LbT) ([])), (some b46, lO (la)), (some b39, .cells #[i64 (((gs).getD i g0).k), i64 (((gs).getD i g0).a), i64 (((gs).getD i g0).b)] 99 (0, 0)), (key98, sob ELb 38 ((gS lhash δ first gs zs (i + 1)).1) sp100), (k2, sob ELb 38 ((gS lhash δ first gs zs i).2) z2), (some b17, .cells (cel E8 (AesSpec.cipher AesSpec.fixKey)).toArray 215 (0, 0)), (some b1, .cells #[i64 (zs.length : Nat), .slice ga gs.length gc, .slice oa ol.length oc] 70 (0, 0)), (some b5, lO (δ))]) (by rw [e105])
     exact hK _ _ (show ∃ (b75 : Nat) (key81 : Option Nat) (c82 : Nat) (sp83 : List Value), r 8 = .slice (ownA (some b75)) 1 1 ∧ (_ : Value) = .slice (ownA key81) ((zs.length + i) + 1) c82 ∧ Sl ELb (some b75) ([lx la (((gS lhash δ first gs zs i).1).getD ((gs.getD i g0).b.toNat) lb0)] : List LbT) 1 ([]) ∧ Sl ELb key81 ((gS lhash δ first gs zs (i + 1)).1) c82 sp83 ∧ Hp No w w102 [((some b75), sob ELb 38 ([lx la (((gS lhash δ first gs zs i).1).getD ((gs.getD i g0).b.toNat) lb0)] : List LbT) ([])), (some b46, lO (la)), (some b39, .cells #[i64 (((gs).getD i g0).k), i64 (((gs).getD i g0).a), i64 (((gs).getD i g0).b)] 99 (0, 0)), (key81, sob ELb 38 ((gS lhash δ first gs zs (i + 1)).1) sp83), (k2, sob ELb 38 ((gS lhash δ first gs zs i).2) z2), (some b17, .cells (cel E8 (AesSpec.cipher AesSpec.fixKey)).toArray 215 (0, 0)), (some b1, .cells #[i64 (zs.length : Nat), .slice ga gs.length gc, .slice oa ol.length oc] 70 (0, 0)), (some b5, lO (δ))] from ⟨b75, key98, c99, sp100, e8, rfl, hS76, hS106, ((((((((H107.pull (k := 7) rfl).pull (k := 7) rfl).pull (k := 7) rfl).pull (k := 7) rfl).pull (k := 7) rfl).pull (k := 7) rfl).pull (k := 7) rfl).pull (k := 7) rfl)⟩)
    refine WalkE.look rfl (fun r => r 9) (fun r r' h => h 9 (by decide) rfl) (fun L r _ uw _ _ _ _ => Gives.run rfl (r_assign rfl) ⟨rfl, rfl⟩) ?_
    refine WalkE.nil ?_
    intro r108 uw0 w109 hF hEx
    obtain ⟨b75, key81, c82, sp83, e8, e9, hS76, hS89, H110⟩ := hF
    replace H110 := H110.ext hEx
    dsimp only
    rw [e8, e9]
    refine wnil ?_
    refine blockNormal ?_
    refine blockNormal ?_
    refine thenNormal ?_
    refine oneRegion ?_
    refine sq (r_addI (a := (i : Nat)) (b := (1 : Int)) rfl rfl (by omega)) ?_
    refine sM (i64 ((i : Nat) + (1 : Int))) rfl ?_
    refine wnil ?_
    refine thenNormal ?_
    have e111 : (gS lhash δ first gs zs i).2 = (gS lhash δ first gs zs (i + 1)).2 := by rw [gS, gstep, if_neg hn3, if_pos hk]
    have hS112 := h2
    rw [e111] at hS112
    have H113 := H110.as (L' := [((some b75), sob ELb 38 ([lx la (((gS lhash δ first gs zs i).1).getD ((gs.getD i g0).b.toNat) lb0)] : List LbT) ([])), (some b46, lO (la)), (some b39, .cells #[i64 (((gs).getD i g0).k), i64 (((gs).getD i g0).a), i64 (((gs).getD i g0).b)] 99 (0, 0)), (key81, sob ELb 38 ((gS lhash δ first gs zs (i + 1)).1) sp83), (k2, sob ELb 38 ((gS lhash δ first gs zs (i + 1)).2) z2), (some b17, .cells (cel E8 (AesSpec.cipher AesSpec.fixKey)).toArray 215 (0, 0)), (some b1, .cells #[i64 (zs.length : Nat), .slice ga gs.length gc, .slice oa ol.length oc] 70 (0, 0)), (some b5, lO (δ))]) (by rw [e111])
    exact ⟨(i + 1, key81, c82, sp83, k2, c2, z2, (gS lhash δ first gs zs i).2.length), _, rfl, ⟨rfl, rfl, rfl, rfl, rfl, rfl, rfl, rfl, rfl, trivial⟩, ⟨⟨by omega, hS89, hS112, by rw [gS, gstep, if_neg hn3, if_pos hk]⟩, (((H113.dropk 2).dropk 1).dropk 0)⟩, by show gs.length - (i + 1) < gs.length - i; omega⟩
   ·skip
    have hn1 := hk1
    refine sR ?_
    refine sq (r_eqlI (a := ((gs).getD i g0).k) (b := (2 : Int)) rfl rfl) ?_
    refine sA (.bool (decide ((((gs).getD i g0).k : Int) = (2 : Int)))) rfl ?_
    refine wend ?_
    refine condProp ((((gs).getD i g0).k : Int) = (2 : Int)) rfl (fun hk2 => ?_) (fun hk2 => ?_)
    ·skip
     refine sR ?_
     refine sM (.slice (ownA k1) (zs.length + i) c1) rfl ?_
     refine sq (r_fieldAddr (off' := 2) fld99_2 (by decide) (b := b39) (off := 0) rfl (by omega)) ?_
     refine sq (r_loadC (v := i64 (((gs).getD i g0).b)) one3 (H51'.get (k := 1) rfl) (off := 2) rfl (by rfl)) ?_
     refine sq (r_idxS (E := ELb) (l := (gS lhash δ first gs zs i).1) (j := (gs.getD i g0).b.toNat) sli92 (H51'.rd (k := 2) rfl h1) rfl rfl (by omega) (by rw [gS_len]) (by omega)) ?_
     refine sq ((r_ldS (E := ELb) (l := (gS lhash δ first gs zs i).1) (j := (gs.getD i g0).b.toNat) (v := ((gS lhash δ first gs zs i).1).getD ((gs.getD i g0).b.toNat) lb0) fits38 (H51'.rd (k := 2) rfl h1) rfl rfl (at_getD (by omega))).as (v' := .agg (cel E64 [(((gS lhash δ first gs zs i).1).getD ((gs.getD i g0).b.toNat) lb0).1, (((gS lhash δ first gs zs i).1).getD ((gs.getD i g0).b.toNat) lb0).2]).toArray) rfl) ?_
     refine q_alloc (o := .cells (cel E64 ([0#64, 0#64])).toArray 38 (0, 0)) H51' zer38 (by kernel_rfl) ?_
     intro b114 w115 hb114 H116 hE117
     refine d_store (k := 0) (v := .agg (cel E64 [(((gS lhash δ first gs zs i).1).getD ((gs.getD i g0).b.toNat) lb0).1, (((gS lhash δ first gs zs i).1).getD ((gs.getD i g0).b.toNat) lb0).2]).toArray) (cs' := (cel E64 ([(((gS lhash δ first gs zs i).1).getD ((gs.getD i g0).b.toNat) lb0).1, (((gS lhash δ first gs zs i).1).getD ((gs.getD i g0).b.toNat) lb0).2])).toArray) H116 rfl rfl rfl siz38 (by exact celSize (by first | rfl | (show _ * 1 = _; omega))) (by exact celOne _) (by rw [List.size_toArray, cel_length]; show _ ≤ _ * 1; first | omega | (simp only [List.length_set]; omega) | exact bLe rfl | (simp <;> omega)) (by exact putAll (by first | rfl | omega | (simp <;> omega))) ?_
     intro w118 H119 hC120
     have H119' := H119.as (L' := [(some b114, lO (((gS lhash δ first gs zs i).1).getD ((gs.getD i g0).b.toNat) lb0)), (some b46, lO (la)), (some b39, .cells #[i64 (((gs).getD i g0).k), i64 (((gs).getD i g0).a), i64 (((gs).getD i g0).b)] 99 (0, 0)), (k1, sob ELb 38 ((gS lhash δ first gs zs i).1) z1), (k2, sob ELb 38 ((gS lhash δ first gs zs i).2) z2), (some b17, .cells (cel E8 (AesSpec.cipher AesSpec.fixKey)).toArray 215 (0, 0)), (some b1, .cells #[i64 (zs.length : Nat), .slice ga gs.length gc, .slice oa ol.length oc] 70 (0, 0)), (some b5, lO (δ))]) rfl
     clear H119
     obtain ⟨lb, hlb⟩ : ∃ x : Lb, x = (((gS lhash δ first gs zs i).1).getD (gs.getD i g0).b.toNat lb0) := ⟨_, rfl⟩
     rw [← hlb] at H119' ⊢
     refine wend ?_
     refine sR ?_
     refine sM (u64 (first)) rfl ?_
     refine sM (.slice (ownA k2) ((gS lhash δ first gs zs i).2.length) c2) rfl ?_
     refine sq (r_lenS sli92 (a := ownA k2) (m := (gS lhash δ first gs zs i).2.length) (c := c2) rfl) ?_
     refine sq (r_Ito64 und3 und32 (a := ((gS lhash δ first gs zs i).2.length : Nat)) rfl) ?_
     refine sq (r_add64 (a := first) (b := BitVec.ofInt 64 ((gS lhash δ first gs zs i).2.length : Nat)) rfl rfl) ?_
     refine sA (u64 (first + (BitVec.ofInt 64 ((gS lhash δ first gs zs i).2.length : Nat)))) rfl ?_
     obtain ⟨sv, hsv⟩ : ∃ x : BitVec 64, x = first + (BitVec.ofInt 64 ((gS lhash δ first gs zs i).2.length : Nat)) := ⟨_, rfl⟩
     rw [← hsv]
     refine wend ?_
     refine seqAny ?_
     refine drawE (m := 13) [0, 0, 0, 7, 0, 0, 0, 64, 255, 0, 0, 2047, 4095] [9, 10, 11, 12] (fun bs vs w' => match bs, vs with | [false, false, false, false], [_, _, _, _] => Hp No w w' [(some b114, lO (lb)), (some b46, lO (la)), (some b39, .cells #[i64 (((gs).getD i g0).k), i64 (((gs).getD i g0).a), i64 (((gs).getD i g0).b)] 99 (0, 0)), (k1, sob ELb 38 ((gS lhash δ first gs zs i).1) z1), (k2, sob ELb 38 ((gS lhash δ first gs zs i).2) z2), (some b17, .cells (cel E8 (AesSpec.cipher AesSpec.fixKey)).toArray 215 (0, 0)), (some b1, .cells #[i64 (zs.length : Nat), .slice ga gs.length gc, .slice oa ol.length oc] 70 (0, 0)), (some b5, lO (δ))] | [true, false, false, false], [v9, _, _, _] => ∃ (b122 : Nat), v9 = pT b122 ∧ Hp No w w' [(some b122, .cells (cel E64 ([0#64, 0#64])).toArray 38 (0, 0)), (some b114, lO (lb)), (some b46, lO (la)), (some b39, .cells #[i64 (((gs).getD i g0).k), i64 (((gs).getD i g0).a), i64 (((gs).getD i g0).b)] 99 (0, 0)), (k1, sob ELb 38 ((gS lhash δ first gs zs i).1) z1), (k2, sob ELb 38 ((gS lhash δ first gs zs i).2) z2), (some b17, .cells (cel E8 (AesSpec.cipher AesSpec.fixKey)).toArray 215 (0, 0)), (some b1, .cells #[i64 (zs.length : Nat), .slice ga gs.length gc, .slice oa ol.length oc] 70 (0, 0)), (some b5, lO (δ))] | [false, true, false, false], [_, v10, _, _] => ∃ (b127 : Nat), v10 = pT b127 ∧ Hp No w w' [(some b127, .cells (cel E64 ([0#64, 0#64])).toArray 38 (0, 0)), (some b114, lO (lb)), (some b46, lO (la)), (some b39, .cells #[i64 (((gs).getD i g0).k), i64 (((gs).getD i g0).a), i64 (((gs).getD i g0).b)] 99 (0, 0)), (k1, sob ELb 38 ((gS lhash δ first gs zs i).1) z1), (k2, sob ELb 38 ((gS lhash δ first gs zs i).2) z2), (some b17, .cells (cel E8 (AesSpec.cipher AesSpec.fixKey)).toArray 215 (0, 0)), (some b1, .cells #[i64 (zs.length : Nat), .slice ga gs.length gc, .slice oa ol.length oc] 70 (0, 0)), (some b5, lO (δ))] | [true, true, false, false], [v9, v10, _, _] => ∃ (b122 : Nat) (b132 : Nat), v9 = pT b122 ∧ v10 = pT b132 ∧ Hp No w w' [(some b132, .cells (cel E64 ([0#64, 0#64])).toArray 38 (0, 0)), (some b122, .cells (cel E64 ([0#64, 0#64])).toArray 38 (0, 0)), (some b114, lO (lb)), (some b46, lO (la)), (some b39, .cells #[i64 (((gs).getD i g0).k), i64 (((gs).getD i g0).a), i64 (((gs).getD i g0).b)] 99 (0, 0)), (k1, sob ELb 38 ((gS lhash δ first gs zs i).1) z1), (k2, sob ELb 38 ((gS lhash δ first gs zs i).2) z2), (some b17, .cells (cel E8 (AesSpec.cipher AesSpec.fixKey)).toArray 215 (0, 0)), (some b1, .cells #[i64 (zs.length : Nat), .slice ga gs.length gc, .slice oa ol.length oc] 70 (0, 0)), (some b5, lO (δ))] | [true, true, true, false], [v9, v10, _, _] => ∃ (b122 : Nat) (b132 : Nat), v9 = pT b122 ∧ v10 = pT b132 ∧ Hp No w w' [(some b132, .cells (cel E64 ([0#64, 0#64])).toArray 38 (0, 0)), (some b122, lO (lhash la sv)), (some b114, lO (lb)), (some b46, lO (la)), (some b39, .cells #[i64 (((gs).getD i g0).k), i64 (((gs).getD i g0).a), i64 (((gs).getD i g0).b)] 99 (0, 0)), (k1, sob ELb 38 ((gS lhash δ first gs zs i).1) z1), (k2, sob ELb 38 ((gS lhash δ first gs zs i).2) z2), (some b17, .cells (cel E8 (AesSpec.cipher AesSpec.fixKey)).toArray 215 (0, 0)), (some b1, .cells #[i64 (zs.length : Nat), .slice ga gs.length gc, .slice oa ol.length oc] 70 (0, 0)), (some b5, lO (δ))] | [true, true, true, true], [v9, v10, _, _] => ∃ (b122 : Nat) (b132 : Nat), v9 = pT b122 ∧ v10 = pT b132 ∧ Hp No w w' [(some b132, lO (lhash lb (sv + (1#64)))), (some b122, lO (lhash la sv)), (some b114, lO (lb)), (some b46, lO (la)), (some b39, .cells #[i64 (((gs).getD i g0).k), i64 (((gs).getD i g0).a), i64 (((gs).getD i g0).b)] 99 (0, 0)), (k1, sob ELb 38 ((gS lhash δ first gs zs i).1) z1), (k2, sob ELb 38 ((gS lhash δ first gs zs i).2) z2), (some b17, .cells (cel E8 (AesSpec.cipher AesSpec.fixKey)).toArray 215 (0, 0)), (some b1, .cells #[i64 (zs.length : Nat), .slice ga gs.length gc, .slice oa ol.length oc] 70 (0, 0)), (some b5, lO (δ))] | _, _ => False) mixed (by kernel_rfl) (by kernel_rfl) H119'.drew ?_
     refine WalkE.look rfl (fun _ => pT b17) (fun _ _ _ => rfl) (fun L r _ uw _ _ _ _ => Gives.run rfl (r_move (v := pT b17) rfl) ⟨rfl, rfl⟩) ?_
     refine WalkE.look rfl (fun _ => lV (la)) (fun _ _ _ => rfl) (fun L r uw0 uw hAn hDn hF hEx => ?_) ?_
     ·skip
      have b11 := hDn 11 (by decide) rfl
      have b12 := hDn 12 (by decide) rfl
      rcases bTF (L 9) with b9 | b9
      ·skip
       rcases bTF (L 10) with b10 | b10
       ·skip
        have hb := mp4 b9 b10 b11 b12
        rw [hb] at hF
        obtain ⟨b122, b132, e9, e10, HH⟩ := hF
        replace HH := HH.ext hEx
        exact Gives.run rfl (r_loadA (cs' := (cel E64 ([(la).1, (la).2])).toArray) agg38 siz38 (HH.get (k := 3) rfl) (off := 0) rfl (by exact bLe rfl) (by exact ext_all rfl)) ⟨rfl, rfl⟩
       ·skip
        have hb := mp4 b9 b10 b11 b12
        rw [hb] at hF
        obtain ⟨b122, e9, HH⟩ := hF
        replace HH := HH.ext hEx
        exact Gives.run rfl (r_loadA (cs' := (cel E64 ([(la).1, (la).2])).toArray) agg38 siz38 (HH.get (k := 2) rfl) (off := 0) rfl (by exact bLe rfl) (by exact ext_all rfl)) ⟨rfl, rfl⟩
      ·skip
       rcases bTF (L 10) with b10 | b10
       ·skip
        have hb := mp4 b9 b10 b11 b12
        rw [hb] at hF
        obtain ⟨b127, e10, HH⟩ := hF
        replace HH := HH.ext hEx
        exact Gives.run rfl (r_loadA (cs' := (cel E64 ([(la).1, (la).2])).toArray) agg38 siz38 (HH.get (k := 2) rfl) (off := 0) rfl (by exact bLe rfl) (by exact ext_all rfl)) ⟨rfl, rfl⟩
       ·skip
        have hb := mp4 b9 b10 b11 b12
        rw [hb] at hF
        have HH := hF
        replace HH := HH.ext hEx
        exact Gives.run rfl (r_loadA (cs' := (cel E64 ([(la).1, (la).2])).toArray) agg38 siz38 (HH.get (k := 1) rfl) (off := 0) rfl (by exact bLe rfl) (by exact ext_all rfl)) ⟨rfl, rfl⟩
     refine WalkE.look rfl (fun _ => u64 (sv)) (fun _ _ _ => rfl) (fun L r _ uw _ _ _ _ => Gives.run rfl (r_move (v := u64 (sv)) rfl) ⟨rfl, rfl⟩) ?_
     refine WalkE.call rfl (fun _ => .agg (cel E64 [(lhash la sv).1, (lhash la sv).2]).toArray) (fun _ _ _ => rfl) (fun L r uw0 uw hAn hDn hF hEx => ?_) ?_
     ·skip
      have b11 := hDn 11 (by decide) rfl
      have b12 := hDn 12 (by decide) rfl
      rcases bTF (L 9) with b9 | b9
      ·skip
       rcases bTF (L 10) with b10 | b10
       ·skip
        have hb := mp4 b9 b10 b11 b12
        rw [hb] at hF
        obtain ⟨b122, b132, e9, e10, HH⟩ := hF
        replace HH := HH.ext hEx
        exact Gives.call rfl (Enters.callL (vs := [pT b17, lV (la), u64 (sv)]) call87 rfl) (lhash_ok b17 la sv uw (HH.get (k := 7) rfl))
       ·skip
        have hb := mp4 b9 b10 b11 b12
        rw [hb] at hF
        obtain ⟨b122, e9, HH⟩ := hF
        replace HH := HH.ext hEx
        exact Gives.call rfl (Enters.callL (vs := [pT b17, lV (la), u64 (sv)]) call87 rfl) (lhash_ok b17 la sv uw (HH.get (k := 6) rfl))
      ·skip
       rcases bTF (L 10) with b10 | b10
       ·skip
        have hb := mp4 b9 b10 b11 b12
        rw [hb] at hF
        obtain ⟨b127, e10, HH⟩ := hF
        replace HH := HH.ext hEx
        exact Gives.call rfl (Enters.callL (vs := [pT b17, lV (la), u64 (sv)]) call87 rfl) (lhash_ok b17 la sv uw (HH.get (k := 6) rfl))
       ·skip
        have hb := mp4 b9 b10 b11 b12
        rw [hb] at hF
        have HH := hF
        replace HH := HH.ext hEx
        exact Gives.call rfl (Enters.callL (vs := [pT b17, lV (la), u64 (sv)]) call87 rfl) (lhash_ok b17 la sv uw (HH.get (k := 5) rfl))
     refine WalkE.look rfl (fun _ => pT b17) (fun _ _ _ => rfl) (fun L r _ uw _ _ _ _ => Gives.run rfl (r_move (v := pT b17) rfl) ⟨rfl, rfl⟩) ?_
     refine WalkE.look rfl (fun _ => lV (lb)) (fun _ _ _ => rfl) (fun L r uw0 uw hAn hDn hF hEx => ?_) ?_
     ·skip
      have b11 := hDn 11 (by decide) rfl
      have b12 := hDn 12 (by decide) rfl
      rcases bTF (L 9) with b9 | b9
      ·skip
       rcases bTF (L 10) with b10 | b10
       ·skip
        have hb := mp4 b9 b10 b11 b12
        rw [hb] at hF
        obtain ⟨b122, b132, e9, e10, HH⟩ := hF
        replace HH := HH.ext hEx
        exact Gives.run rfl (r_loadA (cs' := (cel E64 ([(lb).1, (lb).2])).toArray) agg38 siz38 (HH.get (k := 2) rfl) (off := 0) rfl (by exact bLe rfl) (by exact ext_all rfl)) ⟨rfl, rfl⟩
       ·skip
        have hb := mp4 b9 b10 b11 b12
        rw [hb] at hF
        obtain ⟨b122, e9, HH⟩ := hF
        replace HH := HH.ext hEx
        exact Gives.run rfl (r_loadA (cs' := (cel E64 ([(lb).1, (lb).2])).toArray) agg38 siz38 (HH.get (k := 1) rfl) (off := 0) rfl (by exact bLe rfl) (by exact ext_all rfl)) ⟨rfl, rfl⟩
      ·skip
       rcases bTF (L 10) with b10 | b10
       ·skip
        have hb := mp4 b9 b10 b11 b12
        rw [hb] at hF
        obtain ⟨b127, e10, HH⟩ := hF
        replace HH := HH.ext hEx
        exact Gives.run rfl (r_loadA (cs' := (cel E64 ([(lb).1, (lb).2])).toArray) agg38 siz38 (HH.get (k := 1) rfl) (off := 0) rfl (by exact bLe rfl) (by exact ext_all rfl)) ⟨rfl, rfl⟩
       ·skip
        have hb := mp4 b9 b10 b11 b12
        rw [hb] at hF
        have HH := hF
        replace HH := HH.ext hEx
        exact Gives.run rfl (r_loadA (cs' := (cel E64 ([(lb).1, (lb).2])).toArray) agg38 siz38 (HH.get (k := 0) rfl) (off := 0) rfl (by exact bLe rfl) (by exact ext_all rfl)) ⟨rfl, rfl⟩
     refine WalkE.look rfl (fun _ => u64 (sv)) (fun _ _ _ => rfl) (fun L r _ uw _ _ _ _ => Gives.run rfl (r_move (v := u64 (sv)) rfl) ⟨rfl, rfl⟩) ?_
     refine WalkE.look rfl (fun _ => u64 (sv + (1#64))) (fun _ _ _ => rfl) (fun L r _ uw _ _ _ _ => Gives.run rfl (r_add64 (a := sv) (b := 1#64) rfl rfl) ⟨rfl, rfl⟩) ?_
     refine WalkE.call rfl (fun _ => .agg (cel E64 [(lhash lb (sv + (1#64))).1, (lhash lb (sv + (1#64))).2]).toArray) (fun _ _ _ => rfl) (fun L r uw0 uw hAn hDn hF hEx => ?_) ?_
     ·skip
      have b11 := hDn 11 (by decide) rfl
      have b12 := hDn 12 (by decide) rfl
      rcases bTF (L 9) with b9 | b9
      ·skip
       rcases bTF (L 10) with b10 | b10
       ·skip
        have hb := mp4 b9 b10 b11 b12
        rw [hb] at hF
        obtain ⟨b122, b132, e9, e10, HH⟩ := hF
        replace HH := HH.ext hEx
        exact Gives.call rfl (Enters.callL (vs := [pT b17, lV (lb), u64 (sv + (1#64))]) call87 rfl) (lhash_ok b17 lb (sv + (1#64)) uw (HH.get (k := 7) rfl))
       ·skip
        have hb := mp4 b9 b10 b11 b12
        rw [hb] at hF
        obtain ⟨b122, e9, HH⟩ := hF
        replace HH := HH.ext hEx
        exact Gives.call rfl (Enters.callL (vs := [pT b17, lV (lb), u64 (sv + (1#64))]) call87 rfl) (lhash_ok b17 lb (sv + (1#64)) uw (HH.get (k := 6) rfl))
      ·skip
       rcases bTF (L 10) with b10 | b10
       ·skip
        have hb := mp4 b9 b10 b11 b12
        rw [hb] at hF
        obtain ⟨b127, e10, HH⟩ := hF
        replace HH := HH.ext hEx
        exact Gives.call rfl (Enters.callL (vs := [pT b17, lV (lb), u64 (sv + (1#64))]) call87 rfl) (lhash_ok b17 lb (sv + (1#64)) uw (HH.get (k := 6) rfl))
       ·skip
        have hb := mp4 b9 b10 b11 b12
        rw [hb] at hF
        have HH := hF
        replace HH := HH.ext hEx
        exact Gives.call rfl (Enters.callL (vs := [pT b17, lV (lb), u64 (sv + (1#64))]) call87 rfl) (lhash_ok b17 lb (sv + (1#64)) uw (HH.get (k := 5) rfl))
     refine WalkE.eff 0 rfl (fun L r uw0 uw hLn hAn hDn hF hEx => ?_) ?_
     ·skip
      have b9 : L 9 = false := hLn
      have b11 := hDn 11 (by decide) rfl
      have b12 := hDn 12 (by decide) rfl
      rcases bTF (L 10) with b10 | b10
      ·skip
       have hb := mp4 b9 b10 b11 b12
       rw [hb] at hF ⊢
       obtain ⟨b127, e10, H144⟩ := hF
       replace H144 := H144.ext hEx
       dsimp only
       refine Gives.ofW (d := 20) rfl rfl (fun Q' hK => ?_)
       refine q_alloc (o := .cells (cel E64 ([0#64, 0#64])).toArray 38 (0, 0)) H144 zer38 (by kernel_rfl) ?_
       intro b145 w146 hb145 H147 hE148
       exact hK _ _ (show ∃ (b122 : Nat) (b132 : Nat), (_ : Value) = pT b122 ∧ r 10 = pT b132 ∧ Hp No w w146 [(some b132, .cells (cel E64 ([0#64, 0#64])).toArray 38 (0, 0)), (some b122, .cells (cel E64 ([0#64, 0#64])).toArray 38 (0, 0)), (some b114, lO (lb)), (some b46, lO (la)), (some b39, .cells #[i64 (((gs).getD i g0).k), i64 (((gs).getD i g0).a), i64 (((gs).getD i g0).b)] 99 (0, 0)), (k1, sob ELb 38 ((gS lhash δ first gs zs i).1) z1), (k2, sob ELb 38 ((gS lhash δ first gs zs i).2) z2), (some b17, .cells (cel E8 (AesSpec.cipher AesSpec.fixKey)).toArray 215 (0, 0)), (some b1, .cells #[i64 (zs.length : Nat), .slice ga gs.length gc, .slice oa ol.length oc] 70 (0, 0)), (some b5, lO (δ))] from ⟨b145, b127, rfl, e10, ((((((((((H147.pull (k := 9) rfl).pull (k := 9) rfl).pull (k := 9) rfl).pull (k := 9) rfl).pull (k := 9) rfl).pull (k := 9) rfl).pull (k := 9) rfl).pull (k := 9) rfl).pull (k := 8) rfl).pull (k := 9) rfl)⟩)
      ·skip
       have hb := mp4 b9 b10 b11 b12
       rw [hb] at hF ⊢
       have H149 := hF
       replace H149 := H149.ext hEx
       dsimp only
       refine Gives.ofW (d := 20) rfl rfl (fun Q' hK => ?_)
       refine q_alloc (o := .cells (cel E64 ([0#64, 0#64])).toArray 38 (0, 0)) H149 zer38 (by kernel_rfl) ?_
       intro b150 w151 hb150 H152 hE153
       exact hK _ _ (show ∃ (b122 : Nat), (_ : Value) = pT b122 ∧ Hp No w w151 [(some b122, .cells (cel E64 ([0#64, 0#64])).toArray 38 (0, 0)), (some b114, lO (lb)), (some b46, lO (la)), (some b39, .cells #[i64 (((gs).getD i g0).k), i64 (((gs).getD i g0).a), i64 (((gs).getD i g0).b)] 99 (0, 0)), (k1, sob ELb 38 ((gS lhash δ first gs zs i).1) z1), (k2, sob ELb 38 ((gS lhash δ first gs zs i).2) z2), (some b17, .cells (cel E8 (AesSpec.cipher AesSpec.fixKey)).toArray 215 (0, 0)), (some b1, .cells #[i64 (zs.length : Nat), .slice ga gs.length gc, .slice oa ol.length oc] 70 (0, 0)), (some b5, lO (δ))] from ⟨b150, rfl, (((((((((H152.pull (k := 8) rfl).pull (k := 8) rfl).pull (k := 8) rfl).pull (k := 8) rfl).pull (k := 8) rfl).pull (k := 8) rfl).pull (k := 8) rfl).pull (k := 8) rfl).pull (k := 8) rfl)⟩)
     refine WalkE.eff 1 rfl (fun L r uw0 uw hLn hAn hDn hF hEx => ?_) ?_
     ·skip
      have b10 : L 10 = false := hLn
      have b11 := hDn 11 (by decide) rfl
      have b12 := hDn 12 (by decide) rfl
      rcases bTF (L 9) with b9 | b9
      ·skip
       have hb := mp4 b9 b10 b11 b12
       rw [hb] at hF ⊢
       obtain ⟨b122, e9, H154⟩ := hF
       replace H154 := H154.ext hEx
       dsimp only
       rw [e9]
       refine Gives.ofW (d := 21) rfl rfl (fun Q' hK => ?_)
       refine q_alloc (o := .cells (cel E64 ([0#64, 0#64])).toArray 38 (0, 0)) H154 zer38 (by kernel_rfl) ?_
       intro b155 w156 hb155 H157 hE158
       exact hK _ _ (show ∃ (b122 : Nat) (b132 : Nat), r 9 = pT b122 ∧ (_ : Value) = pT b132 ∧ Hp No w w156 [(some b132, .cells (cel E64 ([0#64, 0#64])).toArray 38 (0, 0)), (some b122, .cells (cel E64 ([0#64, 0#64])).toArray 38 (0, 0)), (some b114, lO (lb)), (some b46, lO (la)), (some b39, .cells #[i64 (((gs).getD i g0).k), i64 (((gs).getD i g0).a), i64 (((gs).getD i g0).b)] 99 (0, 0)), (k1, sob ELb 38 ((gS lhash δ first gs zs i).1) z1), (k2, sob ELb 38 ((gS lhash δ first gs zs i).2) z2), (some b17, .cells (cel E8 (AesSpec.cipher AesSpec.fixKey)).toArray 215 (0, 0)), (some b1, .cells #[i64 (zs.length : Nat), .slice ga gs.length gc, .slice oa ol.length oc] 70 (0, 0)), (some b5, lO (δ))] from ⟨b122, b155, e9, rfl, ((((((((((H157.pull (k := 9) rfl).pull (k := 9) rfl).pull (k := 9) rfl).pull (k := 9) rfl).pull (k := 9) rfl).pull (k := 9) rfl).pull (k := 9) rfl).pull (k := 9) rfl).pull (k := 9) rfl).pull (k := 9) rfl)⟩)
      ·skip
       have hb := mp4 b9 b10 b11 b12
       rw [hb] at hF ⊢
       have H159 := hF
       replace H159 := H159.ext hEx
       dsimp only
       refine Gives.ofW (d := 21) rfl rfl (fun Q' hK => ?_)
       refine q_alloc (o := .cells (cel E64 ([0#64, 0#64])).toArray 38 (0, 0)) H159 zer38 (by kernel_rfl) ?_
       intro b160 w161 hb160 H162 hE163
       exact hK _ _ (show ∃ (b127 : Nat), (_ : Value) = pT b127 ∧ Hp No w w161 [(some b127, .cells (cel E64 ([0#64, 0#64])).toArray 38 (0, 0)), (some b114, lO (lb)), (some b46, lO (la)), (some b39, .cells #[i64 (((gs).getD i g0).k), i64 (((gs).getD i g0).a), i64 (((gs).getD i g0).b)] 99 (0, 0)), (k1, sob ELb 38 ((gS lhash δ first gs zs i).1) z1), (k2, sob ELb 38 ((gS lhash δ first gs zs i).2) z2), (some b17, .cells (cel E8 (AesSpec.cipher AesSpec.fixKey)).toArray 215 (0, 0)), (some b1, .cells #[i64 (zs.length : Nat), .slice ga gs.length gc, .slice oa ol.length oc] 70 (0, 0)), (some b5, lO (δ))] from ⟨b160, rfl, (((((((((H162.pull (k := 8) rfl).pull (k := 8) rfl).pull (k := 8) rfl).pull (k := 8) rfl).pull (k := 8) rfl).pull (k := 8) rfl).pull (k := 8) rfl).pull (k := 8) rfl).pull (k := 8) rfl)⟩)
     refine WalkE.eff 2 rfl (fun L r uw0 uw hLn hAn hDn hF hEx => ?_) ?_
     ·skip
      have b9 := hAn 9 (by decide) rfl
      have b10 := hAn 10 (by decide) rfl
      have b11 : L 11 = false := hLn
      have b12 := hDn 12 (by decide) rfl
      have hb := mp4 b9 b10 b11 b12
      rw [hb] at hF ⊢
      obtain ⟨b122, b132, e9, e10, H164⟩ := hF
      replace H164 := H164.ext hEx
      dsimp only
      rw [e9, e10]
      refine Gives.ofW0 rfl (fun Q' hK => ?_)
      refine d_store (k := 1) (v := .agg (cel E64 [(lhash la sv).1, (lhash la sv).2]).toArray) (cs' := (cel E64 ([(lhash la sv).1, (lhash la sv).2])).toArray) H164 rfl rfl rfl siz38 (by exact celSize (by first | rfl | (show _ * 1 = _; omega))) (by exact celOne _) (by rw [List.size_toArray, cel_length]; show _ ≤ _ * 1; first | omega | (simp only [List.length_set]; omega) | exact bLe rfl | (simp <;> omega)) (by exact putAll (by first | rfl | omega | (simp <;> omega))) ?_
      intro w165 H166 hC167
      have H166' := H166.as (L' := [(some b132, .cells (cel E64 ([0#64, 0#64])).toArray 38 (0, 0)), (some b122, lO (lhash la sv)), (some b114, lO (lb)), (some b46, lO (la)), (some b39, .cells #[i64 (((gs).getD i g0).k), i64 (((gs).getD i g0).a), i64 (((gs).getD i g0).b)] 99 (0, 0)), (k1, sob ELb 38 ((gS lhash δ first gs zs i).1) z1), (k2, sob ELb 38 ((gS lhash δ first gs zs i).2) z2), (some b17, .cells (cel E8 (AesSpec.cipher AesSpec.fixKey)).toArray 215 (0, 0)), (some b1, .cells #[i64 (zs.length : Nat), .slice ga gs.length gc, .slice oa ol.length oc] 70 (0, 0)), (some b5, lO (δ))]) rfl
      clear H166
      exact hK _ (fun _ => (show ∃ (b122 : Nat) (b132 : Nat), r 9 = pT b122 ∧ r 10 = pT b132 ∧ Hp No w w165 [(some b132, .cells (cel E64 ([0#64, 0#64])).toArray 38 (0, 0)), (some b122, lO (lhash la sv)), (some b114, lO (lb)), (some b46, lO (la)), (some b39, .cells #[i64 (((gs).getD i g0).k), i64 (((gs).getD i g0).a), i64 (((gs).getD i g0).b)] 99 (0, 0)), (k1, sob ELb 38 ((gS lhash δ first gs zs i).1) z1), (k2, sob ELb 38 ((gS lhash δ first gs zs i).2) z2), (some b17, .cells (cel E8 (AesSpec.cipher AesSpec.fixKey)).toArray 215 (0, 0)), (some b1, .cells #[i64 (zs.length : Nat), .slice ga gs.length gc, .slice oa ol.length oc] 70 (0, 0)), (some b5, lO (δ))] from ⟨b122, b132, e9, e10, ((((((((((H166'.pull (k := 9) rfl).pull (k := 9) rfl).pull (k := 9) rfl).pull (k := 9) rfl).pull (k := 9) rfl).pull (k := 9) rfl).pull (k := 9) rfl).pull (k := 9) rfl).pull (k := 9) rfl).pull (k := 9) rfl)⟩))
     refine WalkE.eff 3 rfl (fun L r uw0 uw hLn hAn hDn hF hEx => ?_) ?_
     ·skip
      have b9 := hAn 9 (by decide) rfl
      have b10 := hAn 10 (by decide) rfl
      have b11 := hAn 11 (by decide) rfl
      have b12 : L 12 = false := hLn
      have hb := mp4 b9 b10 b11 b12
      rw [hb] at hF ⊢
      obtain ⟨b122, b132, e9, e10, H168⟩ := hF
      replace H168 := H168.ext hEx
      dsimp only
      rw [e9, e10]
      refine Gives.ofW0 rfl (fun Q' hK => ?_)
      refine d_store (k := 0) (v := .agg (cel E64 [(lhash lb (sv + (1#64))).1, (lhash lb (sv + (1#64))).2]).toArray) (cs' := (cel E64 ([(lhash lb (sv + (1#64))).1, (lhash lb (sv + (1#64))).2])).toArray) H168 rfl rfl rfl siz38 (by exact celSize (by first | rfl | (show _ * 1 = _; omega))) (by exact celOne _) (by rw [List.size_toArray, cel_length]; show _ ≤ _ * 1; first | omega | (simp only [List.length_set]; omega) | exact bLe rfl | (simp <;> omega)) (by exact putAll (by first | rfl | omega | (simp <;> omega))) ?_
      intro w169 H170 hC171
      have H170' := H170.as (L' := [(some b132, lO (lhash lb (sv + (1#64)))), (some b122, lO (lhash la sv)), (some b114, lO (lb)), (some b46, lO (la)), (some b39, .cells #[i64 (((gs).getD i g0).k), i64 (((gs).getD i g0).a), i64 (((gs).getD i g0).b)] 99 (0, 0)), (k1, sob ELb 38 ((gS lhash δ first gs zs i).1) z1), (k2, sob ELb 38 ((gS lhash δ first gs zs i).2) z2), (some b17, .cells (cel E8 (AesSpec.cipher AesSpec.fixKey)).toArray 215 (0, 0)), (some b1, .cells #[i64 (zs.length : Nat), .slice ga gs.length gc, .slice oa ol.length oc] 70 (0, 0)), (some b5, lO (δ))]) rfl
      clear H170
      exact hK _ (fun _ => (show ∃ (b122 : Nat) (b132 : Nat), r 9 = pT b122 ∧ r 10 = pT b132 ∧ Hp No w w169 [(some b132, lO (lhash lb (sv + (1#64)))), (some b122, lO (lhash la sv)), (some b114, lO (lb)), (some b46, lO (la)), (some b39, .cells #[i64 (((gs).getD i g0).k), i64 (((gs).getD i g0).a), i64 (((gs).getD i g0).b)] 99 (0, 0)), (k1, sob ELb 38 ((gS lhash δ first gs zs i).1) z1), (k2, sob ELb 38 ((gS lhash δ first gs zs i).2) z2), (some b17, .cells (cel E8 (AesSpec.cipher AesSpec.fixKey)).toArray 215 (0, 0)), (some b1, .cells #[i64 (zs.length : Nat), .slice ga gs.length gc, .slice oa ol.length oc] 70 (0, 0)), (some b5, lO (δ))] from ⟨b122, b132, e9, e10, ((((((((((H170'.pull (k := 9) rfl).pull (k := 9) rfl).pull (k := 9) rfl).pull (k := 9) rfl).pull (k := 9) rfl).pull (k := 9) rfl).pull (k := 9) rfl).pull (k := 9) rfl).pull (k := 9) rfl).pull (k := 9) rfl)⟩))
     refine WalkE.nil ?_
     intro r172 uw0 w173 hF hEx
     obtain ⟨b122, b132, e9, e10, H174⟩ := hF
     replace H174 := H174.ext hEx
     dsimp only
     rw [e9, e10]
     refine wnil ?_
     refine thenNormal ?_
     refine seqAny ?_
     refine drawE (m := 15) [0, 0, 0, 0, 12, 0, 62, 0, 254, 0, 1022, 2047, 4095, 0, 16383] [11, 13, 14] (fun bs vs w' => match bs, vs with | [false, false, false], [_, _, _] => Hp No w w' [(some b132, lO (lhash lb (sv + (1#64)))), (some b122, lO (lhash la sv)), (some b114, lO (lb)), (some b46, lO (la)), (some b39, .cells #[i64 (((gs).getD i g0).k), i64 (((gs).getD i g0).a), i64 (((gs).getD i g0).b)] 99 (0, 0)), (k1, sob ELb 38 ((gS lhash δ first gs zs i).1) z1), (k2, sob ELb 38 ((gS lhash δ first gs zs i).2) z2), (some b17, .cells (cel E8 (AesSpec.cipher AesSpec.fixKey)).toArray 215 (0, 0)), (some b1, .cells #[i64 (zs.length : Nat), .slice ga gs.length gc, .slice oa ol.length oc] 70 (0, 0)), (some b5, lO (δ))] | [true, false, false], [v11, _, _] => ∃ (b176 : Nat), v11 = .slice (ownA (some b176)) 3 3 ∧ Sl ELb (some b176) ([lhash la sv, lhash (lx la δ) sv, lw (col lb) δ] : List LbT) 3 ([]) ∧ Hp No w w' [((some b176), sob ELb 38 ([lhash la sv, lhash (lx la δ) sv, lw (col lb) δ] : List LbT) ([])), (some b132, lO (lhash lb (sv + (1#64)))), (some b122, lO (lhash la sv)), (some b114, lO (lb)), (some b46, lO (la)), (some b39, .cells #[i64 (((gs).getD i g0).k), i64 (((gs).getD i g0).a), i64 (((gs).getD i g0).b)] 99 (0, 0)), (k1, sob ELb 38 ((gS lhash δ first gs zs i).1) z1), (k2, sob ELb 38 ((gS lhash δ first gs zs i).2) z2), (some b17, .cells (cel E8 (AesSpec.cipher AesSpec.fixKey)).toArray 215 (0, 0)), (some b1, .cells #[i64 (zs.length : Nat), .slice ga gs.length gc, .slice oa ol.length oc] 70 (0, 0)), (some b5, lO (δ))] | [false, true, false], [_, v13, _] => ∃ (b182 : Nat), v13 = pT b182 ∧ Hp No w w' [(some b182, .cells (cel E64 ([0#64, 0#64])).toArray 38 (0, 0)), (some b132, lO (lhash lb (sv + (1#64)))), (some b122, lO (lhash la sv)), (some b114, lO (lb)), (some b46, lO (la)), (some b39, .cells #[i64 (((gs).getD i g0).k), i64 (((gs).getD i g0).a), i64 (((gs).getD i g0).b)] 99 (0, 0)), (k1, sob ELb 38 ((gS lhash δ first gs zs i).1) z1), (k2, sob ELb 38 ((gS lhash δ first gs zs i).2) z2), (some b17, .cells (cel E8 (AesSpec.cipher AesSpec.fixKey)).toArray 215 (0, 0)), (some b1, .cells #[i64 (zs.length : Nat), .slice ga gs.length gc, .slice oa ol.length oc] 70 (0, 0)), (some b5, lO (δ))] | [true, true, false], [v11, v13, _] => ∃ (b176 : Nat) (b187 : Nat), v11 = .slice (ownA (some b176)) 3 3 ∧ v13 = pT b187 ∧ Sl ELb (some b176) ([lhash la sv, lhash (lx la δ) sv, lw (col lb) δ] : List LbT) 3 ([]) ∧ Hp No w w' [(some b187, .cells (cel E64 ([0#64, 0#64])).toArray 38 (0, 0)), ((some b176), sob ELb 38 ([lhash la sv, lhash (lx la δ) sv, lw (col lb) δ] : List LbT) ([])), (some b132, lO (lhash lb (sv + (1#64)))), (some b122, lO (lhash la sv)), (some b114, lO (lb)), (some b46, lO (la)), (some b39, .cells #[i64 (((gs).getD i g0).k), i64 (((gs).getD i g0).a), i64 (((gs).getD i g0).b)] 99 (0, 0)), (k1, sob ELb 38 ((gS lhash δ first gs zs i).1) z1), (k2, sob ELb 38 ((gS lhash δ first gs zs i).2) z2), (some b17, .cells (cel E8 (AesSpec.cipher AesSpec.fixKey)).toArray 215 (0, 0)), (some b1, .cells #[i64 (zs.length : Nat), .slice ga gs.length gc, .slice oa ol.length oc] 70 (0, 0)), (some b5, lO (δ))] | [true, true, true], [v11, v13, _] => ∃ (b176 : Nat) (b187 : Nat), v11 = .slice (ownA (some b176)) 3 3 ∧ v13 = pT b187 ∧ Sl ELb (some b176) ([lhash la sv, lhash (lx la δ) sv, lw (col lb) δ] : List LbT) 3 ([]) ∧ Hp No w w' [(some b187, lO (lsum ([lhash la sv, lhash (lx la δ) sv, lw (col lb) δ] : List LbT))), ((some b176), sob ELb 38 ([lhash la sv, lhash (lx la δ) sv, lw (col lb) δ] : List LbT) ([])), (some b132, lO (lhash lb (sv + (1#64)))), (some b122, lO (lhash la sv)), (some b114, lO (lb)), (some b46, lO (la)), (some b39, .cells #[i64 (((gs).getD i g0).k), i64 (((gs).getD i g0).a), i64 (((gs).getD i g0).b)] 99 (0, 0)), (k1, sob ELb 38 ((gS lhash δ first gs zs i).1) z1), (k2, sob ELb 38 ((gS lhash δ first gs zs i).2) z2), (some b17, .cells (cel E8 (AesSpec.cipher AesSpec.fixKey)).toArray 215 (0, 0)), (some b1, .cells #[i64 (zs.length : Nat), .slice ga gs.length gc, .slice oa ol.length oc] 70 (0, 0)), (some b5, lO (δ))] | _, _ => False) mixed (by kernel_rfl) (by kernel_rfl) H174.drew ?_
     refine WalkE.look rfl (fun _ => lV (lhash la sv)) (fun _ _ _ => rfl) (fun L r uw0 uw hAn hDn hF hEx => ?_) ?_
     ·skip
      have b11 := hDn 11 (by decide) rfl
      have b14 := hDn 14 (by decide) rfl
      rcases bTF (L 13) with b13 | b13
      ·skip
       have hb := mp3 b11 b13 b14
       rw [hb] at hF
       obtain ⟨b182, e13, HH⟩ := hF
       replace HH := HH.ext hEx
       exact Gives.run rfl (r_loadA (cs' := (cel E64 ([(lhash la sv).1, (lhash la sv).2])).toArray) agg38 siz38 (HH.get (k := 2) rfl) (off := 0) rfl (by exact bLe rfl) (by exact ext_all rfl)) ⟨rfl, rfl⟩
      ·skip
       have hb := mp3 b11 b13 b14
       rw [hb] at hF
       have HH := hF
       replace HH := HH.ext hEx
       exact Gives.run rfl (r_loadA (cs' := (cel E64 ([(lhash la sv).1, (lhash la sv).2])).toArray) agg38 siz38 (HH.get (k := 1) rfl) (off := 0) rfl (by exact bLe rfl) (by exact ext_all rfl)) ⟨rfl, rfl⟩
     refine WalkE.look rfl (fun _ => pT b17) (fun _ _ _ => rfl) (fun L r _ uw _ _ _ _ => Gives.run rfl (r_move (v := pT b17) rfl) ⟨rfl, rfl⟩) ?_
     refine WalkE.look rfl (fun _ => lV (la)) (fun _ _ _ => rfl) (fun L r uw0 uw hAn hDn hF hEx => ?_) ?_
     ·skip
      have b11 := hDn 11 (by decide) rfl
      have b14 := hDn 14 (by decide) rfl
      rcases bTF (L 13) with b13 | b13
      ·skip
       have hb := mp3 b11 b13 b14
       rw [hb] at hF
       obtain ⟨b182, e13, HH⟩ := hF
       replace HH := HH.ext hEx
       exact Gives.run rfl (r_loadA (cs' := (cel E64 ([(la).1, (la).2])).toArray) agg38 siz38 (HH.get (k := 4) rfl) (off := 0) rfl (by exact bLe rfl) (by exact ext_all rfl)) ⟨rfl, rfl⟩
      ·skip
       have hb := mp3 b11 b13 b14
       rw [hb] at hF
       have HH := hF
       replace HH := HH.ext hEx
       exact Gives.run rfl (r_loadA (cs' := (cel E64 ([(la).1, (la).2])).toArray) agg38 siz38 (HH.get (k := 3) rfl) (off := 0) rfl (by exact bLe rfl) (by exact ext_all rfl)) ⟨rfl, rfl⟩
     refine WalkE.look rfl (fun _ => lV (δ)) (fun _ _ _ => rfl) (fun L r uw0 uw hAn hDn hF hEx => ?_) ?_
     ·skip
      have b11 := hDn 11 (by decide) rfl
      have b14 := hDn 14 (by decide) rfl
      rcases bTF (L 13) with b13 | b13
      ·skip
       have hb := mp3 b11 b13 b14
       rw [hb] at hF
       obtain ⟨b182, e13, HH⟩ := hF
       replace HH := HH.ext hEx
       exact Gives.run rfl (r_loadA (cs' := (cel E64 ([(δ).1, (δ).2])).toArray) agg38 siz38 (HH.get (k := 10) rfl) (off := 0) rfl (by exact bLe rfl) (by exact ext_all rfl)) ⟨rfl, rfl⟩
      ·skip
       have hb := mp3 b11 b13 b14
       rw [hb] at hF
       have HH := hF
       replace HH := HH.ext hEx
       exact Gives.run rfl (r_loadA (cs' := (cel E64 ([(δ).1, (δ).2])).toArray) agg38 siz38 (HH.get (k := 9) rfl) (off := 0) rfl (by exact bLe rfl) (by exact ext_all rfl)) ⟨rfl, rfl⟩
     refine WalkE.call rfl (fun _ => .agg (cel E64 [(lx la δ).1, (lx la δ).2]).toArray) (fun _ _ _ => rfl) (fun L r uw0 uw hAn hDn hF hEx => ?_) ?_
     ·skip
      have b11 := hDn 11 (by decide) rfl
      have b14 := hDn 14 (by decide) rfl
      rcases bTF (L 13) with b13 | b13
      ·skip
       have hb := mp3 b11 b13 b14
       rw [hb] at hF
       obtain ⟨b182, e13, HH⟩ := hF
       replace HH := HH.ext hEx
       exact Gives.call rfl (Enters.callL (vs := [lV (la), lV (δ)]) call86 rfl) (lxor_ok la δ uw)
      ·skip
       have hb := mp3 b11 b13 b14
       rw [hb] at hF
       have HH := hF
       replace HH := HH.ext hEx
       exact Gives.call rfl (Enters.callL (vs := [lV (la), lV (δ)]) call86 rfl) (lxor_ok la δ uw)
     refine WalkE.look rfl (fun _ => u64 (sv)) (fun _ _ _ => rfl) (fun L r _ uw _ _ _ _ => Gives.run rfl (r_move (v := u64 (sv)) rfl) ⟨rfl, rfl⟩) ?_
     refine WalkE.call rfl (fun _ => .agg (cel E64 [(lhash (lx la δ) sv).1, (lhash (lx la δ) sv).2]).toArray) (fun _ _ _ => rfl) (fun L r uw0 uw hAn hDn hF hEx => ?_) ?_
     ·skip
      have b11 := hDn 11 (by decide) rfl
      have b14 := hDn 14 (by decide) rfl
      rcases bTF (L 13) with b13 | b13
      ·skip
       have hb := mp3 b11 b13 b14
       rw [hb] at hF
       obtain ⟨b182, e13, HH⟩ := hF
       replace HH := HH.ext hEx
       exact Gives.call rfl (Enters.callL (vs := [pT b17, .agg (cel E64 [(lx la δ).1, (lx la δ).2]).toArray, u64 (sv)]) call87 rfl) (lhash_ok b17 (lx la δ) sv uw (HH.get (k := 8) rfl))
      ·skip
       have hb := mp3 b11 b13 b14
       rw [hb] at hF
       have HH := hF
       replace HH := HH.ext hEx
       exact Gives.call rfl (Enters.callL (vs := [pT b17, .agg (cel E64 [(lx la δ).1, (lx la δ).2]).toArray, u64 (sv)]) call87 rfl) (lhash_ok b17 (lx la δ) sv uw (HH.get (k := 7) rfl))
     refine WalkE.look rfl (fun _ => lV (lb)) (fun _ _ _ => rfl) (fun L r uw0 uw hAn hDn hF hEx => ?_) ?_
     ·skip
      have b11 := hDn 11 (by decide) rfl
      have b14 := hDn 14 (by decide) rfl
      rcases bTF (L 13) with b13 | b13
      ·skip
       have hb := mp3 b11 b13 b14
       rw [hb] at hF
       obtain ⟨b182, e13, HH⟩ := hF
       replace HH := HH.ext hEx
       exact Gives.run rfl (r_loadA (cs' := (cel E64 ([(lb).1, (lb).2])).toArray) agg38 siz38 (HH.get (k := 3) rfl) (off := 0) rfl (by exact bLe rfl) (by exact ext_all rfl)) ⟨rfl, rfl⟩
      ·skip
       have hb := mp3 b11 b13 b14
       rw [hb] at hF
       have HH := hF
       replace HH := HH.ext hEx
       exact Gives.run rfl (r_loadA (cs' := (cel E64 ([(lb).1, (lb).2])).toArray) agg38 siz38 (HH.get (k := 2) rfl) (off := 0) rfl (by exact bLe rfl) (by exact ext_all rfl)) ⟨rfl, rfl⟩
     refine WalkE.call rfl (fun _ => .bool (col lb)) (fun _ _ _ => rfl) (fun L r uw0 uw hAn hDn hF hEx => ?_) ?_
     ·skip
      have b11 := hDn 11 (by decide) rfl
      have b14 := hDn 14 (by decide) rfl
      rcases bTF (L 13) with b13 | b13
      ·skip
       have hb := mp3 b11 b13 b14
       rw [hb] at hF
       obtain ⟨b182, e13, HH⟩ := hF
       replace HH := HH.ext hEx
       exact Gives.call rfl (Enters.callL (vs := [lV (lb)]) call84 rfl) (col_ok lb uw)
      ·skip
       have hb := mp3 b11 b13 b14
       rw [hb] at hF
       have HH := hF
       replace HH := HH.ext hEx
       exact Gives.call rfl (Enters.callL (vs := [lV (lb)]) call84 rfl) (col_ok lb uw)
     refine WalkE.look rfl (fun _ => lV (δ)) (fun _ _ _ => rfl) (fun L r uw0 uw hAn hDn hF hEx => ?_) ?_
     ·skip
      have b11 := hDn 11 (by decide) rfl
      have b14 := hDn 14 (by decide) rfl
      rcases bTF (L 13) with b13 | b13
      ·skip
       have hb := mp3 b11 b13 b14
       rw [hb] at hF
       obtain ⟨b182, e13, HH⟩ := hF
       replace HH := HH.ext hEx
       exact Gives.run rfl (r_loadA (cs' := (cel E64 ([(δ).1, (δ).2])).toArray) agg38 siz38 (HH.get (k := 10) rfl) (off := 0) rfl (by exact bLe rfl) (by exact ext_all rfl)) ⟨rfl, rfl⟩
      ·skip
       have hb := mp3 b11 b13 b14
       rw [hb] at hF
       have HH := hF
       replace HH := HH.ext hEx
       exact Gives.run rfl (r_loadA (cs' := (cel E64 ([(δ).1, (δ).2])).toArray) agg38 siz38 (HH.get (k := 9) rfl) (off := 0) rfl (by exact bLe rfl) (by exact ext_all rfl)) ⟨rfl, rfl⟩
     refine WalkE.call rfl (fun _ => .agg (cel E64 [(lw (col lb) δ).1, (lw (col lb) δ).2]).toArray) (fun _ _ _ => rfl) (fun L r uw0 uw hAn hDn hF hEx => ?_) ?_
     ·skip
      have b11 := hDn 11 (by decide) rfl
      have b14 := hDn 14 (by decide) rfl
      rcases bTF (L 13) with b13 | b13
      ·skip
       have hb := mp3 b11 b13 b14
       rw [hb] at hF
       obtain ⟨b182, e13, HH⟩ := hF
       replace HH := HH.ext hEx
       exact Gives.call rfl (Enters.callL (vs := [.bool (col lb), lV (δ)]) call89 rfl) (lw_ok (col lb) δ uw)
      ·skip
       have hb := mp3 b11 b13 b14
       rw [hb] at hF
       have HH := hF
       replace HH := HH.ext hEx
       exact Gives.call rfl (Enters.callL (vs := [.bool (col lb), lV (δ)]) call89 rfl) (lw_ok (col lb) δ uw)
     refine WalkE.eff 0 rfl (fun L r uw0 uw hLn hAn hDn hF hEx => ?_) ?_
     ·skip
      have b11 : L 11 = false := hLn
      have b14 := hDn 14 (by decide) rfl
      rcases bTF (L 13) with b13 | b13
      ·skip
       have hb := mp3 b11 b13 b14
       rw [hb] at hF ⊢
       obtain ⟨b182, e13, H195⟩ := hF
       replace H195 := H195.ext hEx
       dsimp only
       refine Gives.ofW (d := 112) rfl rfl (fun Q' hK => ?_)
       refine q_buildSlice (E := ELb) (l := ([lhash la sv, lhash (lx la δ) sv, lw (col lb) δ] : List LbT)) H195 sli92 zer38 (bLe rfl) (ps := [(0, lV (lhash la sv)), (1, .agg (cel E64 [(lhash (lx la δ) sv).1, (lhash (lx la δ) sv).2]).toArray), (2, .agg (cel E64 [(lw (col lb) δ).1, (lw (col lb) δ).2]).toArray)]) rfl (by exact fillAll rfl rfl) rfl ?_
       intro b196 w198 hS197 H199 hE200
       exact hK _ _ (show ∃ (b176 : Nat) (b187 : Nat), (_ : Value) = .slice (ownA (some b176)) 3 3 ∧ r 13 = pT b187 ∧ Sl ELb (some b176) ([lhash la sv, lhash (lx la δ) sv, lw (col lb) δ] : List LbT) 3 ([]) ∧ Hp No w w198 [(some b187, .cells (cel E64 ([0#64, 0#64])).toArray 38 (0, 0)), ((some b176), sob ELb 38 ([lhash la sv, lhash (lx la δ) sv, lw (col lb) δ] : List LbT) ([])), (some b132, lO (lhash lb (sv + (1#64)))), (some b122, lO (lhash la sv)), (some b114, lO (lb)), (some b46, lO (la)), (some b39, .cells #[i64 (((gs).getD i g0).k), i64 (((gs).getD i g0).a), i64 (((gs).getD i g0).b)] 99 (0, 0)), (k1, sob ELb 38 ((gS lhash δ first gs zs i).1) z1), (k2, sob ELb 38 ((gS lhash δ first gs zs i).2) z2), (some b17, .cells (cel E8 (AesSpec.cipher AesSpec.fixKey)).toArray 215 (0, 0)), (some b1, .cells #[i64 (zs.length : Nat), .slice ga gs.length gc, .slice oa ol.length oc] 70 (0, 0)), (some b5, lO (δ))] from ⟨b196, b182, rfl, e13, hS197, ((((((((((((H199.pull (k := 11) rfl).pull (k := 11) rfl).pull (k := 11) rfl).pull (k := 11) rfl).pull (k := 11) rfl).pull (k := 11) rfl).pull (k := 11) rfl).pull (k := 11) rfl).pull (k := 11) rfl).pull (k := 11) rfl).pull (k := 10) rfl).pull (k := 11) rfl)⟩)
      ·skip
       have hb := mp3 b11 b13 b14
       rw [hb] at hF ⊢
       have H201 := hF
       replace H201 := H201.ext hEx
       dsimp only
       refine Gives.ofW (d := 112) rfl rfl (fun Q' hK => ?_)
       refine q_buildSlice (E := ELb) (l := ([lhash la sv, lhash (lx la δ) sv, lw (col lb) δ] : List LbT)) H201 sli92 zer38 (bLe rfl) (ps := [(0, lV (lhash la sv)), (1, .agg (cel E64 [(lhash (lx la δ) sv).1, (lhash (lx la δ) sv).2]).toArray), (2, .agg (cel E64 [(lw (col lb) δ).1, (lw (col lb) δ).2]).toArray)]) rfl (by exact fillAll rfl rfl) rfl ?_
       intro b202 w204 hS203 H205 hE206
       exact hK _ _ (show ∃ (b176 : Nat), (_ : Value) = .slice (ownA (some b176)) 3 3 ∧ Sl ELb (some b176) ([lhash la sv, lhash (lx la δ) sv, lw (col lb) δ] : List LbT) 3 ([]) ∧ Hp No w w204 [((some b176), sob ELb 38 ([lhash la sv, lhash (lx la δ) sv, lw (col lb) δ] : List LbT) ([])), (some b132, lO (lhash lb (sv + (1#64)))), (some b122, lO (lhash la sv)), (some b114, lO (lb)), (some b46, lO (la)), (some b39, .cells #[i64 (((gs).getD i g0).k), i64 (((gs).getD i g0).a), i64 (((gs).getD i g0).b)] 99 (0, 0)), (k1, sob ELb 38 ((gS lhash δ first gs zs i).1) z1), (k2, sob ELb 38 ((gS lhash δ first gs zs i).2) z2), (some b17, .cells (cel E8 (AesSpec.cipher AesSpec.fixKey)).toArray 215 (0, 0)), (some b1, .cells #[i64 (zs.length : Nat), .slice ga gs.length gc, .slice oa ol.length oc] 70 (0, 0)), (some b5, lO (δ))] from ⟨b202, rfl, hS203, (((((((((((H205.pull (k := 10) rfl).pull (k := 10) rfl).pull (k := 10) rfl).pull (k := 10) rfl).pull (k := 10) rfl).pull (k := 10) rfl).pull (k := 10) rfl).pull (k := 10) rfl).pull (k := 10) rfl).pull (k := 10) rfl).pull (k := 10) rfl)⟩)
     refine WalkE.call rfl (fun _ => .agg (cel E64 [(lsum ([lhash la sv, lhash (lx la δ) sv, lw (col lb) δ] : List LbT)).1, (lsum ([lhash la sv, lhash (lx la δ) sv, lw (col lb) δ] : List LbT)).2]).toArray) (fun _ _ _ => rfl) (fun L r uw0 uw hAn hDn hF hEx => ?_) ?_
     ·skip
      have b11 := hAn 11 (by decide) rfl
      have b14 := hDn 14 (by decide) rfl
      rcases bTF (L 13) with b13 | b13
      ·skip
       have hb := mp3 b11 b13 b14
       rw [hb] at hF
       obtain ⟨b176, b187, e11, e13, hS177, HH⟩ := hF
       replace HH := HH.ext hEx
       dsimp only
       rw [e11]
       exact Gives.call rfl (Enters.callL (vs := [.slice (ownA (some b176)) 3 3]) call88 rfl) (lsum_ok ([lhash la sv, lhash (lx la δ) sv, lw (col lb) δ] : List LbT) (ownA (some b176)) 3 3 (by rfl) (by simp) uw (HH.rd (k := 1) rfl hS177))
      ·skip
       have hb := mp3 b11 b13 b14
       rw [hb] at hF
       obtain ⟨b176, e11, hS177, HH⟩ := hF
       replace HH := HH.ext hEx
       dsimp only
       rw [e11]
       exact Gives.call rfl (Enters.callL (vs := [.slice (ownA (some b176)) 3 3]) call88 rfl) (lsum_ok ([lhash la sv, lhash (lx la δ) sv, lw (col lb) δ] : List LbT) (ownA (some b176)) 3 3 (by rfl) (by simp) uw (HH.rd (k := 0) rfl hS177))
     refine WalkE.eff 1 rfl (fun L r uw0 uw hLn hAn hDn hF hEx => ?_) ?_
     ·skip
      have b13 : L 13 = false := hLn
      have b14 := hDn 14 (by decide) rfl
      rcases bTF (L 11) with b11 | b11
      ·skip
       have hb := mp3 b11 b13 b14
       rw [hb] at hF ⊢
       obtain ⟨b176, e11, hS177, H207⟩ := hF
       replace H207 := H207.ext hEx
       dsimp only
       rw [e11]
       refine Gives.ofW (d := 22) rfl rfl (fun Q' hK => ?_)
       refine q_alloc (o := .cells (cel E64 ([0#64, 0#64])).toArray 38 (0, 0)) H207 zer38 (by kernel_rfl) ?_
       intro b208 w209 hb208 H210 hE211
       exact hK _ _ (show ∃ (b176 : Nat) (b187 : Nat), r 11 = .slice (ownA (some b176)) 3 3 ∧ (_ : Value) = pT b187 ∧ Sl ELb (some b176) ([lhash la sv, lhash (lx la δ) sv, lw (col lb) δ] : List LbT) 3 ([]) ∧ Hp No w w209 [(some b187, .cells (cel E64 ([0#64, 0#64])).toArray 38 (0, 0)), ((some b176), sob ELb 38 ([lhash la sv, lhash (lx la δ) sv, lw (col lb) δ] : List LbT) ([])), (some b132, lO (lhash lb (sv + (1#64)))), (some b122, lO (lhash la sv)), (some b114, lO (lb)), (some b46, lO (la)), (some b39, .cells #[i64 (((gs).getD i g0).k), i64 (((gs).getD i g0).a), i64 (((gs).getD i g0).b)] 99 (0, 0)), (k1, sob ELb 38 ((gS lhash δ first gs zs i).1) z1), (k2, sob ELb 38 ((gS lhash δ first gs zs i).2) z2), (some b17, .cells (cel E8 (AesSpec.cipher AesSpec.fixKey)).toArray 215 (0, 0)), (some b1, .cells #[i64 (zs.length : Nat), .slice ga gs.length gc, .slice oa ol.length oc] 70 (0, 0)), (some b5, lO (δ))] from ⟨b176, b208, e11, rfl, hS177, ((((((((((((H210.pull (k := 11) rfl).pull (k := 11) rfl).pull (k := 11) rfl).pull (k := 11) rfl).pull (k := 11) rfl).pull (k := 11) rfl).pull (k := 11) rfl).pull (k := 11) rfl).pull (k := 11) rfl).pull (k := 11) rfl).pull (k := 11) rfl).pull (k := 11) rfl)⟩)
      ·skip
       have hb := mp3 b11 b13 b14
       rw [hb] at hF ⊢
       have H212 := hF
       replace H212 := H212.ext hEx
       dsimp only
       refine Gives.ofW (d := 22) rfl rfl (fun Q' hK => ?_)
       refine q_alloc (o := .cells (cel E64 ([0#64, 0#64])).toArray 38 (0, 0)) H212 zer38 (by kernel_rfl) ?_
       intro b213 w214 hb213 H215 hE216
       exact hK _ _ (show ∃ (b182 : Nat), (_ : Value) = pT b182 ∧ Hp No w w214 [(some b182, .cells (cel E64 ([0#64, 0#64])).toArray 38 (0, 0)), (some b132, lO (lhash lb (sv + (1#64)))), (some b122, lO (lhash la sv)), (some b114, lO (lb)), (some b46, lO (la)), (some b39, .cells #[i64 (((gs).getD i g0).k), i64 (((gs).getD i g0).a), i64 (((gs).getD i g0).b)] 99 (0, 0)), (k1, sob ELb 38 ((gS lhash δ first gs zs i).1) z1), (k2, sob ELb 38 ((gS lhash δ first gs zs i).2) z2), (some b17, .cells (cel E8 (AesSpec.cipher AesSpec.fixKey)).toArray 215 (0, 0)), (some b1, .cells #[i64 (zs.length : Nat), .slice ga gs.length gc, .slice oa ol.length oc] 70 (0, 0)), (some b5, lO (δ))] from ⟨b213, rfl, (((((((((((H215.pull (k := 10) rfl).pull (k := 10) rfl).pull (k := 10) rfl).pull (k := 10) rfl).pull (k := 10) rfl).pull (k := 10) rfl).pull (k := 10) rfl).pull (k := 10) rfl).pull (k := 10) rfl).pull (k := 10) rfl).pull (k := 10) rfl)⟩)
     refine WalkE.eff 2 rfl (fun L r uw0 uw hLn hAn hDn hF hEx => ?_) ?_
     ·skip
      have b11 := hAn 11 (by decide) rfl
      have b13 := hAn 13 (by decide) rfl
      have b14 : L 14 = false := hLn
      have hb := mp3 b11 b13 b14
      rw [hb] at hF ⊢
      obtain ⟨b176, b187, e11, e13, hS177, H217⟩ := hF
      replace H217 := H217.ext hEx
      dsimp only
      rw [e11, e13]
      refine Gives.ofW0 rfl (fun Q' hK => ?_)
      refine d_store (k := 0) (v := .agg (cel E64 [(lsum ([lhash la sv, lhash (lx la δ) sv, lw (col lb) δ] : List LbT)).1, (lsum ([lhash la sv, lhash (lx la δ) sv, lw (col lb) δ] : List LbT)).2]).toArray) (cs' := (cel E64 ([(lsum ([lhash la sv, lhash (lx la δ) sv, lw (col lb) δ] : List LbT)).1, (lsum ([lhash la sv, lhash (lx la δ) sv, lw (col lb) δ] : List LbT)).2])).toArray) H217 rfl rfl rfl siz38 (by exact celSize (by first | rfl | (show _ * 1 = _; omega))) (by exact celOne _) (by rw [List.size_toArray, cel_length]; show _ ≤ _ * 1; first | omega | (simp only [List.length_set]; omega) | exact bLe rfl | (simp <;> omega)) (by exact putAll (by first | rfl | omega | (simp <;> omega))) ?_
      intro w218 H219 hC220
      have H219' := H219.as (L' := [(some b187, lO (lsum ([lhash la sv, lhash (lx la δ) sv, lw (col lb) δ] : List LbT))), ((some b176), sob ELb 38 ([lhash la sv, lhash (lx la δ) sv, lw (col lb) δ] : List LbT) ([])), (some b132, lO (lhash lb (sv + (1#64)))), (some b122, lO (lhash la sv)), (some b114, lO (lb)), (some b46, lO (la)), (some b39, .cells #[i64 (((gs).getD i g0).k), i64 (((gs).getD i g0).a), i64 (((gs).getD i g0).b)] 99 (0, 0)), (k1, sob ELb 38 ((gS lhash δ first gs zs i).1) z1), (k2, sob ELb 38 ((gS lhash δ first gs zs i).2) z2), (some b17, .cells (cel E8 (AesSpec.cipher AesSpec.fixKey)).toArray 215 (0, 0)), (some b1, .cells #[i64 (zs.length : Nat), .slice ga gs.length gc, .slice oa ol.length oc] 70 (0, 0)), (some b5, lO (δ))]) rfl
      clear H219
      exact hK _ (fun _ => (show ∃ (b176 : Nat) (b187 : Nat), r 11 = .slice (ownA (some b176)) 3 3 ∧ r 13 = pT b187 ∧ Sl ELb (some b176) ([lhash la sv, lhash (lx la δ) sv, lw (col lb) δ] : List LbT) 3 ([]) ∧ Hp No w w218 [(some b187, lO (lsum ([lhash la sv, lhash (lx la δ) sv, lw (col lb) δ] : List LbT))), ((some b176), sob ELb 38 ([lhash la sv, lhash (lx la δ) sv, lw (col lb) δ] : List LbT) ([])), (some b132, lO (lhash lb (sv + (1#64)))), (some b122, lO (lhash la sv)), (some b114, lO (lb)), (some b46, lO (la)), (some b39, .cells #[i64 (((gs).getD i g0).k), i64 (((gs).getD i g0).a), i64 (((gs).getD i g0).b)] 99 (0, 0)), (k1, sob ELb 38 ((gS lhash δ first gs zs i).1) z1), (k2, sob ELb 38 ((gS lhash δ first gs zs i).2) z2), (some b17, .cells (cel E8 (AesSpec.cipher AesSpec.fixKey)).toArray 215 (0, 0)), (some b1, .cells #[i64 (zs.length : Nat), .slice ga gs.length gc, .slice oa ol.length oc] 70 (0, 0)), (some b5, lO (δ))] from ⟨b176, b187, e11, e13, hS177, ((((((((((((H219'.pull (k := 11) rfl).pull (k := 11) rfl).pull (k := 11) rfl).pull (k := 11) rfl).pull (k := 11) rfl).pull (k := 11) rfl).pull (k := 11) rfl).pull (k := 11) rfl).pull (k := 11) rfl).pull (k := 11) rfl).pull (k := 11) rfl).pull (k := 11) rfl)⟩))
     refine WalkE.nil ?_
     intro r221 uw0 w222 hF hEx
     obtain ⟨b176, b187, e11, e13, hS177, H223⟩ := hF
     replace H223 := H223.ext hEx
     dsimp only
     rw [e11, e13]
     obtain ⟨tx, htx⟩ : ∃ x : Lb, x = tabX lhash δ la lb sv := ⟨_, rfl⟩
     rw [show (lsum ([lhash la sv, lhash (lx la δ) sv, lw (col lb) δ] : List LbT) : Lb) = tx from htx.symm] at H223
     refine wnil ?_
     refine thenNormal ?_
     refine seqAny ?_
     refine drawE (m := 13) [0, 0, 0, 0, 12, 0, 32, 126, 0, 511, 1023, 0, 4095] [9, 11, 12] (fun bs vs w' => match bs, vs with | [false, false, false], [_, _, _] => Hp No w w' [(some b187, lO (tx)), ((some b176), sob ELb 38 ([lhash la sv, lhash (lx la δ) sv, lw (col lb) δ] : List LbT) ([])), (some b132, lO (lhash lb (sv + (1#64)))), (some b122, lO (lhash la sv)), (some b114, lO (lb)), (some b46, lO (la)), (some b39, .cells #[i64 (((gs).getD i g0).k), i64 (((gs).getD i g0).a), i64 (((gs).getD i g0).b)] 99 (0, 0)), (k1, sob ELb 38 ((gS lhash δ first gs zs i).1) z1), (k2, sob ELb 38 ((gS lhash δ first gs zs i).2) z2), (some b17, .cells (cel E8 (AesSpec.cipher AesSpec.fixKey)).toArray 215 (0, 0)), (some b1, .cells #[i64 (zs.length : Nat), .slice ga gs.length gc, .slice oa ol.length oc] 70 (0, 0)), (some b5, lO (δ))] | [true, false, false], [v9, _, _] => ∃ (b225 : Nat), v9 = .slice (ownA (some b225)) 3 3 ∧ Sl ELb (some b225) ([lhash lb (sv + (1#64)), lhash (lx lb δ) (sv + (1#64)), la] : List LbT) 3 ([]) ∧ Hp No w w' [((some b225), sob ELb 38 ([lhash lb (sv + (1#64)), lhash (lx lb δ) (sv + (1#64)), la] : List LbT) ([])), (some b187, lO (tx)), ((some b176), sob ELb 38 ([lhash la sv, lhash (lx la δ) sv, lw (col lb) δ] : List LbT) ([])), (some b132, lO (lhash lb (sv + (1#64)))), (some b122, lO (lhash la sv)), (some b114, lO (lb)), (some b46, lO (la)), (some b39, .cells #[i64 (((gs).getD i g0).k), i64 (((gs).getD i g0).a), i64 (((gs).getD i g0).b)] 99 (0, 0)), (k1, sob ELb 38 ((gS lhash δ first gs zs i).1) z1), (k2, sob ELb 38 ((gS lhash δ first gs zs i).2) z2), (some b17, .cells (cel E8 (AesSpec.cipher AesSpec.fixKey)).toArray 215 (0, 0)), (some b1, .cells #[i64 (zs.length : Nat), .slice ga gs.length gc, .slice oa ol.length oc] 70 (0, 0)), (some b5, lO (δ))] | [false, true, false], [_, v11, _] => ∃ (b231 : Nat), v11 = pT b231 ∧ Hp No w w' [(some b231, .cells (cel E64 ([0#64, 0#64])).toArray 38 (0, 0)), (some b187, lO (tx)), ((some b176), sob ELb 38 ([lhash la sv, lhash (lx la δ) sv, lw (col lb) δ] : List LbT) ([])), (some b132, lO (lhash lb (sv + (1#64)))), (some b122, lO (lhash la sv)), (some b114, lO (lb)), (some b46, lO (la)), (some b39, .cells #[i64 (((gs).getD i g0).k), i64 (((gs).getD i g0).a), i64 (((gs).getD i g0).b)] 99 (0, 0)), (k1, sob ELb 38 ((gS lhash δ first gs zs i).1) z1), (k2, sob ELb 38 ((gS lhash δ first gs zs i).2) z2), (some b17, .cells (cel E8 (AesSpec.cipher AesSpec.fixKey)).toArray 215 (0, 0)), (some b1, .cells #[i64 (zs.length : Nat), .slice ga gs.length gc, .slice oa ol.length oc] 70 (0, 0)), (some b5, lO (δ))] | [true, true, false], [v9, v11, _] => ∃ (b225 : Nat) (b236 : Nat), v9 = .slice (ownA (some b225)) 3 3 ∧ v11 = pT b236 ∧ Sl ELb (some b225) ([lhash lb (sv + (1#64)), lhash (lx lb δ) (sv + (1#64)), la] : List LbT) 3 ([]) ∧ Hp No w w' [(some b236, .cells (cel E64 ([0#64, 0#64])).toArray 38 (0, 0)), ((some b225), sob ELb 38 ([lhash lb (sv + (1#64)), lhash (lx lb δ) (sv + (1#64)), la] : List LbT) ([])), (some b187, lO (tx)), ((some b176), sob ELb 38 ([lhash la sv, lhash (lx la δ) sv, lw (col lb) δ] : List LbT) ([])), (some b132, lO (lhash lb (sv + (1#64)))), (some b122, lO (lhash la sv)), (some b114, lO (lb)), (some b46, lO (la)), (some b39, .cells #[i64 (((gs).getD i g0).k), i64 (((gs).getD i g0).a), i64 (((gs).getD i g0).b)] 99 (0, 0)), (k1, sob ELb 38 ((gS lhash δ first gs zs i).1) z1), (k2, sob ELb 38 ((gS lhash δ first gs zs i).2) z2), (some b17, .cells (cel E8 (AesSpec.cipher AesSpec.fixKey)).toArray 215 (0, 0)), (some b1, .cells #[i64 (zs.length : Nat), .slice ga gs.length gc, .slice oa ol.length oc] 70 (0, 0)), (some b5, lO (δ))] | [true, true, true], [v9, v11, _] => ∃ (b225 : Nat) (b236 : Nat), v9 = .slice (ownA (some b225)) 3 3 ∧ v11 = pT b236 ∧ Sl ELb (some b225) ([lhash lb (sv + (1#64)), lhash (lx lb δ) (sv + (1#64)), la] : List LbT) 3 ([]) ∧ Hp No w w' [(some b236, lO (lsum ([lhash lb (sv + (1#64)), lhash (lx lb δ) (sv + (1#64)), la] : List LbT))), ((some b225), sob ELb 38 ([lhash lb (sv + (1#64)), lhash (lx lb δ) (sv + (1#64)), la] : List LbT) ([])), (some b187, lO (tx)), ((some b176), sob ELb 38 ([lhash la sv, lhash (lx la δ) sv, lw (col lb) δ] : List LbT) ([])), (some b132, lO (lhash lb (sv + (1#64)))), (some b122, lO (lhash la sv)), (some b114, lO (lb)), (some b46, lO (la)), (some b39, .cells #[i64 (((gs).getD i g0).k), i64 (((gs).getD i g0).a), i64 (((gs).getD i g0).b)] 99 (0, 0)), (k1, sob ELb 38 ((gS lhash δ first gs zs i).1) z1), (k2, sob ELb 38 ((gS lhash δ first gs zs i).2) z2), (some b17, .cells (cel E8 (AesSpec.cipher AesSpec.fixKey)).toArray 215 (0, 0)), (some b1, .cells #[i64 (zs.length : Nat), .slice ga gs.length gc, .slice oa ol.length oc] 70 (0, 0)), (some b5, lO (δ))] | _, _ => False) mixed (by kernel_rfl) (by kernel_rfl) H223.drew ?_
     refine WalkE.look rfl (fun _ => lV (lhash lb (sv + (1#64)))) (fun _ _ _ => rfl) (fun L r uw0 uw hAn hDn hF hEx => ?_) ?_
     ·skip
      have b9 := hDn 9 (by decide) rfl
      have b12 := hDn 12 (by decide) rfl
      rcases bTF (L 11) with b11 | b11
      ·skip
       have hb := mp3 b9 b11 b12
       rw [hb] at hF
       obtain ⟨b231, e11, HH⟩ := hF
       replace HH := HH.ext hEx
       exact Gives.run rfl (r_loadA (cs' := (cel E64 ([(lhash lb (sv + (1#64))).1, (lhash lb (sv + (1#64))).2])).toArray) agg38 siz38 (HH.get (k := 3) rfl) (off := 0) rfl (by exact bLe rfl) (by exact ext_all rfl)) ⟨rfl, rfl⟩
      ·skip
       have hb := mp3 b9 b11 b12
       rw [hb] at hF
       have HH := hF
       replace HH := HH.ext hEx
       exact Gives.run rfl (r_loadA (cs' := (cel E64 ([(lhash lb (sv + (1#64))).1, (lhash lb (sv + (1#64))).2])).toArray) agg38 siz38 (HH.get (k := 2) rfl) (off := 0) rfl (by exact bLe rfl) (by exact ext_all rfl)) ⟨rfl, rfl⟩
     refine WalkE.look rfl (fun _ => pT b17) (fun _ _ _ => rfl) (fun L r _ uw _ _ _ _ => Gives.run rfl (r_move (v := pT b17) rfl) ⟨rfl, rfl⟩) ?_
     refine WalkE.look rfl (fun _ => lV (lb)) (fun _ _ _ => rfl) (fun L r uw0 uw hAn hDn hF hEx => ?_) ?_
     ·skip
      have b9 := hDn 9 (by decide) rfl
      have b12 := hDn 12 (by decide) rfl
      rcases bTF (L 11) with b11 | b11
      ·skip
       have hb := mp3 b9 b11 b12
       rw [hb] at hF
       obtain ⟨b231, e11, HH⟩ := hF
       replace HH := HH.ext hEx
       exact Gives.run rfl (r_loadA (cs' := (cel E64 ([(lb).1, (lb).2])).toArray) agg38 siz38 (HH.get (k := 5) rfl) (off := 0) rfl (by exact bLe rfl) (by exact ext_all rfl)) ⟨rfl, rfl⟩
      ·skip
       have hb := mp3 b9 b11 b12
       rw [hb] at hF
       have HH := hF
       replace HH := HH.ext hEx
       exact Gives.run rfl (r_loadA (cs' := (cel E64 ([(lb).1, (lb).2])).toArray) agg38 siz38 (HH.get (k := 4) rfl) (off := 0) rfl (by exact bLe rfl) (by exact ext_all rfl)) ⟨rfl, rfl⟩
     refine WalkE.look rfl (fun _ => lV (δ)) (fun _ _ _ => rfl) (fun L r uw0 uw hAn hDn hF hEx => ?_) ?_
     ·skip
      have b9 := hDn 9 (by decide) rfl
      have b12 := hDn 12 (by decide) rfl
      rcases bTF (L 11) with b11 | b11
      ·skip
       have hb := mp3 b9 b11 b12
       rw [hb] at hF
       obtain ⟨b231, e11, HH⟩ := hF
       replace HH := HH.ext hEx
       exact Gives.run rfl (r_loadA (cs' := (cel E64 ([(δ).1, (δ).2])).toArray) agg38 siz38 (HH.get (k := 12) rfl) (off := 0) rfl (by exact bLe rfl) (by exact ext_all rfl)) ⟨rfl, rfl⟩
      ·skip
       have hb := mp3 b9 b11 b12
       rw [hb] at hF
       have HH := hF
       replace HH := HH.ext hEx
       exact Gives.run rfl (r_loadA (cs' := (cel E64 ([(δ).1, (δ).2])).toArray) agg38 siz38 (HH.get (k := 11) rfl) (off := 0) rfl (by exact bLe rfl) (by exact ext_all rfl)) ⟨rfl, rfl⟩
     refine WalkE.call rfl (fun _ => .agg (cel E64 [(lx lb δ).1, (lx lb δ).2]).toArray) (fun _ _ _ => rfl) (fun L r uw0 uw hAn hDn hF hEx => ?_) ?_
     ·skip
      have b9 := hDn 9 (by decide) rfl
      have b12 := hDn 12 (by decide) rfl
      rcases bTF (L 11) with b11 | b11
      ·skip
       have hb := mp3 b9 b11 b12
       rw [hb] at hF
       obtain ⟨b231, e11, HH⟩ := hF
       replace HH := HH.ext hEx
       exact Gives.call rfl (Enters.callL (vs := [lV (lb), lV (δ)]) call86 rfl) (lxor_ok lb δ uw)
      ·skip
       have hb := mp3 b9 b11 b12
       rw [hb] at hF
       have HH := hF
       replace HH := HH.ext hEx
       exact Gives.call rfl (Enters.callL (vs := [lV (lb), lV (δ)]) call86 rfl) (lxor_ok lb δ uw)
     refine WalkE.look rfl (fun _ => u64 (sv)) (fun _ _ _ => rfl) (fun L r _ uw _ _ _ _ => Gives.run rfl (r_move (v := u64 (sv)) rfl) ⟨rfl, rfl⟩) ?_
     refine WalkE.look rfl (fun _ => u64 (sv + (1#64))) (fun _ _ _ => rfl) (fun L r _ uw _ _ _ _ => Gives.run rfl (r_add64 (a := sv) (b := 1#64) rfl rfl) ⟨rfl, rfl⟩) ?_
     refine WalkE.call rfl (fun _ => .agg (cel E64 [(lhash (lx lb δ) (sv + (1#64))).1, (lhash (lx lb δ) (sv + (1#64))).2]).toArray) (fun _ _ _ => rfl) (fun L r uw0 uw hAn hDn hF hEx => ?_) ?_
     ·skip
      have b9 := hDn 9 (by decide) rfl
      have b12 := hDn 12 (by decide) rfl
      rcases bTF (L 11) with b11 | b11
      ·skip
       have hb := mp3 b9 b11 b12
       rw [hb] at hF
       obtain ⟨b231, e11, HH⟩ := hF
       replace HH := HH.ext hEx
       exact Gives.call rfl (Enters.callL (vs := [pT b17, .agg (cel E64 [(lx lb δ).1, (lx lb δ).2]).toArray, u64 (sv + (1#64))]) call87 rfl) (lhash_ok b17 (lx lb δ) (sv + (1#64)) uw (HH.get (k := 10) rfl))
      ·skip
       have hb := mp3 b9 b11 b12
       rw [hb] at hF
       have HH := hF
       replace HH := HH.ext hEx
       exact Gives.call rfl (Enters.callL (vs := [pT b17, .agg (cel E64 [(lx lb δ).1, (lx lb δ).2]).toArray, u64 (sv + (1#64))]) call87 rfl) (lhash_ok b17 (lx lb δ) (sv + (1#64)) uw (HH.get (k := 9) rfl))
     refine WalkE.look rfl (fun _ => lV (la)) (fun _ _ _ => rfl) (fun L r uw0 uw hAn hDn hF hEx => ?_) ?_
     ·skip
      have b9 := hDn 9 (by decide) rfl
      have b12 := hDn 12 (by decide) rfl
      rcases bTF (L 11) with b11 | b11
      ·skip
       have hb := mp3 b9 b11 b12
       rw [hb] at hF
       obtain ⟨b231, e11, HH⟩ := hF
       replace HH := HH.ext hEx
       exact Gives.run rfl (r_loadA (cs' := (cel E64 ([(la).1, (la).2])).toArray) agg38 siz38 (HH.get (k := 6) rfl) (off := 0) rfl (by exact bLe rfl) (by exact ext_all rfl)) ⟨rfl, rfl⟩
      ·skip
       have hb := mp3 b9 b11 b12
       rw [hb] at hF
       have HH := hF
       replace HH := HH.ext hEx
       exact Gives.run rfl (r_loadA (cs' := (cel E64 ([(la).1, (la).2])).toArray) agg38 siz38 (HH.get (k := 5) rfl) (off := 0) rfl (by exact bLe rfl) (by exact ext_all rfl)) ⟨rfl, rfl⟩
     refine WalkE.eff 0 rfl (fun L r uw0 uw hLn hAn hDn hF hEx => ?_) ?_
     ·skip
      have b9 : L 9 = false := hLn
      have b12 := hDn 12 (by decide) rfl
      rcases bTF (L 11) with b11 | b11
      ·skip
       have hb := mp3 b9 b11 b12
       rw [hb] at hF ⊢
       obtain ⟨b231, e11, H244⟩ := hF
       replace H244 := H244.ext hEx
       dsimp only
       refine Gives.ofW (d := 123) rfl rfl (fun Q' hK => ?_)
       refine q_buildSlice (E := ELb) (l := ([lhash lb (sv + (1#64)), lhash (lx lb δ) (sv + (1#64)), la] : List LbT)) H244 sli92 zer38 (bLe rfl) (ps := [(0, lV (lhash lb (sv + (1#64)))), (1, .agg (cel E64 [(lhash (lx lb δ) (sv + (1#64))).1, (lhash (lx lb δ) (sv + (1#64))).2]).toArray), (2, lV (la))]) rfl (by exact fillAll rfl rfl) rfl ?_
       intro b245 w247 hS246 H248 hE249
       exact hK _ _ (show ∃ (b225 : Nat) (b236 : Nat), (_ : Value) = .slice (ownA (some b225)) 3 3 ∧ r 11 = pT b236 ∧ Sl ELb (some b225) ([lhash lb (sv + (1#64)), lhash (lx lb δ) (sv + (1#64)), la] : List LbT) 3 ([]) ∧ Hp No w w247 [(some b236, .cells (cel E64 ([0#64, 0#64])).toArray 38 (0, 0)), ((some b225), sob ELb 38 ([lhash lb (sv + (1#64)), lhash (lx lb δ) (sv + (1#64)), la] : List LbT) ([])), (some b187, lO (tx)), ((some b176), sob ELb 38 ([lhash la sv, lhash (lx la δ) sv, lw (col lb) δ] : List LbT) ([])), (some b132, lO (lhash lb (sv + (1#64)))), (some b122, lO (lhash la sv)), (some b114, lO (lb)), (some b46, lO (la)), (some b39, .cells #[i64 (((gs).getD i g0).k), i64 (((gs).getD i g0).a), i64 (((gs).getD i g0).b)] 99 (0, 0)), (k1, sob ELb 38 ((gS lhash δ first gs zs i).1) z1), (k2, sob ELb 38 ((gS lhash δ first gs zs i).2) z2), (some b17, .cells (cel E8 (AesSpec.cipher AesSpec.fixKey)).toArray 215 (0, 0)), (some b1, .cells #[i64 (zs.length : Nat), .slice ga gs.length gc, .slice oa ol.length oc] 70 (0, 0)), (some b5, lO (δ))] from ⟨b245, b231, rfl, e11, hS246, ((((((((((((((H248.pull (k := 13) rfl).pull (k := 13) rfl).pull (k := 13) rfl).pull (k := 13) rfl).pull (k := 13) rfl).pull (k := 13) rfl).pull (k := 13) rfl).pull (k := 13) rfl).pull (k := 13) rfl).pull (k := 13) rfl).pull (k := 13) rfl).pull (k := 13) rfl).pull (k := 12) rfl).pull (k := 13) rfl)⟩)
      ·skip
       have hb := mp3 b9 b11 b12
       rw [hb] at hF ⊢
       have H250 := hF
       replace H250 := H250.ext hEx
       dsimp only
       refine Gives.ofW (d := 123) rfl rfl (fun Q' hK => ?_)
       refine q_buildSlice (E := ELb) (l := ([lhash lb (sv + (1#64)), lhash (lx lb δ) (sv + (1#64)), la] : List LbT)) H250 sli92 zer38 (bLe rfl) (ps := [(0, lV (lhash lb (sv + (1#64)))), (1, .agg (cel E64 [(lhash (lx lb δ) (sv + (1#64))).1, (lhash (lx lb δ) (sv + (1#64))).2]).toArray), (2, lV (la))]) rfl (by exact fillAll rfl rfl) rfl ?_
       intro b251 w253 hS252 H254 hE255
       exact hK _ _ (show ∃ (b225 : Nat), (_ : Value) = .slice (ownA (some b225)) 3 3 ∧ Sl ELb (some b225) ([lhash lb (sv + (1#64)), lhash (lx lb δ) (sv + (1#64)), la] : List LbT) 3 ([]) ∧ Hp No w w253 [((some b225), sob ELb 38 ([lhash lb (sv + (1#64)), lhash (lx lb δ) (sv + (1#64)), la] : List LbT) ([])), (some b187, lO (tx)), ((some b176), sob ELb 38 ([lhash la sv, lhash (lx la δ) sv, lw (col lb) δ] : List LbT) ([])), (some b132, lO (lhash lb (sv + (1#64)))), (some b122, lO (lhash la sv)), (some b114, lO (lb)), (some b46, lO (la)), (some b39, .cells #[i64 (((gs).getD i g0).k), i64 (((gs).getD i g0).a), i64 (((gs).getD i g0).b)] 99 (0, 0)), (k1, sob ELb 38 ((gS lhash δ first gs zs i).1) z1), (k2, sob ELb 38 ((gS lhash δ first gs zs i).2) z2), (some b17, .cells (cel E8 (AesSpec.cipher AesSpec.fixKey)).toArray 215 (0, 0)), (some b1, .cells #[i64 (zs.length : Nat), .slice ga gs.length gc, .slice oa ol.length oc] 70 (0, 0)), (some b5, lO (δ))] from ⟨b251, rfl, hS252, (((((((((((((H254.pull (k := 12) rfl).pull (k := 12) rfl).pull (k := 12) rfl).pull (k := 12) rfl).pull (k := 12) rfl).pull (k := 12) rfl).pull (k := 12) rfl).pull (k := 12) rfl).pull (k := 12) rfl).pull (k := 12) rfl).pull (k := 12) rfl).pull (k := 12) rfl).pull (k := 12) rfl)⟩)
     refine WalkE.call rfl (fun _ => .agg (cel E64 [(lsum ([lhash lb (sv + (1#64)), lhash (lx lb δ) (sv + (1#64)), la] : List LbT)).1, (lsum ([lhash lb (sv + (1#64)), lhash (lx lb δ) (sv + (1#64)), la] : List LbT)).2]).toArray) (fun _ _ _ => rfl) (fun L r uw0 uw hAn hDn hF hEx => ?_) ?_
     ·skip
      have b9 := hAn 9 (by decide) rfl
      have b12 := hDn 12 (by decide) rfl
      rcases bTF (L 11) with b11 | b11
      ·skip
       have hb := mp3 b9 b11 b12
       rw [hb] at hF
       obtain ⟨b225, b236, e9, e11, hS226, HH⟩ := hF
       replace HH := HH.ext hEx
       dsimp only
       rw [e9]
       exact Gives.call rfl (Enters.callL (vs := [.slice (ownA (some b225)) 3 3]) call88 rfl) (lsum_ok ([lhash lb (sv + (1#64)), lhash (lx lb δ) (sv + (1#64)), la] : List LbT) (ownA (some b225)) 3 3 (by rfl) (by simp) uw (HH.rd (k := 1) rfl hS226))
      ·skip
       have hb := mp3 b9 b11 b12
       rw [hb] at hF
       obtain ⟨b225, e9, hS226, HH⟩ := hF
       replace HH := HH.ext hEx
       dsimp only
       rw [e9]
       exact Gives.call rfl (Enters.callL (vs := [.slice (ownA (some b225)) 3 3]) call88 rfl) (lsum_ok ([lhash lb (sv + (1#64)), lhash (lx lb δ) (sv + (1#64)), la] : List LbT) (ownA (some b225)) 3 3 (by rfl) (by simp) uw (HH.rd (k := 0) rfl hS226))
     refine WalkE.eff 1 rfl (fun L r uw0 uw hLn hAn hDn hF hEx => ?_) ?_
     ·skip
      have b11 : L 11 = false := hLn
      have b12 := hDn 12 (by decide) rfl
      rcases bTF (L 9) with b9 | b9
      ·skip
       have hb := mp3 b9 b11 b12
       rw [hb] at hF ⊢
       obtain ⟨b225, e9, hS226, H256⟩ := hF
       replace H256 := H256.ext hEx
       dsimp only
       rw [e9]
       refine Gives.ofW (d := 23) rfl rfl (fun Q' hK => ?_)
       refine q_alloc (o := .cells (cel E64 ([0#64, 0#64])).toArray 38 (0, 0)) H256 zer38 (by kernel_rfl) ?_
       intro b257 w258 hb257 H259 hE260
       exact hK _ _ (show ∃ (b225 : Nat) (b236 : Nat), r 9 = .slice (ownA (some b225)) 3 3 ∧ (_ : Value) = pT b236 ∧ Sl ELb (some b225) ([lhash lb (sv + (1#64)), lhash (lx lb δ) (sv + (1#64)), la] : List LbT) 3 ([]) ∧ Hp No w w258 [(some b236, .cells (cel E64 ([0#64, 0#64])).toArray 38 (0, 0)), ((some b225), sob ELb 38 ([lhash lb (sv + (1#64)), lhash (lx lb δ) (sv + (1#64)), la] : List LbT) ([])), (some b187, lO (tx)), ((some b176), sob ELb 38 ([lhash la sv, lhash (lx la δ) sv, lw (col lb) δ] : List LbT) ([])), (some b132, lO (lhash lb (sv + (1#64)))), (some b122, lO (lhash la sv)), (some b114, lO (lb)), (some b46, lO (la)), (some b39, .cells #[i64 (((gs).getD i g0).k), i64 (((gs).getD i g0).a), i64 (((gs).getD i g0).b)] 99 (0, 0)), (k1, sob ELb 38 ((gS lhash δ first gs zs i).1) z1), (k2, sob ELb 38 ((gS lhash δ first gs zs i).2) z2), (some b17, .cells (cel E8 (AesSpec.cipher AesSpec.fixKey)).toArray 215 (0, 0)), (some b1, .cells #[i64 (zs.length : Nat), .slice ga gs.length gc, .slice oa ol.length oc] 70 (0, 0)), (some b5, lO (δ))] from ⟨b225, b257, e9, rfl, hS226, ((((((((((((((H259.pull (k := 13) rfl).pull (k := 13) rfl).pull (k := 13) rfl).pull (k := 13) rfl).pull (k := 13) rfl).pull (k := 13) rfl).pull (k := 13) rfl).pull (k := 13) rfl).pull (k := 13) rfl).pull (k := 13) rfl).pull (k := 13) rfl).pull (k := 13) rfl).pull (k := 13) rfl).pull (k := 13) rfl)⟩)
      ·skip
       have hb := mp3 b9 b11 b12
       rw [hb] at hF ⊢
       have H261 := hF
       replace H261 := H261.ext hEx
       dsimp only
       refine Gives.ofW (d := 23) rfl rfl (fun Q' hK => ?_)
       refine q_alloc (o := .cells (cel E64 ([0#64, 0#64])).toArray 38 (0, 0)) H261 zer38 (by kernel_rfl) ?_
       intro b262 w263 hb262 H264 hE265
       exact hK _ _ (show ∃ (b231 : Nat), (_ : Value) = pT b231 ∧ Hp No w w263 [(some b231, .cells (cel E64 ([0#64, 0#64])).toArray 38 (0, 0)), (some b187, lO (tx)), ((some b176), sob ELb 38 ([lhash la sv, lhash (lx la δ) sv, lw (col lb) δ] : List LbT) ([])), (some b132, lO (lhash lb (sv + (1#64)))), (some b122, lO (lhash la sv)), (some b114, lO (lb)), (some b46, lO (la)), (some b39, .cells #[i64 (((gs).getD i g0).k), i64 (((gs).getD i g0).a), i64 (((gs).getD i g0).b)] 99 (0, 0)), (k1, sob ELb 38 ((gS lhash δ first gs zs i).1) z1), (k2, sob ELb 38 ((gS lhash δ first gs zs i).2) z2), (some b17, .cells (cel E8 (AesSpec.cipher AesSpec.fixKey)).toArray 215 (0, 0)), (some b1, .cells #[i64 (zs.length : Nat), .slice ga gs.length gc, .slice oa ol.length oc] 70 (0, 0)), (some b5, lO (δ))] from ⟨b262, rfl, (((((((((((((H264.pull (k := 12) rfl).pull (k := 12) rfl).pull (k := 12) rfl).pull (k := 12) rfl).pull (k := 12) rfl).pull (k := 12) rfl).pull (k := 12) rfl).pull (k := 12) rfl).pull (k := 12) rfl).pull (k := 12) rfl).pull (k := 12) rfl).pull (k := 12) rfl).pull (k := 12) rfl)⟩)
     refine WalkE.eff 2 rfl (fun L r uw0 uw hLn hAn hDn hF hEx => ?_) ?_
     ·skip
      have b9 := hAn 9 (by decide) rfl
      have b11 := hAn 11 (by decide) rfl
      have b12 : L 12 = false := hLn
      have hb := mp3 b9 b11 b12
      rw [hb] at hF ⊢
      obtain ⟨b225, b236, e9, e11, hS226, H266⟩ := hF
      replace H266 := H266.ext hEx
      dsimp only
      rw [e9, e11]
      refine Gives.ofW0 rfl (fun Q' hK => ?_)
      refine d_store (k := 0) (v := .agg (cel E64 [(lsum ([lhash lb (sv + (1#64)), lhash (lx lb δ) (sv + (1#64)), la] : List LbT)).1, (lsum ([lhash lb (sv + (1#64)), lhash (lx lb δ) (sv + (1#64)), la] : List LbT)).2]).toArray) (cs' := (cel E64 ([(lsum ([lhash lb (sv + (1#64)), lhash (lx lb δ) (sv + (1#64)), la] : List LbT)).1, (lsum ([lhash lb (sv + (1#64)), lhash (lx lb δ) (sv + (1#64)), la] : List LbT)).2])).toArray) H266 rfl rfl rfl siz38 (by exact celSize (by first | rfl | (show _ * 1 = _; omega))) (by exact celOne _) (by rw [List.size_toArray, cel_length]; show _ ≤ _ * 1; first | omega | (simp only [List.length_set]; omega) | exact bLe rfl | (simp <;> omega)) (by exact putAll (by first | rfl | omega | (simp <;> omega))) ?_
      intro w267 H268 hC269
      have H268' := H268.as (L' := [(some b236, lO (lsum ([lhash lb (sv + (1#64)), lhash (lx lb δ) (sv + (1#64)), la] : List LbT))), ((some b225), sob ELb 38 ([lhash lb (sv + (1#64)), lhash (lx lb δ) (sv + (1#64)), la] : List LbT) ([])), (some b187, lO (tx)), ((some b176), sob ELb 38 ([lhash la sv, lhash (lx la δ) sv, lw (col lb) δ] : List LbT) ([])), (some b132, lO (lhash lb (sv + (1#64)))), (some b122, lO (lhash la sv)), (some b114, lO (lb)), (some b46, lO (la)), (some b39, .cells #[i64 (((gs).getD i g0).k), i64 (((gs).getD i g0).a), i64 (((gs).getD i g0).b)] 99 (0, 0)), (k1, sob ELb 38 ((gS lhash δ first gs zs i).1) z1), (k2, sob ELb 38 ((gS lhash δ first gs zs i).2) z2), (some b17, .cells (cel E8 (AesSpec.cipher AesSpec.fixKey)).toArray 215 (0, 0)), (some b1, .cells #[i64 (zs.length : Nat), .slice ga gs.length gc, .slice oa ol.length oc] 70 (0, 0)), (some b5, lO (δ))]) rfl
      clear H268
      exact hK _ (fun _ => (show ∃ (b225 : Nat) (b236 : Nat), r 9 = .slice (ownA (some b225)) 3 3 ∧ r 11 = pT b236 ∧ Sl ELb (some b225) ([lhash lb (sv + (1#64)), lhash (lx lb δ) (sv + (1#64)), la] : List LbT) 3 ([]) ∧ Hp No w w267 [(some b236, lO (lsum ([lhash lb (sv + (1#64)), lhash (lx lb δ) (sv + (1#64)), la] : List LbT))), ((some b225), sob ELb 38 ([lhash lb (sv + (1#64)), lhash (lx lb δ) (sv + (1#64)), la] : List LbT) ([])), (some b187, lO (tx)), ((some b176), sob ELb 38 ([lhash la sv, lhash (lx la δ) sv, lw (col lb) δ] : List LbT) ([])), (some b132, lO (lhash lb (sv + (1#64)))), (some b122, lO (lhash la sv)), (some b114, lO (lb)), (some b46, lO (la)), (some b39, .cells #[i64 (((gs).getD i g0).k), i64 (((gs).getD i g0).a), i64 (((gs).getD i g0).b)] 99 (0, 0)), (k1, sob ELb 38 ((gS lhash δ first gs zs i).1) z1), (k2, sob ELb 38 ((gS lhash δ first gs zs i).2) z2), (some b17, .cells (cel E8 (AesSpec.cipher AesSpec.fixKey)).toArray 215 (0, 0)), (some b1, .cells #[i64 (zs.length : Nat), .slice ga gs.length gc, .slice oa ol.length oc] 70 (0, 0)), (some b5, lO (δ))] from ⟨b225, b236, e9, e11, hS226, ((((((((((((((H268'.pull (k := 13) rfl).pull (k := 13) rfl).pull (k := 13) rfl).pull (k := 13) rfl).pull (k := 13) rfl).pull (k := 13) rfl).pull (k := 13) rfl).pull (k := 13) rfl).pull (k := 13) rfl).pull (k := 13) rfl).pull (k := 13) rfl).pull (k := 13) rfl).pull (k := 13) rfl).pull (k := 13) rfl)⟩))
     refine WalkE.nil ?_
     intro r270 uw0 w271 hF hEx
     obtain ⟨b225, b236, e9, e11, hS226, H272⟩ := hF
     replace H272 := H272.ext hEx
     dsimp only
     rw [e9, e11]
     obtain ⟨ty, hty⟩ : ∃ x : Lb, x = tabY lhash δ la lb sv := ⟨_, rfl⟩
     rw [show (lsum ([lhash lb (sv + (1#64)), lhash (lx lb δ) (sv + (1#64)), la] : List LbT) : Lb) = ty from hty.symm] at H272
     refine wnil ?_
     refine thenNormal ?_
     refine sR ?_
     refine sM (.slice (ownA k2) ((gS lhash δ first gs zs i).2.length) c2) rfl ?_
     refine sq (r_loadA (cs' := (cel E64 ([(tx).1, (tx).2])).toArray) agg38 siz38 (H272.get (k := 2) rfl) (off := 0) rfl (by exact bLe rfl) (by exact ext_all rfl)) ?_
     refine sq (r_loadA (cs' := (cel E64 ([(ty).1, (ty).2])).toArray) agg38 siz38 (H272.get (k := 0) rfl) (off := 0) rfl (by exact bLe rfl) (by exact ext_all rfl)) ?_
     refine q_buildSlice (E := ELb) (l := ([tx, ty] : List LbT)) H272 sli92 zer38 (bLe rfl) (ps := [(0, lV (tx)), (1, lV (ty))]) rfl (by exact fillAll rfl rfl) rfl ?_
     intro b273 w275 hS274 H276 hE277
     refine q_append (E := ELb) (k := 11) (l := (gS lhash δ first gs zs i).2) (l2 := ([tx, ty] : List LbT)) H276 rfl h2 sli92 zer38 rfl byt38 (H276.rd (k := 0) rfl hS274) rfl (by rfl) rfl (by rfl) (by omega) ?_
     intro key278 c279 sp280 w282 hS281 hne284 H283
     have H283' := H283.as (L' := [((some b273), sob ELb 38 ([tx, ty] : List LbT) ([])), (some b236, lO (ty)), ((some b225), sob ELb 38 ([lhash lb (sv + (1#64)), lhash (lx lb δ) (sv + (1#64)), la] : List LbT) ([])), (some b187, lO (tx)), ((some b176), sob ELb 38 ([lhash la sv, lhash (lx la δ) sv, lw (col lb) δ] : List LbT) ([])), (some b132, lO (lhash lb (sv + (1#64)))), (some b122, lO (lhash la sv)), (some b114, lO (lb)), (some b46, lO (la)), (some b39, .cells #[i64 (((gs).getD i g0).k), i64 (((gs).getD i g0).a), i64 (((gs).getD i g0).b)] 99 (0, 0)), (k1, sob ELb 38 ((gS lhash δ first gs zs i).1) z1), (key278, sob ELb 38 (((gS lhash δ first gs zs i).2) ++ ([tx, ty] : List LbT)) sp280), (some b17, .cells (cel E8 (AesSpec.cipher AesSpec.fixKey)).toArray 215 (0, 0)), (some b1, .cells #[i64 (zs.length : Nat), .slice ga gs.length gc, .slice oa ol.length oc] 70 (0, 0)), (some b5, lO (δ))]) rfl
     clear H283
     have e285 : ((gS lhash δ first gs zs i).2) ++ ([tx, ty] : List LbT) = (gS lhash δ first gs zs (i + 1)).2 := by rw [gS, gstep, if_neg hn3, if_neg hn1, htx, hty, hsv, hla, hlb]
     have hS286 := hS281
     rw [e285] at hS286
     have H287 := H283'.as (L' := [((some b273), sob ELb 38 ([tx, ty] : List LbT) ([])), (some b236, lO (ty)), ((some b225), sob ELb 38 ([lhash lb (sv + (1#64)), lhash (lx lb δ) (sv + (1#64)), la] : List LbT) ([])), (some b187, lO (tx)), ((some b176), sob ELb 38 ([lhash la sv, lhash (lx la δ) sv, lw (col lb) δ] : List LbT) ([])), (some b132, lO (lhash lb (sv + (1#64)))), (some b122, lO (lhash la sv)), (some b114, lO (lb)), (some b46, lO (la)), (some b39, .cells #[i64 (((gs).getD i g0).k), i64 (((gs).getD i g0).a), i64 (((gs).getD i g0).b)] 99 (0, 0)), (k1, sob ELb 38 ((gS lhash δ first gs zs i).1) z1), (key278, sob ELb 38 ((gS lhash δ first gs zs (i + 1)).2) sp280), (some b17, .cells (cel E8 (AesSpec.cipher AesSpec.fixKey)).toArray 215 (0, 0)), (some b1, .cells #[i64 (zs.length : Nat), .slice ga gs.length gc, .slice oa ol.length oc] 70 (0, 0)), (some b5, lO (δ))]) (by rw [e285])
     refine sA (.slice (ownA key278) (((gS lhash δ first gs zs i).2.length) + 2) c279) rfl ?_
     refine wend ?_
     refine drawE (m := 18) [0, 0, 0, 4, 0, 28, 0, 0, 188, 0, 0, 1980, 4028, 8190, 16382, 32766, 65535, 131071] [13, 15, 16] (fun bs vs w' => match bs, vs with | [false, false, false], [_, _, _] => Hp No w w' [((some b273), sob ELb 38 ([tx, ty] : List LbT) ([])), (some b236, lO (ty)), ((some b225), sob ELb 38 ([lhash lb (sv + (1#64)), lhash (lx lb δ) (sv + (1#64)), la] : List LbT) ([])), (some b187, lO (tx)), ((some b176), sob ELb 38 ([lhash la sv, lhash (lx la δ) sv, lw (col lb) δ] : List LbT) ([])), (some b132, lO (lhash lb (sv + (1#64)))), (some b122, lO (lhash la sv)), (some b114, lO (lb)), (some b46, lO (la)), (some b39, .cells #[i64 (((gs).getD i g0).k), i64 (((gs).getD i g0).a), i64 (((gs).getD i g0).b)] 99 (0, 0)), (k1, sob ELb 38 ((gS lhash δ first gs zs i).1) z1), (key278, sob ELb 38 ((gS lhash δ first gs zs (i + 1)).2) sp280), (some b17, .cells (cel E8 (AesSpec.cipher AesSpec.fixKey)).toArray 215 (0, 0)), (some b1, .cells #[i64 (zs.length : Nat), .slice ga gs.length gc, .slice oa ol.length oc] 70 (0, 0)), (some b5, lO (δ))] | [true, false, false], [v13, _, _] => ∃ (b289 : Nat), v13 = .slice (ownA (some b289)) 4 4 ∧ Sl ELb (some b289) ([lhash la sv, lw (col la) tx, lhash lb (sv + (1#64)), lw (col lb) (lx ty la)] : List LbT) 4 ([]) ∧ Hp No w w' [((some b289), sob ELb 38 ([lhash la sv, lw (col la) tx, lhash lb (sv + (1#64)), lw (col lb) (lx ty la)] : List LbT) ([])), ((some b273), sob ELb 38 ([tx, ty] : List LbT) ([])), (some b236, lO (ty)), ((some b225), sob ELb 38 ([lhash lb (sv + (1#64)), lhash (lx lb δ) (sv + (1#64)), la] : List LbT) ([])), (some b187, lO (tx)), ((some b176), sob ELb 38 ([lhash la sv, lhash (lx la δ) sv, lw (col lb) δ] : List LbT) ([])), (some b132, lO (lhash lb (sv + (1#64)))), (some b122, lO (lhash la sv)), (some b114, lO (lb)), (some b46, lO (la)), (some b39, .cells #[i64 (((gs).getD i g0).k), i64 (((gs).getD i g0).a), i64 (((gs).getD i g0).b)] 99 (0, 0)), (k1, sob ELb 38 ((gS lhash δ first gs zs i).1) z1), (key278, sob ELb 38 ((gS lhash δ first gs zs (i + 1)).2) sp280), (some b17, .cells (cel E8 (AesSpec.cipher AesSpec.fixKey)).toArray 215 (0, 0)), (some b1, .cells #[i64 (zs.length : Nat), .slice ga gs.length gc, .slice oa ol.length oc] 70 (0, 0)), (some b5, lO (δ))] | [true, true, false], [v13, v15, _] => ∃ (b289 : Nat) (b295 : Nat), v13 = .slice (ownA (some b289)) 4 4 ∧ v15 = .slice (ownA (some b295)) 1 1 ∧ Sl ELb (some b295) ([lsum ([lhash la sv, lw (col la) tx, lhash lb (sv + (1#64)), lw (col lb) (lx ty la)] : List LbT)] : List LbT) 1 ([]) ∧ Sl ELb (some b289) ([lhash la sv, lw (col la) tx, lhash lb (sv + (1#64)), lw (col lb) (lx ty la)] : List LbT) 4 ([]) ∧ Hp No w w' [((some b295), sob ELb 38 ([lsum ([lhash la sv, lw (col la) tx, lhash lb (sv + (1#64)), lw (col lb) (lx ty la)] : List LbT)] : List LbT) ([])), ((some b289), sob ELb 38 ([lhash la sv, lw (col la) tx, lhash lb (sv + (1#64)), lw (col lb) (lx ty la)] : List LbT) ([])), ((some b273), sob ELb 38 ([tx, ty] : List LbT) ([])), (some b236, lO (ty)), ((some b225), sob ELb 38 ([lhash lb (sv + (1#64)), lhash (lx lb δ) (sv + (1#64)), la] : List LbT) ([])), (some b187, lO (tx)), ((some b176), sob ELb 38 ([lhash la sv, lhash (lx la δ) sv, lw (col lb) δ] : List LbT) ([])), (some b132, lO (lhash lb (sv + (1#64)))), (some b122, lO (lhash la sv)), (some b114, lO (lb)), (some b46, lO (la)), (some b39, .cells #[i64 (((gs).getD i g0).k), i64 (((gs).getD i g0).a), i64 (((gs).getD i g0).b)] 99 (0, 0)), (k1, sob ELb 38 ((gS lhash δ first gs zs i).1) z1), (key278, sob ELb 38 ((gS lhash δ first gs zs (i + 1)).2) sp280), (some b17, .cells (cel E8 (AesSpec.cipher AesSpec.fixKey)).toArray 215 (0, 0)), (some b1, .cells #[i64 (zs.length : Nat), .slice ga gs.length gc, .slice oa ol.length oc] 70 (0, 0)), (some b5, lO (δ))] | [true, true, true], [v13, v15, v16] => ∃ (b289 : Nat) (b295 : Nat) (key301 : Option Nat) (c302 : Nat) (sp303 : List Value), v13 = .slice (ownA (some b289)) 4 4 ∧ v15 = .slice (ownA (some b295)) 1 1 ∧ v16 = .slice (ownA key301) ((zs.length + i) + 1) c302 ∧ Sl ELb (some b295) ([lsum ([lhash la sv, lw (col la) tx, lhash lb (sv + (1#64)), lw (col lb) (lx ty la)] : List LbT)] : List LbT) 1 ([]) ∧ Sl ELb (some b289) ([lhash la sv, lw (col la) tx, lhash lb (sv + (1#64)), lw (col lb) (lx ty la)] : List LbT) 4 ([]) ∧ Sl ELb key301 ((gS lhash δ first gs zs (i + 1)).1) c302 sp303 ∧ Hp No w w' [((some b295), sob ELb 38 ([lsum ([lhash la sv, lw (col la) tx, lhash lb (sv + (1#64)), lw (col lb) (lx ty la)] : List LbT)] : List LbT) ([])), ((some b289), sob ELb 38 ([lhash la sv, lw (col la) tx, lhash lb (sv + (1#64)), lw (col lb) (lx ty la)] : List LbT) ([])), ((some b273), sob ELb 38 ([tx, ty] : List LbT) ([])), (some b236, lO (ty)), ((some b225), sob ELb 38 ([lhash lb (sv + (1#64)), lhash (lx lb δ) (sv + (1#64)), la] : List LbT) ([])), (some b187, lO (tx)), ((some b176), sob ELb 38 ([lhash la sv, lhash (lx la δ) sv, lw (col lb) δ] : List LbT) ([])), (some b132, lO (lhash lb (sv + (1#64)))), (some b122, lO (lhash la sv)), (some b114, lO (lb)), (some b46, lO (la)), (some b39, .cells #[i64 (((gs).getD i g0).k), i64 (((gs).getD i g0).a), i64 (((gs).getD i g0).b)] 99 (0, 0)), (key301, sob ELb 38 ((gS lhash δ first gs zs (i + 1)).1) sp303), (key278, sob ELb 38 ((gS lhash δ first gs zs (i + 1)).2) sp280), (some b17, .cells (cel E8 (AesSpec.cipher AesSpec.fixKey)).toArray 215 (0, 0)), (some b1, .cells #[i64 (zs.length : Nat), .slice ga gs.length gc, .slice oa ol.length oc] 70 (0, 0)), (some b5, lO (δ))] | _, _ => False) mixed (by kernel_rfl) (by kernel_rfl) H287.drew ?_
     refine WalkE.look rfl (fun _ => .slice (ownA k1) (zs.length + i) c1) (fun _ _ _ => rfl) (fun L r _ uw _ _ _ _ => Gives.run rfl (r_move (v := .slice (ownA k1) (zs.length + i) c1) rfl) ⟨rfl, rfl⟩) ?_
     refine WalkE.look rfl (fun _ => lV (lhash la sv)) (fun _ _ _ => rfl) (fun L r uw0 uw hAn hDn hF hEx => ?_) ?_
     ·skip
      have b13 := hDn 13 (by decide) rfl
      have b15 := hDn 15 (by decide) rfl
      have b16 := hDn 16 (by decide) rfl
      have hb := mp3 b13 b15 b16
      rw [hb] at hF
      have HH := hF
      replace HH := HH.ext hEx
      exact Gives.run rfl (r_loadA (cs' := (cel E64 ([(lhash la sv).1, (lhash la sv).2])).toArray) agg38 siz38 (HH.get (k := 6) rfl) (off := 0) rfl (by exact bLe rfl) (by exact ext_all rfl)) ⟨rfl, rfl⟩
     refine WalkE.look rfl (fun _ => lV (la)) (fun _ _ _ => rfl) (fun L r uw0 uw hAn hDn hF hEx => ?_) ?_
     ·skip
      have b13 := hDn 13 (by decide) rfl
      have b15 := hDn 15 (by decide) rfl
      have b16 := hDn 16 (by decide) rfl
      have hb := mp3 b13 b15 b16
      rw [hb] at hF
      have HH := hF
      replace HH := HH.ext hEx
      exact Gives.run rfl (r_loadA (cs' := (cel E64 ([(la).1, (la).2])).toArray) agg38 siz38 (HH.get (k := 8) rfl) (off := 0) rfl (by exact bLe rfl) (by exact ext_all rfl)) ⟨rfl, rfl⟩
     refine WalkE.call rfl (fun _ => .bool (col la)) (fun _ _ _ => rfl) (fun L r uw0 uw hAn hDn hF hEx => ?_) ?_
     ·skip
      have b13 := hDn 13 (by decide) rfl
      have b15 := hDn 15 (by decide) rfl
      have b16 := hDn 16 (by decide) rfl
      have hb := mp3 b13 b15 b16
      rw [hb] at hF
      have HH := hF
      replace HH := HH.ext hEx
      exact Gives.call rfl (Enters.callL (vs := [lV (la)]) call84 rfl) (col_ok la uw)
     refine WalkE.look rfl (fun _ => lV (tx)) (fun _ _ _ => rfl) (fun L r uw0 uw hAn hDn hF hEx => ?_) ?_
     ·skip
      have b13 := hDn 13 (by decide) rfl
      have b15 := hDn 15 (by decide) rfl
      have b16 := hDn 16 (by decide) rfl
      have hb := mp3 b13 b15 b16
      rw [hb] at hF
      have HH := hF
      replace HH := HH.ext hEx
      exact Gives.run rfl (r_loadA (cs' := (cel E64 ([(tx).1, (tx).2])).toArray) agg38 siz38 (HH.get (k := 3) rfl) (off := 0) rfl (by exact bLe rfl) (by exact ext_all rfl)) ⟨rfl, rfl⟩
     refine WalkE.call rfl (fun _ => .agg (cel E64 [(lw (col la) tx).1, (lw (col la) tx).2]).toArray) (fun _ _ _ => rfl) (fun L r uw0 uw hAn hDn hF hEx => ?_) ?_
     ·skip
      have b13 := hDn 13 (by decide) rfl
      have b15 := hDn 15 (by decide) rfl
      have b16 := hDn 16 (by decide) rfl
      have hb := mp3 b13 b15 b16
      rw [hb] at hF
      have HH := hF
      replace HH := HH.ext hEx
      exact Gives.call rfl (Enters.callL (vs := [.bool (col la), lV (tx)]) call89 rfl) (lw_ok (col la) tx uw)
     refine WalkE.look rfl (fun _ => lV (lhash lb (sv + (1#64)))) (fun _ _ _ => rfl) (fun L r uw0 uw hAn hDn hF hEx => ?_) ?_
     ·skip
      have b13 := hDn 13 (by decide) rfl
      have b15 := hDn 15 (by decide) rfl
      have b16 := hDn 16 (by decide) rfl
      have hb := mp3 b13 b15 b16
      rw [hb] at hF
      have HH := hF
      replace HH := HH.ext hEx
      exact Gives.run rfl (r_loadA (cs' := (cel E64 ([(lhash lb (sv + (1#64))).1, (lhash lb (sv + (1#64))).2])).toArray) agg38 siz38 (HH.get (k := 5) rfl) (off := 0) rfl (by exact bLe rfl) (by exact ext_all rfl)) ⟨rfl, rfl⟩
     refine WalkE.look rfl (fun _ => lV (lb)) (fun _ _ _ => rfl) (fun L r uw0 uw hAn hDn hF hEx => ?_) ?_
     ·skip
      have b13 := hDn 13 (by decide) rfl
      have b15 := hDn 15 (by decide) rfl
      have b16 := hDn 16 (by decide) rfl
      have hb := mp3 b13 b15 b16
      rw [hb] at hF
      have HH := hF
      replace HH := HH.ext hEx
      exact Gives.run rfl (r_loadA (cs' := (cel E64 ([(lb).1, (lb).2])).toArray) agg38 siz38 (HH.get (k := 7) rfl) (off := 0) rfl (by exact bLe rfl) (by exact ext_all rfl)) ⟨rfl, rfl⟩
     refine WalkE.call rfl (fun _ => .bool (col lb)) (fun _ _ _ => rfl) (fun L r uw0 uw hAn hDn hF hEx => ?_) ?_
     ·skip
      have b13 := hDn 13 (by decide) rfl
      have b15 := hDn 15 (by decide) rfl
      have b16 := hDn 16 (by decide) rfl
      have hb := mp3 b13 b15 b16
      rw [hb] at hF
      have HH := hF
      replace HH := HH.ext hEx
      exact Gives.call rfl (Enters.callL (vs := [lV (lb)]) call84 rfl) (col_ok lb uw)
     refine WalkE.look rfl (fun _ => lV (ty)) (fun _ _ _ => rfl) (fun L r uw0 uw hAn hDn hF hEx => ?_) ?_
     ·skip
      have b13 := hDn 13 (by decide) rfl
      have b15 := hDn 15 (by decide) rfl
      have b16 := hDn 16 (by decide) rfl
      have hb := mp3 b13 b15 b16
      rw [hb] at hF
      have HH := hF
      replace HH := HH.ext hEx
      exact Gives.run rfl (r_loadA (cs' := (cel E64 ([(ty).1, (ty).2])).toArray) agg38 siz38 (HH.get (k := 1) rfl) (off := 0) rfl (by exact bLe rfl) (by exact ext_all rfl)) ⟨rfl, rfl⟩
     refine WalkE.look rfl (fun _ => lV (la)) (fun _ _ _ => rfl) (fun L r uw0 uw hAn hDn hF hEx => ?_) ?_
     ·skip
      have b13 := hDn 13 (by decide) rfl
      have b15 := hDn 15 (by decide) rfl
      have b16 := hDn 16 (by decide) rfl
      have hb := mp3 b13 b15 b16
      rw [hb] at hF
      have HH := hF
      replace HH := HH.ext hEx
      exact Gives.run rfl (r_loadA (cs' := (cel E64 ([(la).1, (la).2])).toArray) agg38 siz38 (HH.get (k := 8) rfl) (off := 0) rfl (by exact bLe rfl) (by exact ext_all rfl)) ⟨rfl, rfl⟩
     refine WalkE.call rfl (fun _ => .agg (cel E64 [(lx ty la).1, (lx ty la).2]).toArray) (fun _ _ _ => rfl) (fun L r uw0 uw hAn hDn hF hEx => ?_) ?_
     ·skip
      have b13 := hDn 13 (by decide) rfl
      have b15 := hDn 15 (by decide) rfl
      have b16 := hDn 16 (by decide) rfl
      have hb := mp3 b13 b15 b16
      rw [hb] at hF
      have HH := hF
      replace HH := HH.ext hEx
      exact Gives.call rfl (Enters.callL (vs := [lV (ty), lV (la)]) call86 rfl) (lxor_ok ty la uw)
     refine WalkE.call rfl (fun _ => .agg (cel E64 [(lw (col lb) (lx ty la)).1, (lw (col lb) (lx ty la)).2]).toArray) (fun _ _ _ => rfl) (fun L r uw0 uw hAn hDn hF hEx => ?_) ?_
     ·skip
      have b13 := hDn 13 (by decide) rfl
      have b15 := hDn 15 (by decide) rfl
      have b16 := hDn 16 (by decide) rfl
      have hb := mp3 b13 b15 b16
      rw [hb] at hF
      have HH := hF
      replace HH := HH.ext hEx
      exact Gives.call rfl (Enters.callL (vs := [.bool (col lb), .agg (cel E64 [(lx ty la).1, (lx ty la).2]).toArray]) call89 rfl) (lw_ok (col lb) (lx ty la) uw)
     refine WalkE.eff 0 rfl (fun L r uw0 uw hLn hAn hDn hF hEx => ?_) ?_
     ·skip
      have b13 : L 13 = false := hLn
      have b15 := hDn 15 (by decide) rfl
      have b16 := hDn 16 (by decide) rfl
      have hb := mp3 b13 b15 b16
      rw [hb] at hF ⊢
      have H311 := hF
      replace H311 := H311.ext hEx
      dsimp only
      refine Gives.ofW (d := 143) rfl rfl (fun Q' hK => ?_)
      refine q_buildSlice (E := ELb) (l := ([lhash la sv, lw (col la) tx, lhash lb (sv + (1#64)), lw (col lb) (lx ty la)] : List LbT)) H311 sli92 zer38 (bLe rfl) (ps := [(0, lV (lhash la sv)), (1, .agg (cel E64 [(lw (col la) tx).1, (lw (col la) tx).2]).toArray), (2, lV (lhash lb (sv + (1#64)))), (3, .agg (cel E64 [(lw (col lb) (lx ty la)).1, (lw (col lb) (lx ty la)).2]).toArray)]) rfl (by exact fillAll rfl rfl) rfl ?_
      intro b312 w314 hS313 H315 hE316
      exact hK _ _ (show ∃ (b289 : Nat), (_ : Value) = .slice (ownA (some b289)) 4 4 ∧ Sl ELb (some b289) ([lhash la sv, lw (col la) tx, lhash lb (sv + (1#64)), lw (col lb) (lx ty la)] : List LbT) 4 ([]) ∧ Hp No w w314 [((some b289), sob ELb 38 ([lhash la sv, lw (col la) tx, lhash lb (sv + (1#64)), lw (col lb) (lx ty la)] : List LbT) ([])), ((some b273), sob ELb 38 ([tx, ty] : List LbT) ([])), (some b236, lO (ty)), ((some b225), sob ELb 38 ([lhash lb (sv + (1#64)), lhash (lx lb δ) (sv + (1#64)), la] : List LbT) ([])), (some b187, lO (tx)), ((some b176), sob ELb 38 ([lhash la sv, lhash (lx la δ) sv, lw (col lb) δ] : List LbT) ([])), (some b132, lO (lhash lb (sv + (1#64)))), (some b122, lO (lhash la sv)), (some b114, lO (lb)), (some b46, lO (la)), (some b39, .cells #[i64 (((gs).getD i g0).k), i64 (((gs).getD i g0).a), i64 (((gs).getD i g0).b)] 99 (0, 0)), (k1, sob ELb 38 ((gS lhash δ first gs zs i).1) z1), (key278, sob ELb 38 ((gS lhash δ first gs zs (i + 1)).2) sp280), (some b17, .cells (cel E8 (AesSpec.cipher AesSpec.fixKey)).toArray 215 (0, 0)), (some b1, .cells #[i64 (zs.length : Nat), .slice ga gs.length gc, .slice oa ol.length oc] 70 (0, 0)), (some b5, lO (δ))] from ⟨b312, rfl, hS313, ((((((((((((((((H315.pull (k := 15) rfl).pull (k := 15) rfl).pull (k := 15) rfl).pull (k := 15) rfl).pull (k := 15) rfl).pull (k := 15) rfl).pull (k := 15) rfl).pull (k := 15) rfl).pull (k := 15) rfl).pull (k := 15) rfl).pull (k := 15) rfl).pull (k := 15) rfl).pull (k := 15) rfl).pull (k := 15) rfl).pull (k := 15) rfl).pull (k := 15) rfl)⟩)
     refine WalkE.call rfl (fun _ => .agg (cel E64 [(lsum ([lhash la sv, lw (col la) tx, lhash lb (sv + (1#64)), lw (col lb) (lx ty la)] : List LbT)).1, (lsum ([lhash la sv, lw (col la) tx, lhash lb (sv + (1#64)), lw (col lb) (lx ty la)] : List LbT)).2]).toArray) (fun _ _ _ => rfl) (fun L r uw0 uw hAn hDn hF hEx => ?_) ?_
     ·skip
      have b13 := hAn 13 (by decide) rfl
      have b15 := hDn 15 (by decide) rfl
      have b16 := hDn 16 (by decide) rfl
      have hb := mp3 b13 b15 b16
      rw [hb] at hF
      obtain ⟨b289, e13, hS290, HH⟩ := hF
      replace HH := HH.ext hEx
      dsimp only
      rw [e13]
      exact Gives.call rfl (Enters.callL (vs := [.slice (ownA (some b289)) 4 4]) call88 rfl) (lsum_ok ([lhash la sv, lw (col la) tx, lhash lb (sv + (1#64)), lw (col lb) (lx ty la)] : List LbT) (ownA (some b289)) 4 4 (by rfl) (by simp) uw (HH.rd (k := 0) rfl hS290))
     refine WalkE.eff 1 rfl (fun L r uw0 uw hLn hAn hDn hF hEx => ?_) ?_
     ·skip
      have b13 := hAn 13 (by decide) rfl
      have b15 : L 15 = false := hLn
      have b16 := hDn 16 (by decide) rfl
      have hb := mp3 b13 b15 b16
      rw [hb] at hF ⊢
      obtain ⟨b289, e13, hS290, H317⟩ := hF
      replace H317 := H317.ext hEx
      dsimp only
      rw [e13]
      refine Gives.ofW (d := 145) rfl rfl (fun Q' hK => ?_)
      refine q_buildSlice (E := ELb) (l := ([lsum ([lhash la sv, lw (col la) tx, lhash lb (sv + (1#64)), lw (col lb) (lx ty la)] : List LbT)] : List LbT)) H317 sli92 zer38 (bLe rfl) (ps := [(0, .agg (cel E64 [(lsum ([lhash la sv, lw (col la) tx, lhash lb (sv + (1#64)), lw (col lb) (lx ty la)] : List LbT)).1, (lsum ([lhash la sv, lw (col la) tx, lhash lb (sv + (1#64)), lw (col lb) (lx ty la)] : List LbT)).2]).toArray)]) rfl (by exact fillAll rfl rfl) rfl ?_
      intro b318 w320 hS319 H321 hE322
      exact hK _ _ (show ∃ (b289 : Nat) (b295 : Nat), r 13 = .slice (ownA (some b289)) 4 4 ∧ (_ : Value) = .slice (ownA (some b295)) 1 1 ∧ Sl ELb (some b295) ([lsum ([lhash la sv, lw (col la) tx, lhash lb (sv + (1#64)), lw (col lb) (lx ty la)] : List LbT)] : List LbT) 1 ([]) ∧ Sl ELb (some b289) ([lhash la sv, lw (col la) tx, lhash lb (sv + (1#64)), lw (col lb) (lx ty la)] : List LbT) 4 ([]) ∧ Hp No w w320 [((some b295), sob ELb 38 ([lsum ([lhash la sv, lw (col la) tx, lhash lb (sv + (1#64)), lw (col lb) (lx ty la)] : List LbT)] : List LbT) ([])), ((some b289), sob ELb 38 ([lhash la sv, lw (col la) tx, lhash lb (sv + (1#64)), lw (col lb) (lx ty la)] : List LbT) ([])), ((some b273), sob ELb 38 ([tx, ty] : List LbT) ([])), (some b236, lO (ty)), ((some b225), sob ELb 38 ([lhash lb (sv + (1#64)), lhash (lx lb δ) (sv + (1#64)), la] : List LbT) ([])), (some b187, lO (tx)), ((some b176), sob ELb 38 ([lhash la sv, lhash (lx la δ) sv, lw (col lb) δ] : List LbT) ([])), (some b132, lO (lhash lb (sv + (1#64)))), (some b122, lO (lhash la sv)), (some b114, lO (lb)), (some b46, lO (la)), (some b39, .cells #[i64 (((gs).getD i g0).k), i64 (((gs).getD i g0).a), i64 (((gs).getD i g0).b)] 99 (0, 0)), (k1, sob ELb 38 ((gS lhash δ first gs zs i).1) z1), (key278, sob ELb 38 ((gS lhash δ first gs zs (i + 1)).2) sp280), (some b17, .cells (cel E8 (AesSpec.cipher AesSpec.fixKey)).toArray 215 (0, 0)), (some b1, .cells #[i64 (zs.length : Nat), .slice ga gs.length gc, .slice oa ol.length oc] 70 (0, 0)), (some b5, lO (δ))] from ⟨b289, b318, e13, rfl, hS319, hS290, (((((((((((((((((H321.pull (k := 16) rfl).pull (k := 16) rfl).pull (k := 16) rfl).pull (k := 16) rfl).pull (k := 16) rfl).pull (k := 16) rfl).pull (k := 16) rfl).pull (k := 16) rfl).pull (k := 16) rfl).pull (k := 16) rfl).pull (k := 16) rfl).pull (k := 16) rfl).pull (k := 16) rfl).pull (k := 16) rfl).pull (k := 16) rfl).pull (k := 16) rfl).pull (k := 16) rfl)⟩)
     refine WalkE.eff 2 rfl (fun L r uw0 uw hLn hAn hDn hF hEx => ?_) ?_
     ·skip
      have b13 := hAn 13 (by decide) rfl
      have b15 := hAn 15 (by decide) rfl
      have b16 : L 16 = false := hLn
      have hb := mp3 b13 b15 b16
      rw [hb] at hF ⊢
      obtain ⟨b289, b295, e13, e15, hS296, hS290, H323⟩ := hF
      replace H323 := H323.ext hEx
      dsimp only
      rw [e13, e15]
      refine Gives.ofW (d := 146) rfl rfl (fun Q' hK => ?_)
      refine q_append (E := ELb) (k := 12) (l := (gS lhash δ first gs zs i).1) (l2 := ([lsum ([lhash la sv, lw (col la) tx, lhash lb (sv + (1#64)), lw (col lb) (lx ty la)] : List LbT)] : List LbT)) H323 rfl h1 sli92 zer38 rfl byt38 (H323.rd (k := 0) rfl hS296) rfl (by rw [gS_len]) rfl (by rfl) (by omega) ?_
      intro key324 c325 sp326 w328 hS327 hne330 H329
      have H329' := H329.as (L' := [((some b295), sob ELb 38 ([lsum ([lhash la sv, lw (col la) tx, lhash lb (sv + (1#64)), lw (col lb) (lx ty la)] : List LbT)] : List LbT) ([])), ((some b289), sob ELb 38 ([lhash la sv, lw (col la) tx, lhash lb (sv + (1#64)), lw (col lb) (lx ty la)] : List LbT) ([])), ((some b273), sob ELb 38 ([tx, ty] : List LbT) ([])), (some b236, lO (ty)), ((some b225), sob ELb 38 ([lhash lb (sv + (1#64)), lhash (lx lb δ) (sv + (1#64)), la] : List LbT) ([])), (some b187, lO (tx)), ((some b176), sob ELb 38 ([lhash la sv, lhash (lx la δ) sv, lw (col lb) δ] : List LbT) ([])), (some b132, lO (lhash lb (sv + (1#64)))), (some b122, lO (lhash la sv)), (some b114, lO (lb)), (some b46, lO (la)), (some b39, .cells #[i64 (((gs).getD i g0).k), i64 (((gs).getD i g0).a), i64 (((gs).getD i g0).b)] 99 (0, 0)), (key324, sob ELb 38 (((gS lhash δ first gs zs i).1) ++ ([lsum ([lhash la sv, lw (col la) tx, lhash lb (sv + (1#64)), lw (col lb) (lx ty la)] : List LbT)] : List LbT)) sp326), (key278, sob ELb 38 ((gS lhash δ first gs zs (i + 1)).2) sp280), (some b17, .cells (cel E8 (AesSpec.cipher AesSpec.fixKey)).toArray 215 (0, 0)), (some b1, .cells #[i64 (zs.length : Nat), .slice ga gs.length gc, .slice oa ol.length oc] 70 (0, 0)), (some b5, lO (δ))]) rfl
      clear H329
      have e331 : ((gS lhash δ first gs zs i).1) ++ ([lsum ([lhash la sv, lw (col la) tx, lhash lb (sv + (1#64)), lw (col lb) (lx ty la)] : List LbT)] : List LbT) = (gS lhash δ first gs zs (i + 1)).1 := by rw [gS, gstep, if_neg hn3, if_neg hn1, htx, hty, hsv, hla, hlb]; rfl
      have hS332 := hS327
      rw [e331] at hS332
      have H333 := H329'.as (L' := [((some b295), sob ELb 38 ([lsum ([lhash la sv, lw (col la) tx, lhash lb (sv + (1#64)), lw (col lb) (lx ty la)] : List LbT)] : List LbT) ([])), ((some b289), sob ELb 38 ([lhash la sv, lw (col la) tx, lhash lb (sv + (1#64)), lw (col lb) (lx ty la)] : List LbT) ([])), ((some b273), sob ELb 38 ([tx, ty] : List LbT) ([])), (some b236, lO (ty)), ((some b225), sob ELb 38 ([lhash lb (sv + (1#64)), lhash (lx lb δ) (sv + (1#64)), la] : List LbT) ([])), (some b187, lO (tx)), ((some b176), sob ELb 38 ([lhash la sv, lhash (lx la δ) sv, lw (col lb) δ] : List LbT) ([])), (some b132, lO (lhash lb (sv + (1#64)))), (some b122, lO (lhash la sv)), (some b114, lO (lb)), (some b46, lO (la)), (some b39, .cells #[i64 (((gs).getD i g0).k), i64 (((gs).getD i g0).a), i64 (((gs).getD i g0).b)] 99 (0, 0)), (key324, sob ELb 38 ((gS lhash δ first gs zs (i + 1)).1) sp326), (key278, sob ELb 38 ((gS lhash δ first gs zs (i + 1)).2) sp280), (some b17, .cells (cel E8 (AesSpec.cipher AesSpec.fixKey)).toArray 215 (0, 0)), (some b1, .cells #[i64 (zs.length : Nat), .slice ga gs.length gc, .slice oa ol.length oc] 70 (0, 0)), (some b5, lO (δ))]) (by rw [e331])
      exact hK _ _ (show ∃ (b289 : Nat) (b295 : Nat) (key301 : Option Nat) (c302 : Nat) (sp303 : List Value), r 13 = .slice (ownA (some b289)) 4 4 ∧ r 15 = .slice (ownA (some b295)) 1 1 ∧ (_ : Value) = .slice (ownA key301) ((zs.length + i) + 1) c302 ∧ Sl ELb (some b295) ([lsum ([lhash la sv, lw (col la) tx, lhash lb (sv + (1#64)), lw (col lb) (lx ty la)] : List LbT)] : List LbT) 1 ([]) ∧ Sl ELb (some b289) ([lhash la sv, lw (col la) tx, lhash lb (sv + (1#64)), lw (col lb) (lx ty la)] : List LbT) 4 ([]) ∧ Sl ELb key301 ((gS lhash δ first gs zs (i + 1)).1) c302 sp303 ∧ Hp No w w328 [((some b295), sob ELb 38 ([lsum ([lhash la sv, lw (col la) tx, lhash lb (sv + (1#64)), lw (col lb) (lx ty la)] : List LbT)] : List LbT) ([])), ((some b289), sob ELb 38 ([lhash la sv, lw (col la) tx, lhash lb (sv + (1#64)), lw (col lb) (lx ty la)] : List LbT) ([])), ((some b273), sob ELb 38 ([tx, ty] : List LbT) ([])), (some b236, lO (ty)), ((some b225), sob ELb 38 ([lhash lb (sv + (1#64)), lhash (lx lb δ) (sv + (1#64)), la] : List LbT) ([])), (some b187, lO (tx)), ((some b176), sob ELb 38 ([lhash la sv, lhash (lx la δ) sv, lw (col lb) δ] : List LbT) ([])), (some b132, lO (lhash lb (sv + (1#64)))), (some b122, lO (lhash la sv)), (some b114, lO (lb)), (some b46, lO (la)), (some b39, .cells #[i64 (((gs).getD i g0).k), i64 (((gs).getD i g0).a), i64 (((gs).getD i g0).b)] 99 (0, 0)), (key301, sob ELb 38 ((gS lhash δ first gs zs (i + 1)).1) sp303), (key278, sob ELb 38 ((gS lhash δ first gs zs (i + 1)).2) sp280), (some b17, .cells (cel E8 (AesSpec.cipher AesSpec.fixKey)).toArray 215 (0, 0)), (some b1, .cells #[i64 (zs.length : Nat), .slice ga gs.length gc, .slice oa ol.length oc] 70 (0, 0)), (some b5, lO (δ))] from ⟨b289, b295, key324, c325, sp326, e13, e15, rfl, hS296, hS290, hS332, (((((((((((((((((H333.pull (k := 16) rfl).pull (k := 16) rfl).pull (k := 16) rfl).pull (k := 16) rfl).pull (k := 16) rfl).pull (k := 16) rfl).pull (k := 16) rfl).pull (k := 16) rfl).pull (k := 16) rfl).pull (k := 16) rfl).pull (k := 16) rfl).pull (k := 16) rfl).pull (k := 16) rfl).pull (k := 16) rfl).pull (k := 16) rfl).pull (k := 16) rfl).pull (k := 16) rfl)⟩)
     refine WalkE.look rfl (fun r => r 16) (fun r r' h => h 16 (by decide) rfl) (fun L r _ uw _ _ _ _ => Gives.run rfl (r_assign rfl) ⟨rfl, rfl⟩) ?_
     refine WalkE.nil ?_
     intro r334 uw0 w335 hF hEx
     obtain ⟨b289, b295, key301, c302, sp303, e13, e15, e16, hS296, hS290, hS309, H336⟩ := hF
     replace H336 := H336.ext hEx
     dsimp only
     rw [e13, e15, e16]
     refine wnil ?_
     refine blockNormal ?_
     refine blockNormal ?_
     refine thenNormal ?_
     refine oneRegion ?_
     refine sq (r_addI (a := (i : Nat)) (b := (1 : Int)) rfl rfl (by omega)) ?_
     refine sM (i64 ((i : Nat) + (1 : Int))) rfl ?_
     refine wnil ?_
     refine thenNormal ?_
     exact ⟨(i + 1, key301, c302, sp303, key278, c279, sp280, (gS lhash δ first gs zs i).2.length + 2), _, rfl, ⟨rfl, rfl, rfl, rfl, rfl, rfl, rfl, rfl, rfl, trivial⟩, ⟨⟨by omega, hS309, hS286, by rw [gS, gstep, if_neg hn3, if_neg hn1, List.length_append]; rfl⟩, ((((((((((((H336.dropk 11).dropk 10).dropk 9).dropk 8).dropk 7).dropk 6).dropk 5).dropk 4).dropk 3).dropk 2).dropk 1).dropk 0)⟩, by show gs.length - (i + 1) < gs.length - i; omega⟩
    ·skip
     exfalso
     omega
 ·skip
  have hie : i = gs.length := by omega
  rw [hie] at HL h1 h2
  rw [hie]
  refine exitAny ?_
  refine thenExit ?_
  refine thenExit ?_
  refine blockHere ?_
  refine thenNormal ?_
  refine sR ?_
  refine sM (.slice (ownA k2) ((gS lhash δ first gs zs gs.length).2.length) c2) rfl ?_
  refine sq (r_loadA (cs' := #[i64 (zs.length : Nat), .slice ga gs.length gc, .slice oa ol.length oc]) agg70 siz70 (HL.get (k := 3) rfl) (off := 0) rfl (by exact bLe rfl) (by rfl)) ?_
  refine sM (.slice (ownA k1) (zs.length + gs.length) c1) rfl ?_
  refine c_call (vs := [.agg #[i64 (zs.length : Nat), .slice ga gs.length gc, .slice oa ol.length oc], .slice (ownA k1) (zs.length + gs.length) c1]) call90 rfl (outs_ok ((zs.length : Nat) : Int)  gs ol ga oa gc oc ((gS lhash δ first gs zs gs.length).1) (ownA k1) (zs.length + gs.length) c1 (by rw [gS_len]) w37 (hOl.ext HL.chg) (HL.rd (k := 0) rfl h1) (by omega) (fun j hj => by rw [gS_len]; have := hg.ook j hj; omega)) ?_
  rintro _ w337 ⟨⟨key339, c340, sp341, rfl, hS342, hk343⟩, hE344⟩
  rw [show (oL (gS lhash δ first gs zs gs.length).1 ol ol.length).length = ol.length from oL_len _ _ _]
  have H345 := HL.add hE344 hk343
  refine sA (.slice (ownA k2) ((gS lhash δ first gs zs gs.length).2.length) c2) rfl ?_
  refine sA (.slice (ownA key339) ol.length c340) rfl ?_
  refine sA (.nilIface) rfl ?_
  refine wend ?_
  refine retAny ?_
  refine retG (rs := [.tmp 8, .tmp 9, .tmp 10]) (vs := [.slice (ownA k2) ((gS lhash δ first gs zs gs.length).2.length) c2, .slice (ownA key339) ol.length c340, .nilIface]) rfl ⟨⟨rfl, rfl⟩, ⟨rfl, rfl⟩, ⟨rfl, rfl⟩, trivial⟩ ?_
  exact ⟨_, rfl, k2, c2, z2, key339, c340, sp341, rfl, h2, hS342, (H345.pick 6 [2, 0] (by decide) (by decide))⟩
end Go.Proofs.YteofdmdpaejgaaaDoor.Gb
namespace Go.Proofs.YteofdmdpaejgaaaDoor.Gb
open Go Go.Proofs.YteofdmdpaejgaaaDoor.Vc Go.Proofs.YteofdmdpaejgaaaDoor.Er Go.Proofs.YteofdmdpaejgaaaDoor.Circ
set_option linter.unusedVariables false
theorem call32 : callable Tryd.prog 32 = true := by kernel_rfl
set_option maxRecDepth 20000 in
set_option maxHeartbeats 4000000 in
theorem eval_ok (n : Int) (gs : List Gt) (ol : List Int) (ga oa : Option Addr) (gc oc : Nat) (ls tb : List Lb) (lsa tsa : Option Addr) (lsc tsc : Nat) (first : BitVec 64) (w : World) (hG : Gl w) (hGs : Rd EG w ga gs) (hOl : Rd EI w oa ol) (hgl : gs.length ≤ 140737488355328) (hol : ol.length ≤ 140737488355328) (hLs : Rd ELb w lsa ls) (hTb : Rd ELb w tsa tb) (hg : IsC n gs ol) (hm : (ls.length : Int) = n) (hc : tb.length = 2 * andsS gs gs.length) : Calls Tryd.prog 46 [.agg #[i64 n, .slice ga gs.length gc, .slice oa ol.length oc], .slice lsa ls.length lsc, .slice tsa tb.length tsc, u64 first].toArray w (Ret fun v w' => ∃ (k1 : Option Nat) (c1 : Nat) (z1 : List Value), v = .tuple #[.slice (ownA k1) ol.length c1, .nilIface] ∧ Sl ELb k1 (oL (eS lhash first gs tb ls gs.length).1 ol ol.length) c1 z1 ∧ Hp No w w' [(k1, sob ELb 38 (oL (eS lhash first gs tb ls gs.length).1 ol ol.length) z1)]) := by
 subst hm
 have hgt := hg.gates
 have hot := hg.outs
 have hhi := hg.hi
 have han := andsS_le gs gs.length
 have H := Hp.start No w
 refine enter (n := 122) Tryd.func46 rfl rfl (bLe rfl) ?_
 refine sR ?_
 refine q_box (v := .agg #[i64 (ls.length : Nat), .slice ga gs.length gc, .slice oa ol.length oc]) (o := .cells #[i64 (ls.length : Nat), .slice ga gs.length gc, .slice oa ol.length oc] 70 (0, 0)) H rfl (by rfl) ?_
 intro b1 w2 hb1 H3 hE4
 refine sA (.slice none 0 0) rfl ?_
 refine sA (.nilIface) rfl ?_
 refine wend ?_
 refine seqAny ?_
 refine sR ?_
 refine sq (r_loadA (cs' := #[i64 (ls.length : Nat), .slice ga gs.length gc, .slice oa ol.length oc]) agg70 siz70 (H3.get (k := 0) rfl) (off := 0) rfl (by exact bLe rfl) (by rfl)) ?_
 refine sM (.slice lsa ls.length lsc) rfl ?_
 refine sq (r_lenS sli92 (a := lsa) (m := ls.length) (c := lsc) rfl) ?_
 refine c_call (vs := [.agg #[i64 (ls.length : Nat), .slice ga gs.length gc, .slice oa ol.length oc], i64 (ls.length : Nat)]) call83 rfl (look_good (ls.length : Nat) gs ol ga oa gc oc ls.length w2 (Chg.gl H3.chg (fun x => x) hG) (hGs.ext H3.chg) (hOl.ext H3.chg) (by omega) (by omega) hg (by omega)) ?_
 rintro _ w5 ⟨rfl, hE6⟩
 have H7 := H3.ext hE6
 refine sA (.nilIface) rfl ?_
 refine wend ?_
 refine sR ?_
 refine sM (.nilIface) rfl ?_
 refine sq (r_neqNN isI27 rfl rfl) ?_
 refine wend ?_
 refine condFalse rfl ?_
 refine skipAny ?_
 refine thenNormal ?_
 refine seqAny ?_
 refine sR ?_
 refine sM (.slice tsa tb.length tsc) rfl ?_
 refine sq (r_lenS sli92 (a := tsa) (m := tb.length) (c := tsc) rfl) ?_
 refine sq (r_loadA (cs' := #[i64 (ls.length : Nat), .slice ga gs.length gc, .slice oa ol.length oc]) agg70 siz70 (H7.get (k := 0) rfl) (off := 0) rfl (by exact bLe rfl) (by rfl)) ?_
 refine c_call (vs := [.agg #[i64 (ls.length : Nat), .slice ga gs.length gc, .slice oa ol.length oc]]) call32 rfl (ands_ok (ls.length : Nat) gs ol ga oa gc oc w5 (hGs.ext H7.chg) (by omega)) ?_
 rintro _ w8 ⟨rfl, hE9⟩
 have H10 := H7.ext hE9
 refine sq ((r_mulI (a := (2 : Int)) (b := (andsS gs gs.length : Nat)) rfl rfl (by omega)).as (v' := i64 (((2 * andsS gs gs.length) : Nat))) (by rfl)) ?_
 refine sq ((r_neqI (a := (tb.length : Nat)) (b := ((2 * andsS gs gs.length) : Nat)) rfl rfl).as (v' := .bool (false)) (by exact congrArg Value.bool (decide_eq_false (by omega)))) ?_
 refine wend ?_
 refine condFalse rfl ?_
 refine skipAny ?_
 refine thenNormal ?_
 refine sR ?_
 refine c_call (vs := []) call85 rfl (Aes.fixed_ok w8) ?_
 rintro _ w11 ⟨⟨b13, rfl, hb14, ho15⟩, hE16⟩
 have H17 := H10.add1 hE16 hb14 ho15
 refine sA (pT b13) rfl ?_
 refine wend ?_
 refine sR ?_
 refine sq (r_fieldAddr (off' := 0) fld70_0 (by decide) (b := b1) (off := 0) rfl (by omega)) ?_
 refine sq (r_loadC (v := i64 (ls.length : Nat)) one3 (H17.get (k := 1) rfl) (off := 0) rfl (by rfl)) ?_
 refine sq (r_fieldAddr (off' := 1) fld70_1 (by decide) (b := b1) (off := 0) rfl (by omega)) ?_
 refine sq (r_loadC (v := .slice ga gs.length gc) one68 (H17.get (k := 1) rfl) (off := 1) rfl (by rfl)) ?_
 refine sq (r_lenS sli68 (a := ga) (m := gs.length) (c := gc) rfl) ?_
 refine sq ((r_addI (a := (ls.length : Nat)) (b := (gs.length : Nat)) rfl rfl (by omega)).as (v' := i64 (((ls.length + gs.length) : Nat))) (by rfl)) ?_
 refine q_makeSlice (E := ELb) (m := 0) (c := (ls.length + gs.length)) (z0 := lb0) H17 sli92 zer38 rfl byt38 rfl rfl (by first | rfl | omega | (simp; omega)) (by first | rfl | omega | (simp; omega)) (by omega) (by omega) ?_
 intro b18 w20 hS19 H21 hE22
 refine sM (.slice lsa ls.length lsc) rfl ?_
 refine q_append (E := ELb) (k := 0) (l := List.replicate 0 lb0) (l2 := ls) H21 rfl hS19 sli92 zer38 rfl byt38 (hLs.ext H21.chg) rfl (by simp) rfl (by rfl) (by omega) ?_
 intro key23 c24 sp25 w27 hS26 hne29 H28
 have H28' := H28.as (L' := [(key23, sob ELb 38 ((List.replicate 0 lb0) ++ ls) sp25), (some b13, .cells (cel E8 (AesSpec.cipher AesSpec.fixKey)).toArray 215 (0, 0)), (some b1, .cells #[i64 (ls.length : Nat), .slice ga gs.length gc, .slice oa ol.length oc] 70 (0, 0))]) rfl
 clear H28
 have e30 : (List.replicate 0 lb0) ++ ls = ls := by rfl
 have hS31 := hS26
 rw [e30] at hS31
 have H32 := H28'.as (L' := [(key23, sob ELb 38 ls sp25), (some b13, .cells (cel E8 (AesSpec.cipher AesSpec.fixKey)).toArray 215 (0, 0)), (some b1, .cells #[i64 (ls.length : Nat), .slice ga gs.length gc, .slice oa ol.length oc] 70 (0, 0))]) (by rw [e30])
 refine sA (.slice (ownA key23) (0 + ls.length) c24) rfl ?_
 refine wend ?_
 refine sR ?_
 refine sA (i64 ((0 : Int))) rfl ?_
 refine wend ?_
 refine seqAny ?_
 refine sR ?_
 refine sq (r_fieldAddr (off' := 1) fld70_1 (by decide) (b := b1) (off := 0) rfl (by omega)) ?_
 refine sq (r_loadC (v := .slice ga gs.length gc) one68 (H32.get (k := 2) rfl) (off := 1) rfl (by rfl)) ?_
 refine sq (r_lenS sli68 (a := ga) (m := gs.length) (c := gc) rfl) ?_
 refine sM (i64 ((0 : Int))) rfl ?_
 refine wend ?_
 refine blockAny ?_
 refine loopAny (σ := Nat × Option Nat × Nat × List Value × Nat) (fun (i, k1, c1, z1, m) => [(2, .slice tsa tb.length tsc), (3, u64 (first)), (4, pT b1), (11, pT b13), (12, .slice (ownA k1) (ls.length + i) c1), (13, i64 (m : Nat)), (49, .slice ga gs.length gc), (50, i64 (gs.length : Nat)), (51, i64 (i : Nat))]) (fun (i, k1, c1, z1, m) w' => (i ≤ gs.length ∧ Sl ELb k1 (eS lhash first gs tb ls i).1 c1 z1 ∧ m = (eS lhash first gs tb ls i).2) ∧ Hp No w w' [(k1, sob ELb 38 ((eS lhash first gs tb ls i).1) z1), (some b1, .cells #[i64 (ls.length : Nat), .slice ga gs.length gc, .slice oa ol.length oc] 70 (0, 0)), (some b13, .cells (cel E8 (AesSpec.cipher AesSpec.fixKey)).toArray 215 (0, 0))]) (fun (i, k1, c1, z1, m) => gs.length - i) ((0, key23, c24, sp25, 0)) ?_ ?_ ?_
 ·exact ⟨rfl, rfl, rfl, rfl, congrArg (fun q => Value.slice _ q _) (by omega), rfl, rfl, rfl, rfl, trivial⟩
 ·exact ⟨⟨Nat.zero_le _, hS31, rfl⟩, (H32.pick 3 [0, 2, 1] (by decide) (by decide))⟩
 rintro ⟨i, k1, c1, z1, m⟩ ρ w33 ⟨⟨hi, h1, rfl⟩, HL⟩
 have hwl := eS_len (h := lhash) (first := first) (gs := gs) (tb := tb) (ls := ls) i
 have hnx := eS_next (h := lhash) (first := first) (gs := gs) (tb := tb) (ls := ls) i
 refine sR ?_
 refine sq (r_lssI (a := (i : Nat)) (b := (gs.length : Nat)) rfl rfl) ?_
 refine wend ?_
 refine seqAny ?_
 refine condProp (((i : Nat) : Int) < (gs.length : Nat)) rfl (fun c52 => ?_) (fun c52 => ?_)
 ·skip
  have hgi := hg.gok i (by omega)
  unfold gokP at hgi
  refine skipAny ?_
  refine thenNormal ?_
  refine seqAny ?_
  refine blockAny ?_
  refine sR ?_
  refine sq (r_idxS (E := EG) (l := gs) (j := i) sli68 (hGs.ext HL.chg) rfl rfl (by first | rfl | omega | (simp; omega)) (by rfl) (by omega)) ?_
  refine sq ((r_ldS (E := EG) (l := gs) (j := i) (v := (gs).getD i g0) fits99 (hGs.ext HL.chg) rfl rfl (at_getD (by omega))).as (v' := .agg #[i64 (((gs).getD i g0).k), i64 (((gs).getD i g0).a), i64 (((gs).getD i g0).b)]) rfl) ?_
  refine q_alloc (o := .cells #[i64 ((0 : Int)), i64 ((0 : Int)), i64 ((0 : Int))] 99 (0, 0)) HL zer99 (by kernel_rfl) ?_
  intro b35 w36 hb35 H37 hE38
  refine d_store (k := 0) (v := .agg #[i64 (((gs).getD i g0).k), i64 (((gs).getD i g0).a), i64 (((gs).getD i g0).b)]) (cs' := #[i64 (((gs).getD i g0).k), i64 (((gs).getD i g0).a), i64 (((gs).getD i g0).b)]) H37 rfl rfl rfl siz99 (by rfl) (by intro u hu; simp [Value.cells] at hu; first | (subst hu; rfl) | (rcases hu with rfl | rfl | rfl <;> rfl)) (by exact bLe rfl) (by rfl) ?_
  intro w39 H40 hC41
  have H40' := H40.as (L' := [(some b35, .cells #[i64 (((gs).getD i g0).k), i64 (((gs).getD i g0).a), i64 (((gs).getD i g0).b)] 99 (0, 0)), (k1, sob ELb 38 ((eS lhash first gs tb ls i).1) z1), (some b1, .cells #[i64 (ls.length : Nat), .slice ga gs.length gc, .slice oa ol.length oc] 70 (0, 0)), (some b13, .cells (cel E8 (AesSpec.cipher AesSpec.fixKey)).toArray 215 (0, 0))]) rfl
  clear H40
  refine wend ?_
  refine sR ?_
  refine sM (.slice (ownA k1) (ls.length + i) c1) rfl ?_
  refine sq (r_fieldAddr (off' := 1) fld99_1 (by decide) (b := b35) (off := 0) rfl (by omega)) ?_
  refine sq (r_loadC (v := i64 (((gs).getD i g0).a)) one3 (H40'.get (k := 0) rfl) (off := 1) rfl (by rfl)) ?_
  refine sq (r_idxS (E := ELb) (l := (eS lhash first gs tb ls i).1) (j := (gs.getD i g0).a.toNat) sli92 (H40'.rd (k := 1) rfl h1) rfl rfl (by omega) (by rw [eS_len]) (by omega)) ?_
  refine sq ((r_ldS (E := ELb) (l := (eS lhash first gs tb ls i).1) (j := (gs.getD i g0).a.toNat) (v := ((eS lhash first gs tb ls i).1).getD ((gs.getD i g0).a.toNat) lb0) fits38 (H40'.rd (k := 1) rfl h1) rfl rfl (at_getD (by omega))).as (v' := .agg (cel E64 [(((eS lhash first gs tb ls i).1).getD ((gs.getD i g0).a.toNat) lb0).1, (((eS lhash first gs tb ls i).1).getD ((gs.getD i g0).a.toNat) lb0).2]).toArray) rfl) ?_
  refine q_alloc (o := .cells (cel E64 ([0#64, 0#64])).toArray 38 (0, 0)) H40' zer38 (by kernel_rfl) ?_
  intro b42 w43 hb42 H44 hE45
  refine d_store (k := 0) (v := .agg (cel E64 [(((eS lhash first gs tb ls i).1).getD ((gs.getD i g0).a.toNat) lb0).1, (((eS lhash first gs tb ls i).1).getD ((gs.getD i g0).a.toNat) lb0).2]).toArray) (cs' := (cel E64 ([(((eS lhash first gs tb ls i).1).getD ((gs.getD i g0).a.toNat) lb0).1, (((eS lhash first gs tb ls i).1).getD ((gs.getD i g0).a.toNat) lb0).2])).toArray) H44 rfl rfl rfl siz38 (by exact celSize (by first | rfl | (show _ * 1 = _; omega))) (by exact celOne _) (by rw [List.size_toArray, cel_length]; show _ ≤ _ * 1; first | omega | (simp only [List.length_set]; omega) | exact bLe rfl | (simp <;> omega)) (by exact putAll (by first | rfl | omega | (simp <;> omega))) ?_
  intro w46 H47 hC48
  have H47' := H47.as (L' := [(some b42, lO (((eS lhash first gs tb ls i).1).getD ((gs.getD i g0).a.toNat) lb0)), (some b35, .cells #[i64 (((gs).getD i g0).k), i64 (((gs).getD i g0).a), i64 (((gs).getD i g0).b)] 99 (0, 0)), (k1, sob ELb 38 ((eS lhash first gs tb ls i).1) z1), (some b1, .cells #[i64 (ls.length : Nat), .slice ga gs.length gc, .slice oa ol.length oc] 70 (0, 0)), (some b13, .cells (cel E8 (AesSpec.cipher AesSpec.fixKey)).toArray 215 (0, 0))]) rfl
  clear H47
  obtain ⟨la, hla⟩ : ∃ x : Lb, x = (((eS lhash first gs tb ls i).1).getD (gs.getD i g0).a.toNat lb0) := ⟨_, rfl⟩
  rw [← hla] at H47' ⊢
  refine wend ?_
  refine seqAny ?_
  refine sR ?_
  refine sq (r_fieldAddr (off' := 0) fld99_0 (by decide) (b := b35) (off := 0) rfl (by omega)) ?_
  refine sq (r_loadC (v := i64 (((gs).getD i g0).k)) one97 (H47'.get (k := 1) rfl) (off := 0) rfl (by rfl)) ?_
  refine wend ?_
  refine blockAny ?_
  refine sR ?_
  refine sq (r_eqlI (a := ((gs).getD i g0).k) (b := (1 : Int)) rfl rfl) ?_
  refine sA (.bool (decide ((((gs).getD i g0).k : Int) = (1 : Int)))) rfl ?_
  refine wend ?_
  refine condProp ((((gs).getD i g0).k : Int) = (1 : Int)) rfl (fun hk1 => ?_) (fun hk1 => ?_)
  ·skip
   have hk := hk1
   refine drawE (m := 8) [0, 0, 0, 4, 14, 30, 63, 127] [7] (fun bs vs w' => match bs, vs with | [false], [_] => Hp No w w' [(some b42, lO (la)), (some b35, .cells #[i64 (((gs).getD i g0).k), i64 (((gs).getD i g0).a), i64 (((gs).getD i g0).b)] 99 (0, 0)), (k1, sob ELb 38 ((eS lhash first gs tb ls i).1) z1), (some b1, .cells #[i64 (ls.length : Nat), .slice ga gs.length gc, .slice oa ol.length oc] 70 (0, 0)), (some b13, .cells (cel E8 (AesSpec.cipher AesSpec.fixKey)).toArray 215 (0, 0))] | [true], [_] => Hp No w w' [(some b42, lO (lx la (((eS lhash first gs tb ls i).1).getD ((gs.getD i g0).b.toNat) lb0))), (some b35, .cells #[i64 (((gs).getD i g0).k), i64 (((gs).getD i g0).a), i64 (((gs).getD i g0).b)] 99 (0, 0)), (k1, sob ELb 38 ((eS lhash first gs tb ls i).1) z1), (some b1, .cells #[i64 (ls.length : Nat), .slice ga gs.length gc, .slice oa ol.length oc] 70 (0, 0)), (some b13, .cells (cel E8 (AesSpec.cipher AesSpec.fixKey)).toArray 215 (0, 0))] | _, _ => False) mixed (by kernel_rfl) (by kernel_rfl) H47'.drew ?_
   refine WalkE.look rfl (fun _ => lV (la)) (fun _ _ _ => rfl) (fun L r uw0 uw hAn hDn hF hEx => ?_) ?_
   ·skip
    have b7 := hDn 7 (by decide) rfl
    have hb : List.map L [7] = [false] := by simp only [List.map_cons, List.map_nil, b7]
    rw [hb] at hF
    have HH := hF
    replace HH := HH.ext hEx
    exact Gives.run rfl (r_loadA (cs' := (cel E64 ([(la).1, (la).2])).toArray) agg38 siz38 (HH.get (k := 0) rfl) (off := 0) rfl (by exact bLe rfl) (by exact ext_all rfl)) ⟨rfl, rfl⟩
   refine WalkE.look rfl (fun _ => .slice (ownA k1) (ls.length + i) c1) (fun _ _ _ => rfl) (fun L r _ uw _ _ _ _ => Gives.run rfl (r_move (v := .slice (ownA k1) (ls.length + i) c1) rfl) ⟨rfl, rfl⟩) ?_
   refine WalkE.look rfl (fun _ => .pointer (some ⟨b35, 2, none⟩)) (fun _ _ _ => rfl) (fun L r _ uw _ _ _ _ => Gives.run rfl (r_fieldAddr (off' := 2) fld99_2 (by decide) (b := b35) (off := 0) rfl (by omega)) ⟨rfl, rfl⟩) ?_
   refine WalkE.look rfl (fun _ => i64 (((gs).getD i g0).b)) (fun _ _ _ => rfl) (fun L r uw0 uw hAn hDn hF hEx => ?_) ?_
   ·skip
    have b7 := hDn 7 (by decide) rfl
    have hb : List.map L [7] = [false] := by simp only [List.map_cons, List.map_nil, b7]
    rw [hb] at hF
    have HH := hF
    replace HH := HH.ext hEx
    exact Gives.run rfl (r_loadC (v := i64 (((gs).getD i g0).b)) one3 (HH.get (k := 1) rfl) (off := 2) rfl (by rfl)) ⟨rfl, rfl⟩
   refine WalkE.look rfl (fun _ => .pointer (adr (ownA k1) (((gs.getD i g0).b.toNat) * 2))) (fun _ _ _ => rfl) (fun L r uw0 uw hAn hDn hF hEx => ?_) ?_
   ·skip
    have b7 := hDn 7 (by decide) rfl
    have hb : List.map L [7] = [false] := by simp only [List.map_cons, List.map_nil, b7]
    rw [hb] at hF
    have HH := hF
    replace HH := HH.ext hEx
    exact Gives.run rfl (r_idxS (E := ELb) (l := (eS lhash first gs tb ls i).1) (j := (gs.getD i g0).b.toNat) sli92 (HH.rd (k := 2) rfl h1) rfl rfl (by omega) (by rw [eS_len]) (by omega)) ⟨rfl, rfl⟩
   refine WalkE.look rfl (fun _ => .agg (cel E64 [(((eS lhash first gs tb ls i).1).getD ((gs.getD i g0).b.toNat) lb0).1, (((eS lhash first gs tb ls i).1).getD ((gs.getD i g0).b.toNat) lb0).2]).toArray) (fun _ _ _ => rfl) (fun L r uw0 uw hAn hDn hF hEx => ?_) ?_
   ·skip
    have b7 := hDn 7 (by decide) rfl
    have hb : List.map L [7] = [false] := by simp only [List.map_cons, List.map_nil, b7]
    rw [hb] at hF
    have HH := hF
    replace HH := HH.ext hEx
    exact Gives.run rfl ((r_ldS (E := ELb) (l := (eS lhash first gs tb ls i).1) (j := (gs.getD i g0).b.toNat) (v := ((eS lhash first gs tb ls i).1).getD ((gs.getD i g0).b.toNat) lb0) fits38 (HH.rd (k := 2) rfl h1) rfl rfl (at_getD (by omega))).as (v' := .agg (cel E64 [(((eS lhash first gs tb ls i).1).getD ((gs.getD i g0).b.toNat) lb0).1, (((eS lhash first gs tb ls i).1).getD ((gs.getD i g0).b.toNat) lb0).2]).toArray) rfl) ⟨rfl, rfl⟩
   refine WalkE.call rfl (fun _ => .agg (cel E64 [(lx la (((eS lhash first gs tb ls i).1).getD ((gs.getD i g0).b.toNat) lb0)).1, (lx la (((eS lhash first gs tb ls i).1).getD ((gs.getD i g0).b.toNat) lb0)).2]).toArray) (fun _ _ _ => rfl) (fun L r uw0 uw hAn hDn hF hEx => ?_) ?_
   ·skip
    have b7 := hDn 7 (by decide) rfl
    have hb : List.map L [7] = [false] := by simp only [List.map_cons, List.map_nil, b7]
    rw [hb] at hF
    have HH := hF
    replace HH := HH.ext hEx
    exact Gives.call rfl (Enters.callL (vs := [lV (la), .agg (cel E64 [(((eS lhash first gs tb ls i).1).getD ((gs.getD i g0).b.toNat) lb0).1, (((eS lhash first gs tb ls i).1).getD ((gs.getD i g0).b.toNat) lb0).2]).toArray]) call86 rfl) (lxor_ok la (((eS lhash first gs tb ls i).1).getD ((gs.getD i g0).b.toNat) lb0) uw)
   refine WalkE.eff 0 rfl (fun L r uw0 uw hLn hAn hDn hF hEx => ?_) ?_
   ·skip
    have b7 : L 7 = false := hLn
    have hb : List.map L [7] = [false] := by simp only [List.map_cons, List.map_nil, b7]
    rw [hb] at hF ⊢
    have H53 := hF
    replace H53 := H53.ext hEx
    dsimp only
    refine Gives.ofW0 rfl (fun Q' hK => ?_)
    refine d_store (k := 0) (v := .agg (cel E64 [(lx la (((eS lhash first gs tb ls i).1).getD ((gs.getD i g0).b.toNat) lb0)).1, (lx la (((eS lhash first gs tb ls i).1).getD ((gs.getD i g0).b.toNat) lb0)).2]).toArray) (cs' := (cel E64 ([(lx la (((eS lhash first gs tb ls i).1).getD ((gs.getD i g0).b.toNat) lb0)).1, (lx la (((eS lhash first gs tb ls i).1).getD ((gs.getD i g0).b.toNat) lb0)).2])).toArray) H53 rfl rfl rfl siz38 (by exact celSize (by first | rfl | (show _ * 1 = _; omega))) (by exact celOne _) (by rw [List.size_toArray, cel_length]; show _ ≤ _ * 1; first | omega | (simp only [List.length_set]; omega) | exact bLe rfl | (simp <;> omega)) (by exact putAll (by first | rfl | omega | (simp <;> omega))) ?_
    intro w54 H55 hC56
    have H55' := H55.as (L' := [(some b42, lO (lx la (((eS lhash first gs tb ls i).1).getD ((gs.getD i g0).b.toNat) lb0))), (some b35, .cells #[i64 (((gs).getD i g0).k), i64 (((gs).getD i g0).a), i64 (((gs).getD i g0).b)] 99 (0, 0)), (k1, sob ELb 38 ((eS lhash first gs tb ls i).1) z1), (some b1, .cells #[i64 (ls.length : Nat), .slice ga gs.length gc, .slice oa ol.length oc] 70 (0, 0)), (some b13, .cells (cel E8 (AesSpec.cipher AesSpec.fixKey)).toArray 215 (0, 0))]) rfl
    clear H55
    exact hK _ (fun _ => (show Hp No w w54 [(some b42, lO (lx la (((eS lhash first gs tb ls i).1).getD ((gs.getD i g0).b.toNat) lb0))), (some b35, .cells #[i64 (((gs).getD i g0).k), i64 (((gs).getD i g0).a), i64 (((gs).getD i g0).b)] 99 (0, 0)), (k1, sob ELb 38 ((eS lhash first gs tb ls i).1) z1), (some b1, .cells #[i64 (ls.length : Nat), .slice ga gs.length gc, .slice oa ol.length oc] 70 (0, 0)), (some b13, .cells (cel E8 (AesSpec.cipher AesSpec.fixKey)).toArray 215 (0, 0))] from (((((H55'.pull (k := 4) rfl).pull (k := 4) rfl).pull (k := 4) rfl).pull (k := 4) rfl).pull (k := 4) rfl)))
   refine WalkE.nil ?_
   intro r57 uw0 w58 hF hEx
   have H59 := hF
   replace H59 := H59.ext hEx
   dsimp only
   refine wnil ?_
   refine blockNormal ?_
   refine thenNormal ?_
   refine oneRegion ?_
   refine sM (.slice (ownA k1) (ls.length + i) c1) rfl ?_
   refine sq (r_loadA (cs' := (cel E64 ([(lx la (((eS lhash first gs tb ls i).1).getD ((gs.getD i g0).b.toNat) lb0)).1, (lx la (((eS lhash first gs tb ls i).1).getD ((gs.getD i g0).b.toNat) lb0)).2])).toArray) agg38 siz38 (H59.get (k := 0) rfl) (off := 0) rfl (by exact bLe rfl) (by exact ext_all rfl)) ?_
   refine q_buildSlice (E := ELb) (l := ([lx la (((eS lhash first gs tb ls i).1).getD ((gs.getD i g0).b.toNat) lb0)] : List LbT)) H59 sli92 zer38 (bLe rfl) (ps := [(0, lV (lx la (((eS lhash first gs tb ls i).1).getD ((gs.getD i g0).b.toNat) lb0)))]) rfl (by exact fillAll rfl rfl) rfl ?_
   intro b60 w62 hS61 H63 hE64
   refine q_append (E := ELb) (k := 3) (l := (eS lhash first gs tb ls i).1) (l2 := ([lx la (((eS lhash first gs tb ls i).1).getD ((gs.getD i g0).b.toNat) lb0)] : List LbT)) H63 rfl h1 sli92 zer38 rfl byt38 (H63.rd (k := 0) rfl hS61) rfl (by rw [eS_len]) rfl (by rfl) (by omega) ?_
   intro key65 c66 sp67 w69 hS68 hne71 H70
   have H70' := H70.as (L' := [((some b60), sob ELb 38 ([lx la (((eS lhash first gs tb ls i).1).getD ((gs.getD i g0).b.toNat) lb0)] : List LbT) ([])), (some b42, lO (lx la (((eS lhash first gs tb ls i).1).getD ((gs.getD i g0).b.toNat) lb0))), (some b35, .cells #[i64 (((gs).getD i g0).k), i64 (((gs).getD i g0).a), i64 (((gs).getD i g0).b)] 99 (0, 0)), (key65, sob ELb 38 (((eS lhash first gs tb ls i).1) ++ ([lx la (((eS lhash first gs tb ls i).1).getD ((gs.getD i g0).b.toNat) lb0)] : List LbT)) sp67), (some b1, .cells #[i64 (ls.length : Nat), .slice ga gs.length gc, .slice oa ol.length oc] 70 (0, 0)), (some b13, .cells (cel E8 (AesSpec.cipher AesSpec.fixKey)).toArray 215 (0, 0))]) rfl
   clear H70
   have e72 : ((eS lhash first gs tb ls i).1) ++ ([lx la (((eS lhash first gs tb ls i).1).getD ((gs.getD i g0).b.toNat) lb0)] : List LbT) = (eS lhash first gs tb ls (i + 1)).1 := by rw [eS, estep, if_pos hk, hla]
   have hS73 := hS68
   rw [e72] at hS73
   have H74 := H70'.as (L' := [((some b60), sob ELb 38 ([lx la (((eS lhash first gs tb ls i).1).getD ((gs.getD i g0).b.toNat) lb0)] : List LbT) ([])), (some b42, lO (lx la (((eS lhash first gs tb ls i).1).getD ((gs.getD i g0).b.toNat) lb0))), (some b35, .cells #[i64 (((gs).getD i g0).k), i64 (((gs).getD i g0).a), i64 (((gs).getD i g0).b)] 99 (0, 0)), (key65, sob ELb 38 ((eS lhash first gs tb ls (i + 1)).1) sp67), (some b1, .cells #[i64 (ls.length : Nat), .slice ga gs.length gc, .slice oa ol.length oc] 70 (0, 0)), (some b13, .cells (cel E8 (AesSpec.cipher AesSpec.fixKey)).toArray 215 (0, 0))]) (by rw [e72])
   refine sA (.slice (ownA key65) ((ls.length + i) + 1) c66) rfl ?_
   refine wnil ?_
   refine blockNormal ?_
   refine thenNormal ?_
   refine oneRegion ?_
   refine sq (r_addI (a := (i : Nat)) (b := (1 : Int)) rfl rfl (by omega)) ?_
   refine sM (i64 ((i : Nat) + (1 : Int))) rfl ?_
   refine wnil ?_
   refine thenNormal ?_
   exact ⟨(i + 1, key65, c66, sp67, (eS lhash first gs tb ls i).2), _, rfl, ⟨rfl, rfl, rfl, rfl, rfl, rfl, rfl, rfl, rfl, trivial⟩, ⟨⟨by omega, hS73, by rw [eS, estep, if_pos hk]⟩, (((H74.dropk 2).dropk 1).dropk 0)⟩, by show gs.length - (i + 1) < gs.length - i; omega⟩
  ·skip
   have hn1 := hk1
   refine sR ?_
   refine sq (r_eqlI (a := ((gs).getD i g0).k) (b := (2 : Int)) rfl rfl) ?_
   refine sA (.bool (decide ((((gs).getD i g0).k : Int) = (2 : Int)))) rfl ?_
   refine wend ?_
   refine condProp ((((gs).getD i g0).k : Int) = (2 : Int)) rfl (fun hk2 => ?_) (fun hk2 => ?_)
   ·skip
    have hk := hk2
    have han := andsS_step gs i (by omega) hk
    refine sR ?_
    refine sM (.slice (ownA k1) (ls.length + i) c1) rfl ?_
    refine sq (r_fieldAddr (off' := 2) fld99_2 (by decide) (b := b35) (off := 0) rfl (by omega)) ?_
    refine sq (r_loadC (v := i64 (((gs).getD i g0).b)) one3 (H47'.get (k := 1) rfl) (off := 2) rfl (by rfl)) ?_
    refine sq (r_idxS (E := ELb) (l := (eS lhash first gs tb ls i).1) (j := (gs.getD i g0).b.toNat) sli92 (H47'.rd (k := 2) rfl h1) rfl rfl (by omega) (by rw [eS_len]) (by omega)) ?_
    refine sq ((r_ldS (E := ELb) (l := (eS lhash first gs tb ls i).1) (j := (gs.getD i g0).b.toNat) (v := ((eS lhash first gs tb ls i).1).getD ((gs.getD i g0).b.toNat) lb0) fits38 (H47'.rd (k := 2) rfl h1) rfl rfl (at_getD (by omega))).as (v' := .agg (cel E64 [(((eS lhash first gs tb ls i).1).getD ((gs.getD i g0).b.toNat) lb0).1, (((eS lhash first gs tb ls i).1).getD ((gs.getD i g0).b.toNat) lb0).2]).toArray) rfl) ?_
    refine q_alloc (o := .cells (cel E64 ([0#64, 0#64])).toArray 38 (0, 0)) H47' zer38 (by kernel_rfl) ?_
    intro b75 w76 hb75 H77 hE78
    refine d_store (k := 0) (v := .agg (cel E64 [(((eS lhash first gs tb ls i).1).getD ((gs.getD i g0).b.toNat) lb0).1, (((eS lhash first gs tb ls i).1).getD ((gs.getD i g0).b.toNat) lb0).2]).toArray) (cs' := (cel E64 ([(((eS lhash first gs tb ls i).1).getD ((gs.getD i g0).b.toNat) lb0).1, (((eS lhash first gs tb ls i).1).getD ((gs.getD i g0).b.toNat) lb0).2])).toArray) H77 rfl rfl rfl siz38 (by exact celSize (by first | rfl | (show _ * 1 = _; omega))) (by exact celOne _) (by rw [List.size_toArray, cel_length]; show _ ≤ _ * 1; first | omega | (simp only [List.length_set]; omega) | exact bLe rfl | (simp <;> omega)) (by exact putAll (by first | rfl | omega | (simp <;> omega))) ?_
    intro w79 H80 hC81
    have H80' := H80.as (L' := [(some b75, lO (((eS lhash first gs tb ls i).1).getD ((gs.getD i g0).b.toNat) lb0)), (some b42, lO (la)), (some b35, .cells #[i64 (((gs).getD i g0).k), i64 (((gs).getD i g0).a), i64 (((gs).getD i g0).b)] 99 (0, 0)), (k1, sob ELb 38 ((eS lhash first gs tb ls i).1) z1), (some b1, .cells #[i64 (ls.length : Nat), .slice ga gs.length gc, .slice oa ol.length oc] 70 (0, 0)), (some b13, .cells (cel E8 (AesSpec.cipher AesSpec.fixKey)).toArray 215 (0, 0))]) rfl
    clear H80
    obtain ⟨lb, hlb⟩ : ∃ x : Lb, x = (((eS lhash first gs tb ls i).1).getD (gs.getD i g0).b.toNat lb0) := ⟨_, rfl⟩
    rw [← hlb] at H80' ⊢
    refine wend ?_
    refine sR ?_
    refine sM (u64 (first)) rfl ?_
    refine sM (i64 (((eS lhash first gs tb ls i).2 : Nat))) rfl ?_
    refine sq (r_Ito64 und3 und32 (a := ((eS lhash first gs tb ls i).2 : Nat)) rfl) ?_
    refine sq (r_add64 (a := first) (b := BitVec.ofInt 64 ((eS lhash first gs tb ls i).2 : Nat)) rfl rfl) ?_
    refine sA (u64 (first + (BitVec.ofInt 64 ((eS lhash first gs tb ls i).2 : Nat)))) rfl ?_
    obtain ⟨sv, hsv⟩ : ∃ x : BitVec 64, x = first + (BitVec.ofInt 64 ((eS lhash first gs tb ls i).2 : Nat)) := ⟨_, rfl⟩
    rw [← hsv]
    refine wend ?_
    refine seqAny ?_
    refine drawE (m := 13) [0, 0, 3, 7, 0, 0, 32, 112, 240, 0, 0, 1551, 4095] [9, 10, 11, 12] (fun bs vs w' => match bs, vs with | [false, false, false, false], [_, _, _, _] => Hp No w w' [(some b75, lO (lb)), (some b42, lO (la)), (some b35, .cells #[i64 (((gs).getD i g0).k), i64 (((gs).getD i g0).a), i64 (((gs).getD i g0).b)] 99 (0, 0)), (k1, sob ELb 38 ((eS lhash first gs tb ls i).1) z1), (some b1, .cells #[i64 (ls.length : Nat), .slice ga gs.length gc, .slice oa ol.length oc] 70 (0, 0)), (some b13, .cells (cel E8 (AesSpec.cipher AesSpec.fixKey)).toArray 215 (0, 0))] | [true, false, false, false], [v9, _, _, _] => ∃ (b83 : Nat), v9 = pT b83 ∧ Hp No w w' [(some b83, .cells (cel E64 ([0#64, 0#64])).toArray 38 (0, 0)), (some b75, lO (lb)), (some b42, lO (la)), (some b35, .cells #[i64 (((gs).getD i g0).k), i64 (((gs).getD i g0).a), i64 (((gs).getD i g0).b)] 99 (0, 0)), (k1, sob ELb 38 ((eS lhash first gs tb ls i).1) z1), (some b1, .cells #[i64 (ls.length : Nat), .slice ga gs.length gc, .slice oa ol.length oc] 70 (0, 0)), (some b13, .cells (cel E8 (AesSpec.cipher AesSpec.fixKey)).toArray 215 (0, 0))] | [false, true, false, false], [_, v10, _, _] => ∃ (b88 : Nat), v10 = pT b88 ∧ Hp No w w' [(some b88, .cells (cel E64 ([0#64, 0#64])).toArray 38 (0, 0)), (some b75, lO (lb)), (some b42, lO (la)), (some b35, .cells #[i64 (((gs).getD i g0).k), i64 (((gs).getD i g0).a), i64 (((gs).getD i g0).b)] 99 (0, 0)), (k1, sob ELb 38 ((eS lhash first gs tb ls i).1) z1), (some b1, .cells #[i64 (ls.length : Nat), .slice ga gs.length gc, .slice oa ol.length oc] 70 (0, 0)), (some b13, .cells (cel E8 (AesSpec.cipher AesSpec.fixKey)).toArray 215 (0, 0))] | [true, true, false, false], [v9, v10, _, _] => ∃ (b83 : Nat) (b93 : Nat), v9 = pT b83 ∧ v10 = pT b93 ∧ Hp No w w' [(some b93, .cells (cel E64 ([0#64, 0#64])).toArray 38 (0, 0)), (some b83, .cells (cel E64 ([0#64, 0#64])).toArray 38 (0, 0)), (some b75, lO (lb)), (some b42, lO (la)), (some b35, .cells #[i64 (((gs).getD i g0).k), i64 (((gs).getD i g0).a), i64 (((gs).getD i g0).b)] 99 (0, 0)), (k1, sob ELb 38 ((eS lhash first gs tb ls i).1) z1), (some b1, .cells #[i64 (ls.length : Nat), .slice ga gs.length gc, .slice oa ol.length oc] 70 (0, 0)), (some b13, .cells (cel E8 (AesSpec.cipher AesSpec.fixKey)).toArray 215 (0, 0))] | [true, true, true, false], [v9, v10, _, _] => ∃ (b83 : Nat) (b93 : Nat), v9 = pT b83 ∧ v10 = pT b93 ∧ Hp No w w' [(some b93, .cells (cel E64 ([0#64, 0#64])).toArray 38 (0, 0)), (some b83, lO ((tb).getD ((eS lhash first gs tb ls i).2) lb0)), (some b75, lO (lb)), (some b42, lO (la)), (some b35, .cells #[i64 (((gs).getD i g0).k), i64 (((gs).getD i g0).a), i64 (((gs).getD i g0).b)] 99 (0, 0)), (k1, sob ELb 38 ((eS lhash first gs tb ls i).1) z1), (some b1, .cells #[i64 (ls.length : Nat), .slice ga gs.length gc, .slice oa ol.length oc] 70 (0, 0)), (some b13, .cells (cel E8 (AesSpec.cipher AesSpec.fixKey)).toArray 215 (0, 0))] | [true, true, true, true], [v9, v10, _, _] => ∃ (b83 : Nat) (b93 : Nat), v9 = pT b83 ∧ v10 = pT b93 ∧ Hp No w w' [(some b93, lO ((tb).getD ((eS lhash first gs tb ls i).2 + 1) lb0)), (some b83, lO ((tb).getD ((eS lhash first gs tb ls i).2) lb0)), (some b75, lO (lb)), (some b42, lO (la)), (some b35, .cells #[i64 (((gs).getD i g0).k), i64 (((gs).getD i g0).a), i64 (((gs).getD i g0).b)] 99 (0, 0)), (k1, sob ELb 38 ((eS lhash first gs tb ls i).1) z1), (some b1, .cells #[i64 (ls.length : Nat), .slice ga gs.length gc, .slice oa ol.length oc] 70 (0, 0)), (some b13, .cells (cel E8 (AesSpec.cipher AesSpec.fixKey)).toArray 215 (0, 0))] | _, _ => False) mixed (by kernel_rfl) (by kernel_rfl) H80'.drew ?_
    refine WalkE.look rfl (fun _ => .slice tsa tb.length tsc) (fun _ _ _ => rfl) (fun L r _ uw _ _ _ _ => Gives.run rfl (r_move (v := .slice tsa tb.length tsc) rfl) ⟨rfl, rfl⟩) ?_
    refine WalkE.look rfl (fun _ => i64 (((eS lhash first gs tb ls i).2 : Nat))) (fun _ _ _ => rfl) (fun L r _ uw _ _ _ _ => Gives.run rfl (r_move (v := i64 (((eS lhash first gs tb ls i).2 : Nat))) rfl) ⟨rfl, rfl⟩) ?_
    refine WalkE.look rfl (fun _ => .pointer (adr tsa (((eS lhash first gs tb ls i).2) * 2))) (fun _ _ _ => rfl) (fun L r uw0 uw hAn hDn hF hEx => ?_) ?_
    ·skip
     have b11 := hDn 11 (by decide) rfl
     have b12 := hDn 12 (by decide) rfl
     rcases bTF (L 9) with b9 | b9
     ·skip
      rcases bTF (L 10) with b10 | b10
      ·skip
       have hb := mp4 b9 b10 b11 b12
       rw [hb] at hF
       obtain ⟨b83, b93, e9, e10, HH⟩ := hF
       replace HH := HH.ext hEx
       exact Gives.run rfl (r_idxS (E := ELb) (l := tb) (j := (eS lhash first gs tb ls i).2) sli92 (hTb.ext HH.chg) rfl rfl (by first | rfl | omega | (simp; omega)) (by rfl) (by omega)) ⟨rfl, rfl⟩
      ·skip
       have hb := mp4 b9 b10 b11 b12
       rw [hb] at hF
       obtain ⟨b83, e9, HH⟩ := hF
       replace HH := HH.ext hEx
       exact Gives.run rfl (r_idxS (E := ELb) (l := tb) (j := (eS lhash first gs tb ls i).2) sli92 (hTb.ext HH.chg) rfl rfl (by first | rfl | omega | (simp; omega)) (by rfl) (by omega)) ⟨rfl, rfl⟩
     ·skip
      rcases bTF (L 10) with b10 | b10
      ·skip
       have hb := mp4 b9 b10 b11 b12
       rw [hb] at hF
       obtain ⟨b88, e10, HH⟩ := hF
       replace HH := HH.ext hEx
       exact Gives.run rfl (r_idxS (E := ELb) (l := tb) (j := (eS lhash first gs tb ls i).2) sli92 (hTb.ext HH.chg) rfl rfl (by first | rfl | omega | (simp; omega)) (by rfl) (by omega)) ⟨rfl, rfl⟩
      ·skip
       have hb := mp4 b9 b10 b11 b12
       rw [hb] at hF
       have HH := hF
       replace HH := HH.ext hEx
       exact Gives.run rfl (r_idxS (E := ELb) (l := tb) (j := (eS lhash first gs tb ls i).2) sli92 (hTb.ext HH.chg) rfl rfl (by first | rfl | omega | (simp; omega)) (by rfl) (by omega)) ⟨rfl, rfl⟩
    refine WalkE.look rfl (fun _ => .agg (cel E64 [((tb).getD ((eS lhash first gs tb ls i).2) lb0).1, ((tb).getD ((eS lhash first gs tb ls i).2) lb0).2]).toArray) (fun _ _ _ => rfl) (fun L r uw0 uw hAn hDn hF hEx => ?_) ?_
    ·skip
     have b11 := hDn 11 (by decide) rfl
     have b12 := hDn 12 (by decide) rfl
     rcases bTF (L 9) with b9 | b9
     ·skip
      rcases bTF (L 10) with b10 | b10
      ·skip
       have hb := mp4 b9 b10 b11 b12
       rw [hb] at hF
       obtain ⟨b83, b93, e9, e10, HH⟩ := hF
       replace HH := HH.ext hEx
       exact Gives.run rfl ((r_ldS (E := ELb) (l := tb) (j := (eS lhash first gs tb ls i).2) (v := (tb).getD ((eS lhash first gs tb ls i).2) lb0) fits38 (hTb.ext HH.chg) rfl rfl (at_getD (by omega))).as (v' := .agg (cel E64 [((tb).getD ((eS lhash first gs tb ls i).2) lb0).1, ((tb).getD ((eS lhash first gs tb ls i).2) lb0).2]).toArray) rfl) ⟨rfl, rfl⟩
      ·skip
       have hb := mp4 b9 b10 b11 b12
       rw [hb] at hF
       obtain ⟨b83, e9, HH⟩ := hF
       replace HH := HH.ext hEx
       exact Gives.run rfl ((r_ldS (E := ELb) (l := tb) (j := (eS lhash first gs tb ls i).2) (v := (tb).getD ((eS lhash first gs tb ls i).2) lb0) fits38 (hTb.ext HH.chg) rfl rfl (at_getD (by omega))).as (v' := .agg (cel E64 [((tb).getD ((eS lhash first gs tb ls i).2) lb0).1, ((tb).getD ((eS lhash first gs tb ls i).2) lb0).2]).toArray) rfl) ⟨rfl, rfl⟩
     ·skip
      rcases bTF (L 10) with b10 | b10
      ·skip
       have hb := mp4 b9 b10 b11 b12
       rw [hb] at hF
       obtain ⟨b88, e10, HH⟩ := hF
       replace HH := HH.ext hEx
       exact Gives.run rfl ((r_ldS (E := ELb) (l := tb) (j := (eS lhash first gs tb ls i).2) (v := (tb).getD ((eS lhash first gs tb ls i).2) lb0) fits38 (hTb.ext HH.chg) rfl rfl (at_getD (by omega))).as (v' := .agg (cel E64 [((tb).getD ((eS lhash first gs tb ls i).2) lb0).1, ((tb).getD ((eS lhash first gs tb ls i).2) lb0).2]).toArray) rfl) ⟨rfl, rfl⟩
      ·skip
       have hb := mp4 b9 b10 b11 b12
       rw [hb] at hF
       have HH := hF
       replace HH := HH.ext hEx
       exact Gives.run rfl ((r_ldS (E := ELb) (l := tb) (j := (eS lhash first gs tb ls i).2) (v := (tb).getD ((eS lhash first gs tb ls i).2) lb0) fits38 (hTb.ext HH.chg) rfl rfl (at_getD (by omega))).as (v' := .agg (cel E64 [((tb).getD ((eS lhash first gs tb ls i).2) lb0).1, ((tb).getD ((eS lhash first gs tb ls i).2) lb0).2]).toArray) rfl) ⟨rfl, rfl⟩
    refine WalkE.look rfl (fun _ => .slice tsa tb.length tsc) (fun _ _ _ => rfl) (fun L r _ uw _ _ _ _ => Gives.run rfl (r_move (v := .slice tsa tb.length tsc) rfl) ⟨rfl, rfl⟩) ?_
    refine WalkE.look rfl (fun _ => i64 (((eS lhash first gs tb ls i).2 : Nat))) (fun _ _ _ => rfl) (fun L r _ uw _ _ _ _ => Gives.run rfl (r_move (v := i64 (((eS lhash first gs tb ls i).2 : Nat))) rfl) ⟨rfl, rfl⟩) ?_
    refine WalkE.look rfl (fun _ => i64 ((((eS lhash first gs tb ls i).2 + 1) : Nat))) (fun _ _ _ => rfl) (fun L r _ uw _ _ _ _ => Gives.run rfl ((r_addI (a := ((eS lhash first gs tb ls i).2 : Nat)) (b := (1 : Int)) rfl rfl (by omega)).as (v' := i64 ((((eS lhash first gs tb ls i).2 + 1) : Nat))) (by rfl)) ⟨rfl, rfl⟩) ?_
    refine WalkE.look rfl (fun _ => .pointer (adr tsa (((eS lhash first gs tb ls i).2 + 1) * 2))) (fun _ _ _ => rfl) (fun L r uw0 uw hAn hDn hF hEx => ?_) ?_
    ·skip
     have b12 := hDn 12 (by decide) rfl
     rcases bTF (L 9) with b9 | b9
     ·skip
      rcases bTF (L 10) with b10 | b10
      ·skip
       rcases bTF (L 11) with b11 | b11
       ·skip
        have hb := mp4 b9 b10 b11 b12
        rw [hb] at hF
        obtain ⟨b83, b93, e9, e10, HH⟩ := hF
        replace HH := HH.ext hEx
        exact Gives.run rfl (r_idxS (E := ELb) (l := tb) (j := ((eS lhash first gs tb ls i).2 + 1)) sli92 (hTb.ext HH.chg) rfl rfl (by first | rfl | omega | (simp; omega)) (by rfl) (by omega)) ⟨rfl, rfl⟩
       ·skip
        have hb := mp4 b9 b10 b11 b12
        rw [hb] at hF
        obtain ⟨b83, b93, e9, e10, HH⟩ := hF
        replace HH := HH.ext hEx
        exact Gives.run rfl (r_idxS (E := ELb) (l := tb) (j := ((eS lhash first gs tb ls i).2 + 1)) sli92 (hTb.ext HH.chg) rfl rfl (by first | rfl | omega | (simp; omega)) (by rfl) (by omega)) ⟨rfl, rfl⟩
      ·skip
       rcases bTF (L 11) with b11 | b11
       ·skip
        have hb := mp4 b9 b10 b11 b12
        rw [hb] at hF
        exact False.elim hF
       ·skip
        have hb := mp4 b9 b10 b11 b12
        rw [hb] at hF
        obtain ⟨b83, e9, HH⟩ := hF
        replace HH := HH.ext hEx
        exact Gives.run rfl (r_idxS (E := ELb) (l := tb) (j := ((eS lhash first gs tb ls i).2 + 1)) sli92 (hTb.ext HH.chg) rfl rfl (by first | rfl | omega | (simp; omega)) (by rfl) (by omega)) ⟨rfl, rfl⟩
     ·skip
      rcases bTF (L 10) with b10 | b10
      ·skip
       rcases bTF (L 11) with b11 | b11
       ·skip
        have hb := mp4 b9 b10 b11 b12
        rw [hb] at hF
        exact False.elim hF
       ·skip
        have hb := mp4 b9 b10 b11 b12
        rw [hb] at hF
        obtain ⟨b88, e10, HH⟩ := hF
        replace HH := HH.ext hEx
        exact Gives.run rfl (r_idxS (E := ELb) (l := tb) (j := ((eS lhash first gs tb ls i).2 + 1)) sli92 (hTb.ext HH.chg) rfl rfl (by first | rfl | omega | (simp; omega)) (by rfl) (by omega)) ⟨rfl, rfl⟩
      ·skip
       rcases bTF (L 11) with b11 | b11
       ·skip
        have hb := mp4 b9 b10 b11 b12
        rw [hb] at hF
        exact False.elim hF
       ·skip
        have hb := mp4 b9 b10 b11 b12
        rw [hb] at hF
        have HH := hF
        replace HH := HH.ext hEx
        exact Gives.run rfl (r_idxS (E := ELb) (l := tb) (j := ((eS lhash first gs tb ls i).2 + 1)) sli92 (hTb.ext HH.chg) rfl rfl (by first | rfl | omega | (simp; omega)) (by rfl) (by omega)) ⟨rfl, rfl⟩
    refine WalkE.look rfl (fun _ => .agg (cel E64 [((tb).getD ((eS lhash first gs tb ls i).2 + 1) lb0).1, ((tb).getD ((eS lhash first gs tb ls i).2 + 1) lb0).2]).toArray) (fun _ _ _ => rfl) (fun L r uw0 uw hAn hDn hF hEx => ?_) ?_
    ·skip
     have b12 := hDn 12 (by decide) rfl
     rcases bTF (L 9) with b9 | b9
     ·skip
      rcases bTF (L 10) with b10 | b10
      ·skip
       rcases bTF (L 11) with b11 | b11
       ·skip
        have hb := mp4 b9 b10 b11 b12
        rw [hb] at hF
        obtain ⟨b83, b93, e9, e10, HH⟩ := hF
        replace HH := HH.ext hEx
        exact Gives.run rfl ((r_ldS (E := ELb) (l := tb) (j := ((eS lhash first gs tb ls i).2 + 1)) (v := (tb).getD ((eS lhash first gs tb ls i).2 + 1) lb0) fits38 (hTb.ext HH.chg) rfl rfl (at_getD (by omega))).as (v' := .agg (cel E64 [((tb).getD ((eS lhash first gs tb ls i).2 + 1) lb0).1, ((tb).getD ((eS lhash first gs tb ls i).2 + 1) lb0).2]).toArray) rfl) ⟨rfl, rfl⟩
       ·skip
        have hb := mp4 b9 b10 b11 b12
        rw [hb] at hF
        obtain ⟨b83, b93, e9, e10, HH⟩ := hF
        replace HH := HH.ext hEx
        exact Gives.run rfl ((r_ldS (E := ELb) (l := tb) (j := ((eS lhash first gs tb ls i).2 + 1)) (v := (tb).getD ((eS lhash first gs tb ls i).2 + 1) lb0) fits38 (hTb.ext HH.chg) rfl rfl (at_getD (by omega))).as (v' := .agg (cel E64 [((tb).getD ((eS lhash first gs tb ls i).2 + 1) lb0).1, ((tb).getD ((eS lhash first gs tb ls i).2 + 1) lb0).2]).toArray) rfl) ⟨rfl, rfl⟩
      ·skip
       rcases bTF (L 11) with b11 | b11
       ·skip
        have hb := mp4 b9 b10 b11 b12
        rw [hb] at hF
        exact False.elim hF
       ·skip
        have hb := mp4 b9 b10 b11 b12
        rw [hb] at hF
        obtain ⟨b83, e9, HH⟩ := hF
        replace HH := HH.ext hEx
        exact Gives.run rfl ((r_ldS (E := ELb) (l := tb) (j := ((eS lhash first gs tb ls i).2 + 1)) (v := (tb).getD ((eS lhash first gs tb ls i).2 + 1) lb0) fits38 (hTb.ext HH.chg) rfl rfl (at_getD (by omega))).as (v' := .agg (cel E64 [((tb).getD ((eS lhash first gs tb ls i).2 + 1) lb0).1, ((tb).getD ((eS lhash first gs tb ls i).2 + 1) lb0).2]).toArray) rfl) ⟨rfl, rfl⟩
     ·skip
      rcases bTF (L 10) with b10 | b10
      ·skip
       rcases bTF (L 11) with b11 | b11
       ·skip
        have hb := mp4 b9 b10 b11 b12
        rw [hb] at hF
        exact False.elim hF
       ·skip
        have hb := mp4 b9 b10 b11 b12
        rw [hb] at hF
        obtain ⟨b88, e10, HH⟩ := hF
        replace HH := HH.ext hEx
        exact Gives.run rfl ((r_ldS (E := ELb) (l := tb) (j := ((eS lhash first gs tb ls i).2 + 1)) (v := (tb).getD ((eS lhash first gs tb ls i).2 + 1) lb0) fits38 (hTb.ext HH.chg) rfl rfl (at_getD (by omega))).as (v' := .agg (cel E64 [((tb).getD ((eS lhash first gs tb ls i).2 + 1) lb0).1, ((tb).getD ((eS lhash first gs tb ls i).2 + 1) lb0).2]).toArray) rfl) ⟨rfl, rfl⟩
      ·skip
       rcases bTF (L 11) with b11 | b11
       ·skip
        have hb := mp4 b9 b10 b11 b12
        rw [hb] at hF
        exact False.elim hF
       ·skip
        have hb := mp4 b9 b10 b11 b12
        rw [hb] at hF
        have HH := hF
        replace HH := HH.ext hEx
        exact Gives.run rfl ((r_ldS (E := ELb) (l := tb) (j := ((eS lhash first gs tb ls i).2 + 1)) (v := (tb).getD ((eS lhash first gs tb ls i).2 + 1) lb0) fits38 (hTb.ext HH.chg) rfl rfl (at_getD (by omega))).as (v' := .agg (cel E64 [((tb).getD ((eS lhash first gs tb ls i).2 + 1) lb0).1, ((tb).getD ((eS lhash first gs tb ls i).2 + 1) lb0).2]).toArray) rfl) ⟨rfl, rfl⟩
    refine WalkE.eff 0 rfl (fun L r uw0 uw hLn hAn hDn hF hEx => ?_) ?_
    ·skip
     have b9 : L 9 = false := hLn
     have b11 := hDn 11 (by decide) rfl
     have b12 := hDn 12 (by decide) rfl
     rcases bTF (L 10) with b10 | b10
     ·skip
      have hb := mp4 b9 b10 b11 b12
      rw [hb] at hF ⊢
      obtain ⟨b88, e10, H105⟩ := hF
      replace H105 := H105.ext hEx
      dsimp only
      refine Gives.ofW (d := 19) rfl rfl (fun Q' hK => ?_)
      refine q_alloc (o := .cells (cel E64 ([0#64, 0#64])).toArray 38 (0, 0)) H105 zer38 (by kernel_rfl) ?_
      intro b106 w107 hb106 H108 hE109
      exact hK _ _ (show ∃ (b83 : Nat) (b93 : Nat), (_ : Value) = pT b83 ∧ r 10 = pT b93 ∧ Hp No w w107 [(some b93, .cells (cel E64 ([0#64, 0#64])).toArray 38 (0, 0)), (some b83, .cells (cel E64 ([0#64, 0#64])).toArray 38 (0, 0)), (some b75, lO (lb)), (some b42, lO (la)), (some b35, .cells #[i64 (((gs).getD i g0).k), i64 (((gs).getD i g0).a), i64 (((gs).getD i g0).b)] 99 (0, 0)), (k1, sob ELb 38 ((eS lhash first gs tb ls i).1) z1), (some b1, .cells #[i64 (ls.length : Nat), .slice ga gs.length gc, .slice oa ol.length oc] 70 (0, 0)), (some b13, .cells (cel E8 (AesSpec.cipher AesSpec.fixKey)).toArray 215 (0, 0))] from ⟨b106, b88, rfl, e10, ((((((((H108.pull (k := 7) rfl).pull (k := 7) rfl).pull (k := 7) rfl).pull (k := 7) rfl).pull (k := 7) rfl).pull (k := 7) rfl).pull (k := 6) rfl).pull (k := 7) rfl)⟩)
     ·skip
      have hb := mp4 b9 b10 b11 b12
      rw [hb] at hF ⊢
      have H110 := hF
      replace H110 := H110.ext hEx
      dsimp only
      refine Gives.ofW (d := 19) rfl rfl (fun Q' hK => ?_)
      refine q_alloc (o := .cells (cel E64 ([0#64, 0#64])).toArray 38 (0, 0)) H110 zer38 (by kernel_rfl) ?_
      intro b111 w112 hb111 H113 hE114
      exact hK _ _ (show ∃ (b83 : Nat), (_ : Value) = pT b83 ∧ Hp No w w112 [(some b83, .cells (cel E64 ([0#64, 0#64])).toArray 38 (0, 0)), (some b75, lO (lb)), (some b42, lO (la)), (some b35, .cells #[i64 (((gs).getD i g0).k), i64 (((gs).getD i g0).a), i64 (((gs).getD i g0).b)] 99 (0, 0)), (k1, sob ELb 38 ((eS lhash first gs tb ls i).1) z1), (some b1, .cells #[i64 (ls.length : Nat), .slice ga gs.length gc, .slice oa ol.length oc] 70 (0, 0)), (some b13, .cells (cel E8 (AesSpec.cipher AesSpec.fixKey)).toArray 215 (0, 0))] from ⟨b111, rfl, (((((((H113.pull (k := 6) rfl).pull (k := 6) rfl).pull (k := 6) rfl).pull (k := 6) rfl).pull (k := 6) rfl).pull (k := 6) rfl).pull (k := 6) rfl)⟩)
    refine WalkE.eff 1 rfl (fun L r uw0 uw hLn hAn hDn hF hEx => ?_) ?_
    ·skip
     have b10 : L 10 = false := hLn
     have b11 := hDn 11 (by decide) rfl
     have b12 := hDn 12 (by decide) rfl
     rcases bTF (L 9) with b9 | b9
     ·skip
      have hb := mp4 b9 b10 b11 b12
      rw [hb] at hF ⊢
      obtain ⟨b83, e9, H115⟩ := hF
      replace H115 := H115.ext hEx
      dsimp only
      rw [e9]
      refine Gives.ofW (d := 20) rfl rfl (fun Q' hK => ?_)
      refine q_alloc (o := .cells (cel E64 ([0#64, 0#64])).toArray 38 (0, 0)) H115 zer38 (by kernel_rfl) ?_
      intro b116 w117 hb116 H118 hE119
      exact hK _ _ (show ∃ (b83 : Nat) (b93 : Nat), r 9 = pT b83 ∧ (_ : Value) = pT b93 ∧ Hp No w w117 [(some b93, .cells (cel E64 ([0#64, 0#64])).toArray 38 (0, 0)), (some b83, .cells (cel E64 ([0#64, 0#64])).toArray 38 (0, 0)), (some b75, lO (lb)), (some b42, lO (la)), (some b35, .cells #[i64 (((gs).getD i g0).k), i64 (((gs).getD i g0).a), i64 (((gs).getD i g0).b)] 99 (0, 0)), (k1, sob ELb 38 ((eS lhash first gs tb ls i).1) z1), (some b1, .cells #[i64 (ls.length : Nat), .slice ga gs.length gc, .slice oa ol.length oc] 70 (0, 0)), (some b13, .cells (cel E8 (AesSpec.cipher AesSpec.fixKey)).toArray 215 (0, 0))] from ⟨b83, b116, e9, rfl, ((((((((H118.pull (k := 7) rfl).pull (k := 7) rfl).pull (k := 7) rfl).pull (k := 7) rfl).pull (k := 7) rfl).pull (k := 7) rfl).pull (k := 7) rfl).pull (k := 7) rfl)⟩)
     ·skip
      have hb := mp4 b9 b10 b11 b12
      rw [hb] at hF ⊢
      have H120 := hF
      replace H120 := H120.ext hEx
      dsimp only
      refine Gives.ofW (d := 20) rfl rfl (fun Q' hK => ?_)
      refine q_alloc (o := .cells (cel E64 ([0#64, 0#64])).toArray 38 (0, 0)) H120 zer38 (by kernel_rfl) ?_
      intro b121 w122 hb121 H123 hE124
      exact hK _ _ (show ∃ (b88 : Nat), (_ : Value) = pT b88 ∧ Hp No w w122 [(some b88, .cells (cel E64 ([0#64, 0#64])).toArray 38 (0, 0)), (some b75, lO (lb)), (some b42, lO (la)), (some b35, .cells #[i64 (((gs).getD i g0).k), i64 (((gs).getD i g0).a), i64 (((gs).getD i g0).b)] 99 (0, 0)), (k1, sob ELb 38 ((eS lhash first gs tb ls i).1) z1), (some b1, .cells #[i64 (ls.length : Nat), .slice ga gs.length gc, .slice oa ol.length oc] 70 (0, 0)), (some b13, .cells (cel E8 (AesSpec.cipher AesSpec.fixKey)).toArray 215 (0, 0))] from ⟨b121, rfl, (((((((H123.pull (k := 6) rfl).pull (k := 6) rfl).pull (k := 6) rfl).pull (k := 6) rfl).pull (k := 6) rfl).pull (k := 6) rfl).pull (k := 6) rfl)⟩)
    refine WalkE.eff 2 rfl (fun L r uw0 uw hLn hAn hDn hF hEx => ?_) ?_
    ·skip
     have b9 := hAn 9 (by decide) rfl
     have b10 := hAn 10 (by decide) rfl
     have b11 : L 11 = false := hLn
     have b12 := hDn 12 (by decide) rfl
     have hb := mp4 b9 b10 b11 b12
     rw [hb] at hF ⊢
     obtain ⟨b83, b93, e9, e10, H125⟩ := hF
     replace H125 := H125.ext hEx
     dsimp only
     rw [e9, e10]
     refine Gives.ofW0 rfl (fun Q' hK => ?_)
     refine d_store (k := 1) (v := .agg (cel E64 [((tb).getD ((eS lhash first gs tb ls i).2) lb0).1, ((tb).getD ((eS lhash first gs tb ls i).2) lb0).2]).toArray) (cs' := (cel E64 ([((tb).getD ((eS lhash first gs tb ls i).2) lb0).1, ((tb).getD ((eS lhash first gs tb ls i).2) lb0).2])).toArray) H125 rfl rfl rfl siz38 (by exact celSize (by first | rfl | (show _ * 1 = _; omega))) (by exact celOne _) (by rw [List.size_toArray, cel_length]; show _ ≤ _ * 1; first | omega | (simp only [List.length_set]; omega) | exact bLe rfl | (simp <;> omega)) (by exact putAll (by first | rfl | omega | (simp <;> omega))) ?_
     intro w126 H127 hC128
     have H127' := H127.as (L' := [(some b93, .cells (cel E64 ([0#64, 0#64])).toArray 38 (0, 0)), (some b83, lO ((tb).getD ((eS lhash first gs tb ls i).2) lb0)), (some b75, lO (lb)), (some b42, lO (la)), (some b35, .cells #[i64 (((gs).getD i g0).k), i64 (((gs).getD i g0).a), i64 (((gs).getD i g0).b)] 99 (0, 0)), (k1, sob ELb 38 ((eS lhash first gs tb ls i).1) z1), (some b1, .cells #[i64 (ls.length : Nat), .slice ga gs.length gc, .slice oa ol.length oc] 70 (0, 0)), (some b13, .cells (cel E8 (AesSpec.cipher AesSpec.fixKey)).toArray 215 (0, 0))]) rfl
     clear H127
     exact hK _ (fun _ => (show ∃ (b83 : Nat) (b93 : Nat), r 9 = pT b83 ∧ r 10 = pT b93 ∧ Hp No w w126 [(some b93, .cells (cel E64 ([0#64, 0#64])).toArray 38 (0, 0)), (some b83, lO ((tb).getD ((eS lhash first gs tb ls i).2) lb0)), (some b75, lO (lb)), (some b42, lO (la)), (some b35, .cells #[i64 (((gs).getD i g0).k), i64 (((gs).getD i g0).a), i64 (((gs).getD i g0).b)] 99 (0, 0)), (k1, sob ELb 38 ((eS lhash first gs tb ls i).1) z1), (some b1, .cells #[i64 (ls.length : Nat), .slice ga gs.length gc, .slice oa ol.length oc] 70 (0, 0)), (some b13, .cells (cel E8 (AesSpec.cipher AesSpec.fixKey)).toArray 215 (0, 0))] from ⟨b83, b93, e9, e10, ((((((((H127'.pull (k := 7) rfl).pull (k := 7) rfl).pull (k := 7) rfl).pull (k := 7) rfl).pull (k := 7) rfl).pull (k := 7) rfl).pull (k := 7) rfl).pull (k := 7) rfl)⟩))
    refine WalkE.eff 3 rfl (fun L r uw0 uw hLn hAn hDn hF hEx => ?_) ?_
    ·skip
     have b9 := hAn 9 (by decide) rfl
     have b10 := hAn 10 (by decide) rfl
     have b11 := hAn 11 (by decide) rfl
     have b12 : L 12 = false := hLn
     have hb := mp4 b9 b10 b11 b12
     rw [hb] at hF ⊢
     obtain ⟨b83, b93, e9, e10, H129⟩ := hF
     replace H129 := H129.ext hEx
     dsimp only
     rw [e9, e10]
     refine Gives.ofW0 rfl (fun Q' hK => ?_)
     refine d_store (k := 0) (v := .agg (cel E64 [((tb).getD ((eS lhash first gs tb ls i).2 + 1) lb0).1, ((tb).getD ((eS lhash first gs tb ls i).2 + 1) lb0).2]).toArray) (cs' := (cel E64 ([((tb).getD ((eS lhash first gs tb ls i).2 + 1) lb0).1, ((tb).getD ((eS lhash first gs tb ls i).2 + 1) lb0).2])).toArray) H129 rfl rfl rfl siz38 (by exact celSize (by first | rfl | (show _ * 1 = _; omega))) (by exact celOne _) (by rw [List.size_toArray, cel_length]; show _ ≤ _ * 1; first | omega | (simp only [List.length_set]; omega) | exact bLe rfl | (simp <;> omega)) (by exact putAll (by first | rfl | omega | (simp <;> omega))) ?_
     intro w130 H131 hC132
     have H131' := H131.as (L' := [(some b93, lO ((tb).getD ((eS lhash first gs tb ls i).2 + 1) lb0)), (some b83, lO ((tb).getD ((eS lhash first gs tb ls i).2) lb0)), (some b75, lO (lb)), (some b42, lO (la)), (some b35, .cells #[i64 (((gs).getD i g0).k), i64 (((gs).getD i g0).a), i64 (((gs).getD i g0).b)] 99 (0, 0)), (k1, sob ELb 38 ((eS lhash first gs tb ls i).1) z1), (some b1, .cells #[i64 (ls.length : Nat), .slice ga gs.length gc, .slice oa ol.length oc] 70 (0, 0)), (some b13, .cells (cel E8 (AesSpec.cipher AesSpec.fixKey)).toArray 215 (0, 0))]) rfl
     clear H131
     exact hK _ (fun _ => (show ∃ (b83 : Nat) (b93 : Nat), r 9 = pT b83 ∧ r 10 = pT b93 ∧ Hp No w w130 [(some b93, lO ((tb).getD ((eS lhash first gs tb ls i).2 + 1) lb0)), (some b83, lO ((tb).getD ((eS lhash first gs tb ls i).2) lb0)), (some b75, lO (lb)), (some b42, lO (la)), (some b35, .cells #[i64 (((gs).getD i g0).k), i64 (((gs).getD i g0).a), i64 (((gs).getD i g0).b)] 99 (0, 0)), (k1, sob ELb 38 ((eS lhash first gs tb ls i).1) z1), (some b1, .cells #[i64 (ls.length : Nat), .slice ga gs.length gc, .slice oa ol.length oc] 70 (0, 0)), (some b13, .cells (cel E8 (AesSpec.cipher AesSpec.fixKey)).toArray 215 (0, 0))] from ⟨b83, b93, e9, e10, ((((((((H131'.pull (k := 7) rfl).pull (k := 7) rfl).pull (k := 7) rfl).pull (k := 7) rfl).pull (k := 7) rfl).pull (k := 7) rfl).pull (k := 7) rfl).pull (k := 7) rfl)⟩))
    refine WalkE.nil ?_
    intro r133 uw0 w134 hF hEx
    obtain ⟨b83, b93, e9, e10, H135⟩ := hF
    replace H135 := H135.ext hEx
    dsimp only
    rw [e9, e10]
    refine wnil ?_
    refine thenNormal ?_
    refine sR ?_
    refine sM (i64 (((eS lhash first gs tb ls i).2 : Nat))) rfl ?_
    refine sq ((r_addI (a := ((eS lhash first gs tb ls i).2 : Nat)) (b := (2 : Int)) rfl rfl (by omega)).as (v' := i64 ((((eS lhash first gs tb ls i).2 + 2) : Nat))) (by rfl)) ?_
    refine sA (i64 ((((eS lhash first gs tb ls i).2 + 2) : Nat))) rfl ?_
    refine wend ?_
    refine drawE (m := 22) [0, 0, 0, 7, 0, 31, 0, 127, 0, 0, 0, 1024, 4095, 0, 16383, 0, 0, 131071, 262143, 524287, 1048575, 2097151] [19, 21] (fun bs vs w' => match bs, vs with | [false, false], [_, _] => Hp No w w' [(some b93, lO ((tb).getD ((eS lhash first gs tb ls i).2 + 1) lb0)), (some b83, lO ((tb).getD ((eS lhash first gs tb ls i).2) lb0)), (some b75, lO (lb)), (some b42, lO (la)), (some b35, .cells #[i64 (((gs).getD i g0).k), i64 (((gs).getD i g0).a), i64 (((gs).getD i g0).b)] 99 (0, 0)), (k1, sob ELb 38 ((eS lhash first gs tb ls i).1) z1), (some b1, .cells #[i64 (ls.length : Nat), .slice ga gs.length gc, .slice oa ol.length oc] 70 (0, 0)), (some b13, .cells (cel E8 (AesSpec.cipher AesSpec.fixKey)).toArray 215 (0, 0))] | [true, false], [v19, _] => ∃ (b137 : Nat), v19 = .slice (ownA (some b137)) 4 4 ∧ Sl ELb (some b137) ([lhash la sv, lw (col la) ((tb).getD ((eS lhash first gs tb ls i).2) lb0), lhash lb (sv + (1#64)), lw (col lb) (lx ((tb).getD ((eS lhash first gs tb ls i).2 + 1) lb0) la)] : List LbT) 4 ([]) ∧ Hp No w w' [((some b137), sob ELb 38 ([lhash la sv, lw (col la) ((tb).getD ((eS lhash first gs tb ls i).2) lb0), lhash lb (sv + (1#64)), lw (col lb) (lx ((tb).getD ((eS lhash first gs tb ls i).2 + 1) lb0) la)] : List LbT) ([])), (some b93, lO ((tb).getD ((eS lhash first gs tb ls i).2 + 1) lb0)), (some b83, lO ((tb).getD ((eS lhash first gs tb ls i).2) lb0)), (some b75, lO (lb)), (some b42, lO (la)), (some b35, .cells #[i64 (((gs).getD i g0).k), i64 (((gs).getD i g0).a), i64 (((gs).getD i g0).b)] 99 (0, 0)), (k1, sob ELb 38 ((eS lhash first gs tb ls i).1) z1), (some b1, .cells #[i64 (ls.length : Nat), .slice ga gs.length gc, .slice oa ol.length oc] 70 (0, 0)), (some b13, .cells (cel E8 (AesSpec.cipher AesSpec.fixKey)).toArray 215 (0, 0))] | [true, true], [v19, _] => ∃ (b137 : Nat), v19 = .slice (ownA (some b137)) 4 4 ∧ Sl ELb (some b137) ([lhash la sv, lw (col la) ((tb).getD ((eS lhash first gs tb ls i).2) lb0), lhash lb (sv + (1#64)), lw (col lb) (lx ((tb).getD ((eS lhash first gs tb ls i).2 + 1) lb0) la)] : List LbT) 4 ([]) ∧ Hp No w w' [((some b137), sob ELb 38 ([lhash la sv, lw (col la) ((tb).getD ((eS lhash first gs tb ls i).2) lb0), lhash lb (sv + (1#64)), lw (col lb) (lx ((tb).getD ((eS lhash first gs tb ls i).2 + 1) lb0) la)] : List LbT) ([])), (some b93, lO ((tb).getD ((eS lhash first gs tb ls i).2 + 1) lb0)), (some b83, lO ((tb).getD ((eS lhash first gs tb ls i).2) lb0)), (some b75, lO (lb)), (some b42, lO (lsum ([lhash la sv, lw (col la) ((tb).getD ((eS lhash first gs tb ls i).2) lb0), lhash lb (sv + (1#64)), lw (col lb) (lx ((tb).getD ((eS lhash first gs tb ls i).2 + 1) lb0) la)] : List LbT))), (some b35, .cells #[i64 (((gs).getD i g0).k), i64 (((gs).getD i g0).a), i64 (((gs).getD i g0).b)] 99 (0, 0)), (k1, sob ELb 38 ((eS lhash first gs tb ls i).1) z1), (some b1, .cells #[i64 (ls.length : Nat), .slice ga gs.length gc, .slice oa ol.length oc] 70 (0, 0)), (some b13, .cells (cel E8 (AesSpec.cipher AesSpec.fixKey)).toArray 215 (0, 0))] | _, _ => False) mixed (by kernel_rfl) (by kernel_rfl) H135.drew ?_
    refine WalkE.look rfl (fun _ => pT b13) (fun _ _ _ => rfl) (fun L r _ uw _ _ _ _ => Gives.run rfl (r_move (v := pT b13) rfl) ⟨rfl, rfl⟩) ?_
    refine WalkE.look rfl (fun _ => lV (la)) (fun _ _ _ => rfl) (fun L r uw0 uw hAn hDn hF hEx => ?_) ?_
    ·skip
     have b19 := hDn 19 (by decide) rfl
     have b21 := hDn 21 (by decide) rfl
     have hb := mp2 b19 b21
     rw [hb] at hF
     have HH := hF
     replace HH := HH.ext hEx
     exact Gives.run rfl (r_loadA (cs' := (cel E64 ([(la).1, (la).2])).toArray) agg38 siz38 (HH.get (k := 3) rfl) (off := 0) rfl (by exact bLe rfl) (by exact ext_all rfl)) ⟨rfl, rfl⟩
    refine WalkE.look rfl (fun _ => u64 (sv)) (fun _ _ _ => rfl) (fun L r _ uw _ _ _ _ => Gives.run rfl (r_move (v := u64 (sv)) rfl) ⟨rfl, rfl⟩) ?_
    refine WalkE.call rfl (fun _ => .agg (cel E64 [(lhash la sv).1, (lhash la sv).2]).toArray) (fun _ _ _ => rfl) (fun L r uw0 uw hAn hDn hF hEx => ?_) ?_
    ·skip
     have b19 := hDn 19 (by decide) rfl
     have b21 := hDn 21 (by decide) rfl
     have hb := mp2 b19 b21
     rw [hb] at hF
     have HH := hF
     replace HH := HH.ext hEx
     exact Gives.call rfl (Enters.callL (vs := [pT b13, lV (la), u64 (sv)]) call87 rfl) (lhash_ok b13 la sv uw (HH.get (k := 7) rfl))
    refine WalkE.look rfl (fun _ => lV (la)) (fun _ _ _ => rfl) (fun L r uw0 uw hAn hDn hF hEx => ?_) ?_
    ·skip
     have b19 := hDn 19 (by decide) rfl
     have b21 := hDn 21 (by decide) rfl
     have hb := mp2 b19 b21
     rw [hb] at hF
     have HH := hF
     replace HH := HH.ext hEx
     exact Gives.run rfl (r_loadA (cs' := (cel E64 ([(la).1, (la).2])).toArray) agg38 siz38 (HH.get (k := 3) rfl) (off := 0) rfl (by exact bLe rfl) (by exact ext_all rfl)) ⟨rfl, rfl⟩
    refine WalkE.call rfl (fun _ => .bool (col la)) (fun _ _ _ => rfl) (fun L r uw0 uw hAn hDn hF hEx => ?_) ?_
    ·skip
     have b19 := hDn 19 (by decide) rfl
     have b21 := hDn 21 (by decide) rfl
     have hb := mp2 b19 b21
     rw [hb] at hF
     have HH := hF
     replace HH := HH.ext hEx
     exact Gives.call rfl (Enters.callL (vs := [lV (la)]) call84 rfl) (col_ok la uw)
    refine WalkE.look rfl (fun _ => lV ((tb).getD ((eS lhash first gs tb ls i).2) lb0)) (fun _ _ _ => rfl) (fun L r uw0 uw hAn hDn hF hEx => ?_) ?_
    ·skip
     have b19 := hDn 19 (by decide) rfl
     have b21 := hDn 21 (by decide) rfl
     have hb := mp2 b19 b21
     rw [hb] at hF
     have HH := hF
     replace HH := HH.ext hEx
     exact Gives.run rfl (r_loadA (cs' := (cel E64 ([((tb).getD ((eS lhash first gs tb ls i).2) lb0).1, ((tb).getD ((eS lhash first gs tb ls i).2) lb0).2])).toArray) agg38 siz38 (HH.get (k := 1) rfl) (off := 0) rfl (by exact bLe rfl) (by exact ext_all rfl)) ⟨rfl, rfl⟩
    refine WalkE.call rfl (fun _ => .agg (cel E64 [(lw (col la) ((tb).getD ((eS lhash first gs tb ls i).2) lb0)).1, (lw (col la) ((tb).getD ((eS lhash first gs tb ls i).2) lb0)).2]).toArray) (fun _ _ _ => rfl) (fun L r uw0 uw hAn hDn hF hEx => ?_) ?_
    ·skip
     have b19 := hDn 19 (by decide) rfl
     have b21 := hDn 21 (by decide) rfl
     have hb := mp2 b19 b21
     rw [hb] at hF
     have HH := hF
     replace HH := HH.ext hEx
     exact Gives.call rfl (Enters.callL (vs := [.bool (col la), lV ((tb).getD ((eS lhash first gs tb ls i).2) lb0)]) call89 rfl) (lw_ok (col la) ((tb).getD ((eS lhash first gs tb ls i).2) lb0) uw)
    refine WalkE.look rfl (fun _ => pT b13) (fun _ _ _ => rfl) (fun L r _ uw _ _ _ _ => Gives.run rfl (r_move (v := pT b13) rfl) ⟨rfl, rfl⟩) ?_
    refine WalkE.look rfl (fun _ => lV (lb)) (fun _ _ _ => rfl) (fun L r uw0 uw hAn hDn hF hEx => ?_) ?_
    ·skip
     have b19 := hDn 19 (by decide) rfl
     have b21 := hDn 21 (by decide) rfl
     have hb := mp2 b19 b21
     rw [hb] at hF
     have HH := hF
     replace HH := HH.ext hEx
     exact Gives.run rfl (r_loadA (cs' := (cel E64 ([(lb).1, (lb).2])).toArray) agg38 siz38 (HH.get (k := 2) rfl) (off := 0) rfl (by exact bLe rfl) (by exact ext_all rfl)) ⟨rfl, rfl⟩
    refine WalkE.look rfl (fun _ => u64 (sv)) (fun _ _ _ => rfl) (fun L r _ uw _ _ _ _ => Gives.run rfl (r_move (v := u64 (sv)) rfl) ⟨rfl, rfl⟩) ?_
    refine WalkE.look rfl (fun _ => u64 (sv + (1#64))) (fun _ _ _ => rfl) (fun L r _ uw _ _ _ _ => Gives.run rfl (r_add64 (a := sv) (b := 1#64) rfl rfl) ⟨rfl, rfl⟩) ?_
    refine WalkE.call rfl (fun _ => .agg (cel E64 [(lhash lb (sv + (1#64))).1, (lhash lb (sv + (1#64))).2]).toArray) (fun _ _ _ => rfl) (fun L r uw0 uw hAn hDn hF hEx => ?_) ?_
    ·skip
     have b19 := hDn 19 (by decide) rfl
     have b21 := hDn 21 (by decide) rfl
     have hb := mp2 b19 b21
     rw [hb] at hF
     have HH := hF
     replace HH := HH.ext hEx
     exact Gives.call rfl (Enters.callL (vs := [pT b13, lV (lb), u64 (sv + (1#64))]) call87 rfl) (lhash_ok b13 lb (sv + (1#64)) uw (HH.get (k := 7) rfl))
    refine WalkE.look rfl (fun _ => lV (lb)) (fun _ _ _ => rfl) (fun L r uw0 uw hAn hDn hF hEx => ?_) ?_
    ·skip
     have b19 := hDn 19 (by decide) rfl
     have b21 := hDn 21 (by decide) rfl
     have hb := mp2 b19 b21
     rw [hb] at hF
     have HH := hF
     replace HH := HH.ext hEx
     exact Gives.run rfl (r_loadA (cs' := (cel E64 ([(lb).1, (lb).2])).toArray) agg38 siz38 (HH.get (k := 2) rfl) (off := 0) rfl (by exact bLe rfl) (by exact ext_all rfl)) ⟨rfl, rfl⟩
    refine WalkE.call rfl (fun _ => .bool (col lb)) (fun _ _ _ => rfl) (fun L r uw0 uw hAn hDn hF hEx => ?_) ?_
    ·skip
     have b19 := hDn 19 (by decide) rfl
     have b21 := hDn 21 (by decide) rfl
     have hb := mp2 b19 b21
     rw [hb] at hF
     have HH := hF
     replace HH := HH.ext hEx
     exact Gives.call rfl (Enters.callL (vs := [lV (lb)]) call84 rfl) (col_ok lb uw)
    refine WalkE.look rfl (fun _ => lV ((tb).getD ((eS lhash first gs tb ls i).2 + 1) lb0)) (fun _ _ _ => rfl) (fun L r uw0 uw hAn hDn hF hEx => ?_) ?_
    ·skip
     have b19 := hDn 19 (by decide) rfl
     have b21 := hDn 21 (by decide) rfl
     have hb := mp2 b19 b21
     rw [hb] at hF
     have HH := hF
     replace HH := HH.ext hEx
     exact Gives.run rfl (r_loadA (cs' := (cel E64 ([((tb).getD ((eS lhash first gs tb ls i).2 + 1) lb0).1, ((tb).getD ((eS lhash first gs tb ls i).2 + 1) lb0).2])).toArray) agg38 siz38 (HH.get (k := 0) rfl) (off := 0) rfl (by exact bLe rfl) (by exact ext_all rfl)) ⟨rfl, rfl⟩
    refine WalkE.look rfl (fun _ => lV (la)) (fun _ _ _ => rfl) (fun L r uw0 uw hAn hDn hF hEx => ?_) ?_
    ·skip
     have b19 := hDn 19 (by decide) rfl
     have b21 := hDn 21 (by decide) rfl
     have hb := mp2 b19 b21
     rw [hb] at hF
     have HH := hF
     replace HH := HH.ext hEx
     exact Gives.run rfl (r_loadA (cs' := (cel E64 ([(la).1, (la).2])).toArray) agg38 siz38 (HH.get (k := 3) rfl) (off := 0) rfl (by exact bLe rfl) (by exact ext_all rfl)) ⟨rfl, rfl⟩
    refine WalkE.call rfl (fun _ => .agg (cel E64 [(lx ((tb).getD ((eS lhash first gs tb ls i).2 + 1) lb0) la).1, (lx ((tb).getD ((eS lhash first gs tb ls i).2 + 1) lb0) la).2]).toArray) (fun _ _ _ => rfl) (fun L r uw0 uw hAn hDn hF hEx => ?_) ?_
    ·skip
     have b19 := hDn 19 (by decide) rfl
     have b21 := hDn 21 (by decide) rfl
     have hb := mp2 b19 b21
     rw [hb] at hF
     have HH := hF
     replace HH := HH.ext hEx
     exact Gives.call rfl (Enters.callL (vs := [lV ((tb).getD ((eS lhash first gs tb ls i).2 + 1) lb0), lV (la)]) call86 rfl) (lxor_ok ((tb).getD ((eS lhash first gs tb ls i).2 + 1) lb0) la uw)
    refine WalkE.call rfl (fun _ => .agg (cel E64 [(lw (col lb) (lx ((tb).getD ((eS lhash first gs tb ls i).2 + 1) lb0) la)).1, (lw (col lb) (lx ((tb).getD ((eS lhash first gs tb ls i).2 + 1) lb0) la)).2]).toArray) (fun _ _ _ => rfl) (fun L r uw0 uw hAn hDn hF hEx => ?_) ?_
    ·skip
     have b19 := hDn 19 (by decide) rfl
     have b21 := hDn 21 (by decide) rfl
     have hb := mp2 b19 b21
     rw [hb] at hF
     have HH := hF
     replace HH := HH.ext hEx
     exact Gives.call rfl (Enters.callL (vs := [.bool (col lb), .agg (cel E64 [(lx ((tb).getD ((eS lhash first gs tb ls i).2 + 1) lb0) la).1, (lx ((tb).getD ((eS lhash first gs tb ls i).2 + 1) lb0) la).2]).toArray]) call89 rfl) (lw_ok (col lb) (lx ((tb).getD ((eS lhash first gs tb ls i).2 + 1) lb0) la) uw)
    refine WalkE.eff 0 rfl (fun L r uw0 uw hLn hAn hDn hF hEx => ?_) ?_
    ·skip
     have b19 : L 19 = false := hLn
     have b21 := hDn 21 (by decide) rfl
     have hb := mp2 b19 b21
     rw [hb] at hF ⊢
     have H146 := hF
     replace H146 := H146.ext hEx
     dsimp only
     refine Gives.ofW (d := 112) rfl rfl (fun Q' hK => ?_)
     refine q_buildSlice (E := ELb) (l := ([lhash la sv, lw (col la) ((tb).getD ((eS lhash first gs tb ls i).2) lb0), lhash lb (sv + (1#64)), lw (col lb) (lx ((tb).getD ((eS lhash first gs tb ls i).2 + 1) lb0) la)] : List LbT)) H146 sli92 zer38 (bLe rfl) (ps := [(0, .agg (cel E64 [(lhash la sv).1, (lhash la sv).2]).toArray), (1, .agg (cel E64 [(lw (col la) ((tb).getD ((eS lhash first gs tb ls i).2) lb0)).1, (lw (col la) ((tb).getD ((eS lhash first gs tb ls i).2) lb0)).2]).toArray), (2, .agg (cel E64 [(lhash lb (sv + (1#64))).1, (lhash lb (sv + (1#64))).2]).toArray), (3, .agg (cel E64 [(lw (col lb) (lx ((tb).getD ((eS lhash first gs tb ls i).2 + 1) lb0) la)).1, (lw (col lb) (lx ((tb).getD ((eS lhash first gs tb ls i).2 + 1) lb0) la)).2]).toArray)]) rfl (by exact fillAll rfl rfl) rfl ?_
     intro b147 w149 hS148 H150 hE151
     exact hK _ _ (show ∃ (b137 : Nat), (_ : Value) = .slice (ownA (some b137)) 4 4 ∧ Sl ELb (some b137) ([lhash la sv, lw (col la) ((tb).getD ((eS lhash first gs tb ls i).2) lb0), lhash lb (sv + (1#64)), lw (col lb) (lx ((tb).getD ((eS lhash first gs tb ls i).2 + 1) lb0) la)] : List LbT) 4 ([]) ∧ Hp No w w149 [((some b137), sob ELb 38 ([lhash la sv, lw (col la) ((tb).getD ((eS lhash first gs tb ls i).2) lb0), lhash lb (sv + (1#64)), lw (col lb) (lx ((tb).getD ((eS lhash first gs tb ls i).2 + 1) lb0) la)] : List LbT) ([])), (some b93, lO ((tb).getD ((eS lhash first gs tb ls i).2 + 1) lb0)), (some b83, lO ((tb).getD ((eS lhash first gs tb ls i).2) lb0)), (some b75, lO (lb)), (some b42, lO (la)), (some b35, .cells #[i64 (((gs).getD i g0).k), i64 (((gs).getD i g0).a), i64 (((gs).getD i g0).b)] 99 (0, 0)), (k1, sob ELb 38 ((eS lhash first gs tb ls i).1) z1), (some b1, .cells #[i64 (ls.length : Nat), .slice ga gs.length gc, .slice oa ol.length oc] 70 (0, 0)), (some b13, .cells (cel E8 (AesSpec.cipher AesSpec.fixKey)).toArray 215 (0, 0))] from ⟨b147, rfl, hS148, (((((((((H150.pull (k := 8) rfl).pull (k := 8) rfl).pull (k := 8) rfl).pull (k := 8) rfl).pull (k := 8) rfl).pull (k := 8) rfl).pull (k := 8) rfl).pull (k := 8) rfl).pull (k := 8) rfl)⟩)
    refine WalkE.call rfl (fun _ => .agg (cel E64 [(lsum ([lhash la sv, lw (col la) ((tb).getD ((eS lhash first gs tb ls i).2) lb0), lhash lb (sv + (1#64)), lw (col lb) (lx ((tb).getD ((eS lhash first gs tb ls i).2 + 1) lb0) la)] : List LbT)).1, (lsum ([lhash la sv, lw (col la) ((tb).getD ((eS lhash first gs tb ls i).2) lb0), lhash lb (sv + (1#64)), lw (col lb) (lx ((tb).getD ((eS lhash first gs tb ls i).2 + 1) lb0) la)] : List LbT)).2]).toArray) (fun _ _ _ => rfl) (fun L r uw0 uw hAn hDn hF hEx => ?_) ?_
    ·skip
     have b19 := hAn 19 (by decide) rfl
     have b21 := hDn 21 (by decide) rfl
     have hb := mp2 b19 b21
     rw [hb] at hF
     obtain ⟨b137, e19, hS138, HH⟩ := hF
     replace HH := HH.ext hEx
     dsimp only
     rw [e19]
     exact Gives.call rfl (Enters.callL (vs := [.slice (ownA (some b137)) 4 4]) call88 rfl) (lsum_ok ([lhash la sv, lw (col la) ((tb).getD ((eS lhash first gs tb ls i).2) lb0), lhash lb (sv + (1#64)), lw (col lb) (lx ((tb).getD ((eS lhash first gs tb ls i).2 + 1) lb0) la)] : List LbT) (ownA (some b137)) 4 4 (by rfl) (by simp) uw (HH.rd (k := 0) rfl hS138))
    refine WalkE.eff 1 rfl (fun L r uw0 uw hLn hAn hDn hF hEx => ?_) ?_
    ·skip
     have b19 := hAn 19 (by decide) rfl
     have b21 : L 21 = false := hLn
     have hb := mp2 b19 b21
     rw [hb] at hF ⊢
     obtain ⟨b137, e19, hS138, H152⟩ := hF
     replace H152 := H152.ext hEx
     dsimp only
     rw [e19]
     refine Gives.ofW0 rfl (fun Q' hK => ?_)
     refine d_store (k := 4) (v := .agg (cel E64 [(lsum ([lhash la sv, lw (col la) ((tb).getD ((eS lhash first gs tb ls i).2) lb0), lhash lb (sv + (1#64)), lw (col lb) (lx ((tb).getD ((eS lhash first gs tb ls i).2 + 1) lb0) la)] : List LbT)).1, (lsum ([lhash la sv, lw (col la) ((tb).getD ((eS lhash first gs tb ls i).2) lb0), lhash lb (sv + (1#64)), lw (col lb) (lx ((tb).getD ((eS lhash first gs tb ls i).2 + 1) lb0) la)] : List LbT)).2]).toArray) (cs' := (cel E64 ([(lsum ([lhash la sv, lw (col la) ((tb).getD ((eS lhash first gs tb ls i).2) lb0), lhash lb (sv + (1#64)), lw (col lb) (lx ((tb).getD ((eS lhash first gs tb ls i).2 + 1) lb0) la)] : List LbT)).1, (lsum ([lhash la sv, lw (col la) ((tb).getD ((eS lhash first gs tb ls i).2) lb0), lhash lb (sv + (1#64)), lw (col lb) (lx ((tb).getD ((eS lhash first gs tb ls i).2 + 1) lb0) la)] : List LbT)).2])).toArray) H152 rfl rfl rfl siz38 (by exact celSize (by first | rfl | (show _ * 1 = _; omega))) (by exact celOne _) (by rw [List.size_toArray, cel_length]; show _ ≤ _ * 1; first | omega | (simp only [List.length_set]; omega) | exact bLe rfl | (simp <;> omega)) (by exact putAll (by first | rfl | omega | (simp <;> omega))) ?_
     intro w153 H154 hC155
     have H154' := H154.as (L' := [((some b137), sob ELb 38 ([lhash la sv, lw (col la) ((tb).getD ((eS lhash first gs tb ls i).2) lb0), lhash lb (sv + (1#64)), lw (col lb) (lx ((tb).getD ((eS lhash first gs tb ls i).2 + 1) lb0) la)] : List LbT) ([])), (some b93, lO ((tb).getD ((eS lhash first gs tb ls i).2 + 1) lb0)), (some b83, lO ((tb).getD ((eS lhash first gs tb ls i).2) lb0)), (some b75, lO (lb)), (some b42, lO (lsum ([lhash la sv, lw (col la) ((tb).getD ((eS lhash first gs tb ls i).2) lb0), lhash lb (sv + (1#64)), lw (col lb) (lx ((tb).getD ((eS lhash first gs tb ls i).2 + 1) lb0) la)] : List LbT))), (some b35, .cells #[i64 (((gs).getD i g0).k), i64 (((gs).getD i g0).a), i64 (((gs).getD i g0).b)] 99 (0, 0)), (k1, sob ELb 38 ((eS lhash first gs tb ls i).1) z1), (some b1, .cells #[i64 (ls.length : Nat), .slice ga gs.length gc, .slice oa ol.length oc] 70 (0, 0)), (some b13, .cells (cel E8 (AesSpec.cipher AesSpec.fixKey)).toArray 215 (0, 0))]) rfl
     clear H154
     exact hK _ (fun _ => (show ∃ (b137 : Nat), r 19 = .slice (ownA (some b137)) 4 4 ∧ Sl ELb (some b137) ([lhash la sv, lw (col la) ((tb).getD ((eS lhash first gs tb ls i).2) lb0), lhash lb (sv + (1#64)), lw (col lb) (lx ((tb).getD ((eS lhash first gs tb ls i).2 + 1) lb0) la)] : List LbT) 4 ([]) ∧ Hp No w w153 [((some b137), sob ELb 38 ([lhash la sv, lw (col la) ((tb).getD ((eS lhash first gs tb ls i).2) lb0), lhash lb (sv + (1#64)), lw (col lb) (lx ((tb).getD ((eS lhash first gs tb ls i).2 + 1) lb0) la)] : List LbT) ([])), (some b93, lO ((tb).getD ((eS lhash first gs tb ls i).2 + 1) lb0)), (some b83, lO ((tb).getD ((eS lhash first gs tb ls i).2) lb0)), (some b75, lO (lb)), (some b42, lO (lsum ([lhash la sv, lw (col la) ((tb).getD ((eS lhash first gs tb ls i).2) lb0), lhash lb (sv + (1#64)), lw (col lb) (lx ((tb).getD ((eS lhash first gs tb ls i).2 + 1) lb0) la)] : List LbT))), (some b35, .cells #[i64 (((gs).getD i g0).k), i64 (((gs).getD i g0).a), i64 (((gs).getD i g0).b)] 99 (0, 0)), (k1, sob ELb 38 ((eS lhash first gs tb ls i).1) z1), (some b1, .cells #[i64 (ls.length : Nat), .slice ga gs.length gc, .slice oa ol.length oc] 70 (0, 0)), (some b13, .cells (cel E8 (AesSpec.cipher AesSpec.fixKey)).toArray 215 (0, 0))] from ⟨b137, e19, hS138, (((((((((H154'.pull (k := 8) rfl).pull (k := 8) rfl).pull (k := 8) rfl).pull (k := 8) rfl).pull (k := 8) rfl).pull (k := 8) rfl).pull (k := 8) rfl).pull (k := 8) rfl).pull (k := 8) rfl)⟩))
    refine WalkE.nil ?_
    intro r156 uw0 w157 hF hEx
    obtain ⟨b137, e19, hS138, H158⟩ := hF
    replace H158 := H158.ext hEx
    dsimp only
    rw [e19]
    refine wnil ?_
    refine blockNormal ?_
    refine thenNormal ?_
    refine oneRegion ?_
    refine sM (.slice (ownA k1) (ls.length + i) c1) rfl ?_
    refine sq (r_loadA (cs' := (cel E64 ([(lsum ([lhash la sv, lw (col la) ((tb).getD ((eS lhash first gs tb ls i).2) lb0), lhash lb (sv + (1#64)), lw (col lb) (lx ((tb).getD ((eS lhash first gs tb ls i).2 + 1) lb0) la)] : List LbT)).1, (lsum ([lhash la sv, lw (col la) ((tb).getD ((eS lhash first gs tb ls i).2) lb0), lhash lb (sv + (1#64)), lw (col lb) (lx ((tb).getD ((eS lhash first gs tb ls i).2 + 1) lb0) la)] : List LbT)).2])).toArray) agg38 siz38 (H158.get (k := 4) rfl) (off := 0) rfl (by exact bLe rfl) (by exact ext_all rfl)) ?_
    refine q_buildSlice (E := ELb) (l := ([lsum ([lhash la sv, lw (col la) ((tb).getD ((eS lhash first gs tb ls i).2) lb0), lhash lb (sv + (1#64)), lw (col lb) (lx ((tb).getD ((eS lhash first gs tb ls i).2 + 1) lb0) la)] : List LbT)] : List LbT)) H158 sli92 zer38 (bLe rfl) (ps := [(0, lV (lsum ([lhash la sv, lw (col la) ((tb).getD ((eS lhash first gs tb ls i).2) lb0), lhash lb (sv + (1#64)), lw (col lb) (lx ((tb).getD ((eS lhash first gs tb ls i).2 + 1) lb0) la)] : List LbT)))]) rfl (by exact fillAll rfl rfl) rfl ?_
    intro b159 w161 hS160 H162 hE163
    refine q_append (E := ELb) (k := 7) (l := (eS lhash first gs tb ls i).1) (l2 := ([lsum ([lhash la sv, lw (col la) ((tb).getD ((eS lhash first gs tb ls i).2) lb0), lhash lb (sv + (1#64)), lw (col lb) (lx ((tb).getD ((eS lhash first gs tb ls i).2 + 1) lb0) la)] : List LbT)] : List LbT)) H162 rfl h1 sli92 zer38 rfl byt38 (H162.rd (k := 0) rfl hS160) rfl (by rw [eS_len]) rfl (by rfl) (by omega) ?_
    intro key164 c165 sp166 w168 hS167 hne170 H169
    have H169' := H169.as (L' := [((some b159), sob ELb 38 ([lsum ([lhash la sv, lw (col la) ((tb).getD ((eS lhash first gs tb ls i).2) lb0), lhash lb (sv + (1#64)), lw (col lb) (lx ((tb).getD ((eS lhash first gs tb ls i).2 + 1) lb0) la)] : List LbT)] : List LbT) ([])), ((some b137), sob ELb 38 ([lhash la sv, lw (col la) ((tb).getD ((eS lhash first gs tb ls i).2) lb0), lhash lb (sv + (1#64)), lw (col lb) (lx ((tb).getD ((eS lhash first gs tb ls i).2 + 1) lb0) la)] : List LbT) ([])), (some b93, lO ((tb).getD ((eS lhash first gs tb ls i).2 + 1) lb0)), (some b83, lO ((tb).getD ((eS lhash first gs tb ls i).2) lb0)), (some b75, lO (lb)), (some b42, lO (lsum ([lhash la sv, lw (col la) ((tb).getD ((eS lhash first gs tb ls i).2) lb0), lhash lb (sv + (1#64)), lw (col lb) (lx ((tb).getD ((eS lhash first gs tb ls i).2 + 1) lb0) la)] : List LbT))), (some b35, .cells #[i64 (((gs).getD i g0).k), i64 (((gs).getD i g0).a), i64 (((gs).getD i g0).b)] 99 (0, 0)), (key164, sob ELb 38 (((eS lhash first gs tb ls i).1) ++ ([lsum ([lhash la sv, lw (col la) ((tb).getD ((eS lhash first gs tb ls i).2) lb0), lhash lb (sv + (1#64)), lw (col lb) (lx ((tb).getD ((eS lhash first gs tb ls i).2 + 1) lb0) la)] : List LbT)] : List LbT)) sp166), (some b1, .cells #[i64 (ls.length : Nat), .slice ga gs.length gc, .slice oa ol.length oc] 70 (0, 0)), (some b13, .cells (cel E8 (AesSpec.cipher AesSpec.fixKey)).toArray 215 (0, 0))]) rfl
    clear H169
    have e171 : ((eS lhash first gs tb ls i).1) ++ ([lsum ([lhash la sv, lw (col la) ((tb).getD ((eS lhash first gs tb ls i).2) lb0), lhash lb (sv + (1#64)), lw (col lb) (lx ((tb).getD ((eS lhash first gs tb ls i).2 + 1) lb0) la)] : List LbT)] : List LbT) = (eS lhash first gs tb ls (i + 1)).1 := by rw [eS, estep, if_neg hn1, if_pos hk, hsv, hla, hlb]; try rfl
    have hS172 := hS167
    rw [e171] at hS172
    have H173 := H169'.as (L' := [((some b159), sob ELb 38 ([lsum ([lhash la sv, lw (col la) ((tb).getD ((eS lhash first gs tb ls i).2) lb0), lhash lb (sv + (1#64)), lw (col lb) (lx ((tb).getD ((eS lhash first gs tb ls i).2 + 1) lb0) la)] : List LbT)] : List LbT) ([])), ((some b137), sob ELb 38 ([lhash la sv, lw (col la) ((tb).getD ((eS lhash first gs tb ls i).2) lb0), lhash lb (sv + (1#64)), lw (col lb) (lx ((tb).getD ((eS lhash first gs tb ls i).2 + 1) lb0) la)] : List LbT) ([])), (some b93, lO ((tb).getD ((eS lhash first gs tb ls i).2 + 1) lb0)), (some b83, lO ((tb).getD ((eS lhash first gs tb ls i).2) lb0)), (some b75, lO (lb)), (some b42, lO (lsum ([lhash la sv, lw (col la) ((tb).getD ((eS lhash first gs tb ls i).2) lb0), lhash lb (sv + (1#64)), lw (col lb) (lx ((tb).getD ((eS lhash first gs tb ls i).2 + 1) lb0) la)] : List LbT))), (some b35, .cells #[i64 (((gs).getD i g0).k), i64 (((gs).getD i g0).a), i64 (((gs).getD i g0).b)] 99 (0, 0)), (key164, sob ELb 38 ((eS lhash first gs tb ls (i + 1)).1) sp166), (some b1, .cells #[i64 (ls.length : Nat), .slice ga gs.length gc, .slice oa ol.length oc] 70 (0, 0)), (some b13, .cells (cel E8 (AesSpec.cipher AesSpec.fixKey)).toArray 215 (0, 0))]) (by rw [e171])
    refine sA (.slice (ownA key164) ((ls.length + i) + 1) c165) rfl ?_
    refine wnil ?_
    refine blockNormal ?_
    refine thenNormal ?_
    refine oneRegion ?_
    refine sq (r_addI (a := (i : Nat)) (b := (1 : Int)) rfl rfl (by omega)) ?_
    refine sM (i64 ((i : Nat) + (1 : Int))) rfl ?_
    refine wnil ?_
    refine thenNormal ?_
    exact ⟨(i + 1, key164, c165, sp166, (eS lhash first gs tb ls i).2 + 2), _, rfl, ⟨rfl, rfl, rfl, rfl, rfl, rfl, rfl, rfl, rfl, trivial⟩, ⟨⟨by omega, hS172, by rw [eS, estep, if_neg hn1, if_pos hk]⟩, (((((((H173.dropk 6).dropk 5).dropk 4).dropk 3).dropk 2).dropk 1).dropk 0)⟩, by show gs.length - (i + 1) < gs.length - i; omega⟩
   ·skip
    have hn2 := hk2
    refine skipAny ?_
    refine blockNormal ?_
    refine thenNormal ?_
    refine oneRegion ?_
    refine sM (.slice (ownA k1) (ls.length + i) c1) rfl ?_
    refine sq (r_loadA (cs' := (cel E64 ([(la).1, (la).2])).toArray) agg38 siz38 (H47'.get (k := 0) rfl) (off := 0) rfl (by exact bLe rfl) (by exact ext_all rfl)) ?_
    refine q_buildSlice (E := ELb) (l := ([la] : List LbT)) H47' sli92 zer38 (bLe rfl) (ps := [(0, lV (la))]) rfl (by exact fillAll rfl rfl) rfl ?_
    intro b174 w176 hS175 H177 hE178
    refine q_append (E := ELb) (k := 3) (l := (eS lhash first gs tb ls i).1) (l2 := ([la] : List LbT)) H177 rfl h1 sli92 zer38 rfl byt38 (H177.rd (k := 0) rfl hS175) rfl (by rw [eS_len]) rfl (by rfl) (by omega) ?_
    intro key179 c180 sp181 w183 hS182 hne185 H184
    have H184' := H184.as (L' := [((some b174), sob ELb 38 ([la] : List LbT) ([])), (some b42, lO (la)), (some b35, .cells #[i64 (((gs).getD i g0).k), i64 (((gs).getD i g0).a), i64 (((gs).getD i g0).b)] 99 (0, 0)), (key179, sob ELb 38 (((eS lhash first gs tb ls i).1) ++ ([la] : List LbT)) sp181), (some b1, .cells #[i64 (ls.length : Nat), .slice ga gs.length gc, .slice oa ol.length oc] 70 (0, 0)), (some b13, .cells (cel E8 (AesSpec.cipher AesSpec.fixKey)).toArray 215 (0, 0))]) rfl
    clear H184
    have e186 : ((eS lhash first gs tb ls i).1) ++ ([la] : List LbT) = (eS lhash first gs tb ls (i + 1)).1 := by rw [eS, estep, if_neg hn1, if_neg hn2, hla]
    have hS187 := hS182
    rw [e186] at hS187
    have H188 := H184'.as (L' := [((some b174), sob ELb 38 ([la] : List LbT) ([])), (some b42, lO (la)), (some b35, .cells #[i64 (((gs).getD i g0).k), i64 (((gs).getD i g0).a), i64 (((gs).getD i g0).b)] 99 (0, 0)), (key179, sob ELb 38 ((eS lhash first gs tb ls (i + 1)).1) sp181), (some b1, .cells #[i64 (ls.length : Nat), .slice ga gs.length gc, .slice oa ol.length oc] 70 (0, 0)), (some b13, .cells (cel E8 (AesSpec.cipher AesSpec.fixKey)).toArray 215 (0, 0))]) (by rw [e186])
    refine sA (.slice (ownA key179) ((ls.length + i) + 1) c180) rfl ?_
    refine wnil ?_
    refine blockNormal ?_
    refine thenNormal ?_
    refine oneRegion ?_
    refine sq (r_addI (a := (i : Nat)) (b := (1 : Int)) rfl rfl (by omega)) ?_
    refine sM (i64 ((i : Nat) + (1 : Int))) rfl ?_
    refine wnil ?_
    refine thenNormal ?_
    exact ⟨(i + 1, key179, c180, sp181, (eS lhash first gs tb ls i).2), _, rfl, ⟨rfl, rfl, rfl, rfl, rfl, rfl, rfl, rfl, rfl, trivial⟩, ⟨⟨by omega, hS187, by rw [eS, estep, if_neg hn1, if_neg hn2]⟩, (((H188.dropk 2).dropk 1).dropk 0)⟩, by show gs.length - (i + 1) < gs.length - i; omega⟩
 ·skip
  have hie : i = gs.length := by omega
  rw [hie] at HL h1
  rw [hie]
  refine exitAny ?_
  refine thenExit ?_
  refine thenExit ?_
  refine blockHere ?_
  refine thenNormal ?_
  refine sR ?_
  refine sq (r_loadA (cs' := #[i64 (ls.length : Nat), .slice ga gs.length gc, .slice oa ol.length oc]) agg70 siz70 (HL.get (k := 1) rfl) (off := 0) rfl (by exact bLe rfl) (by rfl)) ?_
  refine sM (.slice (ownA k1) (ls.length + gs.length) c1) rfl ?_
  refine c_call (vs := [.agg #[i64 (ls.length : Nat), .slice ga gs.length gc, .slice oa ol.length oc], .slice (ownA k1) (ls.length + gs.length) c1]) call90 rfl (outs_ok ((ls.length : Nat) : Int) gs ol ga oa gc oc ((eS lhash first gs tb ls gs.length).1) (ownA k1) (ls.length + gs.length) c1 (by rw [eS_len]) w33 (hOl.ext HL.chg) (HL.rd (k := 0) rfl h1) (by omega) (fun j hj => by rw [eS_len]; have := hg.ook j hj; omega)) ?_
  rintro _ w189 ⟨⟨key191, c192, sp193, rfl, hS194, hk195⟩, hE196⟩
  rw [show (oL (eS lhash first gs tb ls gs.length).1 ol ol.length).length = ol.length from oL_len _ _ _]
  have H197 := HL.add hE196 hk195
  refine sA (.slice (ownA key191) ol.length c192) rfl ?_
  refine sA (.nilIface) rfl ?_
  refine wend ?_
  refine retAny ?_
  refine retG (rs := [.tmp 8, .tmp 9]) (vs := [.slice (ownA key191) ol.length c192, .nilIface]) rfl ⟨⟨rfl, rfl⟩, ⟨rfl, rfl⟩, trivial⟩ ?_
  exact ⟨_, rfl, key191, c192, sp193, rfl, hS194, (((H197.dropk 3).dropk 2).dropk 1)⟩
end Go.Proofs.YteofdmdpaejgaaaDoor.Gb
namespace Go.Proofs.YteofdmdpaejgaaaDoor.Gb
open Go Go.Proofs.YteofdmdpaejgaaaDoor.Vc Go.Proofs.YteofdmdpaejgaaaDoor.Er Go.Proofs.YteofdmdpaejgaaaDoor.Circ
set_option linter.unusedVariables false
theorem fld94_1 : fld Tryd.prog 94 1 = some (2, 1, 92) := by kernel_rfl
theorem gty38 : Tryd.prog.eqGuardType Tryd.prog.depth 38 = false := by kernel_rfl
theorem one32 : isOne Tryd.prog 32 = true := by kernel_rfl
theorem one92 : isOne Tryd.prog 92 = true := by kernel_rfl
theorem und38 : Tryd.prog.underlying 38 = some (.array 2 32) := by kernel_rfl
theorem label_ok (z δ : Lb) (b : Bool) (w : World) : Calls Tryd.prog 48 [.agg (cel E64 [(z).1, (z).2]).toArray, .agg (cel E64 [(δ).1, (δ).2]).toArray, .bool (b)].toArray w (Ret fun v w' => v = .agg (cel E64 [(lx z (lw b δ)).1, (lx z (lw b δ)).2]).toArray ∧ Ext w w') := by
 have H := Hp.start No w
 refine enter (n := 12) Tryd.func48 rfl rfl (bLe rfl) ?_
 refine sR ?_
 refine q_box (v := .agg (cel E64 [(z).1, (z).2]).toArray) (o := lO (z)) H rfl (by rfl) ?_
 intro b31 w32 hb31 H33 hE34
 refine q_box (v := .agg (cel E64 [(δ).1, (δ).2]).toArray) (o := lO (δ)) H33 rfl (by rfl) ?_
 intro b35 w36 hb35 H37 hE38
 refine q_alloc (o := .cells (cel E64 ([0#64, 0#64])).toArray 38 (0, 0)) H37 zer38 (by kernel_rfl) ?_
 intro b39 w40 hb39 H41 hE42
 refine wend ?_
 refine seqAny ?_
 refine drawE (m := 6) [0, 0, 0, 6, 15, 31] [5] (fun bs vs w' => match bs, vs with | [false], [_] => Hp No w w' [(some b39, .cells (cel E64 ([0#64, 0#64])).toArray 38 (0, 0)), (some b35, lO (δ)), (some b31, lO (z))] | [true], [_] => Hp No w w' [(some b39, lO (lx z (lw b δ))), (some b35, lO (δ)), (some b31, lO (z))] | _, _ => False) mixed (by kernel_rfl) (by kernel_rfl) H41.drew ?_
 refine WalkE.look rfl (fun _ => lV (z)) (fun _ _ _ => rfl) (fun L r uw0 uw hAn hDn hF hEx => ?_) ?_
 ·skip
  have b5 := hDn 5 (by decide) rfl
  have hb : List.map L [5] = [false] := by simp only [List.map_cons, List.map_nil, b5]
  rw [hb] at hF
  have HH := hF
  replace HH := HH.ext hEx
  exact Gives.run rfl (r_loadA (cs' := (cel E64 ([(z).1, (z).2])).toArray) agg38 siz38 (HH.get (k := 2) rfl) (off := 0) rfl (by exact bLe rfl) (by exact ext_all rfl)) ⟨rfl, rfl⟩
 refine WalkE.look rfl (fun _ => .bool (b)) (fun _ _ _ => rfl) (fun L r _ uw _ _ _ _ => Gives.run rfl (r_move (v := .bool (b)) rfl) ⟨rfl, rfl⟩) ?_
 refine WalkE.look rfl (fun _ => lV (δ)) (fun _ _ _ => rfl) (fun L r uw0 uw hAn hDn hF hEx => ?_) ?_
 ·skip
  have b5 := hDn 5 (by decide) rfl
  have hb : List.map L [5] = [false] := by simp only [List.map_cons, List.map_nil, b5]
  rw [hb] at hF
  have HH := hF
  replace HH := HH.ext hEx
  exact Gives.run rfl (r_loadA (cs' := (cel E64 ([(δ).1, (δ).2])).toArray) agg38 siz38 (HH.get (k := 1) rfl) (off := 0) rfl (by exact bLe rfl) (by exact ext_all rfl)) ⟨rfl, rfl⟩
 refine WalkE.call rfl (fun _ => .agg (cel E64 [(lw b δ).1, (lw b δ).2]).toArray) (fun _ _ _ => rfl) (fun L r uw0 uw hAn hDn hF hEx => ?_) ?_
 ·skip
  have b5 := hDn 5 (by decide) rfl
  have hb : List.map L [5] = [false] := by simp only [List.map_cons, List.map_nil, b5]
  rw [hb] at hF
  have HH := hF
  replace HH := HH.ext hEx
  exact Gives.call rfl (Enters.callL (vs := [.bool (b), lV (δ)]) call89 rfl) (lw_ok b δ uw)
 refine WalkE.call rfl (fun _ => .agg (cel E64 [(lx z (lw b δ)).1, (lx z (lw b δ)).2]).toArray) (fun _ _ _ => rfl) (fun L r uw0 uw hAn hDn hF hEx => ?_) ?_
 ·skip
  have b5 := hDn 5 (by decide) rfl
  have hb : List.map L [5] = [false] := by simp only [List.map_cons, List.map_nil, b5]
  rw [hb] at hF
  have HH := hF
  replace HH := HH.ext hEx
  exact Gives.call rfl (Enters.callL (vs := [lV (z), .agg (cel E64 [(lw b δ).1, (lw b δ).2]).toArray]) call86 rfl) (lxor_ok z (lw b δ) uw)
 refine WalkE.eff 0 rfl (fun L r uw0 uw hLn hAn hDn hF hEx => ?_) ?_
 ·skip
  have b5 : L 5 = false := hLn
  have hb : List.map L [5] = [false] := by simp only [List.map_cons, List.map_nil, b5]
  rw [hb] at hF ⊢
  have H47 := hF
  replace H47 := H47.ext hEx
  dsimp only
  refine Gives.ofW0 rfl (fun Q' hK => ?_)
  refine d_store (k := 0) (v := .agg (cel E64 [(lx z (lw b δ)).1, (lx z (lw b δ)).2]).toArray) (cs' := (cel E64 ([(lx z (lw b δ)).1, (lx z (lw b δ)).2])).toArray) H47 rfl rfl rfl siz38 (by exact celSize (by first | rfl | (show _ * 1 = _; omega))) (by exact celOne _) (by rw [List.size_toArray, cel_length]; show _ ≤ _ * 1; first | omega | (simp only [List.length_set]; omega) | exact bLe rfl | (simp <;> omega)) (by exact putAll (by first | rfl | omega | (simp <;> omega))) ?_
  intro w48 H49 hC50
  have H49' := H49.as (L' := [(some b39, lO (lx z (lw b δ))), (some b35, lO (δ)), (some b31, lO (z))]) rfl
  clear H49
  exact hK _ (fun _ => (show Hp No w w48 [(some b39, lO (lx z (lw b δ))), (some b35, lO (δ)), (some b31, lO (z))] from (((H49'.pull (k := 2) rfl).pull (k := 2) rfl).pull (k := 2) rfl)))
 refine WalkE.nil ?_
 intro r51 uw0 w52 hF hEx
 have H53 := hF
 replace H53 := H53.ext hEx
 dsimp only
 refine wnil ?_
 refine thenNormal ?_
 refine retAny ?_
 refine retG (rs := [.cell 6 38]) (vs := [lV (lx z (lw b δ))]) rfl ⟨r_loadA (cs' := (cel E64 ([(lx z (lw b δ)).1, (lx z (lw b δ)).2])).toArray) agg38 siz38 (H53.get (k := 0) rfl) (off := 0) rfl (by exact bLe rfl) (by exact ext_all rfl), trivial⟩ ?_
 exact ⟨_, rfl, rfl, H53.chg⟩
theorem same_ok (l : List Lb) (a1 a2 : Option Addr) (n1 n2 c1 c2 : Nat) (hn1 : n1 = l.length) (hn2 : n2 = l.length) (w : World) (h1 : Rd ELb w a1 l) (h2 : Rd ELb w a2 l) (hl : l.length ≤ 140737488355328) : Calls Tryd.prog 47 [.slice a1 n1 c1, .slice a2 n2 c2].toArray w (Ret fun v w' => v = .bool true ∧ Ext w w') := by
 subst hn1 hn2
 have H := Hp.start No w
 refine enter (n := 26) Tryd.func47 rfl rfl (bLe rfl) ?_
 refine sR ?_
 refine sA (.bool (false)) rfl ?_
 refine wend ?_
 refine seqAny ?_
 refine sR ?_
 refine sM (.slice a1 l.length c1) rfl ?_
 refine sq (r_lenS sli92 (a := a1) (m := l.length) (c := c1) rfl) ?_
 refine sM (.slice a2 l.length c2) rfl ?_
 refine sq (r_lenS sli92 (a := a2) (m := l.length) (c := c2) rfl) ?_
 refine sq ((r_neqI (a := (l.length : Nat)) (b := (l.length : Nat)) rfl rfl).as (v' := .bool (false)) (by simp)) ?_
 refine wend ?_
 refine condFalse rfl ?_
 refine skipAny ?_
 refine thenNormal ?_
 refine seqAny ?_
 refine sR ?_
 refine sM (.slice a1 l.length c1) rfl ?_
 refine sq (r_lenS sli92 (a := a1) (m := l.length) (c := c1) rfl) ?_
 refine sM (i64 ((0 : Int))) rfl ?_
 refine wend ?_
 refine blockAny ?_
 refine loopAny (σ := Nat) (fun q => [(0, .slice a1 l.length c1), (1, .slice a2 l.length c2), (12, i64 (l.length : Nat)), (13, i64 (q : Nat))]) (fun q w' => q ≤ l.length ∧ Hp No w w' []) (fun q => l.length - q) (0) ?_ ?_ ?_
 ·exact ⟨rfl, rfl, rfl, rfl, trivial⟩
 ·exact ⟨Nat.zero_le _, H⟩
 rintro q ρ w1 ⟨hq, HL⟩
 refine sR ?_
 refine sq (r_lssI (a := (q : Nat)) (b := (l.length : Nat)) rfl rfl) ?_
 refine wend ?_
 refine seqAny ?_
 refine condProp (((q : Nat) : Int) < (l.length : Nat)) rfl (fun c14 => ?_) (fun c14 => ?_)
 ·skip
  refine skipAny ?_
  refine thenNormal ?_
  refine seqAny ?_
  refine blockAny ?_
  refine sR ?_
  refine sM (i64 (q : Nat)) rfl ?_
  refine sA (i64 (q : Nat)) rfl ?_
  refine wend ?_
  refine seqAny ?_
  refine drawAny (K := [none, none, none, none, none, none, none, none, none]) [0, 0, 3, 7, 0, 0, 48, 112, 255] (fun w' => Ext w1 w') (fun w' w'' => Ext w' w'') mixed (by kernel_rfl) (Ext.drew _) (fun _ _ h h' => h.trans h') ?_ ?_
  ·exact relNone (by decide)
  refine ⟨.slice a1 l.length c1, fun _ uw3 hC4 _ => Gives.run rfl (r_move (v := .slice a1 l.length c1) rfl) ⟨rfl, Chg.refl _ _⟩, ?_⟩
  refine ⟨i64 (q : Nat), fun _ uw5 hC6 _ => Gives.run rfl (r_move (v := i64 (q : Nat)) rfl) ⟨rfl, Chg.refl _ _⟩, ?_⟩
  refine ⟨.pointer (adr a1 (q * 2)), fun _ uw7 hC8 _ => Gives.run rfl (r_idxS (E := ELb) (l := l) (j := q) sli92 (h1.ext (HL.ext hC8).chg) rfl rfl (by first | rfl | omega | (simp; omega)) (by rfl) (by omega)) ⟨rfl, Chg.refl _ _⟩, ?_⟩
  refine ⟨.agg (cel E64 [((l).getD q lb0).1, ((l).getD q lb0).2]).toArray, fun _ uw9 hC10 _ => Gives.run rfl ((r_ldS (E := ELb) (l := l) (j := q) (v := (l).getD q lb0) fits38 (h1.ext (HL.ext hC10).chg) rfl rfl (at_getD (by omega))).as (v' := .agg (cel E64 [((l).getD q lb0).1, ((l).getD q lb0).2]).toArray) rfl) ⟨rfl, Chg.refl _ _⟩, ?_⟩
  refine ⟨.slice a2 l.length c2, fun _ uw11 hC12 _ => Gives.run rfl (r_move (v := .slice a2 l.length c2) rfl) ⟨rfl, Chg.refl _ _⟩, ?_⟩
  refine ⟨i64 (q : Nat), fun _ uw13 hC14 _ => Gives.run rfl (r_move (v := i64 (q : Nat)) rfl) ⟨rfl, Chg.refl _ _⟩, ?_⟩
  refine ⟨.pointer (adr a2 (q * 2)), fun _ uw15 hC16 _ => Gives.run rfl (r_idxS (E := ELb) (l := l) (j := q) sli92 (h2.ext (HL.ext hC16).chg) rfl rfl (by first | rfl | omega | (simp; omega)) (by rfl) (by omega)) ⟨rfl, Chg.refl _ _⟩, ?_⟩
  refine ⟨.agg (cel E64 [((l).getD q lb0).1, ((l).getD q lb0).2]).toArray, fun _ uw17 hC18 _ => Gives.run rfl ((r_ldS (E := ELb) (l := l) (j := q) (v := (l).getD q lb0) fits38 (h2.ext (HL.ext hC18).chg) rfl rfl (at_getD (by omega))).as (v' := .agg (cel E64 [((l).getD q lb0).1, ((l).getD q lb0).2]).toArray) rfl) ⟨rfl, Chg.refl _ _⟩, ?_⟩
  refine ⟨.bool (false), fun _ uw19 hC20 _ => Gives.run rfl ((r_neqA (E := E64) (l := [((l).getD q lb0).1, ((l).getD q lb0).2]) (l' := [((l).getD q lb0).1, ((l).getD q lb0).2]) gty38 und38 fits32 (eqAt64 und32) (rfl) (rfl) rfl rfl).as (v' := .bool (false)) (by simp)) ⟨rfl, Chg.refl _ _⟩, ?_⟩
  intro r24 w21 hE23 hF
  have H22 := HL.ext hE23
  refine wnil ?_
  refine thenNormal ?_
  refine condFalse rfl ?_
  refine skipAny ?_
  refine blockNormal ?_
  refine thenNormal ?_
  refine oneRegion ?_
  refine sq (r_addI (a := (q : Nat)) (b := (1 : Int)) rfl rfl (by omega)) ?_
  refine sM (i64 ((q : Nat) + (1 : Int))) rfl ?_
  refine wnil ?_
  refine thenNormal ?_
  exact ⟨q + 1, _, rfl, ⟨rfl, rfl, rfl, rfl, trivial⟩, ⟨by omega, H22⟩, by show l.length - (q + 1) < l.length - q; omega⟩
 ·skip
  refine exitAny ?_
  refine thenExit ?_
  refine thenExit ?_
  refine blockHere ?_
  refine thenNormal ?_
  refine sR ?_
  refine sA (.bool (true)) rfl ?_
  refine wend ?_
  refine retAny ?_
  refine retG (rs := [.tmp 4]) (vs := [.bool (true)]) rfl ⟨⟨rfl, rfl⟩, trivial⟩ ?_
  exact ⟨_, rfl, rfl, HL.chg⟩
theorem small_yes (n : Int) (gs : List Gt) (ol : List Int) (ga oa : Option Addr) (gc oc : Nat) (w : World) (h1 : gs.length ≤ 60) (h2 : n ≤ 200) : Calls Tryd.prog 42 [.agg #[i64 (n), .slice ga gs.length gc, .slice oa ol.length oc]].toArray w (Ret fun v w' => v = .bool true ∧ Ext w w') := by
 have H := Hp.start No w
 refine enter (n := 12) Tryd.func42 rfl rfl (bLe rfl) ?_
 refine sR ?_
 refine q_box (v := .agg #[i64 (n), .slice ga gs.length gc, .slice oa ol.length oc]) (o := .cells #[i64 (n), .slice ga gs.length gc, .slice oa ol.length oc] 70 (0, 0)) H rfl (by rfl) ?_
 intro b1 w2 hb1 H3 hE4
 refine sA (.bool (false)) rfl ?_
 refine wend ?_
 refine sR ?_
 refine sq (r_fieldAddr (off' := 1) fld70_1 (by decide) (b := b1) (off := 0) rfl (by omega)) ?_
 refine sq (r_loadC (v := .slice ga gs.length gc) one68 (H3.get (k := 0) rfl) (off := 1) rfl (by rfl)) ?_
 refine sq (r_lenS sli68 (a := ga) (m := gs.length) (c := gc) rfl) ?_
 refine sq ((r_leqI (a := (gs.length : Nat)) (b := (60 : Int)) rfl rfl).as (v' := .bool (true)) (by exact congrArg Value.bool (decide_eq_true (by omega)))) ?_
 refine sM (.bool (true)) rfl ?_
 refine sqAny (v := pT b1) (w' := w2) (wantedSome (d' := 7) (b := true) rfl rfl rfl) (r_fieldAddr (off' := 0) fld70_0 (by decide) (b := b1) (off := 0) rfl (by omega)) ?_
 refine sqAny (v := i64 (n)) (w' := w2) (wantedSome (d' := 7) (b := true) rfl rfl rfl) (r_loadC (v := i64 (n)) one3 (H3.get (k := 0) rfl) (off := 0) rfl (by rfl)) ?_
 refine sqAny (v := .bool (true)) (w' := w2) (wantedSome (d' := 7) (b := true) rfl rfl rfl) ((r_leqI (a := n) (b := (200 : Int)) rfl rfl).as (v' := .bool (true)) (by exact congrArg Value.bool (decide_eq_true (by omega)))) ?_
 refine sq (r_pickT (u := .bool (true)) rfl rfl) ?_
 refine sA (.bool (true)) rfl ?_
 refine wend ?_
 refine retAny ?_
 refine retG (rs := [.tmp 2]) (vs := [.bool (true)]) rfl ⟨⟨rfl, rfl⟩, trivial⟩ ?_
 exact ⟨_, rfl, rfl, H3.chg⟩
theorem small_no2 (n : Int) (gs : List Gt) (ol : List Int) (ga oa : Option Addr) (gc oc : Nat) (w : World) (h1 : gs.length ≤ 60) (h2 : ¬ n ≤ 200) : Calls Tryd.prog 42 [.agg #[i64 (n), .slice ga gs.length gc, .slice oa ol.length oc]].toArray w (Ret fun v w' => v = .bool false ∧ Ext w w') := by
 have H := Hp.start No w
 refine enter (n := 12) Tryd.func42 rfl rfl (bLe rfl) ?_
 refine sR ?_
 refine q_box (v := .agg #[i64 (n), .slice ga gs.length gc, .slice oa ol.length oc]) (o := .cells #[i64 (n), .slice ga gs.length gc, .slice oa ol.length oc] 70 (0, 0)) H rfl (by rfl) ?_
 intro b1 w2 hb1 H3 hE4
 refine sA (.bool (false)) rfl ?_
 refine wend ?_
 refine sR ?_
 refine sq (r_fieldAddr (off' := 1) fld70_1 (by decide) (b := b1) (off := 0) rfl (by omega)) ?_
 refine sq (r_loadC (v := .slice ga gs.length gc) one68 (H3.get (k := 0) rfl) (off := 1) rfl (by rfl)) ?_
 refine sq (r_lenS sli68 (a := ga) (m := gs.length) (c := gc) rfl) ?_
 refine sq ((r_leqI (a := (gs.length : Nat)) (b := (60 : Int)) rfl rfl).as (v' := .bool (true)) (by exact congrArg Value.bool (decide_eq_true (by omega)))) ?_
 refine sM (.bool (true)) rfl ?_
 refine sqAny (v := pT b1) (w' := w2) (wantedSome (d' := 7) (b := true) rfl rfl rfl) (r_fieldAddr (off' := 0) fld70_0 (by decide) (b := b1) (off := 0) rfl (by omega)) ?_
 refine sqAny (v := i64 (n)) (w' := w2) (wantedSome (d' := 7) (b := true) rfl rfl rfl) (r_loadC (v := i64 (n)) one3 (H3.get (k := 0) rfl) (off := 0) rfl (by rfl)) ?_
 refine sqAny (v := .bool (false)) (w' := w2) (wantedSome (d' := 7) (b := true) rfl rfl rfl) ((r_leqI (a := n) (b := (200 : Int)) rfl rfl).as (v' := .bool (false)) (by exact congrArg Value.bool (decide_eq_false (by omega)))) ?_
 refine sq (r_pickT (u := .bool (false)) rfl rfl) ?_
 refine sA (.bool (false)) rfl ?_
 refine wend ?_
 refine retAny ?_
 refine retG (rs := [.tmp 2]) (vs := [.bool (false)]) rfl ⟨⟨rfl, rfl⟩, trivial⟩ ?_
 exact ⟨_, rfl, rfl, H3.chg⟩
theorem small_no1 (n : Int) (gs : List Gt) (ol : List Int) (ga oa : Option Addr) (gc oc : Nat) (w : World) (h1 : ¬ gs.length ≤ 60) : Calls Tryd.prog 42 [.agg #[i64 (n), .slice ga gs.length gc, .slice oa ol.length oc]].toArray w (Ret fun v w' => v = .bool false ∧ Ext w w') := by
 have H := Hp.start No w
 refine enter (n := 12) Tryd.func42 rfl rfl (bLe rfl) ?_
 refine sR ?_
 refine q_box (v := .agg #[i64 (n), .slice ga gs.length gc, .slice oa ol.length oc]) (o := .cells #[i64 (n), .slice ga gs.length gc, .slice oa ol.length oc] 70 (0, 0)) H rfl (by rfl) ?_
 intro b1 w2 hb1 H3 hE4
 refine sA (.bool (false)) rfl ?_
 refine wend ?_
 refine sR ?_
 refine sq (r_fieldAddr (off' := 1) fld70_1 (by decide) (b := b1) (off := 0) rfl (by omega)) ?_
 refine sq (r_loadC (v := .slice ga gs.length gc) one68 (H3.get (k := 0) rfl) (off := 1) rfl (by rfl)) ?_
 refine sq (r_lenS sli68 (a := ga) (m := gs.length) (c := gc) rfl) ?_
 refine sq ((r_leqI (a := (gs.length : Nat)) (b := (60 : Int)) rfl rfl).as (v' := .bool (false)) (by exact congrArg Value.bool (decide_eq_false (by omega)))) ?_
 refine sM (.bool (false)) rfl ?_
 refine skAny (wantedSome (d' := 7) (b := false) rfl rfl rfl) ?_
 refine skAny (wantedSome (d' := 7) (b := false) rfl rfl rfl) ?_
 refine skAny (wantedSome (d' := 7) (b := false) rfl rfl rfl) ?_
 refine sq (r_pickF (v := .bool (false)) rfl rfl) ?_
 refine sA (.bool (false)) rfl ?_
 refine wend ?_
 refine retAny ?_
 refine retG (rs := [.tmp 2]) (vs := [.bool (false)]) rfl ⟨⟨rfl, rfl⟩, trivial⟩ ?_
 exact ⟨_, rfl, rfl, H3.chg⟩
end Go.Proofs.YteofdmdpaejgaaaDoor.Gb
namespace Go.Proofs.YteofdmdpaejgaaaDoor.Gb
open Go Go.Proofs.YteofdmdpaejgaaaDoor.Vc Go.Proofs.YteofdmdpaejgaaaDoor.Er Go.Proofs.YteofdmdpaejgaaaDoor.Circ
set_option linter.unusedVariables false
theorem call24 : callable Tryd.prog 24 = true := by kernel_rfl
theorem call45 : callable Tryd.prog 45 = true := by kernel_rfl
theorem call46 : callable Tryd.prog 46 = true := by kernel_rfl
theorem call48 : callable Tryd.prog 48 = true := by kernel_rfl
theorem pls70 : pls Tryd.prog 70 = some #[(0, 1), (1, 1), (2, 1)] := by kernel_rfl
theorem pls99 : pls Tryd.prog 99 = some #[(0, 1), (1, 1), (2, 1)] := by kernel_rfl
theorem zer3 : zer Tryd.prog 3 = some (.int .i64 0) := by kernel_rfl
theorem zer70 : zer Tryd.prog 70 = some (.agg #[.int .i64 0, .slice none 0 0, .slice none 0 0]) := by kernel_rfl
set_option maxHeartbeats 1000000 in
theorem gawake_ok (w : World) (hG : Gl w) : Calls Tryd.prog 41 [].toArray w (Ret fun v w' => v = .bool true ∧ Ext w w') := by
 have H := Hp.start No w
 refine enter (n := 75) Tryd.func41 rfl rfl (bLe rfl) ?_
 refine sR ?_
 refine sA (.bool (false)) rfl ?_
 refine wend ?_
 refine sR ?_
 refine sq (r_build (cs' := #[i64 ((2 : Int)), i64 ((0 : Int)), i64 ((1 : Int))]) (ps := [(0, i64 ((2 : Int))), (1, i64 ((0 : Int))), (2, i64 ((1 : Int)))]) zer99 pls99 rfl (by rfl)) ?_
 refine q_buildSlice (E := EG) (l := ([⟨(2 : Int), (0 : Int), (1 : Int)⟩] : List Gt)) H sli68 zer99 (bLe rfl) (ps := [(0, .agg #[i64 ((2 : Int)), i64 ((0 : Int)), i64 ((1 : Int))])]) rfl (by exact fillAll rfl rfl) rfl ?_
 intro b1 w3 hS2 H4 hE5
 refine q_buildSlice (E := EI) (l := [(2 : Int)]) H4 sli60 zer3 (bLe rfl) (ps := [(0, i64 ((2 : Int)))]) rfl (by exact fillAll rfl rfl) rfl ?_
 intro b6 w8 hS7 H9 hE10
 refine sq (r_build (cs' := #[i64 ((2 : Int)), .slice (ownA (some b1)) 1 1, .slice (ownA (some b6)) 1 1]) (ps := [(0, i64 ((2 : Int))), (1, .slice (ownA (some b1)) 1 1), (2, .slice (ownA (some b6)) 1 1)]) zer70 pls70 rfl (by rfl)) ?_
 refine q_alloc (o := .cells #[i64 ((0 : Int)), .slice none 0 0, .slice none 0 0] 70 (0, 0)) H9 zer70 (by kernel_rfl) ?_
 intro b11 w12 hb11 H13 hE14
 refine d_store (k := 0) (v := .agg #[i64 ((2 : Int)), .slice (ownA (some b1)) 1 1, .slice (ownA (some b6)) 1 1]) (cs' := #[i64 ((2 : Int)), .slice (ownA (some b1)) 1 1, .slice (ownA (some b6)) 1 1]) H13 rfl rfl rfl siz70 (by rfl) (by intro u hu; simp [Value.cells] at hu; first | (subst hu; rfl) | (rcases hu with rfl | rfl | rfl <;> rfl)) (by exact bLe rfl) (by rfl) ?_
 intro w15 H16 hC17
 have H16' := H16.as (L' := [(some b11, .cells #[i64 ((2 : Int)), .slice (ownA (some b1)) 1 1, .slice (ownA (some b6)) 1 1] 70 (0, 0)), ((some b6), sob EI 3 ([(2 : Int)]) ([])), ((some b1), sob EG 99 ([⟨(2 : Int), (0 : Int), (1 : Int)⟩] : List Gt) ([]))]) rfl
 clear H16
 refine wend ?_
 refine sR ?_
 refine sq (r_buildA (cs' := (cel E64 [1#64, 0#64]).toArray) (ps := [(0, u64 (1#64)), (1, u64 (0#64))]) zer38 arr38 rfl (by rfl)) ?_
 refine q_alloc (o := .cells (cel E64 ([0#64, 0#64])).toArray 38 (0, 0)) H16' zer38 (by kernel_rfl) ?_
 intro b18 w19 hb18 H20 hE21
 refine d_store (k := 0) (v := .agg (cel E64 [1#64, 0#64]).toArray) (cs' := (cel E64 ([1#64, 0#64])).toArray) H20 rfl rfl rfl siz38 (by exact celSize (by first | rfl | (show _ * 1 = _; omega))) (by exact celOne _) (by rw [List.size_toArray, cel_length]; show _ ≤ _ * 1; first | omega | (simp only [List.length_set]; omega) | exact bLe rfl | (simp <;> omega)) (by exact putAll (by first | rfl | omega | (simp <;> omega))) ?_
 intro w22 H23 hC24
 have H23' := H23.as (L' := [(some b18, .cells (cel E64 ([1#64, 0#64])).toArray 38 (0, 0)), (some b11, .cells #[i64 ((2 : Int)), .slice (ownA (some b1)) 1 1, .slice (ownA (some b6)) 1 1] 70 (0, 0)), ((some b6), sob EI 3 ([(2 : Int)]) ([])), ((some b1), sob EG 99 ([⟨(2 : Int), (0 : Int), (1 : Int)⟩] : List Gt) ([]))]) rfl
 clear H23
 refine wend ?_
 refine seqAny ?_
 refine drawC (m := 11) [0, 0, 0, 7, 15, 31, 31, 31, 63, 383, 1023] [2, 3] (fun q vs w' => match q, vs with | 0, [] => Ext w22 w' ∧ Hp No w w' [(some b18, .cells (cel E64 ([1#64, 0#64])).toArray 38 (0, 0)), (some b11, .cells #[i64 ((2 : Int)), .slice (ownA (some b1)) 1 1, .slice (ownA (some b6)) 1 1] 70 (0, 0)), ((some b6), sob EI 3 ([(2 : Int)]) ([])), ((some b1), sob EG 99 ([⟨(2 : Int), (0 : Int), (1 : Int)⟩] : List Gt) ([]))] | 1, [v0] => ∃ (b28 : Nat), v0 = .slice (ownA (some b28)) 2 2 ∧ Sl ELb (some b28) (List.replicate 2 lb0) 2 (cel ELb (List.replicate (2 - 2) lb0)) ∧ Ext w22 w' ∧ Hp No w w' [((some b28), sob ELb 38 (List.replicate 2 lb0) (cel ELb (List.replicate (2 - 2) lb0))), (some b18, .cells (cel E64 ([1#64, 0#64])).toArray 38 (0, 0)), (some b11, .cells #[i64 ((2 : Int)), .slice (ownA (some b1)) 1 1, .slice (ownA (some b6)) 1 1] 70 (0, 0)), ((some b6), sob EI 3 ([(2 : Int)]) ([])), ((some b1), sob EG 99 ([⟨(2 : Int), (0 : Int), (1 : Int)⟩] : List Gt) ([]))] | 2, [v0, v1] => ∃ (b28 : Nat) (k38 : Option Nat) (c39 : Nat) (z40 : List Value) (k41 : Option Nat) (c42 : Nat) (z43 : List Value), v0 = .slice (ownA (some b28)) 2 2 ∧ v1 = .tuple #[.slice (ownA k38) (((gS lhash (1#64, 0#64) (0#64) ([⟨(2 : Int), (0 : Int), (1 : Int)⟩] : List Gt) (List.replicate 2 lb0) 1).2).length) c39, .slice (ownA k41) ((oL (gS lhash (1#64, 0#64) (0#64) ([⟨(2 : Int), (0 : Int), (1 : Int)⟩] : List Gt) (List.replicate 2 lb0) 1).1 ([(2 : Int)]) 1).length) c42, .nilIface] ∧ Sl ELb k38 ((gS lhash (1#64, 0#64) (0#64) ([⟨(2 : Int), (0 : Int), (1 : Int)⟩] : List Gt) (List.replicate 2 lb0) 1).2) c39 z40 ∧ Sl ELb k41 (oL (gS lhash (1#64, 0#64) (0#64) ([⟨(2 : Int), (0 : Int), (1 : Int)⟩] : List Gt) (List.replicate 2 lb0) 1).1 ([(2 : Int)]) 1) c42 z43 ∧ Sl ELb (some b28) (List.replicate 2 lb0) 2 (cel ELb (List.replicate (2 - 2) lb0)) ∧ Ext w22 w' ∧ Hp No w w' [(k38, sob ELb 38 ((gS lhash (1#64, 0#64) (0#64) ([⟨(2 : Int), (0 : Int), (1 : Int)⟩] : List Gt) (List.replicate 2 lb0) 1).2) z40), (k41, sob ELb 38 (oL (gS lhash (1#64, 0#64) (0#64) ([⟨(2 : Int), (0 : Int), (1 : Int)⟩] : List Gt) (List.replicate 2 lb0) 1).1 ([(2 : Int)]) 1) z43), ((some b28), sob ELb 38 (List.replicate 2 lb0) (cel ELb (List.replicate (2 - 2) lb0))), (some b18, .cells (cel E64 ([1#64, 0#64])).toArray 38 (0, 0)), (some b11, .cells #[i64 ((2 : Int)), .slice (ownA (some b1)) 1 1, .slice (ownA (some b6)) 1 1] 70 (0, 0)), ((some b6), sob EI 3 ([(2 : Int)]) ([])), ((some b1), sob EG 99 ([⟨(2 : Int), (0 : Int), (1 : Int)⟩] : List Gt) ([]))] | _, _ => False) mixed (by kernel_rfl) (by kernel_rfl) ⟨Ext.drew _, H23'.drew⟩ ?_
 refine WalkC.look rfl (fun _ => .agg #[i64 ((2 : Int)), .slice (ownA (some b1)) 1 1, .slice (ownA (some b6)) 1 1]) (fun _ _ _ => rfl) (fun q r uw hlo hhi hle hF => ?_) ?_
 ·skip
  have h1 : 0 ≤ q := Nat.zero_le _
  have h2 : q ≤ 1 := hhi 1 3 rfl rfl
  rcases (show q = 0 ∨ q = 1 by omega) with rfl | rfl
  ·skip
   obtain ⟨hX, HH⟩ := hF
   exact Gives.run rfl (r_loadA (cs' := #[i64 ((2 : Int)), .slice (ownA (some b1)) 1 1, .slice (ownA (some b6)) 1 1]) agg70 siz70 (HH.get (k := 1) rfl) (off := 0) rfl (by exact bLe rfl) (by rfl)) ⟨rfl, rfl⟩
  ·skip
   obtain ⟨b28, e2, hS29, hX, HH⟩ := hF
   exact Gives.run rfl (r_loadA (cs' := #[i64 ((2 : Int)), .slice (ownA (some b1)) 1 1, .slice (ownA (some b6)) 1 1]) agg70 siz70 (HH.get (k := 2) rfl) (off := 0) rfl (by exact bLe rfl) (by rfl)) ⟨rfl, rfl⟩
 refine WalkC.look rfl (fun _ => .agg (cel E64 ([1#64, 0#64])).toArray) (fun _ _ _ => rfl) (fun q r uw hlo hhi hle hF => ?_) ?_
 ·skip
  have h1 : 0 ≤ q := Nat.zero_le _
  have h2 : q ≤ 1 := hhi 1 3 rfl rfl
  rcases (show q = 0 ∨ q = 1 by omega) with rfl | rfl
  ·skip
   obtain ⟨hX, HH⟩ := hF
   exact Gives.run rfl (r_loadA (cs' := (cel E64 ([1#64, 0#64])).toArray) agg38 siz38 (HH.get (k := 0) rfl) (off := 0) rfl (by exact bLe rfl) (by exact ext_all rfl)) ⟨rfl, rfl⟩
  ·skip
   obtain ⟨b28, e2, hS29, hX, HH⟩ := hF
   exact Gives.run rfl (r_loadA (cs' := (cel E64 ([1#64, 0#64])).toArray) agg38 siz38 (HH.get (k := 1) rfl) (off := 0) rfl (by exact bLe rfl) (by exact ext_all rfl)) ⟨rfl, rfl⟩
 refine WalkC.eff 0 rfl (fun r uw25 hF27 => ?_) ?_
 ·skip
  obtain ⟨hX, H26⟩ := hF27
  dsimp only [List.take, List.map, List.cons_append, List.nil_append]
  refine Gives.ofW (d := 19) rfl rfl (fun Q' hK => ?_)
  refine q_makeSlice (E := ELb) (m := 2) (c := 2) (z0 := lb0) H26 sli92 zer38 rfl byt38 rfl rfl (by first | rfl | omega | (simp; omega)) (by first | rfl | omega | (simp; omega)) (by omega) (by omega) ?_
  intro b28 w30 hS29 H31 hE32
  exact hK _ _ ⟨b28, rfl, hS29, (hX.trans hE32), H31⟩
 refine WalkC.eff 1 rfl (fun r uw33 hF35 => ?_) ?_
 ·skip
  obtain ⟨b28, e2, hS29, hX, H34⟩ := hF35
  dsimp only [List.take, List.map, List.cons_append, List.nil_append]
  rw [e2]
  refine Gives.ofW (d := 20) rfl rfl (fun Q' hK => ?_)
  refine c_call (vs := [.agg #[i64 ((2 : Int)), .slice (ownA (some b1)) 1 1, .slice (ownA (some b6)) 1 1], .agg (cel E64 ([1#64, 0#64])).toArray, .slice (ownA (some b28)) 2 2, u64 (0#64)]) call45 rfl (garble_ok (2 : Int) ([⟨(2 : Int), (0 : Int), (1 : Int)⟩] : List Gt) ([(2 : Int)]) (ownA (some b1)) (ownA (some b6)) 1 1 (1#64, 0#64) (List.replicate 2 lb0) (ownA (some b28)) 2 (0#64) uw33 (Chg.gl H34.chg (fun x => x) hG) (H34.rd (k := 4) rfl hS2) (H34.rd (k := 3) rfl hS7) (by first | omega | exact bLe rfl) (by first | omega | exact bLe rfl) (H34.rd (k := 0) rfl hS29) aw_is rfl rfl) ?_
  rintro _ w36 ⟨k38, c39, z40, k41, c42, z43, rfl, hS44, hS45, HN46⟩
  have H47 := (H34.join HN46).as (L' := [(k38, sob ELb 38 ((gS lhash (1#64, 0#64) (0#64) ([⟨(2 : Int), (0 : Int), (1 : Int)⟩] : List Gt) (List.replicate 2 lb0) 1).2) z40), (k41, sob ELb 38 (oL (gS lhash (1#64, 0#64) (0#64) ([⟨(2 : Int), (0 : Int), (1 : Int)⟩] : List Gt) (List.replicate 2 lb0) 1).1 ([(2 : Int)]) 1) z43), ((some b28), sob ELb 38 (List.replicate 2 lb0) (cel ELb (List.replicate (2 - 2) lb0))), (some b18, .cells (cel E64 ([1#64, 0#64])).toArray 38 (0, 0)), (some b11, .cells #[i64 ((2 : Int)), .slice (ownA (some b1)) 1 1, .slice (ownA (some b6)) 1 1] 70 (0, 0)), ((some b6), sob EI 3 ([(2 : Int)]) ([])), ((some b1), sob EG 99 ([⟨(2 : Int), (0 : Int), (1 : Int)⟩] : List Gt) ([]))]) rfl
  exact hK _ _ ⟨b28, k38, c39, z40, k41, c42, z43, rfl, rfl, hS44, hS45, hS29, (hX.trans HN46.chg), H47⟩
 refine WalkC.look rfl (fun r => r 3) (fun r r' h => h 3 (by decide) rfl) (fun q r uw _ _ _ _ => Gives.run rfl (r_move rfl) ⟨rfl, rfl⟩) ?_
 refine WalkC.look rfl (fun r => proj (r 3) 0) (fun r r' h => by rw [h 3 (by decide) rfl]) (fun q r uw hlo hhi hle hF => ?_) ?_
 ·skip
  have h1 : 2 ≤ q := hlo 1 3 rfl rfl
  have h2 : q ≤ 2 := hle
  rcases (show q = 2 by omega) with rfl
  ·skip
   obtain ⟨b28, k38, c39, z40, k41, c42, z43, e2, e3, hS44, hS45, hS29, hX, HH⟩ := hF
   dsimp only
   rw [e3]
   exact Gives.run rfl (r_extract (vs := #[.slice (ownA k38) (((gS lhash (1#64, 0#64) (0#64) ([⟨(2 : Int), (0 : Int), (1 : Int)⟩] : List Gt) (List.replicate 2 lb0) 1).2).length) c39, .slice (ownA k41) ((oL (gS lhash (1#64, 0#64) (0#64) ([⟨(2 : Int), (0 : Int), (1 : Int)⟩] : List Gt) (List.replicate 2 lb0) 1).1 ([(2 : Int)]) 1).length) c42, .nilIface]) rfl rfl) ⟨rfl, rfl⟩
 refine WalkC.look rfl (fun r => proj (r 3) 1) (fun r r' h => by rw [h 3 (by decide) rfl]) (fun q r uw hlo hhi hle hF => ?_) ?_
 ·skip
  have h1 : 2 ≤ q := hlo 1 3 rfl rfl
  have h2 : q ≤ 2 := hle
  rcases (show q = 2 by omega) with rfl
  ·skip
   obtain ⟨b28, k38, c39, z40, k41, c42, z43, e2, e3, hS44, hS45, hS29, hX, HH⟩ := hF
   dsimp only
   rw [e3]
   exact Gives.run rfl (r_extract (vs := #[.slice (ownA k38) (((gS lhash (1#64, 0#64) (0#64) ([⟨(2 : Int), (0 : Int), (1 : Int)⟩] : List Gt) (List.replicate 2 lb0) 1).2).length) c39, .slice (ownA k41) ((oL (gS lhash (1#64, 0#64) (0#64) ([⟨(2 : Int), (0 : Int), (1 : Int)⟩] : List Gt) (List.replicate 2 lb0) 1).1 ([(2 : Int)]) 1).length) c42, .nilIface]) rfl rfl) ⟨rfl, rfl⟩
 refine WalkC.look rfl (fun r => proj (r 3) 2) (fun r r' h => by rw [h 3 (by decide) rfl]) (fun q r uw hlo hhi hle hF => ?_) ?_
 ·skip
  have h1 : 2 ≤ q := hlo 1 3 rfl rfl
  have h2 : q ≤ 2 := hle
  rcases (show q = 2 by omega) with rfl
  ·skip
   obtain ⟨b28, k38, c39, z40, k41, c42, z43, e2, e3, hS44, hS45, hS29, hX, HH⟩ := hF
   dsimp only
   rw [e3]
   exact Gives.run rfl (r_extract (vs := #[.slice (ownA k38) (((gS lhash (1#64, 0#64) (0#64) ([⟨(2 : Int), (0 : Int), (1 : Int)⟩] : List Gt) (List.replicate 2 lb0) 1).2).length) c39, .slice (ownA k41) ((oL (gS lhash (1#64, 0#64) (0#64) ([⟨(2 : Int), (0 : Int), (1 : Int)⟩] : List Gt) (List.replicate 2 lb0) 1).1 ([(2 : Int)]) 1).length) c42, .nilIface]) rfl rfl) ⟨rfl, rfl⟩
 refine WalkC.look rfl (fun r => proj (r 3) 0) (fun r r' h => by rw [h 3 (by decide) rfl]) (fun q r uw _ _ _ _ => Gives.run rfl (r_assign rfl) ⟨rfl, rfl⟩) ?_
 refine WalkC.look rfl (fun r => proj (r 3) 1) (fun r r' h => by rw [h 3 (by decide) rfl]) (fun q r uw _ _ _ _ => Gives.run rfl (r_assign rfl) ⟨rfl, rfl⟩) ?_
 refine WalkC.look rfl (fun r => proj (r 3) 2) (fun r r' h => by rw [h 3 (by decide) rfl]) (fun q r uw _ _ _ _ => Gives.run rfl (r_assign rfl) ⟨rfl, rfl⟩) ?_
 refine WalkC.nil ?_
 intro r48 w49 hF51
 obtain ⟨b28, k38, c39, z40, k41, c42, z43, e2, e3, hS44, hS45, hS29, hX, H50⟩ := hF51
 dsimp only
 rw [e2, e3]
 refine wnil ?_
 refine thenNormal ?_
 refine seqAny ?_
 refine sR ?_
 refine sM (.nilIface) rfl ?_
 refine sq (r_neqNN isI27 rfl rfl) ?_
 refine sM (.bool (false)) rfl ?_
 refine sqAny (v := .slice (ownA k38) (((gS lhash (1#64, 0#64) (0#64) ([⟨(2 : Int), (0 : Int), (1 : Int)⟩] : List Gt) (List.replicate 2 lb0) 1).2).length) c39) (w' := w49) (wantedSome (d' := 26) (b := false) rfl rfl rfl) (r_move (v := .slice (ownA k38) (((gS lhash (1#64, 0#64) (0#64) ([⟨(2 : Int), (0 : Int), (1 : Int)⟩] : List Gt) (List.replicate 2 lb0) 1).2).length) c39) rfl) ?_
 refine sqAny (v := i64 ((((gS lhash (1#64, 0#64) (0#64) ([⟨(2 : Int), (0 : Int), (1 : Int)⟩] : List Gt) (List.replicate 2 lb0) 1).2).length : Nat))) (w' := w49) (wantedSome (d' := 26) (b := false) rfl rfl rfl) (r_lenS sli92 (a := ownA k38) (m := ((gS lhash (1#64, 0#64) (0#64) ([⟨(2 : Int), (0 : Int), (1 : Int)⟩] : List Gt) (List.replicate 2 lb0) 1).2).length) (c := c39) rfl) ?_
 refine sqAny (v := .bool (false)) (w' := w49) (wantedSome (d' := 26) (b := false) rfl rfl rfl) ((r_neqI (a := (((gS lhash (1#64, 0#64) (0#64) ([⟨(2 : Int), (0 : Int), (1 : Int)⟩] : List Gt) (List.replicate 2 lb0) 1).2).length : Nat)) (b := (2 : Int)) rfl rfl).as (v' := .bool (false)) (by rfl)) ?_
 refine sq (r_pickF (v := .bool (false)) rfl rfl) ?_
 refine sM (.bool (false)) rfl ?_
 refine sqAny (v := .slice (ownA k41) ((oL (gS lhash (1#64, 0#64) (0#64) ([⟨(2 : Int), (0 : Int), (1 : Int)⟩] : List Gt) (List.replicate 2 lb0) 1).1 ([(2 : Int)]) 1).length) c42) (w' := w49) (wantedSome (d' := 31) (b := false) rfl rfl rfl) (r_move (v := .slice (ownA k41) ((oL (gS lhash (1#64, 0#64) (0#64) ([⟨(2 : Int), (0 : Int), (1 : Int)⟩] : List Gt) (List.replicate 2 lb0) 1).1 ([(2 : Int)]) 1).length) c42) rfl) ?_
 refine sqAny (v := i64 (((oL (gS lhash (1#64, 0#64) (0#64) ([⟨(2 : Int), (0 : Int), (1 : Int)⟩] : List Gt) (List.replicate 2 lb0) 1).1 ([(2 : Int)]) 1).length : Nat))) (w' := w49) (wantedSome (d' := 31) (b := false) rfl rfl rfl) (r_lenS sli92 (a := ownA k41) (m := (oL (gS lhash (1#64, 0#64) (0#64) ([⟨(2 : Int), (0 : Int), (1 : Int)⟩] : List Gt) (List.replicate 2 lb0) 1).1 ([(2 : Int)]) 1).length) (c := c42) rfl) ?_
 refine sqAny (v := .bool (false)) (w' := w49) (wantedSome (d' := 31) (b := false) rfl rfl rfl) ((r_neqI (a := ((oL (gS lhash (1#64, 0#64) (0#64) ([⟨(2 : Int), (0 : Int), (1 : Int)⟩] : List Gt) (List.replicate 2 lb0) 1).1 ([(2 : Int)]) 1).length : Nat)) (b := (1 : Int)) rfl rfl).as (v' := .bool (false)) (by rfl)) ?_
 refine sq (r_pickF (v := .bool (false)) rfl rfl) ?_
 refine wend ?_
 refine condFalse rfl ?_
 refine skipAny ?_
 refine thenNormal ?_
 refine sR ?_
 refine sq (r_loadA (cs' := #[i64 ((2 : Int)), .slice (ownA (some b1)) 1 1, .slice (ownA (some b6)) 1 1]) agg70 siz70 (H50.get (k := 4) rfl) (off := 0) rfl (by exact bLe rfl) (by rfl)) ?_
 refine sq (r_loadA (cs' := (cel E64 ([1#64, 0#64])).toArray) agg38 siz38 (H50.get (k := 3) rfl) (off := 0) rfl (by exact bLe rfl) (by exact ext_all rfl)) ?_
 refine sq (r_loadA (cs' := (cel E64 ([1#64, 0#64])).toArray) agg38 siz38 (H50.get (k := 3) rfl) (off := 0) rfl (by exact bLe rfl) (by exact ext_all rfl)) ?_
 refine q_buildSlice (E := ELb) (l := ([(1#64, 0#64), (1#64, 0#64)] : List LbT)) H50 sli92 zer38 (bLe rfl) (ps := [(0, .agg (cel E64 ([1#64, 0#64])).toArray), (1, .agg (cel E64 ([1#64, 0#64])).toArray)]) rfl (by exact fillAll rfl rfl) rfl ?_
 intro b52 w54 hS53 H55 hE56
 refine sM (.slice (ownA k38) (((gS lhash (1#64, 0#64) (0#64) ([⟨(2 : Int), (0 : Int), (1 : Int)⟩] : List Gt) (List.replicate 2 lb0) 1).2).length) c39) rfl ?_
 refine c_call (vs := [.agg #[i64 ((2 : Int)), .slice (ownA (some b1)) 1 1, .slice (ownA (some b6)) 1 1], .slice (ownA (some b52)) 2 2, .slice (ownA k38) (((gS lhash (1#64, 0#64) (0#64) ([⟨(2 : Int), (0 : Int), (1 : Int)⟩] : List Gt) (List.replicate 2 lb0) 1).2).length) c39, u64 (0#64)]) call46 rfl (eval_ok (2 : Int) ([⟨(2 : Int), (0 : Int), (1 : Int)⟩] : List Gt) ([(2 : Int)]) (ownA (some b1)) (ownA (some b6)) 1 1 ([(1#64, 0#64), (1#64, 0#64)] : List LbT) ((gS lhash (1#64, 0#64) (0#64) ([⟨(2 : Int), (0 : Int), (1 : Int)⟩] : List Gt) (List.replicate 2 lb0) 1).2) (ownA (some b52)) (ownA k38) 2 c39 (0#64) w54 (Chg.gl H55.chg (fun x => x) hG) (H55.rd (k := 7) rfl hS2) (H55.rd (k := 6) rfl hS7) (by first | omega | exact bLe rfl) (by first | omega | exact bLe rfl) (H55.rd (k := 0) rfl hS53) (H55.rd (k := 1) rfl hS44) aw_is rfl rfl) ?_
 rintro _ w57 ⟨k59, c60, z61, rfl, hS62, HN63⟩
 have H64 := (H55.join HN63).as (L' := [(k59, sob ELb 38 (oL (eS lhash (0#64) ([⟨(2 : Int), (0 : Int), (1 : Int)⟩] : List Gt) ((gS lhash (1#64, 0#64) (0#64) ([⟨(2 : Int), (0 : Int), (1 : Int)⟩] : List Gt) (List.replicate 2 lb0) 1).2) ([(1#64, 0#64), (1#64, 0#64)] : List LbT) 1).1 ([(2 : Int)]) 1) z61), ((some b52), sob ELb 38 ([(1#64, 0#64), (1#64, 0#64)] : List LbT) ([])), (k38, sob ELb 38 ((gS lhash (1#64, 0#64) (0#64) ([⟨(2 : Int), (0 : Int), (1 : Int)⟩] : List Gt) (List.replicate 2 lb0) 1).2) z40), (k41, sob ELb 38 (oL (gS lhash (1#64, 0#64) (0#64) ([⟨(2 : Int), (0 : Int), (1 : Int)⟩] : List Gt) (List.replicate 2 lb0) 1).1 ([(2 : Int)]) 1) z43), ((some b28), sob ELb 38 (List.replicate 2 lb0) (cel ELb (List.replicate (2 - 2) lb0))), (some b18, .cells (cel E64 ([1#64, 0#64])).toArray 38 (0, 0)), (some b11, .cells #[i64 ((2 : Int)), .slice (ownA (some b1)) 1 1, .slice (ownA (some b6)) 1 1] 70 (0, 0)), ((some b6), sob EI 3 ([(2 : Int)]) ([])), ((some b1), sob EG 99 ([⟨(2 : Int), (0 : Int), (1 : Int)⟩] : List Gt) ([]))]) rfl
 refine sM (.tuple #[.slice (ownA k59) 1 c60, .nilIface]) rfl ?_
 refine sq (r_extract (vs := #[.slice (ownA k59) 1 c60, .nilIface]) rfl rfl) ?_
 refine sq (r_extract (vs := #[.slice (ownA k59) 1 c60, .nilIface]) rfl rfl) ?_
 refine sA (.slice (ownA k59) 1 c60) rfl ?_
 refine sA (.nilIface) rfl ?_
 refine wend ?_
 refine seqAny ?_
 refine drawC (m := 11) [0, 0, 0, 7, 15, 31, 31, 31, 63, 383, 1023] [2, 3] (fun q vs w' => match q, vs with | 0, [] => Ext w57 w' ∧ Hp No w w' [(k59, sob ELb 38 (oL (eS lhash (0#64) ([⟨(2 : Int), (0 : Int), (1 : Int)⟩] : List Gt) ((gS lhash (1#64, 0#64) (0#64) ([⟨(2 : Int), (0 : Int), (1 : Int)⟩] : List Gt) (List.replicate 2 lb0) 1).2) ([(1#64, 0#64), (1#64, 0#64)] : List LbT) 1).1 ([(2 : Int)]) 1) z61), ((some b52), sob ELb 38 ([(1#64, 0#64), (1#64, 0#64)] : List LbT) ([])), (k38, sob ELb 38 ((gS lhash (1#64, 0#64) (0#64) ([⟨(2 : Int), (0 : Int), (1 : Int)⟩] : List Gt) (List.replicate 2 lb0) 1).2) z40), (k41, sob ELb 38 (oL (gS lhash (1#64, 0#64) (0#64) ([⟨(2 : Int), (0 : Int), (1 : Int)⟩] : List Gt) (List.replicate 2 lb0) 1).1 ([(2 : Int)]) 1) z43), ((some b28), sob ELb 38 (List.replicate 2 lb0) (cel ELb (List.replicate (2 - 2) lb0))), (some b18, .cells (cel E64 ([1#64, 0#64])).toArray 38 (0, 0)), (some b11, .cells #[i64 ((2 : Int)), .slice (ownA (some b1)) 1 1, .slice (ownA (some b6)) 1 1] 70 (0, 0)), ((some b6), sob EI 3 ([(2 : Int)]) ([])), ((some b1), sob EG 99 ([⟨(2 : Int), (0 : Int), (1 : Int)⟩] : List Gt) ([]))] | 1, [v0] => ∃ (b68 : Nat), v0 = .slice (ownA (some b68)) 2 2 ∧ Sl ELb (some b68) (List.replicate 2 lb0) 2 (cel ELb (List.replicate (2 - 2) lb0)) ∧ Ext w57 w' ∧ Hp No w w' [((some b68), sob ELb 38 (List.replicate 2 lb0) (cel ELb (List.replicate (2 - 2) lb0))), (k59, sob ELb 38 (oL (eS lhash (0#64) ([⟨(2 : Int), (0 : Int), (1 : Int)⟩] : List Gt) ((gS lhash (1#64, 0#64) (0#64) ([⟨(2 : Int), (0 : Int), (1 : Int)⟩] : List Gt) (List.replicate 2 lb0) 1).2) ([(1#64, 0#64), (1#64, 0#64)] : List LbT) 1).1 ([(2 : Int)]) 1) z61), ((some b52), sob ELb 38 ([(1#64, 0#64), (1#64, 0#64)] : List LbT) ([])), (k38, sob ELb 38 ((gS lhash (1#64, 0#64) (0#64) ([⟨(2 : Int), (0 : Int), (1 : Int)⟩] : List Gt) (List.replicate 2 lb0) 1).2) z40), (k41, sob ELb 38 (oL (gS lhash (1#64, 0#64) (0#64) ([⟨(2 : Int), (0 : Int), (1 : Int)⟩] : List Gt) (List.replicate 2 lb0) 1).1 ([(2 : Int)]) 1) z43), ((some b28), sob ELb 38 (List.replicate 2 lb0) (cel ELb (List.replicate (2 - 2) lb0))), (some b18, .cells (cel E64 ([1#64, 0#64])).toArray 38 (0, 0)), (some b11, .cells #[i64 ((2 : Int)), .slice (ownA (some b1)) 1 1, .slice (ownA (some b6)) 1 1] 70 (0, 0)), ((some b6), sob EI 3 ([(2 : Int)]) ([])), ((some b1), sob EG 99 ([⟨(2 : Int), (0 : Int), (1 : Int)⟩] : List Gt) ([]))] | 2, [v0, v1] => ∃ (b68 : Nat) (lo84 : Nat) (T82 : TypeId) (x83 : Value), v0 = .slice (ownA (some b68)) 2 2 ∧ v1 = .tuple #[.slice none 0 0, .slice none 0 0, .iface T82 (x83)] ∧ Sl ELb (some b68) (List.replicate 2 lb0) 2 (cel ELb (List.replicate (2 - 2) lb0)) ∧ Er lo84 w' 100 1 (.iface T82 x83) ∧ b18 < lo84 ∧ b11 < lo84 ∧ Ext w57 w' ∧ Hp No w w' [((some b68), sob ELb 38 (List.replicate 2 lb0) (cel ELb (List.replicate (2 - 2) lb0))), (k59, sob ELb 38 (oL (eS lhash (0#64) ([⟨(2 : Int), (0 : Int), (1 : Int)⟩] : List Gt) ((gS lhash (1#64, 0#64) (0#64) ([⟨(2 : Int), (0 : Int), (1 : Int)⟩] : List Gt) (List.replicate 2 lb0) 1).2) ([(1#64, 0#64), (1#64, 0#64)] : List LbT) 1).1 ([(2 : Int)]) 1) z61), ((some b52), sob ELb 38 ([(1#64, 0#64), (1#64, 0#64)] : List LbT) ([])), (k38, sob ELb 38 ((gS lhash (1#64, 0#64) (0#64) ([⟨(2 : Int), (0 : Int), (1 : Int)⟩] : List Gt) (List.replicate 2 lb0) 1).2) z40), (k41, sob ELb 38 (oL (gS lhash (1#64, 0#64) (0#64) ([⟨(2 : Int), (0 : Int), (1 : Int)⟩] : List Gt) (List.replicate 2 lb0) 1).1 ([(2 : Int)]) 1) z43), ((some b28), sob ELb 38 (List.replicate 2 lb0) (cel ELb (List.replicate (2 - 2) lb0))), (some b18, .cells (cel E64 ([1#64, 0#64])).toArray 38 (0, 0)), (some b11, .cells #[i64 ((2 : Int)), .slice (ownA (some b1)) 1 1, .slice (ownA (some b6)) 1 1] 70 (0, 0)), ((some b6), sob EI 3 ([(2 : Int)]) ([])), ((some b1), sob EG 99 ([⟨(2 : Int), (0 : Int), (1 : Int)⟩] : List Gt) ([]))] | _, _ => False) mixed (by kernel_rfl) (by kernel_rfl) ⟨Ext.drew _, H64.drew⟩ ?_
 refine WalkC.look rfl (fun _ => .agg #[i64 ((2 : Int)), .slice (ownA (some b1)) 1 1, .slice (ownA (some b6)) 1 1]) (fun _ _ _ => rfl) (fun q r uw hlo hhi hle hF => ?_) ?_
 ·skip
  have h1 : 0 ≤ q := Nat.zero_le _
  have h2 : q ≤ 1 := hhi 1 3 rfl rfl
  rcases (show q = 0 ∨ q = 1 by omega) with rfl | rfl
  ·skip
   obtain ⟨hX, HH⟩ := hF
   exact Gives.run rfl (r_loadA (cs' := #[i64 ((2 : Int)), .slice (ownA (some b1)) 1 1, .slice (ownA (some b6)) 1 1]) agg70 siz70 (HH.get (k := 6) rfl) (off := 0) rfl (by exact bLe rfl) (by rfl)) ⟨rfl, rfl⟩
  ·skip
   obtain ⟨b68, e2, hS69, hX, HH⟩ := hF
   exact Gives.run rfl (r_loadA (cs' := #[i64 ((2 : Int)), .slice (ownA (some b1)) 1 1, .slice (ownA (some b6)) 1 1]) agg70 siz70 (HH.get (k := 7) rfl) (off := 0) rfl (by exact bLe rfl) (by rfl)) ⟨rfl, rfl⟩
 refine WalkC.look rfl (fun _ => .agg (cel E64 [2#64, 0#64]).toArray) (fun _ _ _ => rfl) (fun q r uw _ _ _ _ => Gives.run rfl (r_buildA (cs' := (cel E64 [2#64, 0#64]).toArray) (ps := [(0, u64 (2#64)), (1, u64 (0#64))]) zer38 arr38 rfl (by rfl)) ⟨rfl, rfl⟩) ?_
 refine WalkC.eff 0 rfl (fun r uw65 hF67 => ?_) ?_
 ·skip
  obtain ⟨hX, H66⟩ := hF67
  dsimp only [List.take, List.map, List.cons_append, List.nil_append]
  refine Gives.ofW (d := 48) rfl rfl (fun Q' hK => ?_)
  refine q_makeSlice (E := ELb) (m := 2) (c := 2) (z0 := lb0) H66 sli92 zer38 rfl byt38 rfl rfl (by first | rfl | omega | (simp; omega)) (by first | rfl | omega | (simp; omega)) (by omega) (by omega) ?_
  intro b68 w70 hS69 H71 hE72
  exact hK _ _ ⟨b68, rfl, hS69, (hX.trans hE72), H71⟩
 refine WalkC.eff 1 rfl (fun r uw73 hF75 => ?_) ?_
 ·skip
  obtain ⟨b68, e2, hS69, hX, H74⟩ := hF75
  dsimp only [List.take, List.map, List.cons_append, List.nil_append]
  rw [e2]
  refine Gives.ofW (d := 49) rfl rfl (fun Q' hK => ?_)
  have := H74.lt (List.mem_of_getElem? (i := 6) rfl) rfl
  have := H74.lt (List.mem_of_getElem? (i := 7) rfl) rfl
  refine c_call (vs := [.agg #[i64 ((2 : Int)), .slice (ownA (some b1)) 1 1, .slice (ownA (some b6)) 1 1], .agg (cel E64 [2#64, 0#64]).toArray, .slice (ownA (some b68)) 2 2, u64 (0#64)]) call45 rfl (garble_delta (2 : Int) ([⟨(2 : Int), (0 : Int), (1 : Int)⟩] : List Gt) ([(2 : Int)]) (ownA (some b1)) (ownA (some b6)) 1 1 (2#64, 0#64) (List.replicate 2 lb0) (ownA (some b68)) 2 (0#64) uw73 (Chg.gl H74.chg (fun x => x) hG) (H74.rd (k := 9) rfl hS2) (H74.rd (k := 8) rfl hS7) (by first | omega | exact bLe rfl) (by first | omega | exact bLe rfl) (H74.rd (k := 0) rfl hS69) aw_is rfl rfl) ?_
  rintro _ w76 ⟨⟨v78, rfl, hEr79⟩, hE80⟩
  have H81 := H74.ext hE80
  obtain ⟨T82, x83, rfl⟩ := hEr79.iface
  obtain ⟨lo84, hlo85⟩ : ∃ lo, lo = uw73.heap.size := ⟨_, rfl⟩
  rw [← hlo85] at hEr79
  have hlt86 : b18 < lo84 := by omega
  have hlt87 : b11 < lo84 := by omega
  exact hK _ _ ⟨b68, lo84, T82, x83, rfl, rfl, hS69, hEr79, hlt86, hlt87, (hX.trans hE80), H81⟩
 refine WalkC.look rfl (fun r => r 3) (fun r r' h => h 3 (by decide) rfl) (fun q r uw _ _ _ _ => Gives.run rfl (r_move rfl) ⟨rfl, rfl⟩) ?_
 refine WalkC.look rfl (fun r => proj (r 3) 0) (fun r r' h => by rw [h 3 (by decide) rfl]) (fun q r uw hlo hhi hle hF => ?_) ?_
 ·skip
  have h1 : 2 ≤ q := hlo 1 3 rfl rfl
  have h2 : q ≤ 2 := hle
  rcases (show q = 2 by omega) with rfl
  ·skip
   obtain ⟨b68, lo84, T82, x83, e2, e3, hS69, hEr79, hlt86, hlt87, hX, HH⟩ := hF
   dsimp only
   rw [e3]
   exact Gives.run rfl (r_extract (vs := #[.slice none 0 0, .slice none 0 0, .iface T82 (x83)]) rfl rfl) ⟨rfl, rfl⟩
 refine WalkC.look rfl (fun r => proj (r 3) 1) (fun r r' h => by rw [h 3 (by decide) rfl]) (fun q r uw hlo hhi hle hF => ?_) ?_
 ·skip
  have h1 : 2 ≤ q := hlo 1 3 rfl rfl
  have h2 : q ≤ 2 := hle
  rcases (show q = 2 by omega) with rfl
  ·skip
   obtain ⟨b68, lo84, T82, x83, e2, e3, hS69, hEr79, hlt86, hlt87, hX, HH⟩ := hF
   dsimp only
   rw [e3]
   exact Gives.run rfl (r_extract (vs := #[.slice none 0 0, .slice none 0 0, .iface T82 (x83)]) rfl rfl) ⟨rfl, rfl⟩
 refine WalkC.look rfl (fun r => proj (r 3) 2) (fun r r' h => by rw [h 3 (by decide) rfl]) (fun q r uw hlo hhi hle hF => ?_) ?_
 ·skip
  have h1 : 2 ≤ q := hlo 1 3 rfl rfl
  have h2 : q ≤ 2 := hle
  rcases (show q = 2 by omega) with rfl
  ·skip
   obtain ⟨b68, lo84, T82, x83, e2, e3, hS69, hEr79, hlt86, hlt87, hX, HH⟩ := hF
   dsimp only
   rw [e3]
   exact Gives.run rfl (r_extract (vs := #[.slice none 0 0, .slice none 0 0, .iface T82 (x83)]) rfl rfl) ⟨rfl, rfl⟩
 refine WalkC.look rfl (fun r => proj (r 3) 0) (fun r r' h => by rw [h 3 (by decide) rfl]) (fun q r uw _ _ _ _ => Gives.run rfl (r_assign rfl) ⟨rfl, rfl⟩) ?_
 refine WalkC.look rfl (fun r => proj (r 3) 1) (fun r r' h => by rw [h 3 (by decide) rfl]) (fun q r uw _ _ _ _ => Gives.run rfl (r_assign rfl) ⟨rfl, rfl⟩) ?_
 refine WalkC.look rfl (fun r => proj (r 3) 2) (fun r r' h => by rw [h 3 (by decide) rfl]) (fun q r uw _ _ _ _ => Gives.run rfl (r_assign rfl) ⟨rfl, rfl⟩) ?_
 refine WalkC.nil ?_
 intro r88 w89 hF91
 obtain ⟨b68, lo84, T82, x83, e2, e3, hS69, hEr79, hlt86, hlt87, hX, H90⟩ := hF91
 dsimp only
 rw [e2, e3]
 refine wnil ?_
 refine thenNormal ?_
 refine seqAny ?_
 refine drawAny (K := [none, none, none, none, none, none, none, none, none, none, none, none, none, none, none, none, none, none, none, none, none, none, none]) [0, 1, 3, 7, 15, 31, 63, 127, 255, 511, 1023, 255, 2303, 6399, 255, 30975, 65535, 131071, 262143, 524287, 1048575, 2097151, 4194303] (fun w' => Ext w89 w') (fun w' w'' => Ext w' w'') mixed (by kernel_rfl) (Ext.drew _) (fun _ _ h h' => h.trans h') ?_ ?_
 ·exact relNone (by decide)
 refine ⟨.nilIface, fun _ uw92 hC93 _ => Gives.run rfl (r_move (v := .nilIface) rfl) ⟨rfl, Chg.refl _ _⟩, ?_⟩
 refine ⟨.bool (true), fun _ uw94 hC95 _ => Gives.run rfl (r_eqlNN isI27 rfl rfl) ⟨rfl, Chg.refl _ _⟩, ?_⟩
 refine ⟨.bool (true), fun _ uw96 hC97 _ => Gives.run rfl (r_move (v := .bool (true)) rfl) ⟨rfl, Chg.refl _ _⟩, ?_⟩
 refine ⟨.slice (ownA k59) 1 c60, fun _ uw98 hC99 _ => Gives.runW (wantedSome (d' := 55) (b := true) rfl rfl rfl) (r_move (v := .slice (ownA k59) 1 c60) rfl) ⟨rfl, Chg.refl _ _⟩, ?_⟩
 refine ⟨i64 (1 : Nat), fun _ uw100 hC101 _ => Gives.runW (wantedSome (d' := 55) (b := true) rfl rfl rfl) (r_lenS sli92 (a := ownA k59) (m := 1) (c := c60) rfl) ⟨rfl, Chg.refl _ _⟩, ?_⟩
 refine ⟨.bool (true), fun _ uw102 hC103 _ => Gives.runW (wantedSome (d' := 55) (b := true) rfl rfl rfl) ((r_eqlI (a := (1 : Nat)) (b := (1 : Int)) rfl rfl).as (v' := .bool (true)) (by rfl)) ⟨rfl, Chg.refl _ _⟩, ?_⟩
 refine ⟨.bool (true), fun _ uw104 hC105 _ => Gives.run rfl (r_pickT (u := .bool (true)) rfl rfl) ⟨rfl, Chg.refl _ _⟩, ?_⟩
 refine ⟨.bool (true), fun _ uw106 hC107 _ => Gives.run rfl (r_move (v := .bool (true)) rfl) ⟨rfl, Chg.refl _ _⟩, ?_⟩
 refine ⟨.slice (ownA k59) 1 c60, fun _ uw108 hC109 _ => Gives.runW (wantedSome (d' := 60) (b := true) rfl rfl rfl) (r_move (v := .slice (ownA k59) 1 c60) rfl) ⟨rfl, Chg.refl _ _⟩, ?_⟩
 refine ⟨.pointer (adr (ownA k59) (0 * 2)), fun _ uw110 hC111 _ => Gives.runW (wantedSome (d' := 60) (b := true) rfl rfl rfl) (r_idxS (E := ELb) (l := oL (eS lhash (0#64) ([⟨(2 : Int), (0 : Int), (1 : Int)⟩] : List Gt) ((gS lhash (1#64, 0#64) (0#64) ([⟨(2 : Int), (0 : Int), (1 : Int)⟩] : List Gt) (List.replicate 2 lb0) 1).2) ([(1#64, 0#64), (1#64, 0#64)] : List LbT) 1).1 ([(2 : Int)]) 1) (j := 0) sli92 ((H90.ext hC111).rd (k := 1) rfl hS62) rfl rfl (by first | rfl | omega | (simp; omega)) (by exact (oL_len _ _ _).symm) (by rw [oL_len]; decide)) ⟨rfl, Chg.refl _ _⟩, ?_⟩
 refine ⟨.agg (cel E64 [((oL (eS lhash (0#64) ([⟨(2 : Int), (0 : Int), (1 : Int)⟩] : List Gt) ((gS lhash (1#64, 0#64) (0#64) ([⟨(2 : Int), (0 : Int), (1 : Int)⟩] : List Gt) (List.replicate 2 lb0) 1).2) ([(1#64, 0#64), (1#64, 0#64)] : List LbT) 1).1 ([(2 : Int)]) 1).getD 0 lb0).1, ((oL (eS lhash (0#64) ([⟨(2 : Int), (0 : Int), (1 : Int)⟩] : List Gt) ((gS lhash (1#64, 0#64) (0#64) ([⟨(2 : Int), (0 : Int), (1 : Int)⟩] : List Gt) (List.replicate 2 lb0) 1).2) ([(1#64, 0#64), (1#64, 0#64)] : List LbT) 1).1 ([(2 : Int)]) 1).getD 0 lb0).2]).toArray, fun _ uw112 hC113 _ => Gives.runW (wantedSome (d' := 60) (b := true) rfl rfl rfl) ((r_ldS (E := ELb) (l := oL (eS lhash (0#64) ([⟨(2 : Int), (0 : Int), (1 : Int)⟩] : List Gt) ((gS lhash (1#64, 0#64) (0#64) ([⟨(2 : Int), (0 : Int), (1 : Int)⟩] : List Gt) (List.replicate 2 lb0) 1).2) ([(1#64, 0#64), (1#64, 0#64)] : List LbT) 1).1 ([(2 : Int)]) 1) (j := 0) (v := (oL (eS lhash (0#64) ([⟨(2 : Int), (0 : Int), (1 : Int)⟩] : List Gt) ((gS lhash (1#64, 0#64) (0#64) ([⟨(2 : Int), (0 : Int), (1 : Int)⟩] : List Gt) (List.replicate 2 lb0) 1).2) ([(1#64, 0#64), (1#64, 0#64)] : List LbT) 1).1 ([(2 : Int)]) 1).getD 0 lb0) fits38 ((H90.ext hC113).rd (k := 1) rfl hS62) rfl rfl (at_getD (by rw [oL_len]; decide))).as (v' := .agg (cel E64 [((oL (eS lhash (0#64) ([⟨(2 : Int), (0 : Int), (1 : Int)⟩] : List Gt) ((gS lhash (1#64, 0#64) (0#64) ([⟨(2 : Int), (0 : Int), (1 : Int)⟩] : List Gt) (List.replicate 2 lb0) 1).2) ([(1#64, 0#64), (1#64, 0#64)] : List LbT) 1).1 ([(2 : Int)]) 1).getD 0 lb0).1, ((oL (eS lhash (0#64) ([⟨(2 : Int), (0 : Int), (1 : Int)⟩] : List Gt) ((gS lhash (1#64, 0#64) (0#64) ([⟨(2 : Int), (0 : Int), (1 : Int)⟩] : List Gt) (List.replicate 2 lb0) 1).2) ([(1#64, 0#64), (1#64, 0#64)] : List LbT) 1).1 ([(2 : Int)]) 1).getD 0 lb0).2]).toArray) rfl) ⟨rfl, Chg.refl _ _⟩, ?_⟩
 refine ⟨.slice (ownA k41) ((oL (gS lhash (1#64, 0#64) (0#64) ([⟨(2 : Int), (0 : Int), (1 : Int)⟩] : List Gt) (List.replicate 2 lb0) 1).1 ([(2 : Int)]) 1).length) c42, fun _ uw114 hC115 _ => Gives.runW (wantedSome (d' := 60) (b := true) rfl rfl rfl) (r_move (v := .slice (ownA k41) ((oL (gS lhash (1#64, 0#64) (0#64) ([⟨(2 : Int), (0 : Int), (1 : Int)⟩] : List Gt) (List.replicate 2 lb0) 1).1 ([(2 : Int)]) 1).length) c42) rfl) ⟨rfl, Chg.refl _ _⟩, ?_⟩
 refine ⟨.pointer (adr (ownA k41) (0 * 2)), fun _ uw116 hC117 _ => Gives.runW (wantedSome (d' := 60) (b := true) rfl rfl rfl) (r_idxS (E := ELb) (l := oL (gS lhash (1#64, 0#64) (0#64) ([⟨(2 : Int), (0 : Int), (1 : Int)⟩] : List Gt) (List.replicate 2 lb0) 1).1 ([(2 : Int)]) 1) (j := 0) sli92 ((H90.ext hC117).rd (k := 4) rfl hS45) rfl rfl (by first | rfl | omega | (simp; omega)) (by first | rfl | omega | (simp; omega) | (simp at *; omega)) (by rw [oL_len]; decide)) ⟨rfl, Chg.refl _ _⟩, ?_⟩
 refine ⟨.agg (cel E64 [((oL (gS lhash (1#64, 0#64) (0#64) ([⟨(2 : Int), (0 : Int), (1 : Int)⟩] : List Gt) (List.replicate 2 lb0) 1).1 ([(2 : Int)]) 1).getD 0 lb0).1, ((oL (gS lhash (1#64, 0#64) (0#64) ([⟨(2 : Int), (0 : Int), (1 : Int)⟩] : List Gt) (List.replicate 2 lb0) 1).1 ([(2 : Int)]) 1).getD 0 lb0).2]).toArray, fun _ uw118 hC119 _ => Gives.runW (wantedSome (d' := 60) (b := true) rfl rfl rfl) ((r_ldS (E := ELb) (l := oL (gS lhash (1#64, 0#64) (0#64) ([⟨(2 : Int), (0 : Int), (1 : Int)⟩] : List Gt) (List.replicate 2 lb0) 1).1 ([(2 : Int)]) 1) (j := 0) (v := (oL (gS lhash (1#64, 0#64) (0#64) ([⟨(2 : Int), (0 : Int), (1 : Int)⟩] : List Gt) (List.replicate 2 lb0) 1).1 ([(2 : Int)]) 1).getD 0 lb0) fits38 ((H90.ext hC119).rd (k := 4) rfl hS45) rfl rfl (at_getD (by rw [oL_len]; decide))).as (v' := .agg (cel E64 [((oL (gS lhash (1#64, 0#64) (0#64) ([⟨(2 : Int), (0 : Int), (1 : Int)⟩] : List Gt) (List.replicate 2 lb0) 1).1 ([(2 : Int)]) 1).getD 0 lb0).1, ((oL (gS lhash (1#64, 0#64) (0#64) ([⟨(2 : Int), (0 : Int), (1 : Int)⟩] : List Gt) (List.replicate 2 lb0) 1).1 ([(2 : Int)]) 1).getD 0 lb0).2]).toArray) rfl) ⟨rfl, Chg.refl _ _⟩, ?_⟩
 refine ⟨.agg (cel E64 ([1#64, 0#64])).toArray, fun _ uw120 hC121 _ => Gives.runW (wantedSome (d' := 60) (b := true) rfl rfl rfl) (r_loadA (cs' := (cel E64 ([1#64, 0#64])).toArray) agg38 siz38 ((H90.ext hC121).get (k := 6) rfl) (off := 0) rfl (by exact bLe rfl) (by exact ext_all rfl)) ⟨rfl, Chg.refl _ _⟩, ?_⟩
 refine ⟨.agg (cel E64 [(lx ((oL (gS lhash (1#64, 0#64) (0#64) ([⟨(2 : Int), (0 : Int), (1 : Int)⟩] : List Gt) (List.replicate 2 lb0) 1).1 ([(2 : Int)]) 1).getD 0 lb0) (lw true (1#64, 0#64))).1, (lx ((oL (gS lhash (1#64, 0#64) (0#64) ([⟨(2 : Int), (0 : Int), (1 : Int)⟩] : List Gt) (List.replicate 2 lb0) 1).1 ([(2 : Int)]) 1).getD 0 lb0) (lw true (1#64, 0#64))).2]).toArray, fun _ uw122 hC123 _ => Gives.callW (wantedSome (d' := 60) (b := true) rfl rfl rfl) (Enters.callL (vs := [.agg (cel E64 [((oL (gS lhash (1#64, 0#64) (0#64) ([⟨(2 : Int), (0 : Int), (1 : Int)⟩] : List Gt) (List.replicate 2 lb0) 1).1 ([(2 : Int)]) 1).getD 0 lb0).1, ((oL (gS lhash (1#64, 0#64) (0#64) ([⟨(2 : Int), (0 : Int), (1 : Int)⟩] : List Gt) (List.replicate 2 lb0) 1).1 ([(2 : Int)]) 1).getD 0 lb0).2]).toArray, .agg (cel E64 ([1#64, 0#64])).toArray, .bool (true)]) call48 rfl) (label_ok ((oL (gS lhash (1#64, 0#64) (0#64) ([⟨(2 : Int), (0 : Int), (1 : Int)⟩] : List Gt) (List.replicate 2 lb0) 1).1 ([(2 : Int)]) 1).getD 0 lb0) (1#64, 0#64) true uw122), ?_⟩
 refine ⟨.bool (true), fun _ uw124 hC125 _ => Gives.runW (wantedSome (d' := 60) (b := true) rfl rfl rfl) ((r_eqlA (E := E64) (l := [((oL (eS lhash (0#64) ([⟨(2 : Int), (0 : Int), (1 : Int)⟩] : List Gt) ((gS lhash (1#64, 0#64) (0#64) ([⟨(2 : Int), (0 : Int), (1 : Int)⟩] : List Gt) (List.replicate 2 lb0) 1).2) ([(1#64, 0#64), (1#64, 0#64)] : List LbT) 1).1 ([(2 : Int)]) 1).getD 0 lb0).1, ((oL (eS lhash (0#64) ([⟨(2 : Int), (0 : Int), (1 : Int)⟩] : List Gt) ((gS lhash (1#64, 0#64) (0#64) ([⟨(2 : Int), (0 : Int), (1 : Int)⟩] : List Gt) (List.replicate 2 lb0) 1).2) ([(1#64, 0#64), (1#64, 0#64)] : List LbT) 1).1 ([(2 : Int)]) 1).getD 0 lb0).2]) (l' := [(lx ((oL (gS lhash (1#64, 0#64) (0#64) ([⟨(2 : Int), (0 : Int), (1 : Int)⟩] : List Gt) (List.replicate 2 lb0) 1).1 ([(2 : Int)]) 1).getD 0 lb0) (lw true (1#64, 0#64))).1, (lx ((oL (gS lhash (1#64, 0#64) (0#64) ([⟨(2 : Int), (0 : Int), (1 : Int)⟩] : List Gt) (List.replicate 2 lb0) 1).1 ([(2 : Int)]) 1).getD 0 lb0) (lw true (1#64, 0#64))).2]) gty38 und38 fits32 (eqAt64 und32) (rfl) (rfl) rfl rfl).as (v' := .bool (true)) (by exact congrArg Value.bool (decide_eq_true (by rw [aw_right])))) ⟨rfl, Chg.refl _ _⟩, ?_⟩
 refine ⟨.bool (true), fun _ uw126 hC127 _ => Gives.run rfl (r_pickT (u := .bool (true)) rfl rfl) ⟨rfl, Chg.refl _ _⟩, ?_⟩
 refine ⟨.bool (true), fun _ uw128 hC129 _ => Gives.run rfl (r_move (v := .bool (true)) rfl) ⟨rfl, Chg.refl _ _⟩, ?_⟩
 refine ⟨.iface T82 (x83), fun _ uw130 hC131 _ => Gives.runW (wantedSome (d' := 71) (b := true) rfl rfl rfl) (r_move (v := .iface T82 (x83)) rfl) ⟨rfl, Chg.refl _ _⟩, ?_⟩
 refine ⟨.bool (true), fun _ uw132 hC133 _ => Gives.callW (wantedSome (d' := 71) (b := true) rfl rfl rfl) (Enters.callL (vs := [.iface T82 (x83), i64 ((100 : Int))]) call24 rfl) (is_ok 100 (100 : Int) 1 (.iface T82 (x83)) lo84 uw132 ((hEr79.ext hC133))), ?_⟩
 refine ⟨.bool (true), fun _ uw134 hC135 _ => Gives.run rfl (r_pickT (u := .bool (true)) rfl rfl) ⟨rfl, Chg.refl _ _⟩, ?_⟩
 refine ⟨.bool (true), fun _ uw136 hC137 _ => Gives.run rfl (r_assign (v := .bool (true)) rfl) ⟨rfl, Chg.refl _ _⟩, ?_⟩
 intro r141 w138 hE140 hF
 have H139 := H90.ext hE140
 refine wnil ?_
 refine thenNormal ?_
 refine retAny ?_
 refine retG (rs := [.tmp 0]) (vs := [.bool (true)]) rfl ⟨⟨rfl, rfl⟩, trivial⟩ ?_
 exact ⟨_, rfl, rfl, H139.chg⟩
end Go.Proofs.YteofdmdpaejgaaaDoor.Gb
namespace Go.Proofs.YteofdmdpaejgaaaDoor.Gb
open Go Go.Proofs.YteofdmdpaejgaaaDoor.Vc Go.Proofs.YteofdmdpaejgaaaDoor.Er Go.Proofs.YteofdmdpaejgaaaDoor.Circ
set_option linter.unusedVariables false
theorem call41 : callable Tryd.prog 41 = true := by kernel_rfl
theorem call42 : callable Tryd.prog 42 = true := by kernel_rfl
theorem call43 : callable Tryd.prog 43 = true := by kernel_rfl
theorem call47 : callable Tryd.prog 47 = true := by kernel_rfl
theorem fld94_0 : fld Tryd.prog 94 0 = some (0, 2, 38) := by kernel_rfl
theorem fld94_2 : fld Tryd.prog 94 2 = some (3, 1, 32) := by kernel_rfl
theorem siz32 : siz Tryd.prog 32 = some 1 := by kernel_rfl
end Go.Proofs.YteofdmdpaejgaaaDoor.Gb
namespace Go.Proofs.YteofdmdpaejgaaaDoor.Gb
open Go Go.Proofs.YteofdmdpaejgaaaDoor.Vc Go.Proofs.YteofdmdpaejgaaaDoor.Er Go.Proofs.YteofdmdpaejgaaaDoor.Circ
set_option linter.unusedVariables false
theorem call91 : callable Tryd.prog 91 = true := by kernel_rfl
theorem rlx_ok (a b : Lb) (w : World) : Calls Tryd.prog 50 [.agg (cel E64 [(a).1, (a).2]).toArray, .agg (cel E64 [(b).1, (b).2]).toArray].toArray w (Ret fun v w' => v = .agg (cel E64 [(lx a b).1, (lx a b).2]).toArray ∧ Ext w w') := by
 have H := Hp.start No w
 refine enter (n := 16) Tryd.func50 rfl rfl (bLe rfl) ?_
 refine sR ?_
 refine q_box (v := .agg (cel E64 [(a).1, (a).2]).toArray) (o := lO (a)) H rfl (by rfl) ?_
 intro b1 w2 hb1 H3 hE4
 refine q_box (v := .agg (cel E64 [(b).1, (b).2]).toArray) (o := lO (b)) H3 rfl (by rfl) ?_
 intro b5 w6 hb5 H7 hE8
 refine q_alloc (o := .cells (cel E64 ([0#64, 0#64])).toArray 38 (0, 0)) H7 zer38 (by kernel_rfl) ?_
 intro b9 w10 hb9 H11 hE12
 refine wend ?_
 refine sR ?_
 refine sq (r_indexA (off' := 0) (j := 0) arr38 (b := b1) (off := 0) rfl rfl (by first | rfl | omega | (simp; omega)) (by omega) (by omega)) ?_
 refine sq (r_ld1 (E := E64) (l := [(a).1, (a).2]) (j := 0) (a := (a).1) fits32 (H11.get (k := 2) rfl) (by rfl) rfl rfl) ?_
 refine sq (r_indexA (off' := 0) (j := 0) arr38 (b := b5) (off := 0) rfl rfl (by first | rfl | omega | (simp; omega)) (by omega) (by omega)) ?_
 refine sq (r_ld1 (E := E64) (l := [(b).1, (b).2]) (j := 0) (a := (b).1) fits32 (H11.get (k := 1) rfl) (by rfl) rfl rfl) ?_
 refine sq (r_xor64 (a := (a).1) (b := (b).1) rfl rfl) ?_
 refine sq (r_indexA (off' := 1) (j := 1) arr38 (b := b1) (off := 0) rfl rfl (by first | rfl | omega | (simp; omega)) (by omega) (by omega)) ?_
 refine sq (r_ld1 (E := E64) (l := [(a).1, (a).2]) (j := 1) (a := (a).2) fits32 (H11.get (k := 2) rfl) (by rfl) rfl rfl) ?_
 refine sq (r_indexA (off' := 1) (j := 1) arr38 (b := b5) (off := 0) rfl rfl (by first | rfl | omega | (simp; omega)) (by omega) (by omega)) ?_
 refine sq (r_ld1 (E := E64) (l := [(b).1, (b).2]) (j := 1) (a := (b).2) fits32 (H11.get (k := 1) rfl) (by rfl) rfl rfl) ?_
 refine sq (r_xor64 (a := (a).2) (b := (b).2) rfl rfl) ?_
 refine sq (r_buildA (cs' := (cel E64 [((a).1) ^^^ ((b).1), ((a).2) ^^^ ((b).2)]).toArray) (ps := [(0, u64 (((a).1) ^^^ ((b).1))), (1, u64 (((a).2) ^^^ ((b).2)))]) zer38 arr38 rfl (by rfl)) ?_
 refine d_store (k := 0) (v := .agg (cel E64 [((a).1) ^^^ ((b).1), ((a).2) ^^^ ((b).2)]).toArray) (cs' := (cel E64 ([((a).1) ^^^ ((b).1), ((a).2) ^^^ ((b).2)])).toArray) H11 rfl rfl rfl siz38 (by exact celSize (by first | rfl | (show _ * 1 = _; omega))) (by exact celOne _) (by rw [List.size_toArray, cel_length]; show _ ≤ _ * 1; first | omega | (simp only [List.length_set]; omega) | exact bLe rfl | (simp <;> omega)) (by exact putAll (by first | rfl | omega | (simp <;> omega))) ?_
 intro w13 H14 hC15
 have H14' := H14.as (L' := [(some b9, .cells (cel E64 ([((a).1) ^^^ ((b).1), ((a).2) ^^^ ((b).2)])).toArray 38 (0, 0)), (some b5, lO (b)), (some b1, lO (a))]) rfl
 clear H14
 refine wend ?_
 refine retAny ?_
 refine retG (rs := [.cell 4 38]) (vs := [.agg (cel E64 ([((a).1) ^^^ ((b).1), ((a).2) ^^^ ((b).2)])).toArray]) rfl ⟨r_loadA (cs' := (cel E64 ([((a).1) ^^^ ((b).1), ((a).2) ^^^ ((b).2)])).toArray) agg38 siz38 (H14'.get (k := 0) rfl) (off := 0) rfl (by exact bLe rfl) (by exact ext_all rfl), trivial⟩ ?_
 exact ⟨_, rfl, rfl, H14'.chg⟩
theorem rcolour_ok (a : Lb) (w : World) : Calls Tryd.prog 91 [.agg (cel E64 [(a).1, (a).2]).toArray].toArray w (Ret fun v w' => v = u64 (a.1 % 2#64) ∧ Ext w w') := by
 have H := Hp.start No w
 refine enter (n := 6) Tryd.func91 rfl rfl (bLe rfl) ?_
 refine sR ?_
 refine q_box (v := .agg (cel E64 [(a).1, (a).2]).toArray) (o := lO (a)) H rfl (by rfl) ?_
 intro b1 w2 hb1 H3 hE4
 refine sA (u64 (0#64)) rfl ?_
 refine wend ?_
 refine sR ?_
 refine sq (r_indexA (off' := 0) (j := 0) arr38 (b := b1) (off := 0) rfl rfl (by first | rfl | omega | (simp; omega)) (by omega) (by omega)) ?_
 refine sq (r_ld1 (E := E64) (l := [(a).1, (a).2]) (j := 0) (a := (a).1) fits32 (H3.get (k := 0) rfl) (by rfl) rfl rfl) ?_
 refine sq (r_rem64 (a := (a).1) (b := 2#64) rfl rfl (by decide)) ?_
 refine sA (u64 (((a).1) % (2#64))) rfl ?_
 refine wend ?_
 refine retAny ?_
 refine retG (rs := [.tmp 2]) (vs := [u64 (((a).1) % (2#64))]) rfl ⟨⟨rfl, rfl⟩, trivial⟩ ?_
 exact ⟨_, rfl, rfl, H3.chg⟩
end Go.Proofs.YteofdmdpaejgaaaDoor.Gb
namespace Go.Proofs.YteofdmdpaejgaaaDoor.Gb
open Go Go.Proofs.YteofdmdpaejgaaaDoor.Vc Go.Proofs.YteofdmdpaejgaaaDoor.Er Go.Proofs.YteofdmdpaejgaaaDoor.Circ
set_option linter.unusedVariables false
theorem byt4 : byt Tryd.prog 4 = some 1 := by kernel_rfl
theorem call35 : callable Tryd.prog 35 = true := by kernel_rfl
theorem call50 : callable Tryd.prog 50 = true := by kernel_rfl
theorem fits4 : Fits Tryd.prog 4 EB := fitsB (by kernel_rfl) (by kernel_rfl)
theorem sli76 : sli Tryd.prog 76 = some (4, 1) := by kernel_rfl
theorem zer4 : zer Tryd.prog 4 = some (.bool false) := by kernel_rfl
end Go.Proofs.YteofdmdpaejgaaaDoor.Gb
namespace Go.Proofs.YteofdmdpaejgaaaDoor.Gb
open Go Go.Proofs.YteofdmdpaejgaaaDoor.Vc Go.Proofs.YteofdmdpaejgaaaDoor.Er Go.Proofs.YteofdmdpaejgaaaDoor.Circ
set_option linter.unusedVariables false
theorem call26 : callable Tryd.prog 26 = true := by kernel_rfl
end Go.Proofs.YteofdmdpaejgaaaDoor.Gb
