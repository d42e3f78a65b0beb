/- What the claim has need of: Garb4, Garb5, Garb6, Garb7, Garb8, Garb9, AesRef, Garb13, TapeW. -/
import Derived.Test.YteofdmdpaejgaaaDoorGc4
namespace Go.Proofs.YteofdmdpaejgaaaDoor.Gb
open Go Go.Proofs.YteofdmdpaejgaaaDoor.Vc Go.Proofs.YteofdmdpaejgaaaDoor.Er Go.Proofs.YteofdmdpaejgaaaDoor.Circ
set_option linter.unusedVariables false
theorem call32 : callable Tryd.prog 32 = true := by kernel_rfl
set_option maxRecDepth 20000 in
set_option maxHeartbeats 16000000 in
theorem eval_ok (n : Int) (gs : List Gt) (ol : List Int) (ga oa : Option Addr) (gc oc : Nat) (ls tb : List Lb) (lsa tsa : Option Addr) (lsc tsc : Nat) (first : BitVec 64) (w : World) (hG : Gl w) (hGs : Rd EG w ga gs) (hOl : Rd EI w oa ol) (hgl : gs.length ≤ 140737488355328) (hol : ol.length ≤ 140737488355328) (hLs : Rd ELb w lsa ls) (hTb : Rd ELb w tsa tb) (hg : IsC n gs ol) (hm : (ls.length : Int) = n) (hc : tb.length = 2 * andsS gs gs.length) : Calls Tryd.prog 46 [.agg #[i64 n, .slice ga gs.length gc, .slice oa ol.length oc], .slice lsa ls.length lsc, .slice tsa tb.length tsc, u64 first].toArray w (Ret fun v w' => ∃ (k1 : Option Nat) (c1 : Nat) (z1 : List Value), v = .tuple #[.slice (ownA k1) ol.length c1, .nilIface] ∧ Sl ELb k1 (oL (eS lhash first gs tb ls gs.length).1 ol ol.length) c1 z1 ∧ Hp No w w' [(k1, sob ELb 38 (oL (eS lhash first gs tb ls gs.length).1 ol ol.length) z1)]) := by
 subst hm
 have hgt := hg.gates
 have hot := hg.outs
 have hhi := hg.hi
 have han := andsS_le gs gs.length
 have H := Hp.start No w
 refine enter (n := 122) Tryd.func46 rfl rfl (bLe rfl) ?_
 refine sR ?_
 refine q_box (v := .agg #[i64 (ls.length : Nat), .slice ga gs.length gc, .slice oa ol.length oc]) (o := .cells #[i64 (ls.length : Nat), .slice ga gs.length gc, .slice oa ol.length oc] 70 (0, 0)) H rfl (by rfl) ?_
 intro b1 w2 hb1 H3 hE4
 refine sA (.slice none 0 0) rfl ?_
 refine sA (.nilIface) rfl ?_
 refine wend ?_
 refine seqAny ?_
 refine sR ?_
 refine sq (r_loadA (cs' := #[i64 (ls.length : Nat), .slice ga gs.length gc, .slice oa ol.length oc]) agg70 siz70 (H3.get (k := 0) rfl) (off := 0) rfl (by exact bLe rfl) (by rfl)) ?_
 refine sM (.slice lsa ls.length lsc) rfl ?_
 refine sq (r_lenS sli92 (a := lsa) (m := ls.length) (c := lsc) rfl) ?_
 refine c_call (vs := [.agg #[i64 (ls.length : Nat), .slice ga gs.length gc, .slice oa ol.length oc], i64 (ls.length : Nat)]) call83 rfl (look_good (ls.length : Nat) gs ol ga oa gc oc ls.length w2 (Chg.gl H3.chg (fun x => x) hG) (hGs.ext H3.chg) (hOl.ext H3.chg) (by omega) (by omega) hg (by omega)) ?_
 rintro _ w5 ⟨rfl, hE6⟩
 have H7 := H3.ext hE6
 refine sA (.nilIface) rfl ?_
 refine wend ?_
 refine sR ?_
 refine sM (.nilIface) rfl ?_
 refine sq (r_neqNN isI27 rfl rfl) ?_
 refine wend ?_
 refine condFalse rfl ?_
 refine skipAny ?_
 refine thenNormal ?_
 refine seqAny ?_
 refine sR ?_
 refine sM (.slice tsa tb.length tsc) rfl ?_
 refine sq (r_lenS sli92 (a := tsa) (m := tb.length) (c := tsc) rfl) ?_
 refine sq (r_loadA (cs' := #[i64 (ls.length : Nat), .slice ga gs.length gc, .slice oa ol.length oc]) agg70 siz70 (H7.get (k := 0) rfl) (off := 0) rfl (by exact bLe rfl) (by rfl)) ?_
 refine c_call (vs := [.agg #[i64 (ls.length : Nat), .slice ga gs.length gc, .slice oa ol.length oc]]) call32 rfl (ands_ok (ls.length : Nat) gs ol ga oa gc oc w5 (hGs.ext H7.chg) (by omega)) ?_
 rintro _ w8 ⟨rfl, hE9⟩
 have H10 := H7.ext hE9
 refine sq ((r_mulI (a := (2 : Int)) (b := (andsS gs gs.length : Nat)) rfl rfl (by omega)).as (v' := i64 (((2 * andsS gs gs.length) : Nat))) (by rfl)) ?_
 refine sq ((r_neqI (a := (tb.length : Nat)) (b := ((2 * andsS gs gs.length) : Nat)) rfl rfl).as (v' := .bool (false)) (by exact congrArg Value.bool (decide_eq_false (by omega)))) ?_
 refine wend ?_
 refine condFalse rfl ?_
 refine skipAny ?_
 refine thenNormal ?_
 refine sR ?_
 refine c_call (vs := []) call85 rfl (Aes.fixed_ok w8) ?_
 rintro _ w11 ⟨⟨b13, rfl, hb14, ho15⟩, hE16⟩
 have H17 := H10.add1 hE16 hb14 ho15
 refine sA (pT b13) rfl ?_
 refine wend ?_
 refine sR ?_
 refine sq (r_fieldAddr (off' := 0) fld70_0 (by decide) (b := b1) (off := 0) rfl (by omega)) ?_
 refine sq (r_loadC (v := i64 (ls.length : Nat)) one3 (H17.get (k := 1) rfl) (off := 0) rfl (by rfl)) ?_
 refine sq (r_fieldAddr (off' := 1) fld70_1 (by decide) (b := b1) (off := 0) rfl (by omega)) ?_
 refine sq (r_loadC (v := .slice ga gs.length gc) one68 (H17.get (k := 1) rfl) (off := 1) rfl (by rfl)) ?_
 refine sq (r_lenS sli68 (a := ga) (m := gs.length) (c := gc) rfl) ?_
 refine sq ((r_addI (a := (ls.length : Nat)) (b := (gs.length : Nat)) rfl rfl (by omega)).as (v' := i64 (((ls.length + gs.length) : Nat))) (by rfl)) ?_
 refine q_makeSlice (E := ELb) (m := 0) (c := (ls.length + gs.length)) (z0 := lb0) H17 sli92 zer38 rfl byt38 rfl rfl (by first | rfl | omega | (simp; omega)) (by first | rfl | omega | (simp; omega)) (by omega) (by omega) ?_
 intro b18 w20 hS19 H21 hE22
 refine sM (.slice lsa ls.length lsc) rfl ?_
 refine q_append (E := ELb) (k := 0) (l := List.replicate 0 lb0) (l2 := ls) H21 rfl hS19 sli92 zer38 rfl byt38 (hLs.ext H21.chg) rfl (by simp) rfl (by rfl) (by omega) ?_
 intro key23 c24 sp25 w27 hS26 hne29 H28
 have H28' := H28.as (L' := [(key23, sob ELb 38 ((List.replicate 0 lb0) ++ ls) sp25), (some b13, .cells (cel E8 (AesSpec.cipher AesSpec.fixKey)).toArray 215 (0, 0)), (some b1, .cells #[i64 (ls.length : Nat), .slice ga gs.length gc, .slice oa ol.length oc] 70 (0, 0))]) rfl
 clear H28
 have e30 : (List.replicate 0 lb0) ++ ls = ls := by rfl
 have hS31 := hS26
 rw [e30] at hS31
 have H32 := H28'.as (L' := [(key23, sob ELb 38 ls sp25), (some b13, .cells (cel E8 (AesSpec.cipher AesSpec.fixKey)).toArray 215 (0, 0)), (some b1, .cells #[i64 (ls.length : Nat), .slice ga gs.length gc, .slice oa ol.length oc] 70 (0, 0))]) (by rw [e30])
 refine sA (.slice (ownA key23) (0 + ls.length) c24) rfl ?_
 refine wend ?_
 refine sR ?_
 refine sA (i64 ((0 : Int))) rfl ?_
 refine wend ?_
 refine seqAny ?_
 refine sR ?_
 refine sq (r_fieldAddr (off' := 1) fld70_1 (by decide) (b := b1) (off := 0) rfl (by omega)) ?_
 refine sq (r_loadC (v := .slice ga gs.length gc) one68 (H32.get (k := 2) rfl) (off := 1) rfl (by rfl)) ?_
 refine sq (r_lenS sli68 (a := ga) (m := gs.length) (c := gc) rfl) ?_
 refine sM (i64 ((0 : Int))) rfl ?_
 refine wend ?_
 refine blockAny ?_
 refine loopAny (σ := Nat × Option Nat × Nat × List Value × Nat) (fun (i, k1, c1, z1, m) => [(2, .slice tsa tb.length tsc), (3, u64 (first)), (4, pT b1), (11, pT b13), (12, .slice (ownA k1) (ls.length + i) c1), (13, i64 (m : Nat)), (49, .slice ga gs.length gc), (50, i64 (gs.length : Nat)), (51, i64 (i : Nat))]) (fun (i, k1, c1, z1, m) w' => (i ≤ gs.length ∧ Sl ELb k1 (eS lhash first gs tb ls i).1 c1 z1 ∧ m = (eS lhash first gs tb ls i).2) ∧ Hp No w w' [(k1, sob ELb 38 ((eS lhash first gs tb ls i).1) z1), (some b1, .cells #[i64 (ls.length : Nat), .slice ga gs.length gc, .slice oa ol.length oc] 70 (0, 0)), (some b13, .cells (cel E8 (AesSpec.cipher AesSpec.fixKey)).toArray 215 (0, 0))]) (fun (i, k1, c1, z1, m) => gs.length - i) ((0, key23, c24, sp25, 0)) ?_ ?_ ?_
 ·exact ⟨rfl, rfl, rfl, rfl, congrArg (fun q => Value.slice _ q _) (by omega), rfl, rfl, rfl, rfl, trivial⟩
 ·exact ⟨⟨Nat.zero_le _, hS31, rfl⟩, (H32.pick 3 [0, 2, 1] (by decide) (by decide))⟩
 rintro ⟨i, k1, c1, z1, m⟩ ρ w33 ⟨⟨hi, h1, rfl⟩, HL⟩
 have hwl := eS_len (h := lhash) (first := first) (gs := gs) (tb := tb) (ls := ls) i
 have hnx := eS_next (h := lhash) (first := first) (gs := gs) (tb := tb) (ls := ls) i
 refine sR ?_
 refine sq (r_lssI (a := (i : Nat)) (b := (gs.length : Nat)) rfl rfl) ?_
 refine wend ?_
 refine seqAny ?_
 refine condProp (((i : Nat) : Int) < (gs.length : Nat)) rfl (fun c52 => ?_) (fun c52 => ?_)
 ·skip
  have hgi := hg.gok i (by omega)
  unfold gokP at hgi
  refine skipAny ?_
  refine thenNormal ?_
  refine seqAny ?_
  refine blockAny ?_
  refine sR ?_
  refine sq (r_idxS (E := EG) (l := gs) (j := i) sli68 (hGs.ext HL.chg) rfl rfl (by first | rfl | omega | (simp; omega)) (by rfl) (by omega)) ?_
  refine sq ((r_ldS (E := EG) (l := gs) (j := i) (v := (gs).getD i g0) fits99 (hGs.ext HL.chg) rfl rfl (at_getD (by omega))).as (v' := .agg #[i64 (((gs).getD i g0).k), i64 (((gs).getD i g0).a), i64 (((gs).getD i g0).b)]) rfl) ?_
  refine q_alloc (o := .cells #[i64 ((0 : Int)), i64 ((0 : Int)), i64 ((0 : Int))] 99 (0, 0)) HL zer99 (by kernel_rfl) ?_
  intro b35 w36 hb35 H37 hE38
  refine d_store (k := 0) (v := .agg #[i64 (((gs).getD i g0).k), i64 (((gs).getD i g0).a), i64 (((gs).getD i g0).b)]) (cs' := #[i64 (((gs).getD i g0).k), i64 (((gs).getD i g0).a), i64 (((gs).getD i g0).b)]) H37 rfl rfl rfl siz99 (by rfl) (by intro u hu; simp [Value.cells] at hu; first | (subst hu; rfl) | (rcases hu with rfl | rfl | rfl <;> rfl)) (by exact bLe rfl) (by rfl) ?_
  intro w39 H40 hC41
  have H40' := H40.as (L' := [(some b35, .cells #[i64 (((gs).getD i g0).k), i64 (((gs).getD i g0).a), i64 (((gs).getD i g0).b)] 99 (0, 0)), (k1, sob ELb 38 ((eS lhash first gs tb ls i).1) z1), (some b1, .cells #[i64 (ls.length : Nat), .slice ga gs.length gc, .slice oa ol.length oc] 70 (0, 0)), (some b13, .cells (cel E8 (AesSpec.cipher AesSpec.fixKey)).toArray 215 (0, 0))]) rfl
  clear H40
  refine wend ?_
  refine sR ?_
  refine sM (.slice (ownA k1) (ls.length + i) c1) rfl ?_
  refine sq (r_fieldAddr (off' := 1) fld99_1 (by decide) (b := b35) (off := 0) rfl (by omega)) ?_
  refine sq (r_loadC (v := i64 (((gs).getD i g0).a)) one3 (H40'.get (k := 0) rfl) (off := 1) rfl (by rfl)) ?_
  refine sq (r_idxS (E := ELb) (l := (eS lhash first gs tb ls i).1) (j := (gs.getD i g0).a.toNat) sli92 (H40'.rd (k := 1) rfl h1) rfl rfl (by omega) (by rw [eS_len]) (by omega)) ?_
  refine sq ((r_ldS (E := ELb) (l := (eS lhash first gs tb ls i).1) (j := (gs.getD i g0).a.toNat) (v := ((eS lhash first gs tb ls i).1).getD ((gs.getD i g0).a.toNat) lb0) fits38 (H40'.rd (k := 1) rfl h1) rfl rfl (at_getD (by omega))).as (v' := .agg (cel E64 [(((eS lhash first gs tb ls i).1).getD ((gs.getD i g0).a.toNat) lb0).1, (((eS lhash first gs tb ls i).1).getD ((gs.getD i g0).a.toNat) lb0).2]).toArray) rfl) ?_
  refine q_alloc (o := .cells (cel E64 ([0#64, 0#64])).toArray 38 (0, 0)) H40' zer38 (by kernel_rfl) ?_
  intro b42 w43 hb42 H44 hE45
  refine d_store (k := 0) (v := .agg (cel E64 [(((eS lhash first gs tb ls i).1).getD ((gs.getD i g0).a.toNat) lb0).1, (((eS lhash first gs tb ls i).1).getD ((gs.getD i g0).a.toNat) lb0).2]).toArray) (cs' := (cel E64 ([(((eS lhash first gs tb ls i).1).getD ((gs.getD i g0).a.toNat) lb0).1, (((eS lhash first gs tb ls i).1).getD ((gs.getD i g0).a.toNat) lb0).2])).toArray) H44 rfl rfl rfl siz38 (by exact celSize (by first | rfl | (show _ * 1 = _; omega))) (by exact celOne _) (by rw [List.size_toArray, cel_length]; show _ ≤ _ * 1; first | omega | (simp only [List.length_set]; omega) | exact bLe rfl | (simp <;> omega)) (by exact putAll (by first | rfl | omega | (simp <;> omega))) ?_
  intro w46 H47 hC48
  have H47' := H47.as (L' := [(some b42, lO (((eS lhash first gs tb ls i).1).getD ((gs.getD i g0).a.toNat) lb0)), (some b35, .cells #[i64 (((gs).getD i g0).k), i64 (((gs).getD i g0).a), i64 (((gs).getD i g0).b)] 99 (0, 0)), (k1, sob ELb 38 ((eS lhash first gs tb ls i).1) z1), (some b1, .cells #[i64 (ls.length : Nat), .slice ga gs.length gc, .slice oa ol.length oc] 70 (0, 0)), (some b13, .cells (cel E8 (AesSpec.cipher AesSpec.fixKey)).toArray 215 (0, 0))]) rfl
  clear H47
  obtain ⟨la, hla⟩ : ∃ x : Lb, x = (((eS lhash first gs tb ls i).1).getD (gs.getD i g0).a.toNat lb0) := ⟨_, rfl⟩
  rw [← hla] at H47' ⊢
  refine wend ?_
  refine seqAny ?_
  refine sR ?_
  refine sq (r_fieldAddr (off' := 0) fld99_0 (by decide) (b := b35) (off := 0) rfl (by omega)) ?_
  refine sq (r_loadC (v := i64 (((gs).getD i g0).k)) one97 (H47'.get (k := 1) rfl) (off := 0) rfl (by rfl)) ?_
  refine wend ?_
  refine blockAny ?_
  refine sR ?_
  refine sq (r_eqlI (a := ((gs).getD i g0).k) (b := (1 : Int)) rfl rfl) ?_
  refine sA (.bool (decide ((((gs).getD i g0).k : Int) = (1 : Int)))) rfl ?_
  refine wend ?_
  refine condProp ((((gs).getD i g0).k : Int) = (1 : Int)) rfl (fun hk1 => ?_) (fun hk1 => ?_)
  ·skip
   have hk := hk1
   refine drawE (m := 8) [0, 0, 0, 4, 14, 30, 63, 127] [7] (fun bs vs w' => match bs, vs with | [false], [_] => Hp No w w' [(some b42, lO (la)), (some b35, .cells #[i64 (((gs).getD i g0).k), i64 (((gs).getD i g0).a), i64 (((gs).getD i g0).b)] 99 (0, 0)), (k1, sob ELb 38 ((eS lhash first gs tb ls i).1) z1), (some b1, .cells #[i64 (ls.length : Nat), .slice ga gs.length gc, .slice oa ol.length oc] 70 (0, 0)), (some b13, .cells (cel E8 (AesSpec.cipher AesSpec.fixKey)).toArray 215 (0, 0))] | [true], [_] => Hp No w w' [(some b42, lO (lx la (((eS lhash first gs tb ls i).1).getD ((gs.getD i g0).b.toNat) lb0))), (some b35, .cells #[i64 (((gs).getD i g0).k), i64 (((gs).getD i g0).a), i64 (((gs).getD i g0).b)] 99 (0, 0)), (k1, sob ELb 38 ((eS lhash first gs tb ls i).1) z1), (some b1, .cells #[i64 (ls.length : Nat), .slice ga gs.length gc, .slice oa ol.length oc] 70 (0, 0)), (some b13, .cells (cel E8 (AesSpec.cipher AesSpec.fixKey)).toArray 215 (0, 0))] | _, _ => False) mixed (by kernel_rfl) (by kernel_rfl) H47'.drew ?_
   refine WalkE.look rfl (fun _ => lV (la)) (fun _ _ _ => rfl) (fun L r uw0 uw hAn hDn hF hEx => ?_) ?_
   ·skip
    have b7 := hDn 7 (by decide) rfl
    have hb : List.map L [7] = [false] := by simp only [List.map_cons, List.map_nil, b7]
    rw [hb] at hF
    have HH := hF
    replace HH := HH.ext hEx
    exact Gives.run rfl (r_loadA (cs' := (cel E64 ([(la).1, (la).2])).toArray) agg38 siz38 (HH.get (k := 0) rfl) (off := 0) rfl (by exact bLe rfl) (by exact ext_all rfl)) ⟨rfl, rfl⟩
   refine WalkE.look rfl (fun _ => .slice (ownA k1) (ls.length + i) c1) (fun _ _ _ => rfl) (fun L r _ uw _ _ _ _ => Gives.run rfl (r_move (v := .slice (ownA k1) (ls.length + i) c1) rfl) ⟨rfl, rfl⟩) ?_
   refine WalkE.look rfl (fun _ => .pointer (some ⟨b35, 2, none⟩)) (fun _ _ _ => rfl) (fun L r _ uw _ _ _ _ => Gives.run rfl (r_fieldAddr (off' := 2) fld99_2 (by decide) (b := b35) (off := 0) rfl (by omega)) ⟨rfl, rfl⟩) ?_
   refine WalkE.look rfl (fun _ => i64 (((gs).getD i g0).b)) (fun _ _ _ => rfl) (fun L r uw0 uw hAn hDn hF hEx => ?_) ?_
   ·skip
    have b7 := hDn 7 (by decide) rfl
    have hb : List.map L [7] = [false] := by simp only [List.map_cons, List.map_nil, b7]
    rw [hb] at hF
    have HH := hF
    replace HH := HH.ext hEx
    exact Gives.run rfl (r_loadC (v := i64 (((gs).getD i g0).b)) one3 (HH.get (k := 1) rfl) (off := 2) rfl (by rfl)) ⟨rfl, rfl⟩
   refine WalkE.look rfl (fun _ => .pointer (adr (ownA k1) (((gs.getD i g0).b.toNat) * 2))) (fun _ _ _ => rfl) (fun L r uw0 uw hAn hDn hF hEx => ?_) ?_
   ·skip
    have b7 := hDn 7 (by decide) rfl
    have hb : List.map L [7] = [false] := by simp only [List.map_cons, List.map_nil, b7]
    rw [hb] at hF
    have HH := hF
    replace HH := HH.ext hEx
    exact Gives.run rfl (r_idxS (E := ELb) (l := (eS lhash first gs tb ls i).1) (j := (gs.getD i g0).b.toNat) sli92 (HH.rd (k := 2) rfl h1) rfl rfl (by omega) (by rw [eS_len]) (by omega)) ⟨rfl, rfl⟩
   refine WalkE.look rfl (fun _ => .agg (cel E64 [(((eS lhash first gs tb ls i).1).getD ((gs.getD i g0).b.toNat) lb0).1, (((eS lhash first gs tb ls i).1).getD ((gs.getD i g0).b.toNat) lb0).2]).toArray) (fun _ _ _ => rfl) (fun L r uw0 uw hAn hDn hF hEx => ?_) ?_
   ·skip
    have b7 := hDn 7 (by decide) rfl
    have hb : List.map L [7] = [false] := by simp only [List.map_cons, List.map_nil, b7]
    rw [hb] at hF
    have HH := hF
    replace HH := HH.ext hEx
    exact Gives.run rfl ((r_ldS (E := ELb) (l := (eS lhash first gs tb ls i).1) (j := (gs.getD i g0).b.toNat) (v := ((eS lhash first gs tb ls i).1).getD ((gs.getD i g0).b.toNat) lb0) fits38 (HH.rd (k := 2) rfl h1) rfl rfl (at_getD (by omega))).as (v' := .agg (cel E64 [(((eS lhash first gs tb ls i).1).getD ((gs.getD i g0).b.toNat) lb0).1, (((eS lhash first gs tb ls i).1).getD ((gs.getD i g0).b.toNat) lb0).2]).toArray) rfl) ⟨rfl, rfl⟩
   refine WalkE.call rfl (fun _ => .agg (cel E64 [(lx la (((eS lhash first gs tb ls i).1).getD ((gs.getD i g0).b.toNat) lb0)).1, (lx la (((eS lhash first gs tb ls i).1).getD ((gs.getD i g0).b.toNat) lb0)).2]).toArray) (fun _ _ _ => rfl) (fun L r uw0 uw hAn hDn hF hEx => ?_) ?_
   ·skip
    have b7 := hDn 7 (by decide) rfl
    have hb : List.map L [7] = [false] := by simp only [List.map_cons, List.map_nil, b7]
    rw [hb] at hF
    have HH := hF
    replace HH := HH.ext hEx
    exact Gives.call rfl (Enters.callL (vs := [lV (la), .agg (cel E64 [(((eS lhash first gs tb ls i).1).getD ((gs.getD i g0).b.toNat) lb0).1, (((eS lhash first gs tb ls i).1).getD ((gs.getD i g0).b.toNat) lb0).2]).toArray]) call86 rfl) (lxor_ok la (((eS lhash first gs tb ls i).1).getD ((gs.getD i g0).b.toNat) lb0) uw)
   refine WalkE.eff 0 rfl (fun L r uw0 uw hLn hAn hDn hF hEx => ?_) ?_
   ·skip
    have b7 : L 7 = false := hLn
    have hb : List.map L [7] = [false] := by simp only [List.map_cons, List.map_nil, b7]
    rw [hb] at hF ⊢
    have H53 := hF
    replace H53 := H53.ext hEx
    dsimp only
    refine Gives.ofW0 rfl (fun Q' hK => ?_)
    refine d_store (k := 0) (v := .agg (cel E64 [(lx la (((eS lhash first gs tb ls i).1).getD ((gs.getD i g0).b.toNat) lb0)).1, (lx la (((eS lhash first gs tb ls i).1).getD ((gs.getD i g0).b.toNat) lb0)).2]).toArray) (cs' := (cel E64 ([(lx la (((eS lhash first gs tb ls i).1).getD ((gs.getD i g0).b.toNat) lb0)).1, (lx la (((eS lhash first gs tb ls i).1).getD ((gs.getD i g0).b.toNat) lb0)).2])).toArray) H53 rfl rfl rfl siz38 (by exact celSize (by first | rfl | (show _ * 1 = _; omega))) (by exact celOne _) (by rw [List.size_toArray, cel_length]; show _ ≤ _ * 1; first | omega | (simp only [List.length_set]; omega) | exact bLe rfl | (simp <;> omega)) (by exact putAll (by first | rfl | omega | (simp <;> omega))) ?_
    intro w54 H55 hC56
    have H55' := H55.as (L' := [(some b42, lO (lx la (((eS lhash first gs tb ls i).1).getD ((gs.getD i g0).b.toNat) lb0))), (some b35, .cells #[i64 (((gs).getD i g0).k), i64 (((gs).getD i g0).a), i64 (((gs).getD i g0).b)] 99 (0, 0)), (k1, sob ELb 38 ((eS lhash first gs tb ls i).1) z1), (some b1, .cells #[i64 (ls.length : Nat), .slice ga gs.length gc, .slice oa ol.length oc] 70 (0, 0)), (some b13, .cells (cel E8 (AesSpec.cipher AesSpec.fixKey)).toArray 215 (0, 0))]) rfl
    clear H55
    exact hK _ (fun _ => (show Hp No w w54 [(some b42, lO (lx la (((eS lhash first gs tb ls i).1).getD ((gs.getD i g0).b.toNat) lb0))), (some b35, .cells #[i64 (((gs).getD i g0).k), i64 (((gs).getD i g0).a), i64 (((gs).getD i g0).b)] 99 (0, 0)), (k1, sob ELb 38 ((eS lhash first gs tb ls i).1) z1), (some b1, .cells #[i64 (ls.length : Nat), .slice ga gs.length gc, .slice oa ol.length oc] 70 (0, 0)), (some b13, .cells (cel E8 (AesSpec.cipher AesSpec.fixKey)).toArray 215 (0, 0))] from (((((H55'.pull (k := 4) rfl).pull (k := 4) rfl).pull (k := 4) rfl).pull (k := 4) rfl).pull (k := 4) rfl)))
   refine WalkE.nil ?_
   intro r57 uw0 w58 hF hEx
   have H59 := hF
   replace H59 := H59.ext hEx
   dsimp only
   refine wnil ?_
   refine blockNormal ?_
   refine thenNormal ?_
   refine oneRegion ?_
   refine sM (.slice (ownA k1) (ls.length + i) c1) rfl ?_
   refine sq (r_loadA (cs' := (cel E64 ([(lx la (((eS lhash first gs tb ls i).1).getD ((gs.getD i g0).b.toNat) lb0)).1, (lx la (((eS lhash first gs tb ls i).1).getD ((gs.getD i g0).b.toNat) lb0)).2])).toArray) agg38 siz38 (H59.get (k := 0) rfl) (off := 0) rfl (by exact bLe rfl) (by exact ext_all rfl)) ?_
   refine q_buildSlice (E := ELb) (l := ([lx la (((eS lhash first gs tb ls i).1).getD ((gs.getD i g0).b.toNat) lb0)] : List LbT)) H59 sli92 zer38 (bLe rfl) (ps := [(0, lV (lx la (((eS lhash first gs tb ls i).1).getD ((gs.getD i g0).b.toNat) lb0)))]) rfl (by exact fillAll rfl rfl) rfl ?_
   intro b60 w62 hS61 H63 hE64
   refine q_append (E := ELb) (k := 3) (l := (eS lhash first gs tb ls i).1) (l2 := ([lx la (((eS lhash first gs tb ls i).1).getD ((gs.getD i g0).b.toNat) lb0)] : List LbT)) H63 rfl h1 sli92 zer38 rfl byt38 (H63.rd (k := 0) rfl hS61) rfl (by rw [eS_len]) rfl (by rfl) (by omega) ?_
   intro key65 c66 sp67 w69 hS68 hne71 H70
   have H70' := H70.as (L' := [((some b60), sob ELb 38 ([lx la (((eS lhash first gs tb ls i).1).getD ((gs.getD i g0).b.toNat) lb0)] : List LbT) ([])), (some b42, lO (lx la (((eS lhash first gs tb ls i).1).getD ((gs.getD i g0).b.toNat) lb0))), (some b35, .cells #[i64 (((gs).getD i g0).k), i64 (((gs).getD i g0).a), i64 (((gs).getD i g0).b)] 99 (0, 0)), (key65, sob ELb 38 (((eS lhash first gs tb ls i).1) ++ ([lx la (((eS lhash first gs tb ls i).1).getD ((gs.getD i g0).b.toNat) lb0)] : List LbT)) sp67), (some b1, .cells #[i64 (ls.length : Nat), .slice ga gs.length gc, .slice oa ol.length oc] 70 (0, 0)), (some b13, .cells (cel E8 (AesSpec.cipher AesSpec.fixKey)).toArray 215 (0, 0))]) rfl
   clear H70
   have e72 : ((eS lhash first gs tb ls i).1) ++ ([lx la (((eS lhash first gs tb ls i).1).getD ((gs.getD i g0).b.toNat) lb0)] : List LbT) = (eS lhash first gs tb ls (i + 1)).1 := by rw [eS, estep, if_pos hk, hla]
   have hS73 := hS68
   rw [e72] at hS73
   have H74 := H70'.as (L' := [((some b60), sob ELb 38 ([lx la (((eS lhash first gs tb ls i).1).getD ((gs.getD i g0).b.toNat) lb0)] : List LbT) ([])), (some b42, lO (lx la (((eS lhash first gs tb ls i).1).getD ((gs.getD i g0).b.toNat) lb0))), (some b35, .cells #[i64 (((gs).getD i g0).k), i64 (((gs).getD i g0).a), i64 (((gs).getD i g0).b)] 99 (0, 0)), (key65, sob ELb 38 ((eS lhash first gs tb ls (i + 1)).1) sp67), (some b1, .cells #[i64 (ls.length : Nat), .slice ga gs.length gc, .slice oa ol.length oc] 70 (0, 0)), (some b13, .cells (cel E8 (AesSpec.cipher AesSpec.fixKey)).toArray 215 (0, 0))]) (by rw [e72])
   refine sA (.slice (ownA key65) ((ls.length + i) + 1) c66) rfl ?_
   refine wnil ?_
   refine blockNormal ?_
   refine thenNormal ?_
   refine oneRegion ?_
   refine sq (r_addI (a := (i : Nat)) (b := (1 : Int)) rfl rfl (by omega)) ?_
   refine sM (i64 ((i : Nat) + (1 : Int))) rfl ?_
   refine wnil ?_
   refine thenNormal ?_
   exact ⟨(i + 1, key65, c66, sp67, (eS lhash first gs tb ls i).2), _, rfl, ⟨rfl, rfl, rfl, rfl, rfl, rfl, rfl, rfl, rfl, trivial⟩, ⟨⟨by omega, hS73, by rw [eS, estep, if_pos hk]⟩, (((H74.dropk 2).dropk 1).dropk 0)⟩, by show gs.length - (i + 1) < gs.length - i; omega⟩
  ·skip
   have hn1 := hk1
   refine sR ?_
   refine sq (r_eqlI (a := ((gs).getD i g0).k) (b := (2 : Int)) rfl rfl) ?_
   refine sA (.bool (decide ((((gs).getD i g0).k : Int) = (2 : Int)))) rfl ?_
   refine wend ?_
   refine condProp ((((gs).getD i g0).k : Int) = (2 : Int)) rfl (fun hk2 => ?_) (fun hk2 => ?_)
   ·skip
    have hk := hk2
    have han := andsS_step gs i (by omega) hk
    refine sR ?_
    refine sM (.slice (ownA k1) (ls.length + i) c1) rfl ?_
    refine sq (r_fieldAddr (off' := 2) fld99_2 (by decide) (b := b35) (off := 0) rfl (by omega)) ?_
    refine sq (r_loadC (v := i64 (((gs).getD i g0).b)) one3 (H47'.get (k := 1) rfl) (off := 2) rfl (by rfl)) ?_
    refine sq (r_idxS (E := ELb) (l := (eS lhash first gs tb ls i).1) (j := (gs.getD i g0).b.toNat) sli92 (H47'.rd (k := 2) rfl h1) rfl rfl (by omega) (by rw [eS_len]) (by omega)) ?_
    refine sq ((r_ldS (E := ELb) (l := (eS lhash first gs tb ls i).1) (j := (gs.getD i g0).b.toNat) (v := ((eS lhash first gs tb ls i).1).getD ((gs.getD i g0).b.toNat) lb0) fits38 (H47'.rd (k := 2) rfl h1) rfl rfl (at_getD (by omega))).as (v' := .agg (cel E64 [(((eS lhash first gs tb ls i).1).getD ((gs.getD i g0).b.toNat) lb0).1, (((eS lhash first gs tb ls i).1).getD ((gs.getD i g0).b.toNat) lb0).2]).toArray) rfl) ?_
    refine q_alloc (o := .cells (cel E64 ([0#64, 0#64])).toArray 38 (0, 0)) H47' zer38 (by kernel_rfl) ?_
    intro b75 w76 hb75 H77 hE78
    refine d_store (k := 0) (v := .agg (cel E64 [(((eS lhash first gs tb ls i).1).getD ((gs.getD i g0).b.toNat) lb0).1, (((eS lhash first gs tb ls i).1).getD ((gs.getD i g0).b.toNat) lb0).2]).toArray) (cs' := (cel E64 ([(((eS lhash first gs tb ls i).1).getD ((gs.getD i g0).b.toNat) lb0).1, (((eS lhash first gs tb ls i).1).getD ((gs.getD i g0).b.toNat) lb0).2])).toArray) H77 rfl rfl rfl siz38 (by exact celSize (by first | rfl | (show _ * 1 = _; omega))) (by exact celOne _) (by rw [List.size_toArray, cel_length]; show _ ≤ _ * 1; first | omega | (simp only [List.length_set]; omega) | exact bLe rfl | (simp <;> omega)) (by exact putAll (by first | rfl | omega | (simp <;> omega))) ?_
    intro w79 H80 hC81
    have H80' := H80.as (L' := [(some b75, lO (((eS lhash first gs tb ls i).1).getD ((gs.getD i g0).b.toNat) lb0)), (some b42, lO (la)), (some b35, .cells #[i64 (((gs).getD i g0).k), i64 (((gs).getD i g0).a), i64 (((gs).getD i g0).b)] 99 (0, 0)), (k1, sob ELb 38 ((eS lhash first gs tb ls i).1) z1), (some b1, .cells #[i64 (ls.length : Nat), .slice ga gs.length gc, .slice oa ol.length oc] 70 (0, 0)), (some b13, .cells (cel E8 (AesSpec.cipher AesSpec.fixKey)).toArray 215 (0, 0))]) rfl
    clear H80
    obtain ⟨lb, hlb⟩ : ∃ x : Lb, x = (((eS lhash first gs tb ls i).1).getD (gs.getD i g0).b.toNat lb0) := ⟨_, rfl⟩
    rw [← hlb] at H80' ⊢
    refine wend ?_
    refine sR ?_
    refine sM (u64 (first)) rfl ?_
    refine sM (i64 (((eS lhash first gs tb ls i).2 : Nat))) rfl ?_
    refine sq (r_Ito64 und3 und32 (a := ((eS lhash first gs tb ls i).2 : Nat)) rfl) ?_
    refine sq (r_add64 (a := first) (b := BitVec.ofInt 64 ((eS lhash first gs tb ls i).2 : Nat)) rfl rfl) ?_
    refine sA (u64 (first + (BitVec.ofInt 64 ((eS lhash first gs tb ls i).2 : Nat)))) rfl ?_
    obtain ⟨sv, hsv⟩ : ∃ x : BitVec 64, x = first + (BitVec.ofInt 64 ((eS lhash first gs tb ls i).2 : Nat)) := ⟨_, rfl⟩
    rw [← hsv]
    refine wend ?_
    refine seqAny ?_
    refine drawE (m := 13) [0, 0, 3, 7, 0, 0, 32, 112, 240, 0, 0, 1551, 4095] [9, 10, 11, 12] (fun bs vs w' => match bs, vs with | [false, false, false, false], [_, _, _, _] => Hp No w w' [(some b75, lO (lb)), (some b42, lO (la)), (some b35, .cells #[i64 (((gs).getD i g0).k), i64 (((gs).getD i g0).a), i64 (((gs).getD i g0).b)] 99 (0, 0)), (k1, sob ELb 38 ((eS lhash first gs tb ls i).1) z1), (some b1, .cells #[i64 (ls.length : Nat), .slice ga gs.length gc, .slice oa ol.length oc] 70 (0, 0)), (some b13, .cells (cel E8 (AesSpec.cipher AesSpec.fixKey)).toArray 215 (0, 0))] | [true, false, false, false], [v9, _, _, _] => ∃ (b83 : Nat), v9 = pT b83 ∧ Hp No w w' [(some b83, .cells (cel E64 ([0#64, 0#64])).toArray 38 (0, 0)), (some b75, lO (lb)), (some b42, lO (la)), (some b35, .cells #[i64 (((gs).getD i g0).k), i64 (((gs).getD i g0).a), i64 (((gs).getD i g0).b)] 99 (0, 0)), (k1, sob ELb 38 ((eS lhash first gs tb ls i).1) z1), (some b1, .cells #[i64 (ls.length : Nat), .slice ga gs.length gc, .slice oa ol.length oc] 70 (0, 0)), (some b13, .cells (cel E8 (AesSpec.cipher AesSpec.fixKey)).toArray 215 (0, 0))] | [false, true, false, false], [_, v10, _, _] => ∃ (b88 : Nat), v10 = pT b88 ∧ Hp No w w' [(some b88, .cells (cel E64 ([0#64, 0#64])).toArray 38 (0, 0)), (some b75, lO (lb)), (some b42, lO (la)), (some b35, .cells #[i64 (((gs).getD i g0).k), i64 (((gs).getD i g0).a), i64 (((gs).getD i g0).b)] 99 (0, 0)), (k1, sob ELb 38 ((eS lhash first gs tb ls i).1) z1), (some b1, .cells #[i64 (ls.length : Nat), .slice ga gs.length gc, .slice oa ol.length oc] 70 (0, 0)), (some b13, .cells (cel E8 (AesSpec.cipher AesSpec.fixKey)).toArray 215 (0, 0))] | [true, true, false, false], [v9, v10, _, _] => ∃ (b83 : Nat) (b93 : Nat), v9 = pT b83 ∧ v10 = pT b93 ∧ Hp No w w' [(some b93, .cells (cel E64 ([0#64, 0#64])).toArray 38 (0, 0)), (some b83, .cells (cel E64 ([0#64, 0#64])).toArray 38 (0, 0)), (some b75, lO (lb)), (some b42, lO (la)), (some b35, .cells #[i64 (((gs).getD i g0).k), i64 (((gs).getD i g0).a), i64 (((gs).getD i g0).b)] 99 (0, 0)), (k1, sob ELb 38 ((eS lhash first gs tb ls i).1) z1), (some b1, .cells #[i64 (ls.length : Nat), .slice ga gs.length gc, .slice oa ol.length oc] 70 (0, 0)), (some b13, .cells (cel E8 (AesSpec.cipher AesSpec.fixKey)).toArray 215 (0, 0))] | [true, true, true, false], [v9, v10, _, _] => ∃ (b83 : Nat) (b93 : Nat), v9 = pT b83 ∧ v10 = pT b93 ∧ Hp No w w' [(some b93, .cells (cel E64 ([0#64, 0#64])).toArray 38 (0, 0)), (some b83, lO ((tb).getD ((eS lhash first gs tb ls i).2) lb0)), (some b75, lO (lb)), (some b42, lO (la)), (some b35, .cells #[i64 (((gs).getD i g0).k), i64 (((gs).getD i g0).a), i64 (((gs).getD i g0).b)] 99 (0, 0)), (k1, sob ELb 38 ((eS lhash first gs tb ls i).1) z1), (some b1, .cells #[i64 (ls.length : Nat), .slice ga gs.length gc, .slice oa ol.length oc] 70 (0, 0)), (some b13, .cells (cel E8 (AesSpec.cipher AesSpec.fixKey)).toArray 215 (0, 0))] | [true, true, true, true], [v9, v10, _, _] => ∃ (b83 : Nat) (b93 : Nat), v9 = pT b83 ∧ v10 = pT b93 ∧ Hp No w w' [(some b93, lO ((tb).getD ((eS lhash first gs tb ls i).2 + 1) lb0)), (some b83, lO ((tb).getD ((eS lhash first gs tb ls i).2) lb0)), (some b75, lO (lb)), (some b42, lO (la)), (some b35, .cells #[i64 (((gs).getD i g0).k), i64 (((gs).getD i g0).a), i64 (((gs).getD i g0).b)] 99 (0, 0)), (k1, sob ELb 38 ((eS lhash first gs tb ls i).1) z1), (some b1, .cells #[i64 (ls.length : Nat), .slice ga gs.length gc, .slice oa ol.length oc] 70 (0, 0)), (some b13, .cells (cel E8 (AesSpec.cipher AesSpec.fixKey)).toArray 215 (0, 0))] | _, _ => False) mixed (by kernel_rfl) (by kernel_rfl) H80'.drew ?_
    refine WalkE.look rfl (fun _ => .slice tsa tb.length tsc) (fun _ _ _ => rfl) (fun L r _ uw _ _ _ _ => Gives.run rfl (r_move (v := .slice tsa tb.length tsc) rfl) ⟨rfl, rfl⟩) ?_
    refine WalkE.look rfl (fun _ => i64 (((eS lhash first gs tb ls i).2 : Nat))) (fun _ _ _ => rfl) (fun L r _ uw _ _ _ _ => Gives.run rfl (r_move (v := i64 (((eS lhash first gs tb ls i).2 : Nat))) rfl) ⟨rfl, rfl⟩) ?_
    refine WalkE.look rfl (fun _ => .pointer (adr tsa (((eS lhash first gs tb ls i).2) * 2))) (fun _ _ _ => rfl) (fun L r uw0 uw hAn hDn hF hEx => ?_) ?_
    ·skip
     have b11 := hDn 11 (by decide) rfl
     have b12 := hDn 12 (by decide) rfl
     rcases bTF (L 9) with b9 | b9
     ·skip
      rcases bTF (L 10) with b10 | b10
      ·skip
       have hb := mp4 b9 b10 b11 b12
       rw [hb] at hF
       obtain ⟨b83, b93, e9, e10, HH⟩ := hF
       replace HH := HH.ext hEx
       exact Gives.run rfl (r_idxS (E := ELb) (l := tb) (j := (eS lhash first gs tb ls i).2) sli92 (hTb.ext HH.chg) rfl rfl (by first | rfl | omega | (simp; omega)) (by rfl) (by omega)) ⟨rfl, rfl⟩
      ·skip
       have hb := mp4 b9 b10 b11 b12
       rw [hb] at hF
       obtain ⟨b83, e9, HH⟩ := hF
       replace HH := HH.ext hEx
       exact Gives.run rfl (r_idxS (E := ELb) (l := tb) (j := (eS lhash first gs tb ls i).2) sli92 (hTb.ext HH.chg) rfl rfl (by first | rfl | omega | (simp; omega)) (by rfl) (by omega)) ⟨rfl, rfl⟩
     ·skip
      rcases bTF (L 10) with b10 | b10
      ·skip
       have hb := mp4 b9 b10 b11 b12
       rw [hb] at hF
       obtain ⟨b88, e10, HH⟩ := hF
       replace HH := HH.ext hEx
       exact Gives.run rfl (r_idxS (E := ELb) (l := tb) (j := (eS lhash first gs tb ls i).2) sli92 (hTb.ext HH.chg) rfl rfl (by first | rfl | omega | (simp; omega)) (by rfl) (by omega)) ⟨rfl, rfl⟩
      ·skip
       have hb := mp4 b9 b10 b11 b12
       rw [hb] at hF
       have HH := hF
       replace HH := HH.ext hEx
       exact Gives.run rfl (r_idxS (E := ELb) (l := tb) (j := (eS lhash first gs tb ls i).2) sli92 (hTb.ext HH.chg) rfl rfl (by first | rfl | omega | (simp; omega)) (by rfl) (by omega)) ⟨rfl, rfl⟩
    refine WalkE.look rfl (fun _ => .agg (cel E64 [((tb).getD ((eS lhash first gs tb ls i).2) lb0).1, ((tb).getD ((eS lhash first gs tb ls i).2) lb0).2]).toArray) (fun _ _ _ => rfl) (fun L r uw0 uw hAn hDn hF hEx => ?_) ?_
    ·skip
     have b11 := hDn 11 (by decide) rfl
     have b12 := hDn 12 (by decide) rfl
     rcases bTF (L 9) with b9 | b9
     ·skip
      rcases bTF (L 10) with b10 | b10
      ·skip
       have hb := mp4 b9 b10 b11 b12
       rw [hb] at hF
       obtain ⟨b83, b93, e9, e10, HH⟩ := hF
       replace HH := HH.ext hEx
       exact Gives.run rfl ((r_ldS (E := ELb) (l := tb) (j := (eS lhash first gs tb ls i).2) (v := (tb).getD ((eS lhash first gs tb ls i).2) lb0) fits38 (hTb.ext HH.chg) rfl rfl (at_getD (by omega))).as (v' := .agg (cel E64 [((tb).getD ((eS lhash first gs tb ls i).2) lb0).1, ((tb).getD ((eS lhash first gs tb ls i).2) lb0).2]).toArray) rfl) ⟨rfl, rfl⟩
      ·skip
       have hb := mp4 b9 b10 b11 b12
       rw [hb] at hF
       obtain ⟨b83, e9, HH⟩ := hF
       replace HH := HH.ext hEx
       exact Gives.run rfl ((r_ldS (E := ELb) (l := tb) (j := (eS lhash first gs tb ls i).2) (v := (tb).getD ((eS lhash first gs tb ls i).2) lb0) fits38 (hTb.ext HH.chg) rfl rfl (at_getD (by omega))).as (v' := .agg (cel E64 [((tb).getD ((eS lhash first gs tb ls i).2) lb0).1, ((tb).getD ((eS lhash first gs tb ls i).2) lb0).2]).toArray) rfl) ⟨rfl, rfl⟩
     ·skip
      rcases bTF (L 10) with b10 | b10
      ·skip
       have hb := mp4 b9 b10 b11 b12
       rw [hb] at hF
       obtain ⟨b88, e10, HH⟩ := hF
       replace HH := HH.ext hEx
       exact Gives.run rfl ((r_ldS (E := ELb) (l := tb) (j := (eS lhash first gs tb ls i).2) (v := (tb).getD ((eS lhash first gs tb ls i).2) lb0) fits38 (hTb.ext HH.chg) rfl rfl (at_getD (by omega))).as (v' := .agg (cel E64 [((tb).getD ((eS lhash first gs tb ls i).2) lb0).1, ((tb).getD ((eS lhash first gs tb ls i).2) lb0).2]).toArray) rfl) ⟨rfl, rfl⟩
      ·skip
       have hb := mp4 b9 b10 b11 b12
       rw [hb] at hF
       have HH := hF
       replace HH := HH.ext hEx
       exact Gives.run rfl ((r_ldS (E := ELb) (l := tb) (j := (eS lhash first gs tb ls i).2) (v := (tb).getD ((eS lhash first gs tb ls i).2) lb0) fits38 (hTb.ext HH.chg) rfl rfl (at_getD (by omega))).as (v' := .agg (cel E64 [((tb).getD ((eS lhash first gs tb ls i).2) lb0).1, ((tb).getD ((eS lhash first gs tb ls i).2) lb0).2]).toArray) rfl) ⟨rfl, rfl⟩
    refine WalkE.look rfl (fun _ => .slice tsa tb.length tsc) (fun _ _ _ => rfl) (fun L r _ uw _ _ _ _ => Gives.run rfl (r_move (v := .slice tsa tb.length tsc) rfl) ⟨rfl, rfl⟩) ?_
    refine WalkE.look rfl (fun _ => i64 (((eS lhash first gs tb ls i).2 : Nat))) (fun _ _ _ => rfl) (fun L r _ uw _ _ _ _ => Gives.run rfl (r_move (v := i64 (((eS lhash first gs tb ls i).2 : Nat))) rfl) ⟨rfl, rfl⟩) ?_
    refine WalkE.look rfl (fun _ => i64 ((((eS lhash first gs tb ls i).2 + 1) : Nat))) (fun _ _ _ => rfl) (fun L r _ uw _ _ _ _ => Gives.run rfl ((r_addI (a := ((eS lhash first gs tb ls i).2 : Nat)) (b := (1 : Int)) rfl rfl (by omega)).as (v' := i64 ((((eS lhash first gs tb ls i).2 + 1) : Nat))) (by rfl)) ⟨rfl, rfl⟩) ?_
    refine WalkE.look rfl (fun _ => .pointer (adr tsa (((eS lhash first gs tb ls i).2 + 1) * 2))) (fun _ _ _ => rfl) (fun L r uw0 uw hAn hDn hF hEx => ?_) ?_
    ·skip
     have b12 := hDn 12 (by decide) rfl
     rcases bTF (L 9) with b9 | b9
     ·skip
      rcases bTF (L 10) with b10 | b10
      ·skip
       rcases bTF (L 11) with b11 | b11
       ·skip
        have hb := mp4 b9 b10 b11 b12
        rw [hb] at hF
        obtain ⟨b83, b93, e9, e10, HH⟩ := hF
        replace HH := HH.ext hEx
        exact Gives.run rfl (r_idxS (E := ELb) (l := tb) (j := ((eS lhash first gs tb ls i).2 + 1)) sli92 (hTb.ext HH.chg) rfl rfl (by first | rfl | omega | (simp; omega)) (by rfl) (by omega)) ⟨rfl, rfl⟩
       ·skip
        have hb := mp4 b9 b10 b11 b12
        rw [hb] at hF
        obtain ⟨b83, b93, e9, e10, HH⟩ := hF
        replace HH := HH.ext hEx
        exact Gives.run rfl (r_idxS (E := ELb) (l := tb) (j := ((eS lhash first gs tb ls i).2 + 1)) sli92 (hTb.ext HH.chg) rfl rfl (by first | rfl | omega | (simp; omega)) (by rfl) (by omega)) ⟨rfl, rfl⟩
      ·skip
       rcases bTF (L 11) with b11 | b11
       ·skip
        have hb := mp4 b9 b10 b11 b12
        rw [hb] at hF
        exact False.elim hF
       ·skip
        have hb := mp4 b9 b10 b11 b12
        rw [hb] at hF
        obtain ⟨b83, e9, HH⟩ := hF
        replace HH := HH.ext hEx
        exact Gives.run rfl (r_idxS (E := ELb) (l := tb) (j := ((eS lhash first gs tb ls i).2 + 1)) sli92 (hTb.ext HH.chg) rfl rfl (by first | rfl | omega | (simp; omega)) (by rfl) (by omega)) ⟨rfl, rfl⟩
     ·skip
      rcases bTF (L 10) with b10 | b10
      ·skip
       rcases bTF (L 11) with b11 | b11
       ·skip
        have hb := mp4 b9 b10 b11 b12
        rw [hb] at hF
        exact False.elim hF
       ·skip
        have hb := mp4 b9 b10 b11 b12
        rw [hb] at hF
        obtain ⟨b88, e10, HH⟩ := hF
        replace HH := HH.ext hEx
        exact Gives.run rfl (r_idxS (E := ELb) (l := tb) (j := ((eS lhash first gs tb ls i).2 + 1)) sli92 (hTb.ext HH.chg) rfl rfl (by first | rfl | omega | (simp; omega)) (by rfl) (by omega)) ⟨rfl, rfl⟩
      ·skip
       rcases bTF (L 11) with b11 | b11
       ·skip
        have hb := mp4 b9 b10 b11 b12
        rw [hb] at hF
        exact False.elim hF
       ·skip
        have hb := mp4 b9 b10 b11 b12
        rw [hb] at hF
        have HH := hF
        replace HH := HH.ext hEx
        exact Gives.run rfl (r_idxS (E := ELb) (l := tb) (j := ((eS lhash first gs tb ls i).2 + 1)) sli92 (hTb.ext HH.chg) rfl rfl (by first | rfl | omega | (simp; omega)) (by rfl) (by omega)) ⟨rfl, rfl⟩
    refine WalkE.look rfl (fun _ => .agg (cel E64 [((tb).getD ((eS lhash first gs tb ls i).2 + 1) lb0).1, ((tb).getD ((eS lhash first gs tb ls i).2 + 1) lb0).2]).toArray) (fun _ _ _ => rfl) (fun L r uw0 uw hAn hDn hF hEx => ?_) ?_
    ·skip
     have b12 := hDn 12 (by decide) rfl
     rcases bTF (L 9) with b9 | b9
     ·skip
      rcases bTF (L 10) with b10 | b10
      ·skip
       rcases bTF (L 11) with b11 | b11
       ·skip
        have hb := mp4 b9 b10 b11 b12
        rw [hb] at hF
        obtain ⟨b83, b93, e9, e10, HH⟩ := hF
        replace HH := HH.ext hEx
        exact Gives.run rfl ((r_ldS (E := ELb) (l := tb) (j := ((eS lhash first gs tb ls i).2 + 1)) (v := (tb).getD ((eS lhash first gs tb ls i).2 + 1) lb0) fits38 (hTb.ext HH.chg) rfl rfl (at_getD (by omega))).as (v' := .agg (cel E64 [((tb).getD ((eS lhash first gs tb ls i).2 + 1) lb0).1, ((tb).getD ((eS lhash first gs tb ls i).2 + 1) lb0).2]).toArray) rfl) ⟨rfl, rfl⟩
       ·skip
        have hb := mp4 b9 b10 b11 b12
        rw [hb] at hF
        obtain ⟨b83, b93, e9, e10, HH⟩ := hF
        replace HH := HH.ext hEx
        exact Gives.run rfl ((r_ldS (E := ELb) (l := tb) (j := ((eS lhash first gs tb ls i).2 + 1)) (v := (tb).getD ((eS lhash first gs tb ls i).2 + 1) lb0) fits38 (hTb.ext HH.chg) rfl rfl (at_getD (by omega))).as (v' := .agg (cel E64 [((tb).getD ((eS lhash first gs tb ls i).2 + 1) lb0).1, ((tb).getD ((eS lhash first gs tb ls i).2 + 1) lb0).2]).toArray) rfl) ⟨rfl, rfl⟩
      ·skip
       rcases bTF (L 11) with b11 | b11
       ·skip
        have hb := mp4 b9 b10 b11 b12
        rw [hb] at hF
        exact False.elim hF
       ·skip
        have hb := mp4 b9 b10 b11 b12
        rw [hb] at hF
        obtain ⟨b83, e9, HH⟩ := hF
        replace HH := HH.ext hEx
        exact Gives.run rfl ((r_ldS (E := ELb) (l := tb) (j := ((eS lhash first gs tb ls i).2 + 1)) (v := (tb).getD ((eS lhash first gs tb ls i).2 + 1) lb0) fits38 (hTb.ext HH.chg) rfl rfl (at_getD (by omega))).as (v' := .agg (cel E64 [((tb).getD ((eS lhash first gs tb ls i).2 + 1) lb0).1, ((tb).getD ((eS lhash first gs tb ls i).2 + 1) lb0).2]).toArray) rfl) ⟨rfl, rfl⟩
     ·skip
      rcases bTF (L 10) with b10 | b10
      ·skip
       rcases bTF (L 11) with b11 | b11
       ·skip
        have hb := mp4 b9 b10 b11 b12
        rw [hb] at hF
        exact False.elim hF
       ·skip
        have hb := mp4 b9 b10 b11 b12
        rw [hb] at hF
        obtain ⟨b88, e10, HH⟩ := hF
        replace HH := HH.ext hEx
        exact Gives.run rfl ((r_ldS (E := ELb) (l := tb) (j := ((eS lhash first gs tb ls i).2 + 1)) (v := (tb).getD ((eS lhash first gs tb ls i).2 + 1) lb0) fits38 (hTb.ext HH.chg) rfl rfl (at_getD (by omega))).as (v' := .agg (cel E64 [((tb).getD ((eS lhash first gs tb ls i).2 + 1) lb0).1, ((tb).getD ((eS lhash first gs tb ls i).2 + 1) lb0).2]).toArray) rfl) ⟨rfl, rfl⟩
      ·skip
       rcases bTF (L 11) with b11 | b11
       ·skip
        have hb := mp4 b9 b10 b11 b12
        rw [hb] at hF
        exact False.elim hF
       ·skip
        have hb := mp4 b9 b10 b11 b12
        rw [hb] at hF
        have HH := hF
        replace HH := HH.ext hEx
        exact Gives.run rfl ((r_ldS (E := ELb) (l := tb) (j := ((eS lhash first gs tb ls i).2 + 1)) (v := (tb).getD ((eS lhash first gs tb ls i).2 + 1) lb0) fits38 (hTb.ext HH.chg) rfl rfl (at_getD (by omega))).as (v' := .agg (cel E64 [((tb).getD ((eS lhash first gs tb ls i).2 + 1) lb0).1, ((tb).getD ((eS lhash first gs tb ls i).2 + 1) lb0).2]).toArray) rfl) ⟨rfl, rfl⟩
    refine WalkE.eff 0 rfl (fun L r uw0 uw hLn hAn hDn hF hEx => ?_) ?_
    ·skip
     have b9 : L 9 = false := hLn
     have b11 := hDn 11 (by decide) rfl
     have b12 := hDn 12 (by decide) rfl
     rcases bTF (L 10) with b10 | b10
     ·skip
      have hb := mp4 b9 b10 b11 b12
      rw [hb] at hF ⊢
      obtain ⟨b88, e10, H105⟩ := hF
      replace H105 := H105.ext hEx
      dsimp only
      refine Gives.ofW (d := 19) rfl rfl (fun Q' hK => ?_)
      refine q_alloc (o := .cells (cel E64 ([0#64, 0#64])).toArray 38 (0, 0)) H105 zer38 (by kernel_rfl) ?_
      intro b106 w107 hb106 H108 hE109
      exact hK _ _ (show ∃ (b83 : Nat) (b93 : Nat), (_ : Value) = pT b83 ∧ r 10 = pT b93 ∧ Hp No w w107 [(some b93, .cells (cel E64 ([0#64, 0#64])).toArray 38 (0, 0)), (some b83, .cells (cel E64 ([0#64, 0#64])).toArray 38 (0, 0)), (some b75, lO (lb)), (some b42, lO (la)), (some b35, .cells #[i64 (((gs).getD i g0).k), i64 (((gs).getD i g0).a), i64 (((gs).getD i g0).b)] 99 (0, 0)), (k1, sob ELb 38 ((eS lhash first gs tb ls i).1) z1), (some b1, .cells #[i64 (ls.length : Nat), .slice ga gs.length gc, .slice oa ol.length oc] 70 (0, 0)), (some b13, .cells (cel E8 (AesSpec.cipher AesSpec.fixKey)).toArray 215 (0, 0))] from ⟨b106, b88, rfl, e10, ((((((((H108.pull (k := 7) rfl).pull (k := 7) rfl).pull (k := 7) rfl).pull (k := 7) rfl).pull (k := 7) rfl).pull (k := 7) rfl).pull (k := 6) rfl).pull (k := 7) rfl)⟩)
     ·skip
      have hb := mp4 b9 b10 b11 b12
      rw [hb] at hF ⊢
      have H110 := hF
      replace H110 := H110.ext hEx
      dsimp only
      refine Gives.ofW (d := 19) rfl rfl (fun Q' hK => ?_)
      refine q_alloc (o := .cells (cel E64 ([0#64, 0#64])).toArray 38 (0, 0)) H110 zer38 (by kernel_rfl) ?_
      intro b111 w112 hb111 H113 hE114
      exact hK _ _ (show ∃ (b83 : Nat), (_ : Value) = pT b83 ∧ Hp No w w112 [(some b83, .cells (cel E64 ([0#64, 0#64])).toArray 38 (0, 0)), (some b75, lO (lb)), (some b42, lO (la)), (some b35, .cells #[i64 (((gs).getD i g0).k), i64 (((gs).getD i g0).a), i64 (((gs).getD i g0).b)] 99 (0, 0)), (k1, sob ELb 38 ((eS lhash first gs tb ls i).1) z1), (some b1, .cells #[i64 (ls.length : Nat), .slice ga gs.length gc, .slice oa ol.length oc] 70 (0, 0)), (some b13, .cells (cel E8 (AesSpec.cipher AesSpec.fixKey)).toArray 215 (0, 0))] from ⟨b111, rfl, (((((((H113.pull (k := 6) rfl).pull (k := 6) rfl).pull (k := 6) rfl).pull (k := 6) rfl).pull (k := 6) rfl).pull (k := 6) rfl).pull (k := 6) rfl)⟩)
    refine WalkE.eff 1 rfl (fun L r uw0 uw hLn hAn hDn hF hEx => ?_) ?_
    ·skip
     have b10 : L 10 = false := hLn
     have b11 := hDn 11 (by decide) rfl
     have b12 := hDn 12 (by decide) rfl
     rcases bTF (L 9) with b9 | b9
     ·skip
      have hb := mp4 b9 b10 b11 b12
      rw [hb] at hF ⊢
      obtain ⟨b83, e9, H115⟩ := hF
      replace H115 := H115.ext hEx
      dsimp only
      rw [e9]
      refine Gives.ofW (d := 20) rfl rfl (fun Q' hK => ?_)
      refine q_alloc (o := .cells (cel E64 ([0#64, 0#64])).toArray 38 (0, 0)) H115 zer38 (by kernel_rfl) ?_
      intro b116 w117 hb116 H118 hE119
      exact hK _ _ (show ∃ (b83 : Nat) (b93 : Nat), r 9 = pT b83 ∧ (_ : Value) = pT b93 ∧ Hp No w w117 [(some b93, .cells (cel E64 ([0#64, 0#64])).toArray 38 (0, 0)), (some b83, .cells (cel E64 ([0#64, 0#64])).toArray 38 (0, 0)), (some b75, lO (lb)), (some b42, lO (la)), (some b35, .cells #[i64 (((gs).getD i g0).k), i64 (((gs).getD i g0).a), i64 (((gs).getD i g0).b)] 99 (0, 0)), (k1, sob ELb 38 ((eS lhash first gs tb ls i).1) z1), (some b1, .cells #[i64 (ls.length : Nat), .slice ga gs.length gc, .slice oa ol.length oc] 70 (0, 0)), (some b13, .cells (cel E8 (AesSpec.cipher AesSpec.fixKey)).toArray 215 (0, 0))] from ⟨b83, b116, e9, rfl, ((((((((H118.pull (k := 7) rfl).pull (k := 7) rfl).pull (k := 7) rfl).pull (k := 7) rfl).pull (k := 7) rfl).pull (k := 7) rfl).pull (k := 7) rfl).pull (k := 7) rfl)⟩)
     ·skip
      have hb := mp4 b9 b10 b11 b12
      rw [hb] at hF ⊢
      have H120 := hF
      replace H120 := H120.ext hEx
      dsimp only
      refine Gives.ofW (d := 20) rfl rfl (fun Q' hK => ?_)
      refine q_alloc (o := .cells (cel E64 ([0#64, 0#64])).toArray 38 (0, 0)) H120 zer38 (by kernel_rfl) ?_
      intro b121 w122 hb121 H123 hE124
      exact hK _ _ (show ∃ (b88 : Nat), (_ : Value) = pT b88 ∧ Hp No w w122 [(some b88, .cells (cel E64 ([0#64, 0#64])).toArray 38 (0, 0)), (some b75, lO (lb)), (some b42, lO (la)), (some b35, .cells #[i64 (((gs).getD i g0).k), i64 (((gs).getD i g0).a), i64 (((gs).getD i g0).b)] 99 (0, 0)), (k1, sob ELb 38 ((eS lhash first gs tb ls i).1) z1), (some b1, .cells #[i64 (ls.length : Nat), .slice ga gs.length gc, .slice oa ol.length oc] 70 (0, 0)), (some b13, .cells (cel E8 (AesSpec.cipher AesSpec.fixKey)).toArray 215 (0, 0))] from ⟨b121, rfl, (((((((H123.pull (k := 6) rfl).pull (k := 6) rfl).pull (k := 6) rfl).pull (k := 6) rfl).pull (k := 6) rfl).pull (k := 6) rfl).pull (k := 6) rfl)⟩)
    refine WalkE.eff 2 rfl (fun L r uw0 uw hLn hAn hDn hF hEx => ?_) ?_
    ·skip
     have b9 := hAn 9 (by decide) rfl
     have b10 := hAn 10 (by decide) rfl
     have b11 : L 11 = false := hLn
     have b12 := hDn 12 (by decide) rfl
     have hb := mp4 b9 b10 b11 b12
     rw [hb] at hF ⊢
     obtain ⟨b83, b93, e9, e10, H125⟩ := hF
     replace H125 := H125.ext hEx
     dsimp only
     rw [e9, e10]
     refine Gives.ofW0 rfl (fun Q' hK => ?_)
     refine d_store (k := 1) (v := .agg (cel E64 [((tb).getD ((eS lhash first gs tb ls i).2) lb0).1, ((tb).getD ((eS lhash first gs tb ls i).2) lb0).2]).toArray) (cs' := (cel E64 ([((tb).getD ((eS lhash first gs tb ls i).2) lb0).1, ((tb).getD ((eS lhash first gs tb ls i).2) lb0).2])).toArray) H125 rfl rfl rfl siz38 (by exact celSize (by first | rfl | (show _ * 1 = _; omega))) (by exact celOne _) (by rw [List.size_toArray, cel_length]; show _ ≤ _ * 1; first | omega | (simp only [List.length_set]; omega) | exact bLe rfl | (simp <;> omega)) (by exact putAll (by first | rfl | omega | (simp <;> omega))) ?_
     intro w126 H127 hC128
     have H127' := H127.as (L' := [(some b93, .cells (cel E64 ([0#64, 0#64])).toArray 38 (0, 0)), (some b83, lO ((tb).getD ((eS lhash first gs tb ls i).2) lb0)), (some b75, lO (lb)), (some b42, lO (la)), (some b35, .cells #[i64 (((gs).getD i g0).k), i64 (((gs).getD i g0).a), i64 (((gs).getD i g0).b)] 99 (0, 0)), (k1, sob ELb 38 ((eS lhash first gs tb ls i).1) z1), (some b1, .cells #[i64 (ls.length : Nat), .slice ga gs.length gc, .slice oa ol.length oc] 70 (0, 0)), (some b13, .cells (cel E8 (AesSpec.cipher AesSpec.fixKey)).toArray 215 (0, 0))]) rfl
     clear H127
     exact hK _ (fun _ => (show ∃ (b83 : Nat) (b93 : Nat), r 9 = pT b83 ∧ r 10 = pT b93 ∧ Hp No w w126 [(some b93, .cells (cel E64 ([0#64, 0#64])).toArray 38 (0, 0)), (some b83, lO ((tb).getD ((eS lhash first gs tb ls i).2) lb0)), (some b75, lO (lb)), (some b42, lO (la)), (some b35, .cells #[i64 (((gs).getD i g0).k), i64 (((gs).getD i g0).a), i64 (((gs).getD i g0).b)] 99 (0, 0)), (k1, sob ELb 38 ((eS lhash first gs tb ls i).1) z1), (some b1, .cells #[i64 (ls.length : Nat), .slice ga gs.length gc, .slice oa ol.length oc] 70 (0, 0)), (some b13, .cells (cel E8 (AesSpec.cipher AesSpec.fixKey)).toArray 215 (0, 0))] from ⟨b83, b93, e9, e10, ((((((((H127'.pull (k := 7) rfl).pull (k := 7) rfl).pull (k := 7) rfl).pull (k := 7) rfl).pull (k := 7) rfl).pull (k := 7) rfl).pull (k := 7) rfl).pull (k := 7) rfl)⟩))
    refine WalkE.eff 3 rfl (fun L r uw0 uw hLn hAn hDn hF hEx => ?_) ?_
    ·skip
     have b9 := hAn 9 (by decide) rfl
     have b10 := hAn 10 (by decide) rfl
     have b11 := hAn 11 (by decide) rfl
     have b12 : L 12 = false := hLn
     have hb := mp4 b9 b10 b11 b12
     rw [hb] at hF ⊢
     obtain ⟨b83, b93, e9, e10, H129⟩ := hF
     replace H129 := H129.ext hEx
     dsimp only
     rw [e9, e10]
     refine Gives.ofW0 rfl (fun Q' hK => ?_)
     refine d_store (k := 0) (v := .agg (cel E64 [((tb).getD ((eS lhash first gs tb ls i).2 + 1) lb0).1, ((tb).getD ((eS lhash first gs tb ls i).2 + 1) lb0).2]).toArray) (cs' := (cel E64 ([((tb).getD ((eS lhash first gs tb ls i).2 + 1) lb0).1, ((tb).getD ((eS lhash first gs tb ls i).2 + 1) lb0).2])).toArray) H129 rfl rfl rfl siz38 (by exact celSize (by first | rfl | (show _ * 1 = _; omega))) (by exact celOne _) (by rw [List.size_toArray, cel_length]; show _ ≤ _ * 1; first | omega | (simp only [List.length_set]; omega) | exact bLe rfl | (simp <;> omega)) (by exact putAll (by first | rfl | omega | (simp <;> omega))) ?_
     intro w130 H131 hC132
     have H131' := H131.as (L' := [(some b93, lO ((tb).getD ((eS lhash first gs tb ls i).2 + 1) lb0)), (some b83, lO ((tb).getD ((eS lhash first gs tb ls i).2) lb0)), (some b75, lO (lb)), (some b42, lO (la)), (some b35, .cells #[i64 (((gs).getD i g0).k), i64 (((gs).getD i g0).a), i64 (((gs).getD i g0).b)] 99 (0, 0)), (k1, sob ELb 38 ((eS lhash first gs tb ls i).1) z1), (some b1, .cells #[i64 (ls.length : Nat), .slice ga gs.length gc, .slice oa ol.length oc] 70 (0, 0)), (some b13, .cells (cel E8 (AesSpec.cipher AesSpec.fixKey)).toArray 215 (0, 0))]) rfl
     clear H131
     exact hK _ (fun _ => (show ∃ (b83 : Nat) (b93 : Nat), r 9 = pT b83 ∧ r 10 = pT b93 ∧ Hp No w w130 [(some b93, lO ((tb).getD ((eS lhash first gs tb ls i).2 + 1) lb0)), (some b83, lO ((tb).getD ((eS lhash first gs tb ls i).2) lb0)), (some b75, lO (lb)), (some b42, lO (la)), (some b35, .cells #[i64 (((gs).getD i g0).k), i64 (((gs).getD i g0).a), i64 (((gs).getD i g0).b)] 99 (0, 0)), (k1, sob ELb 38 ((eS lhash first gs tb ls i).1) z1), (some b1, .cells #[i64 (ls.length : Nat), .slice ga gs.length gc, .slice oa ol.length oc] 70 (0, 0)), (some b13, .cells (cel E8 (AesSpec.cipher AesSpec.fixKey)).toArray 215 (0, 0))] from ⟨b83, b93, e9, e10, ((((((((H131'.pull (k := 7) rfl).pull (k := 7) rfl).pull (k := 7) rfl).pull (k := 7) rfl).pull (k := 7) rfl).pull (k := 7) rfl).pull (k := 7) rfl).pull (k := 7) rfl)⟩))
    refine WalkE.nil ?_
    intro r133 uw0 w134 hF hEx
    obtain ⟨b83, b93, e9, e10, H135⟩ := hF
    replace H135 := H135.ext hEx
    dsimp only
    rw [e9, e10]
    refine wnil ?_
    refine thenNormal ?_
    refine sR ?_
    refine sM (i64 (((eS lhash first gs tb ls i).2 : Nat))) rfl ?_
    refine sq ((r_addI (a := ((eS lhash first gs tb ls i).2 : Nat)) (b := (2 : Int)) rfl rfl (by omega)).as (v' := i64 ((((eS lhash first gs tb ls i).2 + 2) : Nat))) (by rfl)) ?_
    refine sA (i64 ((((eS lhash first gs tb ls i).2 + 2) : Nat))) rfl ?_
    refine wend ?_
    refine drawE (m := 22) [0, 0, 0, 7, 0, 31, 0, 127, 0, 0, 0, 1024, 4095, 0, 16383, 0, 0, 131071, 262143, 524287, 1048575, 2097151] [19, 21] (fun bs vs w' => match bs, vs with | [false, false], [_, _] => Hp No w w' [(some b93, lO ((tb).getD ((eS lhash first gs tb ls i).2 + 1) lb0)), (some b83, lO ((tb).getD ((eS lhash first gs tb ls i).2) lb0)), (some b75, lO (lb)), (some b42, lO (la)), (some b35, .cells #[i64 (((gs).getD i g0).k), i64 (((gs).getD i g0).a), i64 (((gs).getD i g0).b)] 99 (0, 0)), (k1, sob ELb 38 ((eS lhash first gs tb ls i).1) z1), (some b1, .cells #[i64 (ls.length : Nat), .slice ga gs.length gc, .slice oa ol.length oc] 70 (0, 0)), (some b13, .cells (cel E8 (AesSpec.cipher AesSpec.fixKey)).toArray 215 (0, 0))] | [true, false], [v19, _] => ∃ (b137 : Nat), v19 = .slice (ownA (some b137)) 4 4 ∧ Sl ELb (some b137) ([lhash la sv, lw (col la) ((tb).getD ((eS lhash first gs tb ls i).2) lb0), lhash lb (sv + (1#64)), lw (col lb) (lx ((tb).getD ((eS lhash first gs tb ls i).2 + 1) lb0) la)] : List LbT) 4 ([]) ∧ Hp No w w' [((some b137), sob ELb 38 ([lhash la sv, lw (col la) ((tb).getD ((eS lhash first gs tb ls i).2) lb0), lhash lb (sv + (1#64)), lw (col lb) (lx ((tb).getD ((eS lhash first gs tb ls i).2 + 1) lb0) la)] : List LbT) ([])), (some b93, lO ((tb).getD ((eS lhash first gs tb ls i).2 + 1) lb0)), (some b83, lO ((tb).getD ((eS lhash first gs tb ls i).2) lb0)), (some b75, lO (lb)), (some b42, lO (la)), (some b35, .cells #[i64 (((gs).getD i g0).k), i64 (((gs).getD i g0).a), i64 (((gs).getD i g0).b)] 99 (0, 0)), (k1, sob ELb 38 ((eS lhash first gs tb ls i).1) z1), (some b1, .cells #[i64 (ls.length : Nat), .slice ga gs.length gc, .slice oa ol.length oc] 70 (0, 0)), (some b13, .cells (cel E8 (AesSpec.cipher AesSpec.fixKey)).toArray 215 (0, 0))] | [true, true], [v19, _] => ∃ (b137 : Nat), v19 = .slice (ownA (some b137)) 4 4 ∧ Sl ELb (some b137) ([lhash la sv, lw (col la) ((tb).getD ((eS lhash first gs tb ls i).2) lb0), lhash lb (sv + (1#64)), lw (col lb) (lx ((tb).getD ((eS lhash first gs tb ls i).2 + 1) lb0) la)] : List LbT) 4 ([]) ∧ Hp No w w' [((some b137), sob ELb 38 ([lhash la sv, lw (col la) ((tb).getD ((eS lhash first gs tb ls i).2) lb0), lhash lb (sv + (1#64)), lw (col lb) (lx ((tb).getD ((eS lhash first gs tb ls i).2 + 1) lb0) la)] : List LbT) ([])), (some b93, lO ((tb).getD ((eS lhash first gs tb ls i).2 + 1) lb0)), (some b83, lO ((tb).getD ((eS lhash first gs tb ls i).2) lb0)), (some b75, lO (lb)), (some b42, lO (lsum ([lhash la sv, lw (col la) ((tb).getD ((eS lhash first gs tb ls i).2) lb0), lhash lb (sv + (1#64)), lw (col lb) (lx ((tb).getD ((eS lhash first gs tb ls i).2 + 1) lb0) la)] : List LbT))), (some b35, .cells #[i64 (((gs).getD i g0).k), i64 (((gs).getD i g0).a), i64 (((gs).getD i g0).b)] 99 (0, 0)), (k1, sob ELb 38 ((eS lhash first gs tb ls i).1) z1), (some b1, .cells #[i64 (ls.length : Nat), .slice ga gs.length gc, .slice oa ol.length oc] 70 (0, 0)), (some b13, .cells (cel E8 (AesSpec.cipher AesSpec.fixKey)).toArray 215 (0, 0))] | _, _ => False) mixed (by kernel_rfl) (by kernel_rfl) H135.drew ?_
    refine WalkE.look rfl (fun _ => pT b13) (fun _ _ _ => rfl) (fun L r _ uw _ _ _ _ => Gives.run rfl (r_move (v := pT b13) rfl) ⟨rfl, rfl⟩) ?_
    refine WalkE.look rfl (fun _ => lV (la)) (fun _ _ _ => rfl) (fun L r uw0 uw hAn hDn hF hEx => ?_) ?_
    ·skip
     have b19 := hDn 19 (by decide) rfl
     have b21 := hDn 21 (by decide) rfl
     have hb := mp2 b19 b21
     rw [hb] at hF
     have HH := hF
     replace HH := HH.ext hEx
     exact Gives.run rfl (r_loadA (cs' := (cel E64 ([(la).1, (la).2])).toArray) agg38 siz38 (HH.get (k := 3) rfl) (off := 0) rfl (by exact bLe rfl) (by exact ext_all rfl)) ⟨rfl, rfl⟩
    refine WalkE.look rfl (fun _ => u64 (sv)) (fun _ _ _ => rfl) (fun L r _ uw _ _ _ _ => Gives.run rfl (r_move (v := u64 (sv)) rfl) ⟨rfl, rfl⟩) ?_
    refine WalkE.call rfl (fun _ => .agg (cel E64 [(lhash la sv).1, (lhash la sv).2]).toArray) (fun _ _ _ => rfl) (fun L r uw0 uw hAn hDn hF hEx => ?_) ?_
    ·skip
     have b19 := hDn 19 (by decide) rfl
     have b21 := hDn 21 (by decide) rfl
     have hb := mp2 b19 b21
     rw [hb] at hF
     have HH := hF
     replace HH := HH.ext hEx
     exact Gives.call rfl (Enters.callL (vs := [pT b13, lV (la), u64 (sv)]) call87 rfl) (lhash_ok b13 la sv uw (HH.get (k := 7) rfl))
    refine WalkE.look rfl (fun _ => lV (la)) (fun _ _ _ => rfl) (fun L r uw0 uw hAn hDn hF hEx => ?_) ?_
    ·skip
     have b19 := hDn 19 (by decide) rfl
     have b21 := hDn 21 (by decide) rfl
     have hb := mp2 b19 b21
     rw [hb] at hF
     have HH := hF
     replace HH := HH.ext hEx
     exact Gives.run rfl (r_loadA (cs' := (cel E64 ([(la).1, (la).2])).toArray) agg38 siz38 (HH.get (k := 3) rfl) (off := 0) rfl (by exact bLe rfl) (by exact ext_all rfl)) ⟨rfl, rfl⟩
    refine WalkE.call rfl (fun _ => .bool (col la)) (fun _ _ _ => rfl) (fun L r uw0 uw hAn hDn hF hEx => ?_) ?_
    ·skip
     have b19 := hDn 19 (by decide) rfl
     have b21 := hDn 21 (by decide) rfl
     have hb := mp2 b19 b21
     rw [hb] at hF
     have HH := hF
     replace HH := HH.ext hEx
     exact Gives.call rfl (Enters.callL (vs := [lV (la)]) call84 rfl) (col_ok la uw)
    refine WalkE.look rfl (fun _ => lV ((tb).getD ((eS lhash first gs tb ls i).2) lb0)) (fun _ _ _ => rfl) (fun L r uw0 uw hAn hDn hF hEx => ?_) ?_
    ·skip
     have b19 := hDn 19 (by decide) rfl
     have b21 := hDn 21 (by decide) rfl
     have hb := mp2 b19 b21
     rw [hb] at hF
     have HH := hF
     replace HH := HH.ext hEx
     exact Gives.run rfl (r_loadA (cs' := (cel E64 ([((tb).getD ((eS lhash first gs tb ls i).2) lb0).1, ((tb).getD ((eS lhash first gs tb ls i).2) lb0).2])).toArray) agg38 siz38 (HH.get (k := 1) rfl) (off := 0) rfl (by exact bLe rfl) (by exact ext_all rfl)) ⟨rfl, rfl⟩
    refine WalkE.call rfl (fun _ => .agg (cel E64 [(lw (col la) ((tb).getD ((eS lhash first gs tb ls i).2) lb0)).1, (lw (col la) ((tb).getD ((eS lhash first gs tb ls i).2) lb0)).2]).toArray) (fun _ _ _ => rfl) (fun L r uw0 uw hAn hDn hF hEx => ?_) ?_
    ·skip
     have b19 := hDn 19 (by decide) rfl
     have b21 := hDn 21 (by decide) rfl
     have hb := mp2 b19 b21
     rw [hb] at hF
     have HH := hF
     replace HH := HH.ext hEx
     exact Gives.call rfl (Enters.callL (vs := [.bool (col la), lV ((tb).getD ((eS lhash first gs tb ls i).2) lb0)]) call89 rfl) (lw_ok (col la) ((tb).getD ((eS lhash first gs tb ls i).2) lb0) uw)
    refine WalkE.look rfl (fun _ => pT b13) (fun _ _ _ => rfl) (fun L r _ uw _ _ _ _ => Gives.run rfl (r_move (v := pT b13) rfl) ⟨rfl, rfl⟩) ?_
    refine WalkE.look rfl (fun _ => lV (lb)) (fun _ _ _ => rfl) (fun L r uw0 uw hAn hDn hF hEx => ?_) ?_
    ·skip
     have b19 := hDn 19 (by decide) rfl
     have b21 := hDn 21 (by decide) rfl
     have hb := mp2 b19 b21
     rw [hb] at hF
     have HH := hF
     replace HH := HH.ext hEx
     exact Gives.run rfl (r_loadA (cs' := (cel E64 ([(lb).1, (lb).2])).toArray) agg38 siz38 (HH.get (k := 2) rfl) (off := 0) rfl (by exact bLe rfl) (by exact ext_all rfl)) ⟨rfl, rfl⟩
    refine WalkE.look rfl (fun _ => u64 (sv)) (fun _ _ _ => rfl) (fun L r _ uw _ _ _ _ => Gives.run rfl (r_move (v := u64 (sv)) rfl) ⟨rfl, rfl⟩) ?_
    refine WalkE.look rfl (fun _ => u64 (sv + (1#64))) (fun _ _ _ => rfl) (fun L r _ uw _ _ _ _ => Gives.run rfl (r_add64 (a := sv) (b := 1#64) rfl rfl) ⟨rfl, rfl⟩) ?_
    refine WalkE.call rfl (fun _ => .agg (cel E64 [(lhash lb (sv + (1#64))).1, (lhash lb (sv + (1#64))).2]).toArray) (fun _ _ _ => rfl) (fun L r uw0 uw hAn hDn hF hEx => ?_) ?_
    ·skip
     have b19 := hDn 19 (by decide) rfl
     have b21 := hDn 21 (by decide) rfl
     have hb := mp2 b19 b21
     rw [hb] at hF
     have HH := hF
     replace HH := HH.ext hEx
     exact Gives.call rfl (Enters.callL (vs := [pT b13, lV (lb), u64 (sv + (1#64))]) call87 rfl) (lhash_ok b13 lb (sv + (1#64)) uw (HH.get (k := 7) rfl))
    refine WalkE.look rfl (fun _ => lV (lb)) (fun _ _ _ => rfl) (fun L r uw0 uw hAn hDn hF hEx => ?_) ?_
    ·skip
     have b19 := hDn 19 (by decide) rfl
     have b21 := hDn 21 (by decide) rfl
     have hb := mp2 b19 b21
     rw [hb] at hF
     have HH := hF
     replace HH := HH.ext hEx
     exact Gives.run rfl (r_loadA (cs' := (cel E64 ([(lb).1, (lb).2])).toArray) agg38 siz38 (HH.get (k := 2) rfl) (off := 0) rfl (by exact bLe rfl) (by exact ext_all rfl)) ⟨rfl, rfl⟩
    refine WalkE.call rfl (fun _ => .bool (col lb)) (fun _ _ _ => rfl) (fun L r uw0 uw hAn hDn hF hEx => ?_) ?_
    ·skip
     have b19 := hDn 19 (by decide) rfl
     have b21 := hDn 21 (by decide) rfl
     have hb := mp2 b19 b21
     rw [hb] at hF
     have HH := hF
     replace HH := HH.ext hEx
     exact Gives.call rfl (Enters.callL (vs := [lV (lb)]) call84 rfl) (col_ok lb uw)
    refine WalkE.look rfl (fun _ => lV ((tb).getD ((eS lhash first gs tb ls i).2 + 1) lb0)) (fun _ _ _ => rfl) (fun L r uw0 uw hAn hDn hF hEx => ?_) ?_
    ·skip
     have b19 := hDn 19 (by decide) rfl
     have b21 := hDn 21 (by decide) rfl
     have hb := mp2 b19 b21
     rw [hb] at hF
     have HH := hF
     replace HH := HH.ext hEx
     exact Gives.run rfl (r_loadA (cs' := (cel E64 ([((tb).getD ((eS lhash first gs tb ls i).2 + 1) lb0).1, ((tb).getD ((eS lhash first gs tb ls i).2 + 1) lb0).2])).toArray) agg38 siz38 (HH.get (k := 0) rfl) (off := 0) rfl (by exact bLe rfl) (by exact ext_all rfl)) ⟨rfl, rfl⟩
    refine WalkE.look rfl (fun _ => lV (la)) (fun _ _ _ => rfl) (fun L r uw0 uw hAn hDn hF hEx => ?_) ?_
    ·skip
     have b19 := hDn 19 (by decide) rfl
     have b21 := hDn 21 (by decide) rfl
     have hb := mp2 b19 b21
     rw [hb] at hF
     have HH := hF
     replace HH := HH.ext hEx
     exact Gives.run rfl (r_loadA (cs' := (cel E64 ([(la).1, (la).2])).toArray) agg38 siz38 (HH.get (k := 3) rfl) (off := 0) rfl (by exact bLe rfl) (by exact ext_all rfl)) ⟨rfl, rfl⟩
    refine WalkE.call rfl (fun _ => .agg (cel E64 [(lx ((tb).getD ((eS lhash first gs tb ls i).2 + 1) lb0) la).1, (lx ((tb).getD ((eS lhash first gs tb ls i).2 + 1) lb0) la).2]).toArray) (fun _ _ _ => rfl) (fun L r uw0 uw hAn hDn hF hEx => ?_) ?_
    ·skip
     have b19 := hDn 19 (by decide) rfl
     have b21 := hDn 21 (by decide) rfl
     have hb := mp2 b19 b21
     rw [hb] at hF
     have HH := hF
     replace HH := HH.ext hEx
     exact Gives.call rfl (Enters.callL (vs := [lV ((tb).getD ((eS lhash first gs tb ls i).2 + 1) lb0), lV (la)]) call86 rfl) (lxor_ok ((tb).getD ((eS lhash first gs tb ls i).2 + 1) lb0) la uw)
    refine WalkE.call rfl (fun _ => .agg (cel E64 [(lw (col lb) (lx ((tb).getD ((eS lhash first gs tb ls i).2 + 1) lb0) la)).1, (lw (col lb) (lx ((tb).getD ((eS lhash first gs tb ls i).2 + 1) lb0) la)).2]).toArray) (fun _ _ _ => rfl) (fun L r uw0 uw hAn hDn hF hEx => ?_) ?_
    ·skip
     have b19 := hDn 19 (by decide) rfl
     have b21 := hDn 21 (by decide) rfl
     have hb := mp2 b19 b21
     rw [hb] at hF
     have HH := hF
     replace HH := HH.ext hEx
     exact Gives.call rfl (Enters.callL (vs := [.bool (col lb), .agg (cel E64 [(lx ((tb).getD ((eS lhash first gs tb ls i).2 + 1) lb0) la).1, (lx ((tb).getD ((eS lhash first gs tb ls i).2 + 1) lb0) la).2]).toArray]) call89 rfl) (lw_ok (col lb) (lx ((tb).getD ((eS lhash first gs tb ls i).2 + 1) lb0) la) uw)
    refine WalkE.eff 0 rfl (fun L r uw0 uw hLn hAn hDn hF hEx => ?_) ?_
    ·skip
     have b19 : L 19 = false := hLn
     have b21 := hDn 21 (by decide) rfl
     have hb := mp2 b19 b21
     rw [hb] at hF ⊢
     have H146 := hF
     replace H146 := H146.ext hEx
     dsimp only
     refine Gives.ofW (d := 112) rfl rfl (fun Q' hK => ?_)
     refine q_buildSlice (E := ELb) (l := ([lhash la sv, lw (col la) ((tb).getD ((eS lhash first gs tb ls i).2) lb0), lhash lb (sv + (1#64)), lw (col lb) (lx ((tb).getD ((eS lhash first gs tb ls i).2 + 1) lb0) la)] : List LbT)) H146 sli92 zer38 (bLe rfl) (ps := [(0, .agg (cel E64 [(lhash la sv).1, (lhash la sv).2]).toArray), (1, .agg (cel E64 [(lw (col la) ((tb).getD ((eS lhash first gs tb ls i).2) lb0)).1, (lw (col la) ((tb).getD ((eS lhash first gs tb ls i).2) lb0)).2]).toArray), (2, .agg (cel E64 [(lhash lb (sv + (1#64))).1, (lhash lb (sv + (1#64))).2]).toArray), (3, .agg (cel E64 [(lw (col lb) (lx ((tb).getD ((eS lhash first gs tb ls i).2 + 1) lb0) la)).1, (lw (col lb) (lx ((tb).getD ((eS lhash first gs tb ls i).2 + 1) lb0) la)).2]).toArray)]) rfl (by exact fillAll rfl rfl) rfl ?_
     intro b147 w149 hS148 H150 hE151
     exact hK _ _ (show ∃ (b137 : Nat), (_ : Value) = .slice (ownA (some b137)) 4 4 ∧ Sl ELb (some b137) ([lhash la sv, lw (col la) ((tb).getD ((eS lhash first gs tb ls i).2) lb0), lhash lb (sv + (1#64)), lw (col lb) (lx ((tb).getD ((eS lhash first gs tb ls i).2 + 1) lb0) la)] : List LbT) 4 ([]) ∧ Hp No w w149 [((some b137), sob ELb 38 ([lhash la sv, lw (col la) ((tb).getD ((eS lhash first gs tb ls i).2) lb0), lhash lb (sv + (1#64)), lw (col lb) (lx ((tb).getD ((eS lhash first gs tb ls i).2 + 1) lb0) la)] : List LbT) ([])), (some b93, lO ((tb).getD ((eS lhash first gs tb ls i).2 + 1) lb0)), (some b83, lO ((tb).getD ((eS lhash first gs tb ls i).2) lb0)), (some b75, lO (lb)), (some b42, lO (la)), (some b35, .cells #[i64 (((gs).getD i g0).k), i64 (((gs).getD i g0).a), i64 (((gs).getD i g0).b)] 99 (0, 0)), (k1, sob ELb 38 ((eS lhash first gs tb ls i).1) z1), (some b1, .cells #[i64 (ls.length : Nat), .slice ga gs.length gc, .slice oa ol.length oc] 70 (0, 0)), (some b13, .cells (cel E8 (AesSpec.cipher AesSpec.fixKey)).toArray 215 (0, 0))] from ⟨b147, rfl, hS148, (((((((((H150.pull (k := 8) rfl).pull (k := 8) rfl).pull (k := 8) rfl).pull (k := 8) rfl).pull (k := 8) rfl).pull (k := 8) rfl).pull (k := 8) rfl).pull (k := 8) rfl).pull (k := 8) rfl)⟩)
    refine WalkE.call rfl (fun _ => .agg (cel E64 [(lsum ([lhash la sv, lw (col la) ((tb).getD ((eS lhash first gs tb ls i).2) lb0), lhash lb (sv + (1#64)), lw (col lb) (lx ((tb).getD ((eS lhash first gs tb ls i).2 + 1) lb0) la)] : List LbT)).1, (lsum ([lhash la sv, lw (col la) ((tb).getD ((eS lhash first gs tb ls i).2) lb0), lhash lb (sv + (1#64)), lw (col lb) (lx ((tb).getD ((eS lhash first gs tb ls i).2 + 1) lb0) la)] : List LbT)).2]).toArray) (fun _ _ _ => rfl) (fun L r uw0 uw hAn hDn hF hEx => ?_) ?_
    ·skip
     have b19 := hAn 19 (by decide) rfl
     have b21 := hDn 21 (by decide) rfl
     have hb := mp2 b19 b21
     rw [hb] at hF
     obtain ⟨b137, e19, hS138, HH⟩ := hF
     replace HH := HH.ext hEx
     dsimp only
     rw [e19]
     exact Gives.call rfl (Enters.callL (vs := [.slice (ownA (some b137)) 4 4]) call88 rfl) (lsum_ok ([lhash la sv, lw (col la) ((tb).getD ((eS lhash first gs tb ls i).2) lb0), lhash lb (sv + (1#64)), lw (col lb) (lx ((tb).getD ((eS lhash first gs tb ls i).2 + 1) lb0) la)] : List LbT) (ownA (some b137)) 4 4 (by rfl) (by simp) uw (HH.rd (k := 0) rfl hS138))
    refine WalkE.eff 1 rfl (fun L r uw0 uw hLn hAn hDn hF hEx => ?_) ?_
    ·skip
     have b19 := hAn 19 (by decide) rfl
     have b21 : L 21 = false := hLn
     have hb := mp2 b19 b21
     rw [hb] at hF ⊢
     obtain ⟨b137, e19, hS138, H152⟩ := hF
     replace H152 := H152.ext hEx
     dsimp only
     rw [e19]
     refine Gives.ofW0 rfl (fun Q' hK => ?_)
     refine d_store (k := 4) (v := .agg (cel E64 [(lsum ([lhash la sv, lw (col la) ((tb).getD ((eS lhash first gs tb ls i).2) lb0), lhash lb (sv + (1#64)), lw (col lb) (lx ((tb).getD ((eS lhash first gs tb ls i).2 + 1) lb0) la)] : List LbT)).1, (lsum ([lhash la sv, lw (col la) ((tb).getD ((eS lhash first gs tb ls i).2) lb0), lhash lb (sv + (1#64)), lw (col lb) (lx ((tb).getD ((eS lhash first gs tb ls i).2 + 1) lb0) la)] : List LbT)).2]).toArray) (cs' := (cel E64 ([(lsum ([lhash la sv, lw (col la) ((tb).getD ((eS lhash first gs tb ls i).2) lb0), lhash lb (sv + (1#64)), lw (col lb) (lx ((tb).getD ((eS lhash first gs tb ls i).2 + 1) lb0) la)] : List LbT)).1, (lsum ([lhash la sv, lw (col la) ((tb).getD ((eS lhash first gs tb ls i).2) lb0), lhash lb (sv + (1#64)), lw (col lb) (lx ((tb).getD ((eS lhash first gs tb ls i).2 + 1) lb0) la)] : List LbT)).2])).toArray) H152 rfl rfl rfl siz38 (by exact celSize (by first | rfl | (show _ * 1 = _; omega))) (by exact celOne _) (by rw [List.size_toArray, cel_length]; show _ ≤ _ * 1; first | omega | (simp only [List.length_set]; omega) | exact bLe rfl | (simp <;> omega)) (by exact putAll (by first | rfl | omega | (simp <;> omega))) ?_
     intro w153 H154 hC155
     have H154' := H154.as (L' := [((some b137), sob ELb 38 ([lhash la sv, lw (col la) ((tb).getD ((eS lhash first gs tb ls i).2) lb0), lhash lb (sv + (1#64)), lw (col lb) (lx ((tb).getD ((eS lhash first gs tb ls i).2 + 1) lb0) la)] : List LbT) ([])), (some b93, lO ((tb).getD ((eS lhash first gs tb ls i).2 + 1) lb0)), (some b83, lO ((tb).getD ((eS lhash first gs tb ls i).2) lb0)), (some b75, lO (lb)), (some b42, lO (lsum ([lhash la sv, lw (col la) ((tb).getD ((eS lhash first gs tb ls i).2) lb0), lhash lb (sv + (1#64)), lw (col lb) (lx ((tb).getD ((eS lhash first gs tb ls i).2 + 1) lb0) la)] : List LbT))), (some b35, .cells #[i64 (((gs).getD i g0).k), i64 (((gs).getD i g0).a), i64 (((gs).getD i g0).b)] 99 (0, 0)), (k1, sob ELb 38 ((eS lhash first gs tb ls i).1) z1), (some b1, .cells #[i64 (ls.length : Nat), .slice ga gs.length gc, .slice oa ol.length oc] 70 (0, 0)), (some b13, .cells (cel E8 (AesSpec.cipher AesSpec.fixKey)).toArray 215 (0, 0))]) rfl
     clear H154
     exact hK _ (fun _ => (show ∃ (b137 : Nat), r 19 = .slice (ownA (some b137)) 4 4 ∧ Sl ELb (some b137) ([lhash la sv, lw (col la) ((tb).getD ((eS lhash first gs tb ls i).2) lb0), lhash lb (sv + (1#64)), lw (col lb) (lx ((tb).getD ((eS lhash first gs tb ls i).2 + 1) lb0) la)] : List LbT) 4 ([]) ∧ Hp No w w153 [((some b137), sob ELb 38 ([lhash la sv, lw (col la) ((tb).getD ((eS lhash first gs tb ls i).2) lb0), lhash lb (sv + (1#64)), lw (col lb) (lx ((tb).getD ((eS lhash first gs tb ls i).2 + 1) lb0) la)] : List LbT) ([])), (some b93, lO ((tb).getD ((eS lhash first gs tb ls i).2 + 1) lb0)), (some b83, lO ((tb).getD ((eS lhash first gs tb ls i).2) lb0)), (some b75, lO (lb)), (some b42, lO (lsum ([lhash la sv, lw (col la) ((tb).getD ((eS lhash first gs tb ls i).2) lb0), lhash lb (sv + (1#64)), lw (col lb) (lx ((tb).getD ((eS lhash first gs tb ls i).2 + 1) lb0) la)] : List LbT))), (some b35, .cells #[i64 (((gs).getD i g0).k), i64 (((gs).getD i g0).a), i64 (((gs).getD i g0).b)] 99 (0, 0)), (k1, sob ELb 38 ((eS lhash first gs tb ls i).1) z1), (some b1, .cells #[i64 (ls.length : Nat), .slice ga gs.length gc, .slice oa ol.length oc] 70 (0, 0)), (some b13, .cells (cel E8 (AesSpec.cipher AesSpec.fixKey)).toArray 215 (0, 0))] from ⟨b137, e19, hS138, (((((((((H154'.pull (k := 8) rfl).pull (k := 8) rfl).pull (k := 8) rfl).pull (k := 8) rfl).pull (k := 8) rfl).pull (k := 8) rfl).pull (k := 8) rfl).pull (k := 8) rfl).pull (k := 8) rfl)⟩))
    refine WalkE.nil ?_
    intro r156 uw0 w157 hF hEx
    obtain ⟨b137, e19, hS138, H158⟩ := hF
    replace H158 := H158.ext hEx
    dsimp only
    rw [e19]
    refine wnil ?_
    refine blockNormal ?_
    refine thenNormal ?_
    refine oneRegion ?_
    refine sM (.slice (ownA k1) (ls.length + i) c1) rfl ?_
    refine sq (r_loadA (cs' := (cel E64 ([(lsum ([lhash la sv, lw (col la) ((tb).getD ((eS lhash first gs tb ls i).2) lb0), lhash lb (sv + (1#64)), lw (col lb) (lx ((tb).getD ((eS lhash first gs tb ls i).2 + 1) lb0) la)] : List LbT)).1, (lsum ([lhash la sv, lw (col la) ((tb).getD ((eS lhash first gs tb ls i).2) lb0), lhash lb (sv + (1#64)), lw (col lb) (lx ((tb).getD ((eS lhash first gs tb ls i).2 + 1) lb0) la)] : List LbT)).2])).toArray) agg38 siz38 (H158.get (k := 4) rfl) (off := 0) rfl (by exact bLe rfl) (by exact ext_all rfl)) ?_
    refine q_buildSlice (E := ELb) (l := ([lsum ([lhash la sv, lw (col la) ((tb).getD ((eS lhash first gs tb ls i).2) lb0), lhash lb (sv + (1#64)), lw (col lb) (lx ((tb).getD ((eS lhash first gs tb ls i).2 + 1) lb0) la)] : List LbT)] : List LbT)) H158 sli92 zer38 (bLe rfl) (ps := [(0, lV (lsum ([lhash la sv, lw (col la) ((tb).getD ((eS lhash first gs tb ls i).2) lb0), lhash lb (sv + (1#64)), lw (col lb) (lx ((tb).getD ((eS lhash first gs tb ls i).2 + 1) lb0) la)] : List LbT)))]) rfl (by exact fillAll rfl rfl) rfl ?_
    intro b159 w161 hS160 H162 hE163
    refine q_append (E := ELb) (k := 7) (l := (eS lhash first gs tb ls i).1) (l2 := ([lsum ([lhash la sv, lw (col la) ((tb).getD ((eS lhash first gs tb ls i).2) lb0), lhash lb (sv + (1#64)), lw (col lb) (lx ((tb).getD ((eS lhash first gs tb ls i).2 + 1) lb0) la)] : List LbT)] : List LbT)) H162 rfl h1 sli92 zer38 rfl byt38 (H162.rd (k := 0) rfl hS160) rfl (by rw [eS_len]) rfl (by rfl) (by omega) ?_
    intro key164 c165 sp166 w168 hS167 hne170 H169
    have H169' := H169.as (L' := [((some b159), sob ELb 38 ([lsum ([lhash la sv, lw (col la) ((tb).getD ((eS lhash first gs tb ls i).2) lb0), lhash lb (sv + (1#64)), lw (col lb) (lx ((tb).getD ((eS lhash first gs tb ls i).2 + 1) lb0) la)] : List LbT)] : List LbT) ([])), ((some b137), sob ELb 38 ([lhash la sv, lw (col la) ((tb).getD ((eS lhash first gs tb ls i).2) lb0), lhash lb (sv + (1#64)), lw (col lb) (lx ((tb).getD ((eS lhash first gs tb ls i).2 + 1) lb0) la)] : List LbT) ([])), (some b93, lO ((tb).getD ((eS lhash first gs tb ls i).2 + 1) lb0)), (some b83, lO ((tb).getD ((eS lhash first gs tb ls i).2) lb0)), (some b75, lO (lb)), (some b42, lO (lsum ([lhash la sv, lw (col la) ((tb).getD ((eS lhash first gs tb ls i).2) lb0), lhash lb (sv + (1#64)), lw (col lb) (lx ((tb).getD ((eS lhash first gs tb ls i).2 + 1) lb0) la)] : List LbT))), (some b35, .cells #[i64 (((gs).getD i g0).k), i64 (((gs).getD i g0).a), i64 (((gs).getD i g0).b)] 99 (0, 0)), (key164, sob ELb 38 (((eS lhash first gs tb ls i).1) ++ ([lsum ([lhash la sv, lw (col la) ((tb).getD ((eS lhash first gs tb ls i).2) lb0), lhash lb (sv + (1#64)), lw (col lb) (lx ((tb).getD ((eS lhash first gs tb ls i).2 + 1) lb0) la)] : List LbT)] : List LbT)) sp166), (some b1, .cells #[i64 (ls.length : Nat), .slice ga gs.length gc, .slice oa ol.length oc] 70 (0, 0)), (some b13, .cells (cel E8 (AesSpec.cipher AesSpec.fixKey)).toArray 215 (0, 0))]) rfl
    clear H169
    have e171 : ((eS lhash first gs tb ls i).1) ++ ([lsum ([lhash la sv, lw (col la) ((tb).getD ((eS lhash first gs tb ls i).2) lb0), lhash lb (sv + (1#64)), lw (col lb) (lx ((tb).getD ((eS lhash first gs tb ls i).2 + 1) lb0) la)] : List LbT)] : List LbT) = (eS lhash first gs tb ls (i + 1)).1 := by rw [eS, estep, if_neg hn1, if_pos hk, hsv, hla, hlb]; try rfl
    have hS172 := hS167
    rw [e171] at hS172
    have H173 := H169'.as (L' := [((some b159), sob ELb 38 ([lsum ([lhash la sv, lw (col la) ((tb).getD ((eS lhash first gs tb ls i).2) lb0), lhash lb (sv + (1#64)), lw (col lb) (lx ((tb).getD ((eS lhash first gs tb ls i).2 + 1) lb0) la)] : List LbT)] : List LbT) ([])), ((some b137), sob ELb 38 ([lhash la sv, lw (col la) ((tb).getD ((eS lhash first gs tb ls i).2) lb0), lhash lb (sv + (1#64)), lw (col lb) (lx ((tb).getD ((eS lhash first gs tb ls i).2 + 1) lb0) la)] : List LbT) ([])), (some b93, lO ((tb).getD ((eS lhash first gs tb ls i).2 + 1) lb0)), (some b83, lO ((tb).getD ((eS lhash first gs tb ls i).2) lb0)), (some b75, lO (lb)), (some b42, lO (lsum ([lhash la sv, lw (col la) ((tb).getD ((eS lhash first gs tb ls i).2) lb0), lhash lb (sv + (1#64)), lw (col lb) (lx ((tb).getD ((eS lhash first gs tb ls i).2 + 1) lb0) la)] : List LbT))), (some b35, .cells #[i64 (((gs).getD i g0).k), i64 (((gs).getD i g0).a), i64 (((gs).getD i g0).b)] 99 (0, 0)), (key164, sob ELb 38 ((eS lhash first gs tb ls (i + 1)).1) sp166), (some b1, .cells #[i64 (ls.length : Nat), .slice ga gs.length gc, .slice oa ol.length oc] 70 (0, 0)), (some b13, .cells (cel E8 (AesSpec.cipher AesSpec.fixKey)).toArray 215 (0, 0))]) (by rw [e171])
    refine sA (.slice (ownA key164) ((ls.length + i) + 1) c165) rfl ?_
    refine wnil ?_
    refine blockNormal ?_
    refine thenNormal ?_
    refine oneRegion ?_
    refine sq (r_addI (a := (i : Nat)) (b := (1 : Int)) rfl rfl (by omega)) ?_
    refine sM (i64 ((i : Nat) + (1 : Int))) rfl ?_
    refine wnil ?_
    refine thenNormal ?_
    exact ⟨(i + 1, key164, c165, sp166, (eS lhash first gs tb ls i).2 + 2), _, rfl, ⟨rfl, rfl, rfl, rfl, rfl, rfl, rfl, rfl, rfl, trivial⟩, ⟨⟨by omega, hS172, by rw [eS, estep, if_neg hn1, if_pos hk]⟩, (((((((H173.dropk 6).dropk 5).dropk 4).dropk 3).dropk 2).dropk 1).dropk 0)⟩, by show gs.length - (i + 1) < gs.length - i; omega⟩
   ·skip
    have hn2 := hk2
    refine skipAny ?_
    refine blockNormal ?_
    refine thenNormal ?_
    refine oneRegion ?_
    refine sM (.slice (ownA k1) (ls.length + i) c1) rfl ?_
    refine sq (r_loadA (cs' := (cel E64 ([(la).1, (la).2])).toArray) agg38 siz38 (H47'.get (k := 0) rfl) (off := 0) rfl (by exact bLe rfl) (by exact ext_all rfl)) ?_
    refine q_buildSlice (E := ELb) (l := ([la] : List LbT)) H47' sli92 zer38 (bLe rfl) (ps := [(0, lV (la))]) rfl (by exact fillAll rfl rfl) rfl ?_
    intro b174 w176 hS175 H177 hE178
    refine q_append (E := ELb) (k := 3) (l := (eS lhash first gs tb ls i).1) (l2 := ([la] : List LbT)) H177 rfl h1 sli92 zer38 rfl byt38 (H177.rd (k := 0) rfl hS175) rfl (by rw [eS_len]) rfl (by rfl) (by omega) ?_
    intro key179 c180 sp181 w183 hS182 hne185 H184
    have H184' := H184.as (L' := [((some b174), sob ELb 38 ([la] : List LbT) ([])), (some b42, lO (la)), (some b35, .cells #[i64 (((gs).getD i g0).k), i64 (((gs).getD i g0).a), i64 (((gs).getD i g0).b)] 99 (0, 0)), (key179, sob ELb 38 (((eS lhash first gs tb ls i).1) ++ ([la] : List LbT)) sp181), (some b1, .cells #[i64 (ls.length : Nat), .slice ga gs.length gc, .slice oa ol.length oc] 70 (0, 0)), (some b13, .cells (cel E8 (AesSpec.cipher AesSpec.fixKey)).toArray 215 (0, 0))]) rfl
    clear H184
    have e186 : ((eS lhash first gs tb ls i).1) ++ ([la] : List LbT) = (eS lhash first gs tb ls (i + 1)).1 := by rw [eS, estep, if_neg hn1, if_neg hn2, hla]
    have hS187 := hS182
    rw [e186] at hS187
    have H188 := H184'.as (L' := [((some b174), sob ELb 38 ([la] : List LbT) ([])), (some b42, lO (la)), (some b35, .cells #[i64 (((gs).getD i g0).k), i64 (((gs).getD i g0).a), i64 (((gs).getD i g0).b)] 99 (0, 0)), (key179, sob ELb 38 ((eS lhash first gs tb ls (i + 1)).1) sp181), (some b1, .cells #[i64 (ls.length : Nat), .slice ga gs.length gc, .slice oa ol.length oc] 70 (0, 0)), (some b13, .cells (cel E8 (AesSpec.cipher AesSpec.fixKey)).toArray 215 (0, 0))]) (by rw [e186])
    refine sA (.slice (ownA key179) ((ls.length + i) + 1) c180) rfl ?_
    refine wnil ?_
    refine blockNormal ?_
    refine thenNormal ?_
    refine oneRegion ?_
    refine sq (r_addI (a := (i : Nat)) (b := (1 : Int)) rfl rfl (by omega)) ?_
    refine sM (i64 ((i : Nat) + (1 : Int))) rfl ?_
    refine wnil ?_
    refine thenNormal ?_
    exact ⟨(i + 1, key179, c180, sp181, (eS lhash first gs tb ls i).2), _, rfl, ⟨rfl, rfl, rfl, rfl, rfl, rfl, rfl, rfl, rfl, trivial⟩, ⟨⟨by omega, hS187, by rw [eS, estep, if_neg hn1, if_neg hn2]⟩, (((H188.dropk 2).dropk 1).dropk 0)⟩, by show gs.length - (i + 1) < gs.length - i; omega⟩
 ·skip
  have hie : i = gs.length := by omega
  rw [hie] at HL h1
  rw [hie]
  refine exitAny ?_
  refine thenExit ?_
  refine thenExit ?_
  refine blockHere ?_
  refine thenNormal ?_
  refine sR ?_
  refine sq (r_loadA (cs' := #[i64 (ls.length : Nat), .slice ga gs.length gc, .slice oa ol.length oc]) agg70 siz70 (HL.get (k := 1) rfl) (off := 0) rfl (by exact bLe rfl) (by rfl)) ?_
  refine sM (.slice (ownA k1) (ls.length + gs.length) c1) rfl ?_
  refine c_call (vs := [.agg #[i64 (ls.length : Nat), .slice ga gs.length gc, .slice oa ol.length oc], .slice (ownA k1) (ls.length + gs.length) c1]) call90 rfl (outs_ok ((ls.length : Nat) : Int) gs ol ga oa gc oc ((eS lhash first gs tb ls gs.length).1) (ownA k1) (ls.length + gs.length) c1 (by rw [eS_len]) w33 (hOl.ext HL.chg) (HL.rd (k := 0) rfl h1) (by omega) (fun j hj => by rw [eS_len]; have := hg.ook j hj; omega)) ?_
  rintro _ w189 ⟨⟨key191, c192, sp193, rfl, hS194, hk195⟩, hE196⟩
  rw [show (oL (eS lhash first gs tb ls gs.length).1 ol ol.length).length = ol.length from oL_len _ _ _]
  have H197 := HL.add hE196 hk195
  refine sA (.slice (ownA key191) ol.length c192) rfl ?_
  refine sA (.nilIface) rfl ?_
  refine wend ?_
  refine retAny ?_
  refine retG (rs := [.tmp 8, .tmp 9]) (vs := [.slice (ownA key191) ol.length c192, .nilIface]) rfl ⟨⟨rfl, rfl⟩, ⟨rfl, rfl⟩, trivial⟩ ?_
  exact ⟨_, rfl, key191, c192, sp193, rfl, hS194, (((H197.dropk 3).dropk 2).dropk 1)⟩
end Go.Proofs.YteofdmdpaejgaaaDoor.Gb
namespace Go.Proofs.YteofdmdpaejgaaaDoor.Gb
open Go Go.Proofs.YteofdmdpaejgaaaDoor.Vc Go.Proofs.YteofdmdpaejgaaaDoor.Er Go.Proofs.YteofdmdpaejgaaaDoor.Circ
set_option linter.unusedVariables false
theorem fld94_1 : fld Tryd.prog 94 1 = some (2, 1, 92) := by kernel_rfl
theorem gty38 : Tryd.prog.eqGuardType Tryd.prog.depth 38 = false := by kernel_rfl
theorem one92 : isOne Tryd.prog 92 = true := by kernel_rfl
theorem und38 : Tryd.prog.underlying 38 = some (.array 2 32) := by kernel_rfl
theorem label_ok (z δ : Lb) (b : Bool) (w : World) : Calls Tryd.prog 48 [.agg (cel E64 [(z).1, (z).2]).toArray, .agg (cel E64 [(δ).1, (δ).2]).toArray, .bool (b)].toArray w (Ret fun v w' => v = .agg (cel E64 [(lx z (lw b δ)).1, (lx z (lw b δ)).2]).toArray ∧ Ext w w') := by
 have H := Hp.start No w
 refine enter (n := 12) Tryd.func48 rfl rfl (bLe rfl) ?_
 refine sR ?_
 refine q_box (v := .agg (cel E64 [(z).1, (z).2]).toArray) (o := lO (z)) H rfl (by rfl) ?_
 intro b31 w32 hb31 H33 hE34
 refine q_box (v := .agg (cel E64 [(δ).1, (δ).2]).toArray) (o := lO (δ)) H33 rfl (by rfl) ?_
 intro b35 w36 hb35 H37 hE38
 refine q_alloc (o := .cells (cel E64 ([0#64, 0#64])).toArray 38 (0, 0)) H37 zer38 (by kernel_rfl) ?_
 intro b39 w40 hb39 H41 hE42
 refine wend ?_
 refine seqAny ?_
 refine drawE (m := 6) [0, 0, 0, 6, 15, 31] [5] (fun bs vs w' => match bs, vs with | [false], [_] => Hp No w w' [(some b39, .cells (cel E64 ([0#64, 0#64])).toArray 38 (0, 0)), (some b35, lO (δ)), (some b31, lO (z))] | [true], [_] => Hp No w w' [(some b39, lO (lx z (lw b δ))), (some b35, lO (δ)), (some b31, lO (z))] | _, _ => False) mixed (by kernel_rfl) (by kernel_rfl) H41.drew ?_
 refine WalkE.look rfl (fun _ => lV (z)) (fun _ _ _ => rfl) (fun L r uw0 uw hAn hDn hF hEx => ?_) ?_
 ·skip
  have b5 := hDn 5 (by decide) rfl
  have hb : List.map L [5] = [false] := by simp only [List.map_cons, List.map_nil, b5]
  rw [hb] at hF
  have HH := hF
  replace HH := HH.ext hEx
  exact Gives.run rfl (r_loadA (cs' := (cel E64 ([(z).1, (z).2])).toArray) agg38 siz38 (HH.get (k := 2) rfl) (off := 0) rfl (by exact bLe rfl) (by exact ext_all rfl)) ⟨rfl, rfl⟩
 refine WalkE.look rfl (fun _ => .bool (b)) (fun _ _ _ => rfl) (fun L r _ uw _ _ _ _ => Gives.run rfl (r_move (v := .bool (b)) rfl) ⟨rfl, rfl⟩) ?_
 refine WalkE.look rfl (fun _ => lV (δ)) (fun _ _ _ => rfl) (fun L r uw0 uw hAn hDn hF hEx => ?_) ?_
 ·skip
  have b5 := hDn 5 (by decide) rfl
  have hb : List.map L [5] = [false] := by simp only [List.map_cons, List.map_nil, b5]
  rw [hb] at hF
  have HH := hF
  replace HH := HH.ext hEx
  exact Gives.run rfl (r_loadA (cs' := (cel E64 ([(δ).1, (δ).2])).toArray) agg38 siz38 (HH.get (k := 1) rfl) (off := 0) rfl (by exact bLe rfl) (by exact ext_all rfl)) ⟨rfl, rfl⟩
 refine WalkE.call rfl (fun _ => .agg (cel E64 [(lw b δ).1, (lw b δ).2]).toArray) (fun _ _ _ => rfl) (fun L r uw0 uw hAn hDn hF hEx => ?_) ?_
 ·skip
  have b5 := hDn 5 (by decide) rfl
  have hb : List.map L [5] = [false] := by simp only [List.map_cons, List.map_nil, b5]
  rw [hb] at hF
  have HH := hF
  replace HH := HH.ext hEx
  exact Gives.call rfl (Enters.callL (vs := [.bool (b), lV (δ)]) call89 rfl) (lw_ok b δ uw)
 refine WalkE.call rfl (fun _ => .agg (cel E64 [(lx z (lw b δ)).1, (lx z (lw b δ)).2]).toArray) (fun _ _ _ => rfl) (fun L r uw0 uw hAn hDn hF hEx => ?_) ?_
 ·skip
  have b5 := hDn 5 (by decide) rfl
  have hb : List.map L [5] = [false] := by simp only [List.map_cons, List.map_nil, b5]
  rw [hb] at hF
  have HH := hF
  replace HH := HH.ext hEx
  exact Gives.call rfl (Enters.callL (vs := [lV (z), .agg (cel E64 [(lw b δ).1, (lw b δ).2]).toArray]) call86 rfl) (lxor_ok z (lw b δ) uw)
 refine WalkE.eff 0 rfl (fun L r uw0 uw hLn hAn hDn hF hEx => ?_) ?_
 ·skip
  have b5 : L 5 = false := hLn
  have hb : List.map L [5] = [false] := by simp only [List.map_cons, List.map_nil, b5]
  rw [hb] at hF ⊢
  have H47 := hF
  replace H47 := H47.ext hEx
  dsimp only
  refine Gives.ofW0 rfl (fun Q' hK => ?_)
  refine d_store (k := 0) (v := .agg (cel E64 [(lx z (lw b δ)).1, (lx z (lw b δ)).2]).toArray) (cs' := (cel E64 ([(lx z (lw b δ)).1, (lx z (lw b δ)).2])).toArray) H47 rfl rfl rfl siz38 (by exact celSize (by first | rfl | (show _ * 1 = _; omega))) (by exact celOne _) (by rw [List.size_toArray, cel_length]; show _ ≤ _ * 1; first | omega | (simp only [List.length_set]; omega) | exact bLe rfl | (simp <;> omega)) (by exact putAll (by first | rfl | omega | (simp <;> omega))) ?_
  intro w48 H49 hC50
  have H49' := H49.as (L' := [(some b39, lO (lx z (lw b δ))), (some b35, lO (δ)), (some b31, lO (z))]) rfl
  clear H49
  exact hK _ (fun _ => (show Hp No w w48 [(some b39, lO (lx z (lw b δ))), (some b35, lO (δ)), (some b31, lO (z))] from (((H49'.pull (k := 2) rfl).pull (k := 2) rfl).pull (k := 2) rfl)))
 refine WalkE.nil ?_
 intro r51 uw0 w52 hF hEx
 have H53 := hF
 replace H53 := H53.ext hEx
 dsimp only
 refine wnil ?_
 refine thenNormal ?_
 refine retAny ?_
 refine retG (rs := [.cell 6 38]) (vs := [lV (lx z (lw b δ))]) rfl ⟨r_loadA (cs' := (cel E64 ([(lx z (lw b δ)).1, (lx z (lw b δ)).2])).toArray) agg38 siz38 (H53.get (k := 0) rfl) (off := 0) rfl (by exact bLe rfl) (by exact ext_all rfl), trivial⟩ ?_
 exact ⟨_, rfl, rfl, H53.chg⟩
theorem same_ok (l : List Lb) (a1 a2 : Option Addr) (n1 n2 c1 c2 : Nat) (hn1 : n1 = l.length) (hn2 : n2 = l.length) (w : World) (h1 : Rd ELb w a1 l) (h2 : Rd ELb w a2 l) (hl : l.length ≤ 140737488355328) : Calls Tryd.prog 47 [.slice a1 n1 c1, .slice a2 n2 c2].toArray w (Ret fun v w' => v = .bool true ∧ Ext w w') := by
 subst hn1 hn2
 have H := Hp.start No w
 refine enter (n := 26) Tryd.func47 rfl rfl (bLe rfl) ?_
 refine sR ?_
 refine sA (.bool (false)) rfl ?_
 refine wend ?_
 refine seqAny ?_
 refine sR ?_
 refine sM (.slice a1 l.length c1) rfl ?_
 refine sq (r_lenS sli92 (a := a1) (m := l.length) (c := c1) rfl) ?_
 refine sM (.slice a2 l.length c2) rfl ?_
 refine sq (r_lenS sli92 (a := a2) (m := l.length) (c := c2) rfl) ?_
 refine sq ((r_neqI (a := (l.length : Nat)) (b := (l.length : Nat)) rfl rfl).as (v' := .bool (false)) (by simp)) ?_
 refine wend ?_
 refine condFalse rfl ?_
 refine skipAny ?_
 refine thenNormal ?_
 refine seqAny ?_
 refine sR ?_
 refine sM (.slice a1 l.length c1) rfl ?_
 refine sq (r_lenS sli92 (a := a1) (m := l.length) (c := c1) rfl) ?_
 refine sM (i64 ((0 : Int))) rfl ?_
 refine wend ?_
 refine blockAny ?_
 refine loopAny (σ := Nat) (fun q => [(0, .slice a1 l.length c1), (1, .slice a2 l.length c2), (12, i64 (l.length : Nat)), (13, i64 (q : Nat))]) (fun q w' => q ≤ l.length ∧ Hp No w w' []) (fun q => l.length - q) (0) ?_ ?_ ?_
 ·exact ⟨rfl, rfl, rfl, rfl, trivial⟩
 ·exact ⟨Nat.zero_le _, H⟩
 rintro q ρ w1 ⟨hq, HL⟩
 refine sR ?_
 refine sq (r_lssI (a := (q : Nat)) (b := (l.length : Nat)) rfl rfl) ?_
 refine wend ?_
 refine seqAny ?_
 refine condProp (((q : Nat) : Int) < (l.length : Nat)) rfl (fun c14 => ?_) (fun c14 => ?_)
 ·skip
  refine skipAny ?_
  refine thenNormal ?_
  refine seqAny ?_
  refine blockAny ?_
  refine sR ?_
  refine sM (i64 (q : Nat)) rfl ?_
  refine sA (i64 (q : Nat)) rfl ?_
  refine wend ?_
  refine seqAny ?_
  refine drawAny (K := [none, none, none, none, none, none, none, none, none]) [0, 0, 3, 7, 0, 0, 48, 112, 255] (fun w' => Ext w1 w') (fun w' w'' => Ext w' w'') mixed (by kernel_rfl) (Ext.drew _) (fun _ _ h h' => h.trans h') ?_ ?_
  ·exact relNone (by decide)
  refine ⟨.slice a1 l.length c1, fun _ uw3 hC4 _ => Gives.run rfl (r_move (v := .slice a1 l.length c1) rfl) ⟨rfl, Chg.refl _ _⟩, ?_⟩
  refine ⟨i64 (q : Nat), fun _ uw5 hC6 _ => Gives.run rfl (r_move (v := i64 (q : Nat)) rfl) ⟨rfl, Chg.refl _ _⟩, ?_⟩
  refine ⟨.pointer (adr a1 (q * 2)), fun _ uw7 hC8 _ => Gives.run rfl (r_idxS (E := ELb) (l := l) (j := q) sli92 (h1.ext (HL.ext hC8).chg) rfl rfl (by first | rfl | omega | (simp; omega)) (by rfl) (by omega)) ⟨rfl, Chg.refl _ _⟩, ?_⟩
  refine ⟨.agg (cel E64 [((l).getD q lb0).1, ((l).getD q lb0).2]).toArray, fun _ uw9 hC10 _ => Gives.run rfl ((r_ldS (E := ELb) (l := l) (j := q) (v := (l).getD q lb0) fits38 (h1.ext (HL.ext hC10).chg) rfl rfl (at_getD (by omega))).as (v' := .agg (cel E64 [((l).getD q lb0).1, ((l).getD q lb0).2]).toArray) rfl) ⟨rfl, Chg.refl _ _⟩, ?_⟩
  refine ⟨.slice a2 l.length c2, fun _ uw11 hC12 _ => Gives.run rfl (r_move (v := .slice a2 l.length c2) rfl) ⟨rfl, Chg.refl _ _⟩, ?_⟩
  refine ⟨i64 (q : Nat), fun _ uw13 hC14 _ => Gives.run rfl (r_move (v := i64 (q : Nat)) rfl) ⟨rfl, Chg.refl _ _⟩, ?_⟩
  refine ⟨.pointer (adr a2 (q * 2)), fun _ uw15 hC16 _ => Gives.run rfl (r_idxS (E := ELb) (l := l) (j := q) sli92 (h2.ext (HL.ext hC16).chg) rfl rfl (by first | rfl | omega | (simp; omega)) (by rfl) (by omega)) ⟨rfl, Chg.refl _ _⟩, ?_⟩
  refine ⟨.agg (cel E64 [((l).getD q lb0).1, ((l).getD q lb0).2]).toArray, fun _ uw17 hC18 _ => Gives.run rfl ((r_ldS (E := ELb) (l := l) (j := q) (v := (l).getD q lb0) fits38 (h2.ext (HL.ext hC18).chg) rfl rfl (at_getD (by omega))).as (v' := .agg (cel E64 [((l).getD q lb0).1, ((l).getD q lb0).2]).toArray) rfl) ⟨rfl, Chg.refl _ _⟩, ?_⟩
  refine ⟨.bool (false), fun _ uw19 hC20 _ => Gives.run rfl ((r_neqA (E := E64) (l := [((l).getD q lb0).1, ((l).getD q lb0).2]) (l' := [((l).getD q lb0).1, ((l).getD q lb0).2]) gty38 und38 fits32 (eqAt64 und32) (rfl) (rfl) rfl rfl).as (v' := .bool (false)) (by simp)) ⟨rfl, Chg.refl _ _⟩, ?_⟩
  intro r24 w21 hE23 hF
  have H22 := HL.ext hE23
  refine wnil ?_
  refine thenNormal ?_
  refine condFalse rfl ?_
  refine skipAny ?_
  refine blockNormal ?_
  refine thenNormal ?_
  refine oneRegion ?_
  refine sq (r_addI (a := (q : Nat)) (b := (1 : Int)) rfl rfl (by omega)) ?_
  refine sM (i64 ((q : Nat) + (1 : Int))) rfl ?_
  refine wnil ?_
  refine thenNormal ?_
  exact ⟨q + 1, _, rfl, ⟨rfl, rfl, rfl, rfl, trivial⟩, ⟨by omega, H22⟩, by show l.length - (q + 1) < l.length - q; omega⟩
 ·skip
  refine exitAny ?_
  refine thenExit ?_
  refine thenExit ?_
  refine blockHere ?_
  refine thenNormal ?_
  refine sR ?_
  refine sA (.bool (true)) rfl ?_
  refine wend ?_
  refine retAny ?_
  refine retG (rs := [.tmp 4]) (vs := [.bool (true)]) rfl ⟨⟨rfl, rfl⟩, trivial⟩ ?_
  exact ⟨_, rfl, rfl, HL.chg⟩
theorem zeros_ok (δ : Lb) (zs : List Lb) (za : Option Addr) (zc : Nat) (hzc : zs.length ≤ zc) (first : BitVec 64) (n : Int) (hn : n ≤ 200) (w : World) (hZ : Rd ELb w za zs) : Calls Tryd.prog 44 [.agg #[u64 (δ.1), u64 (δ.2), .slice za zs.length zc, u64 (first)], i64 (n)].toArray w (Ret fun v w' => SlRes ELb 38 (zerosS zs n.toNat) w v w' ∧ Ext w w') := by
 obtain ⟨m0, hm0⟩ : ∃ m, m = min zs.length n.toNat := ⟨_, rfl⟩
 obtain ⟨z0, hz0⟩ : ∃ l, l = zs.take m0 := ⟨_, rfl⟩
 have hzl : z0.length = m0 := by rw [hz0, List.length_take]; omega
 have H := Hp.start No w
 refine enter (n := 36) Tryd.func44 rfl rfl (bLe rfl) ?_
 refine sR ?_
 refine q_box (v := .agg #[u64 (δ.1), u64 (δ.2), .slice za zs.length zc, u64 (first)]) (o := .cells #[u64 (δ.1), u64 (δ.2), .slice za zs.length zc, u64 (first)] 94 (0, 0)) H rfl (by rfl) ?_
 intro b1 w2 hb1 H3 hE4
 refine sA (.slice none 0 0) rfl ?_
 refine wend ?_
 refine sR ?_
 refine q_buildSlice (E := ELb) (l := ([] : List LbT)) H3 sli92 zer38 (bLe rfl) (ps := []) rfl (by exact fillAll rfl rfl) rfl ?_
 intro b5 w7 hS6 H8 hE9
 refine sq (r_fieldAddr (off' := 2) fld94_1 (by decide) (b := b1) (off := 0) rfl (by omega)) ?_
 refine sq (r_loadC (v := .slice za zs.length zc) one92 (H8.get (k := 1) rfl) (off := 2) rfl (by rfl)) ?_
 refine sq (r_fieldAddr (off' := 2) fld94_1 (by decide) (b := b1) (off := 0) rfl (by omega)) ?_
 refine sq (r_loadC (v := .slice za zs.length zc) one92 (H8.get (k := 1) rfl) (off := 2) rfl (by rfl)) ?_
 refine sq (r_lenS sli92 (a := za) (m := zs.length) (c := zc) rfl) ?_
 refine sM (i64 (n)) rfl ?_
 refine sq (r_maxI (a := n) (b := (0 : Int)) rfl rfl) ?_
 refine sq ((r_minI (a := (zs.length : Nat)) (b := max n (0 : Int)) rfl rfl).as (v' := i64 (m0 : Nat)) (by exact congrArg i64 (by omega))) ?_
 refine sq ((r_sliceS (l := 0) (h := m0) sli92 rfl (.inr ⟨rfl, rfl⟩) (.inl ⟨_, _, _, rfl, rfl, by first | rfl | omega | (simp; omega)⟩) (by omega) (by omega)).as (v' := .slice (if zc = 0 then za else adr za (0 * 2)) m0 (zc - 0)) (by first | rfl | (congr 1; omega) | (simp; omega) | simp)) ?_
 refine q_append (E := ELb) (k := 0) (l := ([] : List LbT)) (l2 := (zs.drop 0).take (m0)) H8 rfl hS6 sli92 zer38 rfl byt38 (Rd.sub (hZ.ext H8.chg) 0 (m0) (m := zc) (fun e => by first | exact absurd e (by omega) | (rw [show m0 = 0 by omega]; rfl))) rfl (by rfl) rfl (by first | rfl | omega | (simp; omega) | (simp at *; omega)) (by omega) ?_
 intro key10 c11 sp12 w14 hS13 hne16 H15
 have H15' := H15.as (L' := [(key10, sob ELb 38 (([] : List LbT) ++ ((zs.drop 0).take (m0))) sp12), (some b1, .cells #[u64 (δ.1), u64 (δ.2), .slice za zs.length zc, u64 (first)] 94 (0, 0))]) rfl
 clear H15
 have e17 : ([] : List LbT) ++ ((zs.drop 0).take (m0)) = z0 := by rw [List.nil_append, List.drop_zero, hz0]
 have hS18 := hS13
 rw [e17] at hS18
 have H19 := H15'.as (L' := [(key10, sob ELb 38 z0 sp12), (some b1, .cells #[u64 (δ.1), u64 (δ.2), .slice za zs.length zc, u64 (first)] 94 (0, 0))]) (by rw [e17])
 refine sA (.slice (ownA key10) (0 + m0) c11) rfl ?_
 refine wend ?_
 refine seqAny ?_
 refine sR ?_
 refine sM (.slice (ownA key10) (0 + m0) c11) rfl ?_
 refine sq (r_lenS sli92 (a := ownA key10) (m := 0 + m0) (c := c11) rfl) ?_
 refine sA (i64 ((0 + m0 : Nat))) rfl ?_
 refine wend ?_
 refine blockAny ?_
 refine loopAny (σ := Nat × Option Nat × Nat × List Value) (fun (i, key, c, sp) => [(1, i64 (n)), (5, .slice (ownA key) (m0 + i) c), (6, i64 (((m0 + i) : Nat)))]) (fun (i, key, c, sp) w' => (i ≤ n.toNat - m0 ∧ Sl ELb key (zS z0 i) c sp) ∧ Hp No w w' [(key, sob ELb 38 (zS z0 i) sp)]) (fun (i, key, c, sp) => n.toNat - m0 - i) ((0, key10, c11, sp12)) ?_ ?_ ?_
 ·exact ⟨rfl, congrArg (fun q => Value.slice _ q _) (by omega), congrArg i64 (by omega), trivial⟩
 ·exact ⟨⟨Nat.zero_le _, hS18⟩, (H19.dropk 1)⟩
 rintro ⟨i, key, c, sp⟩ ρ w20 ⟨⟨hi, hS⟩, HL⟩
 have hwl := zS_len z0 i
 refine seqAny ?_
 refine sR ?_
 refine sM (i64 (((m0 + i) : Nat))) rfl ?_
 refine sM (i64 (n)) rfl ?_
 refine sq (r_lssI (a := ((m0 + i) : Nat)) (b := n) rfl rfl) ?_
 refine wend ?_
 refine condProp ((((m0 + i) : Nat) : Int) < n) rfl (fun c22 => ?_) (fun c22 => ?_)
 ·skip
  refine skipAny ?_
  refine thenNormal ?_
  refine seqAny ?_
  refine blockAny ?_
  refine oneRegion ?_
  refine sM (.slice (ownA key) (m0 + i) c) rfl ?_
  refine sM (i64 (((m0 + i) : Nat))) rfl ?_
  refine sq (r_Ito64 und3 und32 (a := ((m0 + i) : Nat)) rfl) ?_
  refine sq (r_mul64 (a := BitVec.ofInt 64 ((m0 + i) : Nat)) (b := 77#64) rfl rfl) ?_
  refine sM (i64 (((m0 + i) : Nat))) rfl ?_
  refine sq (r_Ito64 und3 und32 (a := ((m0 + i) : Nat)) rfl) ?_
  refine sq (r_mul64 (a := BitVec.ofInt 64 ((m0 + i) : Nat)) (b := 1000003#64) rfl rfl) ?_
  refine sq (r_buildA (cs' := (cel E64 [(BitVec.ofInt 64 ((m0 + i) : Nat)) * (77#64), (BitVec.ofInt 64 ((m0 + i) : Nat)) * (1000003#64)]).toArray) (ps := [(0, u64 ((BitVec.ofInt 64 ((m0 + i) : Nat)) * (77#64))), (1, u64 ((BitVec.ofInt 64 ((m0 + i) : Nat)) * (1000003#64)))]) zer38 arr38 rfl (by rfl)) ?_
  refine q_buildSlice (E := ELb) (l := ([((BitVec.ofInt 64 ((m0 + i) : Nat)) * (77#64), (BitVec.ofInt 64 ((m0 + i) : Nat)) * (1000003#64))] : List LbT)) HL sli92 zer38 (bLe rfl) (ps := [(0, .agg (cel E64 [(BitVec.ofInt 64 ((m0 + i) : Nat)) * (77#64), (BitVec.ofInt 64 ((m0 + i) : Nat)) * (1000003#64)]).toArray)]) rfl (by exact fillAll rfl rfl) rfl ?_
  intro b22 w24 hS23 H25 hE26
  refine q_append (E := ELb) (k := 1) (l := zS z0 i) (l2 := ([((BitVec.ofInt 64 ((m0 + i) : Nat)) * (77#64), (BitVec.ofInt 64 ((m0 + i) : Nat)) * (1000003#64))] : List LbT)) H25 rfl hS sli92 zer38 rfl byt38 (H25.rd (k := 0) rfl hS23) rfl (by rw [zS_len, hzl]) rfl (by rfl) (by omega) ?_
  intro key27 c28 sp29 w31 hS30 hne33 H32
  have H32' := H32.as (L' := [((some b22), sob ELb 38 ([((BitVec.ofInt 64 ((m0 + i) : Nat)) * (77#64), (BitVec.ofInt 64 ((m0 + i) : Nat)) * (1000003#64))] : List LbT) ([])), (key27, sob ELb 38 ((zS z0 i) ++ ([((BitVec.ofInt 64 ((m0 + i) : Nat)) * (77#64), (BitVec.ofInt 64 ((m0 + i) : Nat)) * (1000003#64))] : List LbT)) sp29)]) rfl
  clear H32
  have e34 : (zS z0 i) ++ ([((BitVec.ofInt 64 ((m0 + i) : Nat)) * (77#64), (BitVec.ofInt 64 ((m0 + i) : Nat)) * (1000003#64))] : List LbT) = zS z0 (i + 1) := by rw [zS, zmk, hzl]
  have hS35 := hS30
  rw [e34] at hS35
  have H36 := H32'.as (L' := [((some b22), sob ELb 38 ([((BitVec.ofInt 64 ((m0 + i) : Nat)) * (77#64), (BitVec.ofInt 64 ((m0 + i) : Nat)) * (1000003#64))] : List LbT) ([])), (key27, sob ELb 38 (zS z0 (i + 1)) sp29)]) (by rw [e34])
  refine sA (.slice (ownA key27) ((m0 + i) + 1) c28) rfl ?_
  refine wnil ?_
  refine blockNormal ?_
  refine thenNormal ?_
  refine oneRegion ?_
  refine sM (i64 (((m0 + i) : Nat))) rfl ?_
  refine sq ((r_addI (a := ((m0 + i) : Nat)) (b := (1 : Int)) rfl rfl (by omega)).as (v' := i64 (((m0 + (i + 1)) : Nat))) (by exact congrArg i64 (by omega))) ?_
  refine sA (i64 (((m0 + (i + 1)) : Nat))) rfl ?_
  refine wnil ?_
  refine thenNormal ?_
  exact ⟨(i + 1, key27, c28, sp29), _, rfl, ⟨rfl, rfl, rfl, trivial⟩, ⟨⟨by omega, hS35⟩, (H36.dropk 0)⟩, by show n.toNat - m0 - (i + 1) < n.toNat - m0 - i; omega⟩
 ·skip
  obtain rfl : i = n.toNat - m0 := by omega
  refine exitAny ?_
  refine thenExit ?_
  refine thenExit ?_
  refine blockHere ?_
  refine thenNormal ?_
  refine sR ?_
  refine sM (.slice (ownA key) (m0 + (n.toNat - m0)) c) rfl ?_
  refine sA (.slice (ownA key) (m0 + (n.toNat - m0)) c) rfl ?_
  refine wend ?_
  refine retAny ?_
  refine retG (rs := [.tmp 4]) (vs := [.slice (ownA key) (m0 + (n.toNat - m0)) c]) rfl ⟨⟨rfl, rfl⟩, trivial⟩ ?_
  rw [show zerosS zs n.toNat = zS z0 (n.toNat - m0) from by rw [zerosS, hz0, hm0]]
  exact ⟨_, rfl, HL.resN (k := 0) rfl hS (by rw [zS_len]; omega), HL.chg⟩
end Go.Proofs.YteofdmdpaejgaaaDoor.Gb
namespace Go.Proofs.YteofdmdpaejgaaaDoor.Gb
open Go Go.Proofs.YteofdmdpaejgaaaDoor.Vc Go.Proofs.YteofdmdpaejgaaaDoor.Er Go.Proofs.YteofdmdpaejgaaaDoor.Circ
set_option linter.unusedVariables false
theorem call24 : callable Tryd.prog 24 = true := by kernel_rfl
theorem call45 : callable Tryd.prog 45 = true := by kernel_rfl
theorem call46 : callable Tryd.prog 46 = true := by kernel_rfl
theorem call48 : callable Tryd.prog 48 = true := by kernel_rfl
theorem pls70 : pls Tryd.prog 70 = some #[(0, 1), (1, 1), (2, 1)] := by kernel_rfl
theorem pls99 : pls Tryd.prog 99 = some #[(0, 1), (1, 1), (2, 1)] := by kernel_rfl
theorem zer3 : zer Tryd.prog 3 = some (.int .i64 0) := by kernel_rfl
theorem zer70 : zer Tryd.prog 70 = some (.agg #[.int .i64 0, .slice none 0 0, .slice none 0 0]) := by kernel_rfl
set_option maxHeartbeats 1000000 in
theorem gawake_ok (w : World) (hG : Gl w) : Calls Tryd.prog 41 [].toArray w (Ret fun v w' => v = .bool true ∧ Ext w w') := by
 have H := Hp.start No w
 refine enter (n := 75) Tryd.func41 rfl rfl (bLe rfl) ?_
 refine sR ?_
 refine sA (.bool (false)) rfl ?_
 refine wend ?_
 refine sR ?_
 refine sq (r_build (cs' := #[i64 ((2 : Int)), i64 ((0 : Int)), i64 ((1 : Int))]) (ps := [(0, i64 ((2 : Int))), (1, i64 ((0 : Int))), (2, i64 ((1 : Int)))]) zer99 pls99 rfl (by rfl)) ?_
 refine q_buildSlice (E := EG) (l := ([⟨(2 : Int), (0 : Int), (1 : Int)⟩] : List Gt)) H sli68 zer99 (bLe rfl) (ps := [(0, .agg #[i64 ((2 : Int)), i64 ((0 : Int)), i64 ((1 : Int))])]) rfl (by exact fillAll rfl rfl) rfl ?_
 intro b1 w3 hS2 H4 hE5
 refine q_buildSlice (E := EI) (l := [(2 : Int)]) H4 sli60 zer3 (bLe rfl) (ps := [(0, i64 ((2 : Int)))]) rfl (by exact fillAll rfl rfl) rfl ?_
 intro b6 w8 hS7 H9 hE10
 refine sq (r_build (cs' := #[i64 ((2 : Int)), .slice (ownA (some b1)) 1 1, .slice (ownA (some b6)) 1 1]) (ps := [(0, i64 ((2 : Int))), (1, .slice (ownA (some b1)) 1 1), (2, .slice (ownA (some b6)) 1 1)]) zer70 pls70 rfl (by rfl)) ?_
 refine q_alloc (o := .cells #[i64 ((0 : Int)), .slice none 0 0, .slice none 0 0] 70 (0, 0)) H9 zer70 (by kernel_rfl) ?_
 intro b11 w12 hb11 H13 hE14
 refine d_store (k := 0) (v := .agg #[i64 ((2 : Int)), .slice (ownA (some b1)) 1 1, .slice (ownA (some b6)) 1 1]) (cs' := #[i64 ((2 : Int)), .slice (ownA (some b1)) 1 1, .slice (ownA (some b6)) 1 1]) H13 rfl rfl rfl siz70 (by rfl) (by intro u hu; simp [Value.cells] at hu; first | (subst hu; rfl) | (rcases hu with rfl | rfl | rfl <;> rfl)) (by exact bLe rfl) (by rfl) ?_
 intro w15 H16 hC17
 have H16' := H16.as (L' := [(some b11, .cells #[i64 ((2 : Int)), .slice (ownA (some b1)) 1 1, .slice (ownA (some b6)) 1 1] 70 (0, 0)), ((some b6), sob EI 3 ([(2 : Int)]) ([])), ((some b1), sob EG 99 ([⟨(2 : Int), (0 : Int), (1 : Int)⟩] : List Gt) ([]))]) rfl
 clear H16
 refine wend ?_
 refine sR ?_
 refine sq (r_buildA (cs' := (cel E64 [1#64, 0#64]).toArray) (ps := [(0, u64 (1#64)), (1, u64 (0#64))]) zer38 arr38 rfl (by rfl)) ?_
 refine q_alloc (o := .cells (cel E64 ([0#64, 0#64])).toArray 38 (0, 0)) H16' zer38 (by kernel_rfl) ?_
 intro b18 w19 hb18 H20 hE21
 refine d_store (k := 0) (v := .agg (cel E64 [1#64, 0#64]).toArray) (cs' := (cel E64 ([1#64, 0#64])).toArray) H20 rfl rfl rfl siz38 (by exact celSize (by first | rfl | (show _ * 1 = _; omega))) (by exact celOne _) (by rw [List.size_toArray, cel_length]; show _ ≤ _ * 1; first | omega | (simp only [List.length_set]; omega) | exact bLe rfl | (simp <;> omega)) (by exact putAll (by first | rfl | omega | (simp <;> omega))) ?_
 intro w22 H23 hC24
 have H23' := H23.as (L' := [(some b18, .cells (cel E64 ([1#64, 0#64])).toArray 38 (0, 0)), (some b11, .cells #[i64 ((2 : Int)), .slice (ownA (some b1)) 1 1, .slice (ownA (some b6)) 1 1] 70 (0, 0)), ((some b6), sob EI 3 ([(2 : Int)]) ([])), ((some b1), sob EG 99 ([⟨(2 : Int), (0 : Int), (1 : Int)⟩] : List Gt) ([]))]) rfl
 clear H23
 refine wend ?_
 refine seqAny ?_
 refine drawC (m := 11) [0, 0, 0, 7, 15, 31, 31, 31, 63, 383, 1023] [2, 3] (fun q vs w' => match q, vs with | 0, [] => Ext w22 w' ∧ Hp No w w' [(some b18, .cells (cel E64 ([1#64, 0#64])).toArray 38 (0, 0)), (some b11, .cells #[i64 ((2 : Int)), .slice (ownA (some b1)) 1 1, .slice (ownA (some b6)) 1 1] 70 (0, 0)), ((some b6), sob EI 3 ([(2 : Int)]) ([])), ((some b1), sob EG 99 ([⟨(2 : Int), (0 : Int), (1 : Int)⟩] : List Gt) ([]))] | 1, [v0] => ∃ (b28 : Nat), v0 = .slice (ownA (some b28)) 2 2 ∧ Sl ELb (some b28) (List.replicate 2 lb0) 2 (cel ELb (List.replicate (2 - 2) lb0)) ∧ Ext w22 w' ∧ Hp No w w' [((some b28), sob ELb 38 (List.replicate 2 lb0) (cel ELb (List.replicate (2 - 2) lb0))), (some b18, .cells (cel E64 ([1#64, 0#64])).toArray 38 (0, 0)), (some b11, .cells #[i64 ((2 : Int)), .slice (ownA (some b1)) 1 1, .slice (ownA (some b6)) 1 1] 70 (0, 0)), ((some b6), sob EI 3 ([(2 : Int)]) ([])), ((some b1), sob EG 99 ([⟨(2 : Int), (0 : Int), (1 : Int)⟩] : List Gt) ([]))] | 2, [v0, v1] => ∃ (b28 : Nat) (k38 : Option Nat) (c39 : Nat) (z40 : List Value) (k41 : Option Nat) (c42 : Nat) (z43 : List Value), v0 = .slice (ownA (some b28)) 2 2 ∧ v1 = .tuple #[.slice (ownA k38) (((gS lhash (1#64, 0#64) (0#64) ([⟨(2 : Int), (0 : Int), (1 : Int)⟩] : List Gt) (List.replicate 2 lb0) 1).2).length) c39, .slice (ownA k41) ((oL (gS lhash (1#64, 0#64) (0#64) ([⟨(2 : Int), (0 : Int), (1 : Int)⟩] : List Gt) (List.replicate 2 lb0) 1).1 ([(2 : Int)]) 1).length) c42, .nilIface] ∧ Sl ELb k38 ((gS lhash (1#64, 0#64) (0#64) ([⟨(2 : Int), (0 : Int), (1 : Int)⟩] : List Gt) (List.replicate 2 lb0) 1).2) c39 z40 ∧ Sl ELb k41 (oL (gS lhash (1#64, 0#64) (0#64) ([⟨(2 : Int), (0 : Int), (1 : Int)⟩] : List Gt) (List.replicate 2 lb0) 1).1 ([(2 : Int)]) 1) c42 z43 ∧ Sl ELb (some b28) (List.replicate 2 lb0) 2 (cel ELb (List.replicate (2 - 2) lb0)) ∧ Ext w22 w' ∧ Hp No w w' [(k38, sob ELb 38 ((gS lhash (1#64, 0#64) (0#64) ([⟨(2 : Int), (0 : Int), (1 : Int)⟩] : List Gt) (List.replicate 2 lb0) 1).2) z40), (k41, sob ELb 38 (oL (gS lhash (1#64, 0#64) (0#64) ([⟨(2 : Int), (0 : Int), (1 : Int)⟩] : List Gt) (List.replicate 2 lb0) 1).1 ([(2 : Int)]) 1) z43), ((some b28), sob ELb 38 (List.replicate 2 lb0) (cel ELb (List.replicate (2 - 2) lb0))), (some b18, .cells (cel E64 ([1#64, 0#64])).toArray 38 (0, 0)), (some b11, .cells #[i64 ((2 : Int)), .slice (ownA (some b1)) 1 1, .slice (ownA (some b6)) 1 1] 70 (0, 0)), ((some b6), sob EI 3 ([(2 : Int)]) ([])), ((some b1), sob EG 99 ([⟨(2 : Int), (0 : Int), (1 : Int)⟩] : List Gt) ([]))] | _, _ => False) mixed (by kernel_rfl) (by kernel_rfl) ⟨Ext.drew _, H23'.drew⟩ ?_
 refine WalkC.look rfl (fun _ => .agg #[i64 ((2 : Int)), .slice (ownA (some b1)) 1 1, .slice (ownA (some b6)) 1 1]) (fun _ _ _ => rfl) (fun q r uw hlo hhi hle hF => ?_) ?_
 ·skip
  have h1 : 0 ≤ q := Nat.zero_le _
  have h2 : q ≤ 1 := hhi 1 3 rfl rfl
  rcases (show q = 0 ∨ q = 1 by omega) with rfl | rfl
  ·skip
   obtain ⟨hX, HH⟩ := hF
   exact Gives.run rfl (r_loadA (cs' := #[i64 ((2 : Int)), .slice (ownA (some b1)) 1 1, .slice (ownA (some b6)) 1 1]) agg70 siz70 (HH.get (k := 1) rfl) (off := 0) rfl (by exact bLe rfl) (by rfl)) ⟨rfl, rfl⟩
  ·skip
   obtain ⟨b28, e2, hS29, hX, HH⟩ := hF
   exact Gives.run rfl (r_loadA (cs' := #[i64 ((2 : Int)), .slice (ownA (some b1)) 1 1, .slice (ownA (some b6)) 1 1]) agg70 siz70 (HH.get (k := 2) rfl) (off := 0) rfl (by exact bLe rfl) (by rfl)) ⟨rfl, rfl⟩
 refine WalkC.look rfl (fun _ => .agg (cel E64 ([1#64, 0#64])).toArray) (fun _ _ _ => rfl) (fun q r uw hlo hhi hle hF => ?_) ?_
 ·skip
  have h1 : 0 ≤ q := Nat.zero_le _
  have h2 : q ≤ 1 := hhi 1 3 rfl rfl
  rcases (show q = 0 ∨ q = 1 by omega) with rfl | rfl
  ·skip
   obtain ⟨hX, HH⟩ := hF
   exact Gives.run rfl (r_loadA (cs' := (cel E64 ([1#64, 0#64])).toArray) agg38 siz38 (HH.get (k := 0) rfl) (off := 0) rfl (by exact bLe rfl) (by exact ext_all rfl)) ⟨rfl, rfl⟩
  ·skip
   obtain ⟨b28, e2, hS29, hX, HH⟩ := hF
   exact Gives.run rfl (r_loadA (cs' := (cel E64 ([1#64, 0#64])).toArray) agg38 siz38 (HH.get (k := 1) rfl) (off := 0) rfl (by exact bLe rfl) (by exact ext_all rfl)) ⟨rfl, rfl⟩
 refine WalkC.eff 0 rfl (fun r uw25 hF27 => ?_) ?_
 ·skip
  obtain ⟨hX, H26⟩ := hF27
  dsimp only [List.take, List.map, List.cons_append, List.nil_append]
  refine Gives.ofW (d := 19) rfl rfl (fun Q' hK => ?_)
  refine q_makeSlice (E := ELb) (m := 2) (c := 2) (z0 := lb0) H26 sli92 zer38 rfl byt38 rfl rfl (by first | rfl | omega | (simp; omega)) (by first | rfl | omega | (simp; omega)) (by omega) (by omega) ?_
  intro b28 w30 hS29 H31 hE32
  exact hK _ _ ⟨b28, rfl, hS29, (hX.trans hE32), H31⟩
 refine WalkC.eff 1 rfl (fun r uw33 hF35 => ?_) ?_
 ·skip
  obtain ⟨b28, e2, hS29, hX, H34⟩ := hF35
  dsimp only [List.take, List.map, List.cons_append, List.nil_append]
  rw [e2]
  refine Gives.ofW (d := 20) rfl rfl (fun Q' hK => ?_)
  refine c_call (vs := [.agg #[i64 ((2 : Int)), .slice (ownA (some b1)) 1 1, .slice (ownA (some b6)) 1 1], .agg (cel E64 ([1#64, 0#64])).toArray, .slice (ownA (some b28)) 2 2, u64 (0#64)]) call45 rfl (garble_ok (2 : Int) ([⟨(2 : Int), (0 : Int), (1 : Int)⟩] : List Gt) ([(2 : Int)]) (ownA (some b1)) (ownA (some b6)) 1 1 (1#64, 0#64) (List.replicate 2 lb0) (ownA (some b28)) 2 (0#64) uw33 (Chg.gl H34.chg (fun x => x) hG) (H34.rd (k := 4) rfl hS2) (H34.rd (k := 3) rfl hS7) (by first | omega | exact bLe rfl) (by first | omega | exact bLe rfl) (H34.rd (k := 0) rfl hS29) aw_is rfl rfl) ?_
  rintro _ w36 ⟨k38, c39, z40, k41, c42, z43, rfl, hS44, hS45, HN46⟩
  have H47 := (H34.join HN46).as (L' := [(k38, sob ELb 38 ((gS lhash (1#64, 0#64) (0#64) ([⟨(2 : Int), (0 : Int), (1 : Int)⟩] : List Gt) (List.replicate 2 lb0) 1).2) z40), (k41, sob ELb 38 (oL (gS lhash (1#64, 0#64) (0#64) ([⟨(2 : Int), (0 : Int), (1 : Int)⟩] : List Gt) (List.replicate 2 lb0) 1).1 ([(2 : Int)]) 1) z43), ((some b28), sob ELb 38 (List.replicate 2 lb0) (cel ELb (List.replicate (2 - 2) lb0))), (some b18, .cells (cel E64 ([1#64, 0#64])).toArray 38 (0, 0)), (some b11, .cells #[i64 ((2 : Int)), .slice (ownA (some b1)) 1 1, .slice (ownA (some b6)) 1 1] 70 (0, 0)), ((some b6), sob EI 3 ([(2 : Int)]) ([])), ((some b1), sob EG 99 ([⟨(2 : Int), (0 : Int), (1 : Int)⟩] : List Gt) ([]))]) rfl
  exact hK _ _ ⟨b28, k38, c39, z40, k41, c42, z43, rfl, rfl, hS44, hS45, hS29, (hX.trans HN46.chg), H47⟩
 refine WalkC.look rfl (fun r => r 3) (fun r r' h => h 3 (by decide) rfl) (fun q r uw _ _ _ _ => Gives.run rfl (r_move rfl) ⟨rfl, rfl⟩) ?_
 refine WalkC.look rfl (fun r => proj (r 3) 0) (fun r r' h => by rw [h 3 (by decide) rfl]) (fun q r uw hlo hhi hle hF => ?_) ?_
 ·skip
  have h1 : 2 ≤ q := hlo 1 3 rfl rfl
  have h2 : q ≤ 2 := hle
  rcases (show q = 2 by omega) with rfl
  ·skip
   obtain ⟨b28, k38, c39, z40, k41, c42, z43, e2, e3, hS44, hS45, hS29, hX, HH⟩ := hF
   dsimp only
   rw [e3]
   exact Gives.run rfl (r_extract (vs := #[.slice (ownA k38) (((gS lhash (1#64, 0#64) (0#64) ([⟨(2 : Int), (0 : Int), (1 : Int)⟩] : List Gt) (List.replicate 2 lb0) 1).2).length) c39, .slice (ownA k41) ((oL (gS lhash (1#64, 0#64) (0#64) ([⟨(2 : Int), (0 : Int), (1 : Int)⟩] : List Gt) (List.replicate 2 lb0) 1).1 ([(2 : Int)]) 1).length) c42, .nilIface]) rfl rfl) ⟨rfl, rfl⟩
 refine WalkC.look rfl (fun r => proj (r 3) 1) (fun r r' h => by rw [h 3 (by decide) rfl]) (fun q r uw hlo hhi hle hF => ?_) ?_
 ·skip
  have h1 : 2 ≤ q := hlo 1 3 rfl rfl
  have h2 : q ≤ 2 := hle
  rcases (show q = 2 by omega) with rfl
  ·skip
   obtain ⟨b28, k38, c39, z40, k41, c42, z43, e2, e3, hS44, hS45, hS29, hX, HH⟩ := hF
   dsimp only
   rw [e3]
   exact Gives.run rfl (r_extract (vs := #[.slice (ownA k38) (((gS lhash (1#64, 0#64) (0#64) ([⟨(2 : Int), (0 : Int), (1 : Int)⟩] : List Gt) (List.replicate 2 lb0) 1).2).length) c39, .slice (ownA k41) ((oL (gS lhash (1#64, 0#64) (0#64) ([⟨(2 : Int), (0 : Int), (1 : Int)⟩] : List Gt) (List.replicate 2 lb0) 1).1 ([(2 : Int)]) 1).length) c42, .nilIface]) rfl rfl) ⟨rfl, rfl⟩
 refine WalkC.look rfl (fun r => proj (r 3) 2) (fun r r' h => by rw [h 3 (by decide) rfl]) (fun q r uw hlo hhi hle hF => ?_) ?_
 ·skip
  have h1 : 2 ≤ q := hlo 1 3 rfl rfl
  have h2 : q ≤ 2 := hle
  rcases (show q = 2 by omega) with rfl
  ·skip
   obtain ⟨b28, k38, c39, z40, k41, c42, z43, e2, e3, hS44, hS45, hS29, hX, HH⟩ := hF
   dsimp only
   rw [e3]
   exact Gives.run rfl (r_extract (vs := #[.slice (ownA k38) (((gS lhash (1#64, 0#64) (0#64) ([⟨(2 : Int), (0 : Int), (1 : Int)⟩] : List Gt) (List.replicate 2 lb0) 1).2).length) c39, .slice (ownA k41) ((oL (gS lhash (1#64, 0#64) (0#64) ([⟨(2 : Int), (0 : Int), (1 : Int)⟩] : List Gt) (List.replicate 2 lb0) 1).1 ([(2 : Int)]) 1).length) c42, .nilIface]) rfl rfl) ⟨rfl, rfl⟩
 refine WalkC.look rfl (fun r => proj (r 3) 0) (fun r r' h => by rw [h 3 (by decide) rfl]) (fun q r uw _ _ _ _ => Gives.run rfl (r_assign rfl) ⟨rfl, rfl⟩) ?_
 refine WalkC.look rfl (fun r => proj (r 3) 1) (fun r r' h => by rw [h 3 (by decide) rfl]) (fun q r uw _ _ _ _ => Gives.run rfl (r_assign rfl) ⟨rfl, rfl⟩) ?_
 refine WalkC.look rfl (fun r => proj (r 3) 2) (fun r r' h => by rw [h 3 (by decide) rfl]) (fun q r uw _ _ _ _ => Gives.run rfl (r_assign rfl) ⟨rfl, rfl⟩) ?_
 refine WalkC.nil ?_
 intro r48 w49 hF51
 obtain ⟨b28, k38, c39, z40, k41, c42, z43, e2, e3, hS44, hS45, hS29, hX, H50⟩ := hF51
 dsimp only
 rw [e2, e3]
 refine wnil ?_
 refine thenNormal ?_
 refine seqAny ?_
 refine sR ?_
 refine sM (.nilIface) rfl ?_
 refine sq (r_neqNN isI27 rfl rfl) ?_
 refine sM (.bool (false)) rfl ?_
 refine sqAny (v := .slice (ownA k38) (((gS lhash (1#64, 0#64) (0#64) ([⟨(2 : Int), (0 : Int), (1 : Int)⟩] : List Gt) (List.replicate 2 lb0) 1).2).length) c39) (w' := w49) (wantedSome (d' := 26) (b := false) rfl rfl rfl) (r_move (v := .slice (ownA k38) (((gS lhash (1#64, 0#64) (0#64) ([⟨(2 : Int), (0 : Int), (1 : Int)⟩] : List Gt) (List.replicate 2 lb0) 1).2).length) c39) rfl) ?_
 refine sqAny (v := i64 ((((gS lhash (1#64, 0#64) (0#64) ([⟨(2 : Int), (0 : Int), (1 : Int)⟩] : List Gt) (List.replicate 2 lb0) 1).2).length : Nat))) (w' := w49) (wantedSome (d' := 26) (b := false) rfl rfl rfl) (r_lenS sli92 (a := ownA k38) (m := ((gS lhash (1#64, 0#64) (0#64) ([⟨(2 : Int), (0 : Int), (1 : Int)⟩] : List Gt) (List.replicate 2 lb0) 1).2).length) (c := c39) rfl) ?_
 refine sqAny (v := .bool (false)) (w' := w49) (wantedSome (d' := 26) (b := false) rfl rfl rfl) ((r_neqI (a := (((gS lhash (1#64, 0#64) (0#64) ([⟨(2 : Int), (0 : Int), (1 : Int)⟩] : List Gt) (List.replicate 2 lb0) 1).2).length : Nat)) (b := (2 : Int)) rfl rfl).as (v' := .bool (false)) (by rfl)) ?_
 refine sq (r_pickF (v := .bool (false)) rfl rfl) ?_
 refine sM (.bool (false)) rfl ?_
 refine sqAny (v := .slice (ownA k41) ((oL (gS lhash (1#64, 0#64) (0#64) ([⟨(2 : Int), (0 : Int), (1 : Int)⟩] : List Gt) (List.replicate 2 lb0) 1).1 ([(2 : Int)]) 1).length) c42) (w' := w49) (wantedSome (d' := 31) (b := false) rfl rfl rfl) (r_move (v := .slice (ownA k41) ((oL (gS lhash (1#64, 0#64) (0#64) ([⟨(2 : Int), (0 : Int), (1 : Int)⟩] : List Gt) (List.replicate 2 lb0) 1).1 ([(2 : Int)]) 1).length) c42) rfl) ?_
 refine sqAny (v := i64 (((oL (gS lhash (1#64, 0#64) (0#64) ([⟨(2 : Int), (0 : Int), (1 : Int)⟩] : List Gt) (List.replicate 2 lb0) 1).1 ([(2 : Int)]) 1).length : Nat))) (w' := w49) (wantedSome (d' := 31) (b := false) rfl rfl rfl) (r_lenS sli92 (a := ownA k41) (m := (oL (gS lhash (1#64, 0#64) (0#64) ([⟨(2 : Int), (0 : Int), (1 : Int)⟩] : List Gt) (List.replicate 2 lb0) 1).1 ([(2 : Int)]) 1).length) (c := c42) rfl) ?_
 refine sqAny (v := .bool (false)) (w' := w49) (wantedSome (d' := 31) (b := false) rfl rfl rfl) ((r_neqI (a := ((oL (gS lhash (1#64, 0#64) (0#64) ([⟨(2 : Int), (0 : Int), (1 : Int)⟩] : List Gt) (List.replicate 2 lb0) 1).1 ([(2 : Int)]) 1).length : Nat)) (b := (1 : Int)) rfl rfl).as (v' := .bool (false)) (by rfl)) ?_
 refine sq (r_pickF (v := .bool (false)) rfl rfl) ?_
 refine wend ?_
 refine condFalse rfl ?_
 refine skipAny ?_
 refine thenNormal ?_
 refine sR ?_
 refine sq (r_loadA (cs' := #[i64 ((2 : Int)), .slice (ownA (some b1)) 1 1, .slice (ownA (some b6)) 1 1]) agg70 siz70 (H50.get (k := 4) rfl) (off := 0) rfl (by exact bLe rfl) (by rfl)) ?_
 refine sq (r_loadA (cs' := (cel E64 ([1#64, 0#64])).toArray) agg38 siz38 (H50.get (k := 3) rfl) (off := 0) rfl (by exact bLe rfl) (by exact ext_all rfl)) ?_
 refine sq (r_loadA (cs' := (cel E64 ([1#64, 0#64])).toArray) agg38 siz38 (H50.get (k := 3) rfl) (off := 0) rfl (by exact bLe rfl) (by exact ext_all rfl)) ?_
 refine q_buildSlice (E := ELb) (l := ([(1#64, 0#64), (1#64, 0#64)] : List LbT)) H50 sli92 zer38 (bLe rfl) (ps := [(0, .agg (cel E64 ([1#64, 0#64])).toArray), (1, .agg (cel E64 ([1#64, 0#64])).toArray)]) rfl (by exact fillAll rfl rfl) rfl ?_
 intro b52 w54 hS53 H55 hE56
 refine sM (.slice (ownA k38) (((gS lhash (1#64, 0#64) (0#64) ([⟨(2 : Int), (0 : Int), (1 : Int)⟩] : List Gt) (List.replicate 2 lb0) 1).2).length) c39) rfl ?_
 refine c_call (vs := [.agg #[i64 ((2 : Int)), .slice (ownA (some b1)) 1 1, .slice (ownA (some b6)) 1 1], .slice (ownA (some b52)) 2 2, .slice (ownA k38) (((gS lhash (1#64, 0#64) (0#64) ([⟨(2 : Int), (0 : Int), (1 : Int)⟩] : List Gt) (List.replicate 2 lb0) 1).2).length) c39, u64 (0#64)]) call46 rfl (eval_ok (2 : Int) ([⟨(2 : Int), (0 : Int), (1 : Int)⟩] : List Gt) ([(2 : Int)]) (ownA (some b1)) (ownA (some b6)) 1 1 ([(1#64, 0#64), (1#64, 0#64)] : List LbT) ((gS lhash (1#64, 0#64) (0#64) ([⟨(2 : Int), (0 : Int), (1 : Int)⟩] : List Gt) (List.replicate 2 lb0) 1).2) (ownA (some b52)) (ownA k38) 2 c39 (0#64) w54 (Chg.gl H55.chg (fun x => x) hG) (H55.rd (k := 7) rfl hS2) (H55.rd (k := 6) rfl hS7) (by first | omega | exact bLe rfl) (by first | omega | exact bLe rfl) (H55.rd (k := 0) rfl hS53) (H55.rd (k := 1) rfl hS44) aw_is rfl rfl) ?_
 rintro _ w57 ⟨k59, c60, z61, rfl, hS62, HN63⟩
 have H64 := (H55.join HN63).as (L' := [(k59, sob ELb 38 (oL (eS lhash (0#64) ([⟨(2 : Int), (0 : Int), (1 : Int)⟩] : List Gt) ((gS lhash (1#64, 0#64) (0#64) ([⟨(2 : Int), (0 : Int), (1 : Int)⟩] : List Gt) (List.replicate 2 lb0) 1).2) ([(1#64, 0#64), (1#64, 0#64)] : List LbT) 1).1 ([(2 : Int)]) 1) z61), ((some b52), sob ELb 38 ([(1#64, 0#64), (1#64, 0#64)] : List LbT) ([])), (k38, sob ELb 38 ((gS lhash (1#64, 0#64) (0#64) ([⟨(2 : Int), (0 : Int), (1 : Int)⟩] : List Gt) (List.replicate 2 lb0) 1).2) z40), (k41, sob ELb 38 (oL (gS lhash (1#64, 0#64) (0#64) ([⟨(2 : Int), (0 : Int), (1 : Int)⟩] : List Gt) (List.replicate 2 lb0) 1).1 ([(2 : Int)]) 1) z43), ((some b28), sob ELb 38 (List.replicate 2 lb0) (cel ELb (List.replicate (2 - 2) lb0))), (some b18, .cells (cel E64 ([1#64, 0#64])).toArray 38 (0, 0)), (some b11, .cells #[i64 ((2 : Int)), .slice (ownA (some b1)) 1 1, .slice (ownA (some b6)) 1 1] 70 (0, 0)), ((some b6), sob EI 3 ([(2 : Int)]) ([])), ((some b1), sob EG 99 ([⟨(2 : Int), (0 : Int), (1 : Int)⟩] : List Gt) ([]))]) rfl
 refine sM (.tuple #[.slice (ownA k59) 1 c60, .nilIface]) rfl ?_
 refine sq (r_extract (vs := #[.slice (ownA k59) 1 c60, .nilIface]) rfl rfl) ?_
 refine sq (r_extract (vs := #[.slice (ownA k59) 1 c60, .nilIface]) rfl rfl) ?_
 refine sA (.slice (ownA k59) 1 c60) rfl ?_
 refine sA (.nilIface) rfl ?_
 refine wend ?_
 refine seqAny ?_
 refine drawC (m := 11) [0, 0, 0, 7, 15, 31, 31, 31, 63, 383, 1023] [2, 3] (fun q vs w' => match q, vs with | 0, [] => Ext w57 w' ∧ Hp No w w' [(k59, sob ELb 38 (oL (eS lhash (0#64) ([⟨(2 : Int), (0 : Int), (1 : Int)⟩] : List Gt) ((gS lhash (1#64, 0#64) (0#64) ([⟨(2 : Int), (0 : Int), (1 : Int)⟩] : List Gt) (List.replicate 2 lb0) 1).2) ([(1#64, 0#64), (1#64, 0#64)] : List LbT) 1).1 ([(2 : Int)]) 1) z61), ((some b52), sob ELb 38 ([(1#64, 0#64), (1#64, 0#64)] : List LbT) ([])), (k38, sob ELb 38 ((gS lhash (1#64, 0#64) (0#64) ([⟨(2 : Int), (0 : Int), (1 : Int)⟩] : List Gt) (List.replicate 2 lb0) 1).2) z40), (k41, sob ELb 38 (oL (gS lhash (1#64, 0#64) (0#64) ([⟨(2 : Int), (0 : Int), (1 : Int)⟩] : List Gt) (List.replicate 2 lb0) 1).1 ([(2 : Int)]) 1) z43), ((some b28), sob ELb 38 (List.replicate 2 lb0) (cel ELb (List.replicate (2 - 2) lb0))), (some b18, .cells (cel E64 ([1#64, 0#64])).toArray 38 (0, 0)), (some b11, .cells #[i64 ((2 : Int)), .slice (ownA (some b1)) 1 1, .slice (ownA (some b6)) 1 1] 70 (0, 0)), ((some b6), sob EI 3 ([(2 : Int)]) ([])), ((some b1), sob EG 99 ([⟨(2 : Int), (0 : Int), (1 : Int)⟩] : List Gt) ([]))] | 1, [v0] => ∃ (b68 : Nat), v0 = .slice (ownA (some b68)) 2 2 ∧ Sl ELb (some b68) (List.replicate 2 lb0) 2 (cel ELb (List.replicate (2 - 2) lb0)) ∧ Ext w57 w' ∧ Hp No w w' [((some b68), sob ELb 38 (List.replicate 2 lb0) (cel ELb (List.replicate (2 - 2) lb0))), (k59, sob ELb 38 (oL (eS lhash (0#64) ([⟨(2 : Int), (0 : Int), (1 : Int)⟩] : List Gt) ((gS lhash (1#64, 0#64) (0#64) ([⟨(2 : Int), (0 : Int), (1 : Int)⟩] : List Gt) (List.replicate 2 lb0) 1).2) ([(1#64, 0#64), (1#64, 0#64)] : List LbT) 1).1 ([(2 : Int)]) 1) z61), ((some b52), sob ELb 38 ([(1#64, 0#64), (1#64, 0#64)] : List LbT) ([])), (k38, sob ELb 38 ((gS lhash (1#64, 0#64) (0#64) ([⟨(2 : Int), (0 : Int), (1 : Int)⟩] : List Gt) (List.replicate 2 lb0) 1).2) z40), (k41, sob ELb 38 (oL (gS lhash (1#64, 0#64) (0#64) ([⟨(2 : Int), (0 : Int), (1 : Int)⟩] : List Gt) (List.replicate 2 lb0) 1).1 ([(2 : Int)]) 1) z43), ((some b28), sob ELb 38 (List.replicate 2 lb0) (cel ELb (List.replicate (2 - 2) lb0))), (some b18, .cells (cel E64 ([1#64, 0#64])).toArray 38 (0, 0)), (some b11, .cells #[i64 ((2 : Int)), .slice (ownA (some b1)) 1 1, .slice (ownA (some b6)) 1 1] 70 (0, 0)), ((some b6), sob EI 3 ([(2 : Int)]) ([])), ((some b1), sob EG 99 ([⟨(2 : Int), (0 : Int), (1 : Int)⟩] : List Gt) ([]))] | 2, [v0, v1] => ∃ (b68 : Nat) (lo84 : Nat) (T82 : TypeId) (x83 : Value), v0 = .slice (ownA (some b68)) 2 2 ∧ v1 = .tuple #[.slice none 0 0, .slice none 0 0, .iface T82 (x83)] ∧ Sl ELb (some b68) (List.replicate 2 lb0) 2 (cel ELb (List.replicate (2 - 2) lb0)) ∧ Er lo84 w' 100 1 (.iface T82 x83) ∧ b18 < lo84 ∧ b11 < lo84 ∧ Ext w57 w' ∧ Hp No w w' [((some b68), sob ELb 38 (List.replicate 2 lb0) (cel ELb (List.replicate (2 - 2) lb0))), (k59, sob ELb 38 (oL (eS lhash (0#64) ([⟨(2 : Int), (0 : Int), (1 : Int)⟩] : List Gt) ((gS lhash (1#64, 0#64) (0#64) ([⟨(2 : Int), (0 : Int), (1 : Int)⟩] : List Gt) (List.replicate 2 lb0) 1).2) ([(1#64, 0#64), (1#64, 0#64)] : List LbT) 1).1 ([(2 : Int)]) 1) z61), ((some b52), sob ELb 38 ([(1#64, 0#64), (1#64, 0#64)] : List LbT) ([])), (k38, sob ELb 38 ((gS lhash (1#64, 0#64) (0#64) ([⟨(2 : Int), (0 : Int), (1 : Int)⟩] : List Gt) (List.replicate 2 lb0) 1).2) z40), (k41, sob ELb 38 (oL (gS lhash (1#64, 0#64) (0#64) ([⟨(2 : Int), (0 : Int), (1 : Int)⟩] : List Gt) (List.replicate 2 lb0) 1).1 ([(2 : Int)]) 1) z43), ((some b28), sob ELb 38 (List.replicate 2 lb0) (cel ELb (List.replicate (2 - 2) lb0))), (some b18, .cells (cel E64 ([1#64, 0#64])).toArray 38 (0, 0)), (some b11, .cells #[i64 ((2 : Int)), .slice (ownA (some b1)) 1 1, .slice (ownA (some b6)) 1 1] 70 (0, 0)), ((some b6), sob EI 3 ([(2 : Int)]) ([])), ((some b1), sob EG 99 ([⟨(2 : Int), (0 : Int), (1 : Int)⟩] : List Gt) ([]))] | _, _ => False) mixed (by kernel_rfl) (by kernel_rfl) ⟨Ext.drew _, H64.drew⟩ ?_
 refine WalkC.look rfl (fun _ => .agg #[i64 ((2 : Int)), .slice (ownA (some b1)) 1 1, .slice (ownA (some b6)) 1 1]) (fun _ _ _ => rfl) (fun q r uw hlo hhi hle hF => ?_) ?_
 ·skip
  have h1 : 0 ≤ q := Nat.zero_le _
  have h2 : q ≤ 1 := hhi 1 3 rfl rfl
  rcases (show q = 0 ∨ q = 1 by omega) with rfl | rfl
  ·skip
   obtain ⟨hX, HH⟩ := hF
   exact Gives.run rfl (r_loadA (cs' := #[i64 ((2 : Int)), .slice (ownA (some b1)) 1 1, .slice (ownA (some b6)) 1 1]) agg70 siz70 (HH.get (k := 6) rfl) (off := 0) rfl (by exact bLe rfl) (by rfl)) ⟨rfl, rfl⟩
  ·skip
   obtain ⟨b68, e2, hS69, hX, HH⟩ := hF
   exact Gives.run rfl (r_loadA (cs' := #[i64 ((2 : Int)), .slice (ownA (some b1)) 1 1, .slice (ownA (some b6)) 1 1]) agg70 siz70 (HH.get (k := 7) rfl) (off := 0) rfl (by exact bLe rfl) (by rfl)) ⟨rfl, rfl⟩
 refine WalkC.look rfl (fun _ => .agg (cel E64 [2#64, 0#64]).toArray) (fun _ _ _ => rfl) (fun q r uw _ _ _ _ => Gives.run rfl (r_buildA (cs' := (cel E64 [2#64, 0#64]).toArray) (ps := [(0, u64 (2#64)), (1, u64 (0#64))]) zer38 arr38 rfl (by rfl)) ⟨rfl, rfl⟩) ?_
 refine WalkC.eff 0 rfl (fun r uw65 hF67 => ?_) ?_
 ·skip
  obtain ⟨hX, H66⟩ := hF67
  dsimp only [List.take, List.map, List.cons_append, List.nil_append]
  refine Gives.ofW (d := 48) rfl rfl (fun Q' hK => ?_)
  refine q_makeSlice (E := ELb) (m := 2) (c := 2) (z0 := lb0) H66 sli92 zer38 rfl byt38 rfl rfl (by first | rfl | omega | (simp; omega)) (by first | rfl | omega | (simp; omega)) (by omega) (by omega) ?_
  intro b68 w70 hS69 H71 hE72
  exact hK _ _ ⟨b68, rfl, hS69, (hX.trans hE72), H71⟩
 refine WalkC.eff 1 rfl (fun r uw73 hF75 => ?_) ?_
 ·skip
  obtain ⟨b68, e2, hS69, hX, H74⟩ := hF75
  dsimp only [List.take, List.map, List.cons_append, List.nil_append]
  rw [e2]
  refine Gives.ofW (d := 49) rfl rfl (fun Q' hK => ?_)
  have := H74.lt (List.mem_of_getElem? (i := 6) rfl) rfl
  have := H74.lt (List.mem_of_getElem? (i := 7) rfl) rfl
  refine c_call (vs := [.agg #[i64 ((2 : Int)), .slice (ownA (some b1)) 1 1, .slice (ownA (some b6)) 1 1], .agg (cel E64 [2#64, 0#64]).toArray, .slice (ownA (some b68)) 2 2, u64 (0#64)]) call45 rfl (garble_delta (2 : Int) ([⟨(2 : Int), (0 : Int), (1 : Int)⟩] : List Gt) ([(2 : Int)]) (ownA (some b1)) (ownA (some b6)) 1 1 (2#64, 0#64) (List.replicate 2 lb0) (ownA (some b68)) 2 (0#64) uw73 (Chg.gl H74.chg (fun x => x) hG) (H74.rd (k := 9) rfl hS2) (H74.rd (k := 8) rfl hS7) (by first | omega | exact bLe rfl) (by first | omega | exact bLe rfl) (H74.rd (k := 0) rfl hS69) aw_is rfl rfl) ?_
  rintro _ w76 ⟨⟨v78, rfl, hEr79⟩, hE80⟩
  have H81 := H74.ext hE80
  obtain ⟨T82, x83, rfl⟩ := hEr79.iface
  obtain ⟨lo84, hlo85⟩ : ∃ lo, lo = uw73.heap.size := ⟨_, rfl⟩
  rw [← hlo85] at hEr79
  have hlt86 : b18 < lo84 := by omega
  have hlt87 : b11 < lo84 := by omega
  exact hK _ _ ⟨b68, lo84, T82, x83, rfl, rfl, hS69, hEr79, hlt86, hlt87, (hX.trans hE80), H81⟩
 refine WalkC.look rfl (fun r => r 3) (fun r r' h => h 3 (by decide) rfl) (fun q r uw _ _ _ _ => Gives.run rfl (r_move rfl) ⟨rfl, rfl⟩) ?_
 refine WalkC.look rfl (fun r => proj (r 3) 0) (fun r r' h => by rw [h 3 (by decide) rfl]) (fun q r uw hlo hhi hle hF => ?_) ?_
 ·skip
  have h1 : 2 ≤ q := hlo 1 3 rfl rfl
  have h2 : q ≤ 2 := hle
  rcases (show q = 2 by omega) with rfl
  ·skip
   obtain ⟨b68, lo84, T82, x83, e2, e3, hS69, hEr79, hlt86, hlt87, hX, HH⟩ := hF
   dsimp only
   rw [e3]
   exact Gives.run rfl (r_extract (vs := #[.slice none 0 0, .slice none 0 0, .iface T82 (x83)]) rfl rfl) ⟨rfl, rfl⟩
 refine WalkC.look rfl (fun r => proj (r 3) 1) (fun r r' h => by rw [h 3 (by decide) rfl]) (fun q r uw hlo hhi hle hF => ?_) ?_
 ·skip
  have h1 : 2 ≤ q := hlo 1 3 rfl rfl
  have h2 : q ≤ 2 := hle
  rcases (show q = 2 by omega) with rfl
  ·skip
   obtain ⟨b68, lo84, T82, x83, e2, e3, hS69, hEr79, hlt86, hlt87, hX, HH⟩ := hF
   dsimp only
   rw [e3]
   exact Gives.run rfl (r_extract (vs := #[.slice none 0 0, .slice none 0 0, .iface T82 (x83)]) rfl rfl) ⟨rfl, rfl⟩
 refine WalkC.look rfl (fun r => proj (r 3) 2) (fun r r' h => by rw [h 3 (by decide) rfl]) (fun q r uw hlo hhi hle hF => ?_) ?_
 ·skip
  have h1 : 2 ≤ q := hlo 1 3 rfl rfl
  have h2 : q ≤ 2 := hle
  rcases (show q = 2 by omega) with rfl
  ·skip
   obtain ⟨b68, lo84, T82, x83, e2, e3, hS69, hEr79, hlt86, hlt87, hX, HH⟩ := hF
   dsimp only
   rw [e3]
   exact Gives.run rfl (r_extract (vs := #[.slice none 0 0, .slice none 0 0, .iface T82 (x83)]) rfl rfl) ⟨rfl, rfl⟩
 refine WalkC.look rfl (fun r => proj (r 3) 0) (fun r r' h => by rw [h 3 (by decide) rfl]) (fun q r uw _ _ _ _ => Gives.run rfl (r_assign rfl) ⟨rfl, rfl⟩) ?_
 refine WalkC.look rfl (fun r => proj (r 3) 1) (fun r r' h => by rw [h 3 (by decide) rfl]) (fun q r uw _ _ _ _ => Gives.run rfl (r_assign rfl) ⟨rfl, rfl⟩) ?_
 refine WalkC.look rfl (fun r => proj (r 3) 2) (fun r r' h => by rw [h 3 (by decide) rfl]) (fun q r uw _ _ _ _ => Gives.run rfl (r_assign rfl) ⟨rfl, rfl⟩) ?_
 refine WalkC.nil ?_
 intro r88 w89 hF91
 obtain ⟨b68, lo84, T82, x83, e2, e3, hS69, hEr79, hlt86, hlt87, hX, H90⟩ := hF91
 dsimp only
 rw [e2, e3]
 refine wnil ?_
 refine thenNormal ?_
 refine seqAny ?_
 refine drawAny (K := [none, none, none, none, none, none, none, none, none, none, none, none, none, none, none, none, none, none, none, none, none, none, none]) [0, 1, 3, 7, 15, 31, 63, 127, 255, 511, 1023, 255, 2303, 6399, 255, 30975, 65535, 131071, 262143, 524287, 1048575, 2097151, 4194303] (fun w' => Ext w89 w') (fun w' w'' => Ext w' w'') mixed (by kernel_rfl) (Ext.drew _) (fun _ _ h h' => h.trans h') ?_ ?_
 ·exact relNone (by decide)
 refine ⟨.nilIface, fun _ uw92 hC93 _ => Gives.run rfl (r_move (v := .nilIface) rfl) ⟨rfl, Chg.refl _ _⟩, ?_⟩
 refine ⟨.bool (true), fun _ uw94 hC95 _ => Gives.run rfl (r_eqlNN isI27 rfl rfl) ⟨rfl, Chg.refl _ _⟩, ?_⟩
 refine ⟨.bool (true), fun _ uw96 hC97 _ => Gives.run rfl (r_move (v := .bool (true)) rfl) ⟨rfl, Chg.refl _ _⟩, ?_⟩
 refine ⟨.slice (ownA k59) 1 c60, fun _ uw98 hC99 _ => Gives.runW (wantedSome (d' := 55) (b := true) rfl rfl rfl) (r_move (v := .slice (ownA k59) 1 c60) rfl) ⟨rfl, Chg.refl _ _⟩, ?_⟩
 refine ⟨i64 (1 : Nat), fun _ uw100 hC101 _ => Gives.runW (wantedSome (d' := 55) (b := true) rfl rfl rfl) (r_lenS sli92 (a := ownA k59) (m := 1) (c := c60) rfl) ⟨rfl, Chg.refl _ _⟩, ?_⟩
 refine ⟨.bool (true), fun _ uw102 hC103 _ => Gives.runW (wantedSome (d' := 55) (b := true) rfl rfl rfl) ((r_eqlI (a := (1 : Nat)) (b := (1 : Int)) rfl rfl).as (v' := .bool (true)) (by rfl)) ⟨rfl, Chg.refl _ _⟩, ?_⟩
 refine ⟨.bool (true), fun _ uw104 hC105 _ => Gives.run rfl (r_pickT (u := .bool (true)) rfl rfl) ⟨rfl, Chg.refl _ _⟩, ?_⟩
 refine ⟨.bool (true), fun _ uw106 hC107 _ => Gives.run rfl (r_move (v := .bool (true)) rfl) ⟨rfl, Chg.refl _ _⟩, ?_⟩
 refine ⟨.slice (ownA k59) 1 c60, fun _ uw108 hC109 _ => Gives.runW (wantedSome (d' := 60) (b := true) rfl rfl rfl) (r_move (v := .slice (ownA k59) 1 c60) rfl) ⟨rfl, Chg.refl _ _⟩, ?_⟩
 refine ⟨.pointer (adr (ownA k59) (0 * 2)), fun _ uw110 hC111 _ => Gives.runW (wantedSome (d' := 60) (b := true) rfl rfl rfl) (r_idxS (E := ELb) (l := oL (eS lhash (0#64) ([⟨(2 : Int), (0 : Int), (1 : Int)⟩] : List Gt) ((gS lhash (1#64, 0#64) (0#64) ([⟨(2 : Int), (0 : Int), (1 : Int)⟩] : List Gt) (List.replicate 2 lb0) 1).2) ([(1#64, 0#64), (1#64, 0#64)] : List LbT) 1).1 ([(2 : Int)]) 1) (j := 0) sli92 ((H90.ext hC111).rd (k := 1) rfl hS62) rfl rfl (by first | rfl | omega | (simp; omega)) (by exact (oL_len _ _ _).symm) (by rw [oL_len]; decide)) ⟨rfl, Chg.refl _ _⟩, ?_⟩
 refine ⟨.agg (cel E64 [((oL (eS lhash (0#64) ([⟨(2 : Int), (0 : Int), (1 : Int)⟩] : List Gt) ((gS lhash (1#64, 0#64) (0#64) ([⟨(2 : Int), (0 : Int), (1 : Int)⟩] : List Gt) (List.replicate 2 lb0) 1).2) ([(1#64, 0#64), (1#64, 0#64)] : List LbT) 1).1 ([(2 : Int)]) 1).getD 0 lb0).1, ((oL (eS lhash (0#64) ([⟨(2 : Int), (0 : Int), (1 : Int)⟩] : List Gt) ((gS lhash (1#64, 0#64) (0#64) ([⟨(2 : Int), (0 : Int), (1 : Int)⟩] : List Gt) (List.replicate 2 lb0) 1).2) ([(1#64, 0#64), (1#64, 0#64)] : List LbT) 1).1 ([(2 : Int)]) 1).getD 0 lb0).2]).toArray, fun _ uw112 hC113 _ => Gives.runW (wantedSome (d' := 60) (b := true) rfl rfl rfl) ((r_ldS (E := ELb) (l := oL (eS lhash (0#64) ([⟨(2 : Int), (0 : Int), (1 : Int)⟩] : List Gt) ((gS lhash (1#64, 0#64) (0#64) ([⟨(2 : Int), (0 : Int), (1 : Int)⟩] : List Gt) (List.replicate 2 lb0) 1).2) ([(1#64, 0#64), (1#64, 0#64)] : List LbT) 1).1 ([(2 : Int)]) 1) (j := 0) (v := (oL (eS lhash (0#64) ([⟨(2 : Int), (0 : Int), (1 : Int)⟩] : List Gt) ((gS lhash (1#64, 0#64) (0#64) ([⟨(2 : Int), (0 : Int), (1 : Int)⟩] : List Gt) (List.replicate 2 lb0) 1).2) ([(1#64, 0#64), (1#64, 0#64)] : List LbT) 1).1 ([(2 : Int)]) 1).getD 0 lb0) fits38 ((H90.ext hC113).rd (k := 1) rfl hS62) rfl rfl (at_getD (by rw [oL_len]; decide))).as (v' := .agg (cel E64 [((oL (eS lhash (0#64) ([⟨(2 : Int), (0 : Int), (1 : Int)⟩] : List Gt) ((gS lhash (1#64, 0#64) (0#64) ([⟨(2 : Int), (0 : Int), (1 : Int)⟩] : List Gt) (List.replicate 2 lb0) 1).2) ([(1#64, 0#64), (1#64, 0#64)] : List LbT) 1).1 ([(2 : Int)]) 1).getD 0 lb0).1, ((oL (eS lhash (0#64) ([⟨(2 : Int), (0 : Int), (1 : Int)⟩] : List Gt) ((gS lhash (1#64, 0#64) (0#64) ([⟨(2 : Int), (0 : Int), (1 : Int)⟩] : List Gt) (List.replicate 2 lb0) 1).2) ([(1#64, 0#64), (1#64, 0#64)] : List LbT) 1).1 ([(2 : Int)]) 1).getD 0 lb0).2]).toArray) rfl) ⟨rfl, Chg.refl _ _⟩, ?_⟩
 refine ⟨.slice (ownA k41) ((oL (gS lhash (1#64, 0#64) (0#64) ([⟨(2 : Int), (0 : Int), (1 : Int)⟩] : List Gt) (List.replicate 2 lb0) 1).1 ([(2 : Int)]) 1).length) c42, fun _ uw114 hC115 _ => Gives.runW (wantedSome (d' := 60) (b := true) rfl rfl rfl) (r_move (v := .slice (ownA k41) ((oL (gS lhash (1#64, 0#64) (0#64) ([⟨(2 : Int), (0 : Int), (1 : Int)⟩] : List Gt) (List.replicate 2 lb0) 1).1 ([(2 : Int)]) 1).length) c42) rfl) ⟨rfl, Chg.refl _ _⟩, ?_⟩
 refine ⟨.pointer (adr (ownA k41) (0 * 2)), fun _ uw116 hC117 _ => Gives.runW (wantedSome (d' := 60) (b := true) rfl rfl rfl) (r_idxS (E := ELb) (l := oL (gS lhash (1#64, 0#64) (0#64) ([⟨(2 : Int), (0 : Int), (1 : Int)⟩] : List Gt) (List.replicate 2 lb0) 1).1 ([(2 : Int)]) 1) (j := 0) sli92 ((H90.ext hC117).rd (k := 4) rfl hS45) rfl rfl (by first | rfl | omega | (simp; omega)) (by first | rfl | omega | (simp; omega) | (simp at *; omega)) (by rw [oL_len]; decide)) ⟨rfl, Chg.refl _ _⟩, ?_⟩
 refine ⟨.agg (cel E64 [((oL (gS lhash (1#64, 0#64) (0#64) ([⟨(2 : Int), (0 : Int), (1 : Int)⟩] : List Gt) (List.replicate 2 lb0) 1).1 ([(2 : Int)]) 1).getD 0 lb0).1, ((oL (gS lhash (1#64, 0#64) (0#64) ([⟨(2 : Int), (0 : Int), (1 : Int)⟩] : List Gt) (List.replicate 2 lb0) 1).1 ([(2 : Int)]) 1).getD 0 lb0).2]).toArray, fun _ uw118 hC119 _ => Gives.runW (wantedSome (d' := 60) (b := true) rfl rfl rfl) ((r_ldS (E := ELb) (l := oL (gS lhash (1#64, 0#64) (0#64) ([⟨(2 : Int), (0 : Int), (1 : Int)⟩] : List Gt) (List.replicate 2 lb0) 1).1 ([(2 : Int)]) 1) (j := 0) (v := (oL (gS lhash (1#64, 0#64) (0#64) ([⟨(2 : Int), (0 : Int), (1 : Int)⟩] : List Gt) (List.replicate 2 lb0) 1).1 ([(2 : Int)]) 1).getD 0 lb0) fits38 ((H90.ext hC119).rd (k := 4) rfl hS45) rfl rfl (at_getD (by rw [oL_len]; decide))).as (v' := .agg (cel E64 [((oL (gS lhash (1#64, 0#64) (0#64) ([⟨(2 : Int), (0 : Int), (1 : Int)⟩] : List Gt) (List.replicate 2 lb0) 1).1 ([(2 : Int)]) 1).getD 0 lb0).1, ((oL (gS lhash (1#64, 0#64) (0#64) ([⟨(2 : Int), (0 : Int), (1 : Int)⟩] : List Gt) (List.replicate 2 lb0) 1).1 ([(2 : Int)]) 1).getD 0 lb0).2]).toArray) rfl) ⟨rfl, Chg.refl _ _⟩, ?_⟩
 refine ⟨.agg (cel E64 ([1#64, 0#64])).toArray, fun _ uw120 hC121 _ => Gives.runW (wantedSome (d' := 60) (b := true) rfl rfl rfl) (r_loadA (cs' := (cel E64 ([1#64, 0#64])).toArray) agg38 siz38 ((H90.ext hC121).get (k := 6) rfl) (off := 0) rfl (by exact bLe rfl) (by exact ext_all rfl)) ⟨rfl, Chg.refl _ _⟩, ?_⟩
 refine ⟨.agg (cel E64 [(lx ((oL (gS lhash (1#64, 0#64) (0#64) ([⟨(2 : Int), (0 : Int), (1 : Int)⟩] : List Gt) (List.replicate 2 lb0) 1).1 ([(2 : Int)]) 1).getD 0 lb0) (lw true (1#64, 0#64))).1, (lx ((oL (gS lhash (1#64, 0#64) (0#64) ([⟨(2 : Int), (0 : Int), (1 : Int)⟩] : List Gt) (List.replicate 2 lb0) 1).1 ([(2 : Int)]) 1).getD 0 lb0) (lw true (1#64, 0#64))).2]).toArray, fun _ uw122 hC123 _ => Gives.callW (wantedSome (d' := 60) (b := true) rfl rfl rfl) (Enters.callL (vs := [.agg (cel E64 [((oL (gS lhash (1#64, 0#64) (0#64) ([⟨(2 : Int), (0 : Int), (1 : Int)⟩] : List Gt) (List.replicate 2 lb0) 1).1 ([(2 : Int)]) 1).getD 0 lb0).1, ((oL (gS lhash (1#64, 0#64) (0#64) ([⟨(2 : Int), (0 : Int), (1 : Int)⟩] : List Gt) (List.replicate 2 lb0) 1).1 ([(2 : Int)]) 1).getD 0 lb0).2]).toArray, .agg (cel E64 ([1#64, 0#64])).toArray, .bool (true)]) call48 rfl) (label_ok ((oL (gS lhash (1#64, 0#64) (0#64) ([⟨(2 : Int), (0 : Int), (1 : Int)⟩] : List Gt) (List.replicate 2 lb0) 1).1 ([(2 : Int)]) 1).getD 0 lb0) (1#64, 0#64) true uw122), ?_⟩
 refine ⟨.bool (true), fun _ uw124 hC125 _ => Gives.runW (wantedSome (d' := 60) (b := true) rfl rfl rfl) ((r_eqlA (E := E64) (l := [((oL (eS lhash (0#64) ([⟨(2 : Int), (0 : Int), (1 : Int)⟩] : List Gt) ((gS lhash (1#64, 0#64) (0#64) ([⟨(2 : Int), (0 : Int), (1 : Int)⟩] : List Gt) (List.replicate 2 lb0) 1).2) ([(1#64, 0#64), (1#64, 0#64)] : List LbT) 1).1 ([(2 : Int)]) 1).getD 0 lb0).1, ((oL (eS lhash (0#64) ([⟨(2 : Int), (0 : Int), (1 : Int)⟩] : List Gt) ((gS lhash (1#64, 0#64) (0#64) ([⟨(2 : Int), (0 : Int), (1 : Int)⟩] : List Gt) (List.replicate 2 lb0) 1).2) ([(1#64, 0#64), (1#64, 0#64)] : List LbT) 1).1 ([(2 : Int)]) 1).getD 0 lb0).2]) (l' := [(lx ((oL (gS lhash (1#64, 0#64) (0#64) ([⟨(2 : Int), (0 : Int), (1 : Int)⟩] : List Gt) (List.replicate 2 lb0) 1).1 ([(2 : Int)]) 1).getD 0 lb0) (lw true (1#64, 0#64))).1, (lx ((oL (gS lhash (1#64, 0#64) (0#64) ([⟨(2 : Int), (0 : Int), (1 : Int)⟩] : List Gt) (List.replicate 2 lb0) 1).1 ([(2 : Int)]) 1).getD 0 lb0) (lw true (1#64, 0#64))).2]) gty38 und38 fits32 (eqAt64 und32) (rfl) (rfl) rfl rfl).as (v' := .bool (true)) (by exact congrArg Value.bool (decide_eq_true (by rw [aw_right])))) ⟨rfl, Chg.refl _ _⟩, ?_⟩
 refine ⟨.bool (true), fun _ uw126 hC127 _ => Gives.run rfl (r_pickT (u := .bool (true)) rfl rfl) ⟨rfl, Chg.refl _ _⟩, ?_⟩
 refine ⟨.bool (true), fun _ uw128 hC129 _ => Gives.run rfl (r_move (v := .bool (true)) rfl) ⟨rfl, Chg.refl _ _⟩, ?_⟩
 refine ⟨.iface T82 (x83), fun _ uw130 hC131 _ => Gives.runW (wantedSome (d' := 71) (b := true) rfl rfl rfl) (r_move (v := .iface T82 (x83)) rfl) ⟨rfl, Chg.refl _ _⟩, ?_⟩
 refine ⟨.bool (true), fun _ uw132 hC133 _ => Gives.callW (wantedSome (d' := 71) (b := true) rfl rfl rfl) (Enters.callL (vs := [.iface T82 (x83), i64 ((100 : Int))]) call24 rfl) (is_ok 100 (100 : Int) 1 (.iface T82 (x83)) lo84 uw132 ((hEr79.ext hC133))), ?_⟩
 refine ⟨.bool (true), fun _ uw134 hC135 _ => Gives.run rfl (r_pickT (u := .bool (true)) rfl rfl) ⟨rfl, Chg.refl _ _⟩, ?_⟩
 refine ⟨.bool (true), fun _ uw136 hC137 _ => Gives.run rfl (r_assign (v := .bool (true)) rfl) ⟨rfl, Chg.refl _ _⟩, ?_⟩
 intro r141 w138 hE140 hF
 have H139 := H90.ext hE140
 refine wnil ?_
 refine thenNormal ?_
 refine retAny ?_
 refine retG (rs := [.tmp 0]) (vs := [.bool (true)]) rfl ⟨⟨rfl, rfl⟩, trivial⟩ ?_
 exact ⟨_, rfl, rfl, H139.chg⟩
end Go.Proofs.YteofdmdpaejgaaaDoor.Gb
namespace Go.Proofs.YteofdmdpaejgaaaDoor.Gb
open Go Go.Proofs.YteofdmdpaejgaaaDoor.Vc Go.Proofs.YteofdmdpaejgaaaDoor.Er Go.Proofs.YteofdmdpaejgaaaDoor.Circ
set_option linter.unusedVariables false
theorem agg94 : isAgg' Tryd.prog 94 = true := by kernel_rfl
theorem call41 : callable Tryd.prog 41 = true := by kernel_rfl
theorem call44 : callable Tryd.prog 44 = true := by kernel_rfl
theorem call47 : callable Tryd.prog 47 = true := by kernel_rfl
theorem fld94_0 : fld Tryd.prog 94 0 = some (0, 2, 38) := by kernel_rfl
theorem siz32 : siz Tryd.prog 32 = some 1 := by kernel_rfl
theorem siz94 : siz Tryd.prog 94 = some 4 := by kernel_rfl
end Go.Proofs.YteofdmdpaejgaaaDoor.Gb
namespace Go.Proofs.YteofdmdpaejgaaaDoor.Gb
open Go Go.Proofs.YteofdmdpaejgaaaDoor.Vc Go.Proofs.YteofdmdpaejgaaaDoor.Er Go.Proofs.YteofdmdpaejgaaaDoor.Circ
set_option linter.unusedVariables false
theorem rlx_ok (a b : Lb) (w : World) : Calls Tryd.prog 50 [.agg (cel E64 [(a).1, (a).2]).toArray, .agg (cel E64 [(b).1, (b).2]).toArray].toArray w (Ret fun v w' => v = .agg (cel E64 [(lx a b).1, (lx a b).2]).toArray ∧ Ext w w') := by
 have H := Hp.start No w
 refine enter (n := 16) Tryd.func50 rfl rfl (bLe rfl) ?_
 refine sR ?_
 refine q_box (v := .agg (cel E64 [(a).1, (a).2]).toArray) (o := lO (a)) H rfl (by rfl) ?_
 intro b1 w2 hb1 H3 hE4
 refine q_box (v := .agg (cel E64 [(b).1, (b).2]).toArray) (o := lO (b)) H3 rfl (by rfl) ?_
 intro b5 w6 hb5 H7 hE8
 refine q_alloc (o := .cells (cel E64 ([0#64, 0#64])).toArray 38 (0, 0)) H7 zer38 (by kernel_rfl) ?_
 intro b9 w10 hb9 H11 hE12
 refine wend ?_
 refine sR ?_
 refine sq (r_indexA (off' := 0) (j := 0) arr38 (b := b1) (off := 0) rfl rfl (by first | rfl | omega | (simp; omega)) (by omega) (by omega)) ?_
 refine sq (r_ld1 (E := E64) (l := [(a).1, (a).2]) (j := 0) (a := (a).1) fits32 (H11.get (k := 2) rfl) (by rfl) rfl rfl) ?_
 refine sq (r_indexA (off' := 0) (j := 0) arr38 (b := b5) (off := 0) rfl rfl (by first | rfl | omega | (simp; omega)) (by omega) (by omega)) ?_
 refine sq (r_ld1 (E := E64) (l := [(b).1, (b).2]) (j := 0) (a := (b).1) fits32 (H11.get (k := 1) rfl) (by rfl) rfl rfl) ?_
 refine sq (r_xor64 (a := (a).1) (b := (b).1) rfl rfl) ?_
 refine sq (r_indexA (off' := 1) (j := 1) arr38 (b := b1) (off := 0) rfl rfl (by first | rfl | omega | (simp; omega)) (by omega) (by omega)) ?_
 refine sq (r_ld1 (E := E64) (l := [(a).1, (a).2]) (j := 1) (a := (a).2) fits32 (H11.get (k := 2) rfl) (by rfl) rfl rfl) ?_
 refine sq (r_indexA (off' := 1) (j := 1) arr38 (b := b5) (off := 0) rfl rfl (by first | rfl | omega | (simp; omega)) (by omega) (by omega)) ?_
 refine sq (r_ld1 (E := E64) (l := [(b).1, (b).2]) (j := 1) (a := (b).2) fits32 (H11.get (k := 1) rfl) (by rfl) rfl rfl) ?_
 refine sq (r_xor64 (a := (a).2) (b := (b).2) rfl rfl) ?_
 refine sq (r_buildA (cs' := (cel E64 [((a).1) ^^^ ((b).1), ((a).2) ^^^ ((b).2)]).toArray) (ps := [(0, u64 (((a).1) ^^^ ((b).1))), (1, u64 (((a).2) ^^^ ((b).2)))]) zer38 arr38 rfl (by rfl)) ?_
 refine d_store (k := 0) (v := .agg (cel E64 [((a).1) ^^^ ((b).1), ((a).2) ^^^ ((b).2)]).toArray) (cs' := (cel E64 ([((a).1) ^^^ ((b).1), ((a).2) ^^^ ((b).2)])).toArray) H11 rfl rfl rfl siz38 (by exact celSize (by first | rfl | (show _ * 1 = _; omega))) (by exact celOne _) (by rw [List.size_toArray, cel_length]; show _ ≤ _ * 1; first | omega | (simp only [List.length_set]; omega) | exact bLe rfl | (simp <;> omega)) (by exact putAll (by first | rfl | omega | (simp <;> omega))) ?_
 intro w13 H14 hC15
 have H14' := H14.as (L' := [(some b9, .cells (cel E64 ([((a).1) ^^^ ((b).1), ((a).2) ^^^ ((b).2)])).toArray 38 (0, 0)), (some b5, lO (b)), (some b1, lO (a))]) rfl
 clear H14
 refine wend ?_
 refine retAny ?_
 refine retG (rs := [.cell 4 38]) (vs := [.agg (cel E64 ([((a).1) ^^^ ((b).1), ((a).2) ^^^ ((b).2)])).toArray]) rfl ⟨r_loadA (cs' := (cel E64 ([((a).1) ^^^ ((b).1), ((a).2) ^^^ ((b).2)])).toArray) agg38 siz38 (H14'.get (k := 0) rfl) (off := 0) rfl (by exact bLe rfl) (by exact ext_all rfl), trivial⟩ ?_
 exact ⟨_, rfl, rfl, H14'.chg⟩
end Go.Proofs.YteofdmdpaejgaaaDoor.Gb
namespace Go.Proofs.YteofdmdpaejgaaaDoor.Gb
open Go Go.Proofs.YteofdmdpaejgaaaDoor.Vc Go.Proofs.YteofdmdpaejgaaaDoor.Er Go.Proofs.YteofdmdpaejgaaaDoor.Circ
set_option linter.unusedVariables false
theorem byt4 : byt Tryd.prog 4 = some 1 := by kernel_rfl
theorem call50 : callable Tryd.prog 50 = true := by kernel_rfl
theorem fits4 : Fits Tryd.prog 4 EB := fitsB (by kernel_rfl) (by kernel_rfl)
theorem sli76 : sli Tryd.prog 76 = some (4, 1) := by kernel_rfl
theorem zer4 : zer Tryd.prog 4 = some (.bool false) := by kernel_rfl
end Go.Proofs.YteofdmdpaejgaaaDoor.Gb
namespace Go.Proofs.YteofdmdpaejgaaaDoor.Aes
open Go Go.Proofs.YteofdmdpaejgaaaDoor.Vc Go.Proofs.YteofdmdpaejgaaaDoor.AesSpec
def CiphR (ks bx : List By) (w : World) (v : Value) (w' : World) : Prop := ∃ kk kc ksp kb cb spb, v = .agg #[.slice (ownA kk) 176 kc, .slice (ownA kb) 256 cb] ∧ Sl E8 kk ks kc ksp ∧ Sl E8 kb bx cb spb ∧ Hp No w w' [(kb, sob E8 5 bx spb), (kk, sob E8 5 ks ksp)]
theorem CiphR.ext {ks bx : List By} {w : World} {v : Value} {w1 w2 : World} (h : CiphR ks bx w v w1) (hE : Ext w1 w2) : CiphR ks bx w v w2 := by
 obtain ⟨kk, kc, ksp, kb, cb, spb, h1, h2, h3, h4⟩ := h
 exact ⟨kk, kc, ksp, kb, cb, spb, h1, h2, h3, h4.ext hE⟩
theorem CiphR.rd {ks bx : List By} {w0 w : World} {v : Value} (h : CiphR ks bx w0 v w) (hk : ks.length = 176) : ∃ xk ck xb cb, v = .agg #[.slice xk 176 ck, .slice xb 256 cb] ∧ 176 ≤ ck ∧ Rd E8 w xk ks ∧ Rd E8 w xb bx := by
 obtain ⟨kk, kc, ksp, kb, cb, spb, h1, h2, h3, h4⟩ := h
 exact ⟨_, _, _, _, h1, hk ▸ h2.cap, h4.rd (k := 1) rfl h2, h4.rd (k := 0) rfl h3⟩
end Go.Proofs.YteofdmdpaejgaaaDoor.Aes
namespace Go.Proofs.YteofdmdpaejgaaaDoor.Gb
open Go Go.Proofs.YteofdmdpaejgaaaDoor.Vc Go.Proofs.YteofdmdpaejgaaaDoor.Er Go.Proofs.YteofdmdpaejgaaaDoor.Circ Go.Proofs.YteofdmdpaejgaaaDoor.Co
set_option linter.unusedVariables false
theorem arr39 : arr Tryd.prog 39 = some (2, 2) := by kernel_rfl
theorem call60 : callable Tryd.prog 60 = true := by kernel_rfl
theorem call95 : callable Tryd.prog 95 = true := by kernel_rfl
theorem fits41 : Fits Tryd.prog 41 EOt := fitsOt (by kernel_rfl) (by kernel_rfl)
theorem fld41_0 : fld Tryd.prog 41 0 = some (0, 4, 39) := by kernel_rfl
theorem fld41_1 : fld Tryd.prog 41 1 = some (4, 1, 4) := by kernel_rfl
theorem one4 : isOne Tryd.prog 4 = true := by kernel_rfl
theorem siz41 : siz Tryd.prog 41 = some 5 := by kernel_rfl
theorem sli50 : sli Tryd.prog 50 = some (41, 5) := by kernel_rfl
theorem zer41 : zer Tryd.prog 41 = some (.agg #[.int .u64 0, .int .u64 0, .int .u64 0, .int .u64 0, .bool false]) := by kernel_rfl
theorem fit_good (m k1 k2 : Nat) (a0 : Option Addr) (c0 : Nat) (w : World) (h1 : m = 64) (h2 : k1 = k2) : Calls Tryd.prog 95 [.slice a0 m c0, i64 (k1 : Nat), i64 (k2 : Nat)].toArray w (Ret fun v w' => v = .nilIface ∧ Ext w w') := by
 have H := Hp.start No w
 refine enter (n := 19) Tryd.func95 rfl rfl (bLe rfl) ?_
 refine sR ?_
 refine sA (.nilIface) rfl ?_
 refine wend ?_
 refine seqAny ?_
 refine sR ?_
 refine sM (.slice a0 m c0) rfl ?_
 refine sq (r_lenS sli50 (a := a0) (m := m) (c := c0) rfl) ?_
 refine sq ((r_neqI (a := (m : Nat)) (b := (64 : Int)) rfl rfl).as (v' := .bool (false)) (by exact congrArg Value.bool (decide_eq_false (by omega)))) ?_
 refine sM (.bool (false)) rfl ?_
 refine sqAny (v := i64 (k1 : Nat)) (w' := w) (wantedSome (d' := 10) (b := false) rfl rfl rfl) (r_move (v := i64 (k1 : Nat)) rfl) ?_
 refine sqAny (v := i64 (k2 : Nat)) (w' := w) (wantedSome (d' := 10) (b := false) rfl rfl rfl) (r_move (v := i64 (k2 : Nat)) rfl) ?_
 refine sqAny (v := .bool (false)) (w' := w) (wantedSome (d' := 10) (b := false) rfl rfl rfl) ((r_neqI (a := (k1 : Nat)) (b := (k2 : Nat)) rfl rfl).as (v' := .bool (false)) (by exact congrArg Value.bool (decide_eq_false (by omega)))) ?_
 refine sq (r_pickF (v := .bool (false)) rfl rfl) ?_
 refine wend ?_
 refine condFalse rfl ?_
 refine skipAny ?_
 refine thenNormal ?_
 refine sR ?_
 refine sA (.nilIface) rfl ?_
 refine wend ?_
 refine retAny ?_
 refine retG (rs := [.tmp 6]) (vs := [.nilIface]) rfl ⟨⟨rfl, rfl⟩, trivial⟩ ?_
 exact ⟨_, rfl, rfl, H.chg⟩
theorem fit_bad1 (m k1 k2 : Nat) (a0 : Option Addr) (c0 : Nat) (w : World) (hG : Gl w) (h1 : m ≠ 64) : Calls Tryd.prog 95 [.slice a0 m c0, i64 (k1 : Nat), i64 (k2 : Nat)].toArray w (Ret fun v w' => (∃ ev, v = ev ∧ Er w.heap.size w' 1 1 ev) ∧ Ext w w') := by
 have H := Hp.start No w
 refine enter (n := 19) Tryd.func95 rfl rfl (bLe rfl) ?_
 refine sR ?_
 refine sA (.nilIface) rfl ?_
 refine wend ?_
 refine seqAny ?_
 refine sR ?_
 refine sM (.slice a0 m c0) rfl ?_
 refine sq (r_lenS sli50 (a := a0) (m := m) (c := c0) rfl) ?_
 refine sq ((r_neqI (a := (m : Nat)) (b := (64 : Int)) rfl rfl).as (v' := .bool (true)) (by exact congrArg Value.bool (decide_eq_true (by omega)))) ?_
 refine sM (.bool (true)) rfl ?_
 refine skAny (wantedSome (d' := 10) (b := true) rfl rfl rfl) ?_
 refine skAny (wantedSome (d' := 10) (b := true) rfl rfl rfl) ?_
 refine skAny (wantedSome (d' := 10) (b := true) rfl rfl rfl) ?_
 refine sq (r_pickT (u := .bool (true)) rfl rfl) ?_
 refine wend ?_
 refine condTrue rfl ?_
 refine sR ?_
 refine sq (r_mkI und57 (xv := i64 ((1 : Int))) rfl) ?_
 refine sM (.slice a0 m c0) rfl ?_
 refine sq (r_lenS sli50 (a := a0) (m := m) (c := c0) rfl) ?_
 refine c_call (vs := [.iface 57 (i64 ((1 : Int))), .string ({data := #[116, 114, 97, 110, 115, 102, 101, 114]}), i64 (m : Nat)]) call63 rfl (wrap0_ok (1 : Int) (m : Nat) ({data := #[116, 114, 97, 110, 115, 102, 101, 114]}) w (Chg.gl H.chg (fun x => x) hG)) ?_
 rintro v3 w1 ⟨hEr4, hE5⟩
 have H6 := H.ext hE5
 obtain ⟨T7, x8, rfl⟩ := hEr4.iface
 refine sA (.iface T7 (x8)) rfl ?_
 refine wend ?_
 refine retAny ?_
 refine thenRet ?_
 refine retG (rs := [.tmp 6]) (vs := [.iface T7 (x8)]) rfl ⟨⟨rfl, rfl⟩, trivial⟩ ?_
 exact ⟨_, rfl, ⟨_, rfl, hEr4.mono H.chg.size⟩, H6.chg⟩
theorem fit_bad2 (m k1 k2 : Nat) (a0 : Option Addr) (c0 : Nat) (w : World) (hG : Gl w) (h1 : m = 64) (h2 : k1 ≠ k2) : Calls Tryd.prog 95 [.slice a0 m c0, i64 (k1 : Nat), i64 (k2 : Nat)].toArray w (Ret fun v w' => (∃ ev, v = ev ∧ Er w.heap.size w' 1 1 ev) ∧ Ext w w') := by
 have H := Hp.start No w
 refine enter (n := 19) Tryd.func95 rfl rfl (bLe rfl) ?_
 refine sR ?_
 refine sA (.nilIface) rfl ?_
 refine wend ?_
 refine seqAny ?_
 refine sR ?_
 refine sM (.slice a0 m c0) rfl ?_
 refine sq (r_lenS sli50 (a := a0) (m := m) (c := c0) rfl) ?_
 refine sq ((r_neqI (a := (m : Nat)) (b := (64 : Int)) rfl rfl).as (v' := .bool (false)) (by exact congrArg Value.bool (decide_eq_false (by omega)))) ?_
 refine sM (.bool (false)) rfl ?_
 refine sqAny (v := i64 (k1 : Nat)) (w' := w) (wantedSome (d' := 10) (b := false) rfl rfl rfl) (r_move (v := i64 (k1 : Nat)) rfl) ?_
 refine sqAny (v := i64 (k2 : Nat)) (w' := w) (wantedSome (d' := 10) (b := false) rfl rfl rfl) (r_move (v := i64 (k2 : Nat)) rfl) ?_
 refine sqAny (v := .bool (true)) (w' := w) (wantedSome (d' := 10) (b := false) rfl rfl rfl) ((r_neqI (a := (k1 : Nat)) (b := (k2 : Nat)) rfl rfl).as (v' := .bool (true)) (by exact congrArg Value.bool (decide_eq_true (by omega)))) ?_
 refine sq (r_pickF (v := .bool (true)) rfl rfl) ?_
 refine wend ?_
 refine condTrue rfl ?_
 refine sR ?_
 refine sq (r_mkI und57 (xv := i64 ((1 : Int))) rfl) ?_
 refine sM (.slice a0 m c0) rfl ?_
 refine sq (r_lenS sli50 (a := a0) (m := m) (c := c0) rfl) ?_
 refine c_call (vs := [.iface 57 (i64 ((1 : Int))), .string ({data := #[116, 114, 97, 110, 115, 102, 101, 114]}), i64 (m : Nat)]) call63 rfl (wrap0_ok (1 : Int) (m : Nat) ({data := #[116, 114, 97, 110, 115, 102, 101, 114]}) w (Chg.gl H.chg (fun x => x) hG)) ?_
 rintro v3 w1 ⟨hEr4, hE5⟩
 have H6 := H.ext hE5
 obtain ⟨T7, x8, rfl⟩ := hEr4.iface
 refine sA (.iface T7 (x8)) rfl ?_
 refine wend ?_
 refine retAny ?_
 refine thenRet ?_
 refine retG (rs := [.tmp 6]) (vs := [.iface T7 (x8)]) rfl ⟨⟨rfl, rfl⟩, trivial⟩ ?_
 exact ⟨_, rfl, ⟨_, rfl, hEr4.mono H.chg.size⟩, H6.chg⟩
theorem ask_bad (m : Nat) (a0 : Option Addr) (c0 : Nat) (x : BitVec 64) (w : World) (hG : Gl w) (h1 : m ≠ 64) : Calls Tryd.prog 56 [.slice a0 m c0, u64 (x)].toArray w (Ret fun v w' => (∃ ev, v = .tuple #[u64 0#64, ev] ∧ Er w.heap.size w' 1 1 ev) ∧ Ext w w') := by
 have H := Hp.start No w
 refine enter (n := 29) Tryd.func56 rfl rfl (bLe rfl) ?_
 refine sR ?_
 refine sA (u64 (0#64)) rfl ?_
 refine sA (.nilIface) rfl ?_
 refine wend ?_
 refine seqAny ?_
 refine sR ?_
 refine sM (.slice a0 m c0) rfl ?_
 refine c_call (vs := [.slice a0 m c0, i64 ((0 : Int)), i64 ((0 : Int))]) call95 rfl (fit_bad1 m 0 0 a0 c0 w (Chg.gl H.chg (fun x => x) hG) (by omega)) ?_
 rintro _ w1 ⟨⟨v3, rfl, hEr4⟩, hE5⟩
 have H6 := H.ext hE5
 obtain ⟨T7, x8, rfl⟩ := hEr4.iface
 refine sA (.iface T7 (x8)) rfl ?_
 refine wend ?_
 refine sR ?_
 refine sM (.iface T7 (x8)) rfl ?_
 refine sq (r_neqIN isI27 rfl rfl) ?_
 refine wend ?_
 refine condTrue rfl ?_
 refine sR ?_
 refine sM (.iface T7 (x8)) rfl ?_
 refine sA (u64 (0#64)) rfl ?_
 refine sA (.iface T7 (x8)) rfl ?_
 refine wend ?_
 refine retAny ?_
 refine thenRet ?_
 refine retG (rs := [.tmp 4, .tmp 5]) (vs := [u64 (0#64), .iface T7 (x8)]) rfl ⟨⟨rfl, rfl⟩, ⟨rfl, rfl⟩, trivial⟩ ?_
 exact ⟨_, rfl, ⟨_, rfl, hEr4.mono H.chg.size⟩, H6.chg⟩
theorem reply_bad (m m2 : Nat) (a0 a2 : Option Addr) (c0 c2 : Nat) (ask : BitVec 64) (δ : Lb) (w : World) (hG : Gl w) (h1 : m = 64) (h2 : m2 ≠ 64) : Calls Tryd.prog 57 [.slice a0 m c0, u64 (ask), .slice a2 m2 c2, .agg (cel E64 [(δ).1, (δ).2]).toArray].toArray w (Ret fun v w' => (∃ ev, v = .tuple #[.slice none 0 0, ev] ∧ Er w.heap.size w' 1 1 ev) ∧ Ext w w') := by
 have H := Hp.start No w
 refine enter (n := 59) Tryd.func57 rfl rfl (bLe rfl) ?_
 refine sR ?_
 refine q_box (v := .agg (cel E64 [(δ).1, (δ).2]).toArray) (o := lO (δ)) H rfl (by rfl) ?_
 intro b1 w2 hb1 H3 hE4
 refine sA (.slice none 0 0) rfl ?_
 refine sA (.nilIface) rfl ?_
 refine wend ?_
 refine seqAny ?_
 refine sR ?_
 refine sM (.slice a0 m c0) rfl ?_
 refine sM (.slice a2 m2 c2) rfl ?_
 refine sq (r_lenS sli92 (a := a2) (m := m2) (c := c2) rfl) ?_
 have := H3.lt (List.mem_of_getElem? (i := 0) rfl) rfl
 refine c_call (vs := [.slice a0 m c0, i64 (m2 : Nat), i64 ((64 : Int))]) call95 rfl (fit_bad2 m m2 64 a0 c0 w2 (Chg.gl H3.chg (fun x => x) hG) (by omega) (by omega)) ?_
 rintro _ w5 ⟨⟨v7, rfl, hEr8⟩, hE9⟩
 have H10 := H3.ext hE9
 obtain ⟨T11, x12, rfl⟩ := hEr8.iface
 refine sA (.iface T11 (x12)) rfl ?_
 refine wend ?_
 refine sR ?_
 refine sM (.iface T11 (x12)) rfl ?_
 refine sq (r_neqIN isI27 rfl rfl) ?_
 refine wend ?_
 refine condTrue rfl ?_
 refine sR ?_
 refine sM (.iface T11 (x12)) rfl ?_
 refine sA (.slice none 0 0) rfl ?_
 refine sA (.iface T11 (x12)) rfl ?_
 refine wend ?_
 refine retAny ?_
 refine thenRet ?_
 refine retG (rs := [.tmp 8, .tmp 9]) (vs := [.slice none 0 0, .iface T11 (x12)]) rfl ⟨⟨rfl, rfl⟩, ⟨rfl, rfl⟩, trivial⟩ ?_
 exact ⟨_, rfl, ⟨_, rfl, hEr8.mono H3.chg.size⟩, H10.chg⟩
theorem pick_bad (m m2 : Nat) (a0 a2 : Option Addr) (c0 c2 : Nat) (x : BitVec 64) (w : World) (hG : Gl w) (h1 : m = 64) (h2 : m2 ≠ 128) : Calls Tryd.prog 58 [.slice a0 m c0, u64 (x), .slice a2 m2 c2].toArray w (Ret fun v w' => (∃ ev, v = .tuple #[.slice none 0 0, ev] ∧ Er w.heap.size w' 1 1 ev) ∧ Ext w w') := by
 have H := Hp.start No w
 refine enter (n := 46) Tryd.func58 rfl rfl (bLe rfl) ?_
 refine sR ?_
 refine sA (.slice none 0 0) rfl ?_
 refine sA (.nilIface) rfl ?_
 refine wend ?_
 refine seqAny ?_
 refine sR ?_
 refine sM (.slice a0 m c0) rfl ?_
 refine sM (.slice a2 m2 c2) rfl ?_
 refine sq (r_lenS sli92 (a := a2) (m := m2) (c := c2) rfl) ?_
 refine c_call (vs := [.slice a0 m c0, i64 (m2 : Nat), i64 ((128 : Int))]) call95 rfl (fit_bad2 m m2 128 a0 c0 w (Chg.gl H.chg (fun x => x) hG) (by omega) (by omega)) ?_
 rintro _ w1 ⟨⟨v3, rfl, hEr4⟩, hE5⟩
 have H6 := H.ext hE5
 obtain ⟨T7, x8, rfl⟩ := hEr4.iface
 refine sA (.iface T7 (x8)) rfl ?_
 refine wend ?_
 refine sR ?_
 refine sM (.iface T7 (x8)) rfl ?_
 refine sq (r_neqIN isI27 rfl rfl) ?_
 refine wend ?_
 refine condTrue rfl ?_
 refine sR ?_
 refine sM (.iface T7 (x8)) rfl ?_
 refine sA (.slice none 0 0) rfl ?_
 refine sA (.iface T7 (x8)) rfl ?_
 refine wend ?_
 refine retAny ?_
 refine thenRet ?_
 refine retG (rs := [.tmp 6, .tmp 7]) (vs := [.slice none 0 0, .iface T7 (x8)]) rfl ⟨⟨rfl, rfl⟩, ⟨rfl, rfl⟩, trivial⟩ ?_
 exact ⟨_, rfl, ⟨_, rfl, hEr4.mono H.chg.size⟩, H6.chg⟩
theorem ask_ok (os : List Ot) (a0 : Option Addr) (n0 c0 : Nat) (hn0 : n0 = os.length) (hos : os.length = 64) (x : BitVec 64) (w : World) (hO : Rd EOt w a0 os) : Calls Tryd.prog 56 [.slice a0 n0 c0, u64 x].toArray w (Ret fun v w' => v = .tuple #[u64 (askS os x 64), .nilIface] ∧ Ext w w') := by
 subst hn0
 have H := Hp.start No w
 refine enter (n := 29) Tryd.func56 rfl rfl (bLe rfl) ?_
 refine sR ?_
 refine sA (u64 (0#64)) rfl ?_
 refine sA (.nilIface) rfl ?_
 refine wend ?_
 refine seqAny ?_
 refine sR ?_
 refine sM (.slice a0 os.length c0) rfl ?_
 refine c_call (vs := [.slice a0 os.length c0, i64 ((0 : Int)), i64 ((0 : Int))]) call95 rfl (fit_good os.length 0 0 a0 c0 w (by omega) (by omega)) ?_
 rintro _ w1 ⟨rfl, hE2⟩
 have H3 := H.ext hE2
 refine sA (.nilIface) rfl ?_
 refine wend ?_
 refine sR ?_
 refine sM (.nilIface) rfl ?_
 refine sq (r_neqNN isI27 rfl rfl) ?_
 refine wend ?_
 refine condFalse rfl ?_
 refine skipAny ?_
 refine thenNormal ?_
 refine seqAny ?_
 refine sR ?_
 refine sM (.slice a0 os.length c0) rfl ?_
 refine sq (r_lenS sli50 (a := a0) (m := os.length) (c := c0) rfl) ?_
 refine sM (i64 ((0 : Int))) rfl ?_
 refine wend ?_
 refine blockAny ?_
 refine loopAny (σ := Nat) (fun q => [(1, u64 (askS os x q)), (14, .slice a0 os.length c0), (15, i64 (os.length : Nat)), (16, i64 (q : Nat))]) (fun q w' => q ≤ os.length ∧ Hp No w w' []) (fun q => os.length - q) (0) ?_ ?_ ?_
 ·exact ⟨rfl, rfl, rfl, rfl, trivial⟩
 ·exact ⟨Nat.zero_le _, H3⟩
 rintro q ρ w4 ⟨hq, HL⟩
 refine sR ?_
 refine sq (r_lssI (a := (q : Nat)) (b := (os.length : Nat)) rfl rfl) ?_
 refine wend ?_
 refine seqAny ?_
 refine condProp (((q : Nat) : Int) < (os.length : Nat)) rfl (fun c17 => ?_) (fun c17 => ?_)
 ·skip
  refine skipAny ?_
  refine thenNormal ?_
  refine seqAny ?_
  refine blockAny ?_
  refine sR ?_
  refine sM (i64 (q : Nat)) rfl ?_
  refine sq (r_idxS (E := EOt) (l := os) (j := q) sli50 (hO.ext HL.chg) rfl rfl (by first | rfl | omega | (simp; omega)) (by rfl) (by omega)) ?_
  refine sq ((r_ldS (E := EOt) (l := os) (j := q) (v := (os).getD q ot0) fits41 (hO.ext HL.chg) rfl rfl (at_getD (by omega))).as (v' := .agg #[u64 (((os).getD q ot0).p), u64 (((os).getD q ot0).q), u64 (((os).getD q ot0).r), u64 (((os).getD q ot0).s), .bool (((os).getD q ot0).ch)]) rfl) ?_
  refine q_alloc (o := .cells #[u64 (0#64), u64 (0#64), u64 (0#64), u64 (0#64), .bool (false)] 41 (0, 0)) HL zer41 (by kernel_rfl) ?_
  intro b6 w7 hb6 H8 hE9
  refine sA (i64 (q : Nat)) rfl ?_
  refine d_store (k := 0) (v := .agg #[u64 (((os).getD q ot0).p), u64 (((os).getD q ot0).q), u64 (((os).getD q ot0).r), u64 (((os).getD q ot0).s), .bool (((os).getD q ot0).ch)]) (cs' := #[u64 (((os).getD q ot0).p), u64 (((os).getD q ot0).q), u64 (((os).getD q ot0).r), u64 (((os).getD q ot0).s), .bool (((os).getD q ot0).ch)]) H8 rfl rfl rfl siz41 (by rfl) (by intro u hu; simp [Value.cells] at hu; first | (subst hu; rfl) | (rcases hu with rfl | rfl | rfl | rfl | rfl <;> rfl)) (by exact bLe rfl) (by rfl) ?_
  intro w10 H11 hC12
  have H11' := H11.as (L' := [(some b6, .cells #[u64 (((os).getD q ot0).p), u64 (((os).getD q ot0).q), u64 (((os).getD q ot0).r), u64 (((os).getD q ot0).s), .bool (((os).getD q ot0).ch)] 41 (0, 0))]) rfl
  clear H11
  refine wend ?_
  refine sR ?_
  refine sq (r_fieldAddr (off' := 4) fld41_1 (by decide) (b := b6) (off := 0) rfl (by omega)) ?_
  refine sq (r_loadC (v := .bool (((os).getD q ot0).ch)) one4 (H11'.get (k := 0) rfl) (off := 4) rfl (by rfl)) ?_
  refine wend ?_
  refine condBool (((os).getD q ot0).ch) rfl (fun c22 => ?_) (fun c22 => ?_)
  ·skip
   refine oneRegion ?_
   refine sM (u64 (askS os x q)) rfl ?_
   refine sM (i64 (q : Nat)) rfl ?_
   refine sq (r_shl64 (a := 1#64) (c := q) rfl rfl) ?_
   refine sq (r_xor64 (a := askS os x q) (b := (1#64) <<< (q : Nat)) rfl rfl) ?_
   refine sA (u64 ((askS os x q) ^^^ ((1#64) <<< (q : Nat)))) rfl ?_
   refine wnil ?_
   refine blockNormal ?_
   refine thenNormal ?_
   refine oneRegion ?_
   refine sq (r_addI (a := (q : Nat)) (b := (1 : Int)) rfl rfl (by omega)) ?_
   refine sM (i64 ((q : Nat) + (1 : Int))) rfl ?_
   refine wnil ?_
   refine thenNormal ?_
   exact ⟨q + 1, _, rfl, ⟨congrArg u64 (by rw [askS, if_pos c22]), rfl, rfl, rfl, trivial⟩, ⟨by omega, (H11'.dropk 0)⟩, by show os.length - (q + 1) < os.length - q; omega⟩
  ·skip
   refine skipAny ?_
   refine blockNormal ?_
   refine thenNormal ?_
   refine oneRegion ?_
   refine sq (r_addI (a := (q : Nat)) (b := (1 : Int)) rfl rfl (by omega)) ?_
   refine sM (i64 ((q : Nat) + (1 : Int))) rfl ?_
   refine wnil ?_
   refine thenNormal ?_
   exact ⟨q + 1, _, rfl, ⟨congrArg u64 (by rw [askS, if_neg (by rw [c22]; exact Bool.false_ne_true)]), rfl, rfl, rfl, trivial⟩, ⟨by omega, (H11'.dropk 0)⟩, by show os.length - (q + 1) < os.length - q; omega⟩
 ·skip
  have hqe : q = 64 := by omega
  rw [hqe]
  refine exitAny ?_
  refine thenExit ?_
  refine thenExit ?_
  refine blockHere ?_
  refine thenNormal ?_
  refine sR ?_
  refine sM (u64 (askS os x 64)) rfl ?_
  refine sA (u64 (askS os x 64)) rfl ?_
  refine sA (.nilIface) rfl ?_
  refine wend ?_
  refine retAny ?_
  refine retG (rs := [.tmp 4, .tmp 5]) (vs := [u64 (askS os x 64), .nilIface]) rfl ⟨⟨rfl, rfl⟩, ⟨rfl, rfl⟩, trivial⟩ ?_
  exact ⟨_, rfl, rfl, HL.chg⟩
set_option maxHeartbeats 1000000 in
theorem reply_ok (os : List Ot) (a0 : Option Addr) (n0 c0 : Nat) (hn0 : n0 = os.length) (hos : os.length = 64) (ask : BitVec 64) (z : List Lb) (za : Option Addr) (n2 zc : Nat) (hn2 : n2 = z.length) (hz : z.length = 64) (δ : Lb) (w : World) (hO : Rd EOt w a0 os) (hZ : Rd ELb w za z) : Calls Tryd.prog 57 [.slice a0 n0 c0, u64 ask, .slice za n2 zc, .agg (cel E64 [(δ).1, (δ).2]).toArray].toArray w (Ret fun v w' => ∃ (k1 : Option Nat) (c1 : Nat) (z1 : List Value), v = .tuple #[.slice (ownA k1) 128 c1, .nilIface] ∧ Sl ELb k1 (repS os ask z δ 64) c1 z1 ∧ Hp No w w' [(k1, sob ELb 38 (repS os ask z δ 64) z1)]) := by
 subst hn2
 subst hn0
 have H := Hp.start No w
 refine enter (n := 59) Tryd.func57 rfl rfl (bLe rfl) ?_
 refine sR ?_
 refine q_box (v := .agg (cel E64 [(δ).1, (δ).2]).toArray) (o := lO (δ)) H rfl (by rfl) ?_
 intro b1 w2 hb1 H3 hE4
 refine sA (.slice none 0 0) rfl ?_
 refine sA (.nilIface) rfl ?_
 refine wend ?_
 refine seqAny ?_
 refine sR ?_
 refine sM (.slice a0 os.length c0) rfl ?_
 refine sM (.slice za z.length zc) rfl ?_
 refine sq (r_lenS sli92 (a := za) (m := z.length) (c := zc) rfl) ?_
 refine c_call (vs := [.slice a0 os.length c0, i64 (z.length : Nat), i64 ((64 : Int))]) call95 rfl (fit_good os.length z.length 64 a0 c0 w2 (by omega) (by omega)) ?_
 rintro _ w5 ⟨rfl, hE6⟩
 have H7 := H3.ext hE6
 refine sA (.nilIface) rfl ?_
 refine wend ?_
 refine sR ?_
 refine sM (.nilIface) rfl ?_
 refine sq (r_neqNN isI27 rfl rfl) ?_
 refine wend ?_
 refine condFalse rfl ?_
 refine skipAny ?_
 refine thenNormal ?_
 refine sR ?_
 refine sA (.slice none 0 0) rfl ?_
 have H8 := H7.nil (sob ELb 38 [] [])
 refine wend ?_
 refine seqAny ?_
 refine sR ?_
 refine sM (.slice a0 os.length c0) rfl ?_
 refine sq (r_lenS sli50 (a := a0) (m := os.length) (c := c0) rfl) ?_
 refine sM (i64 ((0 : Int))) rfl ?_
 refine wend ?_
 refine blockAny ?_
 refine loopAny (σ := Nat × Option Nat × Nat × List Value) (fun (i, key, c, sp) => [(1, u64 (ask)), (2, .slice za z.length zc), (7, pT b1), (11, .slice (ownA key) (2 * i) c), (22, .slice a0 os.length c0), (23, i64 (os.length : Nat)), (24, i64 (i : Nat))]) (fun (i, key, c, sp) w' => (i ≤ os.length ∧ Sl ELb key (repS os ask z δ i) c sp) ∧ Hp No w w' [(key, sob ELb 38 (repS os ask z δ i) sp), (some b1, lO (δ))]) (fun (i, key, c, sp) => os.length - i) ((0, none, 0, [])) ?_ ?_ ?_
 ·exact ⟨rfl, rfl, rfl, rfl, rfl, rfl, rfl, trivial⟩
 ·exact ⟨⟨Nat.zero_le _, Sl.none⟩, H8⟩
 rintro ⟨i, key, c, sp⟩ ρ w9 ⟨⟨hi, hS⟩, HL⟩
 have hll := repS_len os ask z δ i
 refine sR ?_
 refine sq (r_lssI (a := (i : Nat)) (b := (os.length : Nat)) rfl rfl) ?_
 refine wend ?_
 refine seqAny ?_
 refine condProp (((i : Nat) : Int) < (os.length : Nat)) rfl (fun c25 => ?_) (fun c25 => ?_)
 ·skip
  refine skipAny ?_
  refine thenNormal ?_
  refine seqAny ?_
  refine blockAny ?_
  refine sR ?_
  refine sM (i64 (i : Nat)) rfl ?_
  refine sq (r_idxS (E := EOt) (l := os) (j := i) sli50 (hO.ext HL.chg) rfl rfl (by first | rfl | omega | (simp; omega)) (by rfl) (by omega)) ?_
  refine sq ((r_ldS (E := EOt) (l := os) (j := i) (v := (os).getD i ot0) fits41 (hO.ext HL.chg) rfl rfl (at_getD (by omega))).as (v' := .agg #[u64 (((os).getD i ot0).p), u64 (((os).getD i ot0).q), u64 (((os).getD i ot0).r), u64 (((os).getD i ot0).s), .bool (((os).getD i ot0).ch)]) rfl) ?_
  refine q_alloc (o := .cells #[u64 (0#64), u64 (0#64), u64 (0#64), u64 (0#64), .bool (false)] 41 (0, 0)) HL zer41 (by kernel_rfl) ?_
  intro b11 w12 hb11 H13 hE14
  refine sA (i64 (i : Nat)) rfl ?_
  refine d_store (k := 0) (v := .agg #[u64 (((os).getD i ot0).p), u64 (((os).getD i ot0).q), u64 (((os).getD i ot0).r), u64 (((os).getD i ot0).s), .bool (((os).getD i ot0).ch)]) (cs' := #[u64 (((os).getD i ot0).p), u64 (((os).getD i ot0).q), u64 (((os).getD i ot0).r), u64 (((os).getD i ot0).s), .bool (((os).getD i ot0).ch)]) H13 rfl rfl rfl siz41 (by rfl) (by intro u hu; simp [Value.cells] at hu; first | (subst hu; rfl) | (rcases hu with rfl | rfl | rfl | rfl | rfl <;> rfl)) (by exact bLe rfl) (by rfl) ?_
  intro w15 H16 hC17
  have H16' := H16.as (L' := [(some b11, .cells #[u64 (((os).getD i ot0).p), u64 (((os).getD i ot0).q), u64 (((os).getD i ot0).r), u64 (((os).getD i ot0).s), .bool (((os).getD i ot0).ch)] 41 (0, 0)), (key, sob ELb 38 (repS os ask z δ i) sp), (some b1, lO (δ))]) rfl
  clear H16
  refine wend ?_
  refine sR ?_
  refine sM (u64 (ask)) rfl ?_
  refine sM (i64 (i : Nat)) rfl ?_
  refine sq (r_shr64 (a := ask) (c := i) rfl rfl) ?_
  refine sq (r_and64 (a := ask >>> (i : Nat)) (b := 1#64) rfl rfl) ?_
  refine sA (u64 ((ask >>> (i : Nat)) &&& (1#64))) rfl ?_
  refine wend ?_
  by_cases hq0 : bitq ask i = 0#64
  ·skip
   refine drawE (m := 25) [0, 0, 0, 6, 14, 0, 0, 96, 224, 510, 0, 0, 3072, 7168, 0, 0, 32768, 0, 229376, 491520, 1047552, 2097150, 4194302, 8388607, 16777215] [20, 22, 23] (fun bs vs w' => match bs, vs with | [false, false, false], [_, _, _] => Hp No w w' [(some b11, .cells #[u64 (((os).getD i ot0).p), u64 (((os).getD i ot0).q), u64 (((os).getD i ot0).r), u64 (((os).getD i ot0).s), .bool (((os).getD i ot0).ch)] 41 (0, 0)), (key, sob ELb 38 (repS os ask z δ i) sp), (some b1, lO (δ))] | [true, false, false], [v20, _, _] => ∃ (b19 : Nat), v20 = .slice (ownA (some b19)) 3 3 ∧ Sl ELb (some b19) ([(z).getD i lb0, δ, (((os).getD i ot0).r, ((os).getD i ot0).s)] : List LbT) 3 ([]) ∧ Hp No w w' [((some b19), sob ELb 38 ([(z).getD i lb0, δ, (((os).getD i ot0).r, ((os).getD i ot0).s)] : List LbT) ([])), (some b11, .cells #[u64 (((os).getD i ot0).p), u64 (((os).getD i ot0).q), u64 (((os).getD i ot0).r), u64 (((os).getD i ot0).s), .bool (((os).getD i ot0).ch)] 41 (0, 0)), (key, sob ELb 38 (repS os ask z δ i) sp), (some b1, lO (δ))] | [true, true, false], [v20, v22, _] => ∃ (b19 : Nat) (b25 : Nat), v20 = .slice (ownA (some b19)) 3 3 ∧ v22 = .slice (ownA (some b25)) 2 2 ∧ Sl ELb (some b25) ([lx ((z).getD i lb0) (((os).getD i ot0).p, ((os).getD i ot0).q), lsum ([(z).getD i lb0, δ, (((os).getD i ot0).r, ((os).getD i ot0).s)] : List LbT)] : List LbT) 2 ([]) ∧ Sl ELb (some b19) ([(z).getD i lb0, δ, (((os).getD i ot0).r, ((os).getD i ot0).s)] : List LbT) 3 ([]) ∧ Hp No w w' [((some b25), sob ELb 38 ([lx ((z).getD i lb0) (((os).getD i ot0).p, ((os).getD i ot0).q), lsum ([(z).getD i lb0, δ, (((os).getD i ot0).r, ((os).getD i ot0).s)] : List LbT)] : List LbT) ([])), ((some b19), sob ELb 38 ([(z).getD i lb0, δ, (((os).getD i ot0).r, ((os).getD i ot0).s)] : List LbT) ([])), (some b11, .cells #[u64 (((os).getD i ot0).p), u64 (((os).getD i ot0).q), u64 (((os).getD i ot0).r), u64 (((os).getD i ot0).s), .bool (((os).getD i ot0).ch)] 41 (0, 0)), (key, sob ELb 38 (repS os ask z δ i) sp), (some b1, lO (δ))] | [true, true, true], [v20, v22, v23] => ∃ (b19 : Nat) (b25 : Nat) (key31 : Option Nat) (c32 : Nat) (sp33 : List Value), v20 = .slice (ownA (some b19)) 3 3 ∧ v22 = .slice (ownA (some b25)) 2 2 ∧ v23 = .slice (ownA key31) ((2 * i) + 2) c32 ∧ Sl ELb (some b25) ([lx ((z).getD i lb0) (((os).getD i ot0).p, ((os).getD i ot0).q), lsum ([(z).getD i lb0, δ, (((os).getD i ot0).r, ((os).getD i ot0).s)] : List LbT)] : List LbT) 2 ([]) ∧ Sl ELb (some b19) ([(z).getD i lb0, δ, (((os).getD i ot0).r, ((os).getD i ot0).s)] : List LbT) 3 ([]) ∧ Sl ELb key31 (repS os ask z δ (i + 1)) c32 sp33 ∧ Hp No w w' [((some b25), sob ELb 38 ([lx ((z).getD i lb0) (((os).getD i ot0).p, ((os).getD i ot0).q), lsum ([(z).getD i lb0, δ, (((os).getD i ot0).r, ((os).getD i ot0).s)] : List LbT)] : List LbT) ([])), ((some b19), sob ELb 38 ([(z).getD i lb0, δ, (((os).getD i ot0).r, ((os).getD i ot0).s)] : List LbT) ([])), (some b11, .cells #[u64 (((os).getD i ot0).p), u64 (((os).getD i ot0).q), u64 (((os).getD i ot0).r), u64 (((os).getD i ot0).s), .bool (((os).getD i ot0).ch)] 41 (0, 0)), (key31, sob ELb 38 (repS os ask z δ (i + 1)) sp33), (some b1, lO (δ))] | _, _ => False) mixed (by kernel_rfl) (by kernel_rfl) H16'.drew ?_
   refine WalkE.look rfl (fun _ => .slice (ownA key) (2 * i) c) (fun _ _ _ => rfl) (fun L r _ uw _ _ _ _ => Gives.run rfl (r_move (v := .slice (ownA key) (2 * i) c) rfl) ⟨rfl, rfl⟩) ?_
   refine WalkE.look rfl (fun _ => .slice za z.length zc) (fun _ _ _ => rfl) (fun L r _ uw _ _ _ _ => Gives.run rfl (r_move (v := .slice za z.length zc) rfl) ⟨rfl, rfl⟩) ?_
   refine WalkE.look rfl (fun _ => i64 (i : Nat)) (fun _ _ _ => rfl) (fun L r _ uw _ _ _ _ => Gives.run rfl (r_move (v := i64 (i : Nat)) rfl) ⟨rfl, rfl⟩) ?_
   refine WalkE.look rfl (fun _ => .pointer (adr za (i * 2))) (fun _ _ _ => rfl) (fun L r uw0 uw hAn hDn hF hEx => ?_) ?_
   ·skip
    have b22 := hDn 22 (by decide) rfl
    have b23 := hDn 23 (by decide) rfl
    rcases bTF (L 20) with b20 | b20
    ·skip
     have hb := mp3 b20 b22 b23
     rw [hb] at hF
     obtain ⟨b19, e20, hS20, HH⟩ := hF
     replace HH := HH.ext hEx
     exact Gives.run rfl (r_idxS (E := ELb) (l := z) (j := i) sli92 (hZ.ext HH.chg) rfl rfl (by first | rfl | omega | (simp; omega)) (by rfl) (by omega)) ⟨rfl, rfl⟩
    ·skip
     have hb := mp3 b20 b22 b23
     rw [hb] at hF
     have HH := hF
     replace HH := HH.ext hEx
     exact Gives.run rfl (r_idxS (E := ELb) (l := z) (j := i) sli92 (hZ.ext HH.chg) rfl rfl (by first | rfl | omega | (simp; omega)) (by rfl) (by omega)) ⟨rfl, rfl⟩
   refine WalkE.look rfl (fun _ => .agg (cel E64 [((z).getD i lb0).1, ((z).getD i lb0).2]).toArray) (fun _ _ _ => rfl) (fun L r uw0 uw hAn hDn hF hEx => ?_) ?_
   ·skip
    have b22 := hDn 22 (by decide) rfl
    have b23 := hDn 23 (by decide) rfl
    rcases bTF (L 20) with b20 | b20
    ·skip
     have hb := mp3 b20 b22 b23
     rw [hb] at hF
     obtain ⟨b19, e20, hS20, HH⟩ := hF
     replace HH := HH.ext hEx
     exact Gives.run rfl ((r_ldS (E := ELb) (l := z) (j := i) (v := (z).getD i lb0) fits38 (hZ.ext HH.chg) rfl rfl (at_getD (by omega))).as (v' := .agg (cel E64 [((z).getD i lb0).1, ((z).getD i lb0).2]).toArray) rfl) ⟨rfl, rfl⟩
    ·skip
     have hb := mp3 b20 b22 b23
     rw [hb] at hF
     have HH := hF
     replace HH := HH.ext hEx
     exact Gives.run rfl ((r_ldS (E := ELb) (l := z) (j := i) (v := (z).getD i lb0) fits38 (hZ.ext HH.chg) rfl rfl (at_getD (by omega))).as (v' := .agg (cel E64 [((z).getD i lb0).1, ((z).getD i lb0).2]).toArray) rfl) ⟨rfl, rfl⟩
   refine WalkE.look rfl (fun _ => u64 (0#64)) (fun _ _ _ => rfl) (fun L r _ uw _ _ _ _ => Gives.run rfl ((r_move (v := u64 ((ask >>> (i : Nat)) &&& (1#64))) rfl).as (v' := u64 (0#64)) (by exact congrArg u64 hq0)) ⟨rfl, rfl⟩) ?_
   refine WalkE.look rfl (fun _ => pT b11) (fun _ _ _ => rfl) (fun L r _ uw _ _ _ _ => Gives.run rfl (r_fieldAddr (off' := 0) fld41_0 (by decide) (b := b11) (off := 0) rfl (by omega)) ⟨rfl, rfl⟩) ?_
   refine WalkE.look rfl (fun _ => pT b11) (fun _ _ _ => rfl) (fun L r _ uw _ _ _ _ => Gives.run rfl (r_indexA (off' := 0) (j := 0) arr39 (b := b11) (off := 0) rfl rfl (by first | rfl | omega | (simp; omega)) (by omega) (by omega)) ⟨rfl, rfl⟩) ?_
   refine WalkE.look rfl (fun _ => .agg (cel E64 [((os).getD i ot0).p, ((os).getD i ot0).q]).toArray) (fun _ _ _ => rfl) (fun L r uw0 uw hAn hDn hF hEx => ?_) ?_
   ·skip
    have b22 := hDn 22 (by decide) rfl
    have b23 := hDn 23 (by decide) rfl
    rcases bTF (L 20) with b20 | b20
    ·skip
     have hb := mp3 b20 b22 b23
     rw [hb] at hF
     obtain ⟨b19, e20, hS20, HH⟩ := hF
     replace HH := HH.ext hEx
     exact Gives.run rfl (r_loadA (cs' := (cel E64 [((os).getD i ot0).p, ((os).getD i ot0).q]).toArray) agg38 siz38 (HH.get (k := 1) rfl) (off := 0) rfl (by exact bLe rfl) (by rfl)) ⟨rfl, rfl⟩
    ·skip
     have hb := mp3 b20 b22 b23
     rw [hb] at hF
     have HH := hF
     replace HH := HH.ext hEx
     exact Gives.run rfl (r_loadA (cs' := (cel E64 [((os).getD i ot0).p, ((os).getD i ot0).q]).toArray) agg38 siz38 (HH.get (k := 0) rfl) (off := 0) rfl (by exact bLe rfl) (by rfl)) ⟨rfl, rfl⟩
   refine WalkE.call rfl (fun _ => .agg (cel E64 [(lx ((z).getD i lb0) (((os).getD i ot0).p, ((os).getD i ot0).q)).1, (lx ((z).getD i lb0) (((os).getD i ot0).p, ((os).getD i ot0).q)).2]).toArray) (fun _ _ _ => rfl) (fun L r uw0 uw hAn hDn hF hEx => ?_) ?_
   ·skip
    have b22 := hDn 22 (by decide) rfl
    have b23 := hDn 23 (by decide) rfl
    rcases bTF (L 20) with b20 | b20
    ·skip
     have hb := mp3 b20 b22 b23
     rw [hb] at hF
     obtain ⟨b19, e20, hS20, HH⟩ := hF
     replace HH := HH.ext hEx
     exact Gives.call rfl (Enters.callL (vs := [.agg (cel E64 [((z).getD i lb0).1, ((z).getD i lb0).2]).toArray, .agg (cel E64 [((os).getD i ot0).p, ((os).getD i ot0).q]).toArray]) call86 rfl) (lxor_ok ((z).getD i lb0) (((os).getD i ot0).p, ((os).getD i ot0).q) uw)
    ·skip
     have hb := mp3 b20 b22 b23
     rw [hb] at hF
     have HH := hF
     replace HH := HH.ext hEx
     exact Gives.call rfl (Enters.callL (vs := [.agg (cel E64 [((z).getD i lb0).1, ((z).getD i lb0).2]).toArray, .agg (cel E64 [((os).getD i ot0).p, ((os).getD i ot0).q]).toArray]) call86 rfl) (lxor_ok ((z).getD i lb0) (((os).getD i ot0).p, ((os).getD i ot0).q) uw)
   refine WalkE.look rfl (fun _ => .slice za z.length zc) (fun _ _ _ => rfl) (fun L r _ uw _ _ _ _ => Gives.run rfl (r_move (v := .slice za z.length zc) rfl) ⟨rfl, rfl⟩) ?_
   refine WalkE.look rfl (fun _ => i64 (i : Nat)) (fun _ _ _ => rfl) (fun L r _ uw _ _ _ _ => Gives.run rfl (r_move (v := i64 (i : Nat)) rfl) ⟨rfl, rfl⟩) ?_
   refine WalkE.look rfl (fun _ => .pointer (adr za (i * 2))) (fun _ _ _ => rfl) (fun L r uw0 uw hAn hDn hF hEx => ?_) ?_
   ·skip
    have b20 := hDn 20 (by decide) rfl
    have b22 := hDn 22 (by decide) rfl
    have b23 := hDn 23 (by decide) rfl
    have hb := mp3 b20 b22 b23
    rw [hb] at hF
    have HH := hF
    replace HH := HH.ext hEx
    exact Gives.run rfl (r_idxS (E := ELb) (l := z) (j := i) sli92 (hZ.ext HH.chg) rfl rfl (by first | rfl | omega | (simp; omega)) (by rfl) (by omega)) ⟨rfl, rfl⟩
   refine WalkE.look rfl (fun _ => .agg (cel E64 [((z).getD i lb0).1, ((z).getD i lb0).2]).toArray) (fun _ _ _ => rfl) (fun L r uw0 uw hAn hDn hF hEx => ?_) ?_
   ·skip
    have b20 := hDn 20 (by decide) rfl
    have b22 := hDn 22 (by decide) rfl
    have b23 := hDn 23 (by decide) rfl
    have hb := mp3 b20 b22 b23
    rw [hb] at hF
    have HH := hF
    replace HH := HH.ext hEx
    exact Gives.run rfl ((r_ldS (E := ELb) (l := z) (j := i) (v := (z).getD i lb0) fits38 (hZ.ext HH.chg) rfl rfl (at_getD (by omega))).as (v' := .agg (cel E64 [((z).getD i lb0).1, ((z).getD i lb0).2]).toArray) rfl) ⟨rfl, rfl⟩
   refine WalkE.look rfl (fun _ => lV (δ)) (fun _ _ _ => rfl) (fun L r uw0 uw hAn hDn hF hEx => ?_) ?_
   ·skip
    have b20 := hDn 20 (by decide) rfl
    have b22 := hDn 22 (by decide) rfl
    have b23 := hDn 23 (by decide) rfl
    have hb := mp3 b20 b22 b23
    rw [hb] at hF
    have HH := hF
    replace HH := HH.ext hEx
    exact Gives.run rfl (r_loadA (cs' := (cel E64 ([(δ).1, (δ).2])).toArray) agg38 siz38 (HH.get (k := 2) rfl) (off := 0) rfl (by exact bLe rfl) (by exact ext_all rfl)) ⟨rfl, rfl⟩
   refine WalkE.look rfl (fun _ => u64 (0#64)) (fun _ _ _ => rfl) (fun L r _ uw _ _ _ _ => Gives.run rfl ((r_move (v := u64 ((ask >>> (i : Nat)) &&& (1#64))) rfl).as (v' := u64 (0#64)) (by exact congrArg u64 hq0)) ⟨rfl, rfl⟩) ?_
   refine WalkE.look rfl (fun _ => u64 (1#64)) (fun _ _ _ => rfl) (fun L r _ uw _ _ _ _ => Gives.run rfl ((r_sub64 (a := 1#64) (b := 0#64) rfl rfl).as (v' := u64 (1#64)) (by exact congrArg u64 sub10)) ⟨rfl, rfl⟩) ?_
   refine WalkE.look rfl (fun _ => pT b11) (fun _ _ _ => rfl) (fun L r _ uw _ _ _ _ => Gives.run rfl (r_fieldAddr (off' := 0) fld41_0 (by decide) (b := b11) (off := 0) rfl (by omega)) ⟨rfl, rfl⟩) ?_
   refine WalkE.look rfl (fun _ => .pointer (some ⟨b11, 2, none⟩)) (fun _ _ _ => rfl) (fun L r _ uw _ _ _ _ => Gives.run rfl (r_indexA (off' := 2) (j := 1) arr39 (b := b11) (off := 0) rfl rfl (by first | rfl | omega | (simp; omega)) (by omega) (by omega)) ⟨rfl, rfl⟩) ?_
   refine WalkE.look rfl (fun _ => .agg (cel E64 [((os).getD i ot0).r, ((os).getD i ot0).s]).toArray) (fun _ _ _ => rfl) (fun L r uw0 uw hAn hDn hF hEx => ?_) ?_
   ·skip
    have b20 := hDn 20 (by decide) rfl
    have b22 := hDn 22 (by decide) rfl
    have b23 := hDn 23 (by decide) rfl
    have hb := mp3 b20 b22 b23
    rw [hb] at hF
    have HH := hF
    replace HH := HH.ext hEx
    exact Gives.run rfl (r_loadA (cs' := (cel E64 [((os).getD i ot0).r, ((os).getD i ot0).s]).toArray) agg38 siz38 (HH.get (k := 0) rfl) (off := 2) rfl (by exact bLe rfl) (by rfl)) ⟨rfl, rfl⟩
   refine WalkE.eff 0 rfl (fun L r uw0 uw hLn hAn hDn hF hEx => ?_) ?_
   ·skip
    have b20 : L 20 = false := hLn
    have b22 := hDn 22 (by decide) rfl
    have b23 := hDn 23 (by decide) rfl
    have hb := mp3 b20 b22 b23
    rw [hb] at hF ⊢
    have H41 := hF
    replace H41 := H41.ext hEx
    dsimp only
    refine Gives.ofW (d := 53) rfl rfl (fun Q' hK => ?_)
    refine q_buildSlice (E := ELb) (l := ([(z).getD i lb0, δ, (((os).getD i ot0).r, ((os).getD i ot0).s)] : List LbT)) H41 sli92 zer38 (bLe rfl) (ps := [(0, .agg (cel E64 [((z).getD i lb0).1, ((z).getD i lb0).2]).toArray), (1, lV (δ)), (2, .agg (cel E64 [((os).getD i ot0).r, ((os).getD i ot0).s]).toArray)]) rfl (by exact fillAll rfl rfl) rfl ?_
    intro b42 w44 hS43 H45 hE46
    exact hK _ _ (show ∃ (b19 : Nat), (_ : Value) = .slice (ownA (some b19)) 3 3 ∧ Sl ELb (some b19) ([(z).getD i lb0, δ, (((os).getD i ot0).r, ((os).getD i ot0).s)] : List LbT) 3 ([]) ∧ Hp No w w44 [((some b19), sob ELb 38 ([(z).getD i lb0, δ, (((os).getD i ot0).r, ((os).getD i ot0).s)] : List LbT) ([])), (some b11, .cells #[u64 (((os).getD i ot0).p), u64 (((os).getD i ot0).q), u64 (((os).getD i ot0).r), u64 (((os).getD i ot0).s), .bool (((os).getD i ot0).ch)] 41 (0, 0)), (key, sob ELb 38 (repS os ask z δ i) sp), (some b1, lO (δ))] from ⟨b42, rfl, hS43, ((((H45.pull (k := 3) rfl).pull (k := 3) rfl).pull (k := 3) rfl).pull (k := 3) rfl)⟩)
   refine WalkE.call rfl (fun _ => .agg (cel E64 [(lsum ([(z).getD i lb0, δ, (((os).getD i ot0).r, ((os).getD i ot0).s)] : List LbT)).1, (lsum ([(z).getD i lb0, δ, (((os).getD i ot0).r, ((os).getD i ot0).s)] : List LbT)).2]).toArray) (fun _ _ _ => rfl) (fun L r uw0 uw hAn hDn hF hEx => ?_) ?_
   ·skip
    have b20 := hAn 20 (by decide) rfl
    have b22 := hDn 22 (by decide) rfl
    have b23 := hDn 23 (by decide) rfl
    have hb := mp3 b20 b22 b23
    rw [hb] at hF
    obtain ⟨b19, e20, hS20, HH⟩ := hF
    replace HH := HH.ext hEx
    dsimp only
    rw [e20]
    exact Gives.call rfl (Enters.callL (vs := [.slice (ownA (some b19)) 3 3]) call88 rfl) (lsum_ok ([(z).getD i lb0, δ, (((os).getD i ot0).r, ((os).getD i ot0).s)] : List LbT) (ownA (some b19)) 3 3 (by rfl) (by simp) uw (HH.rd (k := 0) rfl hS20))
   refine WalkE.eff 1 rfl (fun L r uw0 uw hLn hAn hDn hF hEx => ?_) ?_
   ·skip
    have b20 := hAn 20 (by decide) rfl
    have b22 : L 22 = false := hLn
    have b23 := hDn 23 (by decide) rfl
    have hb := mp3 b20 b22 b23
    rw [hb] at hF ⊢
    obtain ⟨b19, e20, hS20, H47⟩ := hF
    replace H47 := H47.ext hEx
    dsimp only
    rw [e20]
    refine Gives.ofW (d := 55) rfl rfl (fun Q' hK => ?_)
    refine q_buildSlice (E := ELb) (l := ([lx ((z).getD i lb0) (((os).getD i ot0).p, ((os).getD i ot0).q), lsum ([(z).getD i lb0, δ, (((os).getD i ot0).r, ((os).getD i ot0).s)] : List LbT)] : List LbT)) H47 sli92 zer38 (bLe rfl) (ps := [(0, .agg (cel E64 [(lx ((z).getD i lb0) (((os).getD i ot0).p, ((os).getD i ot0).q)).1, (lx ((z).getD i lb0) (((os).getD i ot0).p, ((os).getD i ot0).q)).2]).toArray), (1, .agg (cel E64 [(lsum ([(z).getD i lb0, δ, (((os).getD i ot0).r, ((os).getD i ot0).s)] : List LbT)).1, (lsum ([(z).getD i lb0, δ, (((os).getD i ot0).r, ((os).getD i ot0).s)] : List LbT)).2]).toArray)]) rfl (by exact fillAll rfl rfl) rfl ?_
    intro b48 w50 hS49 H51 hE52
    exact hK _ _ (show ∃ (b19 : Nat) (b25 : Nat), r 20 = .slice (ownA (some b19)) 3 3 ∧ (_ : Value) = .slice (ownA (some b25)) 2 2 ∧ Sl ELb (some b25) ([lx ((z).getD i lb0) (((os).getD i ot0).p, ((os).getD i ot0).q), lsum ([(z).getD i lb0, δ, (((os).getD i ot0).r, ((os).getD i ot0).s)] : List LbT)] : List LbT) 2 ([]) ∧ Sl ELb (some b19) ([(z).getD i lb0, δ, (((os).getD i ot0).r, ((os).getD i ot0).s)] : List LbT) 3 ([]) ∧ Hp No w w50 [((some b25), sob ELb 38 ([lx ((z).getD i lb0) (((os).getD i ot0).p, ((os).getD i ot0).q), lsum ([(z).getD i lb0, δ, (((os).getD i ot0).r, ((os).getD i ot0).s)] : List LbT)] : List LbT) ([])), ((some b19), sob ELb 38 ([(z).getD i lb0, δ, (((os).getD i ot0).r, ((os).getD i ot0).s)] : List LbT) ([])), (some b11, .cells #[u64 (((os).getD i ot0).p), u64 (((os).getD i ot0).q), u64 (((os).getD i ot0).r), u64 (((os).getD i ot0).s), .bool (((os).getD i ot0).ch)] 41 (0, 0)), (key, sob ELb 38 (repS os ask z δ i) sp), (some b1, lO (δ))] from ⟨b19, b48, e20, rfl, hS49, hS20, (((((H51.pull (k := 4) rfl).pull (k := 4) rfl).pull (k := 4) rfl).pull (k := 4) rfl).pull (k := 4) rfl)⟩)
   refine WalkE.eff 2 rfl (fun L r uw0 uw hLn hAn hDn hF hEx => ?_) ?_
   ·skip
    have b20 := hAn 20 (by decide) rfl
    have b22 := hAn 22 (by decide) rfl
    have b23 : L 23 = false := hLn
    have hb := mp3 b20 b22 b23
    rw [hb] at hF ⊢
    obtain ⟨b19, b25, e20, e22, hS26, hS20, H53⟩ := hF
    replace H53 := H53.ext hEx
    dsimp only
    rw [e20, e22]
    refine Gives.ofW (d := 56) rfl rfl (fun Q' hK => ?_)
    refine q_append (E := ELb) (k := 3) (l := repS os ask z δ i) (l2 := ([lx ((z).getD i lb0) (((os).getD i ot0).p, ((os).getD i ot0).q), lsum ([(z).getD i lb0, δ, (((os).getD i ot0).r, ((os).getD i ot0).s)] : List LbT)] : List LbT)) H53 rfl hS sli92 zer38 rfl byt38 (H53.rd (k := 0) rfl hS26) rfl (by rw [repS_len]) rfl (by rfl) (by omega) ?_
    intro key54 c55 sp56 w58 hS57 hne60 H59
    have H59' := H59.as (L' := [((some b25), sob ELb 38 ([lx ((z).getD i lb0) (((os).getD i ot0).p, ((os).getD i ot0).q), lsum ([(z).getD i lb0, δ, (((os).getD i ot0).r, ((os).getD i ot0).s)] : List LbT)] : List LbT) ([])), ((some b19), sob ELb 38 ([(z).getD i lb0, δ, (((os).getD i ot0).r, ((os).getD i ot0).s)] : List LbT) ([])), (some b11, .cells #[u64 (((os).getD i ot0).p), u64 (((os).getD i ot0).q), u64 (((os).getD i ot0).r), u64 (((os).getD i ot0).s), .bool (((os).getD i ot0).ch)] 41 (0, 0)), (key54, sob ELb 38 ((repS os ask z δ i) ++ ([lx ((z).getD i lb0) (((os).getD i ot0).p, ((os).getD i ot0).q), lsum ([(z).getD i lb0, δ, (((os).getD i ot0).r, ((os).getD i ot0).s)] : List LbT)] : List LbT)) sp56), (some b1, lO (δ))]) rfl
    clear H59
    have e61 : (repS os ask z δ i) ++ ([lx ((z).getD i lb0) (((os).getD i ot0).p, ((os).getD i ot0).q), lsum ([(z).getD i lb0, δ, (((os).getD i ot0).r, ((os).getD i ot0).s)] : List LbT)] : List LbT) = repS os ask z δ (i + 1) := by rw [repS, hq0, sub10, oR0, oR1]
    have hS62 := hS57
    rw [e61] at hS62
    have H63 := H59'.as (L' := [((some b25), sob ELb 38 ([lx ((z).getD i lb0) (((os).getD i ot0).p, ((os).getD i ot0).q), lsum ([(z).getD i lb0, δ, (((os).getD i ot0).r, ((os).getD i ot0).s)] : List LbT)] : List LbT) ([])), ((some b19), sob ELb 38 ([(z).getD i lb0, δ, (((os).getD i ot0).r, ((os).getD i ot0).s)] : List LbT) ([])), (some b11, .cells #[u64 (((os).getD i ot0).p), u64 (((os).getD i ot0).q), u64 (((os).getD i ot0).r), u64 (((os).getD i ot0).s), .bool (((os).getD i ot0).ch)] 41 (0, 0)), (key54, sob ELb 38 (repS os ask z δ (i + 1)) sp56), (some b1, lO (δ))]) (by rw [e61])
    exact hK _ _ (show ∃ (b19 : Nat) (b25 : Nat) (key31 : Option Nat) (c32 : Nat) (sp33 : List Value), r 20 = .slice (ownA (some b19)) 3 3 ∧ r 22 = .slice (ownA (some b25)) 2 2 ∧ (_ : Value) = .slice (ownA key31) ((2 * i) + 2) c32 ∧ Sl ELb (some b25) ([lx ((z).getD i lb0) (((os).getD i ot0).p, ((os).getD i ot0).q), lsum ([(z).getD i lb0, δ, (((os).getD i ot0).r, ((os).getD i ot0).s)] : List LbT)] : List LbT) 2 ([]) ∧ Sl ELb (some b19) ([(z).getD i lb0, δ, (((os).getD i ot0).r, ((os).getD i ot0).s)] : List LbT) 3 ([]) ∧ Sl ELb key31 (repS os ask z δ (i + 1)) c32 sp33 ∧ Hp No w w58 [((some b25), sob ELb 38 ([lx ((z).getD i lb0) (((os).getD i ot0).p, ((os).getD i ot0).q), lsum ([(z).getD i lb0, δ, (((os).getD i ot0).r, ((os).getD i ot0).s)] : List LbT)] : List LbT) ([])), ((some b19), sob ELb 38 ([(z).getD i lb0, δ, (((os).getD i ot0).r, ((os).getD i ot0).s)] : List LbT) ([])), (some b11, .cells #[u64 (((os).getD i ot0).p), u64 (((os).getD i ot0).q), u64 (((os).getD i ot0).r), u64 (((os).getD i ot0).s), .bool (((os).getD i ot0).ch)] 41 (0, 0)), (key31, sob ELb 38 (repS os ask z δ (i + 1)) sp33), (some b1, lO (δ))] from ⟨b19, b25, key54, c55, sp56, e20, e22, rfl, hS26, hS20, hS62, (((((H63.pull (k := 4) rfl).pull (k := 4) rfl).pull (k := 4) rfl).pull (k := 4) rfl).pull (k := 4) rfl)⟩)
   refine WalkE.look rfl (fun r => r 23) (fun r r' h => h 23 (by decide) rfl) (fun L r _ uw _ _ _ _ => Gives.run rfl (r_assign rfl) ⟨rfl, rfl⟩) ?_
   refine WalkE.nil ?_
   intro r64 uw0 w65 hF hEx
   obtain ⟨b19, b25, key31, c32, sp33, e20, e22, e23, hS26, hS20, hS39, H66⟩ := hF
   replace H66 := H66.ext hEx
   dsimp only
   rw [e20, e22, e23]
   refine wnil ?_
   refine blockNormal ?_
   refine thenNormal ?_
   refine oneRegion ?_
   refine sq (r_addI (a := (i : Nat)) (b := (1 : Int)) rfl rfl (by omega)) ?_
   refine sM (i64 ((i : Nat) + (1 : Int))) rfl ?_
   refine wnil ?_
   refine thenNormal ?_
   exact ⟨(i + 1, key31, c32, sp33), _, rfl, ⟨rfl, rfl, rfl, rfl, rfl, rfl, rfl, trivial⟩, ⟨⟨by omega, hS39⟩, (((H66.dropk 2).dropk 1).dropk 0)⟩, by show os.length - (i + 1) < os.length - i; omega⟩
  ·skip
   refine drawE (m := 25) [0, 0, 0, 6, 14, 0, 0, 96, 224, 510, 0, 0, 3072, 7168, 0, 0, 32768, 0, 229376, 491520, 1047552, 2097150, 4194302, 8388607, 16777215] [20, 22, 23] (fun bs vs w' => match bs, vs with | [false, false, false], [_, _, _] => Hp No w w' [(some b11, .cells #[u64 (((os).getD i ot0).p), u64 (((os).getD i ot0).q), u64 (((os).getD i ot0).r), u64 (((os).getD i ot0).s), .bool (((os).getD i ot0).ch)] 41 (0, 0)), (key, sob ELb 38 (repS os ask z δ i) sp), (some b1, lO (δ))] | [true, false, false], [v20, _, _] => ∃ (b68 : Nat), v20 = .slice (ownA (some b68)) 3 3 ∧ Sl ELb (some b68) ([(z).getD i lb0, δ, (((os).getD i ot0).p, ((os).getD i ot0).q)] : List LbT) 3 ([]) ∧ Hp No w w' [((some b68), sob ELb 38 ([(z).getD i lb0, δ, (((os).getD i ot0).p, ((os).getD i ot0).q)] : List LbT) ([])), (some b11, .cells #[u64 (((os).getD i ot0).p), u64 (((os).getD i ot0).q), u64 (((os).getD i ot0).r), u64 (((os).getD i ot0).s), .bool (((os).getD i ot0).ch)] 41 (0, 0)), (key, sob ELb 38 (repS os ask z δ i) sp), (some b1, lO (δ))] | [true, true, false], [v20, v22, _] => ∃ (b68 : Nat) (b74 : Nat), v20 = .slice (ownA (some b68)) 3 3 ∧ v22 = .slice (ownA (some b74)) 2 2 ∧ Sl ELb (some b74) ([lx ((z).getD i lb0) (((os).getD i ot0).r, ((os).getD i ot0).s), lsum ([(z).getD i lb0, δ, (((os).getD i ot0).p, ((os).getD i ot0).q)] : List LbT)] : List LbT) 2 ([]) ∧ Sl ELb (some b68) ([(z).getD i lb0, δ, (((os).getD i ot0).p, ((os).getD i ot0).q)] : List LbT) 3 ([]) ∧ Hp No w w' [((some b74), sob ELb 38 ([lx ((z).getD i lb0) (((os).getD i ot0).r, ((os).getD i ot0).s), lsum ([(z).getD i lb0, δ, (((os).getD i ot0).p, ((os).getD i ot0).q)] : List LbT)] : List LbT) ([])), ((some b68), sob ELb 38 ([(z).getD i lb0, δ, (((os).getD i ot0).p, ((os).getD i ot0).q)] : List LbT) ([])), (some b11, .cells #[u64 (((os).getD i ot0).p), u64 (((os).getD i ot0).q), u64 (((os).getD i ot0).r), u64 (((os).getD i ot0).s), .bool (((os).getD i ot0).ch)] 41 (0, 0)), (key, sob ELb 38 (repS os ask z δ i) sp), (some b1, lO (δ))] | [true, true, true], [v20, v22, v23] => ∃ (b68 : Nat) (b74 : Nat) (key80 : Option Nat) (c81 : Nat) (sp82 : List Value), v20 = .slice (ownA (some b68)) 3 3 ∧ v22 = .slice (ownA (some b74)) 2 2 ∧ v23 = .slice (ownA key80) ((2 * i) + 2) c81 ∧ Sl ELb (some b74) ([lx ((z).getD i lb0) (((os).getD i ot0).r, ((os).getD i ot0).s), lsum ([(z).getD i lb0, δ, (((os).getD i ot0).p, ((os).getD i ot0).q)] : List LbT)] : List LbT) 2 ([]) ∧ Sl ELb (some b68) ([(z).getD i lb0, δ, (((os).getD i ot0).p, ((os).getD i ot0).q)] : List LbT) 3 ([]) ∧ Sl ELb key80 (repS os ask z δ (i + 1)) c81 sp82 ∧ Hp No w w' [((some b74), sob ELb 38 ([lx ((z).getD i lb0) (((os).getD i ot0).r, ((os).getD i ot0).s), lsum ([(z).getD i lb0, δ, (((os).getD i ot0).p, ((os).getD i ot0).q)] : List LbT)] : List LbT) ([])), ((some b68), sob ELb 38 ([(z).getD i lb0, δ, (((os).getD i ot0).p, ((os).getD i ot0).q)] : List LbT) ([])), (some b11, .cells #[u64 (((os).getD i ot0).p), u64 (((os).getD i ot0).q), u64 (((os).getD i ot0).r), u64 (((os).getD i ot0).s), .bool (((os).getD i ot0).ch)] 41 (0, 0)), (key80, sob ELb 38 (repS os ask z δ (i + 1)) sp82), (some b1, lO (δ))] | _, _ => False) mixed (by kernel_rfl) (by kernel_rfl) H16'.drew ?_
   refine WalkE.look rfl (fun _ => .slice (ownA key) (2 * i) c) (fun _ _ _ => rfl) (fun L r _ uw _ _ _ _ => Gives.run rfl (r_move (v := .slice (ownA key) (2 * i) c) rfl) ⟨rfl, rfl⟩) ?_
   refine WalkE.look rfl (fun _ => .slice za z.length zc) (fun _ _ _ => rfl) (fun L r _ uw _ _ _ _ => Gives.run rfl (r_move (v := .slice za z.length zc) rfl) ⟨rfl, rfl⟩) ?_
   refine WalkE.look rfl (fun _ => i64 (i : Nat)) (fun _ _ _ => rfl) (fun L r _ uw _ _ _ _ => Gives.run rfl (r_move (v := i64 (i : Nat)) rfl) ⟨rfl, rfl⟩) ?_
   refine WalkE.look rfl (fun _ => .pointer (adr za (i * 2))) (fun _ _ _ => rfl) (fun L r uw0 uw hAn hDn hF hEx => ?_) ?_
   ·skip
    have b22 := hDn 22 (by decide) rfl
    have b23 := hDn 23 (by decide) rfl
    rcases bTF (L 20) with b20 | b20
    ·skip
     have hb := mp3 b20 b22 b23
     rw [hb] at hF
     obtain ⟨b68, e20, hS69, HH⟩ := hF
     replace HH := HH.ext hEx
     exact Gives.run rfl (r_idxS (E := ELb) (l := z) (j := i) sli92 (hZ.ext HH.chg) rfl rfl (by first | rfl | omega | (simp; omega)) (by rfl) (by omega)) ⟨rfl, rfl⟩
    ·skip
     have hb := mp3 b20 b22 b23
     rw [hb] at hF
     have HH := hF
     replace HH := HH.ext hEx
     exact Gives.run rfl (r_idxS (E := ELb) (l := z) (j := i) sli92 (hZ.ext HH.chg) rfl rfl (by first | rfl | omega | (simp; omega)) (by rfl) (by omega)) ⟨rfl, rfl⟩
   refine WalkE.look rfl (fun _ => .agg (cel E64 [((z).getD i lb0).1, ((z).getD i lb0).2]).toArray) (fun _ _ _ => rfl) (fun L r uw0 uw hAn hDn hF hEx => ?_) ?_
   ·skip
    have b22 := hDn 22 (by decide) rfl
    have b23 := hDn 23 (by decide) rfl
    rcases bTF (L 20) with b20 | b20
    ·skip
     have hb := mp3 b20 b22 b23
     rw [hb] at hF
     obtain ⟨b68, e20, hS69, HH⟩ := hF
     replace HH := HH.ext hEx
     exact Gives.run rfl ((r_ldS (E := ELb) (l := z) (j := i) (v := (z).getD i lb0) fits38 (hZ.ext HH.chg) rfl rfl (at_getD (by omega))).as (v' := .agg (cel E64 [((z).getD i lb0).1, ((z).getD i lb0).2]).toArray) rfl) ⟨rfl, rfl⟩
    ·skip
     have hb := mp3 b20 b22 b23
     rw [hb] at hF
     have HH := hF
     replace HH := HH.ext hEx
     exact Gives.run rfl ((r_ldS (E := ELb) (l := z) (j := i) (v := (z).getD i lb0) fits38 (hZ.ext HH.chg) rfl rfl (at_getD (by omega))).as (v' := .agg (cel E64 [((z).getD i lb0).1, ((z).getD i lb0).2]).toArray) rfl) ⟨rfl, rfl⟩
   refine WalkE.look rfl (fun _ => u64 (1#64)) (fun _ _ _ => rfl) (fun L r _ uw _ _ _ _ => Gives.run rfl ((r_move (v := u64 ((ask >>> (i : Nat)) &&& (1#64))) rfl).as (v' := u64 (1#64)) (by exact congrArg u64 (bitq_one hq0))) ⟨rfl, rfl⟩) ?_
   refine WalkE.look rfl (fun _ => pT b11) (fun _ _ _ => rfl) (fun L r _ uw _ _ _ _ => Gives.run rfl (r_fieldAddr (off' := 0) fld41_0 (by decide) (b := b11) (off := 0) rfl (by omega)) ⟨rfl, rfl⟩) ?_
   refine WalkE.look rfl (fun _ => .pointer (some ⟨b11, 2, none⟩)) (fun _ _ _ => rfl) (fun L r _ uw _ _ _ _ => Gives.run rfl (r_indexA (off' := 2) (j := 1) arr39 (b := b11) (off := 0) rfl rfl (by first | rfl | omega | (simp; omega)) (by omega) (by omega)) ⟨rfl, rfl⟩) ?_
   refine WalkE.look rfl (fun _ => .agg (cel E64 [((os).getD i ot0).r, ((os).getD i ot0).s]).toArray) (fun _ _ _ => rfl) (fun L r uw0 uw hAn hDn hF hEx => ?_) ?_
   ·skip
    have b22 := hDn 22 (by decide) rfl
    have b23 := hDn 23 (by decide) rfl
    rcases bTF (L 20) with b20 | b20
    ·skip
     have hb := mp3 b20 b22 b23
     rw [hb] at hF
     obtain ⟨b68, e20, hS69, HH⟩ := hF
     replace HH := HH.ext hEx
     exact Gives.run rfl (r_loadA (cs' := (cel E64 [((os).getD i ot0).r, ((os).getD i ot0).s]).toArray) agg38 siz38 (HH.get (k := 1) rfl) (off := 2) rfl (by exact bLe rfl) (by rfl)) ⟨rfl, rfl⟩
    ·skip
     have hb := mp3 b20 b22 b23
     rw [hb] at hF
     have HH := hF
     replace HH := HH.ext hEx
     exact Gives.run rfl (r_loadA (cs' := (cel E64 [((os).getD i ot0).r, ((os).getD i ot0).s]).toArray) agg38 siz38 (HH.get (k := 0) rfl) (off := 2) rfl (by exact bLe rfl) (by rfl)) ⟨rfl, rfl⟩
   refine WalkE.call rfl (fun _ => .agg (cel E64 [(lx ((z).getD i lb0) (((os).getD i ot0).r, ((os).getD i ot0).s)).1, (lx ((z).getD i lb0) (((os).getD i ot0).r, ((os).getD i ot0).s)).2]).toArray) (fun _ _ _ => rfl) (fun L r uw0 uw hAn hDn hF hEx => ?_) ?_
   ·skip
    have b22 := hDn 22 (by decide) rfl
    have b23 := hDn 23 (by decide) rfl
    rcases bTF (L 20) with b20 | b20
    ·skip
     have hb := mp3 b20 b22 b23
     rw [hb] at hF
     obtain ⟨b68, e20, hS69, HH⟩ := hF
     replace HH := HH.ext hEx
     exact Gives.call rfl (Enters.callL (vs := [.agg (cel E64 [((z).getD i lb0).1, ((z).getD i lb0).2]).toArray, .agg (cel E64 [((os).getD i ot0).r, ((os).getD i ot0).s]).toArray]) call86 rfl) (lxor_ok ((z).getD i lb0) (((os).getD i ot0).r, ((os).getD i ot0).s) uw)
    ·skip
     have hb := mp3 b20 b22 b23
     rw [hb] at hF
     have HH := hF
     replace HH := HH.ext hEx
     exact Gives.call rfl (Enters.callL (vs := [.agg (cel E64 [((z).getD i lb0).1, ((z).getD i lb0).2]).toArray, .agg (cel E64 [((os).getD i ot0).r, ((os).getD i ot0).s]).toArray]) call86 rfl) (lxor_ok ((z).getD i lb0) (((os).getD i ot0).r, ((os).getD i ot0).s) uw)
   refine WalkE.look rfl (fun _ => .slice za z.length zc) (fun _ _ _ => rfl) (fun L r _ uw _ _ _ _ => Gives.run rfl (r_move (v := .slice za z.length zc) rfl) ⟨rfl, rfl⟩) ?_
   refine WalkE.look rfl (fun _ => i64 (i : Nat)) (fun _ _ _ => rfl) (fun L r _ uw _ _ _ _ => Gives.run rfl (r_move (v := i64 (i : Nat)) rfl) ⟨rfl, rfl⟩) ?_
   refine WalkE.look rfl (fun _ => .pointer (adr za (i * 2))) (fun _ _ _ => rfl) (fun L r uw0 uw hAn hDn hF hEx => ?_) ?_
   ·skip
    have b20 := hDn 20 (by decide) rfl
    have b22 := hDn 22 (by decide) rfl
    have b23 := hDn 23 (by decide) rfl
    have hb := mp3 b20 b22 b23
    rw [hb] at hF
    have HH := hF
    replace HH := HH.ext hEx
    exact Gives.run rfl (r_idxS (E := ELb) (l := z) (j := i) sli92 (hZ.ext HH.chg) rfl rfl (by first | rfl | omega | (simp; omega)) (by rfl) (by omega)) ⟨rfl, rfl⟩
   refine WalkE.look rfl (fun _ => .agg (cel E64 [((z).getD i lb0).1, ((z).getD i lb0).2]).toArray) (fun _ _ _ => rfl) (fun L r uw0 uw hAn hDn hF hEx => ?_) ?_
   ·skip
    have b20 := hDn 20 (by decide) rfl
    have b22 := hDn 22 (by decide) rfl
    have b23 := hDn 23 (by decide) rfl
    have hb := mp3 b20 b22 b23
    rw [hb] at hF
    have HH := hF
    replace HH := HH.ext hEx
    exact Gives.run rfl ((r_ldS (E := ELb) (l := z) (j := i) (v := (z).getD i lb0) fits38 (hZ.ext HH.chg) rfl rfl (at_getD (by omega))).as (v' := .agg (cel E64 [((z).getD i lb0).1, ((z).getD i lb0).2]).toArray) rfl) ⟨rfl, rfl⟩
   refine WalkE.look rfl (fun _ => lV (δ)) (fun _ _ _ => rfl) (fun L r uw0 uw hAn hDn hF hEx => ?_) ?_
   ·skip
    have b20 := hDn 20 (by decide) rfl
    have b22 := hDn 22 (by decide) rfl
    have b23 := hDn 23 (by decide) rfl
    have hb := mp3 b20 b22 b23
    rw [hb] at hF
    have HH := hF
    replace HH := HH.ext hEx
    exact Gives.run rfl (r_loadA (cs' := (cel E64 ([(δ).1, (δ).2])).toArray) agg38 siz38 (HH.get (k := 2) rfl) (off := 0) rfl (by exact bLe rfl) (by exact ext_all rfl)) ⟨rfl, rfl⟩
   refine WalkE.look rfl (fun _ => u64 (1#64)) (fun _ _ _ => rfl) (fun L r _ uw _ _ _ _ => Gives.run rfl ((r_move (v := u64 ((ask >>> (i : Nat)) &&& (1#64))) rfl).as (v' := u64 (1#64)) (by exact congrArg u64 (bitq_one hq0))) ⟨rfl, rfl⟩) ?_
   refine WalkE.look rfl (fun _ => u64 (0#64)) (fun _ _ _ => rfl) (fun L r _ uw _ _ _ _ => Gives.run rfl ((r_sub64 (a := 1#64) (b := 1#64) rfl rfl).as (v' := u64 (0#64)) (by exact congrArg u64 sub11)) ⟨rfl, rfl⟩) ?_
   refine WalkE.look rfl (fun _ => pT b11) (fun _ _ _ => rfl) (fun L r _ uw _ _ _ _ => Gives.run rfl (r_fieldAddr (off' := 0) fld41_0 (by decide) (b := b11) (off := 0) rfl (by omega)) ⟨rfl, rfl⟩) ?_
   refine WalkE.look rfl (fun _ => pT b11) (fun _ _ _ => rfl) (fun L r _ uw _ _ _ _ => Gives.run rfl (r_indexA (off' := 0) (j := 0) arr39 (b := b11) (off := 0) rfl rfl (by first | rfl | omega | (simp; omega)) (by omega) (by omega)) ⟨rfl, rfl⟩) ?_
   refine WalkE.look rfl (fun _ => .agg (cel E64 [((os).getD i ot0).p, ((os).getD i ot0).q]).toArray) (fun _ _ _ => rfl) (fun L r uw0 uw hAn hDn hF hEx => ?_) ?_
   ·skip
    have b20 := hDn 20 (by decide) rfl
    have b22 := hDn 22 (by decide) rfl
    have b23 := hDn 23 (by decide) rfl
    have hb := mp3 b20 b22 b23
    rw [hb] at hF
    have HH := hF
    replace HH := HH.ext hEx
    exact Gives.run rfl (r_loadA (cs' := (cel E64 [((os).getD i ot0).p, ((os).getD i ot0).q]).toArray) agg38 siz38 (HH.get (k := 0) rfl) (off := 0) rfl (by exact bLe rfl) (by rfl)) ⟨rfl, rfl⟩
   refine WalkE.eff 0 rfl (fun L r uw0 uw hLn hAn hDn hF hEx => ?_) ?_
   ·skip
    have b20 : L 20 = false := hLn
    have b22 := hDn 22 (by decide) rfl
    have b23 := hDn 23 (by decide) rfl
    have hb := mp3 b20 b22 b23
    rw [hb] at hF ⊢
    have H90 := hF
    replace H90 := H90.ext hEx
    dsimp only
    refine Gives.ofW (d := 53) rfl rfl (fun Q' hK => ?_)
    refine q_buildSlice (E := ELb) (l := ([(z).getD i lb0, δ, (((os).getD i ot0).p, ((os).getD i ot0).q)] : List LbT)) H90 sli92 zer38 (bLe rfl) (ps := [(0, .agg (cel E64 [((z).getD i lb0).1, ((z).getD i lb0).2]).toArray), (1, lV (δ)), (2, .agg (cel E64 [((os).getD i ot0).p, ((os).getD i ot0).q]).toArray)]) rfl (by exact fillAll rfl rfl) rfl ?_
    intro b91 w93 hS92 H94 hE95
    exact hK _ _ (show ∃ (b68 : Nat), (_ : Value) = .slice (ownA (some b68)) 3 3 ∧ Sl ELb (some b68) ([(z).getD i lb0, δ, (((os).getD i ot0).p, ((os).getD i ot0).q)] : List LbT) 3 ([]) ∧ Hp No w w93 [((some b68), sob ELb 38 ([(z).getD i lb0, δ, (((os).getD i ot0).p, ((os).getD i ot0).q)] : List LbT) ([])), (some b11, .cells #[u64 (((os).getD i ot0).p), u64 (((os).getD i ot0).q), u64 (((os).getD i ot0).r), u64 (((os).getD i ot0).s), .bool (((os).getD i ot0).ch)] 41 (0, 0)), (key, sob ELb 38 (repS os ask z δ i) sp), (some b1, lO (δ))] from ⟨b91, rfl, hS92, ((((H94.pull (k := 3) rfl).pull (k := 3) rfl).pull (k := 3) rfl).pull (k := 3) rfl)⟩)
   refine WalkE.call rfl (fun _ => .agg (cel E64 [(lsum ([(z).getD i lb0, δ, (((os).getD i ot0).p, ((os).getD i ot0).q)] : List LbT)).1, (lsum ([(z).getD i lb0, δ, (((os).getD i ot0).p, ((os).getD i ot0).q)] : List LbT)).2]).toArray) (fun _ _ _ => rfl) (fun L r uw0 uw hAn hDn hF hEx => ?_) ?_
   ·skip
    have b20 := hAn 20 (by decide) rfl
    have b22 := hDn 22 (by decide) rfl
    have b23 := hDn 23 (by decide) rfl
    have hb := mp3 b20 b22 b23
    rw [hb] at hF
    obtain ⟨b68, e20, hS69, HH⟩ := hF
    replace HH := HH.ext hEx
    dsimp only
    rw [e20]
    exact Gives.call rfl (Enters.callL (vs := [.slice (ownA (some b68)) 3 3]) call88 rfl) (lsum_ok ([(z).getD i lb0, δ, (((os).getD i ot0).p, ((os).getD i ot0).q)] : List LbT) (ownA (some b68)) 3 3 (by rfl) (by simp) uw (HH.rd (k := 0) rfl hS69))
   refine WalkE.eff 1 rfl (fun L r uw0 uw hLn hAn hDn hF hEx => ?_) ?_
   ·skip
    have b20 := hAn 20 (by decide) rfl
    have b22 : L 22 = false := hLn
    have b23 := hDn 23 (by decide) rfl
    have hb := mp3 b20 b22 b23
    rw [hb] at hF ⊢
    obtain ⟨b68, e20, hS69, H96⟩ := hF
    replace H96 := H96.ext hEx
    dsimp only
    rw [e20]
    refine Gives.ofW (d := 55) rfl rfl (fun Q' hK => ?_)
    refine q_buildSlice (E := ELb) (l := ([lx ((z).getD i lb0) (((os).getD i ot0).r, ((os).getD i ot0).s), lsum ([(z).getD i lb0, δ, (((os).getD i ot0).p, ((os).getD i ot0).q)] : List LbT)] : List LbT)) H96 sli92 zer38 (bLe rfl) (ps := [(0, .agg (cel E64 [(lx ((z).getD i lb0) (((os).getD i ot0).r, ((os).getD i ot0).s)).1, (lx ((z).getD i lb0) (((os).getD i ot0).r, ((os).getD i ot0).s)).2]).toArray), (1, .agg (cel E64 [(lsum ([(z).getD i lb0, δ, (((os).getD i ot0).p, ((os).getD i ot0).q)] : List LbT)).1, (lsum ([(z).getD i lb0, δ, (((os).getD i ot0).p, ((os).getD i ot0).q)] : List LbT)).2]).toArray)]) rfl (by exact fillAll rfl rfl) rfl ?_
    intro b97 w99 hS98 H100 hE101
    exact hK _ _ (show ∃ (b68 : Nat) (b74 : Nat), r 20 = .slice (ownA (some b68)) 3 3 ∧ (_ : Value) = .slice (ownA (some b74)) 2 2 ∧ Sl ELb (some b74) ([lx ((z).getD i lb0) (((os).getD i ot0).r, ((os).getD i ot0).s), lsum ([(z).getD i lb0, δ, (((os).getD i ot0).p, ((os).getD i ot0).q)] : List LbT)] : List LbT) 2 ([]) ∧ Sl ELb (some b68) ([(z).getD i lb0, δ, (((os).getD i ot0).p, ((os).getD i ot0).q)] : List LbT) 3 ([]) ∧ Hp No w w99 [((some b74), sob ELb 38 ([lx ((z).getD i lb0) (((os).getD i ot0).r, ((os).getD i ot0).s), lsum ([(z).getD i lb0, δ, (((os).getD i ot0).p, ((os).getD i ot0).q)] : List LbT)] : List LbT) ([])), ((some b68), sob ELb 38 ([(z).getD i lb0, δ, (((os).getD i ot0).p, ((os).getD i ot0).q)] : List LbT) ([])), (some b11, .cells #[u64 (((os).getD i ot0).p), u64 (((os).getD i ot0).q), u64 (((os).getD i ot0).r), u64 (((os).getD i ot0).s), .bool (((os).getD i ot0).ch)] 41 (0, 0)), (key, sob ELb 38 (repS os ask z δ i) sp), (some b1, lO (δ))] from ⟨b68, b97, e20, rfl, hS98, hS69, (((((H100.pull (k := 4) rfl).pull (k := 4) rfl).pull (k := 4) rfl).pull (k := 4) rfl).pull (k := 4) rfl)⟩)
   refine WalkE.eff 2 rfl (fun L r uw0 uw hLn hAn hDn hF hEx => ?_) ?_
   ·skip
    have b20 := hAn 20 (by decide) rfl
    have b22 := hAn 22 (by decide) rfl
    have b23 : L 23 = false := hLn
    have hb := mp3 b20 b22 b23
    rw [hb] at hF ⊢
    obtain ⟨b68, b74, e20, e22, hS75, hS69, H102⟩ := hF
    replace H102 := H102.ext hEx
    dsimp only
    rw [e20, e22]
    refine Gives.ofW (d := 56) rfl rfl (fun Q' hK => ?_)
    refine q_append (E := ELb) (k := 3) (l := repS os ask z δ i) (l2 := ([lx ((z).getD i lb0) (((os).getD i ot0).r, ((os).getD i ot0).s), lsum ([(z).getD i lb0, δ, (((os).getD i ot0).p, ((os).getD i ot0).q)] : List LbT)] : List LbT)) H102 rfl hS sli92 zer38 rfl byt38 (H102.rd (k := 0) rfl hS75) rfl (by rw [repS_len]) rfl (by rfl) (by omega) ?_
    intro key103 c104 sp105 w107 hS106 hne109 H108
    have H108' := H108.as (L' := [((some b74), sob ELb 38 ([lx ((z).getD i lb0) (((os).getD i ot0).r, ((os).getD i ot0).s), lsum ([(z).getD i lb0, δ, (((os).getD i ot0).p, ((os).getD i ot0).q)] : List LbT)] : List LbT) ([])), ((some b68), sob ELb 38 ([(z).getD i lb0, δ, (((os).getD i ot0).p, ((os).getD i ot0).q)] : List LbT) ([])), (some b11, .cells #[u64 (((os).getD i ot0).p), u64 (((os).getD i ot0).q), u64 (((os).getD i ot0).r), u64 (((os).getD i ot0).s), .bool (((os).getD i ot0).ch)] 41 (0, 0)), (key103, sob ELb 38 ((repS os ask z δ i) ++ ([lx ((z).getD i lb0) (((os).getD i ot0).r, ((os).getD i ot0).s), lsum ([(z).getD i lb0, δ, (((os).getD i ot0).p, ((os).getD i ot0).q)] : List LbT)] : List LbT)) sp105), (some b1, lO (δ))]) rfl
    clear H108
    have e110 : (repS os ask z δ i) ++ ([lx ((z).getD i lb0) (((os).getD i ot0).r, ((os).getD i ot0).s), lsum ([(z).getD i lb0, δ, (((os).getD i ot0).p, ((os).getD i ot0).q)] : List LbT)] : List LbT) = repS os ask z δ (i + 1) := by rw [repS, bitq_one hq0, sub11, oR0, oR1]
    have hS111 := hS106
    rw [e110] at hS111
    have H112 := H108'.as (L' := [((some b74), sob ELb 38 ([lx ((z).getD i lb0) (((os).getD i ot0).r, ((os).getD i ot0).s), lsum ([(z).getD i lb0, δ, (((os).getD i ot0).p, ((os).getD i ot0).q)] : List LbT)] : List LbT) ([])), ((some b68), sob ELb 38 ([(z).getD i lb0, δ, (((os).getD i ot0).p, ((os).getD i ot0).q)] : List LbT) ([])), (some b11, .cells #[u64 (((os).getD i ot0).p), u64 (((os).getD i ot0).q), u64 (((os).getD i ot0).r), u64 (((os).getD i ot0).s), .bool (((os).getD i ot0).ch)] 41 (0, 0)), (key103, sob ELb 38 (repS os ask z δ (i + 1)) sp105), (some b1, lO (δ))]) (by rw [e110])
    exact hK _ _ (show ∃ (b68 : Nat) (b74 : Nat) (key80 : Option Nat) (c81 : Nat) (sp82 : List Value), r 20 = .slice (ownA (some b68)) 3 3 ∧ r 22 = .slice (ownA (some b74)) 2 2 ∧ (_ : Value) = .slice (ownA key80) ((2 * i) + 2) c81 ∧ Sl ELb (some b74) ([lx ((z).getD i lb0) (((os).getD i ot0).r, ((os).getD i ot0).s), lsum ([(z).getD i lb0, δ, (((os).getD i ot0).p, ((os).getD i ot0).q)] : List LbT)] : List LbT) 2 ([]) ∧ Sl ELb (some b68) ([(z).getD i lb0, δ, (((os).getD i ot0).p, ((os).getD i ot0).q)] : List LbT) 3 ([]) ∧ Sl ELb key80 (repS os ask z δ (i + 1)) c81 sp82 ∧ Hp No w w107 [((some b74), sob ELb 38 ([lx ((z).getD i lb0) (((os).getD i ot0).r, ((os).getD i ot0).s), lsum ([(z).getD i lb0, δ, (((os).getD i ot0).p, ((os).getD i ot0).q)] : List LbT)] : List LbT) ([])), ((some b68), sob ELb 38 ([(z).getD i lb0, δ, (((os).getD i ot0).p, ((os).getD i ot0).q)] : List LbT) ([])), (some b11, .cells #[u64 (((os).getD i ot0).p), u64 (((os).getD i ot0).q), u64 (((os).getD i ot0).r), u64 (((os).getD i ot0).s), .bool (((os).getD i ot0).ch)] 41 (0, 0)), (key80, sob ELb 38 (repS os ask z δ (i + 1)) sp82), (some b1, lO (δ))] from ⟨b68, b74, key103, c104, sp105, e20, e22, rfl, hS75, hS69, hS111, (((((H112.pull (k := 4) rfl).pull (k := 4) rfl).pull (k := 4) rfl).pull (k := 4) rfl).pull (k := 4) rfl)⟩)
   refine WalkE.look rfl (fun r => r 23) (fun r r' h => h 23 (by decide) rfl) (fun L r _ uw _ _ _ _ => Gives.run rfl (r_assign rfl) ⟨rfl, rfl⟩) ?_
   refine WalkE.nil ?_
   intro r113 uw0 w114 hF hEx
   obtain ⟨b68, b74, key80, c81, sp82, e20, e22, e23, hS75, hS69, hS88, H115⟩ := hF
   replace H115 := H115.ext hEx
   dsimp only
   rw [e20, e22, e23]
   refine wnil ?_
   refine blockNormal ?_
   refine thenNormal ?_
   refine oneRegion ?_
   refine sq (r_addI (a := (i : Nat)) (b := (1 : Int)) rfl rfl (by omega)) ?_
   refine sM (i64 ((i : Nat) + (1 : Int))) rfl ?_
   refine wnil ?_
   refine thenNormal ?_
   exact ⟨(i + 1, key80, c81, sp82), _, rfl, ⟨rfl, rfl, rfl, rfl, rfl, rfl, rfl, trivial⟩, ⟨⟨by omega, hS88⟩, (((H115.dropk 2).dropk 1).dropk 0)⟩, by show os.length - (i + 1) < os.length - i; omega⟩
 ·skip
  have hie : i = 64 := by omega
  rw [hie] at HL hS
  rw [hie]
  refine exitAny ?_
  refine thenExit ?_
  refine thenExit ?_
  refine blockHere ?_
  refine thenNormal ?_
  refine sR ?_
  refine sM (.slice (ownA key) (2 * 64) c) rfl ?_
  refine sA (.slice (ownA key) (2 * 64) c) rfl ?_
  refine sA (.nilIface) rfl ?_
  refine wend ?_
  refine retAny ?_
  refine retG (rs := [.tmp 8, .tmp 9]) (vs := [.slice (ownA key) (2 * 64) c, .nilIface]) rfl ⟨⟨rfl, rfl⟩, ⟨rfl, rfl⟩, trivial⟩ ?_
  exact ⟨_, rfl, key, c, sp, rfl, hS, (HL.dropk 1)⟩
set_option maxHeartbeats 1000000 in
theorem pick_ok (os : List Ot) (a0 : Option Addr) (n0 c0 : Nat) (hn0 : n0 = os.length) (hos : os.length = 64) (x : BitVec 64) (rp : List Lb) (ra : Option Addr) (n2 rc : Nat) (hn2 : n2 = rp.length) (hr : rp.length = 128) (w : World) (hO : Rd EOt w a0 os) (hR : Rd ELb w ra rp) : Calls Tryd.prog 58 [.slice a0 n0 c0, u64 x, .slice ra n2 rc].toArray w (Ret fun v w' => ∃ (k1 : Option Nat) (c1 : Nat) (z1 : List Value), v = .tuple #[.slice (ownA k1) 64 c1, .nilIface] ∧ Sl ELb k1 (pickS os x rp 64) c1 z1 ∧ Hp No w w' [(k1, sob ELb 38 (pickS os x rp 64) z1)]) := by
 subst hn2
 subst hn0
 have H := Hp.start No w
 refine enter (n := 46) Tryd.func58 rfl rfl (bLe rfl) ?_
 refine sR ?_
 refine sA (.slice none 0 0) rfl ?_
 refine sA (.nilIface) rfl ?_
 refine wend ?_
 refine seqAny ?_
 refine sR ?_
 refine sM (.slice a0 os.length c0) rfl ?_
 refine sM (.slice ra rp.length rc) rfl ?_
 refine sq (r_lenS sli92 (a := ra) (m := rp.length) (c := rc) rfl) ?_
 refine c_call (vs := [.slice a0 os.length c0, i64 (rp.length : Nat), i64 ((128 : Int))]) call95 rfl (fit_good os.length rp.length 128 a0 c0 w (by omega) (by omega)) ?_
 rintro _ w1 ⟨rfl, hE2⟩
 have H3 := H.ext hE2
 refine sA (.nilIface) rfl ?_
 refine wend ?_
 refine sR ?_
 refine sM (.nilIface) rfl ?_
 refine sq (r_neqNN isI27 rfl rfl) ?_
 refine wend ?_
 refine condFalse rfl ?_
 refine skipAny ?_
 refine thenNormal ?_
 refine sR ?_
 refine sA (.slice none 0 0) rfl ?_
 have H4 := H3.nil (sob ELb 38 [] [])
 refine wend ?_
 refine seqAny ?_
 refine sR ?_
 refine sM (.slice a0 os.length c0) rfl ?_
 refine sq (r_lenS sli50 (a := a0) (m := os.length) (c := c0) rfl) ?_
 refine sM (i64 ((0 : Int))) rfl ?_
 refine wend ?_
 refine blockAny ?_
 refine loopAny (σ := Nat × Option Nat × Nat × List Value) (fun (i, key, c, sp) => [(1, u64 (x)), (2, .slice ra rp.length rc), (9, .slice (ownA key) i c), (19, .slice a0 os.length c0), (20, i64 (os.length : Nat)), (21, i64 (i : Nat))]) (fun (i, key, c, sp) w' => (i ≤ os.length ∧ Sl ELb key (pickS os x rp i) c sp) ∧ Hp No w w' [(key, sob ELb 38 (pickS os x rp i) sp)]) (fun (i, key, c, sp) => os.length - i) ((0, none, 0, [])) ?_ ?_ ?_
 ·exact ⟨rfl, rfl, rfl, rfl, rfl, rfl, trivial⟩
 ·exact ⟨⟨Nat.zero_le _, Sl.none⟩, H4⟩
 rintro ⟨i, key, c, sp⟩ ρ w5 ⟨⟨hi, hS⟩, HL⟩
 have hll := pickS_len os x rp i
 refine sR ?_
 refine sq (r_lssI (a := (i : Nat)) (b := (os.length : Nat)) rfl rfl) ?_
 refine wend ?_
 refine seqAny ?_
 refine condProp (((i : Nat) : Int) < (os.length : Nat)) rfl (fun c22 => ?_) (fun c22 => ?_)
 ·skip
  refine skipAny ?_
  refine thenNormal ?_
  refine seqAny ?_
  refine blockAny ?_
  refine sR ?_
  refine sM (i64 (i : Nat)) rfl ?_
  refine sq (r_idxS (E := EOt) (l := os) (j := i) sli50 (hO.ext HL.chg) rfl rfl (by first | rfl | omega | (simp; omega)) (by rfl) (by omega)) ?_
  refine sq ((r_ldS (E := EOt) (l := os) (j := i) (v := (os).getD i ot0) fits41 (hO.ext HL.chg) rfl rfl (at_getD (by omega))).as (v' := .agg #[u64 (((os).getD i ot0).p), u64 (((os).getD i ot0).q), u64 (((os).getD i ot0).r), u64 (((os).getD i ot0).s), .bool (((os).getD i ot0).ch)]) rfl) ?_
  refine q_alloc (o := .cells #[u64 (0#64), u64 (0#64), u64 (0#64), u64 (0#64), .bool (false)] 41 (0, 0)) HL zer41 (by kernel_rfl) ?_
  intro b7 w8 hb7 H9 hE10
  refine sA (i64 (i : Nat)) rfl ?_
  refine d_store (k := 0) (v := .agg #[u64 (((os).getD i ot0).p), u64 (((os).getD i ot0).q), u64 (((os).getD i ot0).r), u64 (((os).getD i ot0).s), .bool (((os).getD i ot0).ch)]) (cs' := #[u64 (((os).getD i ot0).p), u64 (((os).getD i ot0).q), u64 (((os).getD i ot0).r), u64 (((os).getD i ot0).s), .bool (((os).getD i ot0).ch)]) H9 rfl rfl rfl siz41 (by rfl) (by intro u hu; simp [Value.cells] at hu; first | (subst hu; rfl) | (rcases hu with rfl | rfl | rfl | rfl | rfl <;> rfl)) (by exact bLe rfl) (by rfl) ?_
  intro w11 H12 hC13
  have H12' := H12.as (L' := [(some b7, .cells #[u64 (((os).getD i ot0).p), u64 (((os).getD i ot0).q), u64 (((os).getD i ot0).r), u64 (((os).getD i ot0).s), .bool (((os).getD i ot0).ch)] 41 (0, 0)), (key, sob ELb 38 (pickS os x rp i) sp)]) rfl
  clear H12
  refine wend ?_
  by_cases hq0 : bitq x i = 0#64
  ·skip
   refine drawE (m := 19) [0, 0, 0, 4, 0, 0, 48, 112, 240, 508, 1022, 2046, 0, 4096, 12288, 32766, 65534, 131071, 262143] [16, 17] (fun bs vs w' => match bs, vs with | [false, false], [_, _] => Hp No w w' [(some b7, .cells #[u64 (((os).getD i ot0).p), u64 (((os).getD i ot0).q), u64 (((os).getD i ot0).r), u64 (((os).getD i ot0).s), .bool (((os).getD i ot0).ch)] 41 (0, 0)), (key, sob ELb 38 (pickS os x rp i) sp)] | [true, false], [v16, _] => ∃ (b15 : Nat), v16 = .slice (ownA (some b15)) 1 1 ∧ Sl ELb (some b15) ([lx ((rp).getD (2 * i + 0) lb0) (((os).getD i ot0).p, ((os).getD i ot0).q)] : List LbT) 1 ([]) ∧ Hp No w w' [((some b15), sob ELb 38 ([lx ((rp).getD (2 * i + 0) lb0) (((os).getD i ot0).p, ((os).getD i ot0).q)] : List LbT) ([])), (some b7, .cells #[u64 (((os).getD i ot0).p), u64 (((os).getD i ot0).q), u64 (((os).getD i ot0).r), u64 (((os).getD i ot0).s), .bool (((os).getD i ot0).ch)] 41 (0, 0)), (key, sob ELb 38 (pickS os x rp i) sp)] | [true, true], [v16, v17] => ∃ (b15 : Nat) (key21 : Option Nat) (c22 : Nat) (sp23 : List Value), v16 = .slice (ownA (some b15)) 1 1 ∧ v17 = .slice (ownA key21) (i + 1) c22 ∧ Sl ELb (some b15) ([lx ((rp).getD (2 * i + 0) lb0) (((os).getD i ot0).p, ((os).getD i ot0).q)] : List LbT) 1 ([]) ∧ Sl ELb key21 (pickS os x rp (i + 1)) c22 sp23 ∧ Hp No w w' [((some b15), sob ELb 38 ([lx ((rp).getD (2 * i + 0) lb0) (((os).getD i ot0).p, ((os).getD i ot0).q)] : List LbT) ([])), (some b7, .cells #[u64 (((os).getD i ot0).p), u64 (((os).getD i ot0).q), u64 (((os).getD i ot0).r), u64 (((os).getD i ot0).s), .bool (((os).getD i ot0).ch)] 41 (0, 0)), (key21, sob ELb 38 (pickS os x rp (i + 1)) sp23)] | _, _ => False) mixed (by kernel_rfl) (by kernel_rfl) H12'.drew ?_
   refine WalkE.look rfl (fun _ => .slice (ownA key) i c) (fun _ _ _ => rfl) (fun L r _ uw _ _ _ _ => Gives.run rfl (r_move (v := .slice (ownA key) i c) rfl) ⟨rfl, rfl⟩) ?_
   refine WalkE.look rfl (fun _ => .slice ra rp.length rc) (fun _ _ _ => rfl) (fun L r _ uw _ _ _ _ => Gives.run rfl (r_move (v := .slice ra rp.length rc) rfl) ⟨rfl, rfl⟩) ?_
   refine WalkE.look rfl (fun _ => i64 (i : Nat)) (fun _ _ _ => rfl) (fun L r _ uw _ _ _ _ => Gives.run rfl (r_move (v := i64 (i : Nat)) rfl) ⟨rfl, rfl⟩) ?_
   refine WalkE.look rfl (fun _ => i64 (((2 * i) : Nat))) (fun _ _ _ => rfl) (fun L r _ uw _ _ _ _ => Gives.run rfl ((r_mulI (a := (2 : Int)) (b := (i : Nat)) rfl rfl (by omega)).as (v' := i64 (((2 * i) : Nat))) (by exact congrArg i64 (by omega))) ⟨rfl, rfl⟩) ?_
   refine WalkE.look rfl (fun _ => u64 (x)) (fun _ _ _ => rfl) (fun L r _ uw _ _ _ _ => Gives.run rfl (r_move (v := u64 (x)) rfl) ⟨rfl, rfl⟩) ?_
   refine WalkE.look rfl (fun _ => i64 (i : Nat)) (fun _ _ _ => rfl) (fun L r _ uw _ _ _ _ => Gives.run rfl (r_move (v := i64 (i : Nat)) rfl) ⟨rfl, rfl⟩) ?_
   refine WalkE.look rfl (fun _ => u64 (x >>> (i : Nat))) (fun _ _ _ => rfl) (fun L r _ uw _ _ _ _ => Gives.run rfl (r_shr64 (a := x) (c := i) rfl rfl) ⟨rfl, rfl⟩) ?_
   refine WalkE.look rfl (fun _ => u64 (0#64)) (fun _ _ _ => rfl) (fun L r _ uw _ _ _ _ => Gives.run rfl ((r_and64 (a := x >>> (i : Nat)) (b := 1#64) rfl rfl).as (v' := u64 (0#64)) (by exact congrArg u64 hq0)) ⟨rfl, rfl⟩) ?_
   refine WalkE.look rfl (fun _ => i64 (0 : Nat)) (fun _ _ _ => rfl) (fun L r _ uw _ _ _ _ => Gives.run rfl ((r_64toI und32 und3 (a := 0#64) rfl).as (v' := i64 (0 : Nat)) (by rfl)) ⟨rfl, rfl⟩) ?_
   refine WalkE.look rfl (fun _ => i64 (((2 * i + 0) : Nat))) (fun _ _ _ => rfl) (fun L r _ uw _ _ _ _ => Gives.run rfl ((r_addI (a := ((2 * i) : Nat)) (b := (0 : Nat)) rfl rfl (by omega)).as (v' := i64 (((2 * i + 0) : Nat))) (by exact congrArg i64 (by omega))) ⟨rfl, rfl⟩) ?_
   refine WalkE.look rfl (fun _ => .pointer (adr ra ((2 * i + 0) * 2))) (fun _ _ _ => rfl) (fun L r uw0 uw hAn hDn hF hEx => ?_) ?_
   ·skip
    have b16 := hDn 16 (by decide) rfl
    have b17 := hDn 17 (by decide) rfl
    have hb := mp2 b16 b17
    rw [hb] at hF
    have HH := hF
    replace HH := HH.ext hEx
    exact Gives.run rfl (r_idxS (E := ELb) (l := rp) (j := (2 * i + 0)) sli92 (hR.ext HH.chg) rfl rfl (by first | rfl | omega | (simp; omega)) (by rfl) (by omega)) ⟨rfl, rfl⟩
   refine WalkE.look rfl (fun _ => .agg (cel E64 [((rp).getD (2 * i + 0) lb0).1, ((rp).getD (2 * i + 0) lb0).2]).toArray) (fun _ _ _ => rfl) (fun L r uw0 uw hAn hDn hF hEx => ?_) ?_
   ·skip
    have b16 := hDn 16 (by decide) rfl
    have b17 := hDn 17 (by decide) rfl
    have hb := mp2 b16 b17
    rw [hb] at hF
    have HH := hF
    replace HH := HH.ext hEx
    exact Gives.run rfl ((r_ldS (E := ELb) (l := rp) (j := (2 * i + 0)) (v := (rp).getD (2 * i + 0) lb0) fits38 (hR.ext HH.chg) rfl rfl (at_getD (by omega))).as (v' := .agg (cel E64 [((rp).getD (2 * i + 0) lb0).1, ((rp).getD (2 * i + 0) lb0).2]).toArray) rfl) ⟨rfl, rfl⟩
   refine WalkE.look rfl (fun _ => pT b7) (fun _ _ _ => rfl) (fun L r _ uw _ _ _ _ => Gives.run rfl (r_fieldAddr (off' := 0) fld41_0 (by decide) (b := b7) (off := 0) rfl (by omega)) ⟨rfl, rfl⟩) ?_
   refine WalkE.look rfl (fun _ => pT b7) (fun _ _ _ => rfl) (fun L r _ uw _ _ _ _ => Gives.run rfl (r_indexA (off' := 0) (j := 0) arr39 (b := b7) (off := 0) rfl rfl (by first | rfl | omega | (simp; omega)) (by omega) (by omega)) ⟨rfl, rfl⟩) ?_
   refine WalkE.look rfl (fun _ => .agg (cel E64 [((os).getD i ot0).p, ((os).getD i ot0).q]).toArray) (fun _ _ _ => rfl) (fun L r uw0 uw hAn hDn hF hEx => ?_) ?_
   ·skip
    have b16 := hDn 16 (by decide) rfl
    have b17 := hDn 17 (by decide) rfl
    have hb := mp2 b16 b17
    rw [hb] at hF
    have HH := hF
    replace HH := HH.ext hEx
    exact Gives.run rfl (r_loadA (cs' := (cel E64 [((os).getD i ot0).p, ((os).getD i ot0).q]).toArray) agg38 siz38 (HH.get (k := 0) rfl) (off := 0) rfl (by exact bLe rfl) (by rfl)) ⟨rfl, rfl⟩
   refine WalkE.call rfl (fun _ => .agg (cel E64 [(lx ((rp).getD (2 * i + 0) lb0) (((os).getD i ot0).p, ((os).getD i ot0).q)).1, (lx ((rp).getD (2 * i + 0) lb0) (((os).getD i ot0).p, ((os).getD i ot0).q)).2]).toArray) (fun _ _ _ => rfl) (fun L r uw0 uw hAn hDn hF hEx => ?_) ?_
   ·skip
    have b16 := hDn 16 (by decide) rfl
    have b17 := hDn 17 (by decide) rfl
    have hb := mp2 b16 b17
    rw [hb] at hF
    have HH := hF
    replace HH := HH.ext hEx
    exact Gives.call rfl (Enters.callL (vs := [.agg (cel E64 [((rp).getD (2 * i + 0) lb0).1, ((rp).getD (2 * i + 0) lb0).2]).toArray, .agg (cel E64 [((os).getD i ot0).p, ((os).getD i ot0).q]).toArray]) call86 rfl) (lxor_ok ((rp).getD (2 * i + 0) lb0) (((os).getD i ot0).p, ((os).getD i ot0).q) uw)
   refine WalkE.eff 0 rfl (fun L r uw0 uw hLn hAn hDn hF hEx => ?_) ?_
   ·skip
    have b16 : L 16 = false := hLn
    have b17 := hDn 17 (by decide) rfl
    have hb := mp2 b16 b17
    rw [hb] at hF ⊢
    have H31 := hF
    replace H31 := H31.ext hEx
    dsimp only
    refine Gives.ofW (d := 42) rfl rfl (fun Q' hK => ?_)
    refine q_buildSlice (E := ELb) (l := ([lx ((rp).getD (2 * i + 0) lb0) (((os).getD i ot0).p, ((os).getD i ot0).q)] : List LbT)) H31 sli92 zer38 (bLe rfl) (ps := [(0, .agg (cel E64 [(lx ((rp).getD (2 * i + 0) lb0) (((os).getD i ot0).p, ((os).getD i ot0).q)).1, (lx ((rp).getD (2 * i + 0) lb0) (((os).getD i ot0).p, ((os).getD i ot0).q)).2]).toArray)]) rfl (by exact fillAll rfl rfl) rfl ?_
    intro b32 w34 hS33 H35 hE36
    exact hK _ _ (show ∃ (b15 : Nat), (_ : Value) = .slice (ownA (some b15)) 1 1 ∧ Sl ELb (some b15) ([lx ((rp).getD (2 * i + 0) lb0) (((os).getD i ot0).p, ((os).getD i ot0).q)] : List LbT) 1 ([]) ∧ Hp No w w34 [((some b15), sob ELb 38 ([lx ((rp).getD (2 * i + 0) lb0) (((os).getD i ot0).p, ((os).getD i ot0).q)] : List LbT) ([])), (some b7, .cells #[u64 (((os).getD i ot0).p), u64 (((os).getD i ot0).q), u64 (((os).getD i ot0).r), u64 (((os).getD i ot0).s), .bool (((os).getD i ot0).ch)] 41 (0, 0)), (key, sob ELb 38 (pickS os x rp i) sp)] from ⟨b32, rfl, hS33, (((H35.pull (k := 2) rfl).pull (k := 2) rfl).pull (k := 2) rfl)⟩)
   refine WalkE.eff 1 rfl (fun L r uw0 uw hLn hAn hDn hF hEx => ?_) ?_
   ·skip
    have b16 := hAn 16 (by decide) rfl
    have b17 : L 17 = false := hLn
    have hb := mp2 b16 b17
    rw [hb] at hF ⊢
    obtain ⟨b15, e16, hS16, H37⟩ := hF
    replace H37 := H37.ext hEx
    dsimp only
    rw [e16]
    refine Gives.ofW (d := 43) rfl rfl (fun Q' hK => ?_)
    refine q_append (E := ELb) (k := 2) (l := pickS os x rp i) (l2 := ([lx ((rp).getD (2 * i + 0) lb0) (((os).getD i ot0).p, ((os).getD i ot0).q)] : List LbT)) H37 rfl hS sli92 zer38 rfl byt38 (H37.rd (k := 0) rfl hS16) rfl (by rw [pickS_len]) rfl (by rfl) (by omega) ?_
    intro key38 c39 sp40 w42 hS41 hne44 H43
    have H43' := H43.as (L' := [((some b15), sob ELb 38 ([lx ((rp).getD (2 * i + 0) lb0) (((os).getD i ot0).p, ((os).getD i ot0).q)] : List LbT) ([])), (some b7, .cells #[u64 (((os).getD i ot0).p), u64 (((os).getD i ot0).q), u64 (((os).getD i ot0).r), u64 (((os).getD i ot0).s), .bool (((os).getD i ot0).ch)] 41 (0, 0)), (key38, sob ELb 38 ((pickS os x rp i) ++ ([lx ((rp).getD (2 * i + 0) lb0) (((os).getD i ot0).p, ((os).getD i ot0).q)] : List LbT)) sp40)]) rfl
    clear H43
    have e45 : (pickS os x rp i) ++ ([lx ((rp).getD (2 * i + 0) lb0) (((os).getD i ot0).p, ((os).getD i ot0).q)] : List LbT) = pickS os x rp (i + 1) := by rw [pickS, hq0, oR0]; rfl
    have hS46 := hS41
    rw [e45] at hS46
    have H47 := H43'.as (L' := [((some b15), sob ELb 38 ([lx ((rp).getD (2 * i + 0) lb0) (((os).getD i ot0).p, ((os).getD i ot0).q)] : List LbT) ([])), (some b7, .cells #[u64 (((os).getD i ot0).p), u64 (((os).getD i ot0).q), u64 (((os).getD i ot0).r), u64 (((os).getD i ot0).s), .bool (((os).getD i ot0).ch)] 41 (0, 0)), (key38, sob ELb 38 (pickS os x rp (i + 1)) sp40)]) (by rw [e45])
    exact hK _ _ (show ∃ (b15 : Nat) (key21 : Option Nat) (c22 : Nat) (sp23 : List Value), r 16 = .slice (ownA (some b15)) 1 1 ∧ (_ : Value) = .slice (ownA key21) (i + 1) c22 ∧ Sl ELb (some b15) ([lx ((rp).getD (2 * i + 0) lb0) (((os).getD i ot0).p, ((os).getD i ot0).q)] : List LbT) 1 ([]) ∧ Sl ELb key21 (pickS os x rp (i + 1)) c22 sp23 ∧ Hp No w w42 [((some b15), sob ELb 38 ([lx ((rp).getD (2 * i + 0) lb0) (((os).getD i ot0).p, ((os).getD i ot0).q)] : List LbT) ([])), (some b7, .cells #[u64 (((os).getD i ot0).p), u64 (((os).getD i ot0).q), u64 (((os).getD i ot0).r), u64 (((os).getD i ot0).s), .bool (((os).getD i ot0).ch)] 41 (0, 0)), (key21, sob ELb 38 (pickS os x rp (i + 1)) sp23)] from ⟨b15, key38, c39, sp40, e16, rfl, hS16, hS46, (((H47.pull (k := 2) rfl).pull (k := 2) rfl).pull (k := 2) rfl)⟩)
   refine WalkE.look rfl (fun r => r 17) (fun r r' h => h 17 (by decide) rfl) (fun L r _ uw _ _ _ _ => Gives.run rfl (r_assign rfl) ⟨rfl, rfl⟩) ?_
   refine WalkE.nil ?_
   intro r48 uw0 w49 hF hEx
   obtain ⟨b15, key21, c22, sp23, e16, e17, hS16, hS29, H50⟩ := hF
   replace H50 := H50.ext hEx
   dsimp only
   rw [e16, e17]
   refine wnil ?_
   refine blockNormal ?_
   refine thenNormal ?_
   refine oneRegion ?_
   refine sq (r_addI (a := (i : Nat)) (b := (1 : Int)) rfl rfl (by omega)) ?_
   refine sM (i64 ((i : Nat) + (1 : Int))) rfl ?_
   refine wnil ?_
   refine thenNormal ?_
   exact ⟨(i + 1, key21, c22, sp23), _, rfl, ⟨rfl, rfl, rfl, rfl, rfl, rfl, trivial⟩, ⟨⟨by omega, hS29⟩, ((H50.dropk 1).dropk 0)⟩, by show os.length - (i + 1) < os.length - i; omega⟩
  ·skip
   refine drawE (m := 19) [0, 0, 0, 4, 0, 0, 48, 112, 240, 508, 1022, 2046, 0, 4096, 12288, 32766, 65534, 131071, 262143] [16, 17] (fun bs vs w' => match bs, vs with | [false, false], [_, _] => Hp No w w' [(some b7, .cells #[u64 (((os).getD i ot0).p), u64 (((os).getD i ot0).q), u64 (((os).getD i ot0).r), u64 (((os).getD i ot0).s), .bool (((os).getD i ot0).ch)] 41 (0, 0)), (key, sob ELb 38 (pickS os x rp i) sp)] | [true, false], [v16, _] => ∃ (b52 : Nat), v16 = .slice (ownA (some b52)) 1 1 ∧ Sl ELb (some b52) ([lx ((rp).getD (2 * i + 1) lb0) (((os).getD i ot0).p, ((os).getD i ot0).q)] : List LbT) 1 ([]) ∧ Hp No w w' [((some b52), sob ELb 38 ([lx ((rp).getD (2 * i + 1) lb0) (((os).getD i ot0).p, ((os).getD i ot0).q)] : List LbT) ([])), (some b7, .cells #[u64 (((os).getD i ot0).p), u64 (((os).getD i ot0).q), u64 (((os).getD i ot0).r), u64 (((os).getD i ot0).s), .bool (((os).getD i ot0).ch)] 41 (0, 0)), (key, sob ELb 38 (pickS os x rp i) sp)] | [true, true], [v16, v17] => ∃ (b52 : Nat) (key58 : Option Nat) (c59 : Nat) (sp60 : List Value), v16 = .slice (ownA (some b52)) 1 1 ∧ v17 = .slice (ownA key58) (i + 1) c59 ∧ Sl ELb (some b52) ([lx ((rp).getD (2 * i + 1) lb0) (((os).getD i ot0).p, ((os).getD i ot0).q)] : List LbT) 1 ([]) ∧ Sl ELb key58 (pickS os x rp (i + 1)) c59 sp60 ∧ Hp No w w' [((some b52), sob ELb 38 ([lx ((rp).getD (2 * i + 1) lb0) (((os).getD i ot0).p, ((os).getD i ot0).q)] : List LbT) ([])), (some b7, .cells #[u64 (((os).getD i ot0).p), u64 (((os).getD i ot0).q), u64 (((os).getD i ot0).r), u64 (((os).getD i ot0).s), .bool (((os).getD i ot0).ch)] 41 (0, 0)), (key58, sob ELb 38 (pickS os x rp (i + 1)) sp60)] | _, _ => False) mixed (by kernel_rfl) (by kernel_rfl) H12'.drew ?_
   refine WalkE.look rfl (fun _ => .slice (ownA key) i c) (fun _ _ _ => rfl) (fun L r _ uw _ _ _ _ => Gives.run rfl (r_move (v := .slice (ownA key) i c) rfl) ⟨rfl, rfl⟩) ?_
   refine WalkE.look rfl (fun _ => .slice ra rp.length rc) (fun _ _ _ => rfl) (fun L r _ uw _ _ _ _ => Gives.run rfl (r_move (v := .slice ra rp.length rc) rfl) ⟨rfl, rfl⟩) ?_
   refine WalkE.look rfl (fun _ => i64 (i : Nat)) (fun _ _ _ => rfl) (fun L r _ uw _ _ _ _ => Gives.run rfl (r_move (v := i64 (i : Nat)) rfl) ⟨rfl, rfl⟩) ?_
   refine WalkE.look rfl (fun _ => i64 (((2 * i) : Nat))) (fun _ _ _ => rfl) (fun L r _ uw _ _ _ _ => Gives.run rfl ((r_mulI (a := (2 : Int)) (b := (i : Nat)) rfl rfl (by omega)).as (v' := i64 (((2 * i) : Nat))) (by exact congrArg i64 (by omega))) ⟨rfl, rfl⟩) ?_
   refine WalkE.look rfl (fun _ => u64 (x)) (fun _ _ _ => rfl) (fun L r _ uw _ _ _ _ => Gives.run rfl (r_move (v := u64 (x)) rfl) ⟨rfl, rfl⟩) ?_
   refine WalkE.look rfl (fun _ => i64 (i : Nat)) (fun _ _ _ => rfl) (fun L r _ uw _ _ _ _ => Gives.run rfl (r_move (v := i64 (i : Nat)) rfl) ⟨rfl, rfl⟩) ?_
   refine WalkE.look rfl (fun _ => u64 (x >>> (i : Nat))) (fun _ _ _ => rfl) (fun L r _ uw _ _ _ _ => Gives.run rfl (r_shr64 (a := x) (c := i) rfl rfl) ⟨rfl, rfl⟩) ?_
   refine WalkE.look rfl (fun _ => u64 (1#64)) (fun _ _ _ => rfl) (fun L r _ uw _ _ _ _ => Gives.run rfl ((r_and64 (a := x >>> (i : Nat)) (b := 1#64) rfl rfl).as (v' := u64 (1#64)) (by exact congrArg u64 (bitq_one hq0))) ⟨rfl, rfl⟩) ?_
   refine WalkE.look rfl (fun _ => i64 (1 : Nat)) (fun _ _ _ => rfl) (fun L r _ uw _ _ _ _ => Gives.run rfl ((r_64toI und32 und3 (a := 1#64) rfl).as (v' := i64 (1 : Nat)) (by rfl)) ⟨rfl, rfl⟩) ?_
   refine WalkE.look rfl (fun _ => i64 (((2 * i + 1) : Nat))) (fun _ _ _ => rfl) (fun L r _ uw _ _ _ _ => Gives.run rfl ((r_addI (a := ((2 * i) : Nat)) (b := (1 : Nat)) rfl rfl (by omega)).as (v' := i64 (((2 * i + 1) : Nat))) (by exact congrArg i64 (by omega))) ⟨rfl, rfl⟩) ?_
   refine WalkE.look rfl (fun _ => .pointer (adr ra ((2 * i + 1) * 2))) (fun _ _ _ => rfl) (fun L r uw0 uw hAn hDn hF hEx => ?_) ?_
   ·skip
    have b16 := hDn 16 (by decide) rfl
    have b17 := hDn 17 (by decide) rfl
    have hb := mp2 b16 b17
    rw [hb] at hF
    have HH := hF
    replace HH := HH.ext hEx
    exact Gives.run rfl (r_idxS (E := ELb) (l := rp) (j := (2 * i + 1)) sli92 (hR.ext HH.chg) rfl rfl (by first | rfl | omega | (simp; omega)) (by rfl) (by omega)) ⟨rfl, rfl⟩
   refine WalkE.look rfl (fun _ => .agg (cel E64 [((rp).getD (2 * i + 1) lb0).1, ((rp).getD (2 * i + 1) lb0).2]).toArray) (fun _ _ _ => rfl) (fun L r uw0 uw hAn hDn hF hEx => ?_) ?_
   ·skip
    have b16 := hDn 16 (by decide) rfl
    have b17 := hDn 17 (by decide) rfl
    have hb := mp2 b16 b17
    rw [hb] at hF
    have HH := hF
    replace HH := HH.ext hEx
    exact Gives.run rfl ((r_ldS (E := ELb) (l := rp) (j := (2 * i + 1)) (v := (rp).getD (2 * i + 1) lb0) fits38 (hR.ext HH.chg) rfl rfl (at_getD (by omega))).as (v' := .agg (cel E64 [((rp).getD (2 * i + 1) lb0).1, ((rp).getD (2 * i + 1) lb0).2]).toArray) rfl) ⟨rfl, rfl⟩
   refine WalkE.look rfl (fun _ => pT b7) (fun _ _ _ => rfl) (fun L r _ uw _ _ _ _ => Gives.run rfl (r_fieldAddr (off' := 0) fld41_0 (by decide) (b := b7) (off := 0) rfl (by omega)) ⟨rfl, rfl⟩) ?_
   refine WalkE.look rfl (fun _ => pT b7) (fun _ _ _ => rfl) (fun L r _ uw _ _ _ _ => Gives.run rfl (r_indexA (off' := 0) (j := 0) arr39 (b := b7) (off := 0) rfl rfl (by first | rfl | omega | (simp; omega)) (by omega) (by omega)) ⟨rfl, rfl⟩) ?_
   refine WalkE.look rfl (fun _ => .agg (cel E64 [((os).getD i ot0).p, ((os).getD i ot0).q]).toArray) (fun _ _ _ => rfl) (fun L r uw0 uw hAn hDn hF hEx => ?_) ?_
   ·skip
    have b16 := hDn 16 (by decide) rfl
    have b17 := hDn 17 (by decide) rfl
    have hb := mp2 b16 b17
    rw [hb] at hF
    have HH := hF
    replace HH := HH.ext hEx
    exact Gives.run rfl (r_loadA (cs' := (cel E64 [((os).getD i ot0).p, ((os).getD i ot0).q]).toArray) agg38 siz38 (HH.get (k := 0) rfl) (off := 0) rfl (by exact bLe rfl) (by rfl)) ⟨rfl, rfl⟩
   refine WalkE.call rfl (fun _ => .agg (cel E64 [(lx ((rp).getD (2 * i + 1) lb0) (((os).getD i ot0).p, ((os).getD i ot0).q)).1, (lx ((rp).getD (2 * i + 1) lb0) (((os).getD i ot0).p, ((os).getD i ot0).q)).2]).toArray) (fun _ _ _ => rfl) (fun L r uw0 uw hAn hDn hF hEx => ?_) ?_
   ·skip
    have b16 := hDn 16 (by decide) rfl
    have b17 := hDn 17 (by decide) rfl
    have hb := mp2 b16 b17
    rw [hb] at hF
    have HH := hF
    replace HH := HH.ext hEx
    exact Gives.call rfl (Enters.callL (vs := [.agg (cel E64 [((rp).getD (2 * i + 1) lb0).1, ((rp).getD (2 * i + 1) lb0).2]).toArray, .agg (cel E64 [((os).getD i ot0).p, ((os).getD i ot0).q]).toArray]) call86 rfl) (lxor_ok ((rp).getD (2 * i + 1) lb0) (((os).getD i ot0).p, ((os).getD i ot0).q) uw)
   refine WalkE.eff 0 rfl (fun L r uw0 uw hLn hAn hDn hF hEx => ?_) ?_
   ·skip
    have b16 : L 16 = false := hLn
    have b17 := hDn 17 (by decide) rfl
    have hb := mp2 b16 b17
    rw [hb] at hF ⊢
    have H68 := hF
    replace H68 := H68.ext hEx
    dsimp only
    refine Gives.ofW (d := 42) rfl rfl (fun Q' hK => ?_)
    refine q_buildSlice (E := ELb) (l := ([lx ((rp).getD (2 * i + 1) lb0) (((os).getD i ot0).p, ((os).getD i ot0).q)] : List LbT)) H68 sli92 zer38 (bLe rfl) (ps := [(0, .agg (cel E64 [(lx ((rp).getD (2 * i + 1) lb0) (((os).getD i ot0).p, ((os).getD i ot0).q)).1, (lx ((rp).getD (2 * i + 1) lb0) (((os).getD i ot0).p, ((os).getD i ot0).q)).2]).toArray)]) rfl (by exact fillAll rfl rfl) rfl ?_
    intro b69 w71 hS70 H72 hE73
    exact hK _ _ (show ∃ (b52 : Nat), (_ : Value) = .slice (ownA (some b52)) 1 1 ∧ Sl ELb (some b52) ([lx ((rp).getD (2 * i + 1) lb0) (((os).getD i ot0).p, ((os).getD i ot0).q)] : List LbT) 1 ([]) ∧ Hp No w w71 [((some b52), sob ELb 38 ([lx ((rp).getD (2 * i + 1) lb0) (((os).getD i ot0).p, ((os).getD i ot0).q)] : List LbT) ([])), (some b7, .cells #[u64 (((os).getD i ot0).p), u64 (((os).getD i ot0).q), u64 (((os).getD i ot0).r), u64 (((os).getD i ot0).s), .bool (((os).getD i ot0).ch)] 41 (0, 0)), (key, sob ELb 38 (pickS os x rp i) sp)] from ⟨b69, rfl, hS70, (((H72.pull (k := 2) rfl).pull (k := 2) rfl).pull (k := 2) rfl)⟩)
   refine WalkE.eff 1 rfl (fun L r uw0 uw hLn hAn hDn hF hEx => ?_) ?_
   ·skip
    have b16 := hAn 16 (by decide) rfl
    have b17 : L 17 = false := hLn
    have hb := mp2 b16 b17
    rw [hb] at hF ⊢
    obtain ⟨b52, e16, hS53, H74⟩ := hF
    replace H74 := H74.ext hEx
    dsimp only
    rw [e16]
    refine Gives.ofW (d := 43) rfl rfl (fun Q' hK => ?_)
    refine q_append (E := ELb) (k := 2) (l := pickS os x rp i) (l2 := ([lx ((rp).getD (2 * i + 1) lb0) (((os).getD i ot0).p, ((os).getD i ot0).q)] : List LbT)) H74 rfl hS sli92 zer38 rfl byt38 (H74.rd (k := 0) rfl hS53) rfl (by rw [pickS_len]) rfl (by rfl) (by omega) ?_
    intro key75 c76 sp77 w79 hS78 hne81 H80
    have H80' := H80.as (L' := [((some b52), sob ELb 38 ([lx ((rp).getD (2 * i + 1) lb0) (((os).getD i ot0).p, ((os).getD i ot0).q)] : List LbT) ([])), (some b7, .cells #[u64 (((os).getD i ot0).p), u64 (((os).getD i ot0).q), u64 (((os).getD i ot0).r), u64 (((os).getD i ot0).s), .bool (((os).getD i ot0).ch)] 41 (0, 0)), (key75, sob ELb 38 ((pickS os x rp i) ++ ([lx ((rp).getD (2 * i + 1) lb0) (((os).getD i ot0).p, ((os).getD i ot0).q)] : List LbT)) sp77)]) rfl
    clear H80
    have e82 : (pickS os x rp i) ++ ([lx ((rp).getD (2 * i + 1) lb0) (((os).getD i ot0).p, ((os).getD i ot0).q)] : List LbT) = pickS os x rp (i + 1) := by rw [pickS, bitq_one hq0, oR0]; rfl
    have hS83 := hS78
    rw [e82] at hS83
    have H84 := H80'.as (L' := [((some b52), sob ELb 38 ([lx ((rp).getD (2 * i + 1) lb0) (((os).getD i ot0).p, ((os).getD i ot0).q)] : List LbT) ([])), (some b7, .cells #[u64 (((os).getD i ot0).p), u64 (((os).getD i ot0).q), u64 (((os).getD i ot0).r), u64 (((os).getD i ot0).s), .bool (((os).getD i ot0).ch)] 41 (0, 0)), (key75, sob ELb 38 (pickS os x rp (i + 1)) sp77)]) (by rw [e82])
    exact hK _ _ (show ∃ (b52 : Nat) (key58 : Option Nat) (c59 : Nat) (sp60 : List Value), r 16 = .slice (ownA (some b52)) 1 1 ∧ (_ : Value) = .slice (ownA key58) (i + 1) c59 ∧ Sl ELb (some b52) ([lx ((rp).getD (2 * i + 1) lb0) (((os).getD i ot0).p, ((os).getD i ot0).q)] : List LbT) 1 ([]) ∧ Sl ELb key58 (pickS os x rp (i + 1)) c59 sp60 ∧ Hp No w w79 [((some b52), sob ELb 38 ([lx ((rp).getD (2 * i + 1) lb0) (((os).getD i ot0).p, ((os).getD i ot0).q)] : List LbT) ([])), (some b7, .cells #[u64 (((os).getD i ot0).p), u64 (((os).getD i ot0).q), u64 (((os).getD i ot0).r), u64 (((os).getD i ot0).s), .bool (((os).getD i ot0).ch)] 41 (0, 0)), (key58, sob ELb 38 (pickS os x rp (i + 1)) sp60)] from ⟨b52, key75, c76, sp77, e16, rfl, hS53, hS83, (((H84.pull (k := 2) rfl).pull (k := 2) rfl).pull (k := 2) rfl)⟩)
   refine WalkE.look rfl (fun r => r 17) (fun r r' h => h 17 (by decide) rfl) (fun L r _ uw _ _ _ _ => Gives.run rfl (r_assign rfl) ⟨rfl, rfl⟩) ?_
   refine WalkE.nil ?_
   intro r85 uw0 w86 hF hEx
   obtain ⟨b52, key58, c59, sp60, e16, e17, hS53, hS66, H87⟩ := hF
   replace H87 := H87.ext hEx
   dsimp only
   rw [e16, e17]
   refine wnil ?_
   refine blockNormal ?_
   refine thenNormal ?_
   refine oneRegion ?_
   refine sq (r_addI (a := (i : Nat)) (b := (1 : Int)) rfl rfl (by omega)) ?_
   refine sM (i64 ((i : Nat) + (1 : Int))) rfl ?_
   refine wnil ?_
   refine thenNormal ?_
   exact ⟨(i + 1, key58, c59, sp60), _, rfl, ⟨rfl, rfl, rfl, rfl, rfl, rfl, trivial⟩, ⟨⟨by omega, hS66⟩, ((H87.dropk 1).dropk 0)⟩, by show os.length - (i + 1) < os.length - i; omega⟩
 ·skip
  have hie : i = 64 := by omega
  rw [hie] at HL hS
  rw [hie]
  refine exitAny ?_
  refine thenExit ?_
  refine thenExit ?_
  refine blockHere ?_
  refine thenNormal ?_
  refine sR ?_
  refine sM (.slice (ownA key) 64 c) rfl ?_
  refine sA (.slice (ownA key) 64 c) rfl ?_
  refine sA (.nilIface) rfl ?_
  refine wend ?_
  refine retAny ?_
  refine retG (rs := [.tmp 6, .tmp 7]) (vs := [.slice (ownA key) 64 c, .nilIface]) rfl ⟨⟨rfl, rfl⟩, ⟨rfl, rfl⟩, trivial⟩ ?_
  exact ⟨_, rfl, key, c, sp, rfl, hS, HL⟩
set_option maxHeartbeats 1000000 in
theorem rreply_ok (os : List Ot) (a0 : Option Addr) (n0 c0 : Nat) (hn0 : n0 = os.length) (hos : os.length = 64) (ask : BitVec 64) (z : List Lb) (za : Option Addr) (n2 zc : Nat) (hn2 : n2 = z.length) (hz : z.length = 64) (δ : Lb) (w : World) (hO : Rd EOt w a0 os) (hZ : Rd ELb w za z) : Calls Tryd.prog 59 [.slice a0 n0 c0, u64 ask, .slice za n2 zc, .agg (cel E64 [(δ).1, (δ).2]).toArray].toArray w (Ret fun v w' => SlRes ELb 38 (repS os ask z δ 64) w v w' ∧ Ext w w') := by
 subst hn2
 subst hn0
 have H := Hp.start No w
 refine enter (n := 52) Tryd.func59 rfl rfl (bLe rfl) ?_
 refine sR ?_
 refine q_box (v := .agg (cel E64 [(δ).1, (δ).2]).toArray) (o := lO (δ)) H rfl (by rfl) ?_
 intro b1 w2 hb1 H3 hE4
 refine sA (.slice none 0 0) rfl ?_
 refine wend ?_
 refine sR ?_
 refine sA (.slice none 0 0) rfl ?_
 have H5 := H3.nil (sob ELb 38 [] [])
 refine wend ?_
 refine seqAny ?_
 refine sR ?_
 refine sA (i64 ((0 : Int))) rfl ?_
 refine wend ?_
 refine blockAny ?_
 refine loopAny (σ := Nat × Option Nat × Nat × List Value) (fun (i, key, c, sp) => [(0, .slice a0 os.length c0), (1, u64 (ask)), (2, .slice za z.length zc), (7, pT b1), (9, .slice (ownA key) (2 * i) c), (10, i64 (i : Nat))]) (fun (i, key, c, sp) w' => (i ≤ os.length ∧ Sl ELb key (repS os ask z δ i) c sp) ∧ Hp No w w' [(key, sob ELb 38 (repS os ask z δ i) sp), (some b1, lO (δ))]) (fun (i, key, c, sp) => os.length - i) ((0, none, 0, [])) ?_ ?_ ?_
 ·exact ⟨rfl, rfl, rfl, rfl, rfl, rfl, trivial⟩
 ·exact ⟨⟨Nat.zero_le _, Sl.none⟩, H5⟩
 rintro ⟨i, key, c, sp⟩ ρ w6 ⟨⟨hi, hS⟩, HL⟩
 have hll := repS_len os ask z δ i
 refine seqAny ?_
 refine sR ?_
 refine sM (i64 (i : Nat)) rfl ?_
 refine sM (.slice a0 os.length c0) rfl ?_
 refine sq (r_lenS sli50 (a := a0) (m := os.length) (c := c0) rfl) ?_
 refine sq (r_lssI (a := (i : Nat)) (b := (os.length : Nat)) rfl rfl) ?_
 refine wend ?_
 refine condProp (((i : Nat) : Int) < (os.length : Nat)) rfl (fun c15 => ?_) (fun c15 => ?_)
 ·skip
  refine skipAny ?_
  refine thenNormal ?_
  refine seqAny ?_
  refine blockAny ?_
  refine sR ?_
  refine sM (u64 (ask)) rfl ?_
  refine sM (i64 (i : Nat)) rfl ?_
  refine c_call (vs := [u64 (ask), i64 (i : Nat)]) call60 rfl (bit_ok ask i w6) ?_
  rintro _ w8 ⟨rfl, hE9⟩
  have H10 := HL.ext hE9
  refine sA (u64 ((ask >>> i) % 2#64)) rfl ?_
  refine wend ?_
  by_cases hq0 : bitq ask i = 0#64
  ·skip
   refine drawE (m := 31) [0, 0, 0, 6, 14, 0, 0, 0, 96, 352, 992, 2016, 4094, 0, 0, 24576, 57344, 0, 262142, 0, 0, 0, 2097152, 1572864, 9961472, 33030144, 66584576, 134217726, 268435454, 536870911, 1073741823] [28, 29] (fun bs vs w' => match bs, vs with | [false, false], [_, _] => Hp No w w' [(key, sob ELb 38 (repS os ask z δ i) sp), (some b1, lO (δ))] | [true, false], [v28, _] => ∃ (b12 : Nat), v28 = .slice (ownA (some b12)) 2 2 ∧ Sl ELb (some b12) ([lx ((z).getD i lb0) ((os.getD i ot0).p, (os.getD i ot0).q), lx (lx ((z).getD i lb0) δ) ((os.getD i ot0).r, (os.getD i ot0).s)] : List LbT) 2 ([]) ∧ Hp No w w' [((some b12), sob ELb 38 ([lx ((z).getD i lb0) ((os.getD i ot0).p, (os.getD i ot0).q), lx (lx ((z).getD i lb0) δ) ((os.getD i ot0).r, (os.getD i ot0).s)] : List LbT) ([])), (key, sob ELb 38 (repS os ask z δ i) sp), (some b1, lO (δ))] | [true, true], [v28, v29] => ∃ (b12 : Nat) (key18 : Option Nat) (c19 : Nat) (sp20 : List Value), v28 = .slice (ownA (some b12)) 2 2 ∧ v29 = .slice (ownA key18) ((2 * i) + 2) c19 ∧ Sl ELb (some b12) ([lx ((z).getD i lb0) ((os.getD i ot0).p, (os.getD i ot0).q), lx (lx ((z).getD i lb0) δ) ((os.getD i ot0).r, (os.getD i ot0).s)] : List LbT) 2 ([]) ∧ Sl ELb key18 (repS os ask z δ (i + 1)) c19 sp20 ∧ Hp No w w' [((some b12), sob ELb 38 ([lx ((z).getD i lb0) ((os.getD i ot0).p, (os.getD i ot0).q), lx (lx ((z).getD i lb0) δ) ((os.getD i ot0).r, (os.getD i ot0).s)] : List LbT) ([])), (key18, sob ELb 38 (repS os ask z δ (i + 1)) sp20), (some b1, lO (δ))] | _, _ => False) mixed (by kernel_rfl) (by kernel_rfl) H10.drew ?_
   refine WalkE.look rfl (fun _ => .slice (ownA key) (2 * i) c) (fun _ _ _ => rfl) (fun L r _ uw _ _ _ _ => Gives.run rfl (r_move (v := .slice (ownA key) (2 * i) c) rfl) ⟨rfl, rfl⟩) ?_
   refine WalkE.look rfl (fun _ => .slice za z.length zc) (fun _ _ _ => rfl) (fun L r _ uw _ _ _ _ => Gives.run rfl (r_move (v := .slice za z.length zc) rfl) ⟨rfl, rfl⟩) ?_
   refine WalkE.look rfl (fun _ => i64 (i : Nat)) (fun _ _ _ => rfl) (fun L r _ uw _ _ _ _ => Gives.run rfl (r_move (v := i64 (i : Nat)) rfl) ⟨rfl, rfl⟩) ?_
   refine WalkE.look rfl (fun _ => .pointer (adr za (i * 2))) (fun _ _ _ => rfl) (fun L r uw0 uw hAn hDn hF hEx => ?_) ?_
   ·skip
    have b28 := hDn 28 (by decide) rfl
    have b29 := hDn 29 (by decide) rfl
    have hb := mp2 b28 b29
    rw [hb] at hF
    have HH := hF
    replace HH := HH.ext hEx
    exact Gives.run rfl (r_idxS (E := ELb) (l := z) (j := i) sli92 (hZ.ext HH.chg) rfl rfl (by first | rfl | omega | (simp; omega)) (by rfl) (by omega)) ⟨rfl, rfl⟩
   refine WalkE.look rfl (fun _ => .agg (cel E64 [((z).getD i lb0).1, ((z).getD i lb0).2]).toArray) (fun _ _ _ => rfl) (fun L r uw0 uw hAn hDn hF hEx => ?_) ?_
   ·skip
    have b28 := hDn 28 (by decide) rfl
    have b29 := hDn 29 (by decide) rfl
    have hb := mp2 b28 b29
    rw [hb] at hF
    have HH := hF
    replace HH := HH.ext hEx
    exact Gives.run rfl ((r_ldS (E := ELb) (l := z) (j := i) (v := (z).getD i lb0) fits38 (hZ.ext HH.chg) rfl rfl (at_getD (by omega))).as (v' := .agg (cel E64 [((z).getD i lb0).1, ((z).getD i lb0).2]).toArray) rfl) ⟨rfl, rfl⟩
   refine WalkE.look rfl (fun _ => .slice a0 os.length c0) (fun _ _ _ => rfl) (fun L r _ uw _ _ _ _ => Gives.run rfl (r_move (v := .slice a0 os.length c0) rfl) ⟨rfl, rfl⟩) ?_
   refine WalkE.look rfl (fun _ => i64 (i : Nat)) (fun _ _ _ => rfl) (fun L r _ uw _ _ _ _ => Gives.run rfl (r_move (v := i64 (i : Nat)) rfl) ⟨rfl, rfl⟩) ?_
   refine WalkE.look rfl (fun _ => u64 (0#64)) (fun _ _ _ => rfl) (fun L r _ uw _ _ _ _ => Gives.run rfl ((r_move (v := u64 ((ask >>> i) % 2#64)) rfl).as (v' := u64 (0#64)) (by exact congrArg u64 (by rw [bit_rem]; exact hq0))) ⟨rfl, rfl⟩) ?_
   refine WalkE.look rfl (fun _ => .pointer (adr a0 (i * 5))) (fun _ _ _ => rfl) (fun L r uw0 uw hAn hDn hF hEx => ?_) ?_
   ·skip
    have b28 := hDn 28 (by decide) rfl
    have b29 := hDn 29 (by decide) rfl
    have hb := mp2 b28 b29
    rw [hb] at hF
    have HH := hF
    replace HH := HH.ext hEx
    exact Gives.run rfl (r_idxS (E := EOt) (l := os) (j := i) sli50 (hO.ext HH.chg) rfl rfl (by first | rfl | omega | (simp; omega)) (by rfl) (by omega)) ⟨rfl, rfl⟩
   refine WalkE.look rfl (fun _ => .pointer (adr a0 (i * 5 + 0))) (fun _ _ _ => rfl) (fun L r uw0 uw hAn hDn hF hEx => ?_) ?_
   ·skip
    have b28 := hDn 28 (by decide) rfl
    have b29 := hDn 29 (by decide) rfl
    have hb := mp2 b28 b29
    rw [hb] at hF
    have HH := hF
    replace HH := HH.ext hEx
    exact Gives.run rfl (r_fieldS (E := EOt) (l := os) fld41_0 (by decide) (hO.ext HH.chg) (by omega) rfl rfl) ⟨rfl, rfl⟩
   refine WalkE.look rfl (fun _ => .pointer (adr a0 (i * 5 + 0 + 0))) (fun _ _ _ => rfl) (fun L r uw0 uw hAn hDn hF hEx => ?_) ?_
   ·skip
    have b28 := hDn 28 (by decide) rfl
    have b29 := hDn 29 (by decide) rfl
    have hb := mp2 b28 b29
    rw [hb] at hF
    have HH := hF
    replace HH := HH.ext hEx
    exact Gives.run rfl (r_indexAS (E := EOt) (l := os) (j := 0) arr39 (hO.ext HH.chg) (by omega) rfl rfl (by first | rfl | omega) (by omega) rfl) ⟨rfl, rfl⟩
   refine WalkE.look rfl (fun _ => .agg (cel E64 [(((os.getD i ot0).p, (os.getD i ot0).q)).1, (((os.getD i ot0).p, (os.getD i ot0).q)).2]).toArray) (fun _ _ _ => rfl) (fun L r uw0 uw hAn hDn hF hEx => ?_) ?_
   ·skip
    have b28 := hDn 28 (by decide) rfl
    have b29 := hDn 29 (by decide) rfl
    have hb := mp2 b28 b29
    rw [hb] at hF
    have HH := hF
    replace HH := HH.ext hEx
    exact Gives.run rfl ((r_ldOt0 (l := os) (j := i) (v := (os.getD i ot0)) fits38 (hO.ext HH.chg) (at_getD (by omega)) rfl rfl).as (v' := .agg (cel E64 [(((os.getD i ot0).p, (os.getD i ot0).q)).1, (((os.getD i ot0).p, (os.getD i ot0).q)).2]).toArray) rfl) ⟨rfl, rfl⟩
   refine WalkE.call rfl (fun _ => .agg (cel E64 [(lx ((z).getD i lb0) ((os.getD i ot0).p, (os.getD i ot0).q)).1, (lx ((z).getD i lb0) ((os.getD i ot0).p, (os.getD i ot0).q)).2]).toArray) (fun _ _ _ => rfl) (fun L r uw0 uw hAn hDn hF hEx => ?_) ?_
   ·skip
    have b28 := hDn 28 (by decide) rfl
    have b29 := hDn 29 (by decide) rfl
    have hb := mp2 b28 b29
    rw [hb] at hF
    have HH := hF
    replace HH := HH.ext hEx
    exact Gives.call rfl (Enters.callL (vs := [.agg (cel E64 [((z).getD i lb0).1, ((z).getD i lb0).2]).toArray, .agg (cel E64 [(((os.getD i ot0).p, (os.getD i ot0).q)).1, (((os.getD i ot0).p, (os.getD i ot0).q)).2]).toArray]) call50 rfl) (rlx_ok ((z).getD i lb0) ((os.getD i ot0).p, (os.getD i ot0).q) uw)
   refine WalkE.look rfl (fun _ => .slice za z.length zc) (fun _ _ _ => rfl) (fun L r _ uw _ _ _ _ => Gives.run rfl (r_move (v := .slice za z.length zc) rfl) ⟨rfl, rfl⟩) ?_
   refine WalkE.look rfl (fun _ => i64 (i : Nat)) (fun _ _ _ => rfl) (fun L r _ uw _ _ _ _ => Gives.run rfl (r_move (v := i64 (i : Nat)) rfl) ⟨rfl, rfl⟩) ?_
   refine WalkE.look rfl (fun _ => .pointer (adr za (i * 2))) (fun _ _ _ => rfl) (fun L r uw0 uw hAn hDn hF hEx => ?_) ?_
   ·skip
    have b28 := hDn 28 (by decide) rfl
    have b29 := hDn 29 (by decide) rfl
    have hb := mp2 b28 b29
    rw [hb] at hF
    have HH := hF
    replace HH := HH.ext hEx
    exact Gives.run rfl (r_idxS (E := ELb) (l := z) (j := i) sli92 (hZ.ext HH.chg) rfl rfl (by first | rfl | omega | (simp; omega)) (by rfl) (by omega)) ⟨rfl, rfl⟩
   refine WalkE.look rfl (fun _ => .agg (cel E64 [((z).getD i lb0).1, ((z).getD i lb0).2]).toArray) (fun _ _ _ => rfl) (fun L r uw0 uw hAn hDn hF hEx => ?_) ?_
   ·skip
    have b28 := hDn 28 (by decide) rfl
    have b29 := hDn 29 (by decide) rfl
    have hb := mp2 b28 b29
    rw [hb] at hF
    have HH := hF
    replace HH := HH.ext hEx
    exact Gives.run rfl ((r_ldS (E := ELb) (l := z) (j := i) (v := (z).getD i lb0) fits38 (hZ.ext HH.chg) rfl rfl (at_getD (by omega))).as (v' := .agg (cel E64 [((z).getD i lb0).1, ((z).getD i lb0).2]).toArray) rfl) ⟨rfl, rfl⟩
   refine WalkE.look rfl (fun _ => lV (δ)) (fun _ _ _ => rfl) (fun L r uw0 uw hAn hDn hF hEx => ?_) ?_
   ·skip
    have b28 := hDn 28 (by decide) rfl
    have b29 := hDn 29 (by decide) rfl
    have hb := mp2 b28 b29
    rw [hb] at hF
    have HH := hF
    replace HH := HH.ext hEx
    exact Gives.run rfl (r_loadA (cs' := (cel E64 ([(δ).1, (δ).2])).toArray) agg38 siz38 (HH.get (k := 1) rfl) (off := 0) rfl (by exact bLe rfl) (by exact ext_all rfl)) ⟨rfl, rfl⟩
   refine WalkE.call rfl (fun _ => .agg (cel E64 [(lx ((z).getD i lb0) δ).1, (lx ((z).getD i lb0) δ).2]).toArray) (fun _ _ _ => rfl) (fun L r uw0 uw hAn hDn hF hEx => ?_) ?_
   ·skip
    have b28 := hDn 28 (by decide) rfl
    have b29 := hDn 29 (by decide) rfl
    have hb := mp2 b28 b29
    rw [hb] at hF
    have HH := hF
    replace HH := HH.ext hEx
    exact Gives.call rfl (Enters.callL (vs := [.agg (cel E64 [((z).getD i lb0).1, ((z).getD i lb0).2]).toArray, lV (δ)]) call50 rfl) (rlx_ok ((z).getD i lb0) δ uw)
   refine WalkE.look rfl (fun _ => .slice a0 os.length c0) (fun _ _ _ => rfl) (fun L r _ uw _ _ _ _ => Gives.run rfl (r_move (v := .slice a0 os.length c0) rfl) ⟨rfl, rfl⟩) ?_
   refine WalkE.look rfl (fun _ => i64 (i : Nat)) (fun _ _ _ => rfl) (fun L r _ uw _ _ _ _ => Gives.run rfl (r_move (v := i64 (i : Nat)) rfl) ⟨rfl, rfl⟩) ?_
   refine WalkE.look rfl (fun _ => u64 (0#64)) (fun _ _ _ => rfl) (fun L r _ uw _ _ _ _ => Gives.run rfl ((r_move (v := u64 ((ask >>> i) % 2#64)) rfl).as (v' := u64 (0#64)) (by exact congrArg u64 (by rw [bit_rem]; exact hq0))) ⟨rfl, rfl⟩) ?_
   refine WalkE.look rfl (fun _ => u64 (1#64)) (fun _ _ _ => rfl) (fun L r _ uw _ _ _ _ => Gives.run rfl ((r_sub64 (a := 1#64) (b := 0#64) rfl rfl).as (v' := u64 (1#64)) (by exact congrArg u64 sub10)) ⟨rfl, rfl⟩) ?_
   refine WalkE.look rfl (fun _ => .pointer (adr a0 (i * 5))) (fun _ _ _ => rfl) (fun L r uw0 uw hAn hDn hF hEx => ?_) ?_
   ·skip
    have b28 := hDn 28 (by decide) rfl
    have b29 := hDn 29 (by decide) rfl
    have hb := mp2 b28 b29
    rw [hb] at hF
    have HH := hF
    replace HH := HH.ext hEx
    exact Gives.run rfl (r_idxS (E := EOt) (l := os) (j := i) sli50 (hO.ext HH.chg) rfl rfl (by first | rfl | omega | (simp; omega)) (by rfl) (by omega)) ⟨rfl, rfl⟩
   refine WalkE.look rfl (fun _ => .pointer (adr a0 (i * 5 + 0))) (fun _ _ _ => rfl) (fun L r uw0 uw hAn hDn hF hEx => ?_) ?_
   ·skip
    have b28 := hDn 28 (by decide) rfl
    have b29 := hDn 29 (by decide) rfl
    have hb := mp2 b28 b29
    rw [hb] at hF
    have HH := hF
    replace HH := HH.ext hEx
    exact Gives.run rfl (r_fieldS (E := EOt) (l := os) fld41_0 (by decide) (hO.ext HH.chg) (by omega) rfl rfl) ⟨rfl, rfl⟩
   refine WalkE.look rfl (fun _ => .pointer (adr a0 (i * 5 + 0 + 2))) (fun _ _ _ => rfl) (fun L r uw0 uw hAn hDn hF hEx => ?_) ?_
   ·skip
    have b28 := hDn 28 (by decide) rfl
    have b29 := hDn 29 (by decide) rfl
    have hb := mp2 b28 b29
    rw [hb] at hF
    have HH := hF
    replace HH := HH.ext hEx
    exact Gives.run rfl (r_indexAS (E := EOt) (l := os) (j := 1) arr39 (hO.ext HH.chg) (by omega) rfl rfl (by first | rfl | omega) (by omega) rfl) ⟨rfl, rfl⟩
   refine WalkE.look rfl (fun _ => .agg (cel E64 [(((os.getD i ot0).r, (os.getD i ot0).s)).1, (((os.getD i ot0).r, (os.getD i ot0).s)).2]).toArray) (fun _ _ _ => rfl) (fun L r uw0 uw hAn hDn hF hEx => ?_) ?_
   ·skip
    have b28 := hDn 28 (by decide) rfl
    have b29 := hDn 29 (by decide) rfl
    have hb := mp2 b28 b29
    rw [hb] at hF
    have HH := hF
    replace HH := HH.ext hEx
    exact Gives.run rfl ((r_ldOt1 (l := os) (j := i) (v := (os.getD i ot0)) fits38 (hO.ext HH.chg) (at_getD (by omega)) rfl rfl).as (v' := .agg (cel E64 [(((os.getD i ot0).r, (os.getD i ot0).s)).1, (((os.getD i ot0).r, (os.getD i ot0).s)).2]).toArray) rfl) ⟨rfl, rfl⟩
   refine WalkE.call rfl (fun _ => .agg (cel E64 [(lx (lx ((z).getD i lb0) δ) ((os.getD i ot0).r, (os.getD i ot0).s)).1, (lx (lx ((z).getD i lb0) δ) ((os.getD i ot0).r, (os.getD i ot0).s)).2]).toArray) (fun _ _ _ => rfl) (fun L r uw0 uw hAn hDn hF hEx => ?_) ?_
   ·skip
    have b28 := hDn 28 (by decide) rfl
    have b29 := hDn 29 (by decide) rfl
    have hb := mp2 b28 b29
    rw [hb] at hF
    have HH := hF
    replace HH := HH.ext hEx
    exact Gives.call rfl (Enters.callL (vs := [.agg (cel E64 [(lx ((z).getD i lb0) δ).1, (lx ((z).getD i lb0) δ).2]).toArray, .agg (cel E64 [(((os.getD i ot0).r, (os.getD i ot0).s)).1, (((os.getD i ot0).r, (os.getD i ot0).s)).2]).toArray]) call50 rfl) (rlx_ok (lx ((z).getD i lb0) δ) ((os.getD i ot0).r, (os.getD i ot0).s) uw)
   refine WalkE.eff 0 rfl (fun L r uw0 uw hLn hAn hDn hF hEx => ?_) ?_
   ·skip
    have b28 : L 28 = false := hLn
    have b29 := hDn 29 (by decide) rfl
    have hb := mp2 b28 b29
    rw [hb] at hF ⊢
    have H28 := hF
    replace H28 := H28.ext hEx
    dsimp only
    refine Gives.ofW (d := 49) rfl rfl (fun Q' hK => ?_)
    refine q_buildSlice (E := ELb) (l := ([lx ((z).getD i lb0) ((os.getD i ot0).p, (os.getD i ot0).q), lx (lx ((z).getD i lb0) δ) ((os.getD i ot0).r, (os.getD i ot0).s)] : List LbT)) H28 sli92 zer38 (bLe rfl) (ps := [(0, .agg (cel E64 [(lx ((z).getD i lb0) ((os.getD i ot0).p, (os.getD i ot0).q)).1, (lx ((z).getD i lb0) ((os.getD i ot0).p, (os.getD i ot0).q)).2]).toArray), (1, .agg (cel E64 [(lx (lx ((z).getD i lb0) δ) ((os.getD i ot0).r, (os.getD i ot0).s)).1, (lx (lx ((z).getD i lb0) δ) ((os.getD i ot0).r, (os.getD i ot0).s)).2]).toArray)]) rfl (by exact fillAll rfl rfl) rfl ?_
    intro b29 w31 hS30 H32 hE33
    exact hK _ _ (show ∃ (b12 : Nat), (_ : Value) = .slice (ownA (some b12)) 2 2 ∧ Sl ELb (some b12) ([lx ((z).getD i lb0) ((os.getD i ot0).p, (os.getD i ot0).q), lx (lx ((z).getD i lb0) δ) ((os.getD i ot0).r, (os.getD i ot0).s)] : List LbT) 2 ([]) ∧ Hp No w w31 [((some b12), sob ELb 38 ([lx ((z).getD i lb0) ((os.getD i ot0).p, (os.getD i ot0).q), lx (lx ((z).getD i lb0) δ) ((os.getD i ot0).r, (os.getD i ot0).s)] : List LbT) ([])), (key, sob ELb 38 (repS os ask z δ i) sp), (some b1, lO (δ))] from ⟨b29, rfl, hS30, (((H32.pull (k := 2) rfl).pull (k := 2) rfl).pull (k := 2) rfl)⟩)
   refine WalkE.eff 1 rfl (fun L r uw0 uw hLn hAn hDn hF hEx => ?_) ?_
   ·skip
    have b28 := hAn 28 (by decide) rfl
    have b29 : L 29 = false := hLn
    have hb := mp2 b28 b29
    rw [hb] at hF ⊢
    obtain ⟨b12, e28, hS13, H34⟩ := hF
    replace H34 := H34.ext hEx
    dsimp only
    rw [e28]
    refine Gives.ofW (d := 50) rfl rfl (fun Q' hK => ?_)
    refine q_append (E := ELb) (k := 1) (l := repS os ask z δ i) (l2 := ([lx ((z).getD i lb0) ((os.getD i ot0).p, (os.getD i ot0).q), lx (lx ((z).getD i lb0) δ) ((os.getD i ot0).r, (os.getD i ot0).s)] : List LbT)) H34 rfl hS sli92 zer38 rfl byt38 (H34.rd (k := 0) rfl hS13) rfl (by rw [repS_len]) rfl (by rfl) (by omega) ?_
    intro key35 c36 sp37 w39 hS38 hne41 H40
    have H40' := H40.as (L' := [((some b12), sob ELb 38 ([lx ((z).getD i lb0) ((os.getD i ot0).p, (os.getD i ot0).q), lx (lx ((z).getD i lb0) δ) ((os.getD i ot0).r, (os.getD i ot0).s)] : List LbT) ([])), (key35, sob ELb 38 ((repS os ask z δ i) ++ ([lx ((z).getD i lb0) ((os.getD i ot0).p, (os.getD i ot0).q), lx (lx ((z).getD i lb0) δ) ((os.getD i ot0).r, (os.getD i ot0).s)] : List LbT)) sp37), (some b1, lO (δ))]) rfl
    clear H40
    have e42 : (repS os ask z δ i) ++ ([lx ((z).getD i lb0) ((os.getD i ot0).p, (os.getD i ot0).q), lx (lx ((z).getD i lb0) δ) ((os.getD i ot0).r, (os.getD i ot0).s)] : List LbT) = repS os ask z δ (i + 1) := by rw [repS, ← rep_doc, hq0, sub10, oR0, oR1]
    have hS43 := hS38
    rw [e42] at hS43
    have H44 := H40'.as (L' := [((some b12), sob ELb 38 ([lx ((z).getD i lb0) ((os.getD i ot0).p, (os.getD i ot0).q), lx (lx ((z).getD i lb0) δ) ((os.getD i ot0).r, (os.getD i ot0).s)] : List LbT) ([])), (key35, sob ELb 38 (repS os ask z δ (i + 1)) sp37), (some b1, lO (δ))]) (by rw [e42])
    exact hK _ _ (show ∃ (b12 : Nat) (key18 : Option Nat) (c19 : Nat) (sp20 : List Value), r 28 = .slice (ownA (some b12)) 2 2 ∧ (_ : Value) = .slice (ownA key18) ((2 * i) + 2) c19 ∧ Sl ELb (some b12) ([lx ((z).getD i lb0) ((os.getD i ot0).p, (os.getD i ot0).q), lx (lx ((z).getD i lb0) δ) ((os.getD i ot0).r, (os.getD i ot0).s)] : List LbT) 2 ([]) ∧ Sl ELb key18 (repS os ask z δ (i + 1)) c19 sp20 ∧ Hp No w w39 [((some b12), sob ELb 38 ([lx ((z).getD i lb0) ((os.getD i ot0).p, (os.getD i ot0).q), lx (lx ((z).getD i lb0) δ) ((os.getD i ot0).r, (os.getD i ot0).s)] : List LbT) ([])), (key18, sob ELb 38 (repS os ask z δ (i + 1)) sp20), (some b1, lO (δ))] from ⟨b12, key35, c36, sp37, e28, rfl, hS13, hS43, (((H44.pull (k := 2) rfl).pull (k := 2) rfl).pull (k := 2) rfl)⟩)
   refine WalkE.look rfl (fun r => r 29) (fun r r' h => h 29 (by decide) rfl) (fun L r _ uw _ _ _ _ => Gives.run rfl (r_assign rfl) ⟨rfl, rfl⟩) ?_
   refine WalkE.nil ?_
   intro r45 uw0 w46 hF hEx
   obtain ⟨b12, key18, c19, sp20, e28, e29, hS13, hS26, H47⟩ := hF
   replace H47 := H47.ext hEx
   dsimp only
   rw [e28, e29]
   refine wnil ?_
   refine blockNormal ?_
   refine thenNormal ?_
   refine oneRegion ?_
   refine sM (i64 (i : Nat)) rfl ?_
   refine sq (r_addI (a := (i : Nat)) (b := (1 : Int)) rfl rfl (by omega)) ?_
   refine sA (i64 ((i : Nat) + (1 : Int))) rfl ?_
   refine wnil ?_
   refine thenNormal ?_
   exact ⟨(i + 1, key18, c19, sp20), _, rfl, ⟨rfl, rfl, rfl, rfl, rfl, rfl, trivial⟩, ⟨⟨by omega, hS26⟩, (H47.dropk 0)⟩, by show os.length - (i + 1) < os.length - i; omega⟩
  ·skip
   refine drawE (m := 31) [0, 0, 0, 6, 14, 0, 0, 0, 96, 352, 992, 2016, 4094, 0, 0, 24576, 57344, 0, 262142, 0, 0, 0, 2097152, 1572864, 9961472, 33030144, 66584576, 134217726, 268435454, 536870911, 1073741823] [28, 29] (fun bs vs w' => match bs, vs with | [false, false], [_, _] => Hp No w w' [(key, sob ELb 38 (repS os ask z δ i) sp), (some b1, lO (δ))] | [true, false], [v28, _] => ∃ (b49 : Nat), v28 = .slice (ownA (some b49)) 2 2 ∧ Sl ELb (some b49) ([lx ((z).getD i lb0) ((os.getD i ot0).r, (os.getD i ot0).s), lx (lx ((z).getD i lb0) δ) ((os.getD i ot0).p, (os.getD i ot0).q)] : List LbT) 2 ([]) ∧ Hp No w w' [((some b49), sob ELb 38 ([lx ((z).getD i lb0) ((os.getD i ot0).r, (os.getD i ot0).s), lx (lx ((z).getD i lb0) δ) ((os.getD i ot0).p, (os.getD i ot0).q)] : List LbT) ([])), (key, sob ELb 38 (repS os ask z δ i) sp), (some b1, lO (δ))] | [true, true], [v28, v29] => ∃ (b49 : Nat) (key55 : Option Nat) (c56 : Nat) (sp57 : List Value), v28 = .slice (ownA (some b49)) 2 2 ∧ v29 = .slice (ownA key55) ((2 * i) + 2) c56 ∧ Sl ELb (some b49) ([lx ((z).getD i lb0) ((os.getD i ot0).r, (os.getD i ot0).s), lx (lx ((z).getD i lb0) δ) ((os.getD i ot0).p, (os.getD i ot0).q)] : List LbT) 2 ([]) ∧ Sl ELb key55 (repS os ask z δ (i + 1)) c56 sp57 ∧ Hp No w w' [((some b49), sob ELb 38 ([lx ((z).getD i lb0) ((os.getD i ot0).r, (os.getD i ot0).s), lx (lx ((z).getD i lb0) δ) ((os.getD i ot0).p, (os.getD i ot0).q)] : List LbT) ([])), (key55, sob ELb 38 (repS os ask z δ (i + 1)) sp57), (some b1, lO (δ))] | _, _ => False) mixed (by kernel_rfl) (by kernel_rfl) H10.drew ?_
   refine WalkE.look rfl (fun _ => .slice (ownA key) (2 * i) c) (fun _ _ _ => rfl) (fun L r _ uw _ _ _ _ => Gives.run rfl (r_move (v := .slice (ownA key) (2 * i) c) rfl) ⟨rfl, rfl⟩) ?_
   refine WalkE.look rfl (fun _ => .slice za z.length zc) (fun _ _ _ => rfl) (fun L r _ uw _ _ _ _ => Gives.run rfl (r_move (v := .slice za z.length zc) rfl) ⟨rfl, rfl⟩) ?_
   refine WalkE.look rfl (fun _ => i64 (i : Nat)) (fun _ _ _ => rfl) (fun L r _ uw _ _ _ _ => Gives.run rfl (r_move (v := i64 (i : Nat)) rfl) ⟨rfl, rfl⟩) ?_
   refine WalkE.look rfl (fun _ => .pointer (adr za (i * 2))) (fun _ _ _ => rfl) (fun L r uw0 uw hAn hDn hF hEx => ?_) ?_
   ·skip
    have b28 := hDn 28 (by decide) rfl
    have b29 := hDn 29 (by decide) rfl
    have hb := mp2 b28 b29
    rw [hb] at hF
    have HH := hF
    replace HH := HH.ext hEx
    exact Gives.run rfl (r_idxS (E := ELb) (l := z) (j := i) sli92 (hZ.ext HH.chg) rfl rfl (by first | rfl | omega | (simp; omega)) (by rfl) (by omega)) ⟨rfl, rfl⟩
   refine WalkE.look rfl (fun _ => .agg (cel E64 [((z).getD i lb0).1, ((z).getD i lb0).2]).toArray) (fun _ _ _ => rfl) (fun L r uw0 uw hAn hDn hF hEx => ?_) ?_
   ·skip
    have b28 := hDn 28 (by decide) rfl
    have b29 := hDn 29 (by decide) rfl
    have hb := mp2 b28 b29
    rw [hb] at hF
    have HH := hF
    replace HH := HH.ext hEx
    exact Gives.run rfl ((r_ldS (E := ELb) (l := z) (j := i) (v := (z).getD i lb0) fits38 (hZ.ext HH.chg) rfl rfl (at_getD (by omega))).as (v' := .agg (cel E64 [((z).getD i lb0).1, ((z).getD i lb0).2]).toArray) rfl) ⟨rfl, rfl⟩
   refine WalkE.look rfl (fun _ => .slice a0 os.length c0) (fun _ _ _ => rfl) (fun L r _ uw _ _ _ _ => Gives.run rfl (r_move (v := .slice a0 os.length c0) rfl) ⟨rfl, rfl⟩) ?_
   refine WalkE.look rfl (fun _ => i64 (i : Nat)) (fun _ _ _ => rfl) (fun L r _ uw _ _ _ _ => Gives.run rfl (r_move (v := i64 (i : Nat)) rfl) ⟨rfl, rfl⟩) ?_
   refine WalkE.look rfl (fun _ => u64 (1#64)) (fun _ _ _ => rfl) (fun L r _ uw _ _ _ _ => Gives.run rfl ((r_move (v := u64 ((ask >>> i) % 2#64)) rfl).as (v' := u64 (1#64)) (by exact congrArg u64 (by rw [bit_rem]; exact bitq_one hq0))) ⟨rfl, rfl⟩) ?_
   refine WalkE.look rfl (fun _ => .pointer (adr a0 (i * 5))) (fun _ _ _ => rfl) (fun L r uw0 uw hAn hDn hF hEx => ?_) ?_
   ·skip
    have b28 := hDn 28 (by decide) rfl
    have b29 := hDn 29 (by decide) rfl
    have hb := mp2 b28 b29
    rw [hb] at hF
    have HH := hF
    replace HH := HH.ext hEx
    exact Gives.run rfl (r_idxS (E := EOt) (l := os) (j := i) sli50 (hO.ext HH.chg) rfl rfl (by first | rfl | omega | (simp; omega)) (by rfl) (by omega)) ⟨rfl, rfl⟩
   refine WalkE.look rfl (fun _ => .pointer (adr a0 (i * 5 + 0))) (fun _ _ _ => rfl) (fun L r uw0 uw hAn hDn hF hEx => ?_) ?_
   ·skip
    have b28 := hDn 28 (by decide) rfl
    have b29 := hDn 29 (by decide) rfl
    have hb := mp2 b28 b29
    rw [hb] at hF
    have HH := hF
    replace HH := HH.ext hEx
    exact Gives.run rfl (r_fieldS (E := EOt) (l := os) fld41_0 (by decide) (hO.ext HH.chg) (by omega) rfl rfl) ⟨rfl, rfl⟩
   refine WalkE.look rfl (fun _ => .pointer (adr a0 (i * 5 + 0 + 2))) (fun _ _ _ => rfl) (fun L r uw0 uw hAn hDn hF hEx => ?_) ?_
   ·skip
    have b28 := hDn 28 (by decide) rfl
    have b29 := hDn 29 (by decide) rfl
    have hb := mp2 b28 b29
    rw [hb] at hF
    have HH := hF
    replace HH := HH.ext hEx
    exact Gives.run rfl (r_indexAS (E := EOt) (l := os) (j := 1) arr39 (hO.ext HH.chg) (by omega) rfl rfl (by first | rfl | omega) (by omega) rfl) ⟨rfl, rfl⟩
   refine WalkE.look rfl (fun _ => .agg (cel E64 [(((os.getD i ot0).r, (os.getD i ot0).s)).1, (((os.getD i ot0).r, (os.getD i ot0).s)).2]).toArray) (fun _ _ _ => rfl) (fun L r uw0 uw hAn hDn hF hEx => ?_) ?_
   ·skip
    have b28 := hDn 28 (by decide) rfl
    have b29 := hDn 29 (by decide) rfl
    have hb := mp2 b28 b29
    rw [hb] at hF
    have HH := hF
    replace HH := HH.ext hEx
    exact Gives.run rfl ((r_ldOt1 (l := os) (j := i) (v := (os.getD i ot0)) fits38 (hO.ext HH.chg) (at_getD (by omega)) rfl rfl).as (v' := .agg (cel E64 [(((os.getD i ot0).r, (os.getD i ot0).s)).1, (((os.getD i ot0).r, (os.getD i ot0).s)).2]).toArray) rfl) ⟨rfl, rfl⟩
   refine WalkE.call rfl (fun _ => .agg (cel E64 [(lx ((z).getD i lb0) ((os.getD i ot0).r, (os.getD i ot0).s)).1, (lx ((z).getD i lb0) ((os.getD i ot0).r, (os.getD i ot0).s)).2]).toArray) (fun _ _ _ => rfl) (fun L r uw0 uw hAn hDn hF hEx => ?_) ?_
   ·skip
    have b28 := hDn 28 (by decide) rfl
    have b29 := hDn 29 (by decide) rfl
    have hb := mp2 b28 b29
    rw [hb] at hF
    have HH := hF
    replace HH := HH.ext hEx
    exact Gives.call rfl (Enters.callL (vs := [.agg (cel E64 [((z).getD i lb0).1, ((z).getD i lb0).2]).toArray, .agg (cel E64 [(((os.getD i ot0).r, (os.getD i ot0).s)).1, (((os.getD i ot0).r, (os.getD i ot0).s)).2]).toArray]) call50 rfl) (rlx_ok ((z).getD i lb0) ((os.getD i ot0).r, (os.getD i ot0).s) uw)
   refine WalkE.look rfl (fun _ => .slice za z.length zc) (fun _ _ _ => rfl) (fun L r _ uw _ _ _ _ => Gives.run rfl (r_move (v := .slice za z.length zc) rfl) ⟨rfl, rfl⟩) ?_
   refine WalkE.look rfl (fun _ => i64 (i : Nat)) (fun _ _ _ => rfl) (fun L r _ uw _ _ _ _ => Gives.run rfl (r_move (v := i64 (i : Nat)) rfl) ⟨rfl, rfl⟩) ?_
   refine WalkE.look rfl (fun _ => .pointer (adr za (i * 2))) (fun _ _ _ => rfl) (fun L r uw0 uw hAn hDn hF hEx => ?_) ?_
   ·skip
    have b28 := hDn 28 (by decide) rfl
    have b29 := hDn 29 (by decide) rfl
    have hb := mp2 b28 b29
    rw [hb] at hF
    have HH := hF
    replace HH := HH.ext hEx
    exact Gives.run rfl (r_idxS (E := ELb) (l := z) (j := i) sli92 (hZ.ext HH.chg) rfl rfl (by first | rfl | omega | (simp; omega)) (by rfl) (by omega)) ⟨rfl, rfl⟩
   refine WalkE.look rfl (fun _ => .agg (cel E64 [((z).getD i lb0).1, ((z).getD i lb0).2]).toArray) (fun _ _ _ => rfl) (fun L r uw0 uw hAn hDn hF hEx => ?_) ?_
   ·skip
    have b28 := hDn 28 (by decide) rfl
    have b29 := hDn 29 (by decide) rfl
    have hb := mp2 b28 b29
    rw [hb] at hF
    have HH := hF
    replace HH := HH.ext hEx
    exact Gives.run rfl ((r_ldS (E := ELb) (l := z) (j := i) (v := (z).getD i lb0) fits38 (hZ.ext HH.chg) rfl rfl (at_getD (by omega))).as (v' := .agg (cel E64 [((z).getD i lb0).1, ((z).getD i lb0).2]).toArray) rfl) ⟨rfl, rfl⟩
   refine WalkE.look rfl (fun _ => lV (δ)) (fun _ _ _ => rfl) (fun L r uw0 uw hAn hDn hF hEx => ?_) ?_
   ·skip
    have b28 := hDn 28 (by decide) rfl
    have b29 := hDn 29 (by decide) rfl
    have hb := mp2 b28 b29
    rw [hb] at hF
    have HH := hF
    replace HH := HH.ext hEx
    exact Gives.run rfl (r_loadA (cs' := (cel E64 ([(δ).1, (δ).2])).toArray) agg38 siz38 (HH.get (k := 1) rfl) (off := 0) rfl (by exact bLe rfl) (by exact ext_all rfl)) ⟨rfl, rfl⟩
   refine WalkE.call rfl (fun _ => .agg (cel E64 [(lx ((z).getD i lb0) δ).1, (lx ((z).getD i lb0) δ).2]).toArray) (fun _ _ _ => rfl) (fun L r uw0 uw hAn hDn hF hEx => ?_) ?_
   ·skip
    have b28 := hDn 28 (by decide) rfl
    have b29 := hDn 29 (by decide) rfl
    have hb := mp2 b28 b29
    rw [hb] at hF
    have HH := hF
    replace HH := HH.ext hEx
    exact Gives.call rfl (Enters.callL (vs := [.agg (cel E64 [((z).getD i lb0).1, ((z).getD i lb0).2]).toArray, lV (δ)]) call50 rfl) (rlx_ok ((z).getD i lb0) δ uw)
   refine WalkE.look rfl (fun _ => .slice a0 os.length c0) (fun _ _ _ => rfl) (fun L r _ uw _ _ _ _ => Gives.run rfl (r_move (v := .slice a0 os.length c0) rfl) ⟨rfl, rfl⟩) ?_
   refine WalkE.look rfl (fun _ => i64 (i : Nat)) (fun _ _ _ => rfl) (fun L r _ uw _ _ _ _ => Gives.run rfl (r_move (v := i64 (i : Nat)) rfl) ⟨rfl, rfl⟩) ?_
   refine WalkE.look rfl (fun _ => u64 (1#64)) (fun _ _ _ => rfl) (fun L r _ uw _ _ _ _ => Gives.run rfl ((r_move (v := u64 ((ask >>> i) % 2#64)) rfl).as (v' := u64 (1#64)) (by exact congrArg u64 (by rw [bit_rem]; exact bitq_one hq0))) ⟨rfl, rfl⟩) ?_
   refine WalkE.look rfl (fun _ => u64 (0#64)) (fun _ _ _ => rfl) (fun L r _ uw _ _ _ _ => Gives.run rfl ((r_sub64 (a := 1#64) (b := 1#64) rfl rfl).as (v' := u64 (0#64)) (by exact congrArg u64 sub11)) ⟨rfl, rfl⟩) ?_
   refine WalkE.look rfl (fun _ => .pointer (adr a0 (i * 5))) (fun _ _ _ => rfl) (fun L r uw0 uw hAn hDn hF hEx => ?_) ?_
   ·skip
    have b28 := hDn 28 (by decide) rfl
    have b29 := hDn 29 (by decide) rfl
    have hb := mp2 b28 b29
    rw [hb] at hF
    have HH := hF
    replace HH := HH.ext hEx
    exact Gives.run rfl (r_idxS (E := EOt) (l := os) (j := i) sli50 (hO.ext HH.chg) rfl rfl (by first | rfl | omega | (simp; omega)) (by rfl) (by omega)) ⟨rfl, rfl⟩
   refine WalkE.look rfl (fun _ => .pointer (adr a0 (i * 5 + 0))) (fun _ _ _ => rfl) (fun L r uw0 uw hAn hDn hF hEx => ?_) ?_
   ·skip
    have b28 := hDn 28 (by decide) rfl
    have b29 := hDn 29 (by decide) rfl
    have hb := mp2 b28 b29
    rw [hb] at hF
    have HH := hF
    replace HH := HH.ext hEx
    exact Gives.run rfl (r_fieldS (E := EOt) (l := os) fld41_0 (by decide) (hO.ext HH.chg) (by omega) rfl rfl) ⟨rfl, rfl⟩
   refine WalkE.look rfl (fun _ => .pointer (adr a0 (i * 5 + 0 + 0))) (fun _ _ _ => rfl) (fun L r uw0 uw hAn hDn hF hEx => ?_) ?_
   ·skip
    have b28 := hDn 28 (by decide) rfl
    have b29 := hDn 29 (by decide) rfl
    have hb := mp2 b28 b29
    rw [hb] at hF
    have HH := hF
    replace HH := HH.ext hEx
    exact Gives.run rfl (r_indexAS (E := EOt) (l := os) (j := 0) arr39 (hO.ext HH.chg) (by omega) rfl rfl (by first | rfl | omega) (by omega) rfl) ⟨rfl, rfl⟩
   refine WalkE.look rfl (fun _ => .agg (cel E64 [(((os.getD i ot0).p, (os.getD i ot0).q)).1, (((os.getD i ot0).p, (os.getD i ot0).q)).2]).toArray) (fun _ _ _ => rfl) (fun L r uw0 uw hAn hDn hF hEx => ?_) ?_
   ·skip
    have b28 := hDn 28 (by decide) rfl
    have b29 := hDn 29 (by decide) rfl
    have hb := mp2 b28 b29
    rw [hb] at hF
    have HH := hF
    replace HH := HH.ext hEx
    exact Gives.run rfl ((r_ldOt0 (l := os) (j := i) (v := (os.getD i ot0)) fits38 (hO.ext HH.chg) (at_getD (by omega)) rfl rfl).as (v' := .agg (cel E64 [(((os.getD i ot0).p, (os.getD i ot0).q)).1, (((os.getD i ot0).p, (os.getD i ot0).q)).2]).toArray) rfl) ⟨rfl, rfl⟩
   refine WalkE.call rfl (fun _ => .agg (cel E64 [(lx (lx ((z).getD i lb0) δ) ((os.getD i ot0).p, (os.getD i ot0).q)).1, (lx (lx ((z).getD i lb0) δ) ((os.getD i ot0).p, (os.getD i ot0).q)).2]).toArray) (fun _ _ _ => rfl) (fun L r uw0 uw hAn hDn hF hEx => ?_) ?_
   ·skip
    have b28 := hDn 28 (by decide) rfl
    have b29 := hDn 29 (by decide) rfl
    have hb := mp2 b28 b29
    rw [hb] at hF
    have HH := hF
    replace HH := HH.ext hEx
    exact Gives.call rfl (Enters.callL (vs := [.agg (cel E64 [(lx ((z).getD i lb0) δ).1, (lx ((z).getD i lb0) δ).2]).toArray, .agg (cel E64 [(((os.getD i ot0).p, (os.getD i ot0).q)).1, (((os.getD i ot0).p, (os.getD i ot0).q)).2]).toArray]) call50 rfl) (rlx_ok (lx ((z).getD i lb0) δ) ((os.getD i ot0).p, (os.getD i ot0).q) uw)
   refine WalkE.eff 0 rfl (fun L r uw0 uw hLn hAn hDn hF hEx => ?_) ?_
   ·skip
    have b28 : L 28 = false := hLn
    have b29 := hDn 29 (by decide) rfl
    have hb := mp2 b28 b29
    rw [hb] at hF ⊢
    have H65 := hF
    replace H65 := H65.ext hEx
    dsimp only
    refine Gives.ofW (d := 49) rfl rfl (fun Q' hK => ?_)
    refine q_buildSlice (E := ELb) (l := ([lx ((z).getD i lb0) ((os.getD i ot0).r, (os.getD i ot0).s), lx (lx ((z).getD i lb0) δ) ((os.getD i ot0).p, (os.getD i ot0).q)] : List LbT)) H65 sli92 zer38 (bLe rfl) (ps := [(0, .agg (cel E64 [(lx ((z).getD i lb0) ((os.getD i ot0).r, (os.getD i ot0).s)).1, (lx ((z).getD i lb0) ((os.getD i ot0).r, (os.getD i ot0).s)).2]).toArray), (1, .agg (cel E64 [(lx (lx ((z).getD i lb0) δ) ((os.getD i ot0).p, (os.getD i ot0).q)).1, (lx (lx ((z).getD i lb0) δ) ((os.getD i ot0).p, (os.getD i ot0).q)).2]).toArray)]) rfl (by exact fillAll rfl rfl) rfl ?_
    intro b66 w68 hS67 H69 hE70
    exact hK _ _ (show ∃ (b49 : Nat), (_ : Value) = .slice (ownA (some b49)) 2 2 ∧ Sl ELb (some b49) ([lx ((z).getD i lb0) ((os.getD i ot0).r, (os.getD i ot0).s), lx (lx ((z).getD i lb0) δ) ((os.getD i ot0).p, (os.getD i ot0).q)] : List LbT) 2 ([]) ∧ Hp No w w68 [((some b49), sob ELb 38 ([lx ((z).getD i lb0) ((os.getD i ot0).r, (os.getD i ot0).s), lx (lx ((z).getD i lb0) δ) ((os.getD i ot0).p, (os.getD i ot0).q)] : List LbT) ([])), (key, sob ELb 38 (repS os ask z δ i) sp), (some b1, lO (δ))] from ⟨b66, rfl, hS67, (((H69.pull (k := 2) rfl).pull (k := 2) rfl).pull (k := 2) rfl)⟩)
   refine WalkE.eff 1 rfl (fun L r uw0 uw hLn hAn hDn hF hEx => ?_) ?_
   ·skip
    have b28 := hAn 28 (by decide) rfl
    have b29 : L 29 = false := hLn
    have hb := mp2 b28 b29
    rw [hb] at hF ⊢
    obtain ⟨b49, e28, hS50, H71⟩ := hF
    replace H71 := H71.ext hEx
    dsimp only
    rw [e28]
    refine Gives.ofW (d := 50) rfl rfl (fun Q' hK => ?_)
    refine q_append (E := ELb) (k := 1) (l := repS os ask z δ i) (l2 := ([lx ((z).getD i lb0) ((os.getD i ot0).r, (os.getD i ot0).s), lx (lx ((z).getD i lb0) δ) ((os.getD i ot0).p, (os.getD i ot0).q)] : List LbT)) H71 rfl hS sli92 zer38 rfl byt38 (H71.rd (k := 0) rfl hS50) rfl (by rw [repS_len]) rfl (by rfl) (by omega) ?_
    intro key72 c73 sp74 w76 hS75 hne78 H77
    have H77' := H77.as (L' := [((some b49), sob ELb 38 ([lx ((z).getD i lb0) ((os.getD i ot0).r, (os.getD i ot0).s), lx (lx ((z).getD i lb0) δ) ((os.getD i ot0).p, (os.getD i ot0).q)] : List LbT) ([])), (key72, sob ELb 38 ((repS os ask z δ i) ++ ([lx ((z).getD i lb0) ((os.getD i ot0).r, (os.getD i ot0).s), lx (lx ((z).getD i lb0) δ) ((os.getD i ot0).p, (os.getD i ot0).q)] : List LbT)) sp74), (some b1, lO (δ))]) rfl
    clear H77
    have e79 : (repS os ask z δ i) ++ ([lx ((z).getD i lb0) ((os.getD i ot0).r, (os.getD i ot0).s), lx (lx ((z).getD i lb0) δ) ((os.getD i ot0).p, (os.getD i ot0).q)] : List LbT) = repS os ask z δ (i + 1) := by rw [repS, ← rep_doc, bitq_one hq0, sub11, oR0, oR1]
    have hS80 := hS75
    rw [e79] at hS80
    have H81 := H77'.as (L' := [((some b49), sob ELb 38 ([lx ((z).getD i lb0) ((os.getD i ot0).r, (os.getD i ot0).s), lx (lx ((z).getD i lb0) δ) ((os.getD i ot0).p, (os.getD i ot0).q)] : List LbT) ([])), (key72, sob ELb 38 (repS os ask z δ (i + 1)) sp74), (some b1, lO (δ))]) (by rw [e79])
    exact hK _ _ (show ∃ (b49 : Nat) (key55 : Option Nat) (c56 : Nat) (sp57 : List Value), r 28 = .slice (ownA (some b49)) 2 2 ∧ (_ : Value) = .slice (ownA key55) ((2 * i) + 2) c56 ∧ Sl ELb (some b49) ([lx ((z).getD i lb0) ((os.getD i ot0).r, (os.getD i ot0).s), lx (lx ((z).getD i lb0) δ) ((os.getD i ot0).p, (os.getD i ot0).q)] : List LbT) 2 ([]) ∧ Sl ELb key55 (repS os ask z δ (i + 1)) c56 sp57 ∧ Hp No w w76 [((some b49), sob ELb 38 ([lx ((z).getD i lb0) ((os.getD i ot0).r, (os.getD i ot0).s), lx (lx ((z).getD i lb0) δ) ((os.getD i ot0).p, (os.getD i ot0).q)] : List LbT) ([])), (key55, sob ELb 38 (repS os ask z δ (i + 1)) sp57), (some b1, lO (δ))] from ⟨b49, key72, c73, sp74, e28, rfl, hS50, hS80, (((H81.pull (k := 2) rfl).pull (k := 2) rfl).pull (k := 2) rfl)⟩)
   refine WalkE.look rfl (fun r => r 29) (fun r r' h => h 29 (by decide) rfl) (fun L r _ uw _ _ _ _ => Gives.run rfl (r_assign rfl) ⟨rfl, rfl⟩) ?_
   refine WalkE.nil ?_
   intro r82 uw0 w83 hF hEx
   obtain ⟨b49, key55, c56, sp57, e28, e29, hS50, hS63, H84⟩ := hF
   replace H84 := H84.ext hEx
   dsimp only
   rw [e28, e29]
   refine wnil ?_
   refine blockNormal ?_
   refine thenNormal ?_
   refine oneRegion ?_
   refine sM (i64 (i : Nat)) rfl ?_
   refine sq (r_addI (a := (i : Nat)) (b := (1 : Int)) rfl rfl (by omega)) ?_
   refine sA (i64 ((i : Nat) + (1 : Int))) rfl ?_
   refine wnil ?_
   refine thenNormal ?_
   exact ⟨(i + 1, key55, c56, sp57), _, rfl, ⟨rfl, rfl, rfl, rfl, rfl, rfl, trivial⟩, ⟨⟨by omega, hS63⟩, (H84.dropk 0)⟩, by show os.length - (i + 1) < os.length - i; omega⟩
 ·skip
  have hie : i = 64 := by omega
  rw [hie] at HL hS
  rw [hie]
  refine exitAny ?_
  refine thenExit ?_
  refine thenExit ?_
  refine blockHere ?_
  refine thenNormal ?_
  refine sR ?_
  refine sM (.slice (ownA key) (2 * 64) c) rfl ?_
  refine sA (.slice (ownA key) (2 * 64) c) rfl ?_
  refine wend ?_
  refine retAny ?_
  refine retG (rs := [.tmp 8]) (vs := [.slice (ownA key) (2 * 64) c]) rfl ⟨⟨rfl, rfl⟩, trivial⟩ ?_
  exact ⟨_, rfl, HL.resN (k := 0) rfl hS (by rw [repS_len]), HL.chg⟩
end Go.Proofs.YteofdmdpaejgaaaDoor.Gb
namespace Go.Proofs.YteofdmdpaejgaaaDoor.Er
open Go Go.Proofs.YteofdmdpaejgaaaDoor.Vc
theorem agg38 : isAgg' Tryd.prog 38 = true := by kernel_rfl
theorem arr38 : arr Tryd.prog 38 = some (2, 1) := by kernel_rfl
theorem byt32 : byt Tryd.prog 32 = some 8 := by kernel_rfl
theorem call64 : callable Tryd.prog 64 = true := by kernel_rfl
theorem call66 : callable Tryd.prog 66 = true := by kernel_rfl
theorem call97 : callable Tryd.prog 97 = true := by kernel_rfl
theorem fits32 : Fits Tryd.prog 32 E64 := fits64 (by kernel_rfl) (by kernel_rfl)
theorem fld141_0 : fld Tryd.prog 141 0 = some (0, 1, 22) := by kernel_rfl
theorem fld141_1 : fld Tryd.prog 141 1 = some (1, 1, 139) := by kernel_rfl
theorem fld141_2 : fld Tryd.prog 141 2 = some (2, 1, 3) := by kernel_rfl
theorem fld141_3 : fld Tryd.prog 141 3 = some (3, 1, 3) := by kernel_rfl
theorem one139 : isOne Tryd.prog 139 = true := by kernel_rfl
theorem one22 : isOne Tryd.prog 22 = true := by kernel_rfl
theorem pls141 : pls Tryd.prog 141 = some #[(0, 1), (1, 1), (2, 1), (3, 1)] := by kernel_rfl
theorem siz3 : siz Tryd.prog 3 = some 1 := by kernel_rfl
theorem siz38 : siz Tryd.prog 38 = some 2 := by kernel_rfl
theorem sli22 : sli Tryd.prog 22 = some (32, 1) := by kernel_rfl
theorem und139 : Tryd.prog.underlying 139 = some (.pointer 215) := by kernel_rfl
theorem und22 : Tryd.prog.underlying 22 = some (.slice 32) := by kernel_rfl
theorem zer141 : zer Tryd.prog 141 = some (.agg #[.slice none 0 0, .pointer none, .int .i64 0, .int .i64 0]) := by kernel_rfl
theorem zer32 : zer Tryd.prog 32 = some (.int .u64 0) := by kernel_rfl
theorem zer38 : zer Tryd.prog 38 = some (.agg (List.replicate 2 (.int .u64 0)).toArray) := by kernel_rfl
theorem clone64_ok (ws : List (BitVec 64)) (hroom : ws.length * 8 ≤ 140737488355328) (a0 : Option Addr) (n0 c0 : Nat) (hn0 : n0 = ws.length) (w : World) (hW : Rd E64 w a0 ws) : Calls Tryd.prog 66 [.slice a0 n0 c0].toArray w (Ret fun v w' => SlRes E64 32 ws w v w' ∧ Ext w w') := by
 subst hn0
 have H := Hp.start No w
 refine enter (n := 8) Tryd.func66 rfl rfl (bLe rfl) ?_
 refine sR ?_
 refine sA (.slice none 0 0) rfl ?_
 refine wend ?_
 refine seqAny ?_
 refine sR ?_
 refine sM (.slice a0 ws.length c0) rfl ?_
 refine sq (r_eqlSN und22 rfl rfl) ?_
 refine wend ?_
 refine condBool (a0.isNone) rfl (fun c4 => ?_) (fun c4 => ?_)
 ·skip
  refine sR ?_
  refine sA (.slice none 0 0) rfl ?_
  refine wend ?_
  refine retAny ?_
  refine thenRet ?_
  refine retG (rs := [.tmp 2]) (vs := [.slice none 0 0]) rfl ⟨⟨rfl, rfl⟩, trivial⟩ ?_
  obtain rfl := nilOfRd hW c4
  exact ⟨_, rfl, ⟨none, 0, [], rfl, Sl.none, fun _ h => by cases h⟩, H.chg⟩
 ·skip
  refine skipAny ?_
  refine thenNormal ?_
  refine sR ?_
  refine q_buildSlice (E := E64) (l := []) H sli22 zer32 (bLe rfl) (ps := []) rfl (by exact fillAll rfl rfl) rfl ?_
  intro b1 w3 hS2 H4 hE5
  refine sM (.slice a0 ws.length c0) rfl ?_
  refine q_append (E := E64) (k := 0) (l := []) (l2 := ws) H4 rfl hS2 sli22 zer32 rfl byt32 (hW.ext H4.chg) rfl (by rfl) rfl (by rfl) (by omega) ?_
  intro key6 c7 sp8 w10 hS9 hne12 H11
  have H11' := H11.as (L' := [(key6, sob E64 32 (([]) ++ ws) sp8)]) rfl
  clear H11
  have e13 : ([]) ++ ws = ws := by rw [List.nil_append]
  have hS14 := hS9
  rw [e13] at hS14
  have H15 := H11'.as (L' := [(key6, sob E64 32 ws sp8)]) (by rw [e13])
  refine sA (.slice (ownA key6) (0 + ws.length) c7) rfl ?_
  refine wend ?_
  refine retAny ?_
  refine retG (rs := [.tmp 2]) (vs := [.slice (ownA key6) (0 + ws.length) c7]) rfl ⟨⟨rfl, rfl⟩, trivial⟩ ?_
  exact ⟨_, rfl, H15.resN (k := 0) rfl hS14 (Nat.zero_add _), H15.chg⟩
theorem load_ok (ws : List (BitVec 64)) (hroom : ws.length * 8 ≤ 140737488355328) (a0 : Option Addr) (n0 c0 : Nat) (hn0 : n0 = ws.length) (w : World) (hW : Rd E64 w a0 ws) : Calls Tryd.prog 17 [.slice a0 n0 c0].toArray w (Ret fun v w' => (∃ b key c sp, v = pT b ∧ Sl E64 key ws c sp ∧ Hp No w w' [(some b, .cells #[.slice (ownA key) ws.length c, .pointer none, i64 (ws.length : Nat), i64 (0 : Nat)] 141 (0, 0)), (key, sob E64 32 ws sp)]) ∧ Ext w w') := by
 subst hn0
 have H := Hp.start No w
 refine enter (n := 9) Tryd.func17 rfl rfl (bLe rfl) ?_
 refine sR ?_
 refine sA (.pointer none) rfl ?_
 refine wend ?_
 refine sR ?_
 refine sM (.slice a0 ws.length c0) rfl ?_
 refine c_call (vs := [.slice a0 ws.length c0]) call66 rfl (clone64_ok ws (by omega) a0 ws.length c0 (by rfl) w (hW.ext H.chg)) ?_
 rintro _ w1 ⟨⟨key3, c4, sp5, rfl, hS6, hk7⟩, hE8⟩
 rw [show ws.length = ws.length from rfl]
 have H9 := H.add hE8 hk7
 refine sM (.slice a0 ws.length c0) rfl ?_
 refine sq (r_lenS sli22 (a := a0) (m := ws.length) (c := c0) rfl) ?_
 refine sq (r_build (cs' := #[.slice (ownA key3) ws.length c4, .pointer none, i64 (ws.length : Nat), i64 ((0 : Int))]) (ps := [(0, .slice (ownA key3) ws.length c4), (2, i64 (ws.length : Nat))]) zer141 pls141 rfl (by rfl)) ?_
 refine q_box (v := .agg #[.slice (ownA key3) ws.length c4, .pointer none, i64 (ws.length : Nat), i64 ((0 : Int))]) (o := .cells #[.slice (ownA key3) ws.length c4, .pointer none, i64 (ws.length : Nat), i64 ((0 : Int))] 141 (0, 0)) H9 rfl (by rfl) ?_
 intro b10 w11 hb10 H12 hE13
 refine sA (pT b10) rfl ?_
 refine wend ?_
 refine retAny ?_
 refine retG (rs := [.tmp 2]) (vs := [pT b10]) rfl ⟨⟨rfl, rfl⟩, trivial⟩ ?_
 exact ⟨_, rfl, ⟨b10, key3, c4, sp5, rfl, hS6, H12⟩, H12.chg⟩
theorem left_ok (b n u : Nat) (x0 x1 : Value) (w : World) (hb : w.heap[b]? = some (.cells #[x0, x1, i64 (n : Nat), i64 (u : Nat)] 141 (0, 0))) (hu : u ≤ n) (hn : n ≤ 140737488355328) : Calls Tryd.prog 64 [pT b].toArray w (Ret fun v w' => v = i64 ((n : Nat) - (u : Nat)) ∧ Ext w w') := by
 have H := Hp.start No w
 refine enter (n := 12) Tryd.func64 rfl rfl (bLe rfl) ?_
 refine sR ?_
 refine sA (i64 ((0 : Int))) rfl ?_
 refine wend ?_
 refine seqAny ?_
 refine drawAny (K := [none, none, none, none, none, none, none, none, none, none]) [0, 1, 3, 7, 0, 16, 48, 112, 255, 511] (fun w' => Ext w w') (fun w' w'' => Ext w' w'') mixed (by kernel_rfl) (Ext.drew _) (fun _ _ h h' => h.trans h') ?_ ?_
 ·exact relNone (by decide)
 refine ⟨pT b, fun _ uw1 hC2 _ => Gives.run rfl (r_move (v := pT b) rfl) ⟨rfl, Chg.refl _ _⟩, ?_⟩
 refine ⟨pT b, fun _ uw3 hC4 _ => Gives.run rfl (r_nilCheck rfl) ⟨rfl, Chg.refl _ _⟩, ?_⟩
 refine ⟨.pointer (some ⟨b, 2, none⟩), fun _ uw5 hC6 _ => Gives.run rfl (r_fieldAddr (off' := 2) fld141_2 (by decide) (b := b) (off := 0) rfl (by omega)) ⟨rfl, Chg.refl _ _⟩, ?_⟩
 refine ⟨i64 (n : Nat), fun _ uw7 hC8 _ => Gives.run rfl (r_loadC (v := i64 (n : Nat)) one3 ((H.ext hC8).keepE hb) (off := 2) rfl (by rfl)) ⟨rfl, Chg.refl _ _⟩, ?_⟩
 refine ⟨pT b, fun _ uw9 hC10 _ => Gives.run rfl (r_move (v := pT b) rfl) ⟨rfl, Chg.refl _ _⟩, ?_⟩
 refine ⟨pT b, fun _ uw11 hC12 _ => Gives.run rfl (r_nilCheck rfl) ⟨rfl, Chg.refl _ _⟩, ?_⟩
 refine ⟨.pointer (some ⟨b, 3, none⟩), fun _ uw13 hC14 _ => Gives.run rfl (r_fieldAddr (off' := 3) fld141_3 (by decide) (b := b) (off := 0) rfl (by omega)) ⟨rfl, Chg.refl _ _⟩, ?_⟩
 refine ⟨i64 (u : Nat), fun _ uw15 hC16 _ => Gives.run rfl (r_loadC (v := i64 (u : Nat)) one3 ((H.ext hC16).keepE hb) (off := 3) rfl (by rfl)) ⟨rfl, Chg.refl _ _⟩, ?_⟩
 refine ⟨i64 ((n : Nat) - (u : Nat)), fun _ uw17 hC18 _ => Gives.run rfl (r_subI (a := (n : Nat)) (b := (u : Nat)) rfl rfl (by omega)) ⟨rfl, Chg.refl _ _⟩, ?_⟩
 refine ⟨i64 ((n : Nat) - (u : Nat)), fun _ uw19 hC20 _ => Gives.run rfl (r_assign (v := i64 ((n : Nat) - (u : Nat))) rfl) ⟨rfl, Chg.refl _ _⟩, ?_⟩
 intro r24 w21 hE23 hF
 have H22 := H.ext hE23
 refine wnil ?_
 refine thenNormal ?_
 refine retAny ?_
 refine retG (rs := [.tmp 2]) (vs := [i64 ((n : Nat) - (u : Nat))]) rfl ⟨⟨rfl, rfl⟩, trivial⟩ ?_
 exact ⟨_, rfl, rfl, H22.chg⟩
theorem next_hit (b c u : Nat) (a : Option Addr) (ws : List (BitVec 64)) (w : World) (hb : w.heap[b]? = some (.cells #[.slice a ws.length c, .pointer none, i64 (ws.length : Nat), i64 (u : Nat)] 141 (0, 0))) (hR : ∀ w', Chg (· = b) w w' → Rd E64 w' a ws) (hlen : ws.length ≤ 140737488355328) (hu : u < ws.length) : Calls Tryd.prog 97 [pT b].toArray w (Ret fun v w' => v = .tuple #[u64 (ws.getD u 0#64), .nilIface] ∧ Chg (· = b) w w' ∧ w'.heap[b]? = some (.cells #[.slice a ws.length c, .pointer none, i64 (ws.length : Nat), i64 ((u + 1 : Nat))] 141 (0, 0))) := by
 have H := Hp.start1 (M := (· = b)) rfl hb
 refine enter (n := 50) Tryd.func97 rfl rfl (bLe rfl) ?_
 refine sR ?_
 refine sA (u64 (0#64)) rfl ?_
 refine sA (.nilIface) rfl ?_
 refine wend ?_
 refine seqAny ?_
 refine seqAny ?_
 refine drawAny (K := [none, none, none, none, none, none, none, none, none]) [0, 1, 3, 7, 0, 16, 48, 112, 255] (fun w' => Ext w w') (fun w' w'' => Ext w' w'') mixed (by kernel_rfl) (Ext.drew _) (fun _ _ h h' => h.trans h') ?_ ?_
 ·exact relNone (by decide)
 refine ⟨pT b, fun _ uw1 hC2 _ => Gives.run rfl (r_move (v := pT b) rfl) ⟨rfl, Chg.refl _ _⟩, ?_⟩
 refine ⟨pT b, fun _ uw3 hC4 _ => Gives.run rfl (r_nilCheck rfl) ⟨rfl, Chg.refl _ _⟩, ?_⟩
 refine ⟨.pointer (some ⟨b, 3, none⟩), fun _ uw5 hC6 _ => Gives.run rfl (r_fieldAddr (off' := 3) fld141_3 (by decide) (b := b) (off := 0) rfl (by omega)) ⟨rfl, Chg.refl _ _⟩, ?_⟩
 refine ⟨i64 (u : Nat), fun _ uw7 hC8 _ => Gives.run rfl (r_loadC (v := i64 (u : Nat)) one3 ((H.ext hC8).get (k := 0) rfl) (off := 3) rfl (by rfl)) ⟨rfl, Chg.refl _ _⟩, ?_⟩
 refine ⟨pT b, fun _ uw9 hC10 _ => Gives.run rfl (r_move (v := pT b) rfl) ⟨rfl, Chg.refl _ _⟩, ?_⟩
 refine ⟨pT b, fun _ uw11 hC12 _ => Gives.run rfl (r_nilCheck rfl) ⟨rfl, Chg.refl _ _⟩, ?_⟩
 refine ⟨.pointer (some ⟨b, 2, none⟩), fun _ uw13 hC14 _ => Gives.run rfl (r_fieldAddr (off' := 2) fld141_2 (by decide) (b := b) (off := 0) rfl (by omega)) ⟨rfl, Chg.refl _ _⟩, ?_⟩
 refine ⟨i64 (ws.length : Nat), fun _ uw15 hC16 _ => Gives.run rfl (r_loadC (v := i64 (ws.length : Nat)) one3 ((H.ext hC16).get (k := 0) rfl) (off := 2) rfl (by rfl)) ⟨rfl, Chg.refl _ _⟩, ?_⟩
 refine ⟨.bool (decide (((ws.length : Nat) : Int) ≤ (u : Nat))), fun _ uw17 hC18 _ => Gives.run rfl (r_geqI (a := (u : Nat)) (b := (ws.length : Nat)) rfl rfl) ⟨rfl, Chg.refl _ _⟩, ?_⟩
 intro r22 w19 hE21 hF
 have H20 := H.ext hE21
 refine wnil ?_
 refine thenNormal ?_
 refine condProp (((ws.length : Nat) : Int) ≤ (u : Nat)) rfl (fun c13 => ?_) (fun c13 => ?_)
 ·skip
  exfalso
  omega
 ·skip
  refine skipAny ?_
  refine thenNormal ?_
  refine sR ?_
  refine sM (pT b) rfl ?_
  refine sq (r_nilCheck rfl) ?_
  refine sq (r_fieldAddr (off' := 3) fld141_3 (by decide) (b := b) (off := 0) rfl (by omega)) ?_
  refine sq (r_loadC (v := i64 (u : Nat)) one3 (H20.get (k := 0) rfl) (off := 3) rfl (by rfl)) ?_
  refine sA (i64 (u : Nat)) rfl ?_
  refine wend ?_
  refine sR ?_
  refine sM (pT b) rfl ?_
  refine sq (r_nilCheck rfl) ?_
  refine sq (r_fieldAddr (off' := 3) fld141_3 (by decide) (b := b) (off := 0) rfl (by omega)) ?_
  refine sq (r_loadC (v := i64 (u : Nat)) one3 (H20.get (k := 0) rfl) (off := 3) rfl (by rfl)) ?_
  refine sq (r_addI (a := (u : Nat)) (b := (1 : Int)) rfl rfl (by omega)) ?_
  refine sq (r_nilCheck rfl) ?_
  refine sq (r_fieldAddr (off' := 3) fld141_3 (by decide) (b := b) (off := 0) rfl (by omega)) ?_
  refine d_store (k := 0) (v := i64 ((u : Nat) + (1 : Int))) (cs' := #[.slice a ws.length c, .pointer none, i64 (ws.length : Nat), i64 ((u : Nat) + (1 : Int))]) H20 rfl rfl rfl siz3 (by rfl) (by exact EI.one _) (by exact bLe rfl) (by rfl) ?_
  intro w23 H24 hC25
  have H24' := H24.as (L' := [(some b, .cells #[.slice a ws.length c, .pointer none, i64 (ws.length : Nat), i64 ((u : Nat) + (1 : Int))] 141 (0, 0))]) rfl
  clear H24
  refine wend ?_
  refine seqAny ?_
  refine sR ?_
  refine sM (pT b) rfl ?_
  refine sq (r_nilCheck rfl) ?_
  refine sq (r_fieldAddr (off' := 1) fld141_1 (by decide) (b := b) (off := 0) rfl (by omega)) ?_
  refine sq (r_loadC (v := .pointer none) one139 (H24'.get (k := 0) rfl) (off := 1) rfl (by rfl)) ?_
  refine sq (r_neqPO und139 rfl rfl) ?_
  refine wend ?_
  refine condFalse rfl ?_
  refine skipAny ?_
  refine thenNormal ?_
  refine sR ?_
  refine sM (pT b) rfl ?_
  refine sq (r_nilCheck rfl) ?_
  refine sq (r_fieldAddr (off' := 0) fld141_0 (by decide) (b := b) (off := 0) rfl (by omega)) ?_
  refine sq (r_loadC (v := .slice a ws.length c) one22 (H24'.get (k := 0) rfl) (off := 0) rfl (by rfl)) ?_
  refine sM (i64 (u : Nat)) rfl ?_
  refine sq (r_idxS (E := E64) (l := ws) (j := u) sli22 (hR _ H24'.chg) rfl rfl (by first | rfl | omega | (simp; omega)) (by rfl) (by omega)) ?_
  refine sq (r_ldS (E := E64) (l := ws) (j := u) (v := (ws).getD u 0#64) fits32 (hR _ H24'.chg) rfl rfl (at_getD (by omega))) ?_
  refine sA (u64 ((ws).getD u 0#64)) rfl ?_
  refine sA (.nilIface) rfl ?_
  refine wend ?_
  refine retAny ?_
  refine retG (rs := [.tmp 2, .tmp 3]) (vs := [u64 ((ws).getD u 0#64), .nilIface]) rfl ⟨⟨rfl, rfl⟩, ⟨rfl, rfl⟩, trivial⟩ ?_
  exact ⟨_, rfl, rfl, H24'.chg, H24'.get (k := 0) rfl⟩
end Go.Proofs.YteofdmdpaejgaaaDoor.Er
