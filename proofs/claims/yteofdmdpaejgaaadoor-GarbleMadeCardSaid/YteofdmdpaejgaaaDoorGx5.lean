/- What the claim has need of: Garb4, Garb5, Garb6, Garb7, Garb9, Cm, Cm2, Cm3, Cm4, Cm5. -/
import Derived.Test.YteofdmdpaejgaaaDoorGx4
import Derived.Laws.CopyRow
import Derived.Laws.IdiomCopy
namespace Go.Proofs.YteofdmdpaejgaaaDoor.Gb
open Go Go.Proofs.YteofdmdpaejgaaaDoor.Vc Go.Proofs.YteofdmdpaejgaaaDoor.Er Go.Proofs.YteofdmdpaejgaaaDoor.Circ
set_option linter.unusedVariables false
theorem call32 : callable Tryd.prog 32 = true := by kernel_rfl
set_option maxRecDepth 20000 in
set_option maxHeartbeats 16000000 in
theorem eval_ok (n : Int) (gs : List Gt) (ol : List Int) (ga oa : Option Addr) (gc oc : Nat) (ls tb : List Lb) (lsa tsa : Option Addr) (lsc tsc : Nat) (first : BitVec 64) (w : World) (hG : Gl w) (hGs : Rd EG w ga gs) (hOl : Rd EI w oa ol) (hgl : gs.length ≤ 140737488355328) (hol : ol.length ≤ 140737488355328) (hLs : Rd ELb w lsa ls) (hTb : Rd ELb w tsa tb) (hg : IsC n gs ol) (hm : (ls.length : Int) = n) (hc : tb.length = 2 * andsS gs gs.length) : Calls Tryd.prog 46 [.agg #[i64 n, .slice ga gs.length gc, .slice oa ol.length oc], .slice lsa ls.length lsc, .slice tsa tb.length tsc, u64 first].toArray w (Ret fun v w' => ∃ (k1 : Option Nat) (c1 : Nat) (z1 : List Value), v = .tuple #[.slice (ownA k1) ol.length c1, .nilIface] ∧ Sl ELb k1 (oL (eS lhash first gs tb ls gs.length).1 ol ol.length) c1 z1 ∧ Hp No w w' [(k1, sob ELb 38 (oL (eS lhash first gs tb ls gs.length).1 ol ol.length) z1)]) := by
 subst hm
 have hgt := hg.gates
 have hot := hg.outs
 have hhi := hg.hi
 have han := andsS_le gs gs.length
 have H := Hp.start No w
 refine enter (n := 122) Tryd.func46 rfl rfl (bLe rfl) ?_
 refine sR ?_
 refine q_box (v := .agg #[i64 (ls.length : Nat), .slice ga gs.length gc, .slice oa ol.length oc]) (o := .cells #[i64 (ls.length : Nat), .slice ga gs.length gc, .slice oa ol.length oc] 70 (0, 0)) H rfl (by rfl) ?_
 intro b1 w2 hb1 H3 hE4
 refine sA (.slice none 0 0) rfl ?_
 refine sA (.nilIface) rfl ?_
 refine wend ?_
 refine seqAny ?_
 refine sR ?_
 refine sq (r_loadA (cs' := #[i64 (ls.length : Nat), .slice ga gs.length gc, .slice oa ol.length oc]) agg70 siz70 (H3.get (k := 0) rfl) (off := 0) rfl (by exact bLe rfl) (by rfl)) ?_
 refine sM (.slice lsa ls.length lsc) rfl ?_
 refine sq (r_lenS sli92 (a := lsa) (m := ls.length) (c := lsc) rfl) ?_
 refine c_call (vs := [.agg #[i64 (ls.length : Nat), .slice ga gs.length gc, .slice oa ol.length oc], i64 (ls.length : Nat)]) call83 rfl (look_good (ls.length : Nat) gs ol ga oa gc oc ls.length w2 (Chg.gl H3.chg (fun x => x) hG) (hGs.ext H3.chg) (hOl.ext H3.chg) (by omega) (by omega) hg (by omega)) ?_
 rintro _ w5 ⟨rfl, hE6⟩
 have H7 := H3.ext hE6
 refine sA (.nilIface) rfl ?_
 refine wend ?_
 refine sR ?_
 refine sM (.nilIface) rfl ?_
 refine sq (r_neqNN isI27 rfl rfl) ?_
 refine wend ?_
 refine condFalse rfl ?_
 refine skipAny ?_
 refine thenNormal ?_
 refine seqAny ?_
 refine sR ?_
 refine sM (.slice tsa tb.length tsc) rfl ?_
 refine sq (r_lenS sli92 (a := tsa) (m := tb.length) (c := tsc) rfl) ?_
 refine sq (r_loadA (cs' := #[i64 (ls.length : Nat), .slice ga gs.length gc, .slice oa ol.length oc]) agg70 siz70 (H7.get (k := 0) rfl) (off := 0) rfl (by exact bLe rfl) (by rfl)) ?_
 refine c_call (vs := [.agg #[i64 (ls.length : Nat), .slice ga gs.length gc, .slice oa ol.length oc]]) call32 rfl (ands_ok (ls.length : Nat) gs ol ga oa gc oc w5 (hGs.ext H7.chg) (by omega)) ?_
 rintro _ w8 ⟨rfl, hE9⟩
 have H10 := H7.ext hE9
 refine sq ((r_mulI (a := (2 : Int)) (b := (andsS gs gs.length : Nat)) rfl rfl (by omega)).as (v' := i64 (((2 * andsS gs gs.length) : Nat))) (by rfl)) ?_
 refine sq ((r_neqI (a := (tb.length : Nat)) (b := ((2 * andsS gs gs.length) : Nat)) rfl rfl).as (v' := .bool (false)) (by exact congrArg Value.bool (decide_eq_false (by omega)))) ?_
 refine wend ?_
 refine condFalse rfl ?_
 refine skipAny ?_
 refine thenNormal ?_
 refine sR ?_
 refine c_call (vs := []) call85 rfl (Aes.fixed_ok w8) ?_
 rintro _ w11 ⟨⟨b13, rfl, hb14, ho15⟩, hE16⟩
 have H17 := H10.add1 hE16 hb14 ho15
 refine sA (pT b13) rfl ?_
 refine wend ?_
 refine sR ?_
 refine sq (r_fieldAddr (off' := 0) fld70_0 (by decide) (b := b1) (off := 0) rfl (by omega)) ?_
 refine sq (r_loadC (v := i64 (ls.length : Nat)) one3 (H17.get (k := 1) rfl) (off := 0) rfl (by rfl)) ?_
 refine sq (r_fieldAddr (off' := 1) fld70_1 (by decide) (b := b1) (off := 0) rfl (by omega)) ?_
 refine sq (r_loadC (v := .slice ga gs.length gc) one68 (H17.get (k := 1) rfl) (off := 1) rfl (by rfl)) ?_
 refine sq (r_lenS sli68 (a := ga) (m := gs.length) (c := gc) rfl) ?_
 refine sq ((r_addI (a := (ls.length : Nat)) (b := (gs.length : Nat)) rfl rfl (by omega)).as (v' := i64 (((ls.length + gs.length) : Nat))) (by rfl)) ?_
 refine q_makeSlice (E := ELb) (m := 0) (c := (ls.length + gs.length)) (z0 := lb0) H17 sli92 zer38 rfl byt38 rfl rfl (by first | rfl | omega | (simp; omega)) (by first | rfl | omega | (simp; omega)) (by omega) (by omega) ?_
 intro b18 w20 hS19 H21 hE22
 refine sM (.slice lsa ls.length lsc) rfl ?_
 refine q_append (E := ELb) (k := 0) (l := List.replicate 0 lb0) (l2 := ls) H21 rfl hS19 sli92 zer38 rfl byt38 (hLs.ext H21.chg) rfl (by simp) rfl (by rfl) (by omega) ?_
 intro key23 c24 sp25 w27 hS26 hne29 H28
 have H28' := H28.as (L' := [(key23, sob ELb 38 ((List.replicate 0 lb0) ++ ls) sp25), (some b13, .cells (cel E8 (AesSpec.cipher AesSpec.fixKey)).toArray 215 (0, 0)), (some b1, .cells #[i64 (ls.length : Nat), .slice ga gs.length gc, .slice oa ol.length oc] 70 (0, 0))]) rfl
 clear H28
 have e30 : (List.replicate 0 lb0) ++ ls = ls := by rfl
 have hS31 := hS26
 rw [e30] at hS31
 have H32 := H28'.as (L' := [(key23, sob ELb 38 ls sp25), (some b13, .cells (cel E8 (AesSpec.cipher AesSpec.fixKey)).toArray 215 (0, 0)), (some b1, .cells #[i64 (ls.length : Nat), .slice ga gs.length gc, .slice oa ol.length oc] 70 (0, 0))]) (by rw [e30])
 refine sA (.slice (ownA key23) (0 + ls.length) c24) rfl ?_
 refine wend ?_
 refine sR ?_
 refine sA (i64 ((0 : Int))) rfl ?_
 refine wend ?_
 refine seqAny ?_
 refine sR ?_
 refine sq (r_fieldAddr (off' := 1) fld70_1 (by decide) (b := b1) (off := 0) rfl (by omega)) ?_
 refine sq (r_loadC (v := .slice ga gs.length gc) one68 (H32.get (k := 2) rfl) (off := 1) rfl (by rfl)) ?_
 refine sq (r_lenS sli68 (a := ga) (m := gs.length) (c := gc) rfl) ?_
 refine sM (i64 ((0 : Int))) rfl ?_
 refine wend ?_
 refine blockAny ?_
 refine loopAny (σ := Nat × Option Nat × Nat × List Value × Nat) (fun (i, k1, c1, z1, m) => [(2, .slice tsa tb.length tsc), (3, u64 (first)), (4, pT b1), (11, pT b13), (12, .slice (ownA k1) (ls.length + i) c1), (13, i64 (m : Nat)), (49, .slice ga gs.length gc), (50, i64 (gs.length : Nat)), (51, i64 (i : Nat))]) (fun (i, k1, c1, z1, m) w' => (i ≤ gs.length ∧ Sl ELb k1 (eS lhash first gs tb ls i).1 c1 z1 ∧ m = (eS lhash first gs tb ls i).2) ∧ Hp No w w' [(k1, sob ELb 38 ((eS lhash first gs tb ls i).1) z1), (some b1, .cells #[i64 (ls.length : Nat), .slice ga gs.length gc, .slice oa ol.length oc] 70 (0, 0)), (some b13, .cells (cel E8 (AesSpec.cipher AesSpec.fixKey)).toArray 215 (0, 0))]) (fun (i, k1, c1, z1, m) => gs.length - i) ((0, key23, c24, sp25, 0)) ?_ ?_ ?_
 ·exact ⟨rfl, rfl, rfl, rfl, congrArg (fun q => Value.slice _ q _) (by omega), rfl, rfl, rfl, rfl, trivial⟩
 ·exact ⟨⟨Nat.zero_le _, hS31, rfl⟩, (H32.pick 3 [0, 2, 1] (by decide) (by decide))⟩
 rintro ⟨i, k1, c1, z1, m⟩ ρ w33 ⟨⟨hi, h1, rfl⟩, HL⟩
 have hwl := eS_len (h := lhash) (first := first) (gs := gs) (tb := tb) (ls := ls) i
 have hnx := eS_next (h := lhash) (first := first) (gs := gs) (tb := tb) (ls := ls) i
 refine sR ?_
 refine sq (r_lssI (a := (i : Nat)) (b := (gs.length : Nat)) rfl rfl) ?_
 refine wend ?_
 refine seqAny ?_
 refine condProp (((i : Nat) : Int) < (gs.length : Nat)) rfl (fun c52 => ?_) (fun c52 => ?_)
 ·skip
  have hgi := hg.gok i (by omega)
  unfold gokP at hgi
  refine skipAny ?_
  refine thenNormal ?_
  refine seqAny ?_
  refine blockAny ?_
  refine sR ?_
  refine sq (r_idxS (E := EG) (l := gs) (j := i) sli68 (hGs.ext HL.chg) rfl rfl (by first | rfl | omega | (simp; omega)) (by rfl) (by omega)) ?_
  refine sq ((r_ldS (E := EG) (l := gs) (j := i) (v := (gs).getD i g0) fits99 (hGs.ext HL.chg) rfl rfl (at_getD (by omega))).as (v' := .agg #[i64 (((gs).getD i g0).k), i64 (((gs).getD i g0).a), i64 (((gs).getD i g0).b)]) rfl) ?_
  refine q_alloc (o := .cells #[i64 ((0 : Int)), i64 ((0 : Int)), i64 ((0 : Int))] 99 (0, 0)) HL zer99 (by kernel_rfl) ?_
  intro b35 w36 hb35 H37 hE38
  refine d_store (k := 0) (v := .agg #[i64 (((gs).getD i g0).k), i64 (((gs).getD i g0).a), i64 (((gs).getD i g0).b)]) (cs' := #[i64 (((gs).getD i g0).k), i64 (((gs).getD i g0).a), i64 (((gs).getD i g0).b)]) H37 rfl rfl rfl siz99 (by rfl) (by intro u hu; simp [Value.cells] at hu; first | (subst hu; rfl) | (rcases hu with rfl | rfl | rfl <;> rfl)) (by exact bLe rfl) (by rfl) ?_
  intro w39 H40 hC41
  have H40' := H40.as (L' := [(some b35, .cells #[i64 (((gs).getD i g0).k), i64 (((gs).getD i g0).a), i64 (((gs).getD i g0).b)] 99 (0, 0)), (k1, sob ELb 38 ((eS lhash first gs tb ls i).1) z1), (some b1, .cells #[i64 (ls.length : Nat), .slice ga gs.length gc, .slice oa ol.length oc] 70 (0, 0)), (some b13, .cells (cel E8 (AesSpec.cipher AesSpec.fixKey)).toArray 215 (0, 0))]) rfl
  clear H40
  refine wend ?_
  refine sR ?_
  refine sM (.slice (ownA k1) (ls.length + i) c1) rfl ?_
  refine sq (r_fieldAddr (off' := 1) fld99_1 (by decide) (b := b35) (off := 0) rfl (by omega)) ?_
  refine sq (r_loadC (v := i64 (((gs).getD i g0).a)) one3 (H40'.get (k := 0) rfl) (off := 1) rfl (by rfl)) ?_
  refine sq (r_idxS (E := ELb) (l := (eS lhash first gs tb ls i).1) (j := (gs.getD i g0).a.toNat) sli92 (H40'.rd (k := 1) rfl h1) rfl rfl (by omega) (by rw [eS_len]) (by omega)) ?_
  refine sq ((r_ldS (E := ELb) (l := (eS lhash first gs tb ls i).1) (j := (gs.getD i g0).a.toNat) (v := ((eS lhash first gs tb ls i).1).getD ((gs.getD i g0).a.toNat) lb0) fits38 (H40'.rd (k := 1) rfl h1) rfl rfl (at_getD (by omega))).as (v' := .agg (cel E64 [(((eS lhash first gs tb ls i).1).getD ((gs.getD i g0).a.toNat) lb0).1, (((eS lhash first gs tb ls i).1).getD ((gs.getD i g0).a.toNat) lb0).2]).toArray) rfl) ?_
  refine q_alloc (o := .cells (cel E64 ([0#64, 0#64])).toArray 38 (0, 0)) H40' zer38 (by kernel_rfl) ?_
  intro b42 w43 hb42 H44 hE45
  refine d_store (k := 0) (v := .agg (cel E64 [(((eS lhash first gs tb ls i).1).getD ((gs.getD i g0).a.toNat) lb0).1, (((eS lhash first gs tb ls i).1).getD ((gs.getD i g0).a.toNat) lb0).2]).toArray) (cs' := (cel E64 ([(((eS lhash first gs tb ls i).1).getD ((gs.getD i g0).a.toNat) lb0).1, (((eS lhash first gs tb ls i).1).getD ((gs.getD i g0).a.toNat) lb0).2])).toArray) H44 rfl rfl rfl siz38 (by exact celSize (by first | rfl | (show _ * 1 = _; omega))) (by exact celOne _) (by rw [List.size_toArray, cel_length]; show _ ≤ _ * 1; first | omega | (simp only [List.length_set]; omega) | exact bLe rfl | (simp <;> omega)) (by exact putAll (by first | rfl | omega | (simp <;> omega))) ?_
  intro w46 H47 hC48
  have H47' := H47.as (L' := [(some b42, lO (((eS lhash first gs tb ls i).1).getD ((gs.getD i g0).a.toNat) lb0)), (some b35, .cells #[i64 (((gs).getD i g0).k), i64 (((gs).getD i g0).a), i64 (((gs).getD i g0).b)] 99 (0, 0)), (k1, sob ELb 38 ((eS lhash first gs tb ls i).1) z1), (some b1, .cells #[i64 (ls.length : Nat), .slice ga gs.length gc, .slice oa ol.length oc] 70 (0, 0)), (some b13, .cells (cel E8 (AesSpec.cipher AesSpec.fixKey)).toArray 215 (0, 0))]) rfl
  clear H47
  obtain ⟨la, hla⟩ : ∃ x : Lb, x = (((eS lhash first gs tb ls i).1).getD (gs.getD i g0).a.toNat lb0) := ⟨_, rfl⟩
  rw [← hla] at H47' ⊢
  refine wend ?_
  refine seqAny ?_
  refine sR ?_
  refine sq (r_fieldAddr (off' := 0) fld99_0 (by decide) (b := b35) (off := 0) rfl (by omega)) ?_
  refine sq (r_loadC (v := i64 (((gs).getD i g0).k)) one97 (H47'.get (k := 1) rfl) (off := 0) rfl (by rfl)) ?_
  refine wend ?_
  refine blockAny ?_
  refine sR ?_
  refine sq (r_eqlI (a := ((gs).getD i g0).k) (b := (1 : Int)) rfl rfl) ?_
  refine sA (.bool (decide ((((gs).getD i g0).k : Int) = (1 : Int)))) rfl ?_
  refine wend ?_
  refine condProp ((((gs).getD i g0).k : Int) = (1 : Int)) rfl (fun hk1 => ?_) (fun hk1 => ?_)
  ·skip
   have hk := hk1
   refine drawE (m := 8) [0, 0, 0, 4, 14, 30, 63, 127] [7] (fun bs vs w' => match bs, vs with | [false], [_] => Hp No w w' [(some b42, lO (la)), (some b35, .cells #[i64 (((gs).getD i g0).k), i64 (((gs).getD i g0).a), i64 (((gs).getD i g0).b)] 99 (0, 0)), (k1, sob ELb 38 ((eS lhash first gs tb ls i).1) z1), (some b1, .cells #[i64 (ls.length : Nat), .slice ga gs.length gc, .slice oa ol.length oc] 70 (0, 0)), (some b13, .cells (cel E8 (AesSpec.cipher AesSpec.fixKey)).toArray 215 (0, 0))] | [true], [_] => Hp No w w' [(some b42, lO (lx la (((eS lhash first gs tb ls i).1).getD ((gs.getD i g0).b.toNat) lb0))), (some b35, .cells #[i64 (((gs).getD i g0).k), i64 (((gs).getD i g0).a), i64 (((gs).getD i g0).b)] 99 (0, 0)), (k1, sob ELb 38 ((eS lhash first gs tb ls i).1) z1), (some b1, .cells #[i64 (ls.length : Nat), .slice ga gs.length gc, .slice oa ol.length oc] 70 (0, 0)), (some b13, .cells (cel E8 (AesSpec.cipher AesSpec.fixKey)).toArray 215 (0, 0))] | _, _ => False) mixed (by kernel_rfl) (by kernel_rfl) H47'.drew ?_
   refine WalkE.look rfl (fun _ => lV (la)) (fun _ _ _ => rfl) (fun L r uw0 uw hAn hDn hF hEx => ?_) ?_
   ·skip
    have b7 := hDn 7 (by decide) rfl
    have hb : List.map L [7] = [false] := by simp only [List.map_cons, List.map_nil, b7]
    rw [hb] at hF
    have HH := hF
    replace HH := HH.ext hEx
    exact Gives.run rfl (r_loadA (cs' := (cel E64 ([(la).1, (la).2])).toArray) agg38 siz38 (HH.get (k := 0) rfl) (off := 0) rfl (by exact bLe rfl) (by exact ext_all rfl)) ⟨rfl, rfl⟩
   refine WalkE.look rfl (fun _ => .slice (ownA k1) (ls.length + i) c1) (fun _ _ _ => rfl) (fun L r _ uw _ _ _ _ => Gives.run rfl (r_move (v := .slice (ownA k1) (ls.length + i) c1) rfl) ⟨rfl, rfl⟩) ?_
   refine WalkE.look rfl (fun _ => .pointer (some ⟨b35, 2, none⟩)) (fun _ _ _ => rfl) (fun L r _ uw _ _ _ _ => Gives.run rfl (r_fieldAddr (off' := 2) fld99_2 (by decide) (b := b35) (off := 0) rfl (by omega)) ⟨rfl, rfl⟩) ?_
   refine WalkE.look rfl (fun _ => i64 (((gs).getD i g0).b)) (fun _ _ _ => rfl) (fun L r uw0 uw hAn hDn hF hEx => ?_) ?_
   ·skip
    have b7 := hDn 7 (by decide) rfl
    have hb : List.map L [7] = [false] := by simp only [List.map_cons, List.map_nil, b7]
    rw [hb] at hF
    have HH := hF
    replace HH := HH.ext hEx
    exact Gives.run rfl (r_loadC (v := i64 (((gs).getD i g0).b)) one3 (HH.get (k := 1) rfl) (off := 2) rfl (by rfl)) ⟨rfl, rfl⟩
   refine WalkE.look rfl (fun _ => .pointer (adr (ownA k1) (((gs.getD i g0).b.toNat) * 2))) (fun _ _ _ => rfl) (fun L r uw0 uw hAn hDn hF hEx => ?_) ?_
   ·skip
    have b7 := hDn 7 (by decide) rfl
    have hb : List.map L [7] = [false] := by simp only [List.map_cons, List.map_nil, b7]
    rw [hb] at hF
    have HH := hF
    replace HH := HH.ext hEx
    exact Gives.run rfl (r_idxS (E := ELb) (l := (eS lhash first gs tb ls i).1) (j := (gs.getD i g0).b.toNat) sli92 (HH.rd (k := 2) rfl h1) rfl rfl (by omega) (by rw [eS_len]) (by omega)) ⟨rfl, rfl⟩
   refine WalkE.look rfl (fun _ => .agg (cel E64 [(((eS lhash first gs tb ls i).1).getD ((gs.getD i g0).b.toNat) lb0).1, (((eS lhash first gs tb ls i).1).getD ((gs.getD i g0).b.toNat) lb0).2]).toArray) (fun _ _ _ => rfl) (fun L r uw0 uw hAn hDn hF hEx => ?_) ?_
   ·skip
    have b7 := hDn 7 (by decide) rfl
    have hb : List.map L [7] = [false] := by simp only [List.map_cons, List.map_nil, b7]
    rw [hb] at hF
    have HH := hF
    replace HH := HH.ext hEx
    exact Gives.run rfl ((r_ldS (E := ELb) (l := (eS lhash first gs tb ls i).1) (j := (gs.getD i g0).b.toNat) (v := ((eS lhash first gs tb ls i).1).getD ((gs.getD i g0).b.toNat) lb0) fits38 (HH.rd (k := 2) rfl h1) rfl rfl (at_getD (by omega))).as (v' := .agg (cel E64 [(((eS lhash first gs tb ls i).1).getD ((gs.getD i g0).b.toNat) lb0).1, (((eS lhash first gs tb ls i).1).getD ((gs.getD i g0).b.toNat) lb0).2]).toArray) rfl) ⟨rfl, rfl⟩
   refine WalkE.call rfl (fun _ => .agg (cel E64 [(lx la (((eS lhash first gs tb ls i).1).getD ((gs.getD i g0).b.toNat) lb0)).1, (lx la (((eS lhash first gs tb ls i).1).getD ((gs.getD i g0).b.toNat) lb0)).2]).toArray) (fun _ _ _ => rfl) (fun L r uw0 uw hAn hDn hF hEx => ?_) ?_
   ·skip
    have b7 := hDn 7 (by decide) rfl
    have hb : List.map L [7] = [false] := by simp only [List.map_cons, List.map_nil, b7]
    rw [hb] at hF
    have HH := hF
    replace HH := HH.ext hEx
    exact Gives.call rfl (Enters.callL (vs := [lV (la), .agg (cel E64 [(((eS lhash first gs tb ls i).1).getD ((gs.getD i g0).b.toNat) lb0).1, (((eS lhash first gs tb ls i).1).getD ((gs.getD i g0).b.toNat) lb0).2]).toArray]) call86 rfl) (lxor_ok la (((eS lhash first gs tb ls i).1).getD ((gs.getD i g0).b.toNat) lb0) uw)
   refine WalkE.eff 0 rfl (fun L r uw0 uw hLn hAn hDn hF hEx => ?_) ?_
   ·skip
    have b7 : L 7 = false := hLn
    have hb : List.map L [7] = [false] := by simp only [List.map_cons, List.map_nil, b7]
    rw [hb] at hF ⊢
    have H53 := hF
    replace H53 := H53.ext hEx
    dsimp only
    refine Gives.ofW0 rfl (fun Q' hK => ?_)
    refine d_store (k := 0) (v := .agg (cel E64 [(lx la (((eS lhash first gs tb ls i).1).getD ((gs.getD i g0).b.toNat) lb0)).1, (lx la (((eS lhash first gs tb ls i).1).getD ((gs.getD i g0).b.toNat) lb0)).2]).toArray) (cs' := (cel E64 ([(lx la (((eS lhash first gs tb ls i).1).getD ((gs.getD i g0).b.toNat) lb0)).1, (lx la (((eS lhash first gs tb ls i).1).getD ((gs.getD i g0).b.toNat) lb0)).2])).toArray) H53 rfl rfl rfl siz38 (by exact celSize (by first | rfl | (show _ * 1 = _; omega))) (by exact celOne _) (by rw [List.size_toArray, cel_length]; show _ ≤ _ * 1; first | omega | (simp only [List.length_set]; omega) | exact bLe rfl | (simp <;> omega)) (by exact putAll (by first | rfl | omega | (simp <;> omega))) ?_
    intro w54 H55 hC56
    have H55' := H55.as (L' := [(some b42, lO (lx la (((eS lhash first gs tb ls i).1).getD ((gs.getD i g0).b.toNat) lb0))), (some b35, .cells #[i64 (((gs).getD i g0).k), i64 (((gs).getD i g0).a), i64 (((gs).getD i g0).b)] 99 (0, 0)), (k1, sob ELb 38 ((eS lhash first gs tb ls i).1) z1), (some b1, .cells #[i64 (ls.length : Nat), .slice ga gs.length gc, .slice oa ol.length oc] 70 (0, 0)), (some b13, .cells (cel E8 (AesSpec.cipher AesSpec.fixKey)).toArray 215 (0, 0))]) rfl
    clear H55
    exact hK _ (fun _ => (show Hp No w w54 [(some b42, lO (lx la (((eS lhash first gs tb ls i).1).getD ((gs.getD i g0).b.toNat) lb0))), (some b35, .cells #[i64 (((gs).getD i g0).k), i64 (((gs).getD i g0).a), i64 (((gs).getD i g0).b)] 99 (0, 0)), (k1, sob ELb 38 ((eS lhash first gs tb ls i).1) z1), (some b1, .cells #[i64 (ls.length : Nat), .slice ga gs.length gc, .slice oa ol.length oc] 70 (0, 0)), (some b13, .cells (cel E8 (AesSpec.cipher AesSpec.fixKey)).toArray 215 (0, 0))] from (((((H55'.pull (k := 4) rfl).pull (k := 4) rfl).pull (k := 4) rfl).pull (k := 4) rfl).pull (k := 4) rfl)))
   refine WalkE.nil ?_
   intro r57 uw0 w58 hF hEx
   have H59 := hF
   replace H59 := H59.ext hEx
   dsimp only
   refine wnil ?_
   refine blockNormal ?_
   refine thenNormal ?_
   refine oneRegion ?_
   refine sM (.slice (ownA k1) (ls.length + i) c1) rfl ?_
   refine sq (r_loadA (cs' := (cel E64 ([(lx la (((eS lhash first gs tb ls i).1).getD ((gs.getD i g0).b.toNat) lb0)).1, (lx la (((eS lhash first gs tb ls i).1).getD ((gs.getD i g0).b.toNat) lb0)).2])).toArray) agg38 siz38 (H59.get (k := 0) rfl) (off := 0) rfl (by exact bLe rfl) (by exact ext_all rfl)) ?_
   refine q_buildSlice (E := ELb) (l := ([lx la (((eS lhash first gs tb ls i).1).getD ((gs.getD i g0).b.toNat) lb0)] : List LbT)) H59 sli92 zer38 (bLe rfl) (ps := [(0, lV (lx la (((eS lhash first gs tb ls i).1).getD ((gs.getD i g0).b.toNat) lb0)))]) rfl (by exact fillAll rfl rfl) rfl ?_
   intro b60 w62 hS61 H63 hE64
   refine q_append (E := ELb) (k := 3) (l := (eS lhash first gs tb ls i).1) (l2 := ([lx la (((eS lhash first gs tb ls i).1).getD ((gs.getD i g0).b.toNat) lb0)] : List LbT)) H63 rfl h1 sli92 zer38 rfl byt38 (H63.rd (k := 0) rfl hS61) rfl (by rw [eS_len]) rfl (by rfl) (by omega) ?_
   intro key65 c66 sp67 w69 hS68 hne71 H70
   have H70' := H70.as (L' := [((some b60), sob ELb 38 ([lx la (((eS lhash first gs tb ls i).1).getD ((gs.getD i g0).b.toNat) lb0)] : List LbT) ([])), (some b42, lO (lx la (((eS lhash first gs tb ls i).1).getD ((gs.getD i g0).b.toNat) lb0))), (some b35, .cells #[i64 (((gs).getD i g0).k), i64 (((gs).getD i g0).a), i64 (((gs).getD i g0).b)] 99 (0, 0)), (key65, sob ELb 38 (((eS lhash first gs tb ls i).1) ++ ([lx la (((eS lhash first gs tb ls i).1).getD ((gs.getD i g0).b.toNat) lb0)] : List LbT)) sp67), (some b1, .cells #[i64 (ls.length : Nat), .slice ga gs.length gc, .slice oa ol.length oc] 70 (0, 0)), (some b13, .cells (cel E8 (AesSpec.cipher AesSpec.fixKey)).toArray 215 (0, 0))]) rfl
   clear H70
   have e72 : ((eS lhash first gs tb ls i).1) ++ ([lx la (((eS lhash first gs tb ls i).1).getD ((gs.getD i g0).b.toNat) lb0)] : List LbT) = (eS lhash first gs tb ls (i + 1)).1 := by rw [eS, estep, if_pos hk, hla]
   have hS73 := hS68
   rw [e72] at hS73
   have H74 := H70'.as (L' := [((some b60), sob ELb 38 ([lx la (((eS lhash first gs tb ls i).1).getD ((gs.getD i g0).b.toNat) lb0)] : List LbT) ([])), (some b42, lO (lx la (((eS lhash first gs tb ls i).1).getD ((gs.getD i g0).b.toNat) lb0))), (some b35, .cells #[i64 (((gs).getD i g0).k), i64 (((gs).getD i g0).a), i64 (((gs).getD i g0).b)] 99 (0, 0)), (key65, sob ELb 38 ((eS lhash first gs tb ls (i + 1)).1) sp67), (some b1, .cells #[i64 (ls.length : Nat), .slice ga gs.length gc, .slice oa ol.length oc] 70 (0, 0)), (some b13, .cells (cel E8 (AesSpec.cipher AesSpec.fixKey)).toArray 215 (0, 0))]) (by rw [e72])
   refine sA (.slice (ownA key65) ((ls.length + i) + 1) c66) rfl ?_
   refine wnil ?_
   refine blockNormal ?_
   refine thenNormal ?_
   refine oneRegion ?_
   refine sq (r_addI (a := (i : Nat)) (b := (1 : Int)) rfl rfl (by omega)) ?_
   refine sM (i64 ((i : Nat) + (1 : Int))) rfl ?_
   refine wnil ?_
   refine thenNormal ?_
   exact ⟨(i + 1, key65, c66, sp67, (eS lhash first gs tb ls i).2), _, rfl, ⟨rfl, rfl, rfl, rfl, rfl, rfl, rfl, rfl, rfl, trivial⟩, ⟨⟨by omega, hS73, by rw [eS, estep, if_pos hk]⟩, (((H74.dropk 2).dropk 1).dropk 0)⟩, by show gs.length - (i + 1) < gs.length - i; omega⟩
  ·skip
   have hn1 := hk1
   refine sR ?_
   refine sq (r_eqlI (a := ((gs).getD i g0).k) (b := (2 : Int)) rfl rfl) ?_
   refine sA (.bool (decide ((((gs).getD i g0).k : Int) = (2 : Int)))) rfl ?_
   refine wend ?_
   refine condProp ((((gs).getD i g0).k : Int) = (2 : Int)) rfl (fun hk2 => ?_) (fun hk2 => ?_)
   ·skip
    have hk := hk2
    have han := andsS_step gs i (by omega) hk
    refine sR ?_
    refine sM (.slice (ownA k1) (ls.length + i) c1) rfl ?_
    refine sq (r_fieldAddr (off' := 2) fld99_2 (by decide) (b := b35) (off := 0) rfl (by omega)) ?_
    refine sq (r_loadC (v := i64 (((gs).getD i g0).b)) one3 (H47'.get (k := 1) rfl) (off := 2) rfl (by rfl)) ?_
    refine sq (r_idxS (E := ELb) (l := (eS lhash first gs tb ls i).1) (j := (gs.getD i g0).b.toNat) sli92 (H47'.rd (k := 2) rfl h1) rfl rfl (by omega) (by rw [eS_len]) (by omega)) ?_
    refine sq ((r_ldS (E := ELb) (l := (eS lhash first gs tb ls i).1) (j := (gs.getD i g0).b.toNat) (v := ((eS lhash first gs tb ls i).1).getD ((gs.getD i g0).b.toNat) lb0) fits38 (H47'.rd (k := 2) rfl h1) rfl rfl (at_getD (by omega))).as (v' := .agg (cel E64 [(((eS lhash first gs tb ls i).1).getD ((gs.getD i g0).b.toNat) lb0).1, (((eS lhash first gs tb ls i).1).getD ((gs.getD i g0).b.toNat) lb0).2]).toArray) rfl) ?_
    refine q_alloc (o := .cells (cel E64 ([0#64, 0#64])).toArray 38 (0, 0)) H47' zer38 (by kernel_rfl) ?_
    intro b75 w76 hb75 H77 hE78
    refine d_store (k := 0) (v := .agg (cel E64 [(((eS lhash first gs tb ls i).1).getD ((gs.getD i g0).b.toNat) lb0).1, (((eS lhash first gs tb ls i).1).getD ((gs.getD i g0).b.toNat) lb0).2]).toArray) (cs' := (cel E64 ([(((eS lhash first gs tb ls i).1).getD ((gs.getD i g0).b.toNat) lb0).1, (((eS lhash first gs tb ls i).1).getD ((gs.getD i g0).b.toNat) lb0).2])).toArray) H77 rfl rfl rfl siz38 (by exact celSize (by first | rfl | (show _ * 1 = _; omega))) (by exact celOne _) (by rw [List.size_toArray, cel_length]; show _ ≤ _ * 1; first | omega | (simp only [List.length_set]; omega) | exact bLe rfl | (simp <;> omega)) (by exact putAll (by first | rfl | omega | (simp <;> omega))) ?_
    intro w79 H80 hC81
    have H80' := H80.as (L' := [(some b75, lO (((eS lhash first gs tb ls i).1).getD ((gs.getD i g0).b.toNat) lb0)), (some b42, lO (la)), (some b35, .cells #[i64 (((gs).getD i g0).k), i64 (((gs).getD i g0).a), i64 (((gs).getD i g0).b)] 99 (0, 0)), (k1, sob ELb 38 ((eS lhash first gs tb ls i).1) z1), (some b1, .cells #[i64 (ls.length : Nat), .slice ga gs.length gc, .slice oa ol.length oc] 70 (0, 0)), (some b13, .cells (cel E8 (AesSpec.cipher AesSpec.fixKey)).toArray 215 (0, 0))]) rfl
    clear H80
    obtain ⟨lb, hlb⟩ : ∃ x : Lb, x = (((eS lhash first gs tb ls i).1).getD (gs.getD i g0).b.toNat lb0) := ⟨_, rfl⟩
    rw [← hlb] at H80' ⊢
    refine wend ?_
    refine sR ?_
    refine sM (u64 (first)) rfl ?_
    refine sM (i64 (((eS lhash first gs tb ls i).2 : Nat))) rfl ?_
    refine sq (r_Ito64 und3 und32 (a := ((eS lhash first gs tb ls i).2 : Nat)) rfl) ?_
    refine sq (r_add64 (a := first) (b := BitVec.ofInt 64 ((eS lhash first gs tb ls i).2 : Nat)) rfl rfl) ?_
    refine sA (u64 (first + (BitVec.ofInt 64 ((eS lhash first gs tb ls i).2 : Nat)))) rfl ?_
    obtain ⟨sv, hsv⟩ : ∃ x : BitVec 64, x = first + (BitVec.ofInt 64 ((eS lhash first gs tb ls i).2 : Nat)) := ⟨_, rfl⟩
    rw [← hsv]
    refine wend ?_
    refine seqAny ?_
    refine drawE (m := 13) [0, 0, 3, 7, 0, 0, 32, 112, 240, 0, 0, 1551, 4095] [9, 10, 11, 12] (fun bs vs w' => match bs, vs with | [false, false, false, false], [_, _, _, _] => Hp No w w' [(some b75, lO (lb)), (some b42, lO (la)), (some b35, .cells #[i64 (((gs).getD i g0).k), i64 (((gs).getD i g0).a), i64 (((gs).getD i g0).b)] 99 (0, 0)), (k1, sob ELb 38 ((eS lhash first gs tb ls i).1) z1), (some b1, .cells #[i64 (ls.length : Nat), .slice ga gs.length gc, .slice oa ol.length oc] 70 (0, 0)), (some b13, .cells (cel E8 (AesSpec.cipher AesSpec.fixKey)).toArray 215 (0, 0))] | [true, false, false, false], [v9, _, _, _] => ∃ (b83 : Nat), v9 = pT b83 ∧ Hp No w w' [(some b83, .cells (cel E64 ([0#64, 0#64])).toArray 38 (0, 0)), (some b75, lO (lb)), (some b42, lO (la)), (some b35, .cells #[i64 (((gs).getD i g0).k), i64 (((gs).getD i g0).a), i64 (((gs).getD i g0).b)] 99 (0, 0)), (k1, sob ELb 38 ((eS lhash first gs tb ls i).1) z1), (some b1, .cells #[i64 (ls.length : Nat), .slice ga gs.length gc, .slice oa ol.length oc] 70 (0, 0)), (some b13, .cells (cel E8 (AesSpec.cipher AesSpec.fixKey)).toArray 215 (0, 0))] | [false, true, false, false], [_, v10, _, _] => ∃ (b88 : Nat), v10 = pT b88 ∧ Hp No w w' [(some b88, .cells (cel E64 ([0#64, 0#64])).toArray 38 (0, 0)), (some b75, lO (lb)), (some b42, lO (la)), (some b35, .cells #[i64 (((gs).getD i g0).k), i64 (((gs).getD i g0).a), i64 (((gs).getD i g0).b)] 99 (0, 0)), (k1, sob ELb 38 ((eS lhash first gs tb ls i).1) z1), (some b1, .cells #[i64 (ls.length : Nat), .slice ga gs.length gc, .slice oa ol.length oc] 70 (0, 0)), (some b13, .cells (cel E8 (AesSpec.cipher AesSpec.fixKey)).toArray 215 (0, 0))] | [true, true, false, false], [v9, v10, _, _] => ∃ (b83 : Nat) (b93 : Nat), v9 = pT b83 ∧ v10 = pT b93 ∧ Hp No w w' [(some b93, .cells (cel E64 ([0#64, 0#64])).toArray 38 (0, 0)), (some b83, .cells (cel E64 ([0#64, 0#64])).toArray 38 (0, 0)), (some b75, lO (lb)), (some b42, lO (la)), (some b35, .cells #[i64 (((gs).getD i g0).k), i64 (((gs).getD i g0).a), i64 (((gs).getD i g0).b)] 99 (0, 0)), (k1, sob ELb 38 ((eS lhash first gs tb ls i).1) z1), (some b1, .cells #[i64 (ls.length : Nat), .slice ga gs.length gc, .slice oa ol.length oc] 70 (0, 0)), (some b13, .cells (cel E8 (AesSpec.cipher AesSpec.fixKey)).toArray 215 (0, 0))] | [true, true, true, false], [v9, v10, _, _] => ∃ (b83 : Nat) (b93 : Nat), v9 = pT b83 ∧ v10 = pT b93 ∧ Hp No w w' [(some b93, .cells (cel E64 ([0#64, 0#64])).toArray 38 (0, 0)), (some b83, lO ((tb).getD ((eS lhash first gs tb ls i).2) lb0)), (some b75, lO (lb)), (some b42, lO (la)), (some b35, .cells #[i64 (((gs).getD i g0).k), i64 (((gs).getD i g0).a), i64 (((gs).getD i g0).b)] 99 (0, 0)), (k1, sob ELb 38 ((eS lhash first gs tb ls i).1) z1), (some b1, .cells #[i64 (ls.length : Nat), .slice ga gs.length gc, .slice oa ol.length oc] 70 (0, 0)), (some b13, .cells (cel E8 (AesSpec.cipher AesSpec.fixKey)).toArray 215 (0, 0))] | [true, true, true, true], [v9, v10, _, _] => ∃ (b83 : Nat) (b93 : Nat), v9 = pT b83 ∧ v10 = pT b93 ∧ Hp No w w' [(some b93, lO ((tb).getD ((eS lhash first gs tb ls i).2 + 1) lb0)), (some b83, lO ((tb).getD ((eS lhash first gs tb ls i).2) lb0)), (some b75, lO (lb)), (some b42, lO (la)), (some b35, .cells #[i64 (((gs).getD i g0).k), i64 (((gs).getD i g0).a), i64 (((gs).getD i g0).b)] 99 (0, 0)), (k1, sob ELb 38 ((eS lhash first gs tb ls i).1) z1), (some b1, .cells #[i64 (ls.length : Nat), .slice ga gs.length gc, .slice oa ol.length oc] 70 (0, 0)), (some b13, .cells (cel E8 (AesSpec.cipher AesSpec.fixKey)).toArray 215 (0, 0))] | _, _ => False) mixed (by kernel_rfl) (by kernel_rfl) H80'.drew ?_
    refine WalkE.look rfl (fun _ => .slice tsa tb.length tsc) (fun _ _ _ => rfl) (fun L r _ uw _ _ _ _ => Gives.run rfl (r_move (v := .slice tsa tb.length tsc) rfl) ⟨rfl, rfl⟩) ?_
    refine WalkE.look rfl (fun _ => i64 (((eS lhash first gs tb ls i).2 : Nat))) (fun _ _ _ => rfl) (fun L r _ uw _ _ _ _ => Gives.run rfl (r_move (v := i64 (((eS lhash first gs tb ls i).2 : Nat))) rfl) ⟨rfl, rfl⟩) ?_
    refine WalkE.look rfl (fun _ => .pointer (adr tsa (((eS lhash first gs tb ls i).2) * 2))) (fun _ _ _ => rfl) (fun L r uw0 uw hAn hDn hF hEx => ?_) ?_
    ·skip
     have b11 := hDn 11 (by decide) rfl
     have b12 := hDn 12 (by decide) rfl
     rcases bTF (L 9) with b9 | b9
     ·skip
      rcases bTF (L 10) with b10 | b10
      ·skip
       have hb := mp4 b9 b10 b11 b12
       rw [hb] at hF
       obtain ⟨b83, b93, e9, e10, HH⟩ := hF
       replace HH := HH.ext hEx
       exact Gives.run rfl (r_idxS (E := ELb) (l := tb) (j := (eS lhash first gs tb ls i).2) sli92 (hTb.ext HH.chg) rfl rfl (by first | rfl | omega | (simp; omega)) (by rfl) (by omega)) ⟨rfl, rfl⟩
      ·skip
       have hb := mp4 b9 b10 b11 b12
       rw [hb] at hF
       obtain ⟨b83, e9, HH⟩ := hF
       replace HH := HH.ext hEx
       exact Gives.run rfl (r_idxS (E := ELb) (l := tb) (j := (eS lhash first gs tb ls i).2) sli92 (hTb.ext HH.chg) rfl rfl (by first | rfl | omega | (simp; omega)) (by rfl) (by omega)) ⟨rfl, rfl⟩
     ·skip
      rcases bTF (L 10) with b10 | b10
      ·skip
       have hb := mp4 b9 b10 b11 b12
       rw [hb] at hF
       obtain ⟨b88, e10, HH⟩ := hF
       replace HH := HH.ext hEx
       exact Gives.run rfl (r_idxS (E := ELb) (l := tb) (j := (eS lhash first gs tb ls i).2) sli92 (hTb.ext HH.chg) rfl rfl (by first | rfl | omega | (simp; omega)) (by rfl) (by omega)) ⟨rfl, rfl⟩
      ·skip
       have hb := mp4 b9 b10 b11 b12
       rw [hb] at hF
       have HH := hF
       replace HH := HH.ext hEx
       exact Gives.run rfl (r_idxS (E := ELb) (l := tb) (j := (eS lhash first gs tb ls i).2) sli92 (hTb.ext HH.chg) rfl rfl (by first | rfl | omega | (simp; omega)) (by rfl) (by omega)) ⟨rfl, rfl⟩
    refine WalkE.look rfl (fun _ => .agg (cel E64 [((tb).getD ((eS lhash first gs tb ls i).2) lb0).1, ((tb).getD ((eS lhash first gs tb ls i).2) lb0).2]).toArray) (fun _ _ _ => rfl) (fun L r uw0 uw hAn hDn hF hEx => ?_) ?_
    ·skip
     have b11 := hDn 11 (by decide) rfl
     have b12 := hDn 12 (by decide) rfl
     rcases bTF (L 9) with b9 | b9
     ·skip
      rcases bTF (L 10) with b10 | b10
      ·skip
       have hb := mp4 b9 b10 b11 b12
       rw [hb] at hF
       obtain ⟨b83, b93, e9, e10, HH⟩ := hF
       replace HH := HH.ext hEx
       exact Gives.run rfl ((r_ldS (E := ELb) (l := tb) (j := (eS lhash first gs tb ls i).2) (v := (tb).getD ((eS lhash first gs tb ls i).2) lb0) fits38 (hTb.ext HH.chg) rfl rfl (at_getD (by omega))).as (v' := .agg (cel E64 [((tb).getD ((eS lhash first gs tb ls i).2) lb0).1, ((tb).getD ((eS lhash first gs tb ls i).2) lb0).2]).toArray) rfl) ⟨rfl, rfl⟩
      ·skip
       have hb := mp4 b9 b10 b11 b12
       rw [hb] at hF
       obtain ⟨b83, e9, HH⟩ := hF
       replace HH := HH.ext hEx
       exact Gives.run rfl ((r_ldS (E := ELb) (l := tb) (j := (eS lhash first gs tb ls i).2) (v := (tb).getD ((eS lhash first gs tb ls i).2) lb0) fits38 (hTb.ext HH.chg) rfl rfl (at_getD (by omega))).as (v' := .agg (cel E64 [((tb).getD ((eS lhash first gs tb ls i).2) lb0).1, ((tb).getD ((eS lhash first gs tb ls i).2) lb0).2]).toArray) rfl) ⟨rfl, rfl⟩
     ·skip
      rcases bTF (L 10) with b10 | b10
      ·skip
       have hb := mp4 b9 b10 b11 b12
       rw [hb] at hF
       obtain ⟨b88, e10, HH⟩ := hF
       replace HH := HH.ext hEx
       exact Gives.run rfl ((r_ldS (E := ELb) (l := tb) (j := (eS lhash first gs tb ls i).2) (v := (tb).getD ((eS lhash first gs tb ls i).2) lb0) fits38 (hTb.ext HH.chg) rfl rfl (at_getD (by omega))).as (v' := .agg (cel E64 [((tb).getD ((eS lhash first gs tb ls i).2) lb0).1, ((tb).getD ((eS lhash first gs tb ls i).2) lb0).2]).toArray) rfl) ⟨rfl, rfl⟩
      ·skip
       have hb := mp4 b9 b10 b11 b12
       rw [hb] at hF
       have HH := hF
       replace HH := HH.ext hEx
       exact Gives.run rfl ((r_ldS (E := ELb) (l := tb) (j := (eS lhash first gs tb ls i).2) (v := (tb).getD ((eS lhash first gs tb ls i).2) lb0) fits38 (hTb.ext HH.chg) rfl rfl (at_getD (by omega))).as (v' := .agg (cel E64 [((tb).getD ((eS lhash first gs tb ls i).2) lb0).1, ((tb).getD ((eS lhash first gs tb ls i).2) lb0).2]).toArray) rfl) ⟨rfl, rfl⟩
    refine WalkE.look rfl (fun _ => .slice tsa tb.length tsc) (fun _ _ _ => rfl) (fun L r _ uw _ _ _ _ => Gives.run rfl (r_move (v := .slice tsa tb.length tsc) rfl) ⟨rfl, rfl⟩) ?_
    refine WalkE.look rfl (fun _ => i64 (((eS lhash first gs tb ls i).2 : Nat))) (fun _ _ _ => rfl) (fun L r _ uw _ _ _ _ => Gives.run rfl (r_move (v := i64 (((eS lhash first gs tb ls i).2 : Nat))) rfl) ⟨rfl, rfl⟩) ?_
    refine WalkE.look rfl (fun _ => i64 ((((eS lhash first gs tb ls i).2 + 1) : Nat))) (fun _ _ _ => rfl) (fun L r _ uw _ _ _ _ => Gives.run rfl ((r_addI (a := ((eS lhash first gs tb ls i).2 : Nat)) (b := (1 : Int)) rfl rfl (by omega)).as (v' := i64 ((((eS lhash first gs tb ls i).2 + 1) : Nat))) (by rfl)) ⟨rfl, rfl⟩) ?_
    refine WalkE.look rfl (fun _ => .pointer (adr tsa (((eS lhash first gs tb ls i).2 + 1) * 2))) (fun _ _ _ => rfl) (fun L r uw0 uw hAn hDn hF hEx => ?_) ?_
    ·skip
     have b12 := hDn 12 (by decide) rfl
     rcases bTF (L 9) with b9 | b9
     ·skip
      rcases bTF (L 10) with b10 | b10
      ·skip
       rcases bTF (L 11) with b11 | b11
       ·skip
        have hb := mp4 b9 b10 b11 b12
        rw [hb] at hF
        obtain ⟨b83, b93, e9, e10, HH⟩ := hF
        replace HH := HH.ext hEx
        exact Gives.run rfl (r_idxS (E := ELb) (l := tb) (j := ((eS lhash first gs tb ls i).2 + 1)) sli92 (hTb.ext HH.chg) rfl rfl (by first | rfl | omega | (simp; omega)) (by rfl) (by omega)) ⟨rfl, rfl⟩
       ·skip
        have hb := mp4 b9 b10 b11 b12
        rw [hb] at hF
        obtain ⟨b83, b93, e9, e10, HH⟩ := hF
        replace HH := HH.ext hEx
        exact Gives.run rfl (r_idxS (E := ELb) (l := tb) (j := ((eS lhash first gs tb ls i).2 + 1)) sli92 (hTb.ext HH.chg) rfl rfl (by first | rfl | omega | (simp; omega)) (by rfl) (by omega)) ⟨rfl, rfl⟩
      ·skip
       rcases bTF (L 11) with b11 | b11
       ·skip
        have hb := mp4 b9 b10 b11 b12
        rw [hb] at hF
        exact False.elim hF
       ·skip
        have hb := mp4 b9 b10 b11 b12
        rw [hb] at hF
        obtain ⟨b83, e9, HH⟩ := hF
        replace HH := HH.ext hEx
        exact Gives.run rfl (r_idxS (E := ELb) (l := tb) (j := ((eS lhash first gs tb ls i).2 + 1)) sli92 (hTb.ext HH.chg) rfl rfl (by first | rfl | omega | (simp; omega)) (by rfl) (by omega)) ⟨rfl, rfl⟩
     ·skip
      rcases bTF (L 10) with b10 | b10
      ·skip
       rcases bTF (L 11) with b11 | b11
       ·skip
        have hb := mp4 b9 b10 b11 b12
        rw [hb] at hF
        exact False.elim hF
       ·skip
        have hb := mp4 b9 b10 b11 b12
        rw [hb] at hF
        obtain ⟨b88, e10, HH⟩ := hF
        replace HH := HH.ext hEx
        exact Gives.run rfl (r_idxS (E := ELb) (l := tb) (j := ((eS lhash first gs tb ls i).2 + 1)) sli92 (hTb.ext HH.chg) rfl rfl (by first | rfl | omega | (simp; omega)) (by rfl) (by omega)) ⟨rfl, rfl⟩
      ·skip
       rcases bTF (L 11) with b11 | b11
       ·skip
        have hb := mp4 b9 b10 b11 b12
        rw [hb] at hF
        exact False.elim hF
       ·skip
        have hb := mp4 b9 b10 b11 b12
        rw [hb] at hF
        have HH := hF
        replace HH := HH.ext hEx
        exact Gives.run rfl (r_idxS (E := ELb) (l := tb) (j := ((eS lhash first gs tb ls i).2 + 1)) sli92 (hTb.ext HH.chg) rfl rfl (by first | rfl | omega | (simp; omega)) (by rfl) (by omega)) ⟨rfl, rfl⟩
    refine WalkE.look rfl (fun _ => .agg (cel E64 [((tb).getD ((eS lhash first gs tb ls i).2 + 1) lb0).1, ((tb).getD ((eS lhash first gs tb ls i).2 + 1) lb0).2]).toArray) (fun _ _ _ => rfl) (fun L r uw0 uw hAn hDn hF hEx => ?_) ?_
    ·skip
     have b12 := hDn 12 (by decide) rfl
     rcases bTF (L 9) with b9 | b9
     ·skip
      rcases bTF (L 10) with b10 | b10
      ·skip
       rcases bTF (L 11) with b11 | b11
       ·skip
        have hb := mp4 b9 b10 b11 b12
        rw [hb] at hF
        obtain ⟨b83, b93, e9, e10, HH⟩ := hF
        replace HH := HH.ext hEx
        exact Gives.run rfl ((r_ldS (E := ELb) (l := tb) (j := ((eS lhash first gs tb ls i).2 + 1)) (v := (tb).getD ((eS lhash first gs tb ls i).2 + 1) lb0) fits38 (hTb.ext HH.chg) rfl rfl (at_getD (by omega))).as (v' := .agg (cel E64 [((tb).getD ((eS lhash first gs tb ls i).2 + 1) lb0).1, ((tb).getD ((eS lhash first gs tb ls i).2 + 1) lb0).2]).toArray) rfl) ⟨rfl, rfl⟩
       ·skip
        have hb := mp4 b9 b10 b11 b12
        rw [hb] at hF
        obtain ⟨b83, b93, e9, e10, HH⟩ := hF
        replace HH := HH.ext hEx
        exact Gives.run rfl ((r_ldS (E := ELb) (l := tb) (j := ((eS lhash first gs tb ls i).2 + 1)) (v := (tb).getD ((eS lhash first gs tb ls i).2 + 1) lb0) fits38 (hTb.ext HH.chg) rfl rfl (at_getD (by omega))).as (v' := .agg (cel E64 [((tb).getD ((eS lhash first gs tb ls i).2 + 1) lb0).1, ((tb).getD ((eS lhash first gs tb ls i).2 + 1) lb0).2]).toArray) rfl) ⟨rfl, rfl⟩
      ·skip
       rcases bTF (L 11) with b11 | b11
       ·skip
        have hb := mp4 b9 b10 b11 b12
        rw [hb] at hF
        exact False.elim hF
       ·skip
        have hb := mp4 b9 b10 b11 b12
        rw [hb] at hF
        obtain ⟨b83, e9, HH⟩ := hF
        replace HH := HH.ext hEx
        exact Gives.run rfl ((r_ldS (E := ELb) (l := tb) (j := ((eS lhash first gs tb ls i).2 + 1)) (v := (tb).getD ((eS lhash first gs tb ls i).2 + 1) lb0) fits38 (hTb.ext HH.chg) rfl rfl (at_getD (by omega))).as (v' := .agg (cel E64 [((tb).getD ((eS lhash first gs tb ls i).2 + 1) lb0).1, ((tb).getD ((eS lhash first gs tb ls i).2 + 1) lb0).2]).toArray) rfl) ⟨rfl, rfl⟩
     ·skip
      rcases bTF (L 10) with b10 | b10
      ·skip
       rcases bTF (L 11) with b11 | b11
       ·skip
        have hb := mp4 b9 b10 b11 b12
        rw [hb] at hF
        exact False.elim hF
       ·skip
        have hb := mp4 b9 b10 b11 b12
        rw [hb] at hF
        obtain ⟨b88, e10, HH⟩ := hF
        replace HH := HH.ext hEx
        exact Gives.run rfl ((r_ldS (E := ELb) (l := tb) (j := ((eS lhash first gs tb ls i).2 + 1)) (v := (tb).getD ((eS lhash first gs tb ls i).2 + 1) lb0) fits38 (hTb.ext HH.chg) rfl rfl (at_getD (by omega))).as (v' := .agg (cel E64 [((tb).getD ((eS lhash first gs tb ls i).2 + 1) lb0).1, ((tb).getD ((eS lhash first gs tb ls i).2 + 1) lb0).2]).toArray) rfl) ⟨rfl, rfl⟩
      ·skip
       rcases bTF (L 11) with b11 | b11
       ·skip
        have hb := mp4 b9 b10 b11 b12
        rw [hb] at hF
        exact False.elim hF
       ·skip
        have hb := mp4 b9 b10 b11 b12
        rw [hb] at hF
        have HH := hF
        replace HH := HH.ext hEx
        exact Gives.run rfl ((r_ldS (E := ELb) (l := tb) (j := ((eS lhash first gs tb ls i).2 + 1)) (v := (tb).getD ((eS lhash first gs tb ls i).2 + 1) lb0) fits38 (hTb.ext HH.chg) rfl rfl (at_getD (by omega))).as (v' := .agg (cel E64 [((tb).getD ((eS lhash first gs tb ls i).2 + 1) lb0).1, ((tb).getD ((eS lhash first gs tb ls i).2 + 1) lb0).2]).toArray) rfl) ⟨rfl, rfl⟩
    refine WalkE.eff 0 rfl (fun L r uw0 uw hLn hAn hDn hF hEx => ?_) ?_
    ·skip
     have b9 : L 9 = false := hLn
     have b11 := hDn 11 (by decide) rfl
     have b12 := hDn 12 (by decide) rfl
     rcases bTF (L 10) with b10 | b10
     ·skip
      have hb := mp4 b9 b10 b11 b12
      rw [hb] at hF ⊢
      obtain ⟨b88, e10, H105⟩ := hF
      replace H105 := H105.ext hEx
      dsimp only
      refine Gives.ofW (d := 19) rfl rfl (fun Q' hK => ?_)
      refine q_alloc (o := .cells (cel E64 ([0#64, 0#64])).toArray 38 (0, 0)) H105 zer38 (by kernel_rfl) ?_
      intro b106 w107 hb106 H108 hE109
      exact hK _ _ (show ∃ (b83 : Nat) (b93 : Nat), (_ : Value) = pT b83 ∧ r 10 = pT b93 ∧ Hp No w w107 [(some b93, .cells (cel E64 ([0#64, 0#64])).toArray 38 (0, 0)), (some b83, .cells (cel E64 ([0#64, 0#64])).toArray 38 (0, 0)), (some b75, lO (lb)), (some b42, lO (la)), (some b35, .cells #[i64 (((gs).getD i g0).k), i64 (((gs).getD i g0).a), i64 (((gs).getD i g0).b)] 99 (0, 0)), (k1, sob ELb 38 ((eS lhash first gs tb ls i).1) z1), (some b1, .cells #[i64 (ls.length : Nat), .slice ga gs.length gc, .slice oa ol.length oc] 70 (0, 0)), (some b13, .cells (cel E8 (AesSpec.cipher AesSpec.fixKey)).toArray 215 (0, 0))] from ⟨b106, b88, rfl, e10, ((((((((H108.pull (k := 7) rfl).pull (k := 7) rfl).pull (k := 7) rfl).pull (k := 7) rfl).pull (k := 7) rfl).pull (k := 7) rfl).pull (k := 6) rfl).pull (k := 7) rfl)⟩)
     ·skip
      have hb := mp4 b9 b10 b11 b12
      rw [hb] at hF ⊢
      have H110 := hF
      replace H110 := H110.ext hEx
      dsimp only
      refine Gives.ofW (d := 19) rfl rfl (fun Q' hK => ?_)
      refine q_alloc (o := .cells (cel E64 ([0#64, 0#64])).toArray 38 (0, 0)) H110 zer38 (by kernel_rfl) ?_
      intro b111 w112 hb111 H113 hE114
      exact hK _ _ (show ∃ (b83 : Nat), (_ : Value) = pT b83 ∧ Hp No w w112 [(some b83, .cells (cel E64 ([0#64, 0#64])).toArray 38 (0, 0)), (some b75, lO (lb)), (some b42, lO (la)), (some b35, .cells #[i64 (((gs).getD i g0).k), i64 (((gs).getD i g0).a), i64 (((gs).getD i g0).b)] 99 (0, 0)), (k1, sob ELb 38 ((eS lhash first gs tb ls i).1) z1), (some b1, .cells #[i64 (ls.length : Nat), .slice ga gs.length gc, .slice oa ol.length oc] 70 (0, 0)), (some b13, .cells (cel E8 (AesSpec.cipher AesSpec.fixKey)).toArray 215 (0, 0))] from ⟨b111, rfl, (((((((H113.pull (k := 6) rfl).pull (k := 6) rfl).pull (k := 6) rfl).pull (k := 6) rfl).pull (k := 6) rfl).pull (k := 6) rfl).pull (k := 6) rfl)⟩)
    refine WalkE.eff 1 rfl (fun L r uw0 uw hLn hAn hDn hF hEx => ?_) ?_
    ·skip
     have b10 : L 10 = false := hLn
     have b11 := hDn 11 (by decide) rfl
     have b12 := hDn 12 (by decide) rfl
     rcases bTF (L 9) with b9 | b9
     ·skip
      have hb := mp4 b9 b10 b11 b12
      rw [hb] at hF ⊢
      obtain ⟨b83, e9, H115⟩ := hF
      replace H115 := H115.ext hEx
      dsimp only
      rw [e9]
      refine Gives.ofW (d := 20) rfl rfl (fun Q' hK => ?_)
      refine q_alloc (o := .cells (cel E64 ([0#64, 0#64])).toArray 38 (0, 0)) H115 zer38 (by kernel_rfl) ?_
      intro b116 w117 hb116 H118 hE119
      exact hK _ _ (show ∃ (b83 : Nat) (b93 : Nat), r 9 = pT b83 ∧ (_ : Value) = pT b93 ∧ Hp No w w117 [(some b93, .cells (cel E64 ([0#64, 0#64])).toArray 38 (0, 0)), (some b83, .cells (cel E64 ([0#64, 0#64])).toArray 38 (0, 0)), (some b75, lO (lb)), (some b42, lO (la)), (some b35, .cells #[i64 (((gs).getD i g0).k), i64 (((gs).getD i g0).a), i64 (((gs).getD i g0).b)] 99 (0, 0)), (k1, sob ELb 38 ((eS lhash first gs tb ls i).1) z1), (some b1, .cells #[i64 (ls.length : Nat), .slice ga gs.length gc, .slice oa ol.length oc] 70 (0, 0)), (some b13, .cells (cel E8 (AesSpec.cipher AesSpec.fixKey)).toArray 215 (0, 0))] from ⟨b83, b116, e9, rfl, ((((((((H118.pull (k := 7) rfl).pull (k := 7) rfl).pull (k := 7) rfl).pull (k := 7) rfl).pull (k := 7) rfl).pull (k := 7) rfl).pull (k := 7) rfl).pull (k := 7) rfl)⟩)
     ·skip
      have hb := mp4 b9 b10 b11 b12
      rw [hb] at hF ⊢
      have H120 := hF
      replace H120 := H120.ext hEx
      dsimp only
      refine Gives.ofW (d := 20) rfl rfl (fun Q' hK => ?_)
      refine q_alloc (o := .cells (cel E64 ([0#64, 0#64])).toArray 38 (0, 0)) H120 zer38 (by kernel_rfl) ?_
      intro b121 w122 hb121 H123 hE124
      exact hK _ _ (show ∃ (b88 : Nat), (_ : Value) = pT b88 ∧ Hp No w w122 [(some b88, .cells (cel E64 ([0#64, 0#64])).toArray 38 (0, 0)), (some b75, lO (lb)), (some b42, lO (la)), (some b35, .cells #[i64 (((gs).getD i g0).k), i64 (((gs).getD i g0).a), i64 (((gs).getD i g0).b)] 99 (0, 0)), (k1, sob ELb 38 ((eS lhash first gs tb ls i).1) z1), (some b1, .cells #[i64 (ls.length : Nat), .slice ga gs.length gc, .slice oa ol.length oc] 70 (0, 0)), (some b13, .cells (cel E8 (AesSpec.cipher AesSpec.fixKey)).toArray 215 (0, 0))] from ⟨b121, rfl, (((((((H123.pull (k := 6) rfl).pull (k := 6) rfl).pull (k := 6) rfl).pull (k := 6) rfl).pull (k := 6) rfl).pull (k := 6) rfl).pull (k := 6) rfl)⟩)
    refine WalkE.eff 2 rfl (fun L r uw0 uw hLn hAn hDn hF hEx => ?_) ?_
    ·skip
     have b9 := hAn 9 (by decide) rfl
     have b10 := hAn 10 (by decide) rfl
     have b11 : L 11 = false := hLn
     have b12 := hDn 12 (by decide) rfl
     have hb := mp4 b9 b10 b11 b12
     rw [hb] at hF ⊢
     obtain ⟨b83, b93, e9, e10, H125⟩ := hF
     replace H125 := H125.ext hEx
     dsimp only
     rw [e9, e10]
     refine Gives.ofW0 rfl (fun Q' hK => ?_)
     refine d_store (k := 1) (v := .agg (cel E64 [((tb).getD ((eS lhash first gs tb ls i).2) lb0).1, ((tb).getD ((eS lhash first gs tb ls i).2) lb0).2]).toArray) (cs' := (cel E64 ([((tb).getD ((eS lhash first gs tb ls i).2) lb0).1, ((tb).getD ((eS lhash first gs tb ls i).2) lb0).2])).toArray) H125 rfl rfl rfl siz38 (by exact celSize (by first | rfl | (show _ * 1 = _; omega))) (by exact celOne _) (by rw [List.size_toArray, cel_length]; show _ ≤ _ * 1; first | omega | (simp only [List.length_set]; omega) | exact bLe rfl | (simp <;> omega)) (by exact putAll (by first | rfl | omega | (simp <;> omega))) ?_
     intro w126 H127 hC128
     have H127' := H127.as (L' := [(some b93, .cells (cel E64 ([0#64, 0#64])).toArray 38 (0, 0)), (some b83, lO ((tb).getD ((eS lhash first gs tb ls i).2) lb0)), (some b75, lO (lb)), (some b42, lO (la)), (some b35, .cells #[i64 (((gs).getD i g0).k), i64 (((gs).getD i g0).a), i64 (((gs).getD i g0).b)] 99 (0, 0)), (k1, sob ELb 38 ((eS lhash first gs tb ls i).1) z1), (some b1, .cells #[i64 (ls.length : Nat), .slice ga gs.length gc, .slice oa ol.length oc] 70 (0, 0)), (some b13, .cells (cel E8 (AesSpec.cipher AesSpec.fixKey)).toArray 215 (0, 0))]) rfl
     clear H127
     exact hK _ (fun _ => (show ∃ (b83 : Nat) (b93 : Nat), r 9 = pT b83 ∧ r 10 = pT b93 ∧ Hp No w w126 [(some b93, .cells (cel E64 ([0#64, 0#64])).toArray 38 (0, 0)), (some b83, lO ((tb).getD ((eS lhash first gs tb ls i).2) lb0)), (some b75, lO (lb)), (some b42, lO (la)), (some b35, .cells #[i64 (((gs).getD i g0).k), i64 (((gs).getD i g0).a), i64 (((gs).getD i g0).b)] 99 (0, 0)), (k1, sob ELb 38 ((eS lhash first gs tb ls i).1) z1), (some b1, .cells #[i64 (ls.length : Nat), .slice ga gs.length gc, .slice oa ol.length oc] 70 (0, 0)), (some b13, .cells (cel E8 (AesSpec.cipher AesSpec.fixKey)).toArray 215 (0, 0))] from ⟨b83, b93, e9, e10, ((((((((H127'.pull (k := 7) rfl).pull (k := 7) rfl).pull (k := 7) rfl).pull (k := 7) rfl).pull (k := 7) rfl).pull (k := 7) rfl).pull (k := 7) rfl).pull (k := 7) rfl)⟩))
    refine WalkE.eff 3 rfl (fun L r uw0 uw hLn hAn hDn hF hEx => ?_) ?_
    ·skip
     have b9 := hAn 9 (by decide) rfl
     have b10 := hAn 10 (by decide) rfl
     have b11 := hAn 11 (by decide) rfl
     have b12 : L 12 = false := hLn
     have hb := mp4 b9 b10 b11 b12
     rw [hb] at hF ⊢
     obtain ⟨b83, b93, e9, e10, H129⟩ := hF
     replace H129 := H129.ext hEx
     dsimp only
     rw [e9, e10]
     refine Gives.ofW0 rfl (fun Q' hK => ?_)
     refine d_store (k := 0) (v := .agg (cel E64 [((tb).getD ((eS lhash first gs tb ls i).2 + 1) lb0).1, ((tb).getD ((eS lhash first gs tb ls i).2 + 1) lb0).2]).toArray) (cs' := (cel E64 ([((tb).getD ((eS lhash first gs tb ls i).2 + 1) lb0).1, ((tb).getD ((eS lhash first gs tb ls i).2 + 1) lb0).2])).toArray) H129 rfl rfl rfl siz38 (by exact celSize (by first | rfl | (show _ * 1 = _; omega))) (by exact celOne _) (by rw [List.size_toArray, cel_length]; show _ ≤ _ * 1; first | omega | (simp only [List.length_set]; omega) | exact bLe rfl | (simp <;> omega)) (by exact putAll (by first | rfl | omega | (simp <;> omega))) ?_
     intro w130 H131 hC132
     have H131' := H131.as (L' := [(some b93, lO ((tb).getD ((eS lhash first gs tb ls i).2 + 1) lb0)), (some b83, lO ((tb).getD ((eS lhash first gs tb ls i).2) lb0)), (some b75, lO (lb)), (some b42, lO (la)), (some b35, .cells #[i64 (((gs).getD i g0).k), i64 (((gs).getD i g0).a), i64 (((gs).getD i g0).b)] 99 (0, 0)), (k1, sob ELb 38 ((eS lhash first gs tb ls i).1) z1), (some b1, .cells #[i64 (ls.length : Nat), .slice ga gs.length gc, .slice oa ol.length oc] 70 (0, 0)), (some b13, .cells (cel E8 (AesSpec.cipher AesSpec.fixKey)).toArray 215 (0, 0))]) rfl
     clear H131
     exact hK _ (fun _ => (show ∃ (b83 : Nat) (b93 : Nat), r 9 = pT b83 ∧ r 10 = pT b93 ∧ Hp No w w130 [(some b93, lO ((tb).getD ((eS lhash first gs tb ls i).2 + 1) lb0)), (some b83, lO ((tb).getD ((eS lhash first gs tb ls i).2) lb0)), (some b75, lO (lb)), (some b42, lO (la)), (some b35, .cells #[i64 (((gs).getD i g0).k), i64 (((gs).getD i g0).a), i64 (((gs).getD i g0).b)] 99 (0, 0)), (k1, sob ELb 38 ((eS lhash first gs tb ls i).1) z1), (some b1, .cells #[i64 (ls.length : Nat), .slice ga gs.length gc, .slice oa ol.length oc] 70 (0, 0)), (some b13, .cells (cel E8 (AesSpec.cipher AesSpec.fixKey)).toArray 215 (0, 0))] from ⟨b83, b93, e9, e10, ((((((((H131'.pull (k := 7) rfl).pull (k := 7) rfl).pull (k := 7) rfl).pull (k := 7) rfl).pull (k := 7) rfl).pull (k := 7) rfl).pull (k := 7) rfl).pull (k := 7) rfl)⟩))
    refine WalkE.nil ?_
    intro r133 uw0 w134 hF hEx
    obtain ⟨b83, b93, e9, e10, H135⟩ := hF
    replace H135 := H135.ext hEx
    dsimp only
    rw [e9, e10]
    refine wnil ?_
    refine thenNormal ?_
    refine sR ?_
    refine sM (i64 (((eS lhash first gs tb ls i).2 : Nat))) rfl ?_
    refine sq ((r_addI (a := ((eS lhash first gs tb ls i).2 : Nat)) (b := (2 : Int)) rfl rfl (by omega)).as (v' := i64 ((((eS lhash first gs tb ls i).2 + 2) : Nat))) (by rfl)) ?_
    refine sA (i64 ((((eS lhash first gs tb ls i).2 + 2) : Nat))) rfl ?_
    refine wend ?_
    refine drawE (m := 22) [0, 0, 0, 7, 0, 31, 0, 127, 0, 0, 0, 1024, 4095, 0, 16383, 0, 0, 131071, 262143, 524287, 1048575, 2097151] [19, 21] (fun bs vs w' => match bs, vs with | [false, false], [_, _] => Hp No w w' [(some b93, lO ((tb).getD ((eS lhash first gs tb ls i).2 + 1) lb0)), (some b83, lO ((tb).getD ((eS lhash first gs tb ls i).2) lb0)), (some b75, lO (lb)), (some b42, lO (la)), (some b35, .cells #[i64 (((gs).getD i g0).k), i64 (((gs).getD i g0).a), i64 (((gs).getD i g0).b)] 99 (0, 0)), (k1, sob ELb 38 ((eS lhash first gs tb ls i).1) z1), (some b1, .cells #[i64 (ls.length : Nat), .slice ga gs.length gc, .slice oa ol.length oc] 70 (0, 0)), (some b13, .cells (cel E8 (AesSpec.cipher AesSpec.fixKey)).toArray 215 (0, 0))] | [true, false], [v19, _] => ∃ (b137 : Nat), v19 = .slice (ownA (some b137)) 4 4 ∧ Sl ELb (some b137) ([lhash la sv, lw (col la) ((tb).getD ((eS lhash first gs tb ls i).2) lb0), lhash lb (sv + (1#64)), lw (col lb) (lx ((tb).getD ((eS lhash first gs tb ls i).2 + 1) lb0) la)] : List LbT) 4 ([]) ∧ Hp No w w' [((some b137), sob ELb 38 ([lhash la sv, lw (col la) ((tb).getD ((eS lhash first gs tb ls i).2) lb0), lhash lb (sv + (1#64)), lw (col lb) (lx ((tb).getD ((eS lhash first gs tb ls i).2 + 1) lb0) la)] : List LbT) ([])), (some b93, lO ((tb).getD ((eS lhash first gs tb ls i).2 + 1) lb0)), (some b83, lO ((tb).getD ((eS lhash first gs tb ls i).2) lb0)), (some b75, lO (lb)), (some b42, lO (la)), (some b35, .cells #[i64 (((gs).getD i g0).k), i64 (((gs).getD i g0).a), i64 (((gs).getD i g0).b)] 99 (0, 0)), (k1, sob ELb 38 ((eS lhash first gs tb ls i).1) z1), (some b1, .cells #[i64 (ls.length : Nat), .slice ga gs.length gc, .slice oa ol.length oc] 70 (0, 0)), (some b13, .cells (cel E8 (AesSpec.cipher AesSpec.fixKey)).toArray 215 (0, 0))] | [true, true], [v19, _] => ∃ (b137 : Nat), v19 = .slice (ownA (some b137)) 4 4 ∧ Sl ELb (some b137) ([lhash la sv, lw (col la) ((tb).getD ((eS lhash first gs tb ls i).2) lb0), lhash lb (sv + (1#64)), lw (col lb) (lx ((tb).getD ((eS lhash first gs tb ls i).2 + 1) lb0) la)] : List LbT) 4 ([]) ∧ Hp No w w' [((some b137), sob ELb 38 ([lhash la sv, lw (col la) ((tb).getD ((eS lhash first gs tb ls i).2) lb0), lhash lb (sv + (1#64)), lw (col lb) (lx ((tb).getD ((eS lhash first gs tb ls i).2 + 1) lb0) la)] : List LbT) ([])), (some b93, lO ((tb).getD ((eS lhash first gs tb ls i).2 + 1) lb0)), (some b83, lO ((tb).getD ((eS lhash first gs tb ls i).2) lb0)), (some b75, lO (lb)), (some b42, lO (lsum ([lhash la sv, lw (col la) ((tb).getD ((eS lhash first gs tb ls i).2) lb0), lhash lb (sv + (1#64)), lw (col lb) (lx ((tb).getD ((eS lhash first gs tb ls i).2 + 1) lb0) la)] : List LbT))), (some b35, .cells #[i64 (((gs).getD i g0).k), i64 (((gs).getD i g0).a), i64 (((gs).getD i g0).b)] 99 (0, 0)), (k1, sob ELb 38 ((eS lhash first gs tb ls i).1) z1), (some b1, .cells #[i64 (ls.length : Nat), .slice ga gs.length gc, .slice oa ol.length oc] 70 (0, 0)), (some b13, .cells (cel E8 (AesSpec.cipher AesSpec.fixKey)).toArray 215 (0, 0))] | _, _ => False) mixed (by kernel_rfl) (by kernel_rfl) H135.drew ?_
    refine WalkE.look rfl (fun _ => pT b13) (fun _ _ _ => rfl) (fun L r _ uw _ _ _ _ => Gives.run rfl (r_move (v := pT b13) rfl) ⟨rfl, rfl⟩) ?_
    refine WalkE.look rfl (fun _ => lV (la)) (fun _ _ _ => rfl) (fun L r uw0 uw hAn hDn hF hEx => ?_) ?_
    ·skip
     have b19 := hDn 19 (by decide) rfl
     have b21 := hDn 21 (by decide) rfl
     have hb := mp2 b19 b21
     rw [hb] at hF
     have HH := hF
     replace HH := HH.ext hEx
     exact Gives.run rfl (r_loadA (cs' := (cel E64 ([(la).1, (la).2])).toArray) agg38 siz38 (HH.get (k := 3) rfl) (off := 0) rfl (by exact bLe rfl) (by exact ext_all rfl)) ⟨rfl, rfl⟩
    refine WalkE.look rfl (fun _ => u64 (sv)) (fun _ _ _ => rfl) (fun L r _ uw _ _ _ _ => Gives.run rfl (r_move (v := u64 (sv)) rfl) ⟨rfl, rfl⟩) ?_
    refine WalkE.call rfl (fun _ => .agg (cel E64 [(lhash la sv).1, (lhash la sv).2]).toArray) (fun _ _ _ => rfl) (fun L r uw0 uw hAn hDn hF hEx => ?_) ?_
    ·skip
     have b19 := hDn 19 (by decide) rfl
     have b21 := hDn 21 (by decide) rfl
     have hb := mp2 b19 b21
     rw [hb] at hF
     have HH := hF
     replace HH := HH.ext hEx
     exact Gives.call rfl (Enters.callL (vs := [pT b13, lV (la), u64 (sv)]) call87 rfl) (lhash_ok b13 la sv uw (HH.get (k := 7) rfl))
    refine WalkE.look rfl (fun _ => lV (la)) (fun _ _ _ => rfl) (fun L r uw0 uw hAn hDn hF hEx => ?_) ?_
    ·skip
     have b19 := hDn 19 (by decide) rfl
     have b21 := hDn 21 (by decide) rfl
     have hb := mp2 b19 b21
     rw [hb] at hF
     have HH := hF
     replace HH := HH.ext hEx
     exact Gives.run rfl (r_loadA (cs' := (cel E64 ([(la).1, (la).2])).toArray) agg38 siz38 (HH.get (k := 3) rfl) (off := 0) rfl (by exact bLe rfl) (by exact ext_all rfl)) ⟨rfl, rfl⟩
    refine WalkE.call rfl (fun _ => .bool (col la)) (fun _ _ _ => rfl) (fun L r uw0 uw hAn hDn hF hEx => ?_) ?_
    ·skip
     have b19 := hDn 19 (by decide) rfl
     have b21 := hDn 21 (by decide) rfl
     have hb := mp2 b19 b21
     rw [hb] at hF
     have HH := hF
     replace HH := HH.ext hEx
     exact Gives.call rfl (Enters.callL (vs := [lV (la)]) call84 rfl) (col_ok la uw)
    refine WalkE.look rfl (fun _ => lV ((tb).getD ((eS lhash first gs tb ls i).2) lb0)) (fun _ _ _ => rfl) (fun L r uw0 uw hAn hDn hF hEx => ?_) ?_
    ·skip
     have b19 := hDn 19 (by decide) rfl
     have b21 := hDn 21 (by decide) rfl
     have hb := mp2 b19 b21
     rw [hb] at hF
     have HH := hF
     replace HH := HH.ext hEx
     exact Gives.run rfl (r_loadA (cs' := (cel E64 ([((tb).getD ((eS lhash first gs tb ls i).2) lb0).1, ((tb).getD ((eS lhash first gs tb ls i).2) lb0).2])).toArray) agg38 siz38 (HH.get (k := 1) rfl) (off := 0) rfl (by exact bLe rfl) (by exact ext_all rfl)) ⟨rfl, rfl⟩
    refine WalkE.call rfl (fun _ => .agg (cel E64 [(lw (col la) ((tb).getD ((eS lhash first gs tb ls i).2) lb0)).1, (lw (col la) ((tb).getD ((eS lhash first gs tb ls i).2) lb0)).2]).toArray) (fun _ _ _ => rfl) (fun L r uw0 uw hAn hDn hF hEx => ?_) ?_
    ·skip
     have b19 := hDn 19 (by decide) rfl
     have b21 := hDn 21 (by decide) rfl
     have hb := mp2 b19 b21
     rw [hb] at hF
     have HH := hF
     replace HH := HH.ext hEx
     exact Gives.call rfl (Enters.callL (vs := [.bool (col la), lV ((tb).getD ((eS lhash first gs tb ls i).2) lb0)]) call89 rfl) (lw_ok (col la) ((tb).getD ((eS lhash first gs tb ls i).2) lb0) uw)
    refine WalkE.look rfl (fun _ => pT b13) (fun _ _ _ => rfl) (fun L r _ uw _ _ _ _ => Gives.run rfl (r_move (v := pT b13) rfl) ⟨rfl, rfl⟩) ?_
    refine WalkE.look rfl (fun _ => lV (lb)) (fun _ _ _ => rfl) (fun L r uw0 uw hAn hDn hF hEx => ?_) ?_
    ·skip
     have b19 := hDn 19 (by decide) rfl
     have b21 := hDn 21 (by decide) rfl
     have hb := mp2 b19 b21
     rw [hb] at hF
     have HH := hF
     replace HH := HH.ext hEx
     exact Gives.run rfl (r_loadA (cs' := (cel E64 ([(lb).1, (lb).2])).toArray) agg38 siz38 (HH.get (k := 2) rfl) (off := 0) rfl (by exact bLe rfl) (by exact ext_all rfl)) ⟨rfl, rfl⟩
    refine WalkE.look rfl (fun _ => u64 (sv)) (fun _ _ _ => rfl) (fun L r _ uw _ _ _ _ => Gives.run rfl (r_move (v := u64 (sv)) rfl) ⟨rfl, rfl⟩) ?_
    refine WalkE.look rfl (fun _ => u64 (sv + (1#64))) (fun _ _ _ => rfl) (fun L r _ uw _ _ _ _ => Gives.run rfl (r_add64 (a := sv) (b := 1#64) rfl rfl) ⟨rfl, rfl⟩) ?_
    refine WalkE.call rfl (fun _ => .agg (cel E64 [(lhash lb (sv + (1#64))).1, (lhash lb (sv + (1#64))).2]).toArray) (fun _ _ _ => rfl) (fun L r uw0 uw hAn hDn hF hEx => ?_) ?_
    ·skip
     have b19 := hDn 19 (by decide) rfl
     have b21 := hDn 21 (by decide) rfl
     have hb := mp2 b19 b21
     rw [hb] at hF
     have HH := hF
     replace HH := HH.ext hEx
     exact Gives.call rfl (Enters.callL (vs := [pT b13, lV (lb), u64 (sv + (1#64))]) call87 rfl) (lhash_ok b13 lb (sv + (1#64)) uw (HH.get (k := 7) rfl))
    refine WalkE.look rfl (fun _ => lV (lb)) (fun _ _ _ => rfl) (fun L r uw0 uw hAn hDn hF hEx => ?_) ?_
    ·skip
     have b19 := hDn 19 (by decide) rfl
     have b21 := hDn 21 (by decide) rfl
     have hb := mp2 b19 b21
     rw [hb] at hF
     have HH := hF
     replace HH := HH.ext hEx
     exact Gives.run rfl (r_loadA (cs' := (cel E64 ([(lb).1, (lb).2])).toArray) agg38 siz38 (HH.get (k := 2) rfl) (off := 0) rfl (by exact bLe rfl) (by exact ext_all rfl)) ⟨rfl, rfl⟩
    refine WalkE.call rfl (fun _ => .bool (col lb)) (fun _ _ _ => rfl) (fun L r uw0 uw hAn hDn hF hEx => ?_) ?_
    ·skip
     have b19 := hDn 19 (by decide) rfl
     have b21 := hDn 21 (by decide) rfl
     have hb := mp2 b19 b21
     rw [hb] at hF
     have HH := hF
     replace HH := HH.ext hEx
     exact Gives.call rfl (Enters.callL (vs := [lV (lb)]) call84 rfl) (col_ok lb uw)
    refine WalkE.look rfl (fun _ => lV ((tb).getD ((eS lhash first gs tb ls i).2 + 1) lb0)) (fun _ _ _ => rfl) (fun L r uw0 uw hAn hDn hF hEx => ?_) ?_
    ·skip
     have b19 := hDn 19 (by decide) rfl
     have b21 := hDn 21 (by decide) rfl
     have hb := mp2 b19 b21
     rw [hb] at hF
     have HH := hF
     replace HH := HH.ext hEx
     exact Gives.run rfl (r_loadA (cs' := (cel E64 ([((tb).getD ((eS lhash first gs tb ls i).2 + 1) lb0).1, ((tb).getD ((eS lhash first gs tb ls i).2 + 1) lb0).2])).toArray) agg38 siz38 (HH.get (k := 0) rfl) (off := 0) rfl (by exact bLe rfl) (by exact ext_all rfl)) ⟨rfl, rfl⟩
    refine WalkE.look rfl (fun _ => lV (la)) (fun _ _ _ => rfl) (fun L r uw0 uw hAn hDn hF hEx => ?_) ?_
    ·skip
     have b19 := hDn 19 (by decide) rfl
     have b21 := hDn 21 (by decide) rfl
     have hb := mp2 b19 b21
     rw [hb] at hF
     have HH := hF
     replace HH := HH.ext hEx
     exact Gives.run rfl (r_loadA (cs' := (cel E64 ([(la).1, (la).2])).toArray) agg38 siz38 (HH.get (k := 3) rfl) (off := 0) rfl (by exact bLe rfl) (by exact ext_all rfl)) ⟨rfl, rfl⟩
    refine WalkE.call rfl (fun _ => .agg (cel E64 [(lx ((tb).getD ((eS lhash first gs tb ls i).2 + 1) lb0) la).1, (lx ((tb).getD ((eS lhash first gs tb ls i).2 + 1) lb0) la).2]).toArray) (fun _ _ _ => rfl) (fun L r uw0 uw hAn hDn hF hEx => ?_) ?_
    ·skip
     have b19 := hDn 19 (by decide) rfl
     have b21 := hDn 21 (by decide) rfl
     have hb := mp2 b19 b21
     rw [hb] at hF
     have HH := hF
     replace HH := HH.ext hEx
     exact Gives.call rfl (Enters.callL (vs := [lV ((tb).getD ((eS lhash first gs tb ls i).2 + 1) lb0), lV (la)]) call86 rfl) (lxor_ok ((tb).getD ((eS lhash first gs tb ls i).2 + 1) lb0) la uw)
    refine WalkE.call rfl (fun _ => .agg (cel E64 [(lw (col lb) (lx ((tb).getD ((eS lhash first gs tb ls i).2 + 1) lb0) la)).1, (lw (col lb) (lx ((tb).getD ((eS lhash first gs tb ls i).2 + 1) lb0) la)).2]).toArray) (fun _ _ _ => rfl) (fun L r uw0 uw hAn hDn hF hEx => ?_) ?_
    ·skip
     have b19 := hDn 19 (by decide) rfl
     have b21 := hDn 21 (by decide) rfl
     have hb := mp2 b19 b21
     rw [hb] at hF
     have HH := hF
     replace HH := HH.ext hEx
     exact Gives.call rfl (Enters.callL (vs := [.bool (col lb), .agg (cel E64 [(lx ((tb).getD ((eS lhash first gs tb ls i).2 + 1) lb0) la).1, (lx ((tb).getD ((eS lhash first gs tb ls i).2 + 1) lb0) la).2]).toArray]) call89 rfl) (lw_ok (col lb) (lx ((tb).getD ((eS lhash first gs tb ls i).2 + 1) lb0) la) uw)
    refine WalkE.eff 0 rfl (fun L r uw0 uw hLn hAn hDn hF hEx => ?_) ?_
    ·skip
     have b19 : L 19 = false := hLn
     have b21 := hDn 21 (by decide) rfl
     have hb := mp2 b19 b21
     rw [hb] at hF ⊢
     have H146 := hF
     replace H146 := H146.ext hEx
     dsimp only
     refine Gives.ofW (d := 112) rfl rfl (fun Q' hK => ?_)
     refine q_buildSlice (E := ELb) (l := ([lhash la sv, lw (col la) ((tb).getD ((eS lhash first gs tb ls i).2) lb0), lhash lb (sv + (1#64)), lw (col lb) (lx ((tb).getD ((eS lhash first gs tb ls i).2 + 1) lb0) la)] : List LbT)) H146 sli92 zer38 (bLe rfl) (ps := [(0, .agg (cel E64 [(lhash la sv).1, (lhash la sv).2]).toArray), (1, .agg (cel E64 [(lw (col la) ((tb).getD ((eS lhash first gs tb ls i).2) lb0)).1, (lw (col la) ((tb).getD ((eS lhash first gs tb ls i).2) lb0)).2]).toArray), (2, .agg (cel E64 [(lhash lb (sv + (1#64))).1, (lhash lb (sv + (1#64))).2]).toArray), (3, .agg (cel E64 [(lw (col lb) (lx ((tb).getD ((eS lhash first gs tb ls i).2 + 1) lb0) la)).1, (lw (col lb) (lx ((tb).getD ((eS lhash first gs tb ls i).2 + 1) lb0) la)).2]).toArray)]) rfl (by exact fillAll rfl rfl) rfl ?_
     intro b147 w149 hS148 H150 hE151
     exact hK _ _ (show ∃ (b137 : Nat), (_ : Value) = .slice (ownA (some b137)) 4 4 ∧ Sl ELb (some b137) ([lhash la sv, lw (col la) ((tb).getD ((eS lhash first gs tb ls i).2) lb0), lhash lb (sv + (1#64)), lw (col lb) (lx ((tb).getD ((eS lhash first gs tb ls i).2 + 1) lb0) la)] : List LbT) 4 ([]) ∧ Hp No w w149 [((some b137), sob ELb 38 ([lhash la sv, lw (col la) ((tb).getD ((eS lhash first gs tb ls i).2) lb0), lhash lb (sv + (1#64)), lw (col lb) (lx ((tb).getD ((eS lhash first gs tb ls i).2 + 1) lb0) la)] : List LbT) ([])), (some b93, lO ((tb).getD ((eS lhash first gs tb ls i).2 + 1) lb0)), (some b83, lO ((tb).getD ((eS lhash first gs tb ls i).2) lb0)), (some b75, lO (lb)), (some b42, lO (la)), (some b35, .cells #[i64 (((gs).getD i g0).k), i64 (((gs).getD i g0).a), i64 (((gs).getD i g0).b)] 99 (0, 0)), (k1, sob ELb 38 ((eS lhash first gs tb ls i).1) z1), (some b1, .cells #[i64 (ls.length : Nat), .slice ga gs.length gc, .slice oa ol.length oc] 70 (0, 0)), (some b13, .cells (cel E8 (AesSpec.cipher AesSpec.fixKey)).toArray 215 (0, 0))] from ⟨b147, rfl, hS148, (((((((((H150.pull (k := 8) rfl).pull (k := 8) rfl).pull (k := 8) rfl).pull (k := 8) rfl).pull (k := 8) rfl).pull (k := 8) rfl).pull (k := 8) rfl).pull (k := 8) rfl).pull (k := 8) rfl)⟩)
    refine WalkE.call rfl (fun _ => .agg (cel E64 [(lsum ([lhash la sv, lw (col la) ((tb).getD ((eS lhash first gs tb ls i).2) lb0), lhash lb (sv + (1#64)), lw (col lb) (lx ((tb).getD ((eS lhash first gs tb ls i).2 + 1) lb0) la)] : List LbT)).1, (lsum ([lhash la sv, lw (col la) ((tb).getD ((eS lhash first gs tb ls i).2) lb0), lhash lb (sv + (1#64)), lw (col lb) (lx ((tb).getD ((eS lhash first gs tb ls i).2 + 1) lb0) la)] : List LbT)).2]).toArray) (fun _ _ _ => rfl) (fun L r uw0 uw hAn hDn hF hEx => ?_) ?_
    ·skip
     have b19 := hAn 19 (by decide) rfl
     have b21 := hDn 21 (by decide) rfl
     have hb := mp2 b19 b21
     rw [hb] at hF
     obtain ⟨b137, e19, hS138, HH⟩ := hF
     replace HH := HH.ext hEx
     dsimp only
     rw [e19]
     exact Gives.call rfl (Enters.callL (vs := [.slice (ownA (some b137)) 4 4]) call88 rfl) (lsum_ok ([lhash la sv, lw (col la) ((tb).getD ((eS lhash first gs tb ls i).2) lb0), lhash lb (sv + (1#64)), lw (col lb) (lx ((tb).getD ((eS lhash first gs tb ls i).2 + 1) lb0) la)] : List LbT) (ownA (some b137)) 4 4 (by rfl) (by simp) uw (HH.rd (k := 0) rfl hS138))
    refine WalkE.eff 1 rfl (fun L r uw0 uw hLn hAn hDn hF hEx => ?_) ?_
    ·skip
     have b19 := hAn 19 (by decide) rfl
     have b21 : L 21 = false := hLn
     have hb := mp2 b19 b21
     rw [hb] at hF ⊢
     obtain ⟨b137, e19, hS138, H152⟩ := hF
     replace H152 := H152.ext hEx
     dsimp only
     rw [e19]
     refine Gives.ofW0 rfl (fun Q' hK => ?_)
     refine d_store (k := 4) (v := .agg (cel E64 [(lsum ([lhash la sv, lw (col la) ((tb).getD ((eS lhash first gs tb ls i).2) lb0), lhash lb (sv + (1#64)), lw (col lb) (lx ((tb).getD ((eS lhash first gs tb ls i).2 + 1) lb0) la)] : List LbT)).1, (lsum ([lhash la sv, lw (col la) ((tb).getD ((eS lhash first gs tb ls i).2) lb0), lhash lb (sv + (1#64)), lw (col lb) (lx ((tb).getD ((eS lhash first gs tb ls i).2 + 1) lb0) la)] : List LbT)).2]).toArray) (cs' := (cel E64 ([(lsum ([lhash la sv, lw (col la) ((tb).getD ((eS lhash first gs tb ls i).2) lb0), lhash lb (sv + (1#64)), lw (col lb) (lx ((tb).getD ((eS lhash first gs tb ls i).2 + 1) lb0) la)] : List LbT)).1, (lsum ([lhash la sv, lw (col la) ((tb).getD ((eS lhash first gs tb ls i).2) lb0), lhash lb (sv + (1#64)), lw (col lb) (lx ((tb).getD ((eS lhash first gs tb ls i).2 + 1) lb0) la)] : List LbT)).2])).toArray) H152 rfl rfl rfl siz38 (by exact celSize (by first | rfl | (show _ * 1 = _; omega))) (by exact celOne _) (by rw [List.size_toArray, cel_length]; show _ ≤ _ * 1; first | omega | (simp only [List.length_set]; omega) | exact bLe rfl | (simp <;> omega)) (by exact putAll (by first | rfl | omega | (simp <;> omega))) ?_
     intro w153 H154 hC155
     have H154' := H154.as (L' := [((some b137), sob ELb 38 ([lhash la sv, lw (col la) ((tb).getD ((eS lhash first gs tb ls i).2) lb0), lhash lb (sv + (1#64)), lw (col lb) (lx ((tb).getD ((eS lhash first gs tb ls i).2 + 1) lb0) la)] : List LbT) ([])), (some b93, lO ((tb).getD ((eS lhash first gs tb ls i).2 + 1) lb0)), (some b83, lO ((tb).getD ((eS lhash first gs tb ls i).2) lb0)), (some b75, lO (lb)), (some b42, lO (lsum ([lhash la sv, lw (col la) ((tb).getD ((eS lhash first gs tb ls i).2) lb0), lhash lb (sv + (1#64)), lw (col lb) (lx ((tb).getD ((eS lhash first gs tb ls i).2 + 1) lb0) la)] : List LbT))), (some b35, .cells #[i64 (((gs).getD i g0).k), i64 (((gs).getD i g0).a), i64 (((gs).getD i g0).b)] 99 (0, 0)), (k1, sob ELb 38 ((eS lhash first gs tb ls i).1) z1), (some b1, .cells #[i64 (ls.length : Nat), .slice ga gs.length gc, .slice oa ol.length oc] 70 (0, 0)), (some b13, .cells (cel E8 (AesSpec.cipher AesSpec.fixKey)).toArray 215 (0, 0))]) rfl
     clear H154
     exact hK _ (fun _ => (show ∃ (b137 : Nat), r 19 = .slice (ownA (some b137)) 4 4 ∧ Sl ELb (some b137) ([lhash la sv, lw (col la) ((tb).getD ((eS lhash first gs tb ls i).2) lb0), lhash lb (sv + (1#64)), lw (col lb) (lx ((tb).getD ((eS lhash first gs tb ls i).2 + 1) lb0) la)] : List LbT) 4 ([]) ∧ Hp No w w153 [((some b137), sob ELb 38 ([lhash la sv, lw (col la) ((tb).getD ((eS lhash first gs tb ls i).2) lb0), lhash lb (sv + (1#64)), lw (col lb) (lx ((tb).getD ((eS lhash first gs tb ls i).2 + 1) lb0) la)] : List LbT) ([])), (some b93, lO ((tb).getD ((eS lhash first gs tb ls i).2 + 1) lb0)), (some b83, lO ((tb).getD ((eS lhash first gs tb ls i).2) lb0)), (some b75, lO (lb)), (some b42, lO (lsum ([lhash la sv, lw (col la) ((tb).getD ((eS lhash first gs tb ls i).2) lb0), lhash lb (sv + (1#64)), lw (col lb) (lx ((tb).getD ((eS lhash first gs tb ls i).2 + 1) lb0) la)] : List LbT))), (some b35, .cells #[i64 (((gs).getD i g0).k), i64 (((gs).getD i g0).a), i64 (((gs).getD i g0).b)] 99 (0, 0)), (k1, sob ELb 38 ((eS lhash first gs tb ls i).1) z1), (some b1, .cells #[i64 (ls.length : Nat), .slice ga gs.length gc, .slice oa ol.length oc] 70 (0, 0)), (some b13, .cells (cel E8 (AesSpec.cipher AesSpec.fixKey)).toArray 215 (0, 0))] from ⟨b137, e19, hS138, (((((((((H154'.pull (k := 8) rfl).pull (k := 8) rfl).pull (k := 8) rfl).pull (k := 8) rfl).pull (k := 8) rfl).pull (k := 8) rfl).pull (k := 8) rfl).pull (k := 8) rfl).pull (k := 8) rfl)⟩))
    refine WalkE.nil ?_
    intro r156 uw0 w157 hF hEx
    obtain ⟨b137, e19, hS138, H158⟩ := hF
    replace H158 := H158.ext hEx
    dsimp only
    rw [e19]
    refine wnil ?_
    refine blockNormal ?_
    refine thenNormal ?_
    refine oneRegion ?_
    refine sM (.slice (ownA k1) (ls.length + i) c1) rfl ?_
    refine sq (r_loadA (cs' := (cel E64 ([(lsum ([lhash la sv, lw (col la) ((tb).getD ((eS lhash first gs tb ls i).2) lb0), lhash lb (sv + (1#64)), lw (col lb) (lx ((tb).getD ((eS lhash first gs tb ls i).2 + 1) lb0) la)] : List LbT)).1, (lsum ([lhash la sv, lw (col la) ((tb).getD ((eS lhash first gs tb ls i).2) lb0), lhash lb (sv + (1#64)), lw (col lb) (lx ((tb).getD ((eS lhash first gs tb ls i).2 + 1) lb0) la)] : List LbT)).2])).toArray) agg38 siz38 (H158.get (k := 4) rfl) (off := 0) rfl (by exact bLe rfl) (by exact ext_all rfl)) ?_
    refine q_buildSlice (E := ELb) (l := ([lsum ([lhash la sv, lw (col la) ((tb).getD ((eS lhash first gs tb ls i).2) lb0), lhash lb (sv + (1#64)), lw (col lb) (lx ((tb).getD ((eS lhash first gs tb ls i).2 + 1) lb0) la)] : List LbT)] : List LbT)) H158 sli92 zer38 (bLe rfl) (ps := [(0, lV (lsum ([lhash la sv, lw (col la) ((tb).getD ((eS lhash first gs tb ls i).2) lb0), lhash lb (sv + (1#64)), lw (col lb) (lx ((tb).getD ((eS lhash first gs tb ls i).2 + 1) lb0) la)] : List LbT)))]) rfl (by exact fillAll rfl rfl) rfl ?_
    intro b159 w161 hS160 H162 hE163
    refine q_append (E := ELb) (k := 7) (l := (eS lhash first gs tb ls i).1) (l2 := ([lsum ([lhash la sv, lw (col la) ((tb).getD ((eS lhash first gs tb ls i).2) lb0), lhash lb (sv + (1#64)), lw (col lb) (lx ((tb).getD ((eS lhash first gs tb ls i).2 + 1) lb0) la)] : List LbT)] : List LbT)) H162 rfl h1 sli92 zer38 rfl byt38 (H162.rd (k := 0) rfl hS160) rfl (by rw [eS_len]) rfl (by rfl) (by omega) ?_
    intro key164 c165 sp166 w168 hS167 hne170 H169
    have H169' := H169.as (L' := [((some b159), sob ELb 38 ([lsum ([lhash la sv, lw (col la) ((tb).getD ((eS lhash first gs tb ls i).2) lb0), lhash lb (sv + (1#64)), lw (col lb) (lx ((tb).getD ((eS lhash first gs tb ls i).2 + 1) lb0) la)] : List LbT)] : List LbT) ([])), ((some b137), sob ELb 38 ([lhash la sv, lw (col la) ((tb).getD ((eS lhash first gs tb ls i).2) lb0), lhash lb (sv + (1#64)), lw (col lb) (lx ((tb).getD ((eS lhash first gs tb ls i).2 + 1) lb0) la)] : List LbT) ([])), (some b93, lO ((tb).getD ((eS lhash first gs tb ls i).2 + 1) lb0)), (some b83, lO ((tb).getD ((eS lhash first gs tb ls i).2) lb0)), (some b75, lO (lb)), (some b42, lO (lsum ([lhash la sv, lw (col la) ((tb).getD ((eS lhash first gs tb ls i).2) lb0), lhash lb (sv + (1#64)), lw (col lb) (lx ((tb).getD ((eS lhash first gs tb ls i).2 + 1) lb0) la)] : List LbT))), (some b35, .cells #[i64 (((gs).getD i g0).k), i64 (((gs).getD i g0).a), i64 (((gs).getD i g0).b)] 99 (0, 0)), (key164, sob ELb 38 (((eS lhash first gs tb ls i).1) ++ ([lsum ([lhash la sv, lw (col la) ((tb).getD ((eS lhash first gs tb ls i).2) lb0), lhash lb (sv + (1#64)), lw (col lb) (lx ((tb).getD ((eS lhash first gs tb ls i).2 + 1) lb0) la)] : List LbT)] : List LbT)) sp166), (some b1, .cells #[i64 (ls.length : Nat), .slice ga gs.length gc, .slice oa ol.length oc] 70 (0, 0)), (some b13, .cells (cel E8 (AesSpec.cipher AesSpec.fixKey)).toArray 215 (0, 0))]) rfl
    clear H169
    have e171 : ((eS lhash first gs tb ls i).1) ++ ([lsum ([lhash la sv, lw (col la) ((tb).getD ((eS lhash first gs tb ls i).2) lb0), lhash lb (sv + (1#64)), lw (col lb) (lx ((tb).getD ((eS lhash first gs tb ls i).2 + 1) lb0) la)] : List LbT)] : List LbT) = (eS lhash first gs tb ls (i + 1)).1 := by rw [eS, estep, if_neg hn1, if_pos hk, hsv, hla, hlb]; try rfl
    have hS172 := hS167
    rw [e171] at hS172
    have H173 := H169'.as (L' := [((some b159), sob ELb 38 ([lsum ([lhash la sv, lw (col la) ((tb).getD ((eS lhash first gs tb ls i).2) lb0), lhash lb (sv + (1#64)), lw (col lb) (lx ((tb).getD ((eS lhash first gs tb ls i).2 + 1) lb0) la)] : List LbT)] : List LbT) ([])), ((some b137), sob ELb 38 ([lhash la sv, lw (col la) ((tb).getD ((eS lhash first gs tb ls i).2) lb0), lhash lb (sv + (1#64)), lw (col lb) (lx ((tb).getD ((eS lhash first gs tb ls i).2 + 1) lb0) la)] : List LbT) ([])), (some b93, lO ((tb).getD ((eS lhash first gs tb ls i).2 + 1) lb0)), (some b83, lO ((tb).getD ((eS lhash first gs tb ls i).2) lb0)), (some b75, lO (lb)), (some b42, lO (lsum ([lhash la sv, lw (col la) ((tb).getD ((eS lhash first gs tb ls i).2) lb0), lhash lb (sv + (1#64)), lw (col lb) (lx ((tb).getD ((eS lhash first gs tb ls i).2 + 1) lb0) la)] : List LbT))), (some b35, .cells #[i64 (((gs).getD i g0).k), i64 (((gs).getD i g0).a), i64 (((gs).getD i g0).b)] 99 (0, 0)), (key164, sob ELb 38 ((eS lhash first gs tb ls (i + 1)).1) sp166), (some b1, .cells #[i64 (ls.length : Nat), .slice ga gs.length gc, .slice oa ol.length oc] 70 (0, 0)), (some b13, .cells (cel E8 (AesSpec.cipher AesSpec.fixKey)).toArray 215 (0, 0))]) (by rw [e171])
    refine sA (.slice (ownA key164) ((ls.length + i) + 1) c165) rfl ?_
    refine wnil ?_
    refine blockNormal ?_
    refine thenNormal ?_
    refine oneRegion ?_
    refine sq (r_addI (a := (i : Nat)) (b := (1 : Int)) rfl rfl (by omega)) ?_
    refine sM (i64 ((i : Nat) + (1 : Int))) rfl ?_
    refine wnil ?_
    refine thenNormal ?_
    exact ⟨(i + 1, key164, c165, sp166, (eS lhash first gs tb ls i).2 + 2), _, rfl, ⟨rfl, rfl, rfl, rfl, rfl, rfl, rfl, rfl, rfl, trivial⟩, ⟨⟨by omega, hS172, by rw [eS, estep, if_neg hn1, if_pos hk]⟩, (((((((H173.dropk 6).dropk 5).dropk 4).dropk 3).dropk 2).dropk 1).dropk 0)⟩, by show gs.length - (i + 1) < gs.length - i; omega⟩
   ·skip
    have hn2 := hk2
    refine skipAny ?_
    refine blockNormal ?_
    refine thenNormal ?_
    refine oneRegion ?_
    refine sM (.slice (ownA k1) (ls.length + i) c1) rfl ?_
    refine sq (r_loadA (cs' := (cel E64 ([(la).1, (la).2])).toArray) agg38 siz38 (H47'.get (k := 0) rfl) (off := 0) rfl (by exact bLe rfl) (by exact ext_all rfl)) ?_
    refine q_buildSlice (E := ELb) (l := ([la] : List LbT)) H47' sli92 zer38 (bLe rfl) (ps := [(0, lV (la))]) rfl (by exact fillAll rfl rfl) rfl ?_
    intro b174 w176 hS175 H177 hE178
    refine q_append (E := ELb) (k := 3) (l := (eS lhash first gs tb ls i).1) (l2 := ([la] : List LbT)) H177 rfl h1 sli92 zer38 rfl byt38 (H177.rd (k := 0) rfl hS175) rfl (by rw [eS_len]) rfl (by rfl) (by omega) ?_
    intro key179 c180 sp181 w183 hS182 hne185 H184
    have H184' := H184.as (L' := [((some b174), sob ELb 38 ([la] : List LbT) ([])), (some b42, lO (la)), (some b35, .cells #[i64 (((gs).getD i g0).k), i64 (((gs).getD i g0).a), i64 (((gs).getD i g0).b)] 99 (0, 0)), (key179, sob ELb 38 (((eS lhash first gs tb ls i).1) ++ ([la] : List LbT)) sp181), (some b1, .cells #[i64 (ls.length : Nat), .slice ga gs.length gc, .slice oa ol.length oc] 70 (0, 0)), (some b13, .cells (cel E8 (AesSpec.cipher AesSpec.fixKey)).toArray 215 (0, 0))]) rfl
    clear H184
    have e186 : ((eS lhash first gs tb ls i).1) ++ ([la] : List LbT) = (eS lhash first gs tb ls (i + 1)).1 := by rw [eS, estep, if_neg hn1, if_neg hn2, hla]
    have hS187 := hS182
    rw [e186] at hS187
    have H188 := H184'.as (L' := [((some b174), sob ELb 38 ([la] : List LbT) ([])), (some b42, lO (la)), (some b35, .cells #[i64 (((gs).getD i g0).k), i64 (((gs).getD i g0).a), i64 (((gs).getD i g0).b)] 99 (0, 0)), (key179, sob ELb 38 ((eS lhash first gs tb ls (i + 1)).1) sp181), (some b1, .cells #[i64 (ls.length : Nat), .slice ga gs.length gc, .slice oa ol.length oc] 70 (0, 0)), (some b13, .cells (cel E8 (AesSpec.cipher AesSpec.fixKey)).toArray 215 (0, 0))]) (by rw [e186])
    refine sA (.slice (ownA key179) ((ls.length + i) + 1) c180) rfl ?_
    refine wnil ?_
    refine blockNormal ?_
    refine thenNormal ?_
    refine oneRegion ?_
    refine sq (r_addI (a := (i : Nat)) (b := (1 : Int)) rfl rfl (by omega)) ?_
    refine sM (i64 ((i : Nat) + (1 : Int))) rfl ?_
    refine wnil ?_
    refine thenNormal ?_
    exact ⟨(i + 1, key179, c180, sp181, (eS lhash first gs tb ls i).2), _, rfl, ⟨rfl, rfl, rfl, rfl, rfl, rfl, rfl, rfl, rfl, trivial⟩, ⟨⟨by omega, hS187, by rw [eS, estep, if_neg hn1, if_neg hn2]⟩, (((H188.dropk 2).dropk 1).dropk 0)⟩, by show gs.length - (i + 1) < gs.length - i; omega⟩
 ·skip
  have hie : i = gs.length := by omega
  rw [hie] at HL h1
  rw [hie]
  refine exitAny ?_
  refine thenExit ?_
  refine thenExit ?_
  refine blockHere ?_
  refine thenNormal ?_
  refine sR ?_
  refine sq (r_loadA (cs' := #[i64 (ls.length : Nat), .slice ga gs.length gc, .slice oa ol.length oc]) agg70 siz70 (HL.get (k := 1) rfl) (off := 0) rfl (by exact bLe rfl) (by rfl)) ?_
  refine sM (.slice (ownA k1) (ls.length + gs.length) c1) rfl ?_
  refine c_call (vs := [.agg #[i64 (ls.length : Nat), .slice ga gs.length gc, .slice oa ol.length oc], .slice (ownA k1) (ls.length + gs.length) c1]) call90 rfl (outs_ok ((ls.length : Nat) : Int) gs ol ga oa gc oc ((eS lhash first gs tb ls gs.length).1) (ownA k1) (ls.length + gs.length) c1 (by rw [eS_len]) w33 (hOl.ext HL.chg) (HL.rd (k := 0) rfl h1) (by omega) (fun j hj => by rw [eS_len]; have := hg.ook j hj; omega)) ?_
  rintro _ w189 ⟨⟨key191, c192, sp193, rfl, hS194, hk195⟩, hE196⟩
  rw [show (oL (eS lhash first gs tb ls gs.length).1 ol ol.length).length = ol.length from oL_len _ _ _]
  have H197 := HL.add hE196 hk195
  refine sA (.slice (ownA key191) ol.length c192) rfl ?_
  refine sA (.nilIface) rfl ?_
  refine wend ?_
  refine retAny ?_
  refine retG (rs := [.tmp 8, .tmp 9]) (vs := [.slice (ownA key191) ol.length c192, .nilIface]) rfl ⟨⟨rfl, rfl⟩, ⟨rfl, rfl⟩, trivial⟩ ?_
  exact ⟨_, rfl, key191, c192, sp193, rfl, hS194, (((H197.dropk 3).dropk 2).dropk 1)⟩
end Go.Proofs.YteofdmdpaejgaaaDoor.Gb
namespace Go.Proofs.YteofdmdpaejgaaaDoor.Gb
open Go Go.Proofs.YteofdmdpaejgaaaDoor.Vc Go.Proofs.YteofdmdpaejgaaaDoor.Er Go.Proofs.YteofdmdpaejgaaaDoor.Circ
set_option linter.unusedVariables false
theorem gty38 : Tryd.prog.eqGuardType Tryd.prog.depth 38 = false := by kernel_rfl
theorem one32 : isOne Tryd.prog 32 = true := by kernel_rfl
theorem und38 : Tryd.prog.underlying 38 = some (.array 2 32) := by kernel_rfl
theorem label_ok (z δ : Lb) (b : Bool) (w : World) : Calls Tryd.prog 48 [.agg (cel E64 [(z).1, (z).2]).toArray, .agg (cel E64 [(δ).1, (δ).2]).toArray, .bool (b)].toArray w (Ret fun v w' => v = .agg (cel E64 [(lx z (lw b δ)).1, (lx z (lw b δ)).2]).toArray ∧ Ext w w') := by
 have H := Hp.start No w
 refine enter (n := 12) Tryd.func48 rfl rfl (bLe rfl) ?_
 refine sR ?_
 refine q_box (v := .agg (cel E64 [(z).1, (z).2]).toArray) (o := lO (z)) H rfl (by rfl) ?_
 intro b31 w32 hb31 H33 hE34
 refine q_box (v := .agg (cel E64 [(δ).1, (δ).2]).toArray) (o := lO (δ)) H33 rfl (by rfl) ?_
 intro b35 w36 hb35 H37 hE38
 refine q_alloc (o := .cells (cel E64 ([0#64, 0#64])).toArray 38 (0, 0)) H37 zer38 (by kernel_rfl) ?_
 intro b39 w40 hb39 H41 hE42
 refine wend ?_
 refine seqAny ?_
 refine drawE (m := 6) [0, 0, 0, 6, 15, 31] [5] (fun bs vs w' => match bs, vs with | [false], [_] => Hp No w w' [(some b39, .cells (cel E64 ([0#64, 0#64])).toArray 38 (0, 0)), (some b35, lO (δ)), (some b31, lO (z))] | [true], [_] => Hp No w w' [(some b39, lO (lx z (lw b δ))), (some b35, lO (δ)), (some b31, lO (z))] | _, _ => False) mixed (by kernel_rfl) (by kernel_rfl) H41.drew ?_
 refine WalkE.look rfl (fun _ => lV (z)) (fun _ _ _ => rfl) (fun L r uw0 uw hAn hDn hF hEx => ?_) ?_
 ·skip
  have b5 := hDn 5 (by decide) rfl
  have hb : List.map L [5] = [false] := by simp only [List.map_cons, List.map_nil, b5]
  rw [hb] at hF
  have HH := hF
  replace HH := HH.ext hEx
  exact Gives.run rfl (r_loadA (cs' := (cel E64 ([(z).1, (z).2])).toArray) agg38 siz38 (HH.get (k := 2) rfl) (off := 0) rfl (by exact bLe rfl) (by exact ext_all rfl)) ⟨rfl, rfl⟩
 refine WalkE.look rfl (fun _ => .bool (b)) (fun _ _ _ => rfl) (fun L r _ uw _ _ _ _ => Gives.run rfl (r_move (v := .bool (b)) rfl) ⟨rfl, rfl⟩) ?_
 refine WalkE.look rfl (fun _ => lV (δ)) (fun _ _ _ => rfl) (fun L r uw0 uw hAn hDn hF hEx => ?_) ?_
 ·skip
  have b5 := hDn 5 (by decide) rfl
  have hb : List.map L [5] = [false] := by simp only [List.map_cons, List.map_nil, b5]
  rw [hb] at hF
  have HH := hF
  replace HH := HH.ext hEx
  exact Gives.run rfl (r_loadA (cs' := (cel E64 ([(δ).1, (δ).2])).toArray) agg38 siz38 (HH.get (k := 1) rfl) (off := 0) rfl (by exact bLe rfl) (by exact ext_all rfl)) ⟨rfl, rfl⟩
 refine WalkE.call rfl (fun _ => .agg (cel E64 [(lw b δ).1, (lw b δ).2]).toArray) (fun _ _ _ => rfl) (fun L r uw0 uw hAn hDn hF hEx => ?_) ?_
 ·skip
  have b5 := hDn 5 (by decide) rfl
  have hb : List.map L [5] = [false] := by simp only [List.map_cons, List.map_nil, b5]
  rw [hb] at hF
  have HH := hF
  replace HH := HH.ext hEx
  exact Gives.call rfl (Enters.callL (vs := [.bool (b), lV (δ)]) call89 rfl) (lw_ok b δ uw)
 refine WalkE.call rfl (fun _ => .agg (cel E64 [(lx z (lw b δ)).1, (lx z (lw b δ)).2]).toArray) (fun _ _ _ => rfl) (fun L r uw0 uw hAn hDn hF hEx => ?_) ?_
 ·skip
  have b5 := hDn 5 (by decide) rfl
  have hb : List.map L [5] = [false] := by simp only [List.map_cons, List.map_nil, b5]
  rw [hb] at hF
  have HH := hF
  replace HH := HH.ext hEx
  exact Gives.call rfl (Enters.callL (vs := [lV (z), .agg (cel E64 [(lw b δ).1, (lw b δ).2]).toArray]) call86 rfl) (lxor_ok z (lw b δ) uw)
 refine WalkE.eff 0 rfl (fun L r uw0 uw hLn hAn hDn hF hEx => ?_) ?_
 ·skip
  have b5 : L 5 = false := hLn
  have hb : List.map L [5] = [false] := by simp only [List.map_cons, List.map_nil, b5]
  rw [hb] at hF ⊢
  have H47 := hF
  replace H47 := H47.ext hEx
  dsimp only
  refine Gives.ofW0 rfl (fun Q' hK => ?_)
  refine d_store (k := 0) (v := .agg (cel E64 [(lx z (lw b δ)).1, (lx z (lw b δ)).2]).toArray) (cs' := (cel E64 ([(lx z (lw b δ)).1, (lx z (lw b δ)).2])).toArray) H47 rfl rfl rfl siz38 (by exact celSize (by first | rfl | (show _ * 1 = _; omega))) (by exact celOne _) (by rw [List.size_toArray, cel_length]; show _ ≤ _ * 1; first | omega | (simp only [List.length_set]; omega) | exact bLe rfl | (simp <;> omega)) (by exact putAll (by first | rfl | omega | (simp <;> omega))) ?_
  intro w48 H49 hC50
  have H49' := H49.as (L' := [(some b39, lO (lx z (lw b δ))), (some b35, lO (δ)), (some b31, lO (z))]) rfl
  clear H49
  exact hK _ (fun _ => (show Hp No w w48 [(some b39, lO (lx z (lw b δ))), (some b35, lO (δ)), (some b31, lO (z))] from (((H49'.pull (k := 2) rfl).pull (k := 2) rfl).pull (k := 2) rfl)))
 refine WalkE.nil ?_
 intro r51 uw0 w52 hF hEx
 have H53 := hF
 replace H53 := H53.ext hEx
 dsimp only
 refine wnil ?_
 refine thenNormal ?_
 refine retAny ?_
 refine retG (rs := [.cell 6 38]) (vs := [lV (lx z (lw b δ))]) rfl ⟨r_loadA (cs' := (cel E64 ([(lx z (lw b δ)).1, (lx z (lw b δ)).2])).toArray) agg38 siz38 (H53.get (k := 0) rfl) (off := 0) rfl (by exact bLe rfl) (by exact ext_all rfl), trivial⟩ ?_
 exact ⟨_, rfl, rfl, H53.chg⟩
theorem colours_ok (l : List Lb) (a0 : Option Addr) (n0 c0 : Nat) (hn0 : n0 = l.length) (hl : l.length ≤ 140737488355328) (w : World) (hL : Rd ELb w a0 l) : Calls Tryd.prog 51 [.slice a0 n0 c0].toArray w (Ret fun v w' => v = u64 (colS l (min l.length 64)) ∧ Ext w w') := by
 subst hn0
 have H := Hp.start No w
 refine enter (n := 23) Tryd.func51 rfl rfl (bLe rfl) ?_
 refine sR ?_
 refine sA (u64 (0#64)) rfl ?_
 refine wend ?_
 refine sR ?_
 refine sA (u64 (0#64)) rfl ?_
 refine wend ?_
 refine seqAny ?_
 refine sR ?_
 refine sM (.slice a0 l.length c0) rfl ?_
 refine sq (r_lenS sli92 (a := a0) (m := l.length) (c := c0) rfl) ?_
 refine sq ((r_minI (a := (l.length : Nat)) (b := (64 : Int)) rfl rfl).as (v' := i64 (((min l.length 64) : Nat))) (by exact congrArg i64 (by omega))) ?_
 refine sM (i64 ((0 : Int))) rfl ?_
 refine wend ?_
 refine blockAny ?_
 refine loopAny (σ := Nat) (fun q => [(0, .slice a0 l.length c0), (3, u64 (colS l q)), (7, i64 (((min l.length 64) : Nat))), (8, i64 (q : Nat))]) (fun q w' => q ≤ min l.length 64 ∧ Hp No w w' []) (fun q => min l.length 64 - q) (0) ?_ ?_ ?_
 ·exact ⟨rfl, rfl, rfl, rfl, trivial⟩
 ·exact ⟨Nat.zero_le _, H⟩
 rintro q ρ w1 ⟨hq, HL⟩
 refine sR ?_
 refine sq (r_lssI (a := (q : Nat)) (b := ((min l.length 64) : Nat)) rfl rfl) ?_
 refine wend ?_
 refine seqAny ?_
 refine condProp (((q : Nat) : Int) < ((min l.length 64) : Nat)) rfl (fun c9 => ?_) (fun c9 => ?_)
 ·skip
  refine skipAny ?_
  refine thenNormal ?_
  refine seqAny ?_
  refine blockAny ?_
  refine sR ?_
  refine sM (i64 (q : Nat)) rfl ?_
  refine sA (i64 (q : Nat)) rfl ?_
  refine wend ?_
  refine oneRegion ?_
  refine sM (u64 (colS l q)) rfl ?_
  refine sM (.slice a0 l.length c0) rfl ?_
  refine sM (i64 (q : Nat)) rfl ?_
  refine sq (r_idxS (E := ELb) (l := l) (j := q) sli92 (hL.ext HL.chg) rfl rfl (by first | rfl | omega | (simp; omega)) (by rfl) (by omega)) ?_
  refine sq (r_indexAS (E := ELb) (l := l) (j := 0) arr38 (hL.ext HL.chg) (by omega) rfl rfl (by first | rfl | omega) (by omega) rfl) ?_
  refine sq (r_ldP (E := ELb) (l := l) (j := q) (o := 0) (v := (l.getD q lb0)) (u := u64 ((l.getD q lb0).1)) one32 (hL.ext HL.chg) (at_getD (by omega)) rfl rfl rfl) ?_
  refine sq (r_and64 (a := (l.getD q lb0).1) (b := 1#64) rfl rfl) ?_
  refine sM (i64 (q : Nat)) rfl ?_
  refine sq (r_shl64 (a := ((l.getD q lb0).1) &&& (1#64)) (c := q) rfl rfl) ?_
  refine sq (r_or64 (a := colS l q) (b := (((l.getD q lb0).1) &&& (1#64)) <<< (q : Nat)) rfl rfl) ?_
  refine sA (u64 ((colS l q) ||| ((((l.getD q lb0).1) &&& (1#64)) <<< (q : Nat)))) rfl ?_
  refine wnil ?_
  refine blockNormal ?_
  refine thenNormal ?_
  refine oneRegion ?_
  refine sq (r_addI (a := (q : Nat)) (b := (1 : Int)) rfl rfl (by omega)) ?_
  refine sM (i64 ((q : Nat) + (1 : Int))) rfl ?_
  refine wnil ?_
  refine thenNormal ?_
  exact ⟨q + 1, _, rfl, ⟨rfl, congrArg u64 (by rw [colS]), rfl, rfl, trivial⟩, ⟨by omega, HL⟩, by show min l.length 64 - (q + 1) < min l.length 64 - q; omega⟩
 ·skip
  obtain rfl : q = min l.length 64 := by omega
  refine exitAny ?_
  refine thenExit ?_
  refine thenExit ?_
  refine blockHere ?_
  refine thenNormal ?_
  refine sR ?_
  refine sM (u64 (colS l (min l.length 64))) rfl ?_
  refine sA (u64 (colS l (min l.length 64))) rfl ?_
  refine wend ?_
  refine retAny ?_
  refine retG (rs := [.tmp 2]) (vs := [u64 (colS l (min l.length 64))]) rfl ⟨⟨rfl, rfl⟩, trivial⟩ ?_
  exact ⟨_, rfl, rfl, HL.chg⟩
end Go.Proofs.YteofdmdpaejgaaaDoor.Gb
namespace Go.Proofs.YteofdmdpaejgaaaDoor.Gb
open Go Go.Proofs.YteofdmdpaejgaaaDoor.Vc Go.Proofs.YteofdmdpaejgaaaDoor.Er Go.Proofs.YteofdmdpaejgaaaDoor.Circ
set_option linter.unusedVariables false
theorem call24 : callable Tryd.prog 24 = true := by kernel_rfl
theorem call45 : callable Tryd.prog 45 = true := by kernel_rfl
theorem call46 : callable Tryd.prog 46 = true := by kernel_rfl
theorem call48 : callable Tryd.prog 48 = true := by kernel_rfl
theorem pls70 : pls Tryd.prog 70 = some #[(0, 1), (1, 1), (2, 1)] := by kernel_rfl
theorem pls99 : pls Tryd.prog 99 = some #[(0, 1), (1, 1), (2, 1)] := by kernel_rfl
theorem zer3 : zer Tryd.prog 3 = some (.int .i64 0) := by kernel_rfl
theorem zer70 : zer Tryd.prog 70 = some (.agg #[.int .i64 0, .slice none 0 0, .slice none 0 0]) := by kernel_rfl
set_option maxHeartbeats 1000000 in
theorem gawake_ok (w : World) (hG : Gl w) : Calls Tryd.prog 41 [].toArray w (Ret fun v w' => v = .bool true ∧ Ext w w') := by
 have H := Hp.start No w
 refine enter (n := 75) Tryd.func41 rfl rfl (bLe rfl) ?_
 refine sR ?_
 refine sA (.bool (false)) rfl ?_
 refine wend ?_
 refine sR ?_
 refine sq (r_build (cs' := #[i64 ((2 : Int)), i64 ((0 : Int)), i64 ((1 : Int))]) (ps := [(0, i64 ((2 : Int))), (1, i64 ((0 : Int))), (2, i64 ((1 : Int)))]) zer99 pls99 rfl (by rfl)) ?_
 refine q_buildSlice (E := EG) (l := ([⟨(2 : Int), (0 : Int), (1 : Int)⟩] : List Gt)) H sli68 zer99 (bLe rfl) (ps := [(0, .agg #[i64 ((2 : Int)), i64 ((0 : Int)), i64 ((1 : Int))])]) rfl (by exact fillAll rfl rfl) rfl ?_
 intro b1 w3 hS2 H4 hE5
 refine q_buildSlice (E := EI) (l := [(2 : Int)]) H4 sli60 zer3 (bLe rfl) (ps := [(0, i64 ((2 : Int)))]) rfl (by exact fillAll rfl rfl) rfl ?_
 intro b6 w8 hS7 H9 hE10
 refine sq (r_build (cs' := #[i64 ((2 : Int)), .slice (ownA (some b1)) 1 1, .slice (ownA (some b6)) 1 1]) (ps := [(0, i64 ((2 : Int))), (1, .slice (ownA (some b1)) 1 1), (2, .slice (ownA (some b6)) 1 1)]) zer70 pls70 rfl (by rfl)) ?_
 refine q_alloc (o := .cells #[i64 ((0 : Int)), .slice none 0 0, .slice none 0 0] 70 (0, 0)) H9 zer70 (by kernel_rfl) ?_
 intro b11 w12 hb11 H13 hE14
 refine d_store (k := 0) (v := .agg #[i64 ((2 : Int)), .slice (ownA (some b1)) 1 1, .slice (ownA (some b6)) 1 1]) (cs' := #[i64 ((2 : Int)), .slice (ownA (some b1)) 1 1, .slice (ownA (some b6)) 1 1]) H13 rfl rfl rfl siz70 (by rfl) (by intro u hu; simp [Value.cells] at hu; first | (subst hu; rfl) | (rcases hu with rfl | rfl | rfl <;> rfl)) (by exact bLe rfl) (by rfl) ?_
 intro w15 H16 hC17
 have H16' := H16.as (L' := [(some b11, .cells #[i64 ((2 : Int)), .slice (ownA (some b1)) 1 1, .slice (ownA (some b6)) 1 1] 70 (0, 0)), ((some b6), sob EI 3 ([(2 : Int)]) ([])), ((some b1), sob EG 99 ([⟨(2 : Int), (0 : Int), (1 : Int)⟩] : List Gt) ([]))]) rfl
 clear H16
 refine wend ?_
 refine sR ?_
 refine sq (r_buildA (cs' := (cel E64 [1#64, 0#64]).toArray) (ps := [(0, u64 (1#64)), (1, u64 (0#64))]) zer38 arr38 rfl (by rfl)) ?_
 refine q_alloc (o := .cells (cel E64 ([0#64, 0#64])).toArray 38 (0, 0)) H16' zer38 (by kernel_rfl) ?_
 intro b18 w19 hb18 H20 hE21
 refine d_store (k := 0) (v := .agg (cel E64 [1#64, 0#64]).toArray) (cs' := (cel E64 ([1#64, 0#64])).toArray) H20 rfl rfl rfl siz38 (by exact celSize (by first | rfl | (show _ * 1 = _; omega))) (by exact celOne _) (by rw [List.size_toArray, cel_length]; show _ ≤ _ * 1; first | omega | (simp only [List.length_set]; omega) | exact bLe rfl | (simp <;> omega)) (by exact putAll (by first | rfl | omega | (simp <;> omega))) ?_
 intro w22 H23 hC24
 have H23' := H23.as (L' := [(some b18, .cells (cel E64 ([1#64, 0#64])).toArray 38 (0, 0)), (some b11, .cells #[i64 ((2 : Int)), .slice (ownA (some b1)) 1 1, .slice (ownA (some b6)) 1 1] 70 (0, 0)), ((some b6), sob EI 3 ([(2 : Int)]) ([])), ((some b1), sob EG 99 ([⟨(2 : Int), (0 : Int), (1 : Int)⟩] : List Gt) ([]))]) rfl
 clear H23
 refine wend ?_
 refine seqAny ?_
 refine drawC (m := 11) [0, 0, 0, 7, 15, 31, 31, 31, 63, 383, 1023] [2, 3] (fun q vs w' => match q, vs with | 0, [] => Ext w22 w' ∧ Hp No w w' [(some b18, .cells (cel E64 ([1#64, 0#64])).toArray 38 (0, 0)), (some b11, .cells #[i64 ((2 : Int)), .slice (ownA (some b1)) 1 1, .slice (ownA (some b6)) 1 1] 70 (0, 0)), ((some b6), sob EI 3 ([(2 : Int)]) ([])), ((some b1), sob EG 99 ([⟨(2 : Int), (0 : Int), (1 : Int)⟩] : List Gt) ([]))] | 1, [v0] => ∃ (b28 : Nat), v0 = .slice (ownA (some b28)) 2 2 ∧ Sl ELb (some b28) (List.replicate 2 lb0) 2 (cel ELb (List.replicate (2 - 2) lb0)) ∧ Ext w22 w' ∧ Hp No w w' [((some b28), sob ELb 38 (List.replicate 2 lb0) (cel ELb (List.replicate (2 - 2) lb0))), (some b18, .cells (cel E64 ([1#64, 0#64])).toArray 38 (0, 0)), (some b11, .cells #[i64 ((2 : Int)), .slice (ownA (some b1)) 1 1, .slice (ownA (some b6)) 1 1] 70 (0, 0)), ((some b6), sob EI 3 ([(2 : Int)]) ([])), ((some b1), sob EG 99 ([⟨(2 : Int), (0 : Int), (1 : Int)⟩] : List Gt) ([]))] | 2, [v0, v1] => ∃ (b28 : Nat) (k38 : Option Nat) (c39 : Nat) (z40 : List Value) (k41 : Option Nat) (c42 : Nat) (z43 : List Value), v0 = .slice (ownA (some b28)) 2 2 ∧ v1 = .tuple #[.slice (ownA k38) (((gS lhash (1#64, 0#64) (0#64) ([⟨(2 : Int), (0 : Int), (1 : Int)⟩] : List Gt) (List.replicate 2 lb0) 1).2).length) c39, .slice (ownA k41) ((oL (gS lhash (1#64, 0#64) (0#64) ([⟨(2 : Int), (0 : Int), (1 : Int)⟩] : List Gt) (List.replicate 2 lb0) 1).1 ([(2 : Int)]) 1).length) c42, .nilIface] ∧ Sl ELb k38 ((gS lhash (1#64, 0#64) (0#64) ([⟨(2 : Int), (0 : Int), (1 : Int)⟩] : List Gt) (List.replicate 2 lb0) 1).2) c39 z40 ∧ Sl ELb k41 (oL (gS lhash (1#64, 0#64) (0#64) ([⟨(2 : Int), (0 : Int), (1 : Int)⟩] : List Gt) (List.replicate 2 lb0) 1).1 ([(2 : Int)]) 1) c42 z43 ∧ Sl ELb (some b28) (List.replicate 2 lb0) 2 (cel ELb (List.replicate (2 - 2) lb0)) ∧ Ext w22 w' ∧ Hp No w w' [(k38, sob ELb 38 ((gS lhash (1#64, 0#64) (0#64) ([⟨(2 : Int), (0 : Int), (1 : Int)⟩] : List Gt) (List.replicate 2 lb0) 1).2) z40), (k41, sob ELb 38 (oL (gS lhash (1#64, 0#64) (0#64) ([⟨(2 : Int), (0 : Int), (1 : Int)⟩] : List Gt) (List.replicate 2 lb0) 1).1 ([(2 : Int)]) 1) z43), ((some b28), sob ELb 38 (List.replicate 2 lb0) (cel ELb (List.replicate (2 - 2) lb0))), (some b18, .cells (cel E64 ([1#64, 0#64])).toArray 38 (0, 0)), (some b11, .cells #[i64 ((2 : Int)), .slice (ownA (some b1)) 1 1, .slice (ownA (some b6)) 1 1] 70 (0, 0)), ((some b6), sob EI 3 ([(2 : Int)]) ([])), ((some b1), sob EG 99 ([⟨(2 : Int), (0 : Int), (1 : Int)⟩] : List Gt) ([]))] | _, _ => False) mixed (by kernel_rfl) (by kernel_rfl) ⟨Ext.drew _, H23'.drew⟩ ?_
 refine WalkC.look rfl (fun _ => .agg #[i64 ((2 : Int)), .slice (ownA (some b1)) 1 1, .slice (ownA (some b6)) 1 1]) (fun _ _ _ => rfl) (fun q r uw hlo hhi hle hF => ?_) ?_
 ·skip
  have h1 : 0 ≤ q := Nat.zero_le _
  have h2 : q ≤ 1 := hhi 1 3 rfl rfl
  rcases (show q = 0 ∨ q = 1 by omega) with rfl | rfl
  ·skip
   obtain ⟨hX, HH⟩ := hF
   exact Gives.run rfl (r_loadA (cs' := #[i64 ((2 : Int)), .slice (ownA (some b1)) 1 1, .slice (ownA (some b6)) 1 1]) agg70 siz70 (HH.get (k := 1) rfl) (off := 0) rfl (by exact bLe rfl) (by rfl)) ⟨rfl, rfl⟩
  ·skip
   obtain ⟨b28, e2, hS29, hX, HH⟩ := hF
   exact Gives.run rfl (r_loadA (cs' := #[i64 ((2 : Int)), .slice (ownA (some b1)) 1 1, .slice (ownA (some b6)) 1 1]) agg70 siz70 (HH.get (k := 2) rfl) (off := 0) rfl (by exact bLe rfl) (by rfl)) ⟨rfl, rfl⟩
 refine WalkC.look rfl (fun _ => .agg (cel E64 ([1#64, 0#64])).toArray) (fun _ _ _ => rfl) (fun q r uw hlo hhi hle hF => ?_) ?_
 ·skip
  have h1 : 0 ≤ q := Nat.zero_le _
  have h2 : q ≤ 1 := hhi 1 3 rfl rfl
  rcases (show q = 0 ∨ q = 1 by omega) with rfl | rfl
  ·skip
   obtain ⟨hX, HH⟩ := hF
   exact Gives.run rfl (r_loadA (cs' := (cel E64 ([1#64, 0#64])).toArray) agg38 siz38 (HH.get (k := 0) rfl) (off := 0) rfl (by exact bLe rfl) (by exact ext_all rfl)) ⟨rfl, rfl⟩
  ·skip
   obtain ⟨b28, e2, hS29, hX, HH⟩ := hF
   exact Gives.run rfl (r_loadA (cs' := (cel E64 ([1#64, 0#64])).toArray) agg38 siz38 (HH.get (k := 1) rfl) (off := 0) rfl (by exact bLe rfl) (by exact ext_all rfl)) ⟨rfl, rfl⟩
 refine WalkC.eff 0 rfl (fun r uw25 hF27 => ?_) ?_
 ·skip
  obtain ⟨hX, H26⟩ := hF27
  dsimp only [List.take, List.map, List.cons_append, List.nil_append]
  refine Gives.ofW (d := 19) rfl rfl (fun Q' hK => ?_)
  refine q_makeSlice (E := ELb) (m := 2) (c := 2) (z0 := lb0) H26 sli92 zer38 rfl byt38 rfl rfl (by first | rfl | omega | (simp; omega)) (by first | rfl | omega | (simp; omega)) (by omega) (by omega) ?_
  intro b28 w30 hS29 H31 hE32
  exact hK _ _ ⟨b28, rfl, hS29, (hX.trans hE32), H31⟩
 refine WalkC.eff 1 rfl (fun r uw33 hF35 => ?_) ?_
 ·skip
  obtain ⟨b28, e2, hS29, hX, H34⟩ := hF35
  dsimp only [List.take, List.map, List.cons_append, List.nil_append]
  rw [e2]
  refine Gives.ofW (d := 20) rfl rfl (fun Q' hK => ?_)
  refine c_call (vs := [.agg #[i64 ((2 : Int)), .slice (ownA (some b1)) 1 1, .slice (ownA (some b6)) 1 1], .agg (cel E64 ([1#64, 0#64])).toArray, .slice (ownA (some b28)) 2 2, u64 (0#64)]) call45 rfl (garble_ok (2 : Int) ([⟨(2 : Int), (0 : Int), (1 : Int)⟩] : List Gt) ([(2 : Int)]) (ownA (some b1)) (ownA (some b6)) 1 1 (1#64, 0#64) (List.replicate 2 lb0) (ownA (some b28)) 2 (0#64) uw33 (Chg.gl H34.chg (fun x => x) hG) (H34.rd (k := 4) rfl hS2) (H34.rd (k := 3) rfl hS7) (by first | omega | exact bLe rfl) (by first | omega | exact bLe rfl) (H34.rd (k := 0) rfl hS29) aw_is rfl rfl) ?_
  rintro _ w36 ⟨k38, c39, z40, k41, c42, z43, rfl, hS44, hS45, HN46⟩
  have H47 := (H34.join HN46).as (L' := [(k38, sob ELb 38 ((gS lhash (1#64, 0#64) (0#64) ([⟨(2 : Int), (0 : Int), (1 : Int)⟩] : List Gt) (List.replicate 2 lb0) 1).2) z40), (k41, sob ELb 38 (oL (gS lhash (1#64, 0#64) (0#64) ([⟨(2 : Int), (0 : Int), (1 : Int)⟩] : List Gt) (List.replicate 2 lb0) 1).1 ([(2 : Int)]) 1) z43), ((some b28), sob ELb 38 (List.replicate 2 lb0) (cel ELb (List.replicate (2 - 2) lb0))), (some b18, .cells (cel E64 ([1#64, 0#64])).toArray 38 (0, 0)), (some b11, .cells #[i64 ((2 : Int)), .slice (ownA (some b1)) 1 1, .slice (ownA (some b6)) 1 1] 70 (0, 0)), ((some b6), sob EI 3 ([(2 : Int)]) ([])), ((some b1), sob EG 99 ([⟨(2 : Int), (0 : Int), (1 : Int)⟩] : List Gt) ([]))]) rfl
  exact hK _ _ ⟨b28, k38, c39, z40, k41, c42, z43, rfl, rfl, hS44, hS45, hS29, (hX.trans HN46.chg), H47⟩
 refine WalkC.look rfl (fun r => r 3) (fun r r' h => h 3 (by decide) rfl) (fun q r uw _ _ _ _ => Gives.run rfl (r_move rfl) ⟨rfl, rfl⟩) ?_
 refine WalkC.look rfl (fun r => proj (r 3) 0) (fun r r' h => by rw [h 3 (by decide) rfl]) (fun q r uw hlo hhi hle hF => ?_) ?_
 ·skip
  have h1 : 2 ≤ q := hlo 1 3 rfl rfl
  have h2 : q ≤ 2 := hle
  rcases (show q = 2 by omega) with rfl
  ·skip
   obtain ⟨b28, k38, c39, z40, k41, c42, z43, e2, e3, hS44, hS45, hS29, hX, HH⟩ := hF
   dsimp only
   rw [e3]
   exact Gives.run rfl (r_extract (vs := #[.slice (ownA k38) (((gS lhash (1#64, 0#64) (0#64) ([⟨(2 : Int), (0 : Int), (1 : Int)⟩] : List Gt) (List.replicate 2 lb0) 1).2).length) c39, .slice (ownA k41) ((oL (gS lhash (1#64, 0#64) (0#64) ([⟨(2 : Int), (0 : Int), (1 : Int)⟩] : List Gt) (List.replicate 2 lb0) 1).1 ([(2 : Int)]) 1).length) c42, .nilIface]) rfl rfl) ⟨rfl, rfl⟩
 refine WalkC.look rfl (fun r => proj (r 3) 1) (fun r r' h => by rw [h 3 (by decide) rfl]) (fun q r uw hlo hhi hle hF => ?_) ?_
 ·skip
  have h1 : 2 ≤ q := hlo 1 3 rfl rfl
  have h2 : q ≤ 2 := hle
  rcases (show q = 2 by omega) with rfl
  ·skip
   obtain ⟨b28, k38, c39, z40, k41, c42, z43, e2, e3, hS44, hS45, hS29, hX, HH⟩ := hF
   dsimp only
   rw [e3]
   exact Gives.run rfl (r_extract (vs := #[.slice (ownA k38) (((gS lhash (1#64, 0#64) (0#64) ([⟨(2 : Int), (0 : Int), (1 : Int)⟩] : List Gt) (List.replicate 2 lb0) 1).2).length) c39, .slice (ownA k41) ((oL (gS lhash (1#64, 0#64) (0#64) ([⟨(2 : Int), (0 : Int), (1 : Int)⟩] : List Gt) (List.replicate 2 lb0) 1).1 ([(2 : Int)]) 1).length) c42, .nilIface]) rfl rfl) ⟨rfl, rfl⟩
 refine WalkC.look rfl (fun r => proj (r 3) 2) (fun r r' h => by rw [h 3 (by decide) rfl]) (fun q r uw hlo hhi hle hF => ?_) ?_
 ·skip
  have h1 : 2 ≤ q := hlo 1 3 rfl rfl
  have h2 : q ≤ 2 := hle
  rcases (show q = 2 by omega) with rfl
  ·skip
   obtain ⟨b28, k38, c39, z40, k41, c42, z43, e2, e3, hS44, hS45, hS29, hX, HH⟩ := hF
   dsimp only
   rw [e3]
   exact Gives.run rfl (r_extract (vs := #[.slice (ownA k38) (((gS lhash (1#64, 0#64) (0#64) ([⟨(2 : Int), (0 : Int), (1 : Int)⟩] : List Gt) (List.replicate 2 lb0) 1).2).length) c39, .slice (ownA k41) ((oL (gS lhash (1#64, 0#64) (0#64) ([⟨(2 : Int), (0 : Int), (1 : Int)⟩] : List Gt) (List.replicate 2 lb0) 1).1 ([(2 : Int)]) 1).length) c42, .nilIface]) rfl rfl) ⟨rfl, rfl⟩
 refine WalkC.look rfl (fun r => proj (r 3) 0) (fun r r' h => by rw [h 3 (by decide) rfl]) (fun q r uw _ _ _ _ => Gives.run rfl (r_assign rfl) ⟨rfl, rfl⟩) ?_
 refine WalkC.look rfl (fun r => proj (r 3) 1) (fun r r' h => by rw [h 3 (by decide) rfl]) (fun q r uw _ _ _ _ => Gives.run rfl (r_assign rfl) ⟨rfl, rfl⟩) ?_
 refine WalkC.look rfl (fun r => proj (r 3) 2) (fun r r' h => by rw [h 3 (by decide) rfl]) (fun q r uw _ _ _ _ => Gives.run rfl (r_assign rfl) ⟨rfl, rfl⟩) ?_
 refine WalkC.nil ?_
 intro r48 w49 hF51
 obtain ⟨b28, k38, c39, z40, k41, c42, z43, e2, e3, hS44, hS45, hS29, hX, H50⟩ := hF51
 dsimp only
 rw [e2, e3]
 refine wnil ?_
 refine thenNormal ?_
 refine seqAny ?_
 refine sR ?_
 refine sM (.nilIface) rfl ?_
 refine sq (r_neqNN isI27 rfl rfl) ?_
 refine sM (.bool (false)) rfl ?_
 refine sqAny (v := .slice (ownA k38) (((gS lhash (1#64, 0#64) (0#64) ([⟨(2 : Int), (0 : Int), (1 : Int)⟩] : List Gt) (List.replicate 2 lb0) 1).2).length) c39) (w' := w49) (wantedSome (d' := 26) (b := false) rfl rfl rfl) (r_move (v := .slice (ownA k38) (((gS lhash (1#64, 0#64) (0#64) ([⟨(2 : Int), (0 : Int), (1 : Int)⟩] : List Gt) (List.replicate 2 lb0) 1).2).length) c39) rfl) ?_
 refine sqAny (v := i64 ((((gS lhash (1#64, 0#64) (0#64) ([⟨(2 : Int), (0 : Int), (1 : Int)⟩] : List Gt) (List.replicate 2 lb0) 1).2).length : Nat))) (w' := w49) (wantedSome (d' := 26) (b := false) rfl rfl rfl) (r_lenS sli92 (a := ownA k38) (m := ((gS lhash (1#64, 0#64) (0#64) ([⟨(2 : Int), (0 : Int), (1 : Int)⟩] : List Gt) (List.replicate 2 lb0) 1).2).length) (c := c39) rfl) ?_
 refine sqAny (v := .bool (false)) (w' := w49) (wantedSome (d' := 26) (b := false) rfl rfl rfl) ((r_neqI (a := (((gS lhash (1#64, 0#64) (0#64) ([⟨(2 : Int), (0 : Int), (1 : Int)⟩] : List Gt) (List.replicate 2 lb0) 1).2).length : Nat)) (b := (2 : Int)) rfl rfl).as (v' := .bool (false)) (by rfl)) ?_
 refine sq (r_pickF (v := .bool (false)) rfl rfl) ?_
 refine sM (.bool (false)) rfl ?_
 refine sqAny (v := .slice (ownA k41) ((oL (gS lhash (1#64, 0#64) (0#64) ([⟨(2 : Int), (0 : Int), (1 : Int)⟩] : List Gt) (List.replicate 2 lb0) 1).1 ([(2 : Int)]) 1).length) c42) (w' := w49) (wantedSome (d' := 31) (b := false) rfl rfl rfl) (r_move (v := .slice (ownA k41) ((oL (gS lhash (1#64, 0#64) (0#64) ([⟨(2 : Int), (0 : Int), (1 : Int)⟩] : List Gt) (List.replicate 2 lb0) 1).1 ([(2 : Int)]) 1).length) c42) rfl) ?_
 refine sqAny (v := i64 (((oL (gS lhash (1#64, 0#64) (0#64) ([⟨(2 : Int), (0 : Int), (1 : Int)⟩] : List Gt) (List.replicate 2 lb0) 1).1 ([(2 : Int)]) 1).length : Nat))) (w' := w49) (wantedSome (d' := 31) (b := false) rfl rfl rfl) (r_lenS sli92 (a := ownA k41) (m := (oL (gS lhash (1#64, 0#64) (0#64) ([⟨(2 : Int), (0 : Int), (1 : Int)⟩] : List Gt) (List.replicate 2 lb0) 1).1 ([(2 : Int)]) 1).length) (c := c42) rfl) ?_
 refine sqAny (v := .bool (false)) (w' := w49) (wantedSome (d' := 31) (b := false) rfl rfl rfl) ((r_neqI (a := ((oL (gS lhash (1#64, 0#64) (0#64) ([⟨(2 : Int), (0 : Int), (1 : Int)⟩] : List Gt) (List.replicate 2 lb0) 1).1 ([(2 : Int)]) 1).length : Nat)) (b := (1 : Int)) rfl rfl).as (v' := .bool (false)) (by rfl)) ?_
 refine sq (r_pickF (v := .bool (false)) rfl rfl) ?_
 refine wend ?_
 refine condFalse rfl ?_
 refine skipAny ?_
 refine thenNormal ?_
 refine sR ?_
 refine sq (r_loadA (cs' := #[i64 ((2 : Int)), .slice (ownA (some b1)) 1 1, .slice (ownA (some b6)) 1 1]) agg70 siz70 (H50.get (k := 4) rfl) (off := 0) rfl (by exact bLe rfl) (by rfl)) ?_
 refine sq (r_loadA (cs' := (cel E64 ([1#64, 0#64])).toArray) agg38 siz38 (H50.get (k := 3) rfl) (off := 0) rfl (by exact bLe rfl) (by exact ext_all rfl)) ?_
 refine sq (r_loadA (cs' := (cel E64 ([1#64, 0#64])).toArray) agg38 siz38 (H50.get (k := 3) rfl) (off := 0) rfl (by exact bLe rfl) (by exact ext_all rfl)) ?_
 refine q_buildSlice (E := ELb) (l := ([(1#64, 0#64), (1#64, 0#64)] : List LbT)) H50 sli92 zer38 (bLe rfl) (ps := [(0, .agg (cel E64 ([1#64, 0#64])).toArray), (1, .agg (cel E64 ([1#64, 0#64])).toArray)]) rfl (by exact fillAll rfl rfl) rfl ?_
 intro b52 w54 hS53 H55 hE56
 refine sM (.slice (ownA k38) (((gS lhash (1#64, 0#64) (0#64) ([⟨(2 : Int), (0 : Int), (1 : Int)⟩] : List Gt) (List.replicate 2 lb0) 1).2).length) c39) rfl ?_
 refine c_call (vs := [.agg #[i64 ((2 : Int)), .slice (ownA (some b1)) 1 1, .slice (ownA (some b6)) 1 1], .slice (ownA (some b52)) 2 2, .slice (ownA k38) (((gS lhash (1#64, 0#64) (0#64) ([⟨(2 : Int), (0 : Int), (1 : Int)⟩] : List Gt) (List.replicate 2 lb0) 1).2).length) c39, u64 (0#64)]) call46 rfl (eval_ok (2 : Int) ([⟨(2 : Int), (0 : Int), (1 : Int)⟩] : List Gt) ([(2 : Int)]) (ownA (some b1)) (ownA (some b6)) 1 1 ([(1#64, 0#64), (1#64, 0#64)] : List LbT) ((gS lhash (1#64, 0#64) (0#64) ([⟨(2 : Int), (0 : Int), (1 : Int)⟩] : List Gt) (List.replicate 2 lb0) 1).2) (ownA (some b52)) (ownA k38) 2 c39 (0#64) w54 (Chg.gl H55.chg (fun x => x) hG) (H55.rd (k := 7) rfl hS2) (H55.rd (k := 6) rfl hS7) (by first | omega | exact bLe rfl) (by first | omega | exact bLe rfl) (H55.rd (k := 0) rfl hS53) (H55.rd (k := 1) rfl hS44) aw_is rfl rfl) ?_
 rintro _ w57 ⟨k59, c60, z61, rfl, hS62, HN63⟩
 have H64 := (H55.join HN63).as (L' := [(k59, sob ELb 38 (oL (eS lhash (0#64) ([⟨(2 : Int), (0 : Int), (1 : Int)⟩] : List Gt) ((gS lhash (1#64, 0#64) (0#64) ([⟨(2 : Int), (0 : Int), (1 : Int)⟩] : List Gt) (List.replicate 2 lb0) 1).2) ([(1#64, 0#64), (1#64, 0#64)] : List LbT) 1).1 ([(2 : Int)]) 1) z61), ((some b52), sob ELb 38 ([(1#64, 0#64), (1#64, 0#64)] : List LbT) ([])), (k38, sob ELb 38 ((gS lhash (1#64, 0#64) (0#64) ([⟨(2 : Int), (0 : Int), (1 : Int)⟩] : List Gt) (List.replicate 2 lb0) 1).2) z40), (k41, sob ELb 38 (oL (gS lhash (1#64, 0#64) (0#64) ([⟨(2 : Int), (0 : Int), (1 : Int)⟩] : List Gt) (List.replicate 2 lb0) 1).1 ([(2 : Int)]) 1) z43), ((some b28), sob ELb 38 (List.replicate 2 lb0) (cel ELb (List.replicate (2 - 2) lb0))), (some b18, .cells (cel E64 ([1#64, 0#64])).toArray 38 (0, 0)), (some b11, .cells #[i64 ((2 : Int)), .slice (ownA (some b1)) 1 1, .slice (ownA (some b6)) 1 1] 70 (0, 0)), ((some b6), sob EI 3 ([(2 : Int)]) ([])), ((some b1), sob EG 99 ([⟨(2 : Int), (0 : Int), (1 : Int)⟩] : List Gt) ([]))]) rfl
 refine sM (.tuple #[.slice (ownA k59) 1 c60, .nilIface]) rfl ?_
 refine sq (r_extract (vs := #[.slice (ownA k59) 1 c60, .nilIface]) rfl rfl) ?_
 refine sq (r_extract (vs := #[.slice (ownA k59) 1 c60, .nilIface]) rfl rfl) ?_
 refine sA (.slice (ownA k59) 1 c60) rfl ?_
 refine sA (.nilIface) rfl ?_
 refine wend ?_
 refine seqAny ?_
 refine drawC (m := 11) [0, 0, 0, 7, 15, 31, 31, 31, 63, 383, 1023] [2, 3] (fun q vs w' => match q, vs with | 0, [] => Ext w57 w' ∧ Hp No w w' [(k59, sob ELb 38 (oL (eS lhash (0#64) ([⟨(2 : Int), (0 : Int), (1 : Int)⟩] : List Gt) ((gS lhash (1#64, 0#64) (0#64) ([⟨(2 : Int), (0 : Int), (1 : Int)⟩] : List Gt) (List.replicate 2 lb0) 1).2) ([(1#64, 0#64), (1#64, 0#64)] : List LbT) 1).1 ([(2 : Int)]) 1) z61), ((some b52), sob ELb 38 ([(1#64, 0#64), (1#64, 0#64)] : List LbT) ([])), (k38, sob ELb 38 ((gS lhash (1#64, 0#64) (0#64) ([⟨(2 : Int), (0 : Int), (1 : Int)⟩] : List Gt) (List.replicate 2 lb0) 1).2) z40), (k41, sob ELb 38 (oL (gS lhash (1#64, 0#64) (0#64) ([⟨(2 : Int), (0 : Int), (1 : Int)⟩] : List Gt) (List.replicate 2 lb0) 1).1 ([(2 : Int)]) 1) z43), ((some b28), sob ELb 38 (List.replicate 2 lb0) (cel ELb (List.replicate (2 - 2) lb0))), (some b18, .cells (cel E64 ([1#64, 0#64])).toArray 38 (0, 0)), (some b11, .cells #[i64 ((2 : Int)), .slice (ownA (some b1)) 1 1, .slice (ownA (some b6)) 1 1] 70 (0, 0)), ((some b6), sob EI 3 ([(2 : Int)]) ([])), ((some b1), sob EG 99 ([⟨(2 : Int), (0 : Int), (1 : Int)⟩] : List Gt) ([]))] | 1, [v0] => ∃ (b68 : Nat), v0 = .slice (ownA (some b68)) 2 2 ∧ Sl ELb (some b68) (List.replicate 2 lb0) 2 (cel ELb (List.replicate (2 - 2) lb0)) ∧ Ext w57 w' ∧ Hp No w w' [((some b68), sob ELb 38 (List.replicate 2 lb0) (cel ELb (List.replicate (2 - 2) lb0))), (k59, sob ELb 38 (oL (eS lhash (0#64) ([⟨(2 : Int), (0 : Int), (1 : Int)⟩] : List Gt) ((gS lhash (1#64, 0#64) (0#64) ([⟨(2 : Int), (0 : Int), (1 : Int)⟩] : List Gt) (List.replicate 2 lb0) 1).2) ([(1#64, 0#64), (1#64, 0#64)] : List LbT) 1).1 ([(2 : Int)]) 1) z61), ((some b52), sob ELb 38 ([(1#64, 0#64), (1#64, 0#64)] : List LbT) ([])), (k38, sob ELb 38 ((gS lhash (1#64, 0#64) (0#64) ([⟨(2 : Int), (0 : Int), (1 : Int)⟩] : List Gt) (List.replicate 2 lb0) 1).2) z40), (k41, sob ELb 38 (oL (gS lhash (1#64, 0#64) (0#64) ([⟨(2 : Int), (0 : Int), (1 : Int)⟩] : List Gt) (List.replicate 2 lb0) 1).1 ([(2 : Int)]) 1) z43), ((some b28), sob ELb 38 (List.replicate 2 lb0) (cel ELb (List.replicate (2 - 2) lb0))), (some b18, .cells (cel E64 ([1#64, 0#64])).toArray 38 (0, 0)), (some b11, .cells #[i64 ((2 : Int)), .slice (ownA (some b1)) 1 1, .slice (ownA (some b6)) 1 1] 70 (0, 0)), ((some b6), sob EI 3 ([(2 : Int)]) ([])), ((some b1), sob EG 99 ([⟨(2 : Int), (0 : Int), (1 : Int)⟩] : List Gt) ([]))] | 2, [v0, v1] => ∃ (b68 : Nat) (lo84 : Nat) (T82 : TypeId) (x83 : Value), v0 = .slice (ownA (some b68)) 2 2 ∧ v1 = .tuple #[.slice none 0 0, .slice none 0 0, .iface T82 (x83)] ∧ Sl ELb (some b68) (List.replicate 2 lb0) 2 (cel ELb (List.replicate (2 - 2) lb0)) ∧ Er lo84 w' 100 1 (.iface T82 x83) ∧ b18 < lo84 ∧ b11 < lo84 ∧ Ext w57 w' ∧ Hp No w w' [((some b68), sob ELb 38 (List.replicate 2 lb0) (cel ELb (List.replicate (2 - 2) lb0))), (k59, sob ELb 38 (oL (eS lhash (0#64) ([⟨(2 : Int), (0 : Int), (1 : Int)⟩] : List Gt) ((gS lhash (1#64, 0#64) (0#64) ([⟨(2 : Int), (0 : Int), (1 : Int)⟩] : List Gt) (List.replicate 2 lb0) 1).2) ([(1#64, 0#64), (1#64, 0#64)] : List LbT) 1).1 ([(2 : Int)]) 1) z61), ((some b52), sob ELb 38 ([(1#64, 0#64), (1#64, 0#64)] : List LbT) ([])), (k38, sob ELb 38 ((gS lhash (1#64, 0#64) (0#64) ([⟨(2 : Int), (0 : Int), (1 : Int)⟩] : List Gt) (List.replicate 2 lb0) 1).2) z40), (k41, sob ELb 38 (oL (gS lhash (1#64, 0#64) (0#64) ([⟨(2 : Int), (0 : Int), (1 : Int)⟩] : List Gt) (List.replicate 2 lb0) 1).1 ([(2 : Int)]) 1) z43), ((some b28), sob ELb 38 (List.replicate 2 lb0) (cel ELb (List.replicate (2 - 2) lb0))), (some b18, .cells (cel E64 ([1#64, 0#64])).toArray 38 (0, 0)), (some b11, .cells #[i64 ((2 : Int)), .slice (ownA (some b1)) 1 1, .slice (ownA (some b6)) 1 1] 70 (0, 0)), ((some b6), sob EI 3 ([(2 : Int)]) ([])), ((some b1), sob EG 99 ([⟨(2 : Int), (0 : Int), (1 : Int)⟩] : List Gt) ([]))] | _, _ => False) mixed (by kernel_rfl) (by kernel_rfl) ⟨Ext.drew _, H64.drew⟩ ?_
 refine WalkC.look rfl (fun _ => .agg #[i64 ((2 : Int)), .slice (ownA (some b1)) 1 1, .slice (ownA (some b6)) 1 1]) (fun _ _ _ => rfl) (fun q r uw hlo hhi hle hF => ?_) ?_
 ·skip
  have h1 : 0 ≤ q := Nat.zero_le _
  have h2 : q ≤ 1 := hhi 1 3 rfl rfl
  rcases (show q = 0 ∨ q = 1 by omega) with rfl | rfl
  ·skip
   obtain ⟨hX, HH⟩ := hF
   exact Gives.run rfl (r_loadA (cs' := #[i64 ((2 : Int)), .slice (ownA (some b1)) 1 1, .slice (ownA (some b6)) 1 1]) agg70 siz70 (HH.get (k := 6) rfl) (off := 0) rfl (by exact bLe rfl) (by rfl)) ⟨rfl, rfl⟩
  ·skip
   obtain ⟨b68, e2, hS69, hX, HH⟩ := hF
   exact Gives.run rfl (r_loadA (cs' := #[i64 ((2 : Int)), .slice (ownA (some b1)) 1 1, .slice (ownA (some b6)) 1 1]) agg70 siz70 (HH.get (k := 7) rfl) (off := 0) rfl (by exact bLe rfl) (by rfl)) ⟨rfl, rfl⟩
 refine WalkC.look rfl (fun _ => .agg (cel E64 [2#64, 0#64]).toArray) (fun _ _ _ => rfl) (fun q r uw _ _ _ _ => Gives.run rfl (r_buildA (cs' := (cel E64 [2#64, 0#64]).toArray) (ps := [(0, u64 (2#64)), (1, u64 (0#64))]) zer38 arr38 rfl (by rfl)) ⟨rfl, rfl⟩) ?_
 refine WalkC.eff 0 rfl (fun r uw65 hF67 => ?_) ?_
 ·skip
  obtain ⟨hX, H66⟩ := hF67
  dsimp only [List.take, List.map, List.cons_append, List.nil_append]
  refine Gives.ofW (d := 48) rfl rfl (fun Q' hK => ?_)
  refine q_makeSlice (E := ELb) (m := 2) (c := 2) (z0 := lb0) H66 sli92 zer38 rfl byt38 rfl rfl (by first | rfl | omega | (simp; omega)) (by first | rfl | omega | (simp; omega)) (by omega) (by omega) ?_
  intro b68 w70 hS69 H71 hE72
  exact hK _ _ ⟨b68, rfl, hS69, (hX.trans hE72), H71⟩
 refine WalkC.eff 1 rfl (fun r uw73 hF75 => ?_) ?_
 ·skip
  obtain ⟨b68, e2, hS69, hX, H74⟩ := hF75
  dsimp only [List.take, List.map, List.cons_append, List.nil_append]
  rw [e2]
  refine Gives.ofW (d := 49) rfl rfl (fun Q' hK => ?_)
  have := H74.lt (List.mem_of_getElem? (i := 6) rfl) rfl
  have := H74.lt (List.mem_of_getElem? (i := 7) rfl) rfl
  refine c_call (vs := [.agg #[i64 ((2 : Int)), .slice (ownA (some b1)) 1 1, .slice (ownA (some b6)) 1 1], .agg (cel E64 [2#64, 0#64]).toArray, .slice (ownA (some b68)) 2 2, u64 (0#64)]) call45 rfl (garble_delta (2 : Int) ([⟨(2 : Int), (0 : Int), (1 : Int)⟩] : List Gt) ([(2 : Int)]) (ownA (some b1)) (ownA (some b6)) 1 1 (2#64, 0#64) (List.replicate 2 lb0) (ownA (some b68)) 2 (0#64) uw73 (Chg.gl H74.chg (fun x => x) hG) (H74.rd (k := 9) rfl hS2) (H74.rd (k := 8) rfl hS7) (by first | omega | exact bLe rfl) (by first | omega | exact bLe rfl) (H74.rd (k := 0) rfl hS69) aw_is rfl rfl) ?_
  rintro _ w76 ⟨⟨v78, rfl, hEr79⟩, hE80⟩
  have H81 := H74.ext hE80
  obtain ⟨T82, x83, rfl⟩ := hEr79.iface
  obtain ⟨lo84, hlo85⟩ : ∃ lo, lo = uw73.heap.size := ⟨_, rfl⟩
  rw [← hlo85] at hEr79
  have hlt86 : b18 < lo84 := by omega
  have hlt87 : b11 < lo84 := by omega
  exact hK _ _ ⟨b68, lo84, T82, x83, rfl, rfl, hS69, hEr79, hlt86, hlt87, (hX.trans hE80), H81⟩
 refine WalkC.look rfl (fun r => r 3) (fun r r' h => h 3 (by decide) rfl) (fun q r uw _ _ _ _ => Gives.run rfl (r_move rfl) ⟨rfl, rfl⟩) ?_
 refine WalkC.look rfl (fun r => proj (r 3) 0) (fun r r' h => by rw [h 3 (by decide) rfl]) (fun q r uw hlo hhi hle hF => ?_) ?_
 ·skip
  have h1 : 2 ≤ q := hlo 1 3 rfl rfl
  have h2 : q ≤ 2 := hle
  rcases (show q = 2 by omega) with rfl
  ·skip
   obtain ⟨b68, lo84, T82, x83, e2, e3, hS69, hEr79, hlt86, hlt87, hX, HH⟩ := hF
   dsimp only
   rw [e3]
   exact Gives.run rfl (r_extract (vs := #[.slice none 0 0, .slice none 0 0, .iface T82 (x83)]) rfl rfl) ⟨rfl, rfl⟩
 refine WalkC.look rfl (fun r => proj (r 3) 1) (fun r r' h => by rw [h 3 (by decide) rfl]) (fun q r uw hlo hhi hle hF => ?_) ?_
 ·skip
  have h1 : 2 ≤ q := hlo 1 3 rfl rfl
  have h2 : q ≤ 2 := hle
  rcases (show q = 2 by omega) with rfl
  ·skip
   obtain ⟨b68, lo84, T82, x83, e2, e3, hS69, hEr79, hlt86, hlt87, hX, HH⟩ := hF
   dsimp only
   rw [e3]
   exact Gives.run rfl (r_extract (vs := #[.slice none 0 0, .slice none 0 0, .iface T82 (x83)]) rfl rfl) ⟨rfl, rfl⟩
 refine WalkC.look rfl (fun r => proj (r 3) 2) (fun r r' h => by rw [h 3 (by decide) rfl]) (fun q r uw hlo hhi hle hF => ?_) ?_
 ·skip
  have h1 : 2 ≤ q := hlo 1 3 rfl rfl
  have h2 : q ≤ 2 := hle
  rcases (show q = 2 by omega) with rfl
  ·skip
   obtain ⟨b68, lo84, T82, x83, e2, e3, hS69, hEr79, hlt86, hlt87, hX, HH⟩ := hF
   dsimp only
   rw [e3]
   exact Gives.run rfl (r_extract (vs := #[.slice none 0 0, .slice none 0 0, .iface T82 (x83)]) rfl rfl) ⟨rfl, rfl⟩
 refine WalkC.look rfl (fun r => proj (r 3) 0) (fun r r' h => by rw [h 3 (by decide) rfl]) (fun q r uw _ _ _ _ => Gives.run rfl (r_assign rfl) ⟨rfl, rfl⟩) ?_
 refine WalkC.look rfl (fun r => proj (r 3) 1) (fun r r' h => by rw [h 3 (by decide) rfl]) (fun q r uw _ _ _ _ => Gives.run rfl (r_assign rfl) ⟨rfl, rfl⟩) ?_
 refine WalkC.look rfl (fun r => proj (r 3) 2) (fun r r' h => by rw [h 3 (by decide) rfl]) (fun q r uw _ _ _ _ => Gives.run rfl (r_assign rfl) ⟨rfl, rfl⟩) ?_
 refine WalkC.nil ?_
 intro r88 w89 hF91
 obtain ⟨b68, lo84, T82, x83, e2, e3, hS69, hEr79, hlt86, hlt87, hX, H90⟩ := hF91
 dsimp only
 rw [e2, e3]
 refine wnil ?_
 refine thenNormal ?_
 refine seqAny ?_
 refine drawAny (K := [none, none, none, none, none, none, none, none, none, none, none, none, none, none, none, none, none, none, none, none, none, none, none]) [0, 1, 3, 7, 15, 31, 63, 127, 255, 511, 1023, 255, 2303, 6399, 255, 30975, 65535, 131071, 262143, 524287, 1048575, 2097151, 4194303] (fun w' => Ext w89 w') (fun w' w'' => Ext w' w'') mixed (by kernel_rfl) (Ext.drew _) (fun _ _ h h' => h.trans h') ?_ ?_
 ·exact relNone (by decide)
 refine ⟨.nilIface, fun _ uw92 hC93 _ => Gives.run rfl (r_move (v := .nilIface) rfl) ⟨rfl, Chg.refl _ _⟩, ?_⟩
 refine ⟨.bool (true), fun _ uw94 hC95 _ => Gives.run rfl (r_eqlNN isI27 rfl rfl) ⟨rfl, Chg.refl _ _⟩, ?_⟩
 refine ⟨.bool (true), fun _ uw96 hC97 _ => Gives.run rfl (r_move (v := .bool (true)) rfl) ⟨rfl, Chg.refl _ _⟩, ?_⟩
 refine ⟨.slice (ownA k59) 1 c60, fun _ uw98 hC99 _ => Gives.runW (wantedSome (d' := 55) (b := true) rfl rfl rfl) (r_move (v := .slice (ownA k59) 1 c60) rfl) ⟨rfl, Chg.refl _ _⟩, ?_⟩
 refine ⟨i64 (1 : Nat), fun _ uw100 hC101 _ => Gives.runW (wantedSome (d' := 55) (b := true) rfl rfl rfl) (r_lenS sli92 (a := ownA k59) (m := 1) (c := c60) rfl) ⟨rfl, Chg.refl _ _⟩, ?_⟩
 refine ⟨.bool (true), fun _ uw102 hC103 _ => Gives.runW (wantedSome (d' := 55) (b := true) rfl rfl rfl) ((r_eqlI (a := (1 : Nat)) (b := (1 : Int)) rfl rfl).as (v' := .bool (true)) (by rfl)) ⟨rfl, Chg.refl _ _⟩, ?_⟩
 refine ⟨.bool (true), fun _ uw104 hC105 _ => Gives.run rfl (r_pickT (u := .bool (true)) rfl rfl) ⟨rfl, Chg.refl _ _⟩, ?_⟩
 refine ⟨.bool (true), fun _ uw106 hC107 _ => Gives.run rfl (r_move (v := .bool (true)) rfl) ⟨rfl, Chg.refl _ _⟩, ?_⟩
 refine ⟨.slice (ownA k59) 1 c60, fun _ uw108 hC109 _ => Gives.runW (wantedSome (d' := 60) (b := true) rfl rfl rfl) (r_move (v := .slice (ownA k59) 1 c60) rfl) ⟨rfl, Chg.refl _ _⟩, ?_⟩
 refine ⟨.pointer (adr (ownA k59) (0 * 2)), fun _ uw110 hC111 _ => Gives.runW (wantedSome (d' := 60) (b := true) rfl rfl rfl) (r_idxS (E := ELb) (l := oL (eS lhash (0#64) ([⟨(2 : Int), (0 : Int), (1 : Int)⟩] : List Gt) ((gS lhash (1#64, 0#64) (0#64) ([⟨(2 : Int), (0 : Int), (1 : Int)⟩] : List Gt) (List.replicate 2 lb0) 1).2) ([(1#64, 0#64), (1#64, 0#64)] : List LbT) 1).1 ([(2 : Int)]) 1) (j := 0) sli92 ((H90.ext hC111).rd (k := 1) rfl hS62) rfl rfl (by first | rfl | omega | (simp; omega)) (by exact (oL_len _ _ _).symm) (by rw [oL_len]; decide)) ⟨rfl, Chg.refl _ _⟩, ?_⟩
 refine ⟨.agg (cel E64 [((oL (eS lhash (0#64) ([⟨(2 : Int), (0 : Int), (1 : Int)⟩] : List Gt) ((gS lhash (1#64, 0#64) (0#64) ([⟨(2 : Int), (0 : Int), (1 : Int)⟩] : List Gt) (List.replicate 2 lb0) 1).2) ([(1#64, 0#64), (1#64, 0#64)] : List LbT) 1).1 ([(2 : Int)]) 1).getD 0 lb0).1, ((oL (eS lhash (0#64) ([⟨(2 : Int), (0 : Int), (1 : Int)⟩] : List Gt) ((gS lhash (1#64, 0#64) (0#64) ([⟨(2 : Int), (0 : Int), (1 : Int)⟩] : List Gt) (List.replicate 2 lb0) 1).2) ([(1#64, 0#64), (1#64, 0#64)] : List LbT) 1).1 ([(2 : Int)]) 1).getD 0 lb0).2]).toArray, fun _ uw112 hC113 _ => Gives.runW (wantedSome (d' := 60) (b := true) rfl rfl rfl) ((r_ldS (E := ELb) (l := oL (eS lhash (0#64) ([⟨(2 : Int), (0 : Int), (1 : Int)⟩] : List Gt) ((gS lhash (1#64, 0#64) (0#64) ([⟨(2 : Int), (0 : Int), (1 : Int)⟩] : List Gt) (List.replicate 2 lb0) 1).2) ([(1#64, 0#64), (1#64, 0#64)] : List LbT) 1).1 ([(2 : Int)]) 1) (j := 0) (v := (oL (eS lhash (0#64) ([⟨(2 : Int), (0 : Int), (1 : Int)⟩] : List Gt) ((gS lhash (1#64, 0#64) (0#64) ([⟨(2 : Int), (0 : Int), (1 : Int)⟩] : List Gt) (List.replicate 2 lb0) 1).2) ([(1#64, 0#64), (1#64, 0#64)] : List LbT) 1).1 ([(2 : Int)]) 1).getD 0 lb0) fits38 ((H90.ext hC113).rd (k := 1) rfl hS62) rfl rfl (at_getD (by rw [oL_len]; decide))).as (v' := .agg (cel E64 [((oL (eS lhash (0#64) ([⟨(2 : Int), (0 : Int), (1 : Int)⟩] : List Gt) ((gS lhash (1#64, 0#64) (0#64) ([⟨(2 : Int), (0 : Int), (1 : Int)⟩] : List Gt) (List.replicate 2 lb0) 1).2) ([(1#64, 0#64), (1#64, 0#64)] : List LbT) 1).1 ([(2 : Int)]) 1).getD 0 lb0).1, ((oL (eS lhash (0#64) ([⟨(2 : Int), (0 : Int), (1 : Int)⟩] : List Gt) ((gS lhash (1#64, 0#64) (0#64) ([⟨(2 : Int), (0 : Int), (1 : Int)⟩] : List Gt) (List.replicate 2 lb0) 1).2) ([(1#64, 0#64), (1#64, 0#64)] : List LbT) 1).1 ([(2 : Int)]) 1).getD 0 lb0).2]).toArray) rfl) ⟨rfl, Chg.refl _ _⟩, ?_⟩
 refine ⟨.slice (ownA k41) ((oL (gS lhash (1#64, 0#64) (0#64) ([⟨(2 : Int), (0 : Int), (1 : Int)⟩] : List Gt) (List.replicate 2 lb0) 1).1 ([(2 : Int)]) 1).length) c42, fun _ uw114 hC115 _ => Gives.runW (wantedSome (d' := 60) (b := true) rfl rfl rfl) (r_move (v := .slice (ownA k41) ((oL (gS lhash (1#64, 0#64) (0#64) ([⟨(2 : Int), (0 : Int), (1 : Int)⟩] : List Gt) (List.replicate 2 lb0) 1).1 ([(2 : Int)]) 1).length) c42) rfl) ⟨rfl, Chg.refl _ _⟩, ?_⟩
 refine ⟨.pointer (adr (ownA k41) (0 * 2)), fun _ uw116 hC117 _ => Gives.runW (wantedSome (d' := 60) (b := true) rfl rfl rfl) (r_idxS (E := ELb) (l := oL (gS lhash (1#64, 0#64) (0#64) ([⟨(2 : Int), (0 : Int), (1 : Int)⟩] : List Gt) (List.replicate 2 lb0) 1).1 ([(2 : Int)]) 1) (j := 0) sli92 ((H90.ext hC117).rd (k := 4) rfl hS45) rfl rfl (by first | rfl | omega | (simp; omega)) (by first | rfl | omega | (simp; omega) | (simp at *; omega)) (by rw [oL_len]; decide)) ⟨rfl, Chg.refl _ _⟩, ?_⟩
 refine ⟨.agg (cel E64 [((oL (gS lhash (1#64, 0#64) (0#64) ([⟨(2 : Int), (0 : Int), (1 : Int)⟩] : List Gt) (List.replicate 2 lb0) 1).1 ([(2 : Int)]) 1).getD 0 lb0).1, ((oL (gS lhash (1#64, 0#64) (0#64) ([⟨(2 : Int), (0 : Int), (1 : Int)⟩] : List Gt) (List.replicate 2 lb0) 1).1 ([(2 : Int)]) 1).getD 0 lb0).2]).toArray, fun _ uw118 hC119 _ => Gives.runW (wantedSome (d' := 60) (b := true) rfl rfl rfl) ((r_ldS (E := ELb) (l := oL (gS lhash (1#64, 0#64) (0#64) ([⟨(2 : Int), (0 : Int), (1 : Int)⟩] : List Gt) (List.replicate 2 lb0) 1).1 ([(2 : Int)]) 1) (j := 0) (v := (oL (gS lhash (1#64, 0#64) (0#64) ([⟨(2 : Int), (0 : Int), (1 : Int)⟩] : List Gt) (List.replicate 2 lb0) 1).1 ([(2 : Int)]) 1).getD 0 lb0) fits38 ((H90.ext hC119).rd (k := 4) rfl hS45) rfl rfl (at_getD (by rw [oL_len]; decide))).as (v' := .agg (cel E64 [((oL (gS lhash (1#64, 0#64) (0#64) ([⟨(2 : Int), (0 : Int), (1 : Int)⟩] : List Gt) (List.replicate 2 lb0) 1).1 ([(2 : Int)]) 1).getD 0 lb0).1, ((oL (gS lhash (1#64, 0#64) (0#64) ([⟨(2 : Int), (0 : Int), (1 : Int)⟩] : List Gt) (List.replicate 2 lb0) 1).1 ([(2 : Int)]) 1).getD 0 lb0).2]).toArray) rfl) ⟨rfl, Chg.refl _ _⟩, ?_⟩
 refine ⟨.agg (cel E64 ([1#64, 0#64])).toArray, fun _ uw120 hC121 _ => Gives.runW (wantedSome (d' := 60) (b := true) rfl rfl rfl) (r_loadA (cs' := (cel E64 ([1#64, 0#64])).toArray) agg38 siz38 ((H90.ext hC121).get (k := 6) rfl) (off := 0) rfl (by exact bLe rfl) (by exact ext_all rfl)) ⟨rfl, Chg.refl _ _⟩, ?_⟩
 refine ⟨.agg (cel E64 [(lx ((oL (gS lhash (1#64, 0#64) (0#64) ([⟨(2 : Int), (0 : Int), (1 : Int)⟩] : List Gt) (List.replicate 2 lb0) 1).1 ([(2 : Int)]) 1).getD 0 lb0) (lw true (1#64, 0#64))).1, (lx ((oL (gS lhash (1#64, 0#64) (0#64) ([⟨(2 : Int), (0 : Int), (1 : Int)⟩] : List Gt) (List.replicate 2 lb0) 1).1 ([(2 : Int)]) 1).getD 0 lb0) (lw true (1#64, 0#64))).2]).toArray, fun _ uw122 hC123 _ => Gives.callW (wantedSome (d' := 60) (b := true) rfl rfl rfl) (Enters.callL (vs := [.agg (cel E64 [((oL (gS lhash (1#64, 0#64) (0#64) ([⟨(2 : Int), (0 : Int), (1 : Int)⟩] : List Gt) (List.replicate 2 lb0) 1).1 ([(2 : Int)]) 1).getD 0 lb0).1, ((oL (gS lhash (1#64, 0#64) (0#64) ([⟨(2 : Int), (0 : Int), (1 : Int)⟩] : List Gt) (List.replicate 2 lb0) 1).1 ([(2 : Int)]) 1).getD 0 lb0).2]).toArray, .agg (cel E64 ([1#64, 0#64])).toArray, .bool (true)]) call48 rfl) (label_ok ((oL (gS lhash (1#64, 0#64) (0#64) ([⟨(2 : Int), (0 : Int), (1 : Int)⟩] : List Gt) (List.replicate 2 lb0) 1).1 ([(2 : Int)]) 1).getD 0 lb0) (1#64, 0#64) true uw122), ?_⟩
 refine ⟨.bool (true), fun _ uw124 hC125 _ => Gives.runW (wantedSome (d' := 60) (b := true) rfl rfl rfl) ((r_eqlA (E := E64) (l := [((oL (eS lhash (0#64) ([⟨(2 : Int), (0 : Int), (1 : Int)⟩] : List Gt) ((gS lhash (1#64, 0#64) (0#64) ([⟨(2 : Int), (0 : Int), (1 : Int)⟩] : List Gt) (List.replicate 2 lb0) 1).2) ([(1#64, 0#64), (1#64, 0#64)] : List LbT) 1).1 ([(2 : Int)]) 1).getD 0 lb0).1, ((oL (eS lhash (0#64) ([⟨(2 : Int), (0 : Int), (1 : Int)⟩] : List Gt) ((gS lhash (1#64, 0#64) (0#64) ([⟨(2 : Int), (0 : Int), (1 : Int)⟩] : List Gt) (List.replicate 2 lb0) 1).2) ([(1#64, 0#64), (1#64, 0#64)] : List LbT) 1).1 ([(2 : Int)]) 1).getD 0 lb0).2]) (l' := [(lx ((oL (gS lhash (1#64, 0#64) (0#64) ([⟨(2 : Int), (0 : Int), (1 : Int)⟩] : List Gt) (List.replicate 2 lb0) 1).1 ([(2 : Int)]) 1).getD 0 lb0) (lw true (1#64, 0#64))).1, (lx ((oL (gS lhash (1#64, 0#64) (0#64) ([⟨(2 : Int), (0 : Int), (1 : Int)⟩] : List Gt) (List.replicate 2 lb0) 1).1 ([(2 : Int)]) 1).getD 0 lb0) (lw true (1#64, 0#64))).2]) gty38 und38 fits32 (eqAt64 und32) (rfl) (rfl) rfl rfl).as (v' := .bool (true)) (by exact congrArg Value.bool (decide_eq_true (by rw [aw_right])))) ⟨rfl, Chg.refl _ _⟩, ?_⟩
 refine ⟨.bool (true), fun _ uw126 hC127 _ => Gives.run rfl (r_pickT (u := .bool (true)) rfl rfl) ⟨rfl, Chg.refl _ _⟩, ?_⟩
 refine ⟨.bool (true), fun _ uw128 hC129 _ => Gives.run rfl (r_move (v := .bool (true)) rfl) ⟨rfl, Chg.refl _ _⟩, ?_⟩
 refine ⟨.iface T82 (x83), fun _ uw130 hC131 _ => Gives.runW (wantedSome (d' := 71) (b := true) rfl rfl rfl) (r_move (v := .iface T82 (x83)) rfl) ⟨rfl, Chg.refl _ _⟩, ?_⟩
 refine ⟨.bool (true), fun _ uw132 hC133 _ => Gives.callW (wantedSome (d' := 71) (b := true) rfl rfl rfl) (Enters.callL (vs := [.iface T82 (x83), i64 ((100 : Int))]) call24 rfl) (is_ok 100 (100 : Int) 1 (.iface T82 (x83)) lo84 uw132 ((hEr79.ext hC133))), ?_⟩
 refine ⟨.bool (true), fun _ uw134 hC135 _ => Gives.run rfl (r_pickT (u := .bool (true)) rfl rfl) ⟨rfl, Chg.refl _ _⟩, ?_⟩
 refine ⟨.bool (true), fun _ uw136 hC137 _ => Gives.run rfl (r_assign (v := .bool (true)) rfl) ⟨rfl, Chg.refl _ _⟩, ?_⟩
 intro r141 w138 hE140 hF
 have H139 := H90.ext hE140
 refine wnil ?_
 refine thenNormal ?_
 refine retAny ?_
 refine retG (rs := [.tmp 0]) (vs := [.bool (true)]) rfl ⟨⟨rfl, rfl⟩, trivial⟩ ?_
 exact ⟨_, rfl, rfl, H139.chg⟩
end Go.Proofs.YteofdmdpaejgaaaDoor.Gb
namespace Go.Proofs.YteofdmdpaejgaaaDoor.Gb
open Go Go.Proofs.YteofdmdpaejgaaaDoor.Vc Go.Proofs.YteofdmdpaejgaaaDoor.Er Go.Proofs.YteofdmdpaejgaaaDoor.Circ
set_option linter.unusedVariables false
theorem call41 : callable Tryd.prog 41 = true := by kernel_rfl
theorem siz32 : siz Tryd.prog 32 = some 1 := by kernel_rfl
end Go.Proofs.YteofdmdpaejgaaaDoor.Gb
namespace Go.Proofs.YteofdmdpaejgaaaDoor.Gb
open Go Go.Proofs.YteofdmdpaejgaaaDoor.Vc Go.Proofs.YteofdmdpaejgaaaDoor.Er Go.Proofs.YteofdmdpaejgaaaDoor.Circ
set_option linter.unusedVariables false
theorem byt4 : byt Tryd.prog 4 = some 1 := by kernel_rfl
theorem call51 : callable Tryd.prog 51 = true := by kernel_rfl
theorem fits4 : Fits Tryd.prog 4 EB := fitsB (by kernel_rfl) (by kernel_rfl)
theorem sli76 : sli Tryd.prog 76 = some (4, 1) := by kernel_rfl
theorem zer4 : zer Tryd.prog 4 = some (.bool false) := by kernel_rfl
end Go.Proofs.YteofdmdpaejgaaaDoor.Gb
namespace Go.Proofs.YteofdmdpaejgaaaDoor.Cm
open Go Go.Proofs.YteofdmdpaejgaaaDoor.Vc Go.Proofs.YteofdmdpaejgaaaDoor.Er Go.Proofs.YteofdmdpaejgaaaDoor.Circ
set_option linter.unusedVariables false
theorem agg153 : isAgg' Tryd.prog 153 = true := by kernel_rfl
theorem arr153 : arr Tryd.prog 153 = some (64, 1) := by kernel_rfl
theorem byt99 : byt Tryd.prog 99 = some 24 := by kernel_rfl
theorem call76 : callable Tryd.prog 76 = true := by kernel_rfl
theorem fld151_0 : fld Tryd.prog 151 0 = some (0, 3, 70) := by kernel_rfl
theorem fld70_0 : fld Tryd.prog 70 0 = some (0, 1, 3) := by kernel_rfl
theorem fld70_1 : fld Tryd.prog 70 1 = some (1, 1, 68) := by kernel_rfl
theorem mixed : Tryd.prog.follows .mixedOrders = true := by kernel_rfl
theorem one3 : isOne Tryd.prog 3 = true := by kernel_rfl
theorem one68 : isOne Tryd.prog 68 = true := by kernel_rfl
theorem pls99 : pls Tryd.prog 99 = some #[(0, 1), (1, 1), (2, 1)] := by kernel_rfl
theorem siz153 : siz Tryd.prog 153 = some 64 := by kernel_rfl
theorem siz3 : siz Tryd.prog 3 = some 1 := by kernel_rfl
theorem siz68 : siz Tryd.prog 68 = some 1 := by kernel_rfl
theorem sli68 : sli Tryd.prog 68 = some (99, 3) := by kernel_rfl
theorem zer153 : zer Tryd.prog 153 = some (.agg (List.replicate 64 (.int .i64 0)).toArray) := by kernel_rfl
theorem zer99 : zer Tryd.prog 99 = some (.agg #[.int .i64 0, .int .i64 0, .int .i64 0]) := by kernel_rfl
theorem gate_ok (b n : Nat) (key : Option Nat) (c : Nat) (sp : List Value) (gs : List Gt) (hSw : Sl EG key gs c sp) (hn : n ≤ 1000) (hlen : gs.length ≤ 4000) (kd xa xb : Int) (R : List (Option Nat × Obj)) (w₀ w : World) (H : Hp No w₀ w ((some b, .cells #[i64 (n : Nat), .slice (ownA key) (List.length gs) c, .slice none 0 0] 151 (0, 0)) :: (key, sob EG 99 gs sp) :: R)) : Calls Tryd.prog 76 [pT b, i64 (kd), i64 (xa), i64 (xb)].toArray w (Ret fun v w' => v = i64 (wrW n gs) ∧ ∃ (key' : Option Nat) (c' : Nat) (sp' : List Value), Sl EG key' (gs ++ [(⟨kd, xa, xb⟩ : Gt)]) c' sp' ∧ Hp No w₀ w' ((some b, .cells #[i64 (n : Nat), .slice (ownA key') (List.length (gs ++ [(⟨kd, xa, xb⟩ : Gt)])) c', .slice none 0 0] 151 (0, 0)) :: (key', sob EG 99 (gs ++ [(⟨kd, xa, xb⟩ : Gt)]) sp') :: R)) := by
 skip
 refine enter (n := 37) Tryd.func76 rfl rfl (bLe rfl) ?_
 refine sR ?_
 refine sA (i64 ((0 : Int))) rfl ?_
 refine wend ?_
 refine sR ?_
 refine sM (pT b) rfl ?_
 refine sM (pT b) rfl ?_
 refine sq (r_nilCheck rfl) ?_
 refine sq (r_fieldAddr (off' := 0) fld151_0 (by decide) (b := b) (off := 0) rfl (by omega)) ?_
 refine sq (r_fieldAddr (off' := 1) fld70_1 (by decide) (b := b) (off := 0) rfl (by omega)) ?_
 refine sq (r_loadC (v := .slice (ownA key) (List.length gs) c) one68 (H.get (k := 0) rfl) (off := 1) rfl (by rfl)) ?_
 refine sM (i64 (kd)) rfl ?_
 refine sM (i64 (xa)) rfl ?_
 refine sM (i64 (xb)) rfl ?_
 refine sq (r_build (cs' := #[i64 (kd), i64 (xa), i64 (xb)]) (ps := [(0, i64 (kd)), (1, i64 (xa)), (2, i64 (xb))]) zer99 pls99 rfl (by rfl)) ?_
 refine q_buildSlice (E := EG) (l := ([⟨kd, xa, xb⟩] : List Gt)) H sli68 zer99 (bLe rfl) (ps := [(0, .agg #[i64 (kd), i64 (xa), i64 (xb)])]) rfl (by exact fillAll rfl rfl) rfl ?_
 intro b1 w3 hS2 H4 hE5
 refine q_append (E := EG) (k := 2) (l := gs) (l2 := ([⟨kd, xa, xb⟩] : List Gt)) H4 rfl hSw sli68 zer99 rfl byt99 (H4.rd (k := 0) rfl hS2) rfl (by rfl) rfl (by rfl) (by omega) ?_
 intro key6 c7 sp8 w10 hS9 hne12 H11
 have H11' := H11.as (L' := (((some b1), sob EG 99 ([⟨kd, xa, xb⟩] : List Gt) ([])) :: (some b, .cells #[i64 (n : Nat), .slice (ownA key) (List.length gs) c, .slice none 0 0] 151 (0, 0)) :: (key6, sob EG 99 (gs ++ ([⟨kd, xa, xb⟩] : List Gt)) sp8) :: R)) rfl
 clear H11
 have e13 : gs ++ ([⟨kd, xa, xb⟩] : List Gt) = gs ++ [(⟨kd, xa, xb⟩ : Gt)] := by rfl
 have hS14 := hS9
 rw [e13] at hS14
 have H15 := H11'.as (L' := (((some b1), sob EG 99 ([⟨kd, xa, xb⟩] : List Gt) ([])) :: (some b, .cells #[i64 (n : Nat), .slice (ownA key) (List.length gs) c, .slice none 0 0] 151 (0, 0)) :: (key6, sob EG 99 (gs ++ [(⟨kd, xa, xb⟩ : Gt)]) sp8) :: R)) (by rw [e13])
 refine sq (r_nilCheck rfl) ?_
 refine sq (r_fieldAddr (off' := 0) fld151_0 (by decide) (b := b) (off := 0) rfl (by omega)) ?_
 refine sq (r_fieldAddr (off' := 1) fld70_1 (by decide) (b := b) (off := 0) rfl (by omega)) ?_
 refine d_store (k := 1) (v := .slice (ownA key6) ((List.length gs) + 1) c7) (cs' := #[i64 (n : Nat), .slice (ownA key6) ((List.length gs) + 1) c7, .slice none 0 0]) H15 rfl rfl rfl siz68 (by rfl) (by intro u hu; simp [Value.cells] at hu; first | (subst hu; rfl) | (rcases hu with rfl <;> rfl)) (by exact bLe rfl) (by rfl) ?_
 intro w16 H17 hC18
 have H17' := H17.as (L' := (((some b1), sob EG 99 ([⟨kd, xa, xb⟩] : List Gt) ([])) :: (some b, .cells #[i64 (n : Nat), .slice (ownA key6) ((List.length gs) + 1) c7, .slice none 0 0] 151 (0, 0)) :: (key6, sob EG 99 (gs ++ [(⟨kd, xa, xb⟩ : Gt)]) sp8) :: R)) rfl
 clear H17
 refine wend ?_
 refine seqAny ?_
 refine drawAny (K := [none, none, none, none, none, none, none, none, none, none, none, none, none, none]) [0, 1, 3, 7, 15, 0, 32, 96, 224, 480, 992, 2047, 4095, 8191] (fun w' => Ext w16 w') (fun w' w'' => Ext w' w'') mixed (by kernel_rfl) (Ext.drew _) (fun _ _ h h' => h.trans h') ?_ ?_
 ·exact relNone (by decide)
 refine ⟨pT b, fun _ uw19 hC20 _ => Gives.run rfl (r_move (v := pT b) rfl) ⟨rfl, Chg.refl _ _⟩, ?_⟩
 refine ⟨pT b, fun _ uw21 hC22 _ => Gives.run rfl (r_nilCheck rfl) ⟨rfl, Chg.refl _ _⟩, ?_⟩
 refine ⟨pT b, fun _ uw23 hC24 _ => Gives.run rfl (r_fieldAddr (off' := 0) fld151_0 (by decide) (b := b) (off := 0) rfl (by omega)) ⟨rfl, Chg.refl _ _⟩, ?_⟩
 refine ⟨pT b, fun _ uw25 hC26 _ => Gives.run rfl (r_fieldAddr (off' := 0) fld70_0 (by decide) (b := b) (off := 0) rfl (by omega)) ⟨rfl, Chg.refl _ _⟩, ?_⟩
 refine ⟨i64 (n : Nat), fun _ uw27 hC28 _ => Gives.run rfl (r_loadC (v := i64 (n : Nat)) one3 ((H17'.ext hC28).get (k := 1) rfl) (off := 0) rfl (by rfl)) ⟨rfl, Chg.refl _ _⟩, ?_⟩
 refine ⟨pT b, fun _ uw29 hC30 _ => Gives.run rfl (r_move (v := pT b) rfl) ⟨rfl, Chg.refl _ _⟩, ?_⟩
 refine ⟨pT b, fun _ uw31 hC32 _ => Gives.run rfl (r_nilCheck rfl) ⟨rfl, Chg.refl _ _⟩, ?_⟩
 refine ⟨pT b, fun _ uw33 hC34 _ => Gives.run rfl (r_fieldAddr (off' := 0) fld151_0 (by decide) (b := b) (off := 0) rfl (by omega)) ⟨rfl, Chg.refl _ _⟩, ?_⟩
 refine ⟨.pointer (some ⟨b, 1, none⟩), fun _ uw35 hC36 _ => Gives.run rfl (r_fieldAddr (off' := 1) fld70_1 (by decide) (b := b) (off := 0) rfl (by omega)) ⟨rfl, Chg.refl _ _⟩, ?_⟩
 refine ⟨.slice (ownA key6) ((List.length gs) + 1) c7, fun _ uw37 hC38 _ => Gives.run rfl (r_loadC (v := .slice (ownA key6) ((List.length gs) + 1) c7) one68 ((H17'.ext hC38).get (k := 1) rfl) (off := 1) rfl (by rfl)) ⟨rfl, Chg.refl _ _⟩, ?_⟩
 refine ⟨i64 (((List.length gs) + 1 : Nat)), fun _ uw39 hC40 _ => Gives.run rfl (r_lenS sli68 (a := ownA key6) (m := (List.length gs) + 1) (c := c7) rfl) ⟨rfl, Chg.refl _ _⟩, ?_⟩
 refine ⟨i64 ((n : Nat) + ((List.length gs) + 1 : Nat)), fun _ uw41 hC42 _ => Gives.run rfl (r_addI (a := (n : Nat)) (b := ((List.length gs) + 1 : Nat)) rfl rfl (by omega)) ⟨rfl, Chg.refl _ _⟩, ?_⟩
 refine ⟨i64 (wrW n gs), fun _ uw43 hC44 _ => Gives.run rfl ((r_subI (a := (n : Nat) + ((List.length gs) + 1 : Nat)) (b := (1 : Int)) rfl rfl (by omega)).as (v' := i64 (wrW n gs)) (by exact congrArg i64 (by unfold wrW; omega))) ⟨rfl, Chg.refl _ _⟩, ?_⟩
 refine ⟨i64 (wrW n gs), fun _ uw45 hC46 _ => Gives.run rfl (r_assign (v := i64 (wrW n gs)) rfl) ⟨rfl, Chg.refl _ _⟩, ?_⟩
 intro r50 w47 hE49 hF
 have H48 := H17'.ext hE49
 refine wnil ?_
 refine thenNormal ?_
 refine retAny ?_
 refine retG (rs := [.tmp 8]) (vs := [i64 (wrW n gs)]) rfl ⟨⟨rfl, rfl⟩, trivial⟩ ?_
 refine ⟨_, rfl, rfl, key6, c7, sp8, hS14, ?_⟩
 rw [show List.length (gs ++ [(⟨kd, xa, xb⟩ : Gt)]) = gs.length + 1 from by rw [List.length_append]; rfl]
 exact (H48.dropk 0)
theorem carry_ok (b n : Nat) (key : Option Nat) (c : Nat) (sp : List Value) (gs : List Gt) (hSw : Sl EG key gs c sp) (hn : n ≤ 1000) (hlen : gs.length ≤ 3900) (xa xb xc : Int) (R : List (Option Nat × Obj)) (w₀ w : World) (H : Hp No w₀ w ((some b, .cells #[i64 (n : Nat), .slice (ownA key) (List.length gs) c, .slice none 0 0] 151 (0, 0)) :: (key, sob EG 99 gs sp) :: R)) : Calls Tryd.prog 104 [pT b, i64 (xa), i64 (xb), i64 (xc)].toArray w (Ret fun v w' => v = i64 (caW n gs) ∧ ∃ (key' : Option Nat) (c' : Nat) (sp' : List Value), Sl EG key' (caG n gs xa xb xc) c' sp' ∧ Hp No w₀ w' ((some b, .cells #[i64 (n : Nat), .slice (ownA key') (List.length (caG n gs xa xb xc)) c', .slice none 0 0] 151 (0, 0)) :: (key', sob EG 99 (caG n gs xa xb xc) sp') :: R)) := by
 skip
 refine enter (n := 22) Tryd.func104 rfl rfl (bLe rfl) ?_
 refine sR ?_
 refine sA (i64 ((0 : Int))) rfl ?_
 refine wend ?_
 refine sR ?_
 refine sM (pT b) rfl ?_
 refine sM (i64 (xc)) rfl ?_
 refine sM (pT b) rfl ?_
 refine sM (pT b) rfl ?_
 refine sM (i64 (xa)) rfl ?_
 refine sM (i64 (xc)) rfl ?_
 have H1 := (H).as (L' := ((some b, .cells #[i64 (n : Nat), .slice (ownA key) (List.length gs) c, .slice none 0 0] 151 (0, 0)) :: (key, sob EG 99 gs sp) :: (R))) rfl
 refine c_call (vs := [pT b, i64 ((1 : Int)), i64 (xa), i64 (xc)]) call76 rfl (gate_ok b n key c sp gs hSw hn (by omega) (1 : Int) xa xc (R) w₀ w H1) ?_
 rintro wv10 w2 ⟨hwv11, key4, c5, sp6, hS7, HN8⟩
 obtain ⟨wx12, hwx12⟩ : ∃ q, q = wrW n gs := ⟨_, rfl⟩
 rw [← hwx12] at hwv11
 subst hwv11
 have H9 := HN8.as (L' := ((some b, .cells #[i64 (n : Nat), .slice (ownA key4) (List.length (gs ++ [(⟨(1 : Int), xa, xc⟩ : Gt)])) c5, .slice none 0 0] 151 (0, 0)) :: (key4, sob EG 99 (gs ++ [(⟨(1 : Int), xa, xc⟩ : Gt)]) sp6) :: R)) rfl
 refine sM (pT b) rfl ?_
 refine sM (i64 (xb)) rfl ?_
 refine sM (i64 (xc)) rfl ?_
 have H13 := (H9).as (L' := ((some b, .cells #[i64 (n : Nat), .slice (ownA key4) (List.length (gs ++ [(⟨(1 : Int), xa, xc⟩ : Gt)])) c5, .slice none 0 0] 151 (0, 0)) :: (key4, sob EG 99 (gs ++ [(⟨(1 : Int), xa, xc⟩ : Gt)]) sp6) :: (R))) rfl
 refine c_call (vs := [pT b, i64 ((1 : Int)), i64 (xb), i64 (xc)]) call76 rfl (gate_ok b n key4 c5 sp6 (gs ++ [(⟨(1 : Int), xa, xc⟩ : Gt)]) hS7 hn (by simp only [List.length_append, List.length_cons, List.length_nil]; omega) (1 : Int) xb xc (R) w₀ w2 H13) ?_
 rintro wv22 w14 ⟨hwv23, key16, c17, sp18, hS19, HN20⟩
 obtain ⟨wx24, hwx24⟩ : ∃ q, q = wrW n (gs ++ [(⟨(1 : Int), xa, xc⟩ : Gt)]) := ⟨_, rfl⟩
 rw [← hwx24] at hwv23
 subst hwv23
 have H21 := HN20.as (L' := ((some b, .cells #[i64 (n : Nat), .slice (ownA key16) (List.length (gs ++ [(⟨(1 : Int), xa, xc⟩ : Gt)] ++ [(⟨(1 : Int), xb, xc⟩ : Gt)])) c17, .slice none 0 0] 151 (0, 0)) :: (key16, sob EG 99 (gs ++ [(⟨(1 : Int), xa, xc⟩ : Gt)] ++ [(⟨(1 : Int), xb, xc⟩ : Gt)]) sp18) :: R)) rfl
 have H25 := (H21).as (L' := ((some b, .cells #[i64 (n : Nat), .slice (ownA key16) (List.length (gs ++ [(⟨(1 : Int), xa, xc⟩ : Gt)] ++ [(⟨(1 : Int), xb, xc⟩ : Gt)])) c17, .slice none 0 0] 151 (0, 0)) :: (key16, sob EG 99 (gs ++ [(⟨(1 : Int), xa, xc⟩ : Gt)] ++ [(⟨(1 : Int), xb, xc⟩ : Gt)]) sp18) :: (R))) rfl
 refine c_call (vs := [pT b, i64 ((2 : Int)), i64 (wx12), i64 (wx24)]) call76 rfl (gate_ok b n key16 c17 sp18 (gs ++ [(⟨(1 : Int), xa, xc⟩ : Gt)] ++ [(⟨(1 : Int), xb, xc⟩ : Gt)]) hS19 hn (by simp only [List.length_append, List.length_cons, List.length_nil]; omega) (2 : Int) wx12 wx24 (R) w₀ w14 H25) ?_
 rintro wv34 w26 ⟨hwv35, key28, c29, sp30, hS31, HN32⟩
 obtain ⟨wx36, hwx36⟩ : ∃ q, q = wrW n (gs ++ [(⟨(1 : Int), xa, xc⟩ : Gt)] ++ [(⟨(1 : Int), xb, xc⟩ : Gt)]) := ⟨_, rfl⟩
 rw [← hwx36] at hwv35
 subst hwv35
 have H33 := HN32.as (L' := ((some b, .cells #[i64 (n : Nat), .slice (ownA key28) (List.length (gs ++ [(⟨(1 : Int), xa, xc⟩ : Gt)] ++ [(⟨(1 : Int), xb, xc⟩ : Gt)] ++ [(⟨(2 : Int), wx12, wx24⟩ : Gt)])) c29, .slice none 0 0] 151 (0, 0)) :: (key28, sob EG 99 (gs ++ [(⟨(1 : Int), xa, xc⟩ : Gt)] ++ [(⟨(1 : Int), xb, xc⟩ : Gt)] ++ [(⟨(2 : Int), wx12, wx24⟩ : Gt)]) sp30) :: R)) rfl
 have H37 := (H33).as (L' := ((some b, .cells #[i64 (n : Nat), .slice (ownA key28) (List.length (gs ++ [(⟨(1 : Int), xa, xc⟩ : Gt)] ++ [(⟨(1 : Int), xb, xc⟩ : Gt)] ++ [(⟨(2 : Int), wx12, wx24⟩ : Gt)])) c29, .slice none 0 0] 151 (0, 0)) :: (key28, sob EG 99 (gs ++ [(⟨(1 : Int), xa, xc⟩ : Gt)] ++ [(⟨(1 : Int), xb, xc⟩ : Gt)] ++ [(⟨(2 : Int), wx12, wx24⟩ : Gt)]) sp30) :: (R))) rfl
 refine c_call (vs := [pT b, i64 ((1 : Int)), i64 (xc), i64 (wx36)]) call76 rfl (gate_ok b n key28 c29 sp30 (gs ++ [(⟨(1 : Int), xa, xc⟩ : Gt)] ++ [(⟨(1 : Int), xb, xc⟩ : Gt)] ++ [(⟨(2 : Int), wx12, wx24⟩ : Gt)]) hS31 hn (by simp only [List.length_append, List.length_cons, List.length_nil]; omega) (1 : Int) xc wx36 (R) w₀ w26 H37) ?_
 rintro wv46 w38 ⟨hwv47, key40, c41, sp42, hS43, HN44⟩
 obtain ⟨wx48, hwx48⟩ : ∃ q, q = wrW n (gs ++ [(⟨(1 : Int), xa, xc⟩ : Gt)] ++ [(⟨(1 : Int), xb, xc⟩ : Gt)] ++ [(⟨(2 : Int), wx12, wx24⟩ : Gt)]) := ⟨_, rfl⟩
 rw [← hwx48] at hwv47
 subst hwv47
 have H45 := HN44.as (L' := ((some b, .cells #[i64 (n : Nat), .slice (ownA key40) (List.length (gs ++ [(⟨(1 : Int), xa, xc⟩ : Gt)] ++ [(⟨(1 : Int), xb, xc⟩ : Gt)] ++ [(⟨(2 : Int), wx12, wx24⟩ : Gt)] ++ [(⟨(1 : Int), xc, wx36⟩ : Gt)])) c41, .slice none 0 0] 151 (0, 0)) :: (key40, sob EG 99 (gs ++ [(⟨(1 : Int), xa, xc⟩ : Gt)] ++ [(⟨(1 : Int), xb, xc⟩ : Gt)] ++ [(⟨(2 : Int), wx12, wx24⟩ : Gt)] ++ [(⟨(1 : Int), xc, wx36⟩ : Gt)]) sp42) :: R)) rfl
 refine sA (i64 (wx48)) rfl ?_
 refine wend ?_
 refine retAny ?_
 refine retG (rs := [.tmp 8]) (vs := [i64 (wx48)]) rfl ⟨⟨rfl, rfl⟩, trivial⟩ ?_
 subst hwx48
 subst hwx36
 subst hwx24
 subst hwx12
 rw [show wrW n (gs ++ [⟨1, xa, xc⟩] ++ [⟨1, xb, xc⟩] ++ [⟨2, wrW n gs, wrW n (gs ++ [⟨1, xa, xc⟩])⟩]) = caW n gs from by unfold caW wrW; simp only [List.length_append, List.length_cons, List.length_nil]]
 exact ⟨_, rfl, rfl, key40, c41, sp42, hS43, H45⟩
theorem input_ok (b iw : Nat) (hiw : iw ≤ 10) (w : World) : Calls Tryd.prog 73 [pT b, i64 (iw : Nat)].toArray w (Ret fun v w' => v = .agg (cel EI (inW (64 * iw) 64)).toArray ∧ Ext w w') := by
 have H := Hp.start No w
 refine enter (n := 18) Tryd.func73 rfl rfl (bLe rfl) ?_
 refine sR ?_
 refine q_alloc (o := .cells (cel EI (List.replicate 64 0)).toArray 153 (0, 0)) H zer153 (by kernel_rfl) ?_
 intro b1 w2 hb1 H3 hE4
 refine wend ?_
 refine sR ?_
 refine q_alloc (o := .cells (cel EI (List.replicate 64 0)).toArray 153 (0, 0)) H3 zer153 (by kernel_rfl) ?_
 intro b5 w6 hb5 H7 hE8
 refine wend ?_
 refine seqAny ?_
 refine sR ?_
 refine sM (i64 ((0 : Int))) rfl ?_
 refine wend ?_
 refine blockAny ?_
 refine loopAny (σ := Nat) (fun i => [(1, i64 (iw : Nat)), (4, pT b1), (5, pT b5), (7, i64 (i : Nat))]) (fun i w' => i ≤ 64 ∧ Hp No w w' [(some b5, .cells (cel EI (padW (inW (64 * iw) i))).toArray 153 (0, 0)), (some b1, .cells (cel EI (List.replicate 64 0)).toArray 153 (0, 0))]) (fun i => 64 - i) (0) ?_ ?_ ?_
 ·exact ⟨rfl, rfl, rfl, rfl, trivial⟩
 ·exact ⟨Nat.zero_le _, H7⟩
 rintro i ρ w9 ⟨hq, HL⟩
 have hpl : (padW (inW (64 * iw) i)).length = 64 := padW_len (by rw [inW_len]; exact hq)
 refine sR ?_
 refine sq (r_lssI (a := (i : Nat)) (b := (64 : Int)) rfl rfl) ?_
 refine wend ?_
 refine seqAny ?_
 refine condProp (((i : Nat) : Int) < (64 : Int)) rfl (fun c8 => ?_) (fun c8 => ?_)
 ·skip
  refine skipAny ?_
  refine thenNormal ?_
  refine seqAny ?_
  refine blockAny ?_
  refine sR ?_
  refine sM (i64 (i : Nat)) rfl ?_
  refine sA (i64 (i : Nat)) rfl ?_
  refine wend ?_
  refine oneRegion ?_
  refine sM (i64 (i : Nat)) rfl ?_
  refine sM (i64 (iw : Nat)) rfl ?_
  refine sq ((r_mulI (a := (64 : Int)) (b := (iw : Nat)) rfl rfl (by omega)).as (v' := i64 (((64 * iw) : Nat))) (by exact congrArg i64 (by omega))) ?_
  refine sM (i64 (i : Nat)) rfl ?_
  refine sq ((r_addI (a := ((64 * iw) : Nat)) (b := (i : Nat)) rfl rfl (by omega)).as (v' := i64 (((64 * iw + i : Nat) : Int))) (by exact congrArg i64 (by omega))) ?_
  refine sq (r_indexA (off' := i) (j := i) arr153 (b := b5) (off := 0) rfl rfl (by first | rfl | omega | (simp; omega)) (by omega) (by omega)) ?_
  refine d_store (k := 0) (v := i64 (((64 * iw + i : Nat) : Int))) (cs' := (cel EI ((padW (inW (64 * iw) i)).set i ((64 * iw + i : Nat) : Int))).toArray) HL rfl rfl rfl siz3 (by rfl) (by exact EI.one _) (by rw [List.size_toArray, cel_length]; show _ ≤ _ * 1; first | omega | (simp only [List.length_set]; omega) | exact bLe rfl | (simp <;> omega)) (by exact put1 (E := EI) rfl _ _ _) ?_
  intro w11 H12 hC13
  have H12' := H12.as (L' := [(some b5, .cells (cel EI ((padW (inW (64 * iw) i)).set i ((64 * iw + i : Nat) : Int))).toArray 153 (0, 0)), (some b1, .cells (cel EI (List.replicate 64 0)).toArray 153 (0, 0))]) rfl
  clear H12
  refine wnil ?_
  refine blockNormal ?_
  refine thenNormal ?_
  refine oneRegion ?_
  refine sq (r_addI (a := (i : Nat)) (b := (1 : Int)) rfl rfl (by omega)) ?_
  refine sM (i64 ((i : Nat) + (1 : Int))) rfl ?_
  refine wnil ?_
  refine thenNormal ?_
  rw [padW_set _ (inW_len _ _) (by omega)] at H12'
  exact ⟨i + 1, _, rfl, ⟨rfl, rfl, rfl, rfl, trivial⟩, ⟨by omega, H12'⟩, by show 64 - (i + 1) < 64 - i; omega⟩
 ·skip
  have hqe : i = 64 := by omega
  have hpf := (inW_len (64 * iw) i).trans hqe
  rw [padW_full hpf] at HL
  refine exitAny ?_
  refine thenExit ?_
  refine thenExit ?_
  refine blockHere ?_
  refine thenNormal ?_
  refine sR ?_
  refine sq (r_loadA (cs' := (cel EI (inW (64 * iw) i)).toArray) agg153 siz153 (HL.get (k := 0) rfl) (off := 0) rfl (by rw [List.size_toArray, cel_length]; show _ ≤ _ * 1; omega) (by exact ext_all (by rw [cel_length]; show _ * 1 = _; omega))) ?_
  refine d_store (k := 1) (v := .agg (cel EI (inW (64 * iw) i)).toArray) (cs' := (cel EI (inW (64 * iw) i)).toArray) HL rfl rfl rfl siz153 (by exact celSize (by rw [hpf]; rfl)) (by exact celOne _) (by rw [List.size_toArray, cel_length]; show _ ≤ _ * 1; first | omega | (simp only [List.length_set]; omega) | exact bLe rfl | (simp <;> omega)) (by exact putAll (by rw [List.length_replicate]; exact hpf.symm)) ?_
  intro w14 H15 hC16
  have H15' := H15.as (L' := [(some b5, .cells (cel EI (inW (64 * iw) i)).toArray 153 (0, 0)), (some b1, .cells (cel EI (inW (64 * iw) i)).toArray 153 (0, 0))]) rfl
  clear H15
  refine wend ?_
  refine retAny ?_
  refine retG (rs := [.cell 4 153]) (vs := [.agg (cel EI (inW (64 * iw) i)).toArray]) rfl ⟨r_loadA (cs' := (cel EI (inW (64 * iw) i)).toArray) agg153 siz153 (H15'.get (k := 1) rfl) (off := 0) rfl (by rw [List.size_toArray, cel_length]; show _ ≤ _ * 1; omega) (by exact ext_all (by rw [cel_length]; show _ * 1 = _; omega)), trivial⟩ ?_
  subst hqe
  exact ⟨_, rfl, rfl, H15'.chg⟩
end Go.Proofs.YteofdmdpaejgaaaDoor.Cm
namespace Go.Proofs.YteofdmdpaejgaaaDoor.Cm
open Go Go.Proofs.YteofdmdpaejgaaaDoor.Vc Go.Proofs.YteofdmdpaejgaaaDoor.Er Go.Proofs.YteofdmdpaejgaaaDoor.Circ
set_option linter.unusedVariables false
theorem fits3 : Fits Tryd.prog 3 EI := fitsI (by kernel_rfl) (by kernel_rfl)
set_option maxHeartbeats 1000000 in
theorem mxor_ok (b n : Nat) (key : Option Nat) (c : Nat) (sp : List Value) (gs : List Gt) (hSw : Sl EG key gs c sp) (hn : n ≤ 1000) (hlen : gs.length ≤ 3000) (ra rb : List Int) (hra : ra.length = 64) (hrb : rb.length = 64) (R : List (Option Nat × Obj)) (w₀ w : World) (H : Hp No w₀ w ((some b, .cells #[i64 (n : Nat), .slice (ownA key) (List.length gs) c, .slice none 0 0] 151 (0, 0)) :: (key, sob EG 99 gs sp) :: R)) : Calls Tryd.prog 74 [pT b, .agg (cel EI ra).toArray, .agg (cel EI rb).toArray].toArray w (Ret fun v w' => v = .agg (cel EI ((xoS n gs ra rb 64).2)).toArray ∧ ∃ (key' : Option Nat) (c' : Nat) (sp' : List Value), Sl EG key' ((xoS n gs ra rb 64).1) c' sp' ∧ Hp No w₀ w' ((some b, .cells #[i64 (n : Nat), .slice (ownA key') (List.length ((xoS n gs ra rb 64).1)) c', .slice none 0 0] 151 (0, 0)) :: (key', sob EG 99 ((xoS n gs ra rb 64).1) sp') :: R)) := by
 skip
 refine enter (n := 24) Tryd.func74 rfl rfl (bLe rfl) ?_
 refine sR ?_
 refine q_box (v := .agg (cel EI ra).toArray) (o := .cells (cel EI ra).toArray 153 (0, 0)) H rfl (by rfl) ?_
 intro b1 w2 hb1 H3 hE4
 refine q_box (v := .agg (cel EI rb).toArray) (o := .cells (cel EI rb).toArray 153 (0, 0)) H3 rfl (by rfl) ?_
 intro b5 w6 hb5 H7 hE8
 refine q_alloc (o := .cells (cel EI (List.replicate 64 0)).toArray 153 (0, 0)) H7 zer153 (by kernel_rfl) ?_
 intro b9 w10 hb9 H11 hE12
 refine wend ?_
 refine sR ?_
 refine q_alloc (o := .cells (cel EI (List.replicate 64 0)).toArray 153 (0, 0)) H11 zer153 (by kernel_rfl) ?_
 intro b13 w14 hb13 H15 hE16
 refine wend ?_
 refine seqAny ?_
 refine sR ?_
 refine sM (i64 ((0 : Int))) rfl ?_
 refine wend ?_
 refine blockAny ?_
 refine loopAny (σ := Nat × Option Nat × Nat × List Value) (fun (i, kz, cz, sz) => [(0, pT b), (4, pT b1), (5, pT b5), (6, pT b9), (7, pT b13), (9, i64 (i : Nat))]) (fun (i, kz, cz, sz) w' => (i ≤ 64 ∧ Sl EG kz ((xoS n gs ra rb i).1) cz sz) ∧ Hp No w₀ w' ((some b, .cells #[i64 (n : Nat), .slice (ownA kz) (List.length ((xoS n gs ra rb i).1)) cz, .slice none 0 0] 151 (0, 0)) :: (kz, sob EG 99 ((xoS n gs ra rb i).1) sz) :: (some b13, .cells (cel EI (padW ((xoS n gs ra rb i).2))).toArray 153 (0, 0)) :: (some b1, .cells (cel EI ra).toArray 153 (0, 0)) :: (some b5, .cells (cel EI rb).toArray 153 (0, 0)) :: (some b9, .cells (cel EI (List.replicate 64 0)).toArray 153 (0, 0)) :: R)) (fun (i, kz, cz, sz) => 64 - i) ((0, key, c, sp)) ?_ ?_ ?_
 ·exact ⟨rfl, rfl, rfl, rfl, rfl, rfl, trivial⟩
 ·exact ⟨⟨by omega, hSw⟩, (H15.pick 6 [4, 5, 0, 3, 2, 1] (by decide) (by decide))⟩
 rintro ⟨i, kz, cz, sz⟩ ρ w17 ⟨⟨hq, hSz⟩, HL⟩
 have hxl := xoS_len n gs ra rb i
 have hpl : (padW (xoS n gs ra rb i).2).length = 64 := padW_len (by rw [hxl.2]; exact hq)
 refine sR ?_
 refine sq (r_lssI (a := (i : Nat)) (b := (64 : Int)) rfl rfl) ?_
 refine wend ?_
 refine seqAny ?_
 refine condProp (((i : Nat) : Int) < (64 : Int)) rfl (fun c10 => ?_) (fun c10 => ?_)
 ·skip
  refine skipAny ?_
  refine thenNormal ?_
  refine seqAny ?_
  refine blockAny ?_
  refine sR ?_
  refine sM (i64 (i : Nat)) rfl ?_
  refine sA (i64 (i : Nat)) rfl ?_
  refine wend ?_
  refine drawC (m := 11) [0, 0, 0, 4, 12, 0, 32, 96, 254, 511, 1023] [8, 10] (fun q vs w' => match q, vs with | 0, [] => Hp No w₀ w' ((some b, .cells #[i64 (n : Nat), .slice (ownA kz) (List.length ((xoS n gs ra rb i).1)) cz, .slice none 0 0] 151 (0, 0)) :: (kz, sob EG 99 ((xoS n gs ra rb i).1) sz) :: (some b13, .cells (cel EI (padW ((xoS n gs ra rb i).2))).toArray 153 (0, 0)) :: (some b1, .cells (cel EI ra).toArray 153 (0, 0)) :: (some b5, .cells (cel EI rb).toArray 153 (0, 0)) :: (some b9, .cells (cel EI (List.replicate 64 0)).toArray 153 (0, 0)) :: R) | 1, [v0] => ∃ (wx33 : Int) (key25 : Option Nat) (c26 : Nat) (sp27 : List Value), v0 = i64 (wx33) ∧ Sl EG key25 (((xoS n gs ra rb i).1) ++ [(⟨(1 : Int), (ra).getD i 0, (rb).getD i 0⟩ : Gt)]) c26 sp27 ∧ wx33 = wrW n ((xoS n gs ra rb i).1) ∧ Hp No w₀ w' ((some b, .cells #[i64 (n : Nat), .slice (ownA key25) (List.length (((xoS n gs ra rb i).1) ++ [(⟨(1 : Int), (ra).getD i 0, (rb).getD i 0⟩ : Gt)])) c26, .slice none 0 0] 151 (0, 0)) :: (key25, sob EG 99 (((xoS n gs ra rb i).1) ++ [(⟨(1 : Int), (ra).getD i 0, (rb).getD i 0⟩ : Gt)]) sp27) :: (some b13, .cells (cel EI (padW ((xoS n gs ra rb i).2))).toArray 153 (0, 0)) :: (some b1, .cells (cel EI ra).toArray 153 (0, 0)) :: (some b5, .cells (cel EI rb).toArray 153 (0, 0)) :: (some b9, .cells (cel EI (List.replicate 64 0)).toArray 153 (0, 0)) :: R) | 2, [v0, _] => ∃ (wx33 : Int) (key25 : Option Nat) (c26 : Nat) (sp27 : List Value), v0 = i64 (wx33) ∧ True ∧ Sl EG key25 (((xoS n gs ra rb i).1) ++ [(⟨(1 : Int), (ra).getD i 0, (rb).getD i 0⟩ : Gt)]) c26 sp27 ∧ wx33 = wrW n ((xoS n gs ra rb i).1) ∧ Hp No w₀ w' ((some b, .cells #[i64 (n : Nat), .slice (ownA key25) (List.length (((xoS n gs ra rb i).1) ++ [(⟨(1 : Int), (ra).getD i 0, (rb).getD i 0⟩ : Gt)])) c26, .slice none 0 0] 151 (0, 0)) :: (key25, sob EG 99 (((xoS n gs ra rb i).1) ++ [(⟨(1 : Int), (ra).getD i 0, (rb).getD i 0⟩ : Gt)]) sp27) :: (some b13, .cells (cel EI ((padW ((xoS n gs ra rb i).2)).set i wx33)).toArray 153 (0, 0)) :: (some b1, .cells (cel EI ra).toArray 153 (0, 0)) :: (some b5, .cells (cel EI rb).toArray 153 (0, 0)) :: (some b9, .cells (cel EI (List.replicate 64 0)).toArray 153 (0, 0)) :: R) | _, _ => False) mixed (by kernel_rfl) (by kernel_rfl) HL.drew ?_
  refine WalkC.look rfl (fun _ => i64 (i : Nat)) (fun _ _ _ => rfl) (fun q r uw _ _ _ _ => Gives.run rfl (r_move (v := i64 (i : Nat)) rfl) ⟨rfl, rfl⟩) ?_
  refine WalkC.look rfl (fun _ => pT b) (fun _ _ _ => rfl) (fun q r uw _ _ _ _ => Gives.run rfl (r_move (v := pT b) rfl) ⟨rfl, rfl⟩) ?_
  refine WalkC.look rfl (fun _ => i64 (i : Nat)) (fun _ _ _ => rfl) (fun q r uw _ _ _ _ => Gives.run rfl (r_move (v := i64 (i : Nat)) rfl) ⟨rfl, rfl⟩) ?_
  refine WalkC.look rfl (fun _ => .pointer (some ⟨b1, i, none⟩)) (fun _ _ _ => rfl) (fun q r uw _ _ _ _ => Gives.run rfl (r_indexA (off' := i) (j := i) arr153 (b := b1) (off := 0) rfl rfl (by first | rfl | omega | (simp; omega)) (by omega) (by omega)) ⟨rfl, rfl⟩) ?_
  refine WalkC.look rfl (fun _ => i64 ((ra).getD i 0)) (fun _ _ _ => rfl) (fun q r uw hlo hhi hle hF => ?_) ?_
  ·skip
   have h1 : 0 ≤ q := Nat.zero_le _
   have h2 : q ≤ 0 := hhi 0 8 rfl rfl
   rcases (show q = 0 by omega) with rfl
   ·skip
    have HH := hF
    exact Gives.run rfl (r_ld1 (E := EI) (l := ra) (j := i) (a := (ra).getD i 0) fits3 (HH.get (k := 3) rfl) (at_getD (by first | omega | (simp only [List.length_set]; omega) | exact bLe rfl | (simp <;> omega))) rfl rfl) ⟨rfl, rfl⟩
  refine WalkC.look rfl (fun _ => i64 (i : Nat)) (fun _ _ _ => rfl) (fun q r uw _ _ _ _ => Gives.run rfl (r_move (v := i64 (i : Nat)) rfl) ⟨rfl, rfl⟩) ?_
  refine WalkC.look rfl (fun _ => .pointer (some ⟨b5, i, none⟩)) (fun _ _ _ => rfl) (fun q r uw _ _ _ _ => Gives.run rfl (r_indexA (off' := i) (j := i) arr153 (b := b5) (off := 0) rfl rfl (by first | rfl | omega | (simp; omega)) (by omega) (by omega)) ⟨rfl, rfl⟩) ?_
  refine WalkC.look rfl (fun _ => i64 ((rb).getD i 0)) (fun _ _ _ => rfl) (fun q r uw hlo hhi hle hF => ?_) ?_
  ·skip
   have h1 : 0 ≤ q := Nat.zero_le _
   have h2 : q ≤ 0 := hhi 0 8 rfl rfl
   rcases (show q = 0 by omega) with rfl
   ·skip
    have HH := hF
    exact Gives.run rfl (r_ld1 (E := EI) (l := rb) (j := i) (a := (rb).getD i 0) fits3 (HH.get (k := 4) rfl) (at_getD (by first | omega | (simp only [List.length_set]; omega) | exact bLe rfl | (simp <;> omega))) rfl rfl) ⟨rfl, rfl⟩
  refine WalkC.eff 0 rfl (fun r uw19 hF21 => ?_) ?_
  ·skip
   have H20 := hF21
   dsimp only [List.take, List.map, List.cons_append, List.nil_append]
   refine Gives.ofW (d := 20) rfl rfl (fun Q' hK => ?_)
   have H22 := (H20).as (L' := ((some b, .cells #[i64 (n : Nat), .slice (ownA kz) (List.length ((xoS n gs ra rb i).1)) cz, .slice none 0 0] 151 (0, 0)) :: (kz, sob EG 99 ((xoS n gs ra rb i).1) sz) :: ((some b13, .cells (cel EI (padW ((xoS n gs ra rb i).2))).toArray 153 (0, 0)) :: (some b1, .cells (cel EI ra).toArray 153 (0, 0)) :: (some b5, .cells (cel EI rb).toArray 153 (0, 0)) :: (some b9, .cells (cel EI (List.replicate 64 0)).toArray 153 (0, 0)) :: R))) rfl
   refine c_call (vs := [pT b, i64 ((1 : Int)), i64 ((ra).getD i 0), i64 ((rb).getD i 0)]) call76 rfl (gate_ok b n kz cz sz ((xoS n gs ra rb i).1) hSz hn (by omega) (1 : Int) ((ra).getD i 0) ((rb).getD i 0) ((some b13, .cells (cel EI (padW ((xoS n gs ra rb i).2))).toArray 153 (0, 0)) :: (some b1, .cells (cel EI ra).toArray 153 (0, 0)) :: (some b5, .cells (cel EI rb).toArray 153 (0, 0)) :: (some b9, .cells (cel EI (List.replicate 64 0)).toArray 153 (0, 0)) :: R) w₀ uw19 H22) ?_
   rintro wv31 w23 ⟨hwv32, key25, c26, sp27, hS28, HN29⟩
   obtain ⟨wx33, hwx33⟩ : ∃ q, q = wrW n ((xoS n gs ra rb i).1) := ⟨_, rfl⟩
   rw [← hwx33] at hwv32
   subst hwv32
   have H30 := HN29.as (L' := ((some b, .cells #[i64 (n : Nat), .slice (ownA key25) (List.length (((xoS n gs ra rb i).1) ++ [(⟨(1 : Int), (ra).getD i 0, (rb).getD i 0⟩ : Gt)])) c26, .slice none 0 0] 151 (0, 0)) :: (key25, sob EG 99 (((xoS n gs ra rb i).1) ++ [(⟨(1 : Int), (ra).getD i 0, (rb).getD i 0⟩ : Gt)]) sp27) :: (some b13, .cells (cel EI (padW ((xoS n gs ra rb i).2))).toArray 153 (0, 0)) :: (some b1, .cells (cel EI ra).toArray 153 (0, 0)) :: (some b5, .cells (cel EI rb).toArray 153 (0, 0)) :: (some b9, .cells (cel EI (List.replicate 64 0)).toArray 153 (0, 0)) :: R)) rfl
   exact hK _ _ ⟨wx33, key25, c26, sp27, rfl, hS28, hwx33, H30⟩
  refine WalkC.look rfl (fun _ => .pointer (some ⟨b13, i, none⟩)) (fun _ _ _ => rfl) (fun q r uw _ _ _ _ => Gives.run rfl (r_indexA (off' := i) (j := i) arr153 (b := b13) (off := 0) rfl rfl (by first | rfl | omega | (simp; omega)) (by omega) (by omega)) ⟨rfl, rfl⟩) ?_
  refine WalkC.eff 1 rfl (fun r uw34 hF36 => ?_) ?_
  ·skip
   obtain ⟨wx33, key25, c26, sp27, e8, hS28, hwx33, H35⟩ := hF36
   dsimp only [List.take, List.map, List.cons_append, List.nil_append]
   rw [e8]
   refine Gives.ofW0 rfl (fun Q' hK => ?_)
   refine d_store (k := 2) (v := i64 (wx33)) (cs' := (cel EI ((padW ((xoS n gs ra rb i).2)).set i wx33)).toArray) H35 rfl rfl rfl siz3 (by rfl) (by exact EI.one _) (by rw [List.size_toArray, cel_length]; show _ ≤ _ * 1; first | omega | (simp only [List.length_set]; omega) | exact bLe rfl | (simp <;> omega)) (by exact put1 (E := EI) rfl _ _ _) ?_
   intro w37 H38 hC39
   have H38' := H38.as (L' := ((some b, .cells #[i64 (n : Nat), .slice (ownA key25) (List.length (((xoS n gs ra rb i).1) ++ [(⟨(1 : Int), (ra).getD i 0, (rb).getD i 0⟩ : Gt)])) c26, .slice none 0 0] 151 (0, 0)) :: (key25, sob EG 99 (((xoS n gs ra rb i).1) ++ [(⟨(1 : Int), (ra).getD i 0, (rb).getD i 0⟩ : Gt)]) sp27) :: (some b13, .cells (cel EI ((padW ((xoS n gs ra rb i).2)).set i wx33)).toArray 153 (0, 0)) :: (some b1, .cells (cel EI ra).toArray 153 (0, 0)) :: (some b5, .cells (cel EI rb).toArray 153 (0, 0)) :: (some b9, .cells (cel EI (List.replicate 64 0)).toArray 153 (0, 0)) :: R)) rfl
   clear H38
   exact hK _ (fun _ => ⟨wx33, key25, c26, sp27, rfl, trivial, hS28, hwx33, H38'⟩)
  refine WalkC.nil ?_
  intro r40 w41 hF43
  obtain ⟨wx33, key25, c26, sp27, e8, e10, hS28, hwx33, H42⟩ := hF43
  dsimp only
  rw [e8]
  subst hwx33
  refine wnil ?_
  refine blockNormal ?_
  refine thenNormal ?_
  refine oneRegion ?_
  refine sq (r_addI (a := (i : Nat)) (b := (1 : Int)) rfl rfl (by omega)) ?_
  refine sM (i64 ((i : Nat) + (1 : Int))) rfl ?_
  refine wnil ?_
  refine thenNormal ?_
  rw [padW_set (l := (xoS n gs ra rb i).2) _ hxl.2 (by omega)] at H42
  have H42' := H42
  have H44 := H42'.as (L' := ((some b, .cells #[i64 (n : Nat), .slice (ownA key25) (List.length ((xoS n gs ra rb (i + 1)).1)) c26, .slice none 0 0] 151 (0, 0)) :: (key25, sob EG 99 ((xoS n gs ra rb (i + 1)).1) sp27) :: (some b13, .cells (cel EI (padW ((xoS n gs ra rb (i + 1)).2))).toArray 153 (0, 0)) :: (some b1, .cells (cel EI ra).toArray 153 (0, 0)) :: (some b5, .cells (cel EI rb).toArray 153 (0, 0)) :: (some b9, .cells (cel EI (List.replicate 64 0)).toArray 153 (0, 0)) :: R)) rfl
  exact ⟨(i + 1, key25, c26, sp27), _, rfl, ⟨rfl, rfl, rfl, rfl, rfl, rfl, trivial⟩, ⟨⟨by omega, hS28⟩, H44⟩, by show 64 - (i + 1) < 64 - i; omega⟩
 ·skip
  have hie : i = 64 := by omega
  have hrl := hxl.2.trans hie
  rw [padW_full hrl] at HL
  refine exitAny ?_
  refine thenExit ?_
  refine thenExit ?_
  refine blockHere ?_
  refine thenNormal ?_
  refine sR ?_
  refine sq (r_loadA (cs' := (cel EI ((xoS n gs ra rb i).2)).toArray) agg153 siz153 (HL.get (k := 2) rfl) (off := 0) rfl (by rw [List.size_toArray, cel_length]; show _ ≤ _ * 1; omega) (by exact ext_all (by rw [cel_length]; show _ * 1 = _; omega))) ?_
  refine d_store (k := 5) (v := .agg (cel EI ((xoS n gs ra rb i).2)).toArray) (cs' := (cel EI ((xoS n gs ra rb i).2)).toArray) HL rfl rfl rfl siz153 (by exact celSize (by rw [hrl]; rfl)) (by exact celOne _) (by rw [List.size_toArray, cel_length]; show _ ≤ _ * 1; first | omega | (simp only [List.length_set]; omega) | exact bLe rfl | (simp <;> omega)) (by exact putAll (by rw [List.length_replicate]; exact hrl.symm)) ?_
  intro w45 H46 hC47
  have H46' := H46.as (L' := ((some b, .cells #[i64 (n : Nat), .slice (ownA kz) (List.length ((xoS n gs ra rb i).1)) cz, .slice none 0 0] 151 (0, 0)) :: (kz, sob EG 99 ((xoS n gs ra rb i).1) sz) :: (some b13, .cells (cel EI ((xoS n gs ra rb i).2)).toArray 153 (0, 0)) :: (some b1, .cells (cel EI ra).toArray 153 (0, 0)) :: (some b5, .cells (cel EI rb).toArray 153 (0, 0)) :: (some b9, .cells (cel EI ((xoS n gs ra rb i).2)).toArray 153 (0, 0)) :: R)) rfl
  clear H46
  refine wend ?_
  refine retAny ?_
  refine retG (rs := [.cell 6 153]) (vs := [.agg (cel EI ((xoS n gs ra rb i).2)).toArray]) rfl ⟨r_loadA (cs' := (cel EI ((xoS n gs ra rb i).2)).toArray) agg153 siz153 (H46'.get (k := 5) rfl) (off := 0) rfl (by rw [List.size_toArray, cel_length]; show _ ≤ _ * 1; omega) (by exact ext_all (by rw [cel_length]; show _ * 1 = _; omega)), trivial⟩ ?_
  subst hie
  exact ⟨_, rfl, rfl, kz, cz, sz, hSz, ((((H46'.dropk 5).dropk 4).dropk 3).dropk 2)⟩
end Go.Proofs.YteofdmdpaejgaaaDoor.Cm
namespace Go.Proofs.YteofdmdpaejgaaaDoor.Cm
open Go Go.Proofs.YteofdmdpaejgaaaDoor.Vc Go.Proofs.YteofdmdpaejgaaaDoor.Er Go.Proofs.YteofdmdpaejgaaaDoor.Circ
set_option linter.unusedVariables false
theorem call104 : callable Tryd.prog 104 = true := by kernel_rfl
set_option maxHeartbeats 1000000 in
theorem madd_ok (b n : Nat) (key : Option Nat) (c : Nat) (sp : List Value) (gs : List Gt) (hSw : Sl EG key gs c sp) (hn : n ≤ 1000) (hlen : gs.length ≤ 3000) (ra rb : List Int) (hra : ra.length = 64) (hrb : rb.length = 64) (R : List (Option Nat × Obj)) (w₀ w : World) (H : Hp No w₀ w ((some b, .cells #[i64 (n : Nat), .slice (ownA key) (List.length gs) c, .slice none 0 0] 151 (0, 0)) :: (key, sob EG 99 gs sp) :: R)) : Calls Tryd.prog 75 [pT b, .agg (cel EI ra).toArray, .agg (cel EI rb).toArray].toArray w (Ret fun v w' => v = .agg (cel EI ((adS n gs ra rb 63).2.1)).toArray ∧ ∃ (key' : Option Nat) (c' : Nat) (sp' : List Value), Sl EG key' ((adS n gs ra rb 63).1) c' sp' ∧ Hp No w₀ w' ((some b, .cells #[i64 (n : Nat), .slice (ownA key') (List.length ((adS n gs ra rb 63).1)) c', .slice none 0 0] 151 (0, 0)) :: (key', sob EG 99 ((adS n gs ra rb 63).1) sp') :: R)) := by
 skip
 refine enter (n := 52) Tryd.func75 rfl rfl (bLe rfl) ?_
 refine sR ?_
 refine q_box (v := .agg (cel EI ra).toArray) (o := .cells (cel EI ra).toArray 153 (0, 0)) H rfl (by rfl) ?_
 intro b1 w2 hb1 H3 hE4
 refine q_box (v := .agg (cel EI rb).toArray) (o := .cells (cel EI rb).toArray 153 (0, 0)) H3 rfl (by rfl) ?_
 intro b5 w6 hb5 H7 hE8
 refine q_alloc (o := .cells (cel EI (List.replicate 64 0)).toArray 153 (0, 0)) H7 zer153 (by kernel_rfl) ?_
 intro b9 w10 hb9 H11 hE12
 refine wend ?_
 refine sR ?_
 refine q_alloc (o := .cells (cel EI (List.replicate 64 0)).toArray 153 (0, 0)) H11 zer153 (by kernel_rfl) ?_
 intro b13 w14 hb13 H15 hE16
 refine wend ?_
 refine sR ?_
 refine sM (pT b) rfl ?_
 refine sq (r_indexA (off' := 0) (j := 0) arr153 (b := b1) (off := 0) rfl rfl (by first | rfl | omega | (simp; omega)) (by omega) (by omega)) ?_
 refine sq (r_ld1 (E := EI) (l := ra) (j := 0) (a := (ra).getD 0 0) fits3 (H15.get (k := 3) rfl) (at_getD (by first | omega | (simp only [List.length_set]; omega) | exact bLe rfl | (simp <;> omega))) rfl rfl) ?_
 refine sq (r_indexA (off' := 0) (j := 0) arr153 (b := b5) (off := 0) rfl rfl (by first | rfl | omega | (simp; omega)) (by omega) (by omega)) ?_
 refine sq (r_ld1 (E := EI) (l := rb) (j := 0) (a := (rb).getD 0 0) fits3 (H15.get (k := 2) rfl) (at_getD (by first | omega | (simp only [List.length_set]; omega) | exact bLe rfl | (simp <;> omega))) rfl rfl) ?_
 have H17 := ((H15.pick 6 [4, 5, 0, 1, 2, 3] (by decide) (by decide))).as (L' := ((some b, .cells #[i64 (n : Nat), .slice (ownA key) (List.length gs) c, .slice none 0 0] 151 (0, 0)) :: (key, sob EG 99 gs sp) :: ((some b13, .cells (cel EI (List.replicate 64 0)).toArray 153 (0, 0)) :: (some b9, .cells (cel EI (List.replicate 64 0)).toArray 153 (0, 0)) :: (some b5, .cells (cel EI rb).toArray 153 (0, 0)) :: (some b1, .cells (cel EI ra).toArray 153 (0, 0)) :: R))) rfl
 refine c_call (vs := [pT b, i64 ((1 : Int)), i64 ((ra).getD 0 0), i64 ((rb).getD 0 0)]) call76 rfl (gate_ok b n key c sp gs hSw hn (by omega) (1 : Int) ((ra).getD 0 0) ((rb).getD 0 0) ((some b13, .cells (cel EI (List.replicate 64 0)).toArray 153 (0, 0)) :: (some b9, .cells (cel EI (List.replicate 64 0)).toArray 153 (0, 0)) :: (some b5, .cells (cel EI rb).toArray 153 (0, 0)) :: (some b1, .cells (cel EI ra).toArray 153 (0, 0)) :: R) w₀ w14 H17) ?_
 rintro wv26 w18 ⟨hwv27, key20, c21, sp22, hS23, HN24⟩
 obtain ⟨wx28, hwx28⟩ : ∃ q, q = wrW n gs := ⟨_, rfl⟩
 rw [← hwx28] at hwv27
 subst hwv27
 have H25 := HN24.as (L' := ((some b, .cells #[i64 (n : Nat), .slice (ownA key20) (List.length (gs ++ [(⟨(1 : Int), (ra).getD 0 0, (rb).getD 0 0⟩ : Gt)])) c21, .slice none 0 0] 151 (0, 0)) :: (key20, sob EG 99 (gs ++ [(⟨(1 : Int), (ra).getD 0 0, (rb).getD 0 0⟩ : Gt)]) sp22) :: (some b13, .cells (cel EI (List.replicate 64 0)).toArray 153 (0, 0)) :: (some b9, .cells (cel EI (List.replicate 64 0)).toArray 153 (0, 0)) :: (some b5, .cells (cel EI rb).toArray 153 (0, 0)) :: (some b1, .cells (cel EI ra).toArray 153 (0, 0)) :: R)) rfl
 refine sq (r_indexA (off' := 0) (j := 0) arr153 (b := b13) (off := 0) rfl rfl (by first | rfl | omega | (simp; omega)) (by omega) (by omega)) ?_
 refine d_store (k := 2) (v := i64 (wx28)) (cs' := (cel EI ((List.replicate 64 0).set 0 wx28)).toArray) H25 rfl rfl rfl siz3 (by rfl) (by exact EI.one _) (by rw [List.size_toArray, cel_length]; show _ ≤ _ * 1; first | omega | (simp only [List.length_set]; omega) | exact bLe rfl | (simp <;> omega)) (by exact put1 (E := EI) rfl _ _ _) ?_
 intro w29 H30 hC31
 have H30' := H30.as (L' := ((some b, .cells #[i64 (n : Nat), .slice (ownA key20) (List.length (gs ++ [(⟨(1 : Int), (ra).getD 0 0, (rb).getD 0 0⟩ : Gt)])) c21, .slice none 0 0] 151 (0, 0)) :: (key20, sob EG 99 (gs ++ [(⟨(1 : Int), (ra).getD 0 0, (rb).getD 0 0⟩ : Gt)]) sp22) :: (some b13, .cells (cel EI ((List.replicate 64 0).set 0 wx28)).toArray 153 (0, 0)) :: (some b9, .cells (cel EI (List.replicate 64 0)).toArray 153 (0, 0)) :: (some b5, .cells (cel EI rb).toArray 153 (0, 0)) :: (some b1, .cells (cel EI ra).toArray 153 (0, 0)) :: R)) rfl
 clear H30
 refine wend ?_
 refine sR ?_
 refine sM (pT b) rfl ?_
 refine sq (r_indexA (off' := 0) (j := 0) arr153 (b := b1) (off := 0) rfl rfl (by first | rfl | omega | (simp; omega)) (by omega) (by omega)) ?_
 refine sq (r_ld1 (E := EI) (l := ra) (j := 0) (a := (ra).getD 0 0) fits3 (H30'.get (k := 5) rfl) (at_getD (by first | omega | (simp only [List.length_set]; omega) | exact bLe rfl | (simp <;> omega))) rfl rfl) ?_
 refine sq (r_indexA (off' := 0) (j := 0) arr153 (b := b5) (off := 0) rfl rfl (by first | rfl | omega | (simp; omega)) (by omega) (by omega)) ?_
 refine sq (r_ld1 (E := EI) (l := rb) (j := 0) (a := (rb).getD 0 0) fits3 (H30'.get (k := 4) rfl) (at_getD (by first | omega | (simp only [List.length_set]; omega) | exact bLe rfl | (simp <;> omega))) rfl rfl) ?_
 have H32 := (H30').as (L' := ((some b, .cells #[i64 (n : Nat), .slice (ownA key20) (List.length (gs ++ [(⟨(1 : Int), (ra).getD 0 0, (rb).getD 0 0⟩ : Gt)])) c21, .slice none 0 0] 151 (0, 0)) :: (key20, sob EG 99 (gs ++ [(⟨(1 : Int), (ra).getD 0 0, (rb).getD 0 0⟩ : Gt)]) sp22) :: ((some b13, .cells (cel EI ((List.replicate 64 0).set 0 wx28)).toArray 153 (0, 0)) :: (some b9, .cells (cel EI (List.replicate 64 0)).toArray 153 (0, 0)) :: (some b5, .cells (cel EI rb).toArray 153 (0, 0)) :: (some b1, .cells (cel EI ra).toArray 153 (0, 0)) :: R))) rfl
 refine c_call (vs := [pT b, i64 ((2 : Int)), i64 ((ra).getD 0 0), i64 ((rb).getD 0 0)]) call76 rfl (gate_ok b n key20 c21 sp22 (gs ++ [(⟨(1 : Int), (ra).getD 0 0, (rb).getD 0 0⟩ : Gt)]) hS23 hn (by simp only [List.length_append, List.length_cons, List.length_nil]; omega) (2 : Int) ((ra).getD 0 0) ((rb).getD 0 0) ((some b13, .cells (cel EI ((List.replicate 64 0).set 0 wx28)).toArray 153 (0, 0)) :: (some b9, .cells (cel EI (List.replicate 64 0)).toArray 153 (0, 0)) :: (some b5, .cells (cel EI rb).toArray 153 (0, 0)) :: (some b1, .cells (cel EI ra).toArray 153 (0, 0)) :: R) w₀ w29 H32) ?_
 rintro wv41 w33 ⟨hwv42, key35, c36, sp37, hS38, HN39⟩
 obtain ⟨wx43, hwx43⟩ : ∃ q, q = wrW n (gs ++ [(⟨(1 : Int), (ra).getD 0 0, (rb).getD 0 0⟩ : Gt)]) := ⟨_, rfl⟩
 rw [← hwx43] at hwv42
 subst hwv42
 have H40 := HN39.as (L' := ((some b, .cells #[i64 (n : Nat), .slice (ownA key35) (List.length (gs ++ [(⟨(1 : Int), (ra).getD 0 0, (rb).getD 0 0⟩ : Gt)] ++ [(⟨(2 : Int), (ra).getD 0 0, (rb).getD 0 0⟩ : Gt)])) c36, .slice none 0 0] 151 (0, 0)) :: (key35, sob EG 99 (gs ++ [(⟨(1 : Int), (ra).getD 0 0, (rb).getD 0 0⟩ : Gt)] ++ [(⟨(2 : Int), (ra).getD 0 0, (rb).getD 0 0⟩ : Gt)]) sp37) :: (some b13, .cells (cel EI ((List.replicate 64 0).set 0 wx28)).toArray 153 (0, 0)) :: (some b9, .cells (cel EI (List.replicate 64 0)).toArray 153 (0, 0)) :: (some b5, .cells (cel EI rb).toArray 153 (0, 0)) :: (some b1, .cells (cel EI ra).toArray 153 (0, 0)) :: R)) rfl
 refine sA (i64 (wx43)) rfl ?_
 subst hwx43
 subst hwx28
 rw [padW_one] at H40
 have H44 := H40.as (L' := ((some b, .cells #[i64 (n : Nat), .slice (ownA key35) (List.length ((adS n gs ra rb 0).1)) c36, .slice none 0 0] 151 (0, 0)) :: (key35, sob EG 99 ((adS n gs ra rb 0).1) sp37) :: (some b13, .cells (cel EI (padW [wrW n gs])).toArray 153 (0, 0)) :: (some b9, .cells (cel EI (List.replicate 64 0)).toArray 153 (0, 0)) :: (some b5, .cells (cel EI rb).toArray 153 (0, 0)) :: (some b1, .cells (cel EI ra).toArray 153 (0, 0)) :: R)) rfl
 have H45 := H44.as (L' := ((some b, .cells #[i64 (n : Nat), .slice (ownA key35) (List.length ((adS n gs ra rb 0).1)) c36, .slice none 0 0] 151 (0, 0)) :: (key35, sob EG 99 ((adS n gs ra rb 0).1) sp37) :: (some b13, .cells (cel EI (padW ((adS n gs ra rb 0).2.1))).toArray 153 (0, 0)) :: (some b9, .cells (cel EI (List.replicate 64 0)).toArray 153 (0, 0)) :: (some b5, .cells (cel EI rb).toArray 153 (0, 0)) :: (some b1, .cells (cel EI ra).toArray 153 (0, 0)) :: R)) rfl
 refine wend ?_
 refine seqAny ?_
 refine sR ?_
 refine sA (i64 ((1 : Int))) rfl ?_
 refine wend ?_
 refine blockAny ?_
 refine loopAny (σ := Nat × Option Nat × Nat × List Value) (fun (i, kz, cz, sz) => [(0, pT b), (4, pT b1), (5, pT b5), (6, pT b9), (7, pT b13), (8, i64 ((adS n gs ra rb i).2.2)), (9, i64 (((i + 1) : Nat)))]) (fun (i, kz, cz, sz) w' => (i ≤ 63 ∧ Sl EG kz ((adS n gs ra rb i).1) cz sz) ∧ Hp No w₀ w' ((some b, .cells #[i64 (n : Nat), .slice (ownA kz) (List.length ((adS n gs ra rb i).1)) cz, .slice none 0 0] 151 (0, 0)) :: (kz, sob EG 99 ((adS n gs ra rb i).1) sz) :: (some b13, .cells (cel EI (padW ((adS n gs ra rb i).2.1))).toArray 153 (0, 0)) :: (some b1, .cells (cel EI ra).toArray 153 (0, 0)) :: (some b5, .cells (cel EI rb).toArray 153 (0, 0)) :: (some b9, .cells (cel EI (List.replicate 64 0)).toArray 153 (0, 0)) :: R)) (fun (i, kz, cz, sz) => 63 - i) ((0, key35, c36, sp37)) ?_ ?_ ?_
 ·exact ⟨rfl, rfl, rfl, rfl, rfl, rfl, rfl, trivial⟩
 ·exact ⟨⟨by omega, hS38⟩, (H45.pick 6 [0, 1, 2, 5, 4, 3] (by decide) (by decide))⟩
 rintro ⟨i, kz, cz, sz⟩ ρ w46 ⟨⟨hq, hSz⟩, HL⟩
 have hal := adS_len n gs ra rb i
 have hpl : (padW (adS n gs ra rb i).2.1).length = 64 := padW_len (by rw [hal.2]; omega)
 refine seqAny ?_
 refine sR ?_
 refine sM (i64 (((i + 1) : Nat))) rfl ?_
 refine sq (r_lssI (a := ((i + 1) : Nat)) (b := (64 : Int)) rfl rfl) ?_
 refine wend ?_
 refine condProp ((((i + 1) : Nat) : Int) < (64 : Int)) rfl (fun c24 => ?_) (fun c24 => ?_)
 ·skip
  refine skipAny ?_
  refine thenNormal ?_
  refine seqAny ?_
  refine blockAny ?_
  refine seqAny ?_
  refine drawC (m := 14) [0, 0, 0, 0, 8, 24, 0, 64, 192, 508, 0, 2046, 4095, 8191] [9, 11, 13] (fun q vs w' => match q, vs with | 0, [] => Hp No w₀ w' ((some b, .cells #[i64 (n : Nat), .slice (ownA kz) (List.length ((adS n gs ra rb i).1)) cz, .slice none 0 0] 151 (0, 0)) :: (kz, sob EG 99 ((adS n gs ra rb i).1) sz) :: (some b13, .cells (cel EI (padW ((adS n gs ra rb i).2.1))).toArray 153 (0, 0)) :: (some b1, .cells (cel EI ra).toArray 153 (0, 0)) :: (some b5, .cells (cel EI rb).toArray 153 (0, 0)) :: (some b9, .cells (cel EI (List.replicate 64 0)).toArray 153 (0, 0)) :: R) | 1, [v0] => ∃ (wx62 : Int) (key54 : Option Nat) (c55 : Nat) (sp56 : List Value), v0 = i64 (wx62) ∧ Sl EG key54 (((adS n gs ra rb i).1) ++ [(⟨(1 : Int), (ra).getD (i + 1) 0, (rb).getD (i + 1) 0⟩ : Gt)]) c55 sp56 ∧ wx62 = wrW n ((adS n gs ra rb i).1) ∧ Hp No w₀ w' ((some b, .cells #[i64 (n : Nat), .slice (ownA key54) (List.length (((adS n gs ra rb i).1) ++ [(⟨(1 : Int), (ra).getD (i + 1) 0, (rb).getD (i + 1) 0⟩ : Gt)])) c55, .slice none 0 0] 151 (0, 0)) :: (key54, sob EG 99 (((adS n gs ra rb i).1) ++ [(⟨(1 : Int), (ra).getD (i + 1) 0, (rb).getD (i + 1) 0⟩ : Gt)]) sp56) :: (some b13, .cells (cel EI (padW ((adS n gs ra rb i).2.1))).toArray 153 (0, 0)) :: (some b1, .cells (cel EI ra).toArray 153 (0, 0)) :: (some b5, .cells (cel EI rb).toArray 153 (0, 0)) :: (some b9, .cells (cel EI (List.replicate 64 0)).toArray 153 (0, 0)) :: R) | 2, [v0, v1] => ∃ (wx62 : Int) (wx77 : Int) (key69 : Option Nat) (c70 : Nat) (sp71 : List Value), v0 = i64 (wx62) ∧ v1 = i64 (wx77) ∧ Sl EG key69 (((adS n gs ra rb i).1) ++ [(⟨(1 : Int), (ra).getD (i + 1) 0, (rb).getD (i + 1) 0⟩ : Gt)] ++ [(⟨(1 : Int), wx62, (adS n gs ra rb i).2.2⟩ : Gt)]) c70 sp71 ∧ wx62 = wrW n ((adS n gs ra rb i).1) ∧ wx77 = wrW n (((adS n gs ra rb i).1) ++ [(⟨(1 : Int), (ra).getD (i + 1) 0, (rb).getD (i + 1) 0⟩ : Gt)]) ∧ Hp No w₀ w' ((some b, .cells #[i64 (n : Nat), .slice (ownA key69) (List.length (((adS n gs ra rb i).1) ++ [(⟨(1 : Int), (ra).getD (i + 1) 0, (rb).getD (i + 1) 0⟩ : Gt)] ++ [(⟨(1 : Int), wx62, (adS n gs ra rb i).2.2⟩ : Gt)])) c70, .slice none 0 0] 151 (0, 0)) :: (key69, sob EG 99 (((adS n gs ra rb i).1) ++ [(⟨(1 : Int), (ra).getD (i + 1) 0, (rb).getD (i + 1) 0⟩ : Gt)] ++ [(⟨(1 : Int), wx62, (adS n gs ra rb i).2.2⟩ : Gt)]) sp71) :: (some b13, .cells (cel EI (padW ((adS n gs ra rb i).2.1))).toArray 153 (0, 0)) :: (some b1, .cells (cel EI ra).toArray 153 (0, 0)) :: (some b5, .cells (cel EI rb).toArray 153 (0, 0)) :: (some b9, .cells (cel EI (List.replicate 64 0)).toArray 153 (0, 0)) :: R) | 3, [v0, v1, _] => ∃ (wx62 : Int) (wx77 : Int) (key69 : Option Nat) (c70 : Nat) (sp71 : List Value), v0 = i64 (wx62) ∧ v1 = i64 (wx77) ∧ True ∧ Sl EG key69 (((adS n gs ra rb i).1) ++ [(⟨(1 : Int), (ra).getD (i + 1) 0, (rb).getD (i + 1) 0⟩ : Gt)] ++ [(⟨(1 : Int), wx62, (adS n gs ra rb i).2.2⟩ : Gt)]) c70 sp71 ∧ wx62 = wrW n ((adS n gs ra rb i).1) ∧ wx77 = wrW n (((adS n gs ra rb i).1) ++ [(⟨(1 : Int), (ra).getD (i + 1) 0, (rb).getD (i + 1) 0⟩ : Gt)]) ∧ Hp No w₀ w' ((some b, .cells #[i64 (n : Nat), .slice (ownA key69) (List.length (((adS n gs ra rb i).1) ++ [(⟨(1 : Int), (ra).getD (i + 1) 0, (rb).getD (i + 1) 0⟩ : Gt)] ++ [(⟨(1 : Int), wx62, (adS n gs ra rb i).2.2⟩ : Gt)])) c70, .slice none 0 0] 151 (0, 0)) :: (key69, sob EG 99 (((adS n gs ra rb i).1) ++ [(⟨(1 : Int), (ra).getD (i + 1) 0, (rb).getD (i + 1) 0⟩ : Gt)] ++ [(⟨(1 : Int), wx62, (adS n gs ra rb i).2.2⟩ : Gt)]) sp71) :: (some b13, .cells (cel EI ((padW ((adS n gs ra rb i).2.1)).set (i + 1) wx77)).toArray 153 (0, 0)) :: (some b1, .cells (cel EI ra).toArray 153 (0, 0)) :: (some b5, .cells (cel EI rb).toArray 153 (0, 0)) :: (some b9, .cells (cel EI (List.replicate 64 0)).toArray 153 (0, 0)) :: R) | _, _ => False) mixed (by kernel_rfl) (by kernel_rfl) HL.drew ?_
  refine WalkC.look rfl (fun _ => i64 (((i + 1) : Nat))) (fun _ _ _ => rfl) (fun q r uw _ _ _ _ => Gives.run rfl (r_move (v := i64 (((i + 1) : Nat))) rfl) ⟨rfl, rfl⟩) ?_
  refine WalkC.look rfl (fun _ => pT b) (fun _ _ _ => rfl) (fun q r uw _ _ _ _ => Gives.run rfl (r_move (v := pT b) rfl) ⟨rfl, rfl⟩) ?_
  refine WalkC.look rfl (fun _ => pT b) (fun _ _ _ => rfl) (fun q r uw _ _ _ _ => Gives.run rfl (r_move (v := pT b) rfl) ⟨rfl, rfl⟩) ?_
  refine WalkC.look rfl (fun _ => i64 (((i + 1) : Nat))) (fun _ _ _ => rfl) (fun q r uw _ _ _ _ => Gives.run rfl (r_move (v := i64 (((i + 1) : Nat))) rfl) ⟨rfl, rfl⟩) ?_
  refine WalkC.look rfl (fun _ => .pointer (some ⟨b1, (i + 1), none⟩)) (fun _ _ _ => rfl) (fun q r uw _ _ _ _ => Gives.run rfl (r_indexA (off' := (i + 1)) (j := (i + 1)) arr153 (b := b1) (off := 0) rfl rfl (by first | rfl | omega | (simp; omega)) (by omega) (by omega)) ⟨rfl, rfl⟩) ?_
  refine WalkC.look rfl (fun _ => i64 ((ra).getD (i + 1) 0)) (fun _ _ _ => rfl) (fun q r uw hlo hhi hle hF => ?_) ?_
  ·skip
   have h1 : 0 ≤ q := Nat.zero_le _
   have h2 : q ≤ 0 := hhi 0 9 rfl rfl
   rcases (show q = 0 by omega) with rfl
   ·skip
    have HH := hF
    exact Gives.run rfl (r_ld1 (E := EI) (l := ra) (j := (i + 1)) (a := (ra).getD (i + 1) 0) fits3 (HH.get (k := 3) rfl) (at_getD (by first | omega | (simp only [List.length_set]; omega) | exact bLe rfl | (simp <;> omega))) rfl rfl) ⟨rfl, rfl⟩
  refine WalkC.look rfl (fun _ => i64 (((i + 1) : Nat))) (fun _ _ _ => rfl) (fun q r uw _ _ _ _ => Gives.run rfl (r_move (v := i64 (((i + 1) : Nat))) rfl) ⟨rfl, rfl⟩) ?_
  refine WalkC.look rfl (fun _ => .pointer (some ⟨b5, (i + 1), none⟩)) (fun _ _ _ => rfl) (fun q r uw _ _ _ _ => Gives.run rfl (r_indexA (off' := (i + 1)) (j := (i + 1)) arr153 (b := b5) (off := 0) rfl rfl (by first | rfl | omega | (simp; omega)) (by omega) (by omega)) ⟨rfl, rfl⟩) ?_
  refine WalkC.look rfl (fun _ => i64 ((rb).getD (i + 1) 0)) (fun _ _ _ => rfl) (fun q r uw hlo hhi hle hF => ?_) ?_
  ·skip
   have h1 : 0 ≤ q := Nat.zero_le _
   have h2 : q ≤ 0 := hhi 0 9 rfl rfl
   rcases (show q = 0 by omega) with rfl
   ·skip
    have HH := hF
    exact Gives.run rfl (r_ld1 (E := EI) (l := rb) (j := (i + 1)) (a := (rb).getD (i + 1) 0) fits3 (HH.get (k := 4) rfl) (at_getD (by first | omega | (simp only [List.length_set]; omega) | exact bLe rfl | (simp <;> omega))) rfl rfl) ⟨rfl, rfl⟩
  refine WalkC.eff 0 rfl (fun r uw48 hF50 => ?_) ?_
  ·skip
   have H49 := hF50
   dsimp only [List.take, List.map, List.cons_append, List.nil_append]
   refine Gives.ofW (d := 36) rfl rfl (fun Q' hK => ?_)
   have H51 := (H49).as (L' := ((some b, .cells #[i64 (n : Nat), .slice (ownA kz) (List.length ((adS n gs ra rb i).1)) cz, .slice none 0 0] 151 (0, 0)) :: (kz, sob EG 99 ((adS n gs ra rb i).1) sz) :: ((some b13, .cells (cel EI (padW ((adS n gs ra rb i).2.1))).toArray 153 (0, 0)) :: (some b1, .cells (cel EI ra).toArray 153 (0, 0)) :: (some b5, .cells (cel EI rb).toArray 153 (0, 0)) :: (some b9, .cells (cel EI (List.replicate 64 0)).toArray 153 (0, 0)) :: R))) rfl
   refine c_call (vs := [pT b, i64 ((1 : Int)), i64 ((ra).getD (i + 1) 0), i64 ((rb).getD (i + 1) 0)]) call76 rfl (gate_ok b n kz cz sz ((adS n gs ra rb i).1) hSz hn (by omega) (1 : Int) ((ra).getD (i + 1) 0) ((rb).getD (i + 1) 0) ((some b13, .cells (cel EI (padW ((adS n gs ra rb i).2.1))).toArray 153 (0, 0)) :: (some b1, .cells (cel EI ra).toArray 153 (0, 0)) :: (some b5, .cells (cel EI rb).toArray 153 (0, 0)) :: (some b9, .cells (cel EI (List.replicate 64 0)).toArray 153 (0, 0)) :: R) w₀ uw48 H51) ?_
   rintro wv60 w52 ⟨hwv61, key54, c55, sp56, hS57, HN58⟩
   obtain ⟨wx62, hwx62⟩ : ∃ q, q = wrW n ((adS n gs ra rb i).1) := ⟨_, rfl⟩
   rw [← hwx62] at hwv61
   subst hwv61
   have H59 := HN58.as (L' := ((some b, .cells #[i64 (n : Nat), .slice (ownA key54) (List.length (((adS n gs ra rb i).1) ++ [(⟨(1 : Int), (ra).getD (i + 1) 0, (rb).getD (i + 1) 0⟩ : Gt)])) c55, .slice none 0 0] 151 (0, 0)) :: (key54, sob EG 99 (((adS n gs ra rb i).1) ++ [(⟨(1 : Int), (ra).getD (i + 1) 0, (rb).getD (i + 1) 0⟩ : Gt)]) sp56) :: (some b13, .cells (cel EI (padW ((adS n gs ra rb i).2.1))).toArray 153 (0, 0)) :: (some b1, .cells (cel EI ra).toArray 153 (0, 0)) :: (some b5, .cells (cel EI rb).toArray 153 (0, 0)) :: (some b9, .cells (cel EI (List.replicate 64 0)).toArray 153 (0, 0)) :: R)) rfl
   exact hK _ _ ⟨wx62, key54, c55, sp56, rfl, hS57, hwx62, H59⟩
  refine WalkC.look rfl (fun _ => i64 ((adS n gs ra rb i).2.2)) (fun _ _ _ => rfl) (fun q r uw _ _ _ _ => Gives.run rfl (r_move (v := i64 ((adS n gs ra rb i).2.2)) rfl) ⟨rfl, rfl⟩) ?_
  refine WalkC.eff 1 rfl (fun r uw63 hF65 => ?_) ?_
  ·skip
   obtain ⟨wx62, key54, c55, sp56, e9, hS57, hwx62, H64⟩ := hF65
   dsimp only [List.take, List.map, List.cons_append, List.nil_append]
   rw [e9]
   refine Gives.ofW (d := 38) rfl rfl (fun Q' hK => ?_)
   have H66 := (H64).as (L' := ((some b, .cells #[i64 (n : Nat), .slice (ownA key54) (List.length (((adS n gs ra rb i).1) ++ [(⟨(1 : Int), (ra).getD (i + 1) 0, (rb).getD (i + 1) 0⟩ : Gt)])) c55, .slice none 0 0] 151 (0, 0)) :: (key54, sob EG 99 (((adS n gs ra rb i).1) ++ [(⟨(1 : Int), (ra).getD (i + 1) 0, (rb).getD (i + 1) 0⟩ : Gt)]) sp56) :: ((some b13, .cells (cel EI (padW ((adS n gs ra rb i).2.1))).toArray 153 (0, 0)) :: (some b1, .cells (cel EI ra).toArray 153 (0, 0)) :: (some b5, .cells (cel EI rb).toArray 153 (0, 0)) :: (some b9, .cells (cel EI (List.replicate 64 0)).toArray 153 (0, 0)) :: R))) rfl
   refine c_call (vs := [pT b, i64 ((1 : Int)), i64 (wx62), i64 ((adS n gs ra rb i).2.2)]) call76 rfl (gate_ok b n key54 c55 sp56 (((adS n gs ra rb i).1) ++ [(⟨(1 : Int), (ra).getD (i + 1) 0, (rb).getD (i + 1) 0⟩ : Gt)]) hS57 hn (by simp only [List.length_append, List.length_cons, List.length_nil]; omega) (1 : Int) wx62 ((adS n gs ra rb i).2.2) ((some b13, .cells (cel EI (padW ((adS n gs ra rb i).2.1))).toArray 153 (0, 0)) :: (some b1, .cells (cel EI ra).toArray 153 (0, 0)) :: (some b5, .cells (cel EI rb).toArray 153 (0, 0)) :: (some b9, .cells (cel EI (List.replicate 64 0)).toArray 153 (0, 0)) :: R) w₀ uw63 H66) ?_
   rintro wv75 w67 ⟨hwv76, key69, c70, sp71, hS72, HN73⟩
   obtain ⟨wx77, hwx77⟩ : ∃ q, q = wrW n (((adS n gs ra rb i).1) ++ [(⟨(1 : Int), (ra).getD (i + 1) 0, (rb).getD (i + 1) 0⟩ : Gt)]) := ⟨_, rfl⟩
   rw [← hwx77] at hwv76
   subst hwv76
   have H74 := HN73.as (L' := ((some b, .cells #[i64 (n : Nat), .slice (ownA key69) (List.length (((adS n gs ra rb i).1) ++ [(⟨(1 : Int), (ra).getD (i + 1) 0, (rb).getD (i + 1) 0⟩ : Gt)] ++ [(⟨(1 : Int), wx62, (adS n gs ra rb i).2.2⟩ : Gt)])) c70, .slice none 0 0] 151 (0, 0)) :: (key69, sob EG 99 (((adS n gs ra rb i).1) ++ [(⟨(1 : Int), (ra).getD (i + 1) 0, (rb).getD (i + 1) 0⟩ : Gt)] ++ [(⟨(1 : Int), wx62, (adS n gs ra rb i).2.2⟩ : Gt)]) sp71) :: (some b13, .cells (cel EI (padW ((adS n gs ra rb i).2.1))).toArray 153 (0, 0)) :: (some b1, .cells (cel EI ra).toArray 153 (0, 0)) :: (some b5, .cells (cel EI rb).toArray 153 (0, 0)) :: (some b9, .cells (cel EI (List.replicate 64 0)).toArray 153 (0, 0)) :: R)) rfl
   exact hK _ _ ⟨wx62, wx77, key69, c70, sp71, rfl, rfl, hS72, hwx62, hwx77, H74⟩
  refine WalkC.look rfl (fun _ => .pointer (some ⟨b13, (i + 1), none⟩)) (fun _ _ _ => rfl) (fun q r uw _ _ _ _ => Gives.run rfl (r_indexA (off' := (i + 1)) (j := (i + 1)) arr153 (b := b13) (off := 0) rfl rfl (by first | rfl | omega | (simp; omega)) (by omega) (by omega)) ⟨rfl, rfl⟩) ?_
  refine WalkC.eff 2 rfl (fun r uw78 hF80 => ?_) ?_
  ·skip
   obtain ⟨wx62, wx77, key69, c70, sp71, e9, e11, hS72, hwx62, hwx77, H79⟩ := hF80
   dsimp only [List.take, List.map, List.cons_append, List.nil_append]
   rw [e9, e11]
   refine Gives.ofW0 rfl (fun Q' hK => ?_)
   refine d_store (k := 2) (v := i64 (wx77)) (cs' := (cel EI ((padW ((adS n gs ra rb i).2.1)).set (i + 1) wx77)).toArray) H79 rfl rfl rfl siz3 (by rfl) (by exact EI.one _) (by rw [List.size_toArray, cel_length]; show _ ≤ _ * 1; first | omega | (simp only [List.length_set]; omega) | exact bLe rfl | (simp <;> omega)) (by exact put1 (E := EI) rfl _ _ _) ?_
   intro w81 H82 hC83
   have H82' := H82.as (L' := ((some b, .cells #[i64 (n : Nat), .slice (ownA key69) (List.length (((adS n gs ra rb i).1) ++ [(⟨(1 : Int), (ra).getD (i + 1) 0, (rb).getD (i + 1) 0⟩ : Gt)] ++ [(⟨(1 : Int), wx62, (adS n gs ra rb i).2.2⟩ : Gt)])) c70, .slice none 0 0] 151 (0, 0)) :: (key69, sob EG 99 (((adS n gs ra rb i).1) ++ [(⟨(1 : Int), (ra).getD (i + 1) 0, (rb).getD (i + 1) 0⟩ : Gt)] ++ [(⟨(1 : Int), wx62, (adS n gs ra rb i).2.2⟩ : Gt)]) sp71) :: (some b13, .cells (cel EI ((padW ((adS n gs ra rb i).2.1)).set (i + 1) wx77)).toArray 153 (0, 0)) :: (some b1, .cells (cel EI ra).toArray 153 (0, 0)) :: (some b5, .cells (cel EI rb).toArray 153 (0, 0)) :: (some b9, .cells (cel EI (List.replicate 64 0)).toArray 153 (0, 0)) :: R)) rfl
   clear H82
   exact hK _ (fun _ => ⟨wx62, wx77, key69, c70, sp71, rfl, rfl, trivial, hS72, hwx62, hwx77, H82'⟩)
  refine WalkC.nil ?_
  intro r84 w85 hF87
  obtain ⟨wx62, wx77, key69, c70, sp71, e9, e11, e13, hS72, hwx62, hwx77, H86⟩ := hF87
  dsimp only
  rw [e9, e11]
  subst hwx77
  subst hwx62
  have e88 : ((adS n gs ra rb i).1) ++ [(⟨(1 : Int), (ra).getD (i + 1) 0, (rb).getD (i + 1) 0⟩ : Gt)] ++ [(⟨(1 : Int), (wrW n ((adS n gs ra rb i).1)), (adS n gs ra rb i).2.2⟩ : Gt)] = adP n ((adS n gs ra rb i).1) (ra.getD (i + 1) 0) (rb.getD (i + 1) 0) (adS n gs ra rb i).2.2 := by rfl
  have hS89 := hS72
  rw [e88] at hS89
  have H90 : Hp No w₀ w85 ((some b, .cells #[i64 (n : Nat), .slice (ownA key69) (List.length (adP n ((adS n gs ra rb i).1) (ra.getD (i + 1) 0) (rb.getD (i + 1) 0) (adS n gs ra rb i).2.2)) c70, .slice none 0 0] 151 (0, 0)) :: (key69, sob EG 99 (adP n ((adS n gs ra rb i).1) (ra.getD (i + 1) 0) (rb.getD (i + 1) 0) (adS n gs ra rb i).2.2) sp71) :: (some b13, .cells (cel EI ((padW ((adS n gs ra rb i).2.1)).set (i + 1) (wrW n (((adS n gs ra rb i).1) ++ [(⟨(1 : Int), (ra).getD (i + 1) 0, (rb).getD (i + 1) 0⟩ : Gt)])))).toArray 153 (0, 0)) :: (some b1, .cells (cel EI ra).toArray 153 (0, 0)) :: (some b5, .cells (cel EI rb).toArray 153 (0, 0)) :: (some b9, .cells (cel EI (List.replicate 64 0)).toArray 153 (0, 0)) :: R) := by rw [← e88]; exact H86
  rw [padW_set (l := (adS n gs ra rb i).2.1) _ hal.2 (by omega)] at H90
  have H91 := H90.as (L' := ((some b, .cells #[i64 (n : Nat), .slice (ownA key69) (List.length (adP n ((adS n gs ra rb i).1) (ra.getD (i + 1) 0) (rb.getD (i + 1) 0) (adS n gs ra rb i).2.2)) c70, .slice none 0 0] 151 (0, 0)) :: (key69, sob EG 99 (adP n ((adS n gs ra rb i).1) (ra.getD (i + 1) 0) (rb.getD (i + 1) 0) (adS n gs ra rb i).2.2) sp71) :: (some b13, .cells (cel EI (padW ((adS n gs ra rb i).2.1 ++ [wrW n ((adS n gs ra rb i).1 ++ [(⟨1, ra.getD (i + 1) 0, rb.getD (i + 1) 0⟩ : Gt)])]))).toArray 153 (0, 0)) :: (some b1, .cells (cel EI ra).toArray 153 (0, 0)) :: (some b5, .cells (cel EI rb).toArray 153 (0, 0)) :: (some b9, .cells (cel EI (List.replicate 64 0)).toArray 153 (0, 0)) :: R)) rfl
  refine wnil ?_
  refine thenNormal ?_
  refine sR ?_
  refine sM (i64 (((i + 1) : Nat))) rfl ?_
  refine sq (r_lssI (a := ((i + 1) : Nat)) (b := (63 : Int)) rfl rfl) ?_
  refine wend ?_
  refine condProp ((((i + 1) : Nat) : Int) < (63 : Int)) rfl (fun c41 => ?_) (fun c41 => ?_)
  ·skip
   refine drawC (m := 10) [0, 0, 2, 6, 0, 16, 48, 0, 255, 511] [8] (fun q vs w' => match q, vs with | 0, [] => Hp No w₀ w' ((some b, .cells #[i64 (n : Nat), .slice (ownA key69) (List.length (adP n ((adS n gs ra rb i).1) (ra.getD (i + 1) 0) (rb.getD (i + 1) 0) (adS n gs ra rb i).2.2)) c70, .slice none 0 0] 151 (0, 0)) :: (key69, sob EG 99 (adP n ((adS n gs ra rb i).1) (ra.getD (i + 1) 0) (rb.getD (i + 1) 0) (adS n gs ra rb i).2.2) sp71) :: (some b13, .cells (cel EI (padW ((adS n gs ra rb i).2.1 ++ [wrW n ((adS n gs ra rb i).1 ++ [(⟨1, ra.getD (i + 1) 0, rb.getD (i + 1) 0⟩ : Gt)])]))).toArray 153 (0, 0)) :: (some b1, .cells (cel EI ra).toArray 153 (0, 0)) :: (some b5, .cells (cel EI rb).toArray 153 (0, 0)) :: (some b9, .cells (cel EI (List.replicate 64 0)).toArray 153 (0, 0)) :: R) | 1, [v0] => ∃ (wx106 : Int) (key98 : Option Nat) (c99 : Nat) (sp100 : List Value), v0 = i64 (wx106) ∧ Sl EG key98 (caG n (adP n ((adS n gs ra rb i).1) (ra.getD (i + 1) 0) (rb.getD (i + 1) 0) (adS n gs ra rb i).2.2) ((ra).getD (i + 1) 0) ((rb).getD (i + 1) 0) ((adS n gs ra rb i).2.2)) c99 sp100 ∧ wx106 = caW n (adP n ((adS n gs ra rb i).1) (ra.getD (i + 1) 0) (rb.getD (i + 1) 0) (adS n gs ra rb i).2.2) ∧ Hp No w₀ w' ((some b, .cells #[i64 (n : Nat), .slice (ownA key98) (List.length (caG n (adP n ((adS n gs ra rb i).1) (ra.getD (i + 1) 0) (rb.getD (i + 1) 0) (adS n gs ra rb i).2.2) ((ra).getD (i + 1) 0) ((rb).getD (i + 1) 0) ((adS n gs ra rb i).2.2))) c99, .slice none 0 0] 151 (0, 0)) :: (key98, sob EG 99 (caG n (adP n ((adS n gs ra rb i).1) (ra.getD (i + 1) 0) (rb.getD (i + 1) 0) (adS n gs ra rb i).2.2) ((ra).getD (i + 1) 0) ((rb).getD (i + 1) 0) ((adS n gs ra rb i).2.2)) sp100) :: (some b13, .cells (cel EI (padW ((adS n gs ra rb i).2.1 ++ [wrW n ((adS n gs ra rb i).1 ++ [(⟨1, ra.getD (i + 1) 0, rb.getD (i + 1) 0⟩ : Gt)])]))).toArray 153 (0, 0)) :: (some b1, .cells (cel EI ra).toArray 153 (0, 0)) :: (some b5, .cells (cel EI rb).toArray 153 (0, 0)) :: (some b9, .cells (cel EI (List.replicate 64 0)).toArray 153 (0, 0)) :: R) | _, _ => False) mixed (by kernel_rfl) (by kernel_rfl) H91.drew ?_
   refine WalkC.look rfl (fun _ => pT b) (fun _ _ _ => rfl) (fun q r uw _ _ _ _ => Gives.run rfl (r_move (v := pT b) rfl) ⟨rfl, rfl⟩) ?_
   refine WalkC.look rfl (fun _ => i64 (((i + 1) : Nat))) (fun _ _ _ => rfl) (fun q r uw _ _ _ _ => Gives.run rfl (r_move (v := i64 (((i + 1) : Nat))) rfl) ⟨rfl, rfl⟩) ?_
   refine WalkC.look rfl (fun _ => .pointer (some ⟨b1, (i + 1), none⟩)) (fun _ _ _ => rfl) (fun q r uw _ _ _ _ => Gives.run rfl (r_indexA (off' := (i + 1)) (j := (i + 1)) arr153 (b := b1) (off := 0) rfl rfl (by first | rfl | omega | (simp; omega)) (by omega) (by omega)) ⟨rfl, rfl⟩) ?_
   refine WalkC.look rfl (fun _ => i64 ((ra).getD (i + 1) 0)) (fun _ _ _ => rfl) (fun q r uw hlo hhi hle hF => ?_) ?_
   ·skip
    have h1 : 0 ≤ q := Nat.zero_le _
    have h2 : q ≤ 0 := hhi 0 8 rfl rfl
    rcases (show q = 0 by omega) with rfl
    ·skip
     have HH := hF
     exact Gives.run rfl (r_ld1 (E := EI) (l := ra) (j := (i + 1)) (a := (ra).getD (i + 1) 0) fits3 (HH.get (k := 3) rfl) (at_getD (by first | omega | (simp only [List.length_set]; omega) | exact bLe rfl | (simp <;> omega))) rfl rfl) ⟨rfl, rfl⟩
   refine WalkC.look rfl (fun _ => i64 (((i + 1) : Nat))) (fun _ _ _ => rfl) (fun q r uw _ _ _ _ => Gives.run rfl (r_move (v := i64 (((i + 1) : Nat))) rfl) ⟨rfl, rfl⟩) ?_
   refine WalkC.look rfl (fun _ => .pointer (some ⟨b5, (i + 1), none⟩)) (fun _ _ _ => rfl) (fun q r uw _ _ _ _ => Gives.run rfl (r_indexA (off' := (i + 1)) (j := (i + 1)) arr153 (b := b5) (off := 0) rfl rfl (by first | rfl | omega | (simp; omega)) (by omega) (by omega)) ⟨rfl, rfl⟩) ?_
   refine WalkC.look rfl (fun _ => i64 ((rb).getD (i + 1) 0)) (fun _ _ _ => rfl) (fun q r uw hlo hhi hle hF => ?_) ?_
   ·skip
    have h1 : 0 ≤ q := Nat.zero_le _
    have h2 : q ≤ 0 := hhi 0 8 rfl rfl
    rcases (show q = 0 by omega) with rfl
    ·skip
     have HH := hF
     exact Gives.run rfl (r_ld1 (E := EI) (l := rb) (j := (i + 1)) (a := (rb).getD (i + 1) 0) fits3 (HH.get (k := 4) rfl) (at_getD (by first | omega | (simp only [List.length_set]; omega) | exact bLe rfl | (simp <;> omega))) rfl rfl) ⟨rfl, rfl⟩
   refine WalkC.look rfl (fun _ => i64 ((adS n gs ra rb i).2.2)) (fun _ _ _ => rfl) (fun q r uw _ _ _ _ => Gives.run rfl (r_move (v := i64 ((adS n gs ra rb i).2.2)) rfl) ⟨rfl, rfl⟩) ?_
   refine WalkC.eff 0 rfl (fun r uw92 hF94 => ?_) ?_
   ·skip
    have H93 := hF94
    dsimp only [List.take, List.map, List.cons_append, List.nil_append]
    refine Gives.ofW (d := 50) rfl rfl (fun Q' hK => ?_)
    have H95 := (H93).as (L' := ((some b, .cells #[i64 (n : Nat), .slice (ownA key69) (List.length (adP n ((adS n gs ra rb i).1) (ra.getD (i + 1) 0) (rb.getD (i + 1) 0) (adS n gs ra rb i).2.2)) c70, .slice none 0 0] 151 (0, 0)) :: (key69, sob EG 99 (adP n ((adS n gs ra rb i).1) (ra.getD (i + 1) 0) (rb.getD (i + 1) 0) (adS n gs ra rb i).2.2) sp71) :: ((some b13, .cells (cel EI (padW ((adS n gs ra rb i).2.1 ++ [wrW n ((adS n gs ra rb i).1 ++ [(⟨1, ra.getD (i + 1) 0, rb.getD (i + 1) 0⟩ : Gt)])]))).toArray 153 (0, 0)) :: (some b1, .cells (cel EI ra).toArray 153 (0, 0)) :: (some b5, .cells (cel EI rb).toArray 153 (0, 0)) :: (some b9, .cells (cel EI (List.replicate 64 0)).toArray 153 (0, 0)) :: R))) rfl
    refine c_call (vs := [pT b, i64 ((ra).getD (i + 1) 0), i64 ((rb).getD (i + 1) 0), i64 ((adS n gs ra rb i).2.2)]) call104 rfl (carry_ok b n key69 c70 sp71 (adP n ((adS n gs ra rb i).1) (ra.getD (i + 1) 0) (rb.getD (i + 1) 0) (adS n gs ra rb i).2.2) hS89 hn (by simp only [adP_len]; omega) ((ra).getD (i + 1) 0) ((rb).getD (i + 1) 0) ((adS n gs ra rb i).2.2) ((some b13, .cells (cel EI (padW ((adS n gs ra rb i).2.1 ++ [wrW n ((adS n gs ra rb i).1 ++ [(⟨1, ra.getD (i + 1) 0, rb.getD (i + 1) 0⟩ : Gt)])]))).toArray 153 (0, 0)) :: (some b1, .cells (cel EI ra).toArray 153 (0, 0)) :: (some b5, .cells (cel EI rb).toArray 153 (0, 0)) :: (some b9, .cells (cel EI (List.replicate 64 0)).toArray 153 (0, 0)) :: R) w₀ uw92 H95) ?_
    rintro wv104 w96 ⟨hwv105, key98, c99, sp100, hS101, HN102⟩
    obtain ⟨wx106, hwx106⟩ : ∃ q, q = caW n (adP n ((adS n gs ra rb i).1) (ra.getD (i + 1) 0) (rb.getD (i + 1) 0) (adS n gs ra rb i).2.2) := ⟨_, rfl⟩
    rw [← hwx106] at hwv105
    subst hwv105
    have H103 := HN102.as (L' := ((some b, .cells #[i64 (n : Nat), .slice (ownA key98) (List.length (caG n (adP n ((adS n gs ra rb i).1) (ra.getD (i + 1) 0) (rb.getD (i + 1) 0) (adS n gs ra rb i).2.2) ((ra).getD (i + 1) 0) ((rb).getD (i + 1) 0) ((adS n gs ra rb i).2.2))) c99, .slice none 0 0] 151 (0, 0)) :: (key98, sob EG 99 (caG n (adP n ((adS n gs ra rb i).1) (ra.getD (i + 1) 0) (rb.getD (i + 1) 0) (adS n gs ra rb i).2.2) ((ra).getD (i + 1) 0) ((rb).getD (i + 1) 0) ((adS n gs ra rb i).2.2)) sp100) :: (some b13, .cells (cel EI (padW ((adS n gs ra rb i).2.1 ++ [wrW n ((adS n gs ra rb i).1 ++ [(⟨1, ra.getD (i + 1) 0, rb.getD (i + 1) 0⟩ : Gt)])]))).toArray 153 (0, 0)) :: (some b1, .cells (cel EI ra).toArray 153 (0, 0)) :: (some b5, .cells (cel EI rb).toArray 153 (0, 0)) :: (some b9, .cells (cel EI (List.replicate 64 0)).toArray 153 (0, 0)) :: R)) rfl
    exact hK _ _ ⟨wx106, key98, c99, sp100, rfl, hS101, hwx106, H103⟩
   refine WalkC.look rfl (fun r => r 8) (fun r r' h => h 8 (by decide) rfl) (fun q r uw _ _ _ _ => Gives.run rfl (r_assign rfl) ⟨rfl, rfl⟩) ?_
   refine WalkC.nil ?_
   intro r107 w108 hF110
   obtain ⟨wx106, key98, c99, sp100, e8, hS101, hwx106, H109⟩ := hF110
   dsimp only
   rw [e8]
   subst hwx106
   refine wnil ?_
   refine blockNormal ?_
   refine thenNormal ?_
   refine oneRegion ?_
   refine sM (i64 (((i + 1) : Nat))) rfl ?_
   refine sq ((r_addI (a := ((i + 1) : Nat)) (b := (1 : Int)) rfl rfl (by omega)).as (v' := i64 (((i + 1 + 1) : Nat))) (by rfl)) ?_
   refine sA (i64 (((i + 1 + 1) : Nat))) rfl ?_
   refine wnil ?_
   refine thenNormal ?_
   have e111 : caG n (adP n ((adS n gs ra rb i).1) (ra.getD (i + 1) 0) (rb.getD (i + 1) 0) (adS n gs ra rb i).2.2) ((ra).getD (i + 1) 0) ((rb).getD (i + 1) 0) ((adS n gs ra rb i).2.2) = (adS n gs ra rb (i + 1)).1 := by rw [adS, if_pos (by omega)]
   have hS112 := hS101
   rw [e111] at hS112
   have H113 : Hp No w₀ w108 ((some b, .cells #[i64 (n : Nat), .slice (ownA key98) (List.length ((adS n gs ra rb (i + 1)).1)) c99, .slice none 0 0] 151 (0, 0)) :: (key98, sob EG 99 ((adS n gs ra rb (i + 1)).1) sp100) :: (some b13, .cells (cel EI (padW ((adS n gs ra rb i).2.1 ++ [wrW n ((adS n gs ra rb i).1 ++ [(⟨1, ra.getD (i + 1) 0, rb.getD (i + 1) 0⟩ : Gt)])]))).toArray 153 (0, 0)) :: (some b1, .cells (cel EI ra).toArray 153 (0, 0)) :: (some b5, .cells (cel EI rb).toArray 153 (0, 0)) :: (some b9, .cells (cel EI (List.replicate 64 0)).toArray 153 (0, 0)) :: R) := by rw [← e111]; exact H109
   rw [show (adS n gs ra rb i).2.1 ++ [wrW n ((adS n gs ra rb i).1 ++ [(⟨1, ra.getD (i + 1) 0, rb.getD (i + 1) 0⟩ : Gt)])] = (adS n gs ra rb (i + 1)).2.1 from by rw [adS, if_pos (by omega)]] at H113
   exact ⟨(i + 1, key98, c99, sp100), _, rfl, ⟨rfl, rfl, rfl, rfl, rfl, congrArg i64 (by rw [adS, if_pos (by omega)]), rfl, trivial⟩, ⟨⟨by omega, hS112⟩, H113⟩, by show 63 - (i + 1) < 63 - i; omega⟩
  ·skip
   refine skipAny ?_
   refine blockNormal ?_
   refine thenNormal ?_
   refine oneRegion ?_
   refine sM (i64 (((i + 1) : Nat))) rfl ?_
   refine sq ((r_addI (a := ((i + 1) : Nat)) (b := (1 : Int)) rfl rfl (by omega)).as (v' := i64 (((i + 1 + 1) : Nat))) (by rfl)) ?_
   refine sA (i64 (((i + 1 + 1) : Nat))) rfl ?_
   refine wnil ?_
   refine thenNormal ?_
   have e114 : adP n ((adS n gs ra rb i).1) (ra.getD (i + 1) 0) (rb.getD (i + 1) 0) (adS n gs ra rb i).2.2 = (adS n gs ra rb (i + 1)).1 := by rw [adS, if_neg (by omega)]
   have hS115 := hS89
   rw [e114] at hS115
   have H116 : Hp No w₀ w85 ((some b, .cells #[i64 (n : Nat), .slice (ownA key69) (List.length ((adS n gs ra rb (i + 1)).1)) c70, .slice none 0 0] 151 (0, 0)) :: (key69, sob EG 99 ((adS n gs ra rb (i + 1)).1) sp71) :: (some b13, .cells (cel EI (padW ((adS n gs ra rb i).2.1 ++ [wrW n ((adS n gs ra rb i).1 ++ [(⟨1, ra.getD (i + 1) 0, rb.getD (i + 1) 0⟩ : Gt)])]))).toArray 153 (0, 0)) :: (some b1, .cells (cel EI ra).toArray 153 (0, 0)) :: (some b5, .cells (cel EI rb).toArray 153 (0, 0)) :: (some b9, .cells (cel EI (List.replicate 64 0)).toArray 153 (0, 0)) :: R) := by rw [← e114]; exact H91
   rw [show (adS n gs ra rb i).2.1 ++ [wrW n ((adS n gs ra rb i).1 ++ [(⟨1, ra.getD (i + 1) 0, rb.getD (i + 1) 0⟩ : Gt)])] = (adS n gs ra rb (i + 1)).2.1 from by rw [adS, if_neg (by omega)]] at H116
   exact ⟨(i + 1, key69, c70, sp71), _, rfl, ⟨rfl, rfl, rfl, rfl, rfl, congrArg i64 (by rw [adS, if_neg (by omega)]), rfl, trivial⟩, ⟨⟨by omega, hS115⟩, H116⟩, by show 63 - (i + 1) < 63 - i; omega⟩
 ·skip
  have hie : i = 63 := by omega
  have hrl : (adS n gs ra rb i).2.1.length = 64 := by rw [hal.2, hie]
  rw [padW_full hrl] at HL
  refine exitAny ?_
  refine thenExit ?_
  refine thenExit ?_
  refine blockHere ?_
  refine thenNormal ?_
  refine sR ?_
  refine sq (r_loadA (cs' := (cel EI ((adS n gs ra rb i).2.1)).toArray) agg153 siz153 (HL.get (k := 2) rfl) (off := 0) rfl (by rw [List.size_toArray, cel_length]; show _ ≤ _ * 1; omega) (by exact ext_all (by rw [cel_length]; show _ * 1 = _; omega))) ?_
  refine d_store (k := 5) (v := .agg (cel EI ((adS n gs ra rb i).2.1)).toArray) (cs' := (cel EI ((adS n gs ra rb i).2.1)).toArray) HL rfl rfl rfl siz153 (by exact celSize (by rw [hrl]; rfl)) (by exact celOne _) (by rw [List.size_toArray, cel_length]; show _ ≤ _ * 1; first | omega | (simp only [List.length_set]; omega) | exact bLe rfl | (simp <;> omega)) (by exact putAll (by rw [List.length_replicate]; exact hrl.symm)) ?_
  intro w117 H118 hC119
  have H118' := H118.as (L' := ((some b, .cells #[i64 (n : Nat), .slice (ownA kz) (List.length ((adS n gs ra rb i).1)) cz, .slice none 0 0] 151 (0, 0)) :: (kz, sob EG 99 ((adS n gs ra rb i).1) sz) :: (some b13, .cells (cel EI ((adS n gs ra rb i).2.1)).toArray 153 (0, 0)) :: (some b1, .cells (cel EI ra).toArray 153 (0, 0)) :: (some b5, .cells (cel EI rb).toArray 153 (0, 0)) :: (some b9, .cells (cel EI ((adS n gs ra rb i).2.1)).toArray 153 (0, 0)) :: R)) rfl
  clear H118
  refine wend ?_
  refine retAny ?_
  refine retG (rs := [.cell 6 153]) (vs := [.agg (cel EI ((adS n gs ra rb i).2.1)).toArray]) rfl ⟨r_loadA (cs' := (cel EI ((adS n gs ra rb i).2.1)).toArray) agg153 siz153 (H118'.get (k := 5) rfl) (off := 0) rfl (by rw [List.size_toArray, cel_length]; show _ ≤ _ * 1; omega) (by exact ext_all (by rw [cel_length]; show _ * 1 = _; omega)), trivial⟩ ?_
  subst hie
  exact ⟨_, rfl, rfl, kz, cz, sz, hSz, ((((H118'.dropk 5).dropk 4).dropk 3).dropk 2)⟩
end Go.Proofs.YteofdmdpaejgaaaDoor.Cm
namespace Go.Proofs.YteofdmdpaejgaaaDoor.Cm
open Go Go.Proofs.YteofdmdpaejgaaaDoor.Vc Go.Proofs.YteofdmdpaejgaaaDoor.Er Go.Proofs.YteofdmdpaejgaaaDoor.Circ
set_option linter.unusedVariables false
set_option maxHeartbeats 1000000 in
theorem mless_ok (b n : Nat) (key : Option Nat) (c : Nat) (sp : List Value) (gs : List Gt) (hSw : Sl EG key gs c sp) (hn : n ≤ 1000) (hlen : gs.length ≤ 3000) (ra rb : List Int) (hra : ra.length = 64) (hrb : rb.length = 64) (R : List (Option Nat × Obj)) (w₀ w : World) (H : Hp No w₀ w ((some b, .cells #[i64 (n : Nat), .slice (ownA key) (List.length gs) c, .slice none 0 0] 151 (0, 0)) :: (key, sob EG 99 gs sp) :: R)) : Calls Tryd.prog 77 [pT b, .agg (cel EI ra).toArray, .agg (cel EI rb).toArray].toArray w (Ret fun v w' => v = i64 (leG n gs ra rb).2 ∧ ∃ (key' : Option Nat) (c' : Nat) (sp' : List Value), Sl EG key' ((leG n gs ra rb).1) c' sp' ∧ Hp No w₀ w' ((some b, .cells #[i64 (n : Nat), .slice (ownA key') (List.length ((leG n gs ra rb).1)) c', .slice none 0 0] 151 (0, 0)) :: (key', sob EG 99 ((leG n gs ra rb).1) sp') :: R)) := by
 skip
 refine enter (n := 41) Tryd.func77 rfl rfl (bLe rfl) ?_
 refine sR ?_
 refine q_box (v := .agg (cel EI ra).toArray) (o := .cells (cel EI ra).toArray 153 (0, 0)) H rfl (by rfl) ?_
 intro b1 w2 hb1 H3 hE4
 refine q_box (v := .agg (cel EI rb).toArray) (o := .cells (cel EI rb).toArray 153 (0, 0)) H3 rfl (by rfl) ?_
 intro b5 w6 hb5 H7 hE8
 refine sA (i64 ((0 : Int))) rfl ?_
 refine wend ?_
 refine seqAny ?_
 refine drawC (m := 9) [0, 0, 0, 4, 14, 0, 32, 127, 255] [4, 7] (fun q vs w' => match q, vs with | 0, [] => Hp No w₀ w' ((some b5, .cells (cel EI rb).toArray 153 (0, 0)) :: (some b1, .cells (cel EI ra).toArray 153 (0, 0)) :: (some b, .cells #[i64 (n : Nat), .slice (ownA key) (List.length gs) c, .slice none 0 0] 151 (0, 0)) :: (key, sob EG 99 gs sp) :: R) | 1, [v0] => ∃ (wx23 : Int) (key15 : Option Nat) (c16 : Nat) (sp17 : List Value), v0 = i64 (wx23) ∧ Sl EG key15 (gs ++ [(⟨(3 : Int), (ra).getD 0 0, (0 : Int)⟩ : Gt)]) c16 sp17 ∧ wx23 = wrW n gs ∧ Hp No w₀ w' ((some b, .cells #[i64 (n : Nat), .slice (ownA key15) (List.length (gs ++ [(⟨(3 : Int), (ra).getD 0 0, (0 : Int)⟩ : Gt)])) c16, .slice none 0 0] 151 (0, 0)) :: (key15, sob EG 99 (gs ++ [(⟨(3 : Int), (ra).getD 0 0, (0 : Int)⟩ : Gt)]) sp17) :: (some b5, .cells (cel EI rb).toArray 153 (0, 0)) :: (some b1, .cells (cel EI ra).toArray 153 (0, 0)) :: R) | 2, [v0, v1] => ∃ (wx23 : Int) (wx38 : Int) (key30 : Option Nat) (c31 : Nat) (sp32 : List Value), v0 = i64 (wx23) ∧ v1 = i64 (wx38) ∧ Sl EG key30 (gs ++ [(⟨(3 : Int), (ra).getD 0 0, (0 : Int)⟩ : Gt)] ++ [(⟨(2 : Int), wx23, (rb).getD 0 0⟩ : Gt)]) c31 sp32 ∧ wx23 = wrW n gs ∧ wx38 = wrW n (gs ++ [(⟨(3 : Int), (ra).getD 0 0, (0 : Int)⟩ : Gt)]) ∧ Hp No w₀ w' ((some b, .cells #[i64 (n : Nat), .slice (ownA key30) (List.length (gs ++ [(⟨(3 : Int), (ra).getD 0 0, (0 : Int)⟩ : Gt)] ++ [(⟨(2 : Int), wx23, (rb).getD 0 0⟩ : Gt)])) c31, .slice none 0 0] 151 (0, 0)) :: (key30, sob EG 99 (gs ++ [(⟨(3 : Int), (ra).getD 0 0, (0 : Int)⟩ : Gt)] ++ [(⟨(2 : Int), wx23, (rb).getD 0 0⟩ : Gt)]) sp32) :: (some b5, .cells (cel EI rb).toArray 153 (0, 0)) :: (some b1, .cells (cel EI ra).toArray 153 (0, 0)) :: R) | _, _ => False) mixed (by kernel_rfl) (by kernel_rfl) H7.drew ?_
 refine WalkC.look rfl (fun _ => pT b) (fun _ _ _ => rfl) (fun q r uw _ _ _ _ => Gives.run rfl (r_move (v := pT b) rfl) ⟨rfl, rfl⟩) ?_
 refine WalkC.look rfl (fun _ => pT b) (fun _ _ _ => rfl) (fun q r uw _ _ _ _ => Gives.run rfl (r_move (v := pT b) rfl) ⟨rfl, rfl⟩) ?_
 refine WalkC.look rfl (fun _ => pT b1) (fun _ _ _ => rfl) (fun q r uw _ _ _ _ => Gives.run rfl (r_indexA (off' := 0) (j := 0) arr153 (b := b1) (off := 0) rfl rfl (by first | rfl | omega | (simp; omega)) (by omega) (by omega)) ⟨rfl, rfl⟩) ?_
 refine WalkC.look rfl (fun _ => i64 ((ra).getD 0 0)) (fun _ _ _ => rfl) (fun q r uw hlo hhi hle hF => ?_) ?_
 ·skip
  have h1 : 0 ≤ q := Nat.zero_le _
  have h2 : q ≤ 0 := hhi 0 4 rfl rfl
  rcases (show q = 0 by omega) with rfl
  ·skip
   have HH := hF
   exact Gives.run rfl (r_ld1 (E := EI) (l := ra) (j := 0) (a := (ra).getD 0 0) fits3 (HH.get (k := 1) rfl) (at_getD (by first | omega | (simp only [List.length_set]; omega) | exact bLe rfl | (simp <;> omega))) rfl rfl) ⟨rfl, rfl⟩
 refine WalkC.eff 0 rfl (fun r uw9 hF11 => ?_) ?_
 ·skip
  have H10 := hF11
  dsimp only [List.take, List.map, List.cons_append, List.nil_append]
  refine Gives.ofW (d := 13) rfl rfl (fun Q' hK => ?_)
  have H12 := ((H10.pick 4 [2, 3, 0, 1] (by decide) (by decide))).as (L' := ((some b, .cells #[i64 (n : Nat), .slice (ownA key) (List.length gs) c, .slice none 0 0] 151 (0, 0)) :: (key, sob EG 99 gs sp) :: ((some b5, .cells (cel EI rb).toArray 153 (0, 0)) :: (some b1, .cells (cel EI ra).toArray 153 (0, 0)) :: R))) rfl
  refine c_call (vs := [pT b, i64 ((3 : Int)), i64 ((ra).getD 0 0), i64 ((0 : Int))]) call76 rfl (gate_ok b n key c sp gs hSw hn (by omega) (3 : Int) ((ra).getD 0 0) (0 : Int) ((some b5, .cells (cel EI rb).toArray 153 (0, 0)) :: (some b1, .cells (cel EI ra).toArray 153 (0, 0)) :: R) w₀ uw9 H12) ?_
  rintro wv21 w13 ⟨hwv22, key15, c16, sp17, hS18, HN19⟩
  obtain ⟨wx23, hwx23⟩ : ∃ q, q = wrW n gs := ⟨_, rfl⟩
  rw [← hwx23] at hwv22
  subst hwv22
  have H20 := HN19.as (L' := ((some b, .cells #[i64 (n : Nat), .slice (ownA key15) (List.length (gs ++ [(⟨(3 : Int), (ra).getD 0 0, (0 : Int)⟩ : Gt)])) c16, .slice none 0 0] 151 (0, 0)) :: (key15, sob EG 99 (gs ++ [(⟨(3 : Int), (ra).getD 0 0, (0 : Int)⟩ : Gt)]) sp17) :: (some b5, .cells (cel EI rb).toArray 153 (0, 0)) :: (some b1, .cells (cel EI ra).toArray 153 (0, 0)) :: R)) rfl
  exact hK _ _ ⟨wx23, key15, c16, sp17, rfl, hS18, hwx23, H20⟩
 refine WalkC.look rfl (fun _ => pT b5) (fun _ _ _ => rfl) (fun q r uw _ _ _ _ => Gives.run rfl (r_indexA (off' := 0) (j := 0) arr153 (b := b5) (off := 0) rfl rfl (by first | rfl | omega | (simp; omega)) (by omega) (by omega)) ⟨rfl, rfl⟩) ?_
 refine WalkC.look rfl (fun _ => i64 ((rb).getD 0 0)) (fun _ _ _ => rfl) (fun q r uw hlo hhi hle hF => ?_) ?_
 ·skip
  have h1 : 0 ≤ q := Nat.zero_le _
  have h2 : q ≤ 1 := hhi 1 7 rfl rfl
  rcases (show q = 0 ∨ q = 1 by omega) with rfl | rfl
  ·skip
   have HH := hF
   exact Gives.run rfl (r_ld1 (E := EI) (l := rb) (j := 0) (a := (rb).getD 0 0) fits3 (HH.get (k := 0) rfl) (at_getD (by first | omega | (simp only [List.length_set]; omega) | exact bLe rfl | (simp <;> omega))) rfl rfl) ⟨rfl, rfl⟩
  ·skip
   obtain ⟨wx23, key15, c16, sp17, e4, hS18, hwx23, HH⟩ := hF
   exact Gives.run rfl (r_ld1 (E := EI) (l := rb) (j := 0) (a := (rb).getD 0 0) fits3 (HH.get (k := 2) rfl) (at_getD (by first | omega | (simp only [List.length_set]; omega) | exact bLe rfl | (simp <;> omega))) rfl rfl) ⟨rfl, rfl⟩
 refine WalkC.eff 1 rfl (fun r uw24 hF26 => ?_) ?_
 ·skip
  obtain ⟨wx23, key15, c16, sp17, e4, hS18, hwx23, H25⟩ := hF26
  dsimp only [List.take, List.map, List.cons_append, List.nil_append]
  rw [e4]
  refine Gives.ofW (d := 16) rfl rfl (fun Q' hK => ?_)
  have H27 := (H25).as (L' := ((some b, .cells #[i64 (n : Nat), .slice (ownA key15) (List.length (gs ++ [(⟨(3 : Int), (ra).getD 0 0, (0 : Int)⟩ : Gt)])) c16, .slice none 0 0] 151 (0, 0)) :: (key15, sob EG 99 (gs ++ [(⟨(3 : Int), (ra).getD 0 0, (0 : Int)⟩ : Gt)]) sp17) :: ((some b5, .cells (cel EI rb).toArray 153 (0, 0)) :: (some b1, .cells (cel EI ra).toArray 153 (0, 0)) :: R))) rfl
  refine c_call (vs := [pT b, i64 ((2 : Int)), i64 (wx23), i64 ((rb).getD 0 0)]) call76 rfl (gate_ok b n key15 c16 sp17 (gs ++ [(⟨(3 : Int), (ra).getD 0 0, (0 : Int)⟩ : Gt)]) hS18 hn (by simp only [List.length_append, List.length_cons, List.length_nil]; omega) (2 : Int) wx23 ((rb).getD 0 0) ((some b5, .cells (cel EI rb).toArray 153 (0, 0)) :: (some b1, .cells (cel EI ra).toArray 153 (0, 0)) :: R) w₀ uw24 H27) ?_
  rintro wv36 w28 ⟨hwv37, key30, c31, sp32, hS33, HN34⟩
  obtain ⟨wx38, hwx38⟩ : ∃ q, q = wrW n (gs ++ [(⟨(3 : Int), (ra).getD 0 0, (0 : Int)⟩ : Gt)]) := ⟨_, rfl⟩
  rw [← hwx38] at hwv37
  subst hwv37
  have H35 := HN34.as (L' := ((some b, .cells #[i64 (n : Nat), .slice (ownA key30) (List.length (gs ++ [(⟨(3 : Int), (ra).getD 0 0, (0 : Int)⟩ : Gt)] ++ [(⟨(2 : Int), wx23, (rb).getD 0 0⟩ : Gt)])) c31, .slice none 0 0] 151 (0, 0)) :: (key30, sob EG 99 (gs ++ [(⟨(3 : Int), (ra).getD 0 0, (0 : Int)⟩ : Gt)] ++ [(⟨(2 : Int), wx23, (rb).getD 0 0⟩ : Gt)]) sp32) :: (some b5, .cells (cel EI rb).toArray 153 (0, 0)) :: (some b1, .cells (cel EI ra).toArray 153 (0, 0)) :: R)) rfl
  exact hK _ _ ⟨wx23, wx38, key30, c31, sp32, rfl, rfl, hS33, hwx23, hwx38, H35⟩
 refine WalkC.look rfl (fun r => r 7) (fun r r' h => h 7 (by decide) rfl) (fun q r uw _ _ _ _ => Gives.run rfl (r_assign rfl) ⟨rfl, rfl⟩) ?_
 refine WalkC.nil ?_
 intro r39 w40 hF42
 obtain ⟨wx23, wx38, key30, c31, sp32, e4, e7, hS33, hwx23, hwx38, H41⟩ := hF42
 dsimp only
 rw [e4, e7]
 subst hwx38
 subst hwx23
 have e43 : gs ++ [(⟨(3 : Int), (ra).getD 0 0, (0 : Int)⟩ : Gt)] ++ [(⟨(2 : Int), (wrW n gs), (rb).getD 0 0⟩ : Gt)] = (leS n gs ra rb 0).1 := by rfl
 have hS44 := hS33
 rw [e43] at hS44
 have H45 : Hp No w₀ w40 ((some b, .cells #[i64 (n : Nat), .slice (ownA key30) (List.length ((leS n gs ra rb 0).1)) c31, .slice none 0 0] 151 (0, 0)) :: (key30, sob EG 99 ((leS n gs ra rb 0).1) sp32) :: (some b5, .cells (cel EI rb).toArray 153 (0, 0)) :: (some b1, .cells (cel EI ra).toArray 153 (0, 0)) :: R) := by rw [← e43]; exact H41
 refine wnil ?_
 refine thenNormal ?_
 refine seqAny ?_
 refine sR ?_
 refine sA (i64 ((1 : Int))) rfl ?_
 refine wend ?_
 refine blockAny ?_
 refine loopAny (σ := Nat × Option Nat × Nat × List Value) (fun (i, kz, cz, sz) => [(0, pT b), (4, pT b1), (5, pT b5), (7, i64 ((leS n gs ra rb i).2)), (8, i64 (((i + 1) : Nat)))]) (fun (i, kz, cz, sz) w' => (i ≤ 62 ∧ Sl EG kz (leS n gs ra rb i).1 cz sz) ∧ Hp No w₀ w' ((some b, .cells #[i64 (n : Nat), .slice (ownA kz) (List.length ((leS n gs ra rb i).1)) cz, .slice none 0 0] 151 (0, 0)) :: (kz, sob EG 99 ((leS n gs ra rb i).1) sz) :: (some b1, .cells (cel EI ra).toArray 153 (0, 0)) :: (some b5, .cells (cel EI rb).toArray 153 (0, 0)) :: R)) (fun (i, kz, cz, sz) => 62 - i) ((0, key30, c31, sp32)) ?_ ?_ ?_
 ·exact ⟨rfl, rfl, rfl, rfl, rfl, trivial⟩
 ·exact ⟨⟨by omega, hS44⟩, (H45.pick 4 [0, 1, 3, 2] (by decide) (by decide))⟩
 rintro ⟨i, kz, cz, sz⟩ ρ w46 ⟨⟨hq, hSz⟩, HL⟩
 have hll := leS_len n gs ra rb i
 refine seqAny ?_
 refine sR ?_
 refine sM (i64 (((i + 1) : Nat))) rfl ?_
 refine sq (r_lssI (a := ((i + 1) : Nat)) (b := (63 : Int)) rfl rfl) ?_
 refine wend ?_
 refine condProp ((((i + 1) : Nat) : Int) < (63 : Int)) rfl (fun c18 => ?_) (fun c18 => ?_)
 ·skip
  refine skipAny ?_
  refine thenNormal ?_
  refine seqAny ?_
  refine blockAny ?_
  refine drawC (m := 12) [0, 0, 0, 4, 12, 30, 0, 64, 192, 0, 1023, 2047] [5, 10] (fun q vs w' => match q, vs with | 0, [] => Hp No w₀ w' ((some b, .cells #[i64 (n : Nat), .slice (ownA kz) (List.length ((leS n gs ra rb i).1)) cz, .slice none 0 0] 151 (0, 0)) :: (kz, sob EG 99 ((leS n gs ra rb i).1) sz) :: (some b1, .cells (cel EI ra).toArray 153 (0, 0)) :: (some b5, .cells (cel EI rb).toArray 153 (0, 0)) :: R) | 1, [v0] => ∃ (wx62 : Int) (key54 : Option Nat) (c55 : Nat) (sp56 : List Value), v0 = i64 (wx62) ∧ Sl EG key54 (((leS n gs ra rb i).1) ++ [(⟨(3 : Int), (ra).getD (i + 1) 0, (0 : Int)⟩ : Gt)]) c55 sp56 ∧ wx62 = wrW n ((leS n gs ra rb i).1) ∧ Hp No w₀ w' ((some b, .cells #[i64 (n : Nat), .slice (ownA key54) (List.length (((leS n gs ra rb i).1) ++ [(⟨(3 : Int), (ra).getD (i + 1) 0, (0 : Int)⟩ : Gt)])) c55, .slice none 0 0] 151 (0, 0)) :: (key54, sob EG 99 (((leS n gs ra rb i).1) ++ [(⟨(3 : Int), (ra).getD (i + 1) 0, (0 : Int)⟩ : Gt)]) sp56) :: (some b1, .cells (cel EI ra).toArray 153 (0, 0)) :: (some b5, .cells (cel EI rb).toArray 153 (0, 0)) :: R) | 2, [v0, v1] => ∃ (wx62 : Int) (wx77 : Int) (key69 : Option Nat) (c70 : Nat) (sp71 : List Value), v0 = i64 (wx62) ∧ v1 = i64 (wx77) ∧ Sl EG key69 (caG n (((leS n gs ra rb i).1) ++ [(⟨(3 : Int), (ra).getD (i + 1) 0, (0 : Int)⟩ : Gt)]) wx62 ((rb).getD (i + 1) 0) ((leS n gs ra rb i).2)) c70 sp71 ∧ wx62 = wrW n ((leS n gs ra rb i).1) ∧ wx77 = caW n (((leS n gs ra rb i).1) ++ [(⟨(3 : Int), (ra).getD (i + 1) 0, (0 : Int)⟩ : Gt)]) ∧ Hp No w₀ w' ((some b, .cells #[i64 (n : Nat), .slice (ownA key69) (List.length (caG n (((leS n gs ra rb i).1) ++ [(⟨(3 : Int), (ra).getD (i + 1) 0, (0 : Int)⟩ : Gt)]) wx62 ((rb).getD (i + 1) 0) ((leS n gs ra rb i).2))) c70, .slice none 0 0] 151 (0, 0)) :: (key69, sob EG 99 (caG n (((leS n gs ra rb i).1) ++ [(⟨(3 : Int), (ra).getD (i + 1) 0, (0 : Int)⟩ : Gt)]) wx62 ((rb).getD (i + 1) 0) ((leS n gs ra rb i).2)) sp71) :: (some b1, .cells (cel EI ra).toArray 153 (0, 0)) :: (some b5, .cells (cel EI rb).toArray 153 (0, 0)) :: R) | _, _ => False) mixed (by kernel_rfl) (by kernel_rfl) HL.drew ?_
  refine WalkC.look rfl (fun _ => pT b) (fun _ _ _ => rfl) (fun q r uw _ _ _ _ => Gives.run rfl (r_move (v := pT b) rfl) ⟨rfl, rfl⟩) ?_
  refine WalkC.look rfl (fun _ => pT b) (fun _ _ _ => rfl) (fun q r uw _ _ _ _ => Gives.run rfl (r_move (v := pT b) rfl) ⟨rfl, rfl⟩) ?_
  refine WalkC.look rfl (fun _ => i64 (((i + 1) : Nat))) (fun _ _ _ => rfl) (fun q r uw _ _ _ _ => Gives.run rfl (r_move (v := i64 (((i + 1) : Nat))) rfl) ⟨rfl, rfl⟩) ?_
  refine WalkC.look rfl (fun _ => .pointer (some ⟨b1, (i + 1), none⟩)) (fun _ _ _ => rfl) (fun q r uw _ _ _ _ => Gives.run rfl (r_indexA (off' := (i + 1)) (j := (i + 1)) arr153 (b := b1) (off := 0) rfl rfl (by first | rfl | omega | (simp; omega)) (by omega) (by omega)) ⟨rfl, rfl⟩) ?_
  refine WalkC.look rfl (fun _ => i64 ((ra).getD (i + 1) 0)) (fun _ _ _ => rfl) (fun q r uw hlo hhi hle hF => ?_) ?_
  ·skip
   have h1 : 0 ≤ q := Nat.zero_le _
   have h2 : q ≤ 0 := hhi 0 5 rfl rfl
   rcases (show q = 0 by omega) with rfl
   ·skip
    have HH := hF
    exact Gives.run rfl (r_ld1 (E := EI) (l := ra) (j := (i + 1)) (a := (ra).getD (i + 1) 0) fits3 (HH.get (k := 2) rfl) (at_getD (by first | omega | (simp only [List.length_set]; omega) | exact bLe rfl | (simp <;> omega))) rfl rfl) ⟨rfl, rfl⟩
  refine WalkC.eff 0 rfl (fun r uw48 hF50 => ?_) ?_
  ·skip
   have H49 := hF50
   dsimp only [List.take, List.map, List.cons_append, List.nil_append]
   refine Gives.ofW (d := 26) rfl rfl (fun Q' hK => ?_)
   have H51 := (H49).as (L' := ((some b, .cells #[i64 (n : Nat), .slice (ownA kz) (List.length ((leS n gs ra rb i).1)) cz, .slice none 0 0] 151 (0, 0)) :: (kz, sob EG 99 ((leS n gs ra rb i).1) sz) :: ((some b1, .cells (cel EI ra).toArray 153 (0, 0)) :: (some b5, .cells (cel EI rb).toArray 153 (0, 0)) :: R))) rfl
   refine c_call (vs := [pT b, i64 ((3 : Int)), i64 ((ra).getD (i + 1) 0), i64 ((0 : Int))]) call76 rfl (gate_ok b n kz cz sz ((leS n gs ra rb i).1) hSz hn (by omega) (3 : Int) ((ra).getD (i + 1) 0) (0 : Int) ((some b1, .cells (cel EI ra).toArray 153 (0, 0)) :: (some b5, .cells (cel EI rb).toArray 153 (0, 0)) :: R) w₀ uw48 H51) ?_
   rintro wv60 w52 ⟨hwv61, key54, c55, sp56, hS57, HN58⟩
   obtain ⟨wx62, hwx62⟩ : ∃ q, q = wrW n ((leS n gs ra rb i).1) := ⟨_, rfl⟩
   rw [← hwx62] at hwv61
   subst hwv61
   have H59 := HN58.as (L' := ((some b, .cells #[i64 (n : Nat), .slice (ownA key54) (List.length (((leS n gs ra rb i).1) ++ [(⟨(3 : Int), (ra).getD (i + 1) 0, (0 : Int)⟩ : Gt)])) c55, .slice none 0 0] 151 (0, 0)) :: (key54, sob EG 99 (((leS n gs ra rb i).1) ++ [(⟨(3 : Int), (ra).getD (i + 1) 0, (0 : Int)⟩ : Gt)]) sp56) :: (some b1, .cells (cel EI ra).toArray 153 (0, 0)) :: (some b5, .cells (cel EI rb).toArray 153 (0, 0)) :: R)) rfl
   exact hK _ _ ⟨wx62, key54, c55, sp56, rfl, hS57, hwx62, H59⟩
  refine WalkC.look rfl (fun _ => i64 (((i + 1) : Nat))) (fun _ _ _ => rfl) (fun q r uw _ _ _ _ => Gives.run rfl (r_move (v := i64 (((i + 1) : Nat))) rfl) ⟨rfl, rfl⟩) ?_
  refine WalkC.look rfl (fun _ => .pointer (some ⟨b5, (i + 1), none⟩)) (fun _ _ _ => rfl) (fun q r uw _ _ _ _ => Gives.run rfl (r_indexA (off' := (i + 1)) (j := (i + 1)) arr153 (b := b5) (off := 0) rfl rfl (by first | rfl | omega | (simp; omega)) (by omega) (by omega)) ⟨rfl, rfl⟩) ?_
  refine WalkC.look rfl (fun _ => i64 ((rb).getD (i + 1) 0)) (fun _ _ _ => rfl) (fun q r uw hlo hhi hle hF => ?_) ?_
  ·skip
   have h1 : 0 ≤ q := Nat.zero_le _
   have h2 : q ≤ 1 := hhi 1 10 rfl rfl
   rcases (show q = 0 ∨ q = 1 by omega) with rfl | rfl
   ·skip
    have HH := hF
    exact Gives.run rfl (r_ld1 (E := EI) (l := rb) (j := (i + 1)) (a := (rb).getD (i + 1) 0) fits3 (HH.get (k := 3) rfl) (at_getD (by first | omega | (simp only [List.length_set]; omega) | exact bLe rfl | (simp <;> omega))) rfl rfl) ⟨rfl, rfl⟩
   ·skip
    obtain ⟨wx62, key54, c55, sp56, e5, hS57, hwx62, HH⟩ := hF
    exact Gives.run rfl (r_ld1 (E := EI) (l := rb) (j := (i + 1)) (a := (rb).getD (i + 1) 0) fits3 (HH.get (k := 3) rfl) (at_getD (by first | omega | (simp only [List.length_set]; omega) | exact bLe rfl | (simp <;> omega))) rfl rfl) ⟨rfl, rfl⟩
  refine WalkC.look rfl (fun _ => i64 ((leS n gs ra rb i).2)) (fun _ _ _ => rfl) (fun q r uw _ _ _ _ => Gives.run rfl (r_move (v := i64 ((leS n gs ra rb i).2)) rfl) ⟨rfl, rfl⟩) ?_
  refine WalkC.eff 1 rfl (fun r uw63 hF65 => ?_) ?_
  ·skip
   obtain ⟨wx62, key54, c55, sp56, e5, hS57, hwx62, H64⟩ := hF65
   dsimp only [List.take, List.map, List.cons_append, List.nil_append]
   rw [e5]
   refine Gives.ofW (d := 31) rfl rfl (fun Q' hK => ?_)
   have H66 := (H64).as (L' := ((some b, .cells #[i64 (n : Nat), .slice (ownA key54) (List.length (((leS n gs ra rb i).1) ++ [(⟨(3 : Int), (ra).getD (i + 1) 0, (0 : Int)⟩ : Gt)])) c55, .slice none 0 0] 151 (0, 0)) :: (key54, sob EG 99 (((leS n gs ra rb i).1) ++ [(⟨(3 : Int), (ra).getD (i + 1) 0, (0 : Int)⟩ : Gt)]) sp56) :: ((some b1, .cells (cel EI ra).toArray 153 (0, 0)) :: (some b5, .cells (cel EI rb).toArray 153 (0, 0)) :: R))) rfl
   refine c_call (vs := [pT b, i64 (wx62), i64 ((rb).getD (i + 1) 0), i64 ((leS n gs ra rb i).2)]) call104 rfl (carry_ok b n key54 c55 sp56 (((leS n gs ra rb i).1) ++ [(⟨(3 : Int), (ra).getD (i + 1) 0, (0 : Int)⟩ : Gt)]) hS57 hn (by simp only [List.length_append, List.length_cons, List.length_nil]; omega) wx62 ((rb).getD (i + 1) 0) ((leS n gs ra rb i).2) ((some b1, .cells (cel EI ra).toArray 153 (0, 0)) :: (some b5, .cells (cel EI rb).toArray 153 (0, 0)) :: R) w₀ uw63 H66) ?_
   rintro wv75 w67 ⟨hwv76, key69, c70, sp71, hS72, HN73⟩
   obtain ⟨wx77, hwx77⟩ : ∃ q, q = caW n (((leS n gs ra rb i).1) ++ [(⟨(3 : Int), (ra).getD (i + 1) 0, (0 : Int)⟩ : Gt)]) := ⟨_, rfl⟩
   rw [← hwx77] at hwv76
   subst hwv76
   have H74 := HN73.as (L' := ((some b, .cells #[i64 (n : Nat), .slice (ownA key69) (List.length (caG n (((leS n gs ra rb i).1) ++ [(⟨(3 : Int), (ra).getD (i + 1) 0, (0 : Int)⟩ : Gt)]) wx62 ((rb).getD (i + 1) 0) ((leS n gs ra rb i).2))) c70, .slice none 0 0] 151 (0, 0)) :: (key69, sob EG 99 (caG n (((leS n gs ra rb i).1) ++ [(⟨(3 : Int), (ra).getD (i + 1) 0, (0 : Int)⟩ : Gt)]) wx62 ((rb).getD (i + 1) 0) ((leS n gs ra rb i).2)) sp71) :: (some b1, .cells (cel EI ra).toArray 153 (0, 0)) :: (some b5, .cells (cel EI rb).toArray 153 (0, 0)) :: R)) rfl
   exact hK _ _ ⟨wx62, wx77, key69, c70, sp71, rfl, rfl, hS72, hwx62, hwx77, H74⟩
  refine WalkC.look rfl (fun r => r 10) (fun r r' h => h 10 (by decide) rfl) (fun q r uw _ _ _ _ => Gives.run rfl (r_assign rfl) ⟨rfl, rfl⟩) ?_
  refine WalkC.nil ?_
  intro r78 w79 hF81
  obtain ⟨wx62, wx77, key69, c70, sp71, e5, e10, hS72, hwx62, hwx77, H80⟩ := hF81
  dsimp only
  rw [e5, e10]
  subst hwx77
  subst hwx62
  refine wnil ?_
  refine blockNormal ?_
  refine thenNormal ?_
  refine oneRegion ?_
  refine sM (i64 (((i + 1) : Nat))) rfl ?_
  refine sq ((r_addI (a := ((i + 1) : Nat)) (b := (1 : Int)) rfl rfl (by omega)).as (v' := i64 (((i + 1 + 1) : Nat))) (by rfl)) ?_
  refine sA (i64 (((i + 1 + 1) : Nat))) rfl ?_
  refine wnil ?_
  refine thenNormal ?_
  have e82 : caG n (((leS n gs ra rb i).1) ++ [(⟨(3 : Int), (ra).getD (i + 1) 0, (0 : Int)⟩ : Gt)]) (wrW n ((leS n gs ra rb i).1)) ((rb).getD (i + 1) 0) ((leS n gs ra rb i).2) = (leS n gs ra rb (i + 1)).1 := by rfl
  have hS83 := hS72
  rw [e82] at hS83
  have H84 : Hp No w₀ w79 ((some b, .cells #[i64 (n : Nat), .slice (ownA key69) (List.length ((leS n gs ra rb (i + 1)).1)) c70, .slice none 0 0] 151 (0, 0)) :: (key69, sob EG 99 ((leS n gs ra rb (i + 1)).1) sp71) :: (some b1, .cells (cel EI ra).toArray 153 (0, 0)) :: (some b5, .cells (cel EI rb).toArray 153 (0, 0)) :: R) := by rw [← e82]; exact H80
  exact ⟨(i + 1, key69, c70, sp71), _, rfl, ⟨rfl, rfl, rfl, rfl, rfl, trivial⟩, ⟨⟨by omega, hS83⟩, H84⟩, by show 62 - (i + 1) < 62 - i; omega⟩
 ·skip
  have hie : i = 62 := by omega
  refine exitAny ?_
  refine thenExit ?_
  refine thenExit ?_
  refine blockHere ?_
  refine thenNormal ?_
  refine seqAny ?_
  refine drawC (m := 10) [0, 0, 2, 0, 0, 16, 56, 0, 255, 511] [6, 8] (fun q vs w' => match q, vs with | 0, [] => Hp No w₀ w' ((some b, .cells #[i64 (n : Nat), .slice (ownA kz) (List.length ((leS n gs ra rb i).1)) cz, .slice none 0 0] 151 (0, 0)) :: (kz, sob EG 99 ((leS n gs ra rb i).1) sz) :: (some b1, .cells (cel EI ra).toArray 153 (0, 0)) :: (some b5, .cells (cel EI rb).toArray 153 (0, 0)) :: R) | 1, [v0] => ∃ (wx99 : Int) (key91 : Option Nat) (c92 : Nat) (sp93 : List Value), v0 = i64 (wx99) ∧ Sl EG key91 (((leS n gs ra rb i).1) ++ [(⟨(3 : Int), (rb).getD 63 0, (0 : Int)⟩ : Gt)]) c92 sp93 ∧ wx99 = wrW n ((leS n gs ra rb i).1) ∧ Hp No w₀ w' ((some b, .cells #[i64 (n : Nat), .slice (ownA key91) (List.length (((leS n gs ra rb i).1) ++ [(⟨(3 : Int), (rb).getD 63 0, (0 : Int)⟩ : Gt)])) c92, .slice none 0 0] 151 (0, 0)) :: (key91, sob EG 99 (((leS n gs ra rb i).1) ++ [(⟨(3 : Int), (rb).getD 63 0, (0 : Int)⟩ : Gt)]) sp93) :: (some b1, .cells (cel EI ra).toArray 153 (0, 0)) :: (some b5, .cells (cel EI rb).toArray 153 (0, 0)) :: R) | 2, [v0, v1] => ∃ (wx99 : Int) (wx114 : Int) (key106 : Option Nat) (c107 : Nat) (sp108 : List Value), v0 = i64 (wx99) ∧ v1 = i64 (wx114) ∧ Sl EG key106 (caG n (((leS n gs ra rb i).1) ++ [(⟨(3 : Int), (rb).getD 63 0, (0 : Int)⟩ : Gt)]) ((ra).getD 63 0) wx99 ((leS n gs ra rb i).2)) c107 sp108 ∧ wx99 = wrW n ((leS n gs ra rb i).1) ∧ wx114 = caW n (((leS n gs ra rb i).1) ++ [(⟨(3 : Int), (rb).getD 63 0, (0 : Int)⟩ : Gt)]) ∧ Hp No w₀ w' ((some b, .cells #[i64 (n : Nat), .slice (ownA key106) (List.length (caG n (((leS n gs ra rb i).1) ++ [(⟨(3 : Int), (rb).getD 63 0, (0 : Int)⟩ : Gt)]) ((ra).getD 63 0) wx99 ((leS n gs ra rb i).2))) c107, .slice none 0 0] 151 (0, 0)) :: (key106, sob EG 99 (caG n (((leS n gs ra rb i).1) ++ [(⟨(3 : Int), (rb).getD 63 0, (0 : Int)⟩ : Gt)]) ((ra).getD 63 0) wx99 ((leS n gs ra rb i).2)) sp108) :: (some b1, .cells (cel EI ra).toArray 153 (0, 0)) :: (some b5, .cells (cel EI rb).toArray 153 (0, 0)) :: R) | _, _ => False) mixed (by kernel_rfl) (by kernel_rfl) HL.drew ?_
  refine WalkC.look rfl (fun _ => pT b) (fun _ _ _ => rfl) (fun q r uw _ _ _ _ => Gives.run rfl (r_move (v := pT b) rfl) ⟨rfl, rfl⟩) ?_
  refine WalkC.look rfl (fun _ => .pointer (some ⟨b1, 63, none⟩)) (fun _ _ _ => rfl) (fun q r uw _ _ _ _ => Gives.run rfl (r_indexA (off' := 63) (j := 63) arr153 (b := b1) (off := 0) rfl rfl (by first | rfl | omega | (simp; omega)) (by omega) (by omega)) ⟨rfl, rfl⟩) ?_
  refine WalkC.look rfl (fun _ => i64 ((ra).getD 63 0)) (fun _ _ _ => rfl) (fun q r uw hlo hhi hle hF => ?_) ?_
  ·skip
   have h1 : 0 ≤ q := Nat.zero_le _
   have h2 : q ≤ 1 := hhi 1 8 rfl rfl
   rcases (show q = 0 ∨ q = 1 by omega) with rfl | rfl
   ·skip
    have HH := hF
    exact Gives.run rfl (r_ld1 (E := EI) (l := ra) (j := 63) (a := (ra).getD 63 0) fits3 (HH.get (k := 2) rfl) (at_getD (by first | omega | (simp only [List.length_set]; omega) | exact bLe rfl | (simp <;> omega))) rfl rfl) ⟨rfl, rfl⟩
   ·skip
    obtain ⟨wx99, key91, c92, sp93, e6, hS94, hwx99, HH⟩ := hF
    exact Gives.run rfl (r_ld1 (E := EI) (l := ra) (j := 63) (a := (ra).getD 63 0) fits3 (HH.get (k := 2) rfl) (at_getD (by first | omega | (simp only [List.length_set]; omega) | exact bLe rfl | (simp <;> omega))) rfl rfl) ⟨rfl, rfl⟩
  refine WalkC.look rfl (fun _ => pT b) (fun _ _ _ => rfl) (fun q r uw _ _ _ _ => Gives.run rfl (r_move (v := pT b) rfl) ⟨rfl, rfl⟩) ?_
  refine WalkC.look rfl (fun _ => .pointer (some ⟨b5, 63, none⟩)) (fun _ _ _ => rfl) (fun q r uw _ _ _ _ => Gives.run rfl (r_indexA (off' := 63) (j := 63) arr153 (b := b5) (off := 0) rfl rfl (by first | rfl | omega | (simp; omega)) (by omega) (by omega)) ⟨rfl, rfl⟩) ?_
  refine WalkC.look rfl (fun _ => i64 ((rb).getD 63 0)) (fun _ _ _ => rfl) (fun q r uw hlo hhi hle hF => ?_) ?_
  ·skip
   have h1 : 0 ≤ q := Nat.zero_le _
   have h2 : q ≤ 0 := hhi 0 6 rfl rfl
   rcases (show q = 0 by omega) with rfl
   ·skip
    have HH := hF
    exact Gives.run rfl (r_ld1 (E := EI) (l := rb) (j := 63) (a := (rb).getD 63 0) fits3 (HH.get (k := 3) rfl) (at_getD (by first | omega | (simp only [List.length_set]; omega) | exact bLe rfl | (simp <;> omega))) rfl rfl) ⟨rfl, rfl⟩
  refine WalkC.eff 0 rfl (fun r uw85 hF87 => ?_) ?_
  ·skip
   have H86 := hF87
   dsimp only [List.take, List.map, List.cons_append, List.nil_append]
   refine Gives.ofW (d := 38) rfl rfl (fun Q' hK => ?_)
   have H88 := (H86).as (L' := ((some b, .cells #[i64 (n : Nat), .slice (ownA kz) (List.length ((leS n gs ra rb i).1)) cz, .slice none 0 0] 151 (0, 0)) :: (kz, sob EG 99 ((leS n gs ra rb i).1) sz) :: ((some b1, .cells (cel EI ra).toArray 153 (0, 0)) :: (some b5, .cells (cel EI rb).toArray 153 (0, 0)) :: R))) rfl
   refine c_call (vs := [pT b, i64 ((3 : Int)), i64 ((rb).getD 63 0), i64 ((0 : Int))]) call76 rfl (gate_ok b n kz cz sz ((leS n gs ra rb i).1) hSz hn (by omega) (3 : Int) ((rb).getD 63 0) (0 : Int) ((some b1, .cells (cel EI ra).toArray 153 (0, 0)) :: (some b5, .cells (cel EI rb).toArray 153 (0, 0)) :: R) w₀ uw85 H88) ?_
   rintro wv97 w89 ⟨hwv98, key91, c92, sp93, hS94, HN95⟩
   obtain ⟨wx99, hwx99⟩ : ∃ q, q = wrW n ((leS n gs ra rb i).1) := ⟨_, rfl⟩
   rw [← hwx99] at hwv98
   subst hwv98
   have H96 := HN95.as (L' := ((some b, .cells #[i64 (n : Nat), .slice (ownA key91) (List.length (((leS n gs ra rb i).1) ++ [(⟨(3 : Int), (rb).getD 63 0, (0 : Int)⟩ : Gt)])) c92, .slice none 0 0] 151 (0, 0)) :: (key91, sob EG 99 (((leS n gs ra rb i).1) ++ [(⟨(3 : Int), (rb).getD 63 0, (0 : Int)⟩ : Gt)]) sp93) :: (some b1, .cells (cel EI ra).toArray 153 (0, 0)) :: (some b5, .cells (cel EI rb).toArray 153 (0, 0)) :: R)) rfl
   exact hK _ _ ⟨wx99, key91, c92, sp93, rfl, hS94, hwx99, H96⟩
  refine WalkC.look rfl (fun _ => i64 ((leS n gs ra rb i).2)) (fun _ _ _ => rfl) (fun q r uw _ _ _ _ => Gives.run rfl (r_move (v := i64 ((leS n gs ra rb i).2)) rfl) ⟨rfl, rfl⟩) ?_
  refine WalkC.eff 1 rfl (fun r uw100 hF102 => ?_) ?_
  ·skip
   obtain ⟨wx99, key91, c92, sp93, e6, hS94, hwx99, H101⟩ := hF102
   dsimp only [List.take, List.map, List.cons_append, List.nil_append]
   rw [e6]
   refine Gives.ofW (d := 40) rfl rfl (fun Q' hK => ?_)
   have H103 := (H101).as (L' := ((some b, .cells #[i64 (n : Nat), .slice (ownA key91) (List.length (((leS n gs ra rb i).1) ++ [(⟨(3 : Int), (rb).getD 63 0, (0 : Int)⟩ : Gt)])) c92, .slice none 0 0] 151 (0, 0)) :: (key91, sob EG 99 (((leS n gs ra rb i).1) ++ [(⟨(3 : Int), (rb).getD 63 0, (0 : Int)⟩ : Gt)]) sp93) :: ((some b1, .cells (cel EI ra).toArray 153 (0, 0)) :: (some b5, .cells (cel EI rb).toArray 153 (0, 0)) :: R))) rfl
   refine c_call (vs := [pT b, i64 ((ra).getD 63 0), i64 (wx99), i64 ((leS n gs ra rb i).2)]) call104 rfl (carry_ok b n key91 c92 sp93 (((leS n gs ra rb i).1) ++ [(⟨(3 : Int), (rb).getD 63 0, (0 : Int)⟩ : Gt)]) hS94 hn (by simp only [List.length_append, List.length_cons, List.length_nil]; omega) ((ra).getD 63 0) wx99 ((leS n gs ra rb i).2) ((some b1, .cells (cel EI ra).toArray 153 (0, 0)) :: (some b5, .cells (cel EI rb).toArray 153 (0, 0)) :: R) w₀ uw100 H103) ?_
   rintro wv112 w104 ⟨hwv113, key106, c107, sp108, hS109, HN110⟩
   obtain ⟨wx114, hwx114⟩ : ∃ q, q = caW n (((leS n gs ra rb i).1) ++ [(⟨(3 : Int), (rb).getD 63 0, (0 : Int)⟩ : Gt)]) := ⟨_, rfl⟩
   rw [← hwx114] at hwv113
   subst hwv113
   have H111 := HN110.as (L' := ((some b, .cells #[i64 (n : Nat), .slice (ownA key106) (List.length (caG n (((leS n gs ra rb i).1) ++ [(⟨(3 : Int), (rb).getD 63 0, (0 : Int)⟩ : Gt)]) ((ra).getD 63 0) wx99 ((leS n gs ra rb i).2))) c107, .slice none 0 0] 151 (0, 0)) :: (key106, sob EG 99 (caG n (((leS n gs ra rb i).1) ++ [(⟨(3 : Int), (rb).getD 63 0, (0 : Int)⟩ : Gt)]) ((ra).getD 63 0) wx99 ((leS n gs ra rb i).2)) sp108) :: (some b1, .cells (cel EI ra).toArray 153 (0, 0)) :: (some b5, .cells (cel EI rb).toArray 153 (0, 0)) :: R)) rfl
   exact hK _ _ ⟨wx99, wx114, key106, c107, sp108, rfl, rfl, hS109, hwx99, hwx114, H111⟩
  refine WalkC.look rfl (fun r => r 8) (fun r r' h => h 8 (by decide) rfl) (fun q r uw _ _ _ _ => Gives.run rfl (r_assign rfl) ⟨rfl, rfl⟩) ?_
  refine WalkC.nil ?_
  intro r115 w116 hF118
  obtain ⟨wx99, wx114, key106, c107, sp108, e6, e8, hS109, hwx99, hwx114, H117⟩ := hF118
  dsimp only
  rw [e6, e8]
  subst hwx114
  subst hwx99
  refine wnil ?_
  refine thenNormal ?_
  refine retAny ?_
  refine retG (rs := [.tmp 6]) (vs := [i64 ((caW n (((leS n gs ra rb i).1) ++ [(⟨(3 : Int), (rb).getD 63 0, (0 : Int)⟩ : Gt)])))]) rfl ⟨⟨rfl, rfl⟩, trivial⟩ ?_
  have e119 : caG n (((leS n gs ra rb i).1) ++ [(⟨(3 : Int), (rb).getD 63 0, (0 : Int)⟩ : Gt)]) ((ra).getD 63 0) (wrW n ((leS n gs ra rb i).1)) ((leS n gs ra rb i).2) = (leG n gs ra rb).1 := by rw [leG_eq hie]
  have hS120 := hS109
  rw [e119] at hS120
  have H121 : Hp No w₀ w116 ((some b, .cells #[i64 (n : Nat), .slice (ownA key106) (List.length ((leG n gs ra rb).1)) c107, .slice none 0 0] 151 (0, 0)) :: (key106, sob EG 99 ((leG n gs ra rb).1) sp108) :: (some b1, .cells (cel EI ra).toArray 153 (0, 0)) :: (some b5, .cells (cel EI rb).toArray 153 (0, 0)) :: R) := by rw [← e119]; exact H117
  exact ⟨_, rfl, congrArg i64 (by rw [leG_eq hie]), key106, c107, sp108, hS120, ((H121.dropk 3).dropk 2)⟩
end Go.Proofs.YteofdmdpaejgaaaDoor.Cm
namespace Go.Proofs.YteofdmdpaejgaaaDoor.Cm
open Go Go.Proofs.YteofdmdpaejgaaaDoor.Vc Go.Proofs.YteofdmdpaejgaaaDoor.Er Go.Proofs.YteofdmdpaejgaaaDoor.Circ
set_option linter.unusedVariables false
set_option maxHeartbeats 1000000 in
theorem mpick_ok (b n : Nat) (key : Option Nat) (c : Nat) (sp : List Value) (gs : List Gt) (hSw : Sl EG key gs c sp) (hn : n ≤ 1000) (hlen : gs.length ≤ 3000) (ws : Int) (ra rb : List Int) (hra : ra.length = 64) (hrb : rb.length = 64) (R : List (Option Nat × Obj)) (w₀ w : World) (H : Hp No w₀ w ((some b, .cells #[i64 (n : Nat), .slice (ownA key) (List.length gs) c, .slice none 0 0] 151 (0, 0)) :: (key, sob EG 99 gs sp) :: R)) : Calls Tryd.prog 78 [pT b, i64 ws, .agg (cel EI ra).toArray, .agg (cel EI rb).toArray].toArray w (Ret fun v w' => v = .agg (cel EI ((piS n gs ws ra rb 64).2)).toArray ∧ ∃ (key' : Option Nat) (c' : Nat) (sp' : List Value), Sl EG key' ((piS n gs ws ra rb 64).1) c' sp' ∧ Hp No w₀ w' ((some b, .cells #[i64 (n : Nat), .slice (ownA key') (List.length ((piS n gs ws ra rb 64).1)) c', .slice none 0 0] 151 (0, 0)) :: (key', sob EG 99 ((piS n gs ws ra rb 64).1) sp') :: R)) := by
 skip
 refine enter (n := 34) Tryd.func78 rfl rfl (bLe rfl) ?_
 refine sR ?_
 refine q_box (v := .agg (cel EI ra).toArray) (o := .cells (cel EI ra).toArray 153 (0, 0)) H rfl (by rfl) ?_
 intro b1 w2 hb1 H3 hE4
 refine q_box (v := .agg (cel EI rb).toArray) (o := .cells (cel EI rb).toArray 153 (0, 0)) H3 rfl (by rfl) ?_
 intro b5 w6 hb5 H7 hE8
 refine q_alloc (o := .cells (cel EI (List.replicate 64 0)).toArray 153 (0, 0)) H7 zer153 (by kernel_rfl) ?_
 intro b9 w10 hb9 H11 hE12
 refine wend ?_
 refine sR ?_
 refine q_alloc (o := .cells (cel EI (List.replicate 64 0)).toArray 153 (0, 0)) H11 zer153 (by kernel_rfl) ?_
 intro b13 w14 hb13 H15 hE16
 refine wend ?_
 refine seqAny ?_
 refine sR ?_
 refine sM (i64 ((0 : Int))) rfl ?_
 refine wend ?_
 refine blockAny ?_
 refine loopAny (σ := Nat × Option Nat × Nat × List Value) (fun (i, kz, cz, sz) => [(0, pT b), (1, i64 (ws)), (6, pT b1), (7, pT b5), (8, pT b9), (9, pT b13), (11, i64 (i : Nat))]) (fun (i, kz, cz, sz) w' => (i ≤ 64 ∧ Sl EG kz ((piS n gs ws ra rb i).1) cz sz) ∧ Hp No w₀ w' ((some b, .cells #[i64 (n : Nat), .slice (ownA kz) (List.length ((piS n gs ws ra rb i).1)) cz, .slice none 0 0] 151 (0, 0)) :: (kz, sob EG 99 ((piS n gs ws ra rb i).1) sz) :: (some b13, .cells (cel EI (padW ((piS n gs ws ra rb i).2))).toArray 153 (0, 0)) :: (some b1, .cells (cel EI ra).toArray 153 (0, 0)) :: (some b5, .cells (cel EI rb).toArray 153 (0, 0)) :: (some b9, .cells (cel EI (List.replicate 64 0)).toArray 153 (0, 0)) :: R)) (fun (i, kz, cz, sz) => 64 - i) ((0, key, c, sp)) ?_ ?_ ?_
 ·exact ⟨rfl, rfl, rfl, rfl, rfl, rfl, rfl, trivial⟩
 ·exact ⟨⟨by omega, hSw⟩, (H15.pick 6 [4, 5, 0, 3, 2, 1] (by decide) (by decide))⟩
 rintro ⟨i, kz, cz, sz⟩ ρ w17 ⟨⟨hq, hSz⟩, HL⟩
 have hpi := piS_len n gs ws ra rb i
 have hpl : (padW (piS n gs ws ra rb i).2).length = 64 := padW_len (by rw [hpi.2]; exact hq)
 refine sR ?_
 refine sq (r_lssI (a := (i : Nat)) (b := (64 : Int)) rfl rfl) ?_
 refine wend ?_
 refine seqAny ?_
 refine condProp (((i : Nat) : Int) < (64 : Int)) rfl (fun c12 => ?_) (fun c12 => ?_)
 ·skip
  refine skipAny ?_
  refine thenNormal ?_
  refine seqAny ?_
  refine blockAny ?_
  refine sR ?_
  refine sM (i64 (i : Nat)) rfl ?_
  refine sA (i64 (i : Nat)) rfl ?_
  refine wend ?_
  refine drawC (m := 19) [0, 0, 0, 4, 12, 0, 0, 0, 0, 256, 768, 0, 2048, 6144, 16256, 32736, 65534, 131071, 262143] [14, 15, 16, 18] (fun q vs w' => match q, vs with | 0, [] => Hp No w₀ w' ((some b, .cells #[i64 (n : Nat), .slice (ownA kz) (List.length ((piS n gs ws ra rb i).1)) cz, .slice none 0 0] 151 (0, 0)) :: (kz, sob EG 99 ((piS n gs ws ra rb i).1) sz) :: (some b13, .cells (cel EI (padW ((piS n gs ws ra rb i).2))).toArray 153 (0, 0)) :: (some b1, .cells (cel EI ra).toArray 153 (0, 0)) :: (some b5, .cells (cel EI rb).toArray 153 (0, 0)) :: (some b9, .cells (cel EI (List.replicate 64 0)).toArray 153 (0, 0)) :: R) | 1, [v0] => ∃ (wx33 : Int) (key25 : Option Nat) (c26 : Nat) (sp27 : List Value), v0 = i64 (wx33) ∧ Sl EG key25 (((piS n gs ws ra rb i).1) ++ [(⟨(1 : Int), (ra).getD i 0, (rb).getD i 0⟩ : Gt)]) c26 sp27 ∧ wx33 = wrW n ((piS n gs ws ra rb i).1) ∧ Hp No w₀ w' ((some b, .cells #[i64 (n : Nat), .slice (ownA key25) (List.length (((piS n gs ws ra rb i).1) ++ [(⟨(1 : Int), (ra).getD i 0, (rb).getD i 0⟩ : Gt)])) c26, .slice none 0 0] 151 (0, 0)) :: (key25, sob EG 99 (((piS n gs ws ra rb i).1) ++ [(⟨(1 : Int), (ra).getD i 0, (rb).getD i 0⟩ : Gt)]) sp27) :: (some b13, .cells (cel EI (padW ((piS n gs ws ra rb i).2))).toArray 153 (0, 0)) :: (some b1, .cells (cel EI ra).toArray 153 (0, 0)) :: (some b5, .cells (cel EI rb).toArray 153 (0, 0)) :: (some b9, .cells (cel EI (List.replicate 64 0)).toArray 153 (0, 0)) :: R) | 2, [v0, v1] => ∃ (wx33 : Int) (wx48 : Int) (key40 : Option Nat) (c41 : Nat) (sp42 : List Value), v0 = i64 (wx33) ∧ v1 = i64 (wx48) ∧ Sl EG key40 (((piS n gs ws ra rb i).1) ++ [(⟨(1 : Int), (ra).getD i 0, (rb).getD i 0⟩ : Gt)] ++ [(⟨(2 : Int), ws, wx33⟩ : Gt)]) c41 sp42 ∧ wx33 = wrW n ((piS n gs ws ra rb i).1) ∧ wx48 = wrW n (((piS n gs ws ra rb i).1) ++ [(⟨(1 : Int), (ra).getD i 0, (rb).getD i 0⟩ : Gt)]) ∧ Hp No w₀ w' ((some b, .cells #[i64 (n : Nat), .slice (ownA key40) (List.length (((piS n gs ws ra rb i).1) ++ [(⟨(1 : Int), (ra).getD i 0, (rb).getD i 0⟩ : Gt)] ++ [(⟨(2 : Int), ws, wx33⟩ : Gt)])) c41, .slice none 0 0] 151 (0, 0)) :: (key40, sob EG 99 (((piS n gs ws ra rb i).1) ++ [(⟨(1 : Int), (ra).getD i 0, (rb).getD i 0⟩ : Gt)] ++ [(⟨(2 : Int), ws, wx33⟩ : Gt)]) sp42) :: (some b13, .cells (cel EI (padW ((piS n gs ws ra rb i).2))).toArray 153 (0, 0)) :: (some b1, .cells (cel EI ra).toArray 153 (0, 0)) :: (some b5, .cells (cel EI rb).toArray 153 (0, 0)) :: (some b9, .cells (cel EI (List.replicate 64 0)).toArray 153 (0, 0)) :: R) | 3, [v0, v1, v2] => ∃ (wx33 : Int) (wx48 : Int) (wx63 : Int) (key55 : Option Nat) (c56 : Nat) (sp57 : List Value), v0 = i64 (wx33) ∧ v1 = i64 (wx48) ∧ v2 = i64 (wx63) ∧ Sl EG key55 (((piS n gs ws ra rb i).1) ++ [(⟨(1 : Int), (ra).getD i 0, (rb).getD i 0⟩ : Gt)] ++ [(⟨(2 : Int), ws, wx33⟩ : Gt)] ++ [(⟨(1 : Int), (rb).getD i 0, wx48⟩ : Gt)]) c56 sp57 ∧ wx33 = wrW n ((piS n gs ws ra rb i).1) ∧ wx48 = wrW n (((piS n gs ws ra rb i).1) ++ [(⟨(1 : Int), (ra).getD i 0, (rb).getD i 0⟩ : Gt)]) ∧ wx63 = wrW n (((piS n gs ws ra rb i).1) ++ [(⟨(1 : Int), (ra).getD i 0, (rb).getD i 0⟩ : Gt)] ++ [(⟨(2 : Int), ws, wx33⟩ : Gt)]) ∧ Hp No w₀ w' ((some b, .cells #[i64 (n : Nat), .slice (ownA key55) (List.length (((piS n gs ws ra rb i).1) ++ [(⟨(1 : Int), (ra).getD i 0, (rb).getD i 0⟩ : Gt)] ++ [(⟨(2 : Int), ws, wx33⟩ : Gt)] ++ [(⟨(1 : Int), (rb).getD i 0, wx48⟩ : Gt)])) c56, .slice none 0 0] 151 (0, 0)) :: (key55, sob EG 99 (((piS n gs ws ra rb i).1) ++ [(⟨(1 : Int), (ra).getD i 0, (rb).getD i 0⟩ : Gt)] ++ [(⟨(2 : Int), ws, wx33⟩ : Gt)] ++ [(⟨(1 : Int), (rb).getD i 0, wx48⟩ : Gt)]) sp57) :: (some b13, .cells (cel EI (padW ((piS n gs ws ra rb i).2))).toArray 153 (0, 0)) :: (some b1, .cells (cel EI ra).toArray 153 (0, 0)) :: (some b5, .cells (cel EI rb).toArray 153 (0, 0)) :: (some b9, .cells (cel EI (List.replicate 64 0)).toArray 153 (0, 0)) :: R) | 4, [v0, v1, v2, _] => ∃ (wx33 : Int) (wx48 : Int) (wx63 : Int) (key55 : Option Nat) (c56 : Nat) (sp57 : List Value), v0 = i64 (wx33) ∧ v1 = i64 (wx48) ∧ v2 = i64 (wx63) ∧ True ∧ Sl EG key55 (((piS n gs ws ra rb i).1) ++ [(⟨(1 : Int), (ra).getD i 0, (rb).getD i 0⟩ : Gt)] ++ [(⟨(2 : Int), ws, wx33⟩ : Gt)] ++ [(⟨(1 : Int), (rb).getD i 0, wx48⟩ : Gt)]) c56 sp57 ∧ wx33 = wrW n ((piS n gs ws ra rb i).1) ∧ wx48 = wrW n (((piS n gs ws ra rb i).1) ++ [(⟨(1 : Int), (ra).getD i 0, (rb).getD i 0⟩ : Gt)]) ∧ wx63 = wrW n (((piS n gs ws ra rb i).1) ++ [(⟨(1 : Int), (ra).getD i 0, (rb).getD i 0⟩ : Gt)] ++ [(⟨(2 : Int), ws, wx33⟩ : Gt)]) ∧ Hp No w₀ w' ((some b, .cells #[i64 (n : Nat), .slice (ownA key55) (List.length (((piS n gs ws ra rb i).1) ++ [(⟨(1 : Int), (ra).getD i 0, (rb).getD i 0⟩ : Gt)] ++ [(⟨(2 : Int), ws, wx33⟩ : Gt)] ++ [(⟨(1 : Int), (rb).getD i 0, wx48⟩ : Gt)])) c56, .slice none 0 0] 151 (0, 0)) :: (key55, sob EG 99 (((piS n gs ws ra rb i).1) ++ [(⟨(1 : Int), (ra).getD i 0, (rb).getD i 0⟩ : Gt)] ++ [(⟨(2 : Int), ws, wx33⟩ : Gt)] ++ [(⟨(1 : Int), (rb).getD i 0, wx48⟩ : Gt)]) sp57) :: (some b13, .cells (cel EI ((padW ((piS n gs ws ra rb i).2)).set i wx63)).toArray 153 (0, 0)) :: (some b1, .cells (cel EI ra).toArray 153 (0, 0)) :: (some b5, .cells (cel EI rb).toArray 153 (0, 0)) :: (some b9, .cells (cel EI (List.replicate 64 0)).toArray 153 (0, 0)) :: R) | _, _ => False) mixed (by kernel_rfl) (by kernel_rfl) HL.drew ?_
  refine WalkC.look rfl (fun _ => i64 (i : Nat)) (fun _ _ _ => rfl) (fun q r uw _ _ _ _ => Gives.run rfl (r_move (v := i64 (i : Nat)) rfl) ⟨rfl, rfl⟩) ?_
  refine WalkC.look rfl (fun _ => pT b) (fun _ _ _ => rfl) (fun q r uw _ _ _ _ => Gives.run rfl (r_move (v := pT b) rfl) ⟨rfl, rfl⟩) ?_
  refine WalkC.look rfl (fun _ => i64 (i : Nat)) (fun _ _ _ => rfl) (fun q r uw _ _ _ _ => Gives.run rfl (r_move (v := i64 (i : Nat)) rfl) ⟨rfl, rfl⟩) ?_
  refine WalkC.look rfl (fun _ => .pointer (some ⟨b5, i, none⟩)) (fun _ _ _ => rfl) (fun q r uw _ _ _ _ => Gives.run rfl (r_indexA (off' := i) (j := i) arr153 (b := b5) (off := 0) rfl rfl (by first | rfl | omega | (simp; omega)) (by omega) (by omega)) ⟨rfl, rfl⟩) ?_
  refine WalkC.look rfl (fun _ => i64 ((rb).getD i 0)) (fun _ _ _ => rfl) (fun q r uw hlo hhi hle hF => ?_) ?_
  ·skip
   have h1 : 0 ≤ q := Nat.zero_le _
   have h2 : q ≤ 2 := hhi 2 16 rfl rfl
   rcases (show q = 0 ∨ q = 1 ∨ q = 2 by omega) with rfl | rfl | rfl
   ·skip
    have HH := hF
    exact Gives.run rfl (r_ld1 (E := EI) (l := rb) (j := i) (a := (rb).getD i 0) fits3 (HH.get (k := 4) rfl) (at_getD (by first | omega | (simp only [List.length_set]; omega) | exact bLe rfl | (simp <;> omega))) rfl rfl) ⟨rfl, rfl⟩
   ·skip
    obtain ⟨wx33, key25, c26, sp27, e14, hS28, hwx33, HH⟩ := hF
    exact Gives.run rfl (r_ld1 (E := EI) (l := rb) (j := i) (a := (rb).getD i 0) fits3 (HH.get (k := 4) rfl) (at_getD (by first | omega | (simp only [List.length_set]; omega) | exact bLe rfl | (simp <;> omega))) rfl rfl) ⟨rfl, rfl⟩
   ·skip
    obtain ⟨wx33, wx48, key40, c41, sp42, e14, e15, hS43, hwx33, hwx48, HH⟩ := hF
    exact Gives.run rfl (r_ld1 (E := EI) (l := rb) (j := i) (a := (rb).getD i 0) fits3 (HH.get (k := 4) rfl) (at_getD (by first | omega | (simp only [List.length_set]; omega) | exact bLe rfl | (simp <;> omega))) rfl rfl) ⟨rfl, rfl⟩
  refine WalkC.look rfl (fun _ => pT b) (fun _ _ _ => rfl) (fun q r uw _ _ _ _ => Gives.run rfl (r_move (v := pT b) rfl) ⟨rfl, rfl⟩) ?_
  refine WalkC.look rfl (fun _ => i64 (ws)) (fun _ _ _ => rfl) (fun q r uw _ _ _ _ => Gives.run rfl (r_move (v := i64 (ws)) rfl) ⟨rfl, rfl⟩) ?_
  refine WalkC.look rfl (fun _ => pT b) (fun _ _ _ => rfl) (fun q r uw _ _ _ _ => Gives.run rfl (r_move (v := pT b) rfl) ⟨rfl, rfl⟩) ?_
  refine WalkC.look rfl (fun _ => i64 (i : Nat)) (fun _ _ _ => rfl) (fun q r uw _ _ _ _ => Gives.run rfl (r_move (v := i64 (i : Nat)) rfl) ⟨rfl, rfl⟩) ?_
  refine WalkC.look rfl (fun _ => .pointer (some ⟨b1, i, none⟩)) (fun _ _ _ => rfl) (fun q r uw _ _ _ _ => Gives.run rfl (r_indexA (off' := i) (j := i) arr153 (b := b1) (off := 0) rfl rfl (by first | rfl | omega | (simp; omega)) (by omega) (by omega)) ⟨rfl, rfl⟩) ?_
  refine WalkC.look rfl (fun _ => i64 ((ra).getD i 0)) (fun _ _ _ => rfl) (fun q r uw hlo hhi hle hF => ?_) ?_
  ·skip
   have h1 : 0 ≤ q := Nat.zero_le _
   have h2 : q ≤ 0 := hhi 0 14 rfl rfl
   rcases (show q = 0 by omega) with rfl
   ·skip
    have HH := hF
    exact Gives.run rfl (r_ld1 (E := EI) (l := ra) (j := i) (a := (ra).getD i 0) fits3 (HH.get (k := 3) rfl) (at_getD (by first | omega | (simp only [List.length_set]; omega) | exact bLe rfl | (simp <;> omega))) rfl rfl) ⟨rfl, rfl⟩
  refine WalkC.look rfl (fun _ => i64 (i : Nat)) (fun _ _ _ => rfl) (fun q r uw _ _ _ _ => Gives.run rfl (r_move (v := i64 (i : Nat)) rfl) ⟨rfl, rfl⟩) ?_
  refine WalkC.look rfl (fun _ => .pointer (some ⟨b5, i, none⟩)) (fun _ _ _ => rfl) (fun q r uw _ _ _ _ => Gives.run rfl (r_indexA (off' := i) (j := i) arr153 (b := b5) (off := 0) rfl rfl (by first | rfl | omega | (simp; omega)) (by omega) (by omega)) ⟨rfl, rfl⟩) ?_
  refine WalkC.look rfl (fun _ => i64 ((rb).getD i 0)) (fun _ _ _ => rfl) (fun q r uw hlo hhi hle hF => ?_) ?_
  ·skip
   have h1 : 0 ≤ q := Nat.zero_le _
   have h2 : q ≤ 0 := hhi 0 14 rfl rfl
   rcases (show q = 0 by omega) with rfl
   ·skip
    have HH := hF
    exact Gives.run rfl (r_ld1 (E := EI) (l := rb) (j := i) (a := (rb).getD i 0) fits3 (HH.get (k := 4) rfl) (at_getD (by first | omega | (simp only [List.length_set]; omega) | exact bLe rfl | (simp <;> omega))) rfl rfl) ⟨rfl, rfl⟩
  refine WalkC.eff 0 rfl (fun r uw19 hF21 => ?_) ?_
  ·skip
   have H20 := hF21
   dsimp only [List.take, List.map, List.cons_append, List.nil_append]
   refine Gives.ofW (d := 28) rfl rfl (fun Q' hK => ?_)
   have H22 := (H20).as (L' := ((some b, .cells #[i64 (n : Nat), .slice (ownA kz) (List.length ((piS n gs ws ra rb i).1)) cz, .slice none 0 0] 151 (0, 0)) :: (kz, sob EG 99 ((piS n gs ws ra rb i).1) sz) :: ((some b13, .cells (cel EI (padW ((piS n gs ws ra rb i).2))).toArray 153 (0, 0)) :: (some b1, .cells (cel EI ra).toArray 153 (0, 0)) :: (some b5, .cells (cel EI rb).toArray 153 (0, 0)) :: (some b9, .cells (cel EI (List.replicate 64 0)).toArray 153 (0, 0)) :: R))) rfl
   refine c_call (vs := [pT b, i64 ((1 : Int)), i64 ((ra).getD i 0), i64 ((rb).getD i 0)]) call76 rfl (gate_ok b n kz cz sz ((piS n gs ws ra rb i).1) hSz hn (by omega) (1 : Int) ((ra).getD i 0) ((rb).getD i 0) ((some b13, .cells (cel EI (padW ((piS n gs ws ra rb i).2))).toArray 153 (0, 0)) :: (some b1, .cells (cel EI ra).toArray 153 (0, 0)) :: (some b5, .cells (cel EI rb).toArray 153 (0, 0)) :: (some b9, .cells (cel EI (List.replicate 64 0)).toArray 153 (0, 0)) :: R) w₀ uw19 H22) ?_
   rintro wv31 w23 ⟨hwv32, key25, c26, sp27, hS28, HN29⟩
   obtain ⟨wx33, hwx33⟩ : ∃ q, q = wrW n ((piS n gs ws ra rb i).1) := ⟨_, rfl⟩
   rw [← hwx33] at hwv32
   subst hwv32
   have H30 := HN29.as (L' := ((some b, .cells #[i64 (n : Nat), .slice (ownA key25) (List.length (((piS n gs ws ra rb i).1) ++ [(⟨(1 : Int), (ra).getD i 0, (rb).getD i 0⟩ : Gt)])) c26, .slice none 0 0] 151 (0, 0)) :: (key25, sob EG 99 (((piS n gs ws ra rb i).1) ++ [(⟨(1 : Int), (ra).getD i 0, (rb).getD i 0⟩ : Gt)]) sp27) :: (some b13, .cells (cel EI (padW ((piS n gs ws ra rb i).2))).toArray 153 (0, 0)) :: (some b1, .cells (cel EI ra).toArray 153 (0, 0)) :: (some b5, .cells (cel EI rb).toArray 153 (0, 0)) :: (some b9, .cells (cel EI (List.replicate 64 0)).toArray 153 (0, 0)) :: R)) rfl
   exact hK _ _ ⟨wx33, key25, c26, sp27, rfl, hS28, hwx33, H30⟩
  refine WalkC.eff 1 rfl (fun r uw34 hF36 => ?_) ?_
  ·skip
   obtain ⟨wx33, key25, c26, sp27, e14, hS28, hwx33, H35⟩ := hF36
   dsimp only [List.take, List.map, List.cons_append, List.nil_append]
   rw [e14]
   refine Gives.ofW (d := 29) rfl rfl (fun Q' hK => ?_)
   have H37 := (H35).as (L' := ((some b, .cells #[i64 (n : Nat), .slice (ownA key25) (List.length (((piS n gs ws ra rb i).1) ++ [(⟨(1 : Int), (ra).getD i 0, (rb).getD i 0⟩ : Gt)])) c26, .slice none 0 0] 151 (0, 0)) :: (key25, sob EG 99 (((piS n gs ws ra rb i).1) ++ [(⟨(1 : Int), (ra).getD i 0, (rb).getD i 0⟩ : Gt)]) sp27) :: ((some b13, .cells (cel EI (padW ((piS n gs ws ra rb i).2))).toArray 153 (0, 0)) :: (some b1, .cells (cel EI ra).toArray 153 (0, 0)) :: (some b5, .cells (cel EI rb).toArray 153 (0, 0)) :: (some b9, .cells (cel EI (List.replicate 64 0)).toArray 153 (0, 0)) :: R))) rfl
   refine c_call (vs := [pT b, i64 ((2 : Int)), i64 (ws), i64 (wx33)]) call76 rfl (gate_ok b n key25 c26 sp27 (((piS n gs ws ra rb i).1) ++ [(⟨(1 : Int), (ra).getD i 0, (rb).getD i 0⟩ : Gt)]) hS28 hn (by simp only [List.length_append, List.length_cons, List.length_nil]; omega) (2 : Int) ws wx33 ((some b13, .cells (cel EI (padW ((piS n gs ws ra rb i).2))).toArray 153 (0, 0)) :: (some b1, .cells (cel EI ra).toArray 153 (0, 0)) :: (some b5, .cells (cel EI rb).toArray 153 (0, 0)) :: (some b9, .cells (cel EI (List.replicate 64 0)).toArray 153 (0, 0)) :: R) w₀ uw34 H37) ?_
   rintro wv46 w38 ⟨hwv47, key40, c41, sp42, hS43, HN44⟩
   obtain ⟨wx48, hwx48⟩ : ∃ q, q = wrW n (((piS n gs ws ra rb i).1) ++ [(⟨(1 : Int), (ra).getD i 0, (rb).getD i 0⟩ : Gt)]) := ⟨_, rfl⟩
   rw [← hwx48] at hwv47
   subst hwv47
   have H45 := HN44.as (L' := ((some b, .cells #[i64 (n : Nat), .slice (ownA key40) (List.length (((piS n gs ws ra rb i).1) ++ [(⟨(1 : Int), (ra).getD i 0, (rb).getD i 0⟩ : Gt)] ++ [(⟨(2 : Int), ws, wx33⟩ : Gt)])) c41, .slice none 0 0] 151 (0, 0)) :: (key40, sob EG 99 (((piS n gs ws ra rb i).1) ++ [(⟨(1 : Int), (ra).getD i 0, (rb).getD i 0⟩ : Gt)] ++ [(⟨(2 : Int), ws, wx33⟩ : Gt)]) sp42) :: (some b13, .cells (cel EI (padW ((piS n gs ws ra rb i).2))).toArray 153 (0, 0)) :: (some b1, .cells (cel EI ra).toArray 153 (0, 0)) :: (some b5, .cells (cel EI rb).toArray 153 (0, 0)) :: (some b9, .cells (cel EI (List.replicate 64 0)).toArray 153 (0, 0)) :: R)) rfl
   exact hK _ _ ⟨wx33, wx48, key40, c41, sp42, rfl, rfl, hS43, hwx33, hwx48, H45⟩
  refine WalkC.eff 2 rfl (fun r uw49 hF51 => ?_) ?_
  ·skip
   obtain ⟨wx33, wx48, key40, c41, sp42, e14, e15, hS43, hwx33, hwx48, H50⟩ := hF51
   dsimp only [List.take, List.map, List.cons_append, List.nil_append]
   rw [e14, e15]
   refine Gives.ofW (d := 30) rfl rfl (fun Q' hK => ?_)
   have H52 := (H50).as (L' := ((some b, .cells #[i64 (n : Nat), .slice (ownA key40) (List.length (((piS n gs ws ra rb i).1) ++ [(⟨(1 : Int), (ra).getD i 0, (rb).getD i 0⟩ : Gt)] ++ [(⟨(2 : Int), ws, wx33⟩ : Gt)])) c41, .slice none 0 0] 151 (0, 0)) :: (key40, sob EG 99 (((piS n gs ws ra rb i).1) ++ [(⟨(1 : Int), (ra).getD i 0, (rb).getD i 0⟩ : Gt)] ++ [(⟨(2 : Int), ws, wx33⟩ : Gt)]) sp42) :: ((some b13, .cells (cel EI (padW ((piS n gs ws ra rb i).2))).toArray 153 (0, 0)) :: (some b1, .cells (cel EI ra).toArray 153 (0, 0)) :: (some b5, .cells (cel EI rb).toArray 153 (0, 0)) :: (some b9, .cells (cel EI (List.replicate 64 0)).toArray 153 (0, 0)) :: R))) rfl
   refine c_call (vs := [pT b, i64 ((1 : Int)), i64 ((rb).getD i 0), i64 (wx48)]) call76 rfl (gate_ok b n key40 c41 sp42 (((piS n gs ws ra rb i).1) ++ [(⟨(1 : Int), (ra).getD i 0, (rb).getD i 0⟩ : Gt)] ++ [(⟨(2 : Int), ws, wx33⟩ : Gt)]) hS43 hn (by simp only [List.length_append, List.length_cons, List.length_nil]; omega) (1 : Int) ((rb).getD i 0) wx48 ((some b13, .cells (cel EI (padW ((piS n gs ws ra rb i).2))).toArray 153 (0, 0)) :: (some b1, .cells (cel EI ra).toArray 153 (0, 0)) :: (some b5, .cells (cel EI rb).toArray 153 (0, 0)) :: (some b9, .cells (cel EI (List.replicate 64 0)).toArray 153 (0, 0)) :: R) w₀ uw49 H52) ?_
   rintro wv61 w53 ⟨hwv62, key55, c56, sp57, hS58, HN59⟩
   obtain ⟨wx63, hwx63⟩ : ∃ q, q = wrW n (((piS n gs ws ra rb i).1) ++ [(⟨(1 : Int), (ra).getD i 0, (rb).getD i 0⟩ : Gt)] ++ [(⟨(2 : Int), ws, wx33⟩ : Gt)]) := ⟨_, rfl⟩
   rw [← hwx63] at hwv62
   subst hwv62
   have H60 := HN59.as (L' := ((some b, .cells #[i64 (n : Nat), .slice (ownA key55) (List.length (((piS n gs ws ra rb i).1) ++ [(⟨(1 : Int), (ra).getD i 0, (rb).getD i 0⟩ : Gt)] ++ [(⟨(2 : Int), ws, wx33⟩ : Gt)] ++ [(⟨(1 : Int), (rb).getD i 0, wx48⟩ : Gt)])) c56, .slice none 0 0] 151 (0, 0)) :: (key55, sob EG 99 (((piS n gs ws ra rb i).1) ++ [(⟨(1 : Int), (ra).getD i 0, (rb).getD i 0⟩ : Gt)] ++ [(⟨(2 : Int), ws, wx33⟩ : Gt)] ++ [(⟨(1 : Int), (rb).getD i 0, wx48⟩ : Gt)]) sp57) :: (some b13, .cells (cel EI (padW ((piS n gs ws ra rb i).2))).toArray 153 (0, 0)) :: (some b1, .cells (cel EI ra).toArray 153 (0, 0)) :: (some b5, .cells (cel EI rb).toArray 153 (0, 0)) :: (some b9, .cells (cel EI (List.replicate 64 0)).toArray 153 (0, 0)) :: R)) rfl
   exact hK _ _ ⟨wx33, wx48, wx63, key55, c56, sp57, rfl, rfl, rfl, hS58, hwx33, hwx48, hwx63, H60⟩
  refine WalkC.look rfl (fun _ => .pointer (some ⟨b13, i, none⟩)) (fun _ _ _ => rfl) (fun q r uw _ _ _ _ => Gives.run rfl (r_indexA (off' := i) (j := i) arr153 (b := b13) (off := 0) rfl rfl (by first | rfl | omega | (simp; omega)) (by omega) (by omega)) ⟨rfl, rfl⟩) ?_
  refine WalkC.eff 3 rfl (fun r uw64 hF66 => ?_) ?_
  ·skip
   obtain ⟨wx33, wx48, wx63, key55, c56, sp57, e14, e15, e16, hS58, hwx33, hwx48, hwx63, H65⟩ := hF66
   dsimp only [List.take, List.map, List.cons_append, List.nil_append]
   rw [e14, e15, e16]
   refine Gives.ofW0 rfl (fun Q' hK => ?_)
   refine d_store (k := 2) (v := i64 (wx63)) (cs' := (cel EI ((padW ((piS n gs ws ra rb i).2)).set i wx63)).toArray) H65 rfl rfl rfl siz3 (by rfl) (by exact EI.one _) (by rw [List.size_toArray, cel_length]; show _ ≤ _ * 1; first | omega | (simp only [List.length_set]; omega) | exact bLe rfl | (simp <;> omega)) (by exact put1 (E := EI) rfl _ _ _) ?_
   intro w67 H68 hC69
   have H68' := H68.as (L' := ((some b, .cells #[i64 (n : Nat), .slice (ownA key55) (List.length (((piS n gs ws ra rb i).1) ++ [(⟨(1 : Int), (ra).getD i 0, (rb).getD i 0⟩ : Gt)] ++ [(⟨(2 : Int), ws, wx33⟩ : Gt)] ++ [(⟨(1 : Int), (rb).getD i 0, wx48⟩ : Gt)])) c56, .slice none 0 0] 151 (0, 0)) :: (key55, sob EG 99 (((piS n gs ws ra rb i).1) ++ [(⟨(1 : Int), (ra).getD i 0, (rb).getD i 0⟩ : Gt)] ++ [(⟨(2 : Int), ws, wx33⟩ : Gt)] ++ [(⟨(1 : Int), (rb).getD i 0, wx48⟩ : Gt)]) sp57) :: (some b13, .cells (cel EI ((padW ((piS n gs ws ra rb i).2)).set i wx63)).toArray 153 (0, 0)) :: (some b1, .cells (cel EI ra).toArray 153 (0, 0)) :: (some b5, .cells (cel EI rb).toArray 153 (0, 0)) :: (some b9, .cells (cel EI (List.replicate 64 0)).toArray 153 (0, 0)) :: R)) rfl
   clear H68
   exact hK _ (fun _ => ⟨wx33, wx48, wx63, key55, c56, sp57, rfl, rfl, rfl, trivial, hS58, hwx33, hwx48, hwx63, H68'⟩)
  refine WalkC.nil ?_
  intro r70 w71 hF73
  obtain ⟨wx33, wx48, wx63, key55, c56, sp57, e14, e15, e16, e18, hS58, hwx33, hwx48, hwx63, H72⟩ := hF73
  dsimp only
  rw [e14, e15, e16]
  subst hwx63
  subst hwx48
  subst hwx33
  have e74 : ((piS n gs ws ra rb i).1) ++ [(⟨(1 : Int), (ra).getD i 0, (rb).getD i 0⟩ : Gt)] ++ [(⟨(2 : Int), ws, (wrW n ((piS n gs ws ra rb i).1))⟩ : Gt)] ++ [(⟨(1 : Int), (rb).getD i 0, (wrW n (((piS n gs ws ra rb i).1) ++ [(⟨(1 : Int), (ra).getD i 0, (rb).getD i 0⟩ : Gt)]))⟩ : Gt)] = (piS n gs ws ra rb (i + 1)).1 := by rfl
  have hS75 := hS58
  rw [e74] at hS75
  have H76 : Hp No w₀ w71 ((some b, .cells #[i64 (n : Nat), .slice (ownA key55) (List.length ((piS n gs ws ra rb (i + 1)).1)) c56, .slice none 0 0] 151 (0, 0)) :: (key55, sob EG 99 ((piS n gs ws ra rb (i + 1)).1) sp57) :: (some b13, .cells (cel EI ((padW ((piS n gs ws ra rb i).2)).set i (wrW n (((piS n gs ws ra rb i).1) ++ [(⟨(1 : Int), (ra).getD i 0, (rb).getD i 0⟩ : Gt)] ++ [(⟨(2 : Int), ws, (wrW n ((piS n gs ws ra rb i).1))⟩ : Gt)])))).toArray 153 (0, 0)) :: (some b1, .cells (cel EI ra).toArray 153 (0, 0)) :: (some b5, .cells (cel EI rb).toArray 153 (0, 0)) :: (some b9, .cells (cel EI (List.replicate 64 0)).toArray 153 (0, 0)) :: R) := by rw [← e74]; exact H72
  rw [padW_set (l := (piS n gs ws ra rb i).2) _ hpi.2 (by omega)] at H76
  have H77 := H76.as (L' := ((some b, .cells #[i64 (n : Nat), .slice (ownA key55) (List.length ((piS n gs ws ra rb (i + 1)).1)) c56, .slice none 0 0] 151 (0, 0)) :: (key55, sob EG 99 ((piS n gs ws ra rb (i + 1)).1) sp57) :: (some b13, .cells (cel EI (padW ((piS n gs ws ra rb (i + 1)).2))).toArray 153 (0, 0)) :: (some b1, .cells (cel EI ra).toArray 153 (0, 0)) :: (some b5, .cells (cel EI rb).toArray 153 (0, 0)) :: (some b9, .cells (cel EI (List.replicate 64 0)).toArray 153 (0, 0)) :: R)) rfl
  refine wnil ?_
  refine blockNormal ?_
  refine thenNormal ?_
  refine oneRegion ?_
  refine sq (r_addI (a := (i : Nat)) (b := (1 : Int)) rfl rfl (by omega)) ?_
  refine sM (i64 ((i : Nat) + (1 : Int))) rfl ?_
  refine wnil ?_
  refine thenNormal ?_
  exact ⟨(i + 1, key55, c56, sp57), _, rfl, ⟨rfl, rfl, rfl, rfl, rfl, rfl, rfl, trivial⟩, ⟨⟨by omega, hS75⟩, H77⟩, by show 64 - (i + 1) < 64 - i; omega⟩
 ·skip
  have hie : i = 64 := by omega
  have hrl := hpi.2.trans hie
  rw [padW_full hrl] at HL
  refine exitAny ?_
  refine thenExit ?_
  refine thenExit ?_
  refine blockHere ?_
  refine thenNormal ?_
  refine sR ?_
  refine sq (r_loadA (cs' := (cel EI ((piS n gs ws ra rb i).2)).toArray) agg153 siz153 (HL.get (k := 2) rfl) (off := 0) rfl (by rw [List.size_toArray, cel_length]; show _ ≤ _ * 1; omega) (by exact ext_all (by rw [cel_length]; show _ * 1 = _; omega))) ?_
  refine d_store (k := 5) (v := .agg (cel EI ((piS n gs ws ra rb i).2)).toArray) (cs' := (cel EI ((piS n gs ws ra rb i).2)).toArray) HL rfl rfl rfl siz153 (by exact celSize (by rw [hrl]; rfl)) (by exact celOne _) (by rw [List.size_toArray, cel_length]; show _ ≤ _ * 1; first | omega | (simp only [List.length_set]; omega) | exact bLe rfl | (simp <;> omega)) (by exact putAll (by rw [List.length_replicate]; exact hrl.symm)) ?_
  intro w78 H79 hC80
  have H79' := H79.as (L' := ((some b, .cells #[i64 (n : Nat), .slice (ownA kz) (List.length ((piS n gs ws ra rb i).1)) cz, .slice none 0 0] 151 (0, 0)) :: (kz, sob EG 99 ((piS n gs ws ra rb i).1) sz) :: (some b13, .cells (cel EI ((piS n gs ws ra rb i).2)).toArray 153 (0, 0)) :: (some b1, .cells (cel EI ra).toArray 153 (0, 0)) :: (some b5, .cells (cel EI rb).toArray 153 (0, 0)) :: (some b9, .cells (cel EI ((piS n gs ws ra rb i).2)).toArray 153 (0, 0)) :: R)) rfl
  clear H79
  refine wend ?_
  refine retAny ?_
  refine retG (rs := [.cell 8 153]) (vs := [.agg (cel EI ((piS n gs ws ra rb i).2)).toArray]) rfl ⟨r_loadA (cs' := (cel EI ((piS n gs ws ra rb i).2)).toArray) agg153 siz153 (H79'.get (k := 5) rfl) (off := 0) rfl (by rw [List.size_toArray, cel_length]; show _ ≤ _ * 1; omega) (by exact ext_all (by rw [cel_length]; show _ * 1 = _; omega)), trivial⟩ ?_
  subst hie
  exact ⟨_, rfl, rfl, kz, cz, sz, hSz, ((((H79'.dropk 5).dropk 4).dropk 3).dropk 2)⟩
end Go.Proofs.YteofdmdpaejgaaaDoor.Cm
