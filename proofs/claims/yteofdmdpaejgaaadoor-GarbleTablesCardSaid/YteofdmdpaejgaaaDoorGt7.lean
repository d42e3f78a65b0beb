/- What the claim has need of: Garb12. -/
import Derived.Test.YteofdmdpaejgaaaDoorGt6
namespace Go.Proofs.YteofdmdpaejgaaaDoor.Gb
open Go Go.Proofs.YteofdmdpaejgaaaDoor.Vc Go.Proofs.YteofdmdpaejgaaaDoor.Er Go.Proofs.YteofdmdpaejgaaaDoor.Circ
set_option linter.unusedVariables false
theorem call53 : callable Tryd.prog 53 = true := by kernel_rfl
theorem call54 : callable Tryd.prog 54 = true := by kernel_rfl
theorem call55 : callable Tryd.prog 55 = true := by kernel_rfl
set_option maxHeartbeats 2000000 in
theorem gtables_bad (n : Int) (gs : List Gt) (ol : List Int) (ga oa : Option Addr) (gc oc : Nat) (δ : Lb) (zs : List Lb) (za : Option Addr) (zc : Nat) (first : BitVec 64) (hgc : gs.length ≤ gc) (hoc : ol.length ≤ oc) (hzc : zs.length ≤ zc) (w : World) (hG : Gl w) (hGs : Rd EG w ga gs) (hOl : Rd EI w oa ol) (hZ : Rd ELb w za zs) (hzs : zs.length ≤ 8796093021952) (h1s : gs.length ≤ 60) (h2s : n ≤ 200) (hg : ¬ IsC n (gs.take 4200) (ol.take 80)) : Calls Tryd.prog 11 [.agg #[i64 (n), .slice ga gs.length gc, .slice oa ol.length oc], .agg #[u64 (δ.1), u64 (δ.2), .slice za zs.length zc, u64 (first)]].toArray w (Ret fun v w' => v = .bool true ∧ Ext w w') := by
 obtain ⟨g1, hg1⟩ : ∃ g1, g1 = gs.take 4200 := ⟨_, rfl⟩
 obtain ⟨l1, hl1⟩ : ∃ l1, l1 = ol.take 80 := ⟨_, rfl⟩
 have hgl1 : g1.length ≤ 60 := by rw [hg1, List.length_take]; omega
 have hll1 : l1.length ≤ 80 := by rw [hl1, List.length_take]; omega
 rw [← hg1, ← hl1] at hg
 obtain ⟨zr, hzr⟩ : ∃ zr, zr = zs ++ [((7#64, 7#64) : Lb)] := ⟨_, rfl⟩
 have hzrl : zr.length = zs.length + 1 := by rw [hzr, List.length_append]; rfl
 have hzd : (zr.drop 0).take (zs.length) = zs := by rw [hzr, List.drop_zero, List.take_left']; rfl
 have hz7 : zr.getD zs.length lb0 = (7#64, 7#64) := by rw [hzr]; exact getD_app_hi _ _ _ _ rfl
 have H := Hp.start No w
 refine enter (n := 145) Tryd.func11 rfl rfl (bLe rfl) ?_
 refine sR ?_
 refine q_box (v := .agg #[i64 (n), .slice ga gs.length gc, .slice oa ol.length oc]) (o := .cells #[i64 (n), .slice ga gs.length gc, .slice oa ol.length oc] 70 (0, 0)) H rfl (by rfl) ?_
 intro b31 w32 hb31 H33 hE34
 refine q_box (v := .agg #[u64 (δ.1), u64 (δ.2), .slice za zs.length zc, u64 (first)]) (o := .cells #[u64 (δ.1), u64 (δ.2), .slice za zs.length zc, u64 (first)] 94 (0, 0)) H33 rfl (by rfl) ?_
 intro b35 w36 hb35 H37 hE38
 refine sA (.bool (false)) rfl ?_
 refine wend ?_
 refine seqAny ?_
 refine sR ?_
 refine c_call (vs := []) call41 rfl (gawake_ok w36 (Chg.gl H37.chg (fun x => x) hG)) ?_
 rintro _ w39 ⟨rfl, hE40⟩
 have H41 := H37.ext hE40
 refine sq (r_notT rfl) ?_
 refine sM (.bool (false)) rfl ?_
 refine sqAny (v := .agg #[i64 (n), .slice ga gs.length gc, .slice oa ol.length oc]) (w' := w39) (wantedSome (d' := 14) (b := false) rfl rfl rfl) (r_loadA (cs' := #[i64 (n), .slice ga gs.length gc, .slice oa ol.length oc]) agg70 siz70 (H41.get (k := 1) rfl) (off := 0) rfl (by exact bLe rfl) (by rfl)) ?_
 refine caAny (wantedSome (d' := 14) (b := false) rfl rfl rfl) (Enters.callL (vs := [.agg #[i64 (n), .slice ga gs.length gc, .slice oa ol.length oc]]) call42 rfl) (small_yes n gs ol ga oa gc oc w39 h1s h2s) ?_
 rintro _ w42 ⟨rfl, hE43⟩
 have H44 := H41.ext hE43
 refine sqAny (v := .bool (false)) (w' := w42) (wantedSome (d' := 14) (b := false) rfl rfl rfl) (r_notT rfl) ?_
 refine sq (r_pickF (v := .bool (false)) rfl rfl) ?_
 refine wend ?_
 refine condFalse rfl ?_
 refine skipAny ?_
 refine thenNormal ?_
 refine sR ?_
 refine sq (r_loadA (cs' := #[i64 (n), .slice ga gs.length gc, .slice oa ol.length oc]) agg70 siz70 (H44.get (k := 1) rfl) (off := 0) rfl (by exact bLe rfl) (by rfl)) ?_
 refine c_call (vs := [.agg #[i64 (n), .slice ga gs.length gc, .slice oa ol.length oc]]) call43 rfl (own_ok n gs ol ga oa gc oc hgc hoc w42 (hGs.ext H44.chg) (hOl.ext H44.chg)) ?_
 rintro _ w45 ⟨⟨ng47, no48, kg49, cg50, spg51, ko52, co53, spo54, rfl, rfl, rfl, hSg55, hSo56, HN57⟩, hE58⟩
 rw [← hg1] at hSg55 HN57
 rw [← hl1] at hSo56 HN57
 rw [← hg1, ← hl1]
 have H59 := (H44.join HN57).as (L' := [(ko52, sob EI 3 l1 spo54), (kg49, sob EG 99 g1 spg51), (some b35, .cells #[u64 (δ.1), u64 (δ.2), .slice za zs.length zc, u64 (first)] 94 (0, 0)), (some b31, .cells #[i64 (n), .slice ga gs.length gc, .slice oa ol.length oc] 70 (0, 0))]) rfl
 refine d_store (k := 3) (v := .agg #[i64 (n), .slice (ownA kg49) g1.length cg50, .slice (ownA ko52) l1.length co53]) (cs' := #[i64 (n), .slice (ownA kg49) g1.length cg50, .slice (ownA ko52) l1.length co53]) H59 rfl rfl rfl siz70 (by rfl) (by intro u hu; simp [Value.cells] at hu; first | (subst hu; rfl) | (rcases hu with rfl | rfl | rfl <;> rfl)) (by exact bLe rfl) (by rfl) ?_
 intro w60 H61 hC62
 have H61' := H61.as (L' := [(ko52, sob EI 3 l1 spo54), (kg49, sob EG 99 g1 spg51), (some b35, .cells #[u64 (δ.1), u64 (δ.2), .slice za zs.length zc, u64 (first)] 94 (0, 0)), (some b31, .cells #[i64 (n), .slice (ownA kg49) g1.length cg50, .slice (ownA ko52) l1.length co53] 70 (0, 0))]) rfl
 clear H61
 refine wend ?_
 refine sR ?_
 refine q_buildSlice (E := ELb) (l := ([] : List LbT)) H61' sli92 zer38 (bLe rfl) (ps := []) rfl (by exact fillAll rfl rfl) rfl ?_
 intro b63 w65 hS64 H66 hE67
 refine sq (r_fieldAddr (off' := 2) fld94_1 (by decide) (b := b35) (off := 0) rfl (by omega)) ?_
 refine sq (r_loadC (v := .slice za zs.length zc) one92 (H66.get (k := 3) rfl) (off := 2) rfl (by rfl)) ?_
 refine q_append (E := ELb) (k := 0) (l := ([] : List LbT)) (l2 := zs) H66 rfl hS64 sli92 zer38 rfl byt38 (hZ.ext H66.chg) rfl (by rfl) rfl (by rfl) (by omega) ?_
 intro key68 c69 sp70 w72 hS71 hne74 H73
 have H73' := H73.as (L' := [(key68, sob ELb 38 (([] : List LbT) ++ zs) sp70), (ko52, sob EI 3 l1 spo54), (kg49, sob EG 99 g1 spg51), (some b35, .cells #[u64 (δ.1), u64 (δ.2), .slice za zs.length zc, u64 (first)] 94 (0, 0)), (some b31, .cells #[i64 (n), .slice (ownA kg49) g1.length cg50, .slice (ownA ko52) l1.length co53] 70 (0, 0))]) rfl
 clear H73
 have e75 : ([] : List LbT) ++ zs = zs := by rw [List.nil_append]
 have hS76 := hS71
 rw [e75] at hS76
 have H77 := H73'.as (L' := [(key68, sob ELb 38 zs sp70), (ko52, sob EI 3 l1 spo54), (kg49, sob EG 99 g1 spg51), (some b35, .cells #[u64 (δ.1), u64 (δ.2), .slice za zs.length zc, u64 (first)] 94 (0, 0)), (some b31, .cells #[i64 (n), .slice (ownA kg49) g1.length cg50, .slice (ownA ko52) l1.length co53] 70 (0, 0))]) (by rw [e75])
 refine sq (r_buildA (cs' := (cel E64 [7#64, 7#64]).toArray) (ps := [(0, u64 (7#64)), (1, u64 (7#64))]) zer38 arr38 rfl (by rfl)) ?_
 refine q_buildSlice (E := ELb) (l := ([(7#64, 7#64)] : List LbT)) H77 sli92 zer38 (bLe rfl) (ps := [(0, .agg (cel E64 [7#64, 7#64]).toArray)]) rfl (by exact fillAll rfl rfl) rfl ?_
 intro b78 w80 hS79 H81 hE82
 refine q_append (E := ELb) (k := 1) (l := zs) (l2 := ([(7#64, 7#64)] : List LbT)) H81 rfl hS76 sli92 zer38 rfl byt38 (H81.rd (k := 0) rfl hS79) rfl (by exact Nat.zero_add _) rfl (by rfl) (by omega) ?_
 intro key83 c84 sp85 w87 hS86 hne89 H88
 have H88' := H88.as (L' := [((some b78), sob ELb 38 ([(7#64, 7#64)] : List LbT) ([])), (key83, sob ELb 38 (zs ++ ([(7#64, 7#64)] : List LbT)) sp85), (ko52, sob EI 3 l1 spo54), (kg49, sob EG 99 g1 spg51), (some b35, .cells #[u64 (δ.1), u64 (δ.2), .slice za zs.length zc, u64 (first)] 94 (0, 0)), (some b31, .cells #[i64 (n), .slice (ownA kg49) g1.length cg50, .slice (ownA ko52) l1.length co53] 70 (0, 0))]) rfl
 clear H88
 have e90 : zs ++ ([(7#64, 7#64)] : List LbT) = zr := by rw [hzr]
 have hS91 := hS86
 rw [e90] at hS91
 have H92 := H88'.as (L' := [((some b78), sob ELb 38 ([(7#64, 7#64)] : List LbT) ([])), (key83, sob ELb 38 zr sp85), (ko52, sob EI 3 l1 spo54), (kg49, sob EG 99 g1 spg51), (some b35, .cells #[u64 (δ.1), u64 (δ.2), .slice za zs.length zc, u64 (first)] 94 (0, 0)), (some b31, .cells #[i64 (n), .slice (ownA kg49) g1.length cg50, .slice (ownA ko52) l1.length co53] 70 (0, 0))]) (by rw [e90])
 refine sA (.slice (ownA key83) ((0 + zs.length) + 1) c84) rfl ?_
 have hzcp := hS91.cap
 refine wend ?_
 refine seqAny ?_
 refine drawC (m := 18) [0, 0, 2, 0, 0, 16, 48, 120, 0, 256, 1023, 2047, 4095, 4095, 4095, 8191, 49151, 131071] [10] (fun q vs w' => match q, vs with | 0, [] => Ext w87 w' ∧ Hp No w w' [((some b78), sob ELb 38 ([(7#64, 7#64)] : List LbT) ([])), (key83, sob ELb 38 zr sp85), (ko52, sob EI 3 l1 spo54), (kg49, sob EG 99 g1 spg51), (some b35, .cells #[u64 (δ.1), u64 (δ.2), .slice za zs.length zc, u64 (first)] 94 (0, 0)), (some b31, .cells #[i64 (n), .slice (ownA kg49) g1.length cg50, .slice (ownA ko52) l1.length co53] 70 (0, 0))] | 1, [v0] => ∃ (lo104 : Nat) (T102 : TypeId) (x103 : Value), v0 = .tuple #[.slice none 0 0, .slice none 0 0, .iface T102 (x103)] ∧ Er lo104 w' 90 1 (.iface T102 x103) ∧ b35 < lo104 ∧ b31 < lo104 ∧ Ext w87 w' ∧ Hp No w w' [((some b78), sob ELb 38 ([(7#64, 7#64)] : List LbT) ([])), (key83, sob ELb 38 zr sp85), (ko52, sob EI 3 l1 spo54), (kg49, sob EG 99 g1 spg51), (some b35, .cells #[u64 (δ.1), u64 (δ.2), .slice za zs.length zc, u64 (first)] 94 (0, 0)), (some b31, .cells #[i64 (n), .slice (ownA kg49) g1.length cg50, .slice (ownA ko52) l1.length co53] 70 (0, 0))] | _, _ => False) mixed (by kernel_rfl) (by kernel_rfl) ⟨Ext.drew _, H92.drew⟩ ?_
 refine WalkC.look rfl (fun _ => .agg #[i64 (n), .slice (ownA kg49) g1.length cg50, .slice (ownA ko52) l1.length co53]) (fun _ _ _ => rfl) (fun q r uw hlo hhi hle hF => ?_) ?_
 ·skip
  have h1 : 0 ≤ q := Nat.zero_le _
  have h2 : q ≤ 0 := hhi 0 10 rfl rfl
  rcases (show q = 0 by omega) with rfl
  ·skip
   obtain ⟨hX, HH⟩ := hF
   exact Gives.run rfl (r_loadA (cs' := #[i64 (n), .slice (ownA kg49) g1.length cg50, .slice (ownA ko52) l1.length co53]) agg70 siz70 (HH.get (k := 5) rfl) (off := 0) rfl (by exact bLe rfl) (by rfl)) ⟨rfl, rfl⟩
 refine WalkC.look rfl (fun _ => pT b35) (fun _ _ _ => rfl) (fun q r uw _ _ _ _ => Gives.run rfl (r_fieldAddr (off' := 0) fld94_0 (by decide) (b := b35) (off := 0) rfl (by omega)) ⟨rfl, rfl⟩) ?_
 refine WalkC.look rfl (fun _ => .agg (cel E64 [δ.1, δ.2]).toArray) (fun _ _ _ => rfl) (fun q r uw hlo hhi hle hF => ?_) ?_
 ·skip
  have h1 : 0 ≤ q := Nat.zero_le _
  have h2 : q ≤ 0 := hhi 0 10 rfl rfl
  rcases (show q = 0 by omega) with rfl
  ·skip
   obtain ⟨hX, HH⟩ := hF
   exact Gives.run rfl (r_loadA (cs' := (cel E64 [δ.1, δ.2]).toArray) agg38 siz38 (HH.get (k := 4) rfl) (off := 0) rfl (by exact bLe rfl) (by rfl)) ⟨rfl, rfl⟩
 refine WalkC.look rfl (fun _ => .slice (ownA key83) ((0 + zs.length) + 1) c84) (fun _ _ _ => rfl) (fun q r uw _ _ _ _ => Gives.run rfl (r_move (v := .slice (ownA key83) ((0 + zs.length) + 1) c84) rfl) ⟨rfl, rfl⟩) ?_
 refine WalkC.look rfl (fun _ => .pointer (some ⟨b35, 2, none⟩)) (fun _ _ _ => rfl) (fun q r uw _ _ _ _ => Gives.run rfl (r_fieldAddr (off' := 2) fld94_1 (by decide) (b := b35) (off := 0) rfl (by omega)) ⟨rfl, rfl⟩) ?_
 refine WalkC.look rfl (fun _ => .slice za zs.length zc) (fun _ _ _ => rfl) (fun q r uw hlo hhi hle hF => ?_) ?_
 ·skip
  have h1 : 0 ≤ q := Nat.zero_le _
  have h2 : q ≤ 0 := hhi 0 10 rfl rfl
  rcases (show q = 0 by omega) with rfl
  ·skip
   obtain ⟨hX, HH⟩ := hF
   exact Gives.run rfl (r_loadC (v := .slice za zs.length zc) one92 (HH.get (k := 4) rfl) (off := 2) rfl (by rfl)) ⟨rfl, rfl⟩
 refine WalkC.look rfl (fun _ => i64 (zs.length : Nat)) (fun _ _ _ => rfl) (fun q r uw _ _ _ _ => Gives.run rfl (r_lenS sli92 (a := za) (m := zs.length) (c := zc) rfl) ⟨rfl, rfl⟩) ?_
 refine WalkC.look rfl (fun _ => .slice (if c84 = 0 then ownA key83 else adr (ownA key83) (0 * 2)) zs.length (c84 - 0)) (fun _ _ _ => rfl) (fun q r uw _ _ _ _ => Gives.run rfl ((r_sliceS (l := 0) (h := zs.length) sli92 rfl (.inr ⟨rfl, rfl⟩) (.inl ⟨_, _, _, rfl, rfl, by first | rfl | omega | (simp; omega)⟩) (by omega) (by omega)).as (v' := .slice (if c84 = 0 then ownA key83 else adr (ownA key83) (0 * 2)) zs.length (c84 - 0)) (by first | rfl | (congr 1; omega) | (simp; omega) | simp)) ⟨rfl, rfl⟩) ?_
 refine WalkC.look rfl (fun _ => .pointer (some ⟨b35, 3, none⟩)) (fun _ _ _ => rfl) (fun q r uw _ _ _ _ => Gives.run rfl (r_fieldAddr (off' := 3) fld94_2 (by decide) (b := b35) (off := 0) rfl (by omega)) ⟨rfl, rfl⟩) ?_
 refine WalkC.look rfl (fun _ => u64 (first)) (fun _ _ _ => rfl) (fun q r uw hlo hhi hle hF => ?_) ?_
 ·skip
  have h1 : 0 ≤ q := Nat.zero_le _
  have h2 : q ≤ 0 := hhi 0 10 rfl rfl
  rcases (show q = 0 by omega) with rfl
  ·skip
   obtain ⟨hX, HH⟩ := hF
   exact Gives.run rfl (r_loadC (v := u64 (first)) one32 (HH.get (k := 4) rfl) (off := 3) rfl (by rfl)) ⟨rfl, rfl⟩
 refine WalkC.eff 0 rfl (fun r uw93 hF95 => ?_) ?_
 ·skip
  obtain ⟨hX, H94⟩ := hF95
  dsimp only [List.take, List.map, List.cons_append, List.nil_append]
  refine Gives.ofW (d := 40) rfl rfl (fun Q' hK => ?_)
  have := H94.lt (List.mem_of_getElem? (i := 4) rfl) rfl
  have := H94.lt (List.mem_of_getElem? (i := 5) rfl) rfl
  refine c_call (vs := [.agg #[i64 (n), .slice (ownA kg49) g1.length cg50, .slice (ownA ko52) l1.length co53], .agg (cel E64 [δ.1, δ.2]).toArray, .slice (if c84 = 0 then ownA key83 else adr (ownA key83) (0 * 2)) zs.length (c84 - 0), u64 (first)]) call45 rfl (garble_bad n g1 l1 (ownA kg49) (ownA ko52) cg50 co53 (δ.1, δ.2) zs (if c84 = 0 then ownA key83 else adr (ownA key83) (0 * 2)) (c84 - 0) first uw93 (Chg.gl H94.chg (fun x => x) hG) (H94.rd (k := 3) rfl hSg55) (H94.rd (k := 2) rfl hSo56) (by first | omega | exact bLe rfl) (by first | omega | exact bLe rfl) (Eq.mp (congrArg (fun q => Rd ELb _ _ q) hzd) (Rd.sub (H94.rd (k := 1) rfl hS91) 0 (zs.length) (m := c84) (fun e => by first | exact absurd e (by omega) | (rw [show zs.length = 0 by omega]; rfl)))) hg) ?_
  rintro _ w96 ⟨⟨v98, rfl, hEr99⟩, hE100⟩
  have H101 := H94.ext hE100
  obtain ⟨T102, x103, rfl⟩ := hEr99.iface
  obtain ⟨lo104, hlo105⟩ : ∃ lo, lo = uw93.heap.size := ⟨_, rfl⟩
  rw [← hlo105] at hEr99
  have hlt106 : b35 < lo104 := by omega
  have hlt107 : b31 < lo104 := by omega
  exact hK _ _ ⟨lo104, T102, x103, rfl, hEr99, hlt106, hlt107, (hX.trans hE100), H101⟩
 refine WalkC.look rfl (fun r => r 10) (fun r r' h => h 10 (by decide) rfl) (fun q r uw _ _ _ _ => Gives.run rfl (r_move rfl) ⟨rfl, rfl⟩) ?_
 refine WalkC.look rfl (fun r => proj (r 10) 0) (fun r r' h => by rw [h 10 (by decide) rfl]) (fun q r uw hlo hhi hle hF => ?_) ?_
 ·skip
  have h1 : 1 ≤ q := hlo 0 10 rfl rfl
  have h2 : q ≤ 1 := hle
  rcases (show q = 1 by omega) with rfl
  ·skip
   obtain ⟨lo104, T102, x103, e10, hEr99, hlt106, hlt107, hX, HH⟩ := hF
   dsimp only
   rw [e10]
   exact Gives.run rfl (r_extract (vs := #[.slice none 0 0, .slice none 0 0, .iface T102 (x103)]) rfl rfl) ⟨rfl, rfl⟩
 refine WalkC.look rfl (fun r => proj (r 10) 1) (fun r r' h => by rw [h 10 (by decide) rfl]) (fun q r uw hlo hhi hle hF => ?_) ?_
 ·skip
  have h1 : 1 ≤ q := hlo 0 10 rfl rfl
  have h2 : q ≤ 1 := hle
  rcases (show q = 1 by omega) with rfl
  ·skip
   obtain ⟨lo104, T102, x103, e10, hEr99, hlt106, hlt107, hX, HH⟩ := hF
   dsimp only
   rw [e10]
   exact Gives.run rfl (r_extract (vs := #[.slice none 0 0, .slice none 0 0, .iface T102 (x103)]) rfl rfl) ⟨rfl, rfl⟩
 refine WalkC.look rfl (fun r => proj (r 10) 2) (fun r r' h => by rw [h 10 (by decide) rfl]) (fun q r uw hlo hhi hle hF => ?_) ?_
 ·skip
  have h1 : 1 ≤ q := hlo 0 10 rfl rfl
  have h2 : q ≤ 1 := hle
  rcases (show q = 1 by omega) with rfl
  ·skip
   obtain ⟨lo104, T102, x103, e10, hEr99, hlt106, hlt107, hX, HH⟩ := hF
   dsimp only
   rw [e10]
   exact Gives.run rfl (r_extract (vs := #[.slice none 0 0, .slice none 0 0, .iface T102 (x103)]) rfl rfl) ⟨rfl, rfl⟩
 refine WalkC.look rfl (fun r => proj (r 10) 0) (fun r r' h => by rw [h 10 (by decide) rfl]) (fun q r uw _ _ _ _ => Gives.run rfl (r_assign rfl) ⟨rfl, rfl⟩) ?_
 refine WalkC.look rfl (fun r => proj (r 10) 1) (fun r r' h => by rw [h 10 (by decide) rfl]) (fun q r uw _ _ _ _ => Gives.run rfl (r_assign rfl) ⟨rfl, rfl⟩) ?_
 refine WalkC.look rfl (fun r => proj (r 10) 2) (fun r r' h => by rw [h 10 (by decide) rfl]) (fun q r uw _ _ _ _ => Gives.run rfl (r_assign rfl) ⟨rfl, rfl⟩) ?_
 refine WalkC.nil ?_
 intro r108 w109 hF111
 obtain ⟨lo104, T102, x103, e10, hEr99, hlt106, hlt107, hX, H110⟩ := hF111
 dsimp only
 rw [e10]
 refine wnil ?_
 refine thenNormal ?_
 refine seqAny ?_
 refine seqAny ?_
 refine drawAny (K := [none, none, none, none, none, none, none, none, none, none, none, none, none, none, none, none, none, none, none]) [0, 0, 2, 6, 15, 31, 0, 127, 255, 511, 511, 1535, 3583, 8191, 511, 16895, 65535, 131071, 262143] (fun w' => Ext w109 w') (fun w' w'' => Ext w' w'') mixed (by kernel_rfl) (Ext.drew _) (fun _ _ h h' => h.trans h') ?_ ?_
 ·exact relNone (by decide)
 refine ⟨.slice (ownA key83) ((0 + zs.length) + 1) c84, fun _ uw112 hC113 _ => Gives.run rfl (r_move (v := .slice (ownA key83) ((0 + zs.length) + 1) c84) rfl) ⟨rfl, Chg.refl _ _⟩, ?_⟩
 refine ⟨.pointer (some ⟨b35, 2, none⟩), fun _ uw114 hC115 _ => Gives.run rfl (r_fieldAddr (off' := 2) fld94_1 (by decide) (b := b35) (off := 0) rfl (by omega)) ⟨rfl, Chg.refl _ _⟩, ?_⟩
 refine ⟨.slice za zs.length zc, fun _ uw116 hC117 _ => Gives.run rfl (r_loadC (v := .slice za zs.length zc) one92 ((H110.ext hC117).get (k := 4) rfl) (off := 2) rfl (by rfl)) ⟨rfl, Chg.refl _ _⟩, ?_⟩
 refine ⟨i64 (zs.length : Nat), fun _ uw118 hC119 _ => Gives.run rfl (r_lenS sli92 (a := za) (m := zs.length) (c := zc) rfl) ⟨rfl, Chg.refl _ _⟩, ?_⟩
 refine ⟨.pointer (adr (ownA key83) (zs.length * 2)), fun _ uw120 hC121 _ => Gives.run rfl (r_idxS (E := ELb) (l := zr) (j := zs.length) sli92 ((H110.ext hC121).rd (k := 1) rfl hS91) rfl rfl (by first | rfl | omega | (simp; omega)) (by omega) (by omega)) ⟨rfl, Chg.refl _ _⟩, ?_⟩
 refine ⟨.agg (cel E64 [((zr).getD zs.length lb0).1, ((zr).getD zs.length lb0).2]).toArray, fun _ uw122 hC123 _ => Gives.run rfl ((r_ldS (E := ELb) (l := zr) (j := zs.length) (v := (zr).getD zs.length lb0) fits38 ((H110.ext hC123).rd (k := 1) rfl hS91) rfl rfl (at_getD (by omega))).as (v' := .agg (cel E64 [((zr).getD zs.length lb0).1, ((zr).getD zs.length lb0).2]).toArray) rfl) ⟨rfl, Chg.refl _ _⟩, ?_⟩
 refine ⟨.agg (cel E64 [7#64, 7#64]).toArray, fun _ uw124 hC125 _ => Gives.run rfl (r_buildA (cs' := (cel E64 [7#64, 7#64]).toArray) (ps := [(0, u64 (7#64)), (1, u64 (7#64))]) zer38 arr38 rfl (by rfl)) ⟨rfl, Chg.refl _ _⟩, ?_⟩
 refine ⟨.bool (false), fun _ uw126 hC127 _ => Gives.run rfl ((r_neqA (E := E64) (l := [((zr).getD zs.length lb0).1, ((zr).getD zs.length lb0).2]) (l' := [7#64, 7#64]) gty38 und38 fits32 (eqAt64 und32) (rfl) (rfl) rfl rfl).as (v' := .bool (false)) (by rw [hz7]; simp)) ⟨rfl, Chg.refl _ _⟩, ?_⟩
 refine ⟨.bool (false), fun _ uw128 hC129 _ => Gives.run rfl (r_move (v := .bool (false)) rfl) ⟨rfl, Chg.refl _ _⟩, ?_⟩
 refine ⟨.slice (ownA key83) ((0 + zs.length) + 1) c84, fun _ uw130 hC131 _ => Gives.runW (wantedSome (d' := 52) (b := false) rfl rfl rfl) (r_move (v := .slice (ownA key83) ((0 + zs.length) + 1) c84) rfl) ⟨rfl, Chg.refl _ _⟩, ?_⟩
 refine ⟨.pointer (some ⟨b35, 2, none⟩), fun _ uw132 hC133 _ => Gives.runW (wantedSome (d' := 52) (b := false) rfl rfl rfl) (r_fieldAddr (off' := 2) fld94_1 (by decide) (b := b35) (off := 0) rfl (by omega)) ⟨rfl, Chg.refl _ _⟩, ?_⟩
 refine ⟨.slice za zs.length zc, fun _ uw134 hC135 _ => Gives.runW (wantedSome (d' := 52) (b := false) rfl rfl rfl) (r_loadC (v := .slice za zs.length zc) one92 ((H110.ext hC135).get (k := 4) rfl) (off := 2) rfl (by rfl)) ⟨rfl, Chg.refl _ _⟩, ?_⟩
 refine ⟨i64 (zs.length : Nat), fun _ uw136 hC137 _ => Gives.runW (wantedSome (d' := 52) (b := false) rfl rfl rfl) (r_lenS sli92 (a := za) (m := zs.length) (c := zc) rfl) ⟨rfl, Chg.refl _ _⟩, ?_⟩
 refine ⟨.slice (if c84 = 0 then ownA key83 else adr (ownA key83) (0 * 2)) zs.length (c84 - 0), fun _ uw138 hC139 _ => Gives.runW (wantedSome (d' := 52) (b := false) rfl rfl rfl) ((r_sliceS (l := 0) (h := zs.length) sli92 rfl (.inr ⟨rfl, rfl⟩) (.inl ⟨_, _, _, rfl, rfl, by first | rfl | omega | (simp; omega)⟩) (by omega) (by omega)).as (v' := .slice (if c84 = 0 then ownA key83 else adr (ownA key83) (0 * 2)) zs.length (c84 - 0)) (by first | rfl | (congr 1; omega) | (simp; omega) | simp)) ⟨rfl, Chg.refl _ _⟩, ?_⟩
 refine ⟨.pointer (some ⟨b35, 2, none⟩), fun _ uw140 hC141 _ => Gives.runW (wantedSome (d' := 52) (b := false) rfl rfl rfl) (r_fieldAddr (off' := 2) fld94_1 (by decide) (b := b35) (off := 0) rfl (by omega)) ⟨rfl, Chg.refl _ _⟩, ?_⟩
 refine ⟨.slice za zs.length zc, fun _ uw142 hC143 _ => Gives.runW (wantedSome (d' := 52) (b := false) rfl rfl rfl) (r_loadC (v := .slice za zs.length zc) one92 ((H110.ext hC143).get (k := 4) rfl) (off := 2) rfl (by rfl)) ⟨rfl, Chg.refl _ _⟩, ?_⟩
 refine ⟨.bool (true), fun _ uw144 hC145 _ => Gives.callW (wantedSome (d' := 52) (b := false) rfl rfl rfl) (Enters.callL (vs := [.slice (if c84 = 0 then ownA key83 else adr (ownA key83) (0 * 2)) zs.length (c84 - 0), .slice za zs.length zc]) call47 rfl) (same_ok zs (if c84 = 0 then ownA key83 else adr (ownA key83) (0 * 2)) za zs.length zs.length (c84 - 0) zc rfl rfl uw144 (Eq.mp (congrArg (fun q => Rd ELb _ _ q) hzd) (Rd.sub ((H110.ext hC145).rd (k := 1) rfl hS91) 0 (zs.length) (m := c84) (fun e => by first | exact absurd e (by omega) | (rw [show zs.length = 0 by omega]; rfl)))) (hZ.ext (H110.ext hC145).chg) (by omega)), ?_⟩
 refine ⟨.bool (false), fun _ uw146 hC147 _ => Gives.runW (wantedSome (d' := 52) (b := false) rfl rfl rfl) (r_notT rfl) ⟨rfl, Chg.refl _ _⟩, ?_⟩
 refine ⟨.bool (false), fun _ uw148 hC149 _ => Gives.run rfl (r_pickF (v := .bool (false)) rfl rfl) ⟨rfl, Chg.refl _ _⟩, ?_⟩
 intro r153 w150 hE152 hF
 have H151 := H110.ext hE152
 refine wnil ?_
 refine thenNormal ?_
 refine condFalse rfl ?_
 refine skipAny ?_
 refine thenNormal ?_
 refine sR ?_
 refine sq (r_loadA (cs' := #[i64 (n), .slice (ownA kg49) g1.length cg50, .slice (ownA ko52) l1.length co53]) agg70 siz70 (H151.get (k := 5) rfl) (off := 0) rfl (by exact bLe rfl) (by rfl)) ?_
 refine c_call (vs := [.agg #[i64 (n), .slice (ownA kg49) g1.length cg50, .slice (ownA ko52) l1.length co53]]) call35 rfl (gates_ok n g1 l1 (ownA kg49) (ownA ko52) cg50 co53 w150 (H151.rd (k := 3) rfl hSg55) (by omega)) ?_
 rintro _ w154 ⟨⟨key156, c157, sp158, rfl, hS159, hk160⟩, hE161⟩
 rw [show g1.length = g1.length from rfl]
 have H162 := H151.add hE161 hk160
 refine sA (.slice (ownA key156) g1.length c157) rfl ?_
 refine wend ?_
 refine seqAny ?_
 refine blockAny ?_
 refine sR ?_
 refine sq (r_fieldAddr (off' := 0) fld70_0 (by decide) (b := b31) (off := 0) rfl (by omega)) ?_
 refine sq (r_loadC (v := i64 (n)) one3 (H162.get (k := 6) rfl) (off := 0) rfl (by rfl)) ?_
 refine sM (.slice (ownA key156) g1.length c157) rfl ?_
 refine sq (r_fieldAddr (off' := 2) fld70_2 (by decide) (b := b31) (off := 0) rfl (by omega)) ?_
 refine sq (r_loadC (v := .slice (ownA ko52) l1.length co53) one60 (H162.get (k := 6) rfl) (off := 2) rfl (by rfl)) ?_
 refine c_call (vs := [i64 (n), .slice (ownA key156) g1.length c157, .slice (ownA ko52) l1.length co53]) call53 rfl (good_no n g1 l1 (ownA key156) (ownA ko52) c157 co53 w154 (H162.rd (k := 0) rfl hS159) (H162.rd (k := 3) rfl hSo56) (by omega) (by omega) hg) ?_
 rintro _ w163 ⟨rfl, hE164⟩
 have H165 := H162.ext hE164
 refine sq (r_notF rfl) ?_
 refine sA (.bool (true)) rfl ?_
 refine wend ?_
 refine condTrue rfl ?_
 refine sR ?_
 refine sM (.slice none 0 0) rfl ?_
 refine sq (r_lenS sli92 (a := none) (m := 0) (c := 0) rfl) ?_
 refine sM (.slice none 0 0) rfl ?_
 refine sq (r_lenS sli92 (a := none) (m := 0) (c := 0) rfl) ?_
 refine sq (r_addI (a := (0 : Nat)) (b := (0 : Nat)) rfl rfl (by omega)) ?_
 refine sq ((r_eqlI (a := (0 : Nat) + (0 : Nat)) (b := (0 : Int)) rfl rfl).as (v' := .bool (true)) (by rfl)) ?_
 refine sM (.bool (true)) rfl ?_
 refine sqAny (v := .iface T102 (x103)) (w' := w163) (wantedSome (d' := 79) (b := true) rfl rfl rfl) (r_move (v := .iface T102 (x103)) rfl) ?_
 refine caAny (wantedSome (d' := 79) (b := true) rfl rfl rfl) (Enters.callL (vs := [.iface T102 (x103)]) call26 rfl) (code_ok 90 1 lo104 (.iface T102 (x103)) w163 (Chg.gl H165.chg (fun x => x) hG) ((((hEr99.ext hE152).ext hE161).ext hE164))) ?_
 rintro _ w166 ⟨rfl, hE167⟩
 have H168 := H165.ext hE167
 refine sqAny (v := .bool (true)) (w' := w166) (wantedSome (d' := 79) (b := true) rfl rfl rfl) ((r_eqlI (a := 90) (b := (90 : Int)) rfl rfl).as (v' := .bool (true)) (by rfl)) ?_
 refine sq (r_pickT (u := .bool (true)) rfl rfl) ?_
 refine sA (.bool (true)) rfl ?_
 refine wend ?_
 refine retAny ?_
 refine blockRet ?_
 refine thenRet ?_
 refine retG (rs := [.tmp 4]) (vs := [.bool (true)]) rfl ⟨⟨rfl, rfl⟩, trivial⟩ ?_
 exact ⟨_, rfl, rfl, H168.chg⟩
set_option maxHeartbeats 2000000 in
theorem gtables_num (n : Int) (gs : List Gt) (ol : List Int) (ga oa : Option Addr) (gc oc : Nat) (δ : Lb) (zs : List Lb) (za : Option Addr) (zc : Nat) (first : BitVec 64) (hgc : gs.length ≤ gc) (hoc : ol.length ≤ oc) (hzc : zs.length ≤ zc) (w : World) (hG : Gl w) (hGs : Rd EG w ga gs) (hOl : Rd EI w oa ol) (hZ : Rd ELb w za zs) (hzs : zs.length ≤ 8796093021952) (h1s : gs.length ≤ 60) (h2s : n ≤ 200) (hg : IsC n (gs.take 4200) (ol.take 80)) (hm : (zs.length : Int) ≠ n) : Calls Tryd.prog 11 [.agg #[i64 (n), .slice ga gs.length gc, .slice oa ol.length oc], .agg #[u64 (δ.1), u64 (δ.2), .slice za zs.length zc, u64 (first)]].toArray w (Ret fun v w' => v = .bool true ∧ Ext w w') := by
 obtain ⟨g1, hg1⟩ : ∃ g1, g1 = gs.take 4200 := ⟨_, rfl⟩
 obtain ⟨l1, hl1⟩ : ∃ l1, l1 = ol.take 80 := ⟨_, rfl⟩
 have hgl1 : g1.length ≤ 60 := by rw [hg1, List.length_take]; omega
 have hll1 : l1.length ≤ 80 := by rw [hl1, List.length_take]; omega
 rw [← hg1, ← hl1] at hg
 obtain ⟨zr, hzr⟩ : ∃ zr, zr = zs ++ [((7#64, 7#64) : Lb)] := ⟨_, rfl⟩
 have hzrl : zr.length = zs.length + 1 := by rw [hzr, List.length_append]; rfl
 have hzd : (zr.drop 0).take (zs.length) = zs := by rw [hzr, List.drop_zero, List.take_left']; rfl
 have hz7 : zr.getD zs.length lb0 = (7#64, 7#64) := by rw [hzr]; exact getD_app_hi _ _ _ _ rfl
 have H := Hp.start No w
 refine enter (n := 145) Tryd.func11 rfl rfl (bLe rfl) ?_
 refine sR ?_
 refine q_box (v := .agg #[i64 (n), .slice ga gs.length gc, .slice oa ol.length oc]) (o := .cells #[i64 (n), .slice ga gs.length gc, .slice oa ol.length oc] 70 (0, 0)) H rfl (by rfl) ?_
 intro b31 w32 hb31 H33 hE34
 refine q_box (v := .agg #[u64 (δ.1), u64 (δ.2), .slice za zs.length zc, u64 (first)]) (o := .cells #[u64 (δ.1), u64 (δ.2), .slice za zs.length zc, u64 (first)] 94 (0, 0)) H33 rfl (by rfl) ?_
 intro b35 w36 hb35 H37 hE38
 refine sA (.bool (false)) rfl ?_
 refine wend ?_
 refine seqAny ?_
 refine sR ?_
 refine c_call (vs := []) call41 rfl (gawake_ok w36 (Chg.gl H37.chg (fun x => x) hG)) ?_
 rintro _ w39 ⟨rfl, hE40⟩
 have H41 := H37.ext hE40
 refine sq (r_notT rfl) ?_
 refine sM (.bool (false)) rfl ?_
 refine sqAny (v := .agg #[i64 (n), .slice ga gs.length gc, .slice oa ol.length oc]) (w' := w39) (wantedSome (d' := 14) (b := false) rfl rfl rfl) (r_loadA (cs' := #[i64 (n), .slice ga gs.length gc, .slice oa ol.length oc]) agg70 siz70 (H41.get (k := 1) rfl) (off := 0) rfl (by exact bLe rfl) (by rfl)) ?_
 refine caAny (wantedSome (d' := 14) (b := false) rfl rfl rfl) (Enters.callL (vs := [.agg #[i64 (n), .slice ga gs.length gc, .slice oa ol.length oc]]) call42 rfl) (small_yes n gs ol ga oa gc oc w39 h1s h2s) ?_
 rintro _ w42 ⟨rfl, hE43⟩
 have H44 := H41.ext hE43
 refine sqAny (v := .bool (false)) (w' := w42) (wantedSome (d' := 14) (b := false) rfl rfl rfl) (r_notT rfl) ?_
 refine sq (r_pickF (v := .bool (false)) rfl rfl) ?_
 refine wend ?_
 refine condFalse rfl ?_
 refine skipAny ?_
 refine thenNormal ?_
 refine sR ?_
 refine sq (r_loadA (cs' := #[i64 (n), .slice ga gs.length gc, .slice oa ol.length oc]) agg70 siz70 (H44.get (k := 1) rfl) (off := 0) rfl (by exact bLe rfl) (by rfl)) ?_
 refine c_call (vs := [.agg #[i64 (n), .slice ga gs.length gc, .slice oa ol.length oc]]) call43 rfl (own_ok n gs ol ga oa gc oc hgc hoc w42 (hGs.ext H44.chg) (hOl.ext H44.chg)) ?_
 rintro _ w45 ⟨⟨ng47, no48, kg49, cg50, spg51, ko52, co53, spo54, rfl, rfl, rfl, hSg55, hSo56, HN57⟩, hE58⟩
 rw [← hg1] at hSg55 HN57
 rw [← hl1] at hSo56 HN57
 rw [← hg1, ← hl1]
 have H59 := (H44.join HN57).as (L' := [(ko52, sob EI 3 l1 spo54), (kg49, sob EG 99 g1 spg51), (some b35, .cells #[u64 (δ.1), u64 (δ.2), .slice za zs.length zc, u64 (first)] 94 (0, 0)), (some b31, .cells #[i64 (n), .slice ga gs.length gc, .slice oa ol.length oc] 70 (0, 0))]) rfl
 refine d_store (k := 3) (v := .agg #[i64 (n), .slice (ownA kg49) g1.length cg50, .slice (ownA ko52) l1.length co53]) (cs' := #[i64 (n), .slice (ownA kg49) g1.length cg50, .slice (ownA ko52) l1.length co53]) H59 rfl rfl rfl siz70 (by rfl) (by intro u hu; simp [Value.cells] at hu; first | (subst hu; rfl) | (rcases hu with rfl | rfl | rfl <;> rfl)) (by exact bLe rfl) (by rfl) ?_
 intro w60 H61 hC62
 have H61' := H61.as (L' := [(ko52, sob EI 3 l1 spo54), (kg49, sob EG 99 g1 spg51), (some b35, .cells #[u64 (δ.1), u64 (δ.2), .slice za zs.length zc, u64 (first)] 94 (0, 0)), (some b31, .cells #[i64 (n), .slice (ownA kg49) g1.length cg50, .slice (ownA ko52) l1.length co53] 70 (0, 0))]) rfl
 clear H61
 refine wend ?_
 refine sR ?_
 refine q_buildSlice (E := ELb) (l := ([] : List LbT)) H61' sli92 zer38 (bLe rfl) (ps := []) rfl (by exact fillAll rfl rfl) rfl ?_
 intro b63 w65 hS64 H66 hE67
 refine sq (r_fieldAddr (off' := 2) fld94_1 (by decide) (b := b35) (off := 0) rfl (by omega)) ?_
 refine sq (r_loadC (v := .slice za zs.length zc) one92 (H66.get (k := 3) rfl) (off := 2) rfl (by rfl)) ?_
 refine q_append (E := ELb) (k := 0) (l := ([] : List LbT)) (l2 := zs) H66 rfl hS64 sli92 zer38 rfl byt38 (hZ.ext H66.chg) rfl (by rfl) rfl (by rfl) (by omega) ?_
 intro key68 c69 sp70 w72 hS71 hne74 H73
 have H73' := H73.as (L' := [(key68, sob ELb 38 (([] : List LbT) ++ zs) sp70), (ko52, sob EI 3 l1 spo54), (kg49, sob EG 99 g1 spg51), (some b35, .cells #[u64 (δ.1), u64 (δ.2), .slice za zs.length zc, u64 (first)] 94 (0, 0)), (some b31, .cells #[i64 (n), .slice (ownA kg49) g1.length cg50, .slice (ownA ko52) l1.length co53] 70 (0, 0))]) rfl
 clear H73
 have e75 : ([] : List LbT) ++ zs = zs := by rw [List.nil_append]
 have hS76 := hS71
 rw [e75] at hS76
 have H77 := H73'.as (L' := [(key68, sob ELb 38 zs sp70), (ko52, sob EI 3 l1 spo54), (kg49, sob EG 99 g1 spg51), (some b35, .cells #[u64 (δ.1), u64 (δ.2), .slice za zs.length zc, u64 (first)] 94 (0, 0)), (some b31, .cells #[i64 (n), .slice (ownA kg49) g1.length cg50, .slice (ownA ko52) l1.length co53] 70 (0, 0))]) (by rw [e75])
 refine sq (r_buildA (cs' := (cel E64 [7#64, 7#64]).toArray) (ps := [(0, u64 (7#64)), (1, u64 (7#64))]) zer38 arr38 rfl (by rfl)) ?_
 refine q_buildSlice (E := ELb) (l := ([(7#64, 7#64)] : List LbT)) H77 sli92 zer38 (bLe rfl) (ps := [(0, .agg (cel E64 [7#64, 7#64]).toArray)]) rfl (by exact fillAll rfl rfl) rfl ?_
 intro b78 w80 hS79 H81 hE82
 refine q_append (E := ELb) (k := 1) (l := zs) (l2 := ([(7#64, 7#64)] : List LbT)) H81 rfl hS76 sli92 zer38 rfl byt38 (H81.rd (k := 0) rfl hS79) rfl (by exact Nat.zero_add _) rfl (by rfl) (by omega) ?_
 intro key83 c84 sp85 w87 hS86 hne89 H88
 have H88' := H88.as (L' := [((some b78), sob ELb 38 ([(7#64, 7#64)] : List LbT) ([])), (key83, sob ELb 38 (zs ++ ([(7#64, 7#64)] : List LbT)) sp85), (ko52, sob EI 3 l1 spo54), (kg49, sob EG 99 g1 spg51), (some b35, .cells #[u64 (δ.1), u64 (δ.2), .slice za zs.length zc, u64 (first)] 94 (0, 0)), (some b31, .cells #[i64 (n), .slice (ownA kg49) g1.length cg50, .slice (ownA ko52) l1.length co53] 70 (0, 0))]) rfl
 clear H88
 have e90 : zs ++ ([(7#64, 7#64)] : List LbT) = zr := by rw [hzr]
 have hS91 := hS86
 rw [e90] at hS91
 have H92 := H88'.as (L' := [((some b78), sob ELb 38 ([(7#64, 7#64)] : List LbT) ([])), (key83, sob ELb 38 zr sp85), (ko52, sob EI 3 l1 spo54), (kg49, sob EG 99 g1 spg51), (some b35, .cells #[u64 (δ.1), u64 (δ.2), .slice za zs.length zc, u64 (first)] 94 (0, 0)), (some b31, .cells #[i64 (n), .slice (ownA kg49) g1.length cg50, .slice (ownA ko52) l1.length co53] 70 (0, 0))]) (by rw [e90])
 refine sA (.slice (ownA key83) ((0 + zs.length) + 1) c84) rfl ?_
 have hzcp := hS91.cap
 refine wend ?_
 refine seqAny ?_
 refine drawC (m := 18) [0, 0, 2, 0, 0, 16, 48, 120, 0, 256, 1023, 2047, 4095, 4095, 4095, 8191, 49151, 131071] [10] (fun q vs w' => match q, vs with | 0, [] => Ext w87 w' ∧ Hp No w w' [((some b78), sob ELb 38 ([(7#64, 7#64)] : List LbT) ([])), (key83, sob ELb 38 zr sp85), (ko52, sob EI 3 l1 spo54), (kg49, sob EG 99 g1 spg51), (some b35, .cells #[u64 (δ.1), u64 (δ.2), .slice za zs.length zc, u64 (first)] 94 (0, 0)), (some b31, .cells #[i64 (n), .slice (ownA kg49) g1.length cg50, .slice (ownA ko52) l1.length co53] 70 (0, 0))] | 1, [v0] => ∃ (lo104 : Nat) (T102 : TypeId) (x103 : Value), v0 = .tuple #[.slice none 0 0, .slice none 0 0, .iface T102 (x103)] ∧ Er lo104 w' 1 1 (.iface T102 x103) ∧ b35 < lo104 ∧ b31 < lo104 ∧ Ext w87 w' ∧ Hp No w w' [((some b78), sob ELb 38 ([(7#64, 7#64)] : List LbT) ([])), (key83, sob ELb 38 zr sp85), (ko52, sob EI 3 l1 spo54), (kg49, sob EG 99 g1 spg51), (some b35, .cells #[u64 (δ.1), u64 (δ.2), .slice za zs.length zc, u64 (first)] 94 (0, 0)), (some b31, .cells #[i64 (n), .slice (ownA kg49) g1.length cg50, .slice (ownA ko52) l1.length co53] 70 (0, 0))] | _, _ => False) mixed (by kernel_rfl) (by kernel_rfl) ⟨Ext.drew _, H92.drew⟩ ?_
 refine WalkC.look rfl (fun _ => .agg #[i64 (n), .slice (ownA kg49) g1.length cg50, .slice (ownA ko52) l1.length co53]) (fun _ _ _ => rfl) (fun q r uw hlo hhi hle hF => ?_) ?_
 ·skip
  have h1 : 0 ≤ q := Nat.zero_le _
  have h2 : q ≤ 0 := hhi 0 10 rfl rfl
  rcases (show q = 0 by omega) with rfl
  ·skip
   obtain ⟨hX, HH⟩ := hF
   exact Gives.run rfl (r_loadA (cs' := #[i64 (n), .slice (ownA kg49) g1.length cg50, .slice (ownA ko52) l1.length co53]) agg70 siz70 (HH.get (k := 5) rfl) (off := 0) rfl (by exact bLe rfl) (by rfl)) ⟨rfl, rfl⟩
 refine WalkC.look rfl (fun _ => pT b35) (fun _ _ _ => rfl) (fun q r uw _ _ _ _ => Gives.run rfl (r_fieldAddr (off' := 0) fld94_0 (by decide) (b := b35) (off := 0) rfl (by omega)) ⟨rfl, rfl⟩) ?_
 refine WalkC.look rfl (fun _ => .agg (cel E64 [δ.1, δ.2]).toArray) (fun _ _ _ => rfl) (fun q r uw hlo hhi hle hF => ?_) ?_
 ·skip
  have h1 : 0 ≤ q := Nat.zero_le _
  have h2 : q ≤ 0 := hhi 0 10 rfl rfl
  rcases (show q = 0 by omega) with rfl
  ·skip
   obtain ⟨hX, HH⟩ := hF
   exact Gives.run rfl (r_loadA (cs' := (cel E64 [δ.1, δ.2]).toArray) agg38 siz38 (HH.get (k := 4) rfl) (off := 0) rfl (by exact bLe rfl) (by rfl)) ⟨rfl, rfl⟩
 refine WalkC.look rfl (fun _ => .slice (ownA key83) ((0 + zs.length) + 1) c84) (fun _ _ _ => rfl) (fun q r uw _ _ _ _ => Gives.run rfl (r_move (v := .slice (ownA key83) ((0 + zs.length) + 1) c84) rfl) ⟨rfl, rfl⟩) ?_
 refine WalkC.look rfl (fun _ => .pointer (some ⟨b35, 2, none⟩)) (fun _ _ _ => rfl) (fun q r uw _ _ _ _ => Gives.run rfl (r_fieldAddr (off' := 2) fld94_1 (by decide) (b := b35) (off := 0) rfl (by omega)) ⟨rfl, rfl⟩) ?_
 refine WalkC.look rfl (fun _ => .slice za zs.length zc) (fun _ _ _ => rfl) (fun q r uw hlo hhi hle hF => ?_) ?_
 ·skip
  have h1 : 0 ≤ q := Nat.zero_le _
  have h2 : q ≤ 0 := hhi 0 10 rfl rfl
  rcases (show q = 0 by omega) with rfl
  ·skip
   obtain ⟨hX, HH⟩ := hF
   exact Gives.run rfl (r_loadC (v := .slice za zs.length zc) one92 (HH.get (k := 4) rfl) (off := 2) rfl (by rfl)) ⟨rfl, rfl⟩
 refine WalkC.look rfl (fun _ => i64 (zs.length : Nat)) (fun _ _ _ => rfl) (fun q r uw _ _ _ _ => Gives.run rfl (r_lenS sli92 (a := za) (m := zs.length) (c := zc) rfl) ⟨rfl, rfl⟩) ?_
 refine WalkC.look rfl (fun _ => .slice (if c84 = 0 then ownA key83 else adr (ownA key83) (0 * 2)) zs.length (c84 - 0)) (fun _ _ _ => rfl) (fun q r uw _ _ _ _ => Gives.run rfl ((r_sliceS (l := 0) (h := zs.length) sli92 rfl (.inr ⟨rfl, rfl⟩) (.inl ⟨_, _, _, rfl, rfl, by first | rfl | omega | (simp; omega)⟩) (by omega) (by omega)).as (v' := .slice (if c84 = 0 then ownA key83 else adr (ownA key83) (0 * 2)) zs.length (c84 - 0)) (by first | rfl | (congr 1; omega) | (simp; omega) | simp)) ⟨rfl, rfl⟩) ?_
 refine WalkC.look rfl (fun _ => .pointer (some ⟨b35, 3, none⟩)) (fun _ _ _ => rfl) (fun q r uw _ _ _ _ => Gives.run rfl (r_fieldAddr (off' := 3) fld94_2 (by decide) (b := b35) (off := 0) rfl (by omega)) ⟨rfl, rfl⟩) ?_
 refine WalkC.look rfl (fun _ => u64 (first)) (fun _ _ _ => rfl) (fun q r uw hlo hhi hle hF => ?_) ?_
 ·skip
  have h1 : 0 ≤ q := Nat.zero_le _
  have h2 : q ≤ 0 := hhi 0 10 rfl rfl
  rcases (show q = 0 by omega) with rfl
  ·skip
   obtain ⟨hX, HH⟩ := hF
   exact Gives.run rfl (r_loadC (v := u64 (first)) one32 (HH.get (k := 4) rfl) (off := 3) rfl (by rfl)) ⟨rfl, rfl⟩
 refine WalkC.eff 0 rfl (fun r uw93 hF95 => ?_) ?_
 ·skip
  obtain ⟨hX, H94⟩ := hF95
  dsimp only [List.take, List.map, List.cons_append, List.nil_append]
  refine Gives.ofW (d := 40) rfl rfl (fun Q' hK => ?_)
  have := H94.lt (List.mem_of_getElem? (i := 4) rfl) rfl
  have := H94.lt (List.mem_of_getElem? (i := 5) rfl) rfl
  refine c_call (vs := [.agg #[i64 (n), .slice (ownA kg49) g1.length cg50, .slice (ownA ko52) l1.length co53], .agg (cel E64 [δ.1, δ.2]).toArray, .slice (if c84 = 0 then ownA key83 else adr (ownA key83) (0 * 2)) zs.length (c84 - 0), u64 (first)]) call45 rfl (garble_num n g1 l1 (ownA kg49) (ownA ko52) cg50 co53 (δ.1, δ.2) zs (if c84 = 0 then ownA key83 else adr (ownA key83) (0 * 2)) (c84 - 0) first uw93 (Chg.gl H94.chg (fun x => x) hG) (H94.rd (k := 3) rfl hSg55) (H94.rd (k := 2) rfl hSo56) (by first | omega | exact bLe rfl) (by first | omega | exact bLe rfl) (Eq.mp (congrArg (fun q => Rd ELb _ _ q) hzd) (Rd.sub (H94.rd (k := 1) rfl hS91) 0 (zs.length) (m := c84) (fun e => by first | exact absurd e (by omega) | (rw [show zs.length = 0 by omega]; rfl)))) hg hm) ?_
  rintro _ w96 ⟨⟨v98, rfl, hEr99⟩, hE100⟩
  have H101 := H94.ext hE100
  obtain ⟨T102, x103, rfl⟩ := hEr99.iface
  obtain ⟨lo104, hlo105⟩ : ∃ lo, lo = uw93.heap.size := ⟨_, rfl⟩
  rw [← hlo105] at hEr99
  have hlt106 : b35 < lo104 := by omega
  have hlt107 : b31 < lo104 := by omega
  exact hK _ _ ⟨lo104, T102, x103, rfl, hEr99, hlt106, hlt107, (hX.trans hE100), H101⟩
 refine WalkC.look rfl (fun r => r 10) (fun r r' h => h 10 (by decide) rfl) (fun q r uw _ _ _ _ => Gives.run rfl (r_move rfl) ⟨rfl, rfl⟩) ?_
 refine WalkC.look rfl (fun r => proj (r 10) 0) (fun r r' h => by rw [h 10 (by decide) rfl]) (fun q r uw hlo hhi hle hF => ?_) ?_
 ·skip
  have h1 : 1 ≤ q := hlo 0 10 rfl rfl
  have h2 : q ≤ 1 := hle
  rcases (show q = 1 by omega) with rfl
  ·skip
   obtain ⟨lo104, T102, x103, e10, hEr99, hlt106, hlt107, hX, HH⟩ := hF
   dsimp only
   rw [e10]
   exact Gives.run rfl (r_extract (vs := #[.slice none 0 0, .slice none 0 0, .iface T102 (x103)]) rfl rfl) ⟨rfl, rfl⟩
 refine WalkC.look rfl (fun r => proj (r 10) 1) (fun r r' h => by rw [h 10 (by decide) rfl]) (fun q r uw hlo hhi hle hF => ?_) ?_
 ·skip
  have h1 : 1 ≤ q := hlo 0 10 rfl rfl
  have h2 : q ≤ 1 := hle
  rcases (show q = 1 by omega) with rfl
  ·skip
   obtain ⟨lo104, T102, x103, e10, hEr99, hlt106, hlt107, hX, HH⟩ := hF
   dsimp only
   rw [e10]
   exact Gives.run rfl (r_extract (vs := #[.slice none 0 0, .slice none 0 0, .iface T102 (x103)]) rfl rfl) ⟨rfl, rfl⟩
 refine WalkC.look rfl (fun r => proj (r 10) 2) (fun r r' h => by rw [h 10 (by decide) rfl]) (fun q r uw hlo hhi hle hF => ?_) ?_
 ·skip
  have h1 : 1 ≤ q := hlo 0 10 rfl rfl
  have h2 : q ≤ 1 := hle
  rcases (show q = 1 by omega) with rfl
  ·skip
   obtain ⟨lo104, T102, x103, e10, hEr99, hlt106, hlt107, hX, HH⟩ := hF
   dsimp only
   rw [e10]
   exact Gives.run rfl (r_extract (vs := #[.slice none 0 0, .slice none 0 0, .iface T102 (x103)]) rfl rfl) ⟨rfl, rfl⟩
 refine WalkC.look rfl (fun r => proj (r 10) 0) (fun r r' h => by rw [h 10 (by decide) rfl]) (fun q r uw _ _ _ _ => Gives.run rfl (r_assign rfl) ⟨rfl, rfl⟩) ?_
 refine WalkC.look rfl (fun r => proj (r 10) 1) (fun r r' h => by rw [h 10 (by decide) rfl]) (fun q r uw _ _ _ _ => Gives.run rfl (r_assign rfl) ⟨rfl, rfl⟩) ?_
 refine WalkC.look rfl (fun r => proj (r 10) 2) (fun r r' h => by rw [h 10 (by decide) rfl]) (fun q r uw _ _ _ _ => Gives.run rfl (r_assign rfl) ⟨rfl, rfl⟩) ?_
 refine WalkC.nil ?_
 intro r108 w109 hF111
 obtain ⟨lo104, T102, x103, e10, hEr99, hlt106, hlt107, hX, H110⟩ := hF111
 dsimp only
 rw [e10]
 refine wnil ?_
 refine thenNormal ?_
 refine seqAny ?_
 refine seqAny ?_
 refine drawAny (K := [none, none, none, none, none, none, none, none, none, none, none, none, none, none, none, none, none, none, none]) [0, 0, 2, 6, 15, 31, 0, 127, 255, 511, 511, 1535, 3583, 8191, 511, 16895, 65535, 131071, 262143] (fun w' => Ext w109 w') (fun w' w'' => Ext w' w'') mixed (by kernel_rfl) (Ext.drew _) (fun _ _ h h' => h.trans h') ?_ ?_
 ·exact relNone (by decide)
 refine ⟨.slice (ownA key83) ((0 + zs.length) + 1) c84, fun _ uw112 hC113 _ => Gives.run rfl (r_move (v := .slice (ownA key83) ((0 + zs.length) + 1) c84) rfl) ⟨rfl, Chg.refl _ _⟩, ?_⟩
 refine ⟨.pointer (some ⟨b35, 2, none⟩), fun _ uw114 hC115 _ => Gives.run rfl (r_fieldAddr (off' := 2) fld94_1 (by decide) (b := b35) (off := 0) rfl (by omega)) ⟨rfl, Chg.refl _ _⟩, ?_⟩
 refine ⟨.slice za zs.length zc, fun _ uw116 hC117 _ => Gives.run rfl (r_loadC (v := .slice za zs.length zc) one92 ((H110.ext hC117).get (k := 4) rfl) (off := 2) rfl (by rfl)) ⟨rfl, Chg.refl _ _⟩, ?_⟩
 refine ⟨i64 (zs.length : Nat), fun _ uw118 hC119 _ => Gives.run rfl (r_lenS sli92 (a := za) (m := zs.length) (c := zc) rfl) ⟨rfl, Chg.refl _ _⟩, ?_⟩
 refine ⟨.pointer (adr (ownA key83) (zs.length * 2)), fun _ uw120 hC121 _ => Gives.run rfl (r_idxS (E := ELb) (l := zr) (j := zs.length) sli92 ((H110.ext hC121).rd (k := 1) rfl hS91) rfl rfl (by first | rfl | omega | (simp; omega)) (by omega) (by omega)) ⟨rfl, Chg.refl _ _⟩, ?_⟩
 refine ⟨.agg (cel E64 [((zr).getD zs.length lb0).1, ((zr).getD zs.length lb0).2]).toArray, fun _ uw122 hC123 _ => Gives.run rfl ((r_ldS (E := ELb) (l := zr) (j := zs.length) (v := (zr).getD zs.length lb0) fits38 ((H110.ext hC123).rd (k := 1) rfl hS91) rfl rfl (at_getD (by omega))).as (v' := .agg (cel E64 [((zr).getD zs.length lb0).1, ((zr).getD zs.length lb0).2]).toArray) rfl) ⟨rfl, Chg.refl _ _⟩, ?_⟩
 refine ⟨.agg (cel E64 [7#64, 7#64]).toArray, fun _ uw124 hC125 _ => Gives.run rfl (r_buildA (cs' := (cel E64 [7#64, 7#64]).toArray) (ps := [(0, u64 (7#64)), (1, u64 (7#64))]) zer38 arr38 rfl (by rfl)) ⟨rfl, Chg.refl _ _⟩, ?_⟩
 refine ⟨.bool (false), fun _ uw126 hC127 _ => Gives.run rfl ((r_neqA (E := E64) (l := [((zr).getD zs.length lb0).1, ((zr).getD zs.length lb0).2]) (l' := [7#64, 7#64]) gty38 und38 fits32 (eqAt64 und32) (rfl) (rfl) rfl rfl).as (v' := .bool (false)) (by rw [hz7]; simp)) ⟨rfl, Chg.refl _ _⟩, ?_⟩
 refine ⟨.bool (false), fun _ uw128 hC129 _ => Gives.run rfl (r_move (v := .bool (false)) rfl) ⟨rfl, Chg.refl _ _⟩, ?_⟩
 refine ⟨.slice (ownA key83) ((0 + zs.length) + 1) c84, fun _ uw130 hC131 _ => Gives.runW (wantedSome (d' := 52) (b := false) rfl rfl rfl) (r_move (v := .slice (ownA key83) ((0 + zs.length) + 1) c84) rfl) ⟨rfl, Chg.refl _ _⟩, ?_⟩
 refine ⟨.pointer (some ⟨b35, 2, none⟩), fun _ uw132 hC133 _ => Gives.runW (wantedSome (d' := 52) (b := false) rfl rfl rfl) (r_fieldAddr (off' := 2) fld94_1 (by decide) (b := b35) (off := 0) rfl (by omega)) ⟨rfl, Chg.refl _ _⟩, ?_⟩
 refine ⟨.slice za zs.length zc, fun _ uw134 hC135 _ => Gives.runW (wantedSome (d' := 52) (b := false) rfl rfl rfl) (r_loadC (v := .slice za zs.length zc) one92 ((H110.ext hC135).get (k := 4) rfl) (off := 2) rfl (by rfl)) ⟨rfl, Chg.refl _ _⟩, ?_⟩
 refine ⟨i64 (zs.length : Nat), fun _ uw136 hC137 _ => Gives.runW (wantedSome (d' := 52) (b := false) rfl rfl rfl) (r_lenS sli92 (a := za) (m := zs.length) (c := zc) rfl) ⟨rfl, Chg.refl _ _⟩, ?_⟩
 refine ⟨.slice (if c84 = 0 then ownA key83 else adr (ownA key83) (0 * 2)) zs.length (c84 - 0), fun _ uw138 hC139 _ => Gives.runW (wantedSome (d' := 52) (b := false) rfl rfl rfl) ((r_sliceS (l := 0) (h := zs.length) sli92 rfl (.inr ⟨rfl, rfl⟩) (.inl ⟨_, _, _, rfl, rfl, by first | rfl | omega | (simp; omega)⟩) (by omega) (by omega)).as (v' := .slice (if c84 = 0 then ownA key83 else adr (ownA key83) (0 * 2)) zs.length (c84 - 0)) (by first | rfl | (congr 1; omega) | (simp; omega) | simp)) ⟨rfl, Chg.refl _ _⟩, ?_⟩
 refine ⟨.pointer (some ⟨b35, 2, none⟩), fun _ uw140 hC141 _ => Gives.runW (wantedSome (d' := 52) (b := false) rfl rfl rfl) (r_fieldAddr (off' := 2) fld94_1 (by decide) (b := b35) (off := 0) rfl (by omega)) ⟨rfl, Chg.refl _ _⟩, ?_⟩
 refine ⟨.slice za zs.length zc, fun _ uw142 hC143 _ => Gives.runW (wantedSome (d' := 52) (b := false) rfl rfl rfl) (r_loadC (v := .slice za zs.length zc) one92 ((H110.ext hC143).get (k := 4) rfl) (off := 2) rfl (by rfl)) ⟨rfl, Chg.refl _ _⟩, ?_⟩
 refine ⟨.bool (true), fun _ uw144 hC145 _ => Gives.callW (wantedSome (d' := 52) (b := false) rfl rfl rfl) (Enters.callL (vs := [.slice (if c84 = 0 then ownA key83 else adr (ownA key83) (0 * 2)) zs.length (c84 - 0), .slice za zs.length zc]) call47 rfl) (same_ok zs (if c84 = 0 then ownA key83 else adr (ownA key83) (0 * 2)) za zs.length zs.length (c84 - 0) zc rfl rfl uw144 (Eq.mp (congrArg (fun q => Rd ELb _ _ q) hzd) (Rd.sub ((H110.ext hC145).rd (k := 1) rfl hS91) 0 (zs.length) (m := c84) (fun e => by first | exact absurd e (by omega) | (rw [show zs.length = 0 by omega]; rfl)))) (hZ.ext (H110.ext hC145).chg) (by omega)), ?_⟩
 refine ⟨.bool (false), fun _ uw146 hC147 _ => Gives.runW (wantedSome (d' := 52) (b := false) rfl rfl rfl) (r_notT rfl) ⟨rfl, Chg.refl _ _⟩, ?_⟩
 refine ⟨.bool (false), fun _ uw148 hC149 _ => Gives.run rfl (r_pickF (v := .bool (false)) rfl rfl) ⟨rfl, Chg.refl _ _⟩, ?_⟩
 intro r153 w150 hE152 hF
 have H151 := H110.ext hE152
 refine wnil ?_
 refine thenNormal ?_
 refine condFalse rfl ?_
 refine skipAny ?_
 refine thenNormal ?_
 refine sR ?_
 refine sq (r_loadA (cs' := #[i64 (n), .slice (ownA kg49) g1.length cg50, .slice (ownA ko52) l1.length co53]) agg70 siz70 (H151.get (k := 5) rfl) (off := 0) rfl (by exact bLe rfl) (by rfl)) ?_
 refine c_call (vs := [.agg #[i64 (n), .slice (ownA kg49) g1.length cg50, .slice (ownA ko52) l1.length co53]]) call35 rfl (gates_ok n g1 l1 (ownA kg49) (ownA ko52) cg50 co53 w150 (H151.rd (k := 3) rfl hSg55) (by omega)) ?_
 rintro _ w154 ⟨⟨key156, c157, sp158, rfl, hS159, hk160⟩, hE161⟩
 rw [show g1.length = g1.length from rfl]
 have H162 := H151.add hE161 hk160
 refine sA (.slice (ownA key156) g1.length c157) rfl ?_
 refine wend ?_
 refine seqAny ?_
 refine blockAny ?_
 refine sR ?_
 refine sq (r_fieldAddr (off' := 0) fld70_0 (by decide) (b := b31) (off := 0) rfl (by omega)) ?_
 refine sq (r_loadC (v := i64 (n)) one3 (H162.get (k := 6) rfl) (off := 0) rfl (by rfl)) ?_
 refine sM (.slice (ownA key156) g1.length c157) rfl ?_
 refine sq (r_fieldAddr (off' := 2) fld70_2 (by decide) (b := b31) (off := 0) rfl (by omega)) ?_
 refine sq (r_loadC (v := .slice (ownA ko52) l1.length co53) one60 (H162.get (k := 6) rfl) (off := 2) rfl (by rfl)) ?_
 refine c_call (vs := [i64 (n), .slice (ownA key156) g1.length c157, .slice (ownA ko52) l1.length co53]) call53 rfl (good_yes n g1 l1 (ownA key156) (ownA ko52) c157 co53 w154 (H162.rd (k := 0) rfl hS159) (H162.rd (k := 3) rfl hSo56) (by omega) (by omega) hg) ?_
 rintro _ w163 ⟨rfl, hE164⟩
 have H165 := H162.ext hE164
 refine sq (r_notT rfl) ?_
 refine sA (.bool (false)) rfl ?_
 refine wend ?_
 refine condFalse rfl ?_
 refine sR ?_
 refine sq (r_fieldAddr (off' := 2) fld94_1 (by decide) (b := b35) (off := 0) rfl (by omega)) ?_
 refine sq (r_loadC (v := .slice za zs.length zc) one92 (H165.get (k := 5) rfl) (off := 2) rfl (by rfl)) ?_
 refine sq (r_lenS sli92 (a := za) (m := zs.length) (c := zc) rfl) ?_
 refine sq (r_fieldAddr (off' := 0) fld70_0 (by decide) (b := b31) (off := 0) rfl (by omega)) ?_
 refine sq (r_loadC (v := i64 (n)) one3 (H165.get (k := 6) rfl) (off := 0) rfl (by rfl)) ?_
 refine sq ((r_neqI (a := (zs.length : Nat)) (b := n) rfl rfl).as (v' := .bool (true)) (by exact congrArg Value.bool (decide_eq_true (by omega)))) ?_
 refine sA (.bool (true)) rfl ?_
 refine wend ?_
 refine condTrue rfl ?_
 refine sR ?_
 refine sM (.slice none 0 0) rfl ?_
 refine sq (r_lenS sli92 (a := none) (m := 0) (c := 0) rfl) ?_
 refine sM (.slice none 0 0) rfl ?_
 refine sq (r_lenS sli92 (a := none) (m := 0) (c := 0) rfl) ?_
 refine sq (r_addI (a := (0 : Nat)) (b := (0 : Nat)) rfl rfl (by omega)) ?_
 refine sq ((r_eqlI (a := (0 : Nat) + (0 : Nat)) (b := (0 : Int)) rfl rfl).as (v' := .bool (true)) (by rfl)) ?_
 refine sM (.bool (true)) rfl ?_
 refine sqAny (v := .iface T102 (x103)) (w' := w163) (wantedSome (d' := 97) (b := true) rfl rfl rfl) (r_move (v := .iface T102 (x103)) rfl) ?_
 refine caAny (wantedSome (d' := 97) (b := true) rfl rfl rfl) (Enters.callL (vs := [.iface T102 (x103)]) call26 rfl) (code_ok 1 1 lo104 (.iface T102 (x103)) w163 (Chg.gl H165.chg (fun x => x) hG) ((((hEr99.ext hE152).ext hE161).ext hE164))) ?_
 rintro _ w166 ⟨rfl, hE167⟩
 have H168 := H165.ext hE167
 refine sqAny (v := .bool (true)) (w' := w166) (wantedSome (d' := 97) (b := true) rfl rfl rfl) ((r_eqlI (a := 1) (b := (1 : Int)) rfl rfl).as (v' := .bool (true)) (by rfl)) ?_
 refine sq (r_pickT (u := .bool (true)) rfl rfl) ?_
 refine sA (.bool (true)) rfl ?_
 refine wend ?_
 refine retAny ?_
 refine blockRet ?_
 refine thenRet ?_
 refine retG (rs := [.tmp 4]) (vs := [.bool (true)]) rfl ⟨⟨rfl, rfl⟩, trivial⟩ ?_
 exact ⟨_, rfl, rfl, H168.chg⟩
set_option maxHeartbeats 2000000 in
theorem gtables_delta (n : Int) (gs : List Gt) (ol : List Int) (ga oa : Option Addr) (gc oc : Nat) (δ : Lb) (zs : List Lb) (za : Option Addr) (zc : Nat) (first : BitVec 64) (hgc : gs.length ≤ gc) (hoc : ol.length ≤ oc) (hzc : zs.length ≤ zc) (w : World) (hG : Gl w) (hGs : Rd EG w ga gs) (hOl : Rd EI w oa ol) (hZ : Rd ELb w za zs) (hzs : zs.length ≤ 8796093021952) (h1s : gs.length ≤ 60) (h2s : n ≤ 200) (hg : IsC n (gs.take 4200) (ol.take 80)) (hm : (zs.length : Int) = n) (hc : col δ = false) : Calls Tryd.prog 11 [.agg #[i64 (n), .slice ga gs.length gc, .slice oa ol.length oc], .agg #[u64 (δ.1), u64 (δ.2), .slice za zs.length zc, u64 (first)]].toArray w (Ret fun v w' => v = .bool true ∧ Ext w w') := by
 obtain ⟨g1, hg1⟩ : ∃ g1, g1 = gs.take 4200 := ⟨_, rfl⟩
 obtain ⟨l1, hl1⟩ : ∃ l1, l1 = ol.take 80 := ⟨_, rfl⟩
 have hgl1 : g1.length ≤ 60 := by rw [hg1, List.length_take]; omega
 have hll1 : l1.length ≤ 80 := by rw [hl1, List.length_take]; omega
 rw [← hg1, ← hl1] at hg
 obtain ⟨zr, hzr⟩ : ∃ zr, zr = zs ++ [((7#64, 7#64) : Lb)] := ⟨_, rfl⟩
 have hzrl : zr.length = zs.length + 1 := by rw [hzr, List.length_append]; rfl
 have hzd : (zr.drop 0).take (zs.length) = zs := by rw [hzr, List.drop_zero, List.take_left']; rfl
 have hz7 : zr.getD zs.length lb0 = (7#64, 7#64) := by rw [hzr]; exact getD_app_hi _ _ _ _ rfl
 have H := Hp.start No w
 refine enter (n := 145) Tryd.func11 rfl rfl (bLe rfl) ?_
 refine sR ?_
 refine q_box (v := .agg #[i64 (n), .slice ga gs.length gc, .slice oa ol.length oc]) (o := .cells #[i64 (n), .slice ga gs.length gc, .slice oa ol.length oc] 70 (0, 0)) H rfl (by rfl) ?_
 intro b31 w32 hb31 H33 hE34
 refine q_box (v := .agg #[u64 (δ.1), u64 (δ.2), .slice za zs.length zc, u64 (first)]) (o := .cells #[u64 (δ.1), u64 (δ.2), .slice za zs.length zc, u64 (first)] 94 (0, 0)) H33 rfl (by rfl) ?_
 intro b35 w36 hb35 H37 hE38
 refine sA (.bool (false)) rfl ?_
 refine wend ?_
 refine seqAny ?_
 refine sR ?_
 refine c_call (vs := []) call41 rfl (gawake_ok w36 (Chg.gl H37.chg (fun x => x) hG)) ?_
 rintro _ w39 ⟨rfl, hE40⟩
 have H41 := H37.ext hE40
 refine sq (r_notT rfl) ?_
 refine sM (.bool (false)) rfl ?_
 refine sqAny (v := .agg #[i64 (n), .slice ga gs.length gc, .slice oa ol.length oc]) (w' := w39) (wantedSome (d' := 14) (b := false) rfl rfl rfl) (r_loadA (cs' := #[i64 (n), .slice ga gs.length gc, .slice oa ol.length oc]) agg70 siz70 (H41.get (k := 1) rfl) (off := 0) rfl (by exact bLe rfl) (by rfl)) ?_
 refine caAny (wantedSome (d' := 14) (b := false) rfl rfl rfl) (Enters.callL (vs := [.agg #[i64 (n), .slice ga gs.length gc, .slice oa ol.length oc]]) call42 rfl) (small_yes n gs ol ga oa gc oc w39 h1s h2s) ?_
 rintro _ w42 ⟨rfl, hE43⟩
 have H44 := H41.ext hE43
 refine sqAny (v := .bool (false)) (w' := w42) (wantedSome (d' := 14) (b := false) rfl rfl rfl) (r_notT rfl) ?_
 refine sq (r_pickF (v := .bool (false)) rfl rfl) ?_
 refine wend ?_
 refine condFalse rfl ?_
 refine skipAny ?_
 refine thenNormal ?_
 refine sR ?_
 refine sq (r_loadA (cs' := #[i64 (n), .slice ga gs.length gc, .slice oa ol.length oc]) agg70 siz70 (H44.get (k := 1) rfl) (off := 0) rfl (by exact bLe rfl) (by rfl)) ?_
 refine c_call (vs := [.agg #[i64 (n), .slice ga gs.length gc, .slice oa ol.length oc]]) call43 rfl (own_ok n gs ol ga oa gc oc hgc hoc w42 (hGs.ext H44.chg) (hOl.ext H44.chg)) ?_
 rintro _ w45 ⟨⟨ng47, no48, kg49, cg50, spg51, ko52, co53, spo54, rfl, rfl, rfl, hSg55, hSo56, HN57⟩, hE58⟩
 rw [← hg1] at hSg55 HN57
 rw [← hl1] at hSo56 HN57
 rw [← hg1, ← hl1]
 have H59 := (H44.join HN57).as (L' := [(ko52, sob EI 3 l1 spo54), (kg49, sob EG 99 g1 spg51), (some b35, .cells #[u64 (δ.1), u64 (δ.2), .slice za zs.length zc, u64 (first)] 94 (0, 0)), (some b31, .cells #[i64 (n), .slice ga gs.length gc, .slice oa ol.length oc] 70 (0, 0))]) rfl
 refine d_store (k := 3) (v := .agg #[i64 (n), .slice (ownA kg49) g1.length cg50, .slice (ownA ko52) l1.length co53]) (cs' := #[i64 (n), .slice (ownA kg49) g1.length cg50, .slice (ownA ko52) l1.length co53]) H59 rfl rfl rfl siz70 (by rfl) (by intro u hu; simp [Value.cells] at hu; first | (subst hu; rfl) | (rcases hu with rfl | rfl | rfl <;> rfl)) (by exact bLe rfl) (by rfl) ?_
 intro w60 H61 hC62
 have H61' := H61.as (L' := [(ko52, sob EI 3 l1 spo54), (kg49, sob EG 99 g1 spg51), (some b35, .cells #[u64 (δ.1), u64 (δ.2), .slice za zs.length zc, u64 (first)] 94 (0, 0)), (some b31, .cells #[i64 (n), .slice (ownA kg49) g1.length cg50, .slice (ownA ko52) l1.length co53] 70 (0, 0))]) rfl
 clear H61
 refine wend ?_
 refine sR ?_
 refine q_buildSlice (E := ELb) (l := ([] : List LbT)) H61' sli92 zer38 (bLe rfl) (ps := []) rfl (by exact fillAll rfl rfl) rfl ?_
 intro b63 w65 hS64 H66 hE67
 refine sq (r_fieldAddr (off' := 2) fld94_1 (by decide) (b := b35) (off := 0) rfl (by omega)) ?_
 refine sq (r_loadC (v := .slice za zs.length zc) one92 (H66.get (k := 3) rfl) (off := 2) rfl (by rfl)) ?_
 refine q_append (E := ELb) (k := 0) (l := ([] : List LbT)) (l2 := zs) H66 rfl hS64 sli92 zer38 rfl byt38 (hZ.ext H66.chg) rfl (by rfl) rfl (by rfl) (by omega) ?_
 intro key68 c69 sp70 w72 hS71 hne74 H73
 have H73' := H73.as (L' := [(key68, sob ELb 38 (([] : List LbT) ++ zs) sp70), (ko52, sob EI 3 l1 spo54), (kg49, sob EG 99 g1 spg51), (some b35, .cells #[u64 (δ.1), u64 (δ.2), .slice za zs.length zc, u64 (first)] 94 (0, 0)), (some b31, .cells #[i64 (n), .slice (ownA kg49) g1.length cg50, .slice (ownA ko52) l1.length co53] 70 (0, 0))]) rfl
 clear H73
 have e75 : ([] : List LbT) ++ zs = zs := by rw [List.nil_append]
 have hS76 := hS71
 rw [e75] at hS76
 have H77 := H73'.as (L' := [(key68, sob ELb 38 zs sp70), (ko52, sob EI 3 l1 spo54), (kg49, sob EG 99 g1 spg51), (some b35, .cells #[u64 (δ.1), u64 (δ.2), .slice za zs.length zc, u64 (first)] 94 (0, 0)), (some b31, .cells #[i64 (n), .slice (ownA kg49) g1.length cg50, .slice (ownA ko52) l1.length co53] 70 (0, 0))]) (by rw [e75])
 refine sq (r_buildA (cs' := (cel E64 [7#64, 7#64]).toArray) (ps := [(0, u64 (7#64)), (1, u64 (7#64))]) zer38 arr38 rfl (by rfl)) ?_
 refine q_buildSlice (E := ELb) (l := ([(7#64, 7#64)] : List LbT)) H77 sli92 zer38 (bLe rfl) (ps := [(0, .agg (cel E64 [7#64, 7#64]).toArray)]) rfl (by exact fillAll rfl rfl) rfl ?_
 intro b78 w80 hS79 H81 hE82
 refine q_append (E := ELb) (k := 1) (l := zs) (l2 := ([(7#64, 7#64)] : List LbT)) H81 rfl hS76 sli92 zer38 rfl byt38 (H81.rd (k := 0) rfl hS79) rfl (by exact Nat.zero_add _) rfl (by rfl) (by omega) ?_
 intro key83 c84 sp85 w87 hS86 hne89 H88
 have H88' := H88.as (L' := [((some b78), sob ELb 38 ([(7#64, 7#64)] : List LbT) ([])), (key83, sob ELb 38 (zs ++ ([(7#64, 7#64)] : List LbT)) sp85), (ko52, sob EI 3 l1 spo54), (kg49, sob EG 99 g1 spg51), (some b35, .cells #[u64 (δ.1), u64 (δ.2), .slice za zs.length zc, u64 (first)] 94 (0, 0)), (some b31, .cells #[i64 (n), .slice (ownA kg49) g1.length cg50, .slice (ownA ko52) l1.length co53] 70 (0, 0))]) rfl
 clear H88
 have e90 : zs ++ ([(7#64, 7#64)] : List LbT) = zr := by rw [hzr]
 have hS91 := hS86
 rw [e90] at hS91
 have H92 := H88'.as (L' := [((some b78), sob ELb 38 ([(7#64, 7#64)] : List LbT) ([])), (key83, sob ELb 38 zr sp85), (ko52, sob EI 3 l1 spo54), (kg49, sob EG 99 g1 spg51), (some b35, .cells #[u64 (δ.1), u64 (δ.2), .slice za zs.length zc, u64 (first)] 94 (0, 0)), (some b31, .cells #[i64 (n), .slice (ownA kg49) g1.length cg50, .slice (ownA ko52) l1.length co53] 70 (0, 0))]) (by rw [e90])
 refine sA (.slice (ownA key83) ((0 + zs.length) + 1) c84) rfl ?_
 have hzcp := hS91.cap
 refine wend ?_
 refine seqAny ?_
 refine drawC (m := 18) [0, 0, 2, 0, 0, 16, 48, 120, 0, 256, 1023, 2047, 4095, 4095, 4095, 8191, 49151, 131071] [10] (fun q vs w' => match q, vs with | 0, [] => Ext w87 w' ∧ Hp No w w' [((some b78), sob ELb 38 ([(7#64, 7#64)] : List LbT) ([])), (key83, sob ELb 38 zr sp85), (ko52, sob EI 3 l1 spo54), (kg49, sob EG 99 g1 spg51), (some b35, .cells #[u64 (δ.1), u64 (δ.2), .slice za zs.length zc, u64 (first)] 94 (0, 0)), (some b31, .cells #[i64 (n), .slice (ownA kg49) g1.length cg50, .slice (ownA ko52) l1.length co53] 70 (0, 0))] | 1, [v0] => ∃ (lo104 : Nat) (T102 : TypeId) (x103 : Value), v0 = .tuple #[.slice none 0 0, .slice none 0 0, .iface T102 (x103)] ∧ Er lo104 w' 100 1 (.iface T102 x103) ∧ b35 < lo104 ∧ b31 < lo104 ∧ Ext w87 w' ∧ Hp No w w' [((some b78), sob ELb 38 ([(7#64, 7#64)] : List LbT) ([])), (key83, sob ELb 38 zr sp85), (ko52, sob EI 3 l1 spo54), (kg49, sob EG 99 g1 spg51), (some b35, .cells #[u64 (δ.1), u64 (δ.2), .slice za zs.length zc, u64 (first)] 94 (0, 0)), (some b31, .cells #[i64 (n), .slice (ownA kg49) g1.length cg50, .slice (ownA ko52) l1.length co53] 70 (0, 0))] | _, _ => False) mixed (by kernel_rfl) (by kernel_rfl) ⟨Ext.drew _, H92.drew⟩ ?_
 refine WalkC.look rfl (fun _ => .agg #[i64 (n), .slice (ownA kg49) g1.length cg50, .slice (ownA ko52) l1.length co53]) (fun _ _ _ => rfl) (fun q r uw hlo hhi hle hF => ?_) ?_
 ·skip
  have h1 : 0 ≤ q := Nat.zero_le _
  have h2 : q ≤ 0 := hhi 0 10 rfl rfl
  rcases (show q = 0 by omega) with rfl
  ·skip
   obtain ⟨hX, HH⟩ := hF
   exact Gives.run rfl (r_loadA (cs' := #[i64 (n), .slice (ownA kg49) g1.length cg50, .slice (ownA ko52) l1.length co53]) agg70 siz70 (HH.get (k := 5) rfl) (off := 0) rfl (by exact bLe rfl) (by rfl)) ⟨rfl, rfl⟩
 refine WalkC.look rfl (fun _ => pT b35) (fun _ _ _ => rfl) (fun q r uw _ _ _ _ => Gives.run rfl (r_fieldAddr (off' := 0) fld94_0 (by decide) (b := b35) (off := 0) rfl (by omega)) ⟨rfl, rfl⟩) ?_
 refine WalkC.look rfl (fun _ => .agg (cel E64 [δ.1, δ.2]).toArray) (fun _ _ _ => rfl) (fun q r uw hlo hhi hle hF => ?_) ?_
 ·skip
  have h1 : 0 ≤ q := Nat.zero_le _
  have h2 : q ≤ 0 := hhi 0 10 rfl rfl
  rcases (show q = 0 by omega) with rfl
  ·skip
   obtain ⟨hX, HH⟩ := hF
   exact Gives.run rfl (r_loadA (cs' := (cel E64 [δ.1, δ.2]).toArray) agg38 siz38 (HH.get (k := 4) rfl) (off := 0) rfl (by exact bLe rfl) (by rfl)) ⟨rfl, rfl⟩
 refine WalkC.look rfl (fun _ => .slice (ownA key83) ((0 + zs.length) + 1) c84) (fun _ _ _ => rfl) (fun q r uw _ _ _ _ => Gives.run rfl (r_move (v := .slice (ownA key83) ((0 + zs.length) + 1) c84) rfl) ⟨rfl, rfl⟩) ?_
 refine WalkC.look rfl (fun _ => .pointer (some ⟨b35, 2, none⟩)) (fun _ _ _ => rfl) (fun q r uw _ _ _ _ => Gives.run rfl (r_fieldAddr (off' := 2) fld94_1 (by decide) (b := b35) (off := 0) rfl (by omega)) ⟨rfl, rfl⟩) ?_
 refine WalkC.look rfl (fun _ => .slice za zs.length zc) (fun _ _ _ => rfl) (fun q r uw hlo hhi hle hF => ?_) ?_
 ·skip
  have h1 : 0 ≤ q := Nat.zero_le _
  have h2 : q ≤ 0 := hhi 0 10 rfl rfl
  rcases (show q = 0 by omega) with rfl
  ·skip
   obtain ⟨hX, HH⟩ := hF
   exact Gives.run rfl (r_loadC (v := .slice za zs.length zc) one92 (HH.get (k := 4) rfl) (off := 2) rfl (by rfl)) ⟨rfl, rfl⟩
 refine WalkC.look rfl (fun _ => i64 (zs.length : Nat)) (fun _ _ _ => rfl) (fun q r uw _ _ _ _ => Gives.run rfl (r_lenS sli92 (a := za) (m := zs.length) (c := zc) rfl) ⟨rfl, rfl⟩) ?_
 refine WalkC.look rfl (fun _ => .slice (if c84 = 0 then ownA key83 else adr (ownA key83) (0 * 2)) zs.length (c84 - 0)) (fun _ _ _ => rfl) (fun q r uw _ _ _ _ => Gives.run rfl ((r_sliceS (l := 0) (h := zs.length) sli92 rfl (.inr ⟨rfl, rfl⟩) (.inl ⟨_, _, _, rfl, rfl, by first | rfl | omega | (simp; omega)⟩) (by omega) (by omega)).as (v' := .slice (if c84 = 0 then ownA key83 else adr (ownA key83) (0 * 2)) zs.length (c84 - 0)) (by first | rfl | (congr 1; omega) | (simp; omega) | simp)) ⟨rfl, rfl⟩) ?_
 refine WalkC.look rfl (fun _ => .pointer (some ⟨b35, 3, none⟩)) (fun _ _ _ => rfl) (fun q r uw _ _ _ _ => Gives.run rfl (r_fieldAddr (off' := 3) fld94_2 (by decide) (b := b35) (off := 0) rfl (by omega)) ⟨rfl, rfl⟩) ?_
 refine WalkC.look rfl (fun _ => u64 (first)) (fun _ _ _ => rfl) (fun q r uw hlo hhi hle hF => ?_) ?_
 ·skip
  have h1 : 0 ≤ q := Nat.zero_le _
  have h2 : q ≤ 0 := hhi 0 10 rfl rfl
  rcases (show q = 0 by omega) with rfl
  ·skip
   obtain ⟨hX, HH⟩ := hF
   exact Gives.run rfl (r_loadC (v := u64 (first)) one32 (HH.get (k := 4) rfl) (off := 3) rfl (by rfl)) ⟨rfl, rfl⟩
 refine WalkC.eff 0 rfl (fun r uw93 hF95 => ?_) ?_
 ·skip
  obtain ⟨hX, H94⟩ := hF95
  dsimp only [List.take, List.map, List.cons_append, List.nil_append]
  refine Gives.ofW (d := 40) rfl rfl (fun Q' hK => ?_)
  have := H94.lt (List.mem_of_getElem? (i := 4) rfl) rfl
  have := H94.lt (List.mem_of_getElem? (i := 5) rfl) rfl
  refine c_call (vs := [.agg #[i64 (n), .slice (ownA kg49) g1.length cg50, .slice (ownA ko52) l1.length co53], .agg (cel E64 [δ.1, δ.2]).toArray, .slice (if c84 = 0 then ownA key83 else adr (ownA key83) (0 * 2)) zs.length (c84 - 0), u64 (first)]) call45 rfl (garble_delta n g1 l1 (ownA kg49) (ownA ko52) cg50 co53 (δ.1, δ.2) zs (if c84 = 0 then ownA key83 else adr (ownA key83) (0 * 2)) (c84 - 0) first uw93 (Chg.gl H94.chg (fun x => x) hG) (H94.rd (k := 3) rfl hSg55) (H94.rd (k := 2) rfl hSo56) (by first | omega | exact bLe rfl) (by first | omega | exact bLe rfl) (Eq.mp (congrArg (fun q => Rd ELb _ _ q) hzd) (Rd.sub (H94.rd (k := 1) rfl hS91) 0 (zs.length) (m := c84) (fun e => by first | exact absurd e (by omega) | (rw [show zs.length = 0 by omega]; rfl)))) hg hm hc) ?_
  rintro _ w96 ⟨⟨v98, rfl, hEr99⟩, hE100⟩
  have H101 := H94.ext hE100
  obtain ⟨T102, x103, rfl⟩ := hEr99.iface
  obtain ⟨lo104, hlo105⟩ : ∃ lo, lo = uw93.heap.size := ⟨_, rfl⟩
  rw [← hlo105] at hEr99
  have hlt106 : b35 < lo104 := by omega
  have hlt107 : b31 < lo104 := by omega
  exact hK _ _ ⟨lo104, T102, x103, rfl, hEr99, hlt106, hlt107, (hX.trans hE100), H101⟩
 refine WalkC.look rfl (fun r => r 10) (fun r r' h => h 10 (by decide) rfl) (fun q r uw _ _ _ _ => Gives.run rfl (r_move rfl) ⟨rfl, rfl⟩) ?_
 refine WalkC.look rfl (fun r => proj (r 10) 0) (fun r r' h => by rw [h 10 (by decide) rfl]) (fun q r uw hlo hhi hle hF => ?_) ?_
 ·skip
  have h1 : 1 ≤ q := hlo 0 10 rfl rfl
  have h2 : q ≤ 1 := hle
  rcases (show q = 1 by omega) with rfl
  ·skip
   obtain ⟨lo104, T102, x103, e10, hEr99, hlt106, hlt107, hX, HH⟩ := hF
   dsimp only
   rw [e10]
   exact Gives.run rfl (r_extract (vs := #[.slice none 0 0, .slice none 0 0, .iface T102 (x103)]) rfl rfl) ⟨rfl, rfl⟩
 refine WalkC.look rfl (fun r => proj (r 10) 1) (fun r r' h => by rw [h 10 (by decide) rfl]) (fun q r uw hlo hhi hle hF => ?_) ?_
 ·skip
  have h1 : 1 ≤ q := hlo 0 10 rfl rfl
  have h2 : q ≤ 1 := hle
  rcases (show q = 1 by omega) with rfl
  ·skip
   obtain ⟨lo104, T102, x103, e10, hEr99, hlt106, hlt107, hX, HH⟩ := hF
   dsimp only
   rw [e10]
   exact Gives.run rfl (r_extract (vs := #[.slice none 0 0, .slice none 0 0, .iface T102 (x103)]) rfl rfl) ⟨rfl, rfl⟩
 refine WalkC.look rfl (fun r => proj (r 10) 2) (fun r r' h => by rw [h 10 (by decide) rfl]) (fun q r uw hlo hhi hle hF => ?_) ?_
 ·skip
  have h1 : 1 ≤ q := hlo 0 10 rfl rfl
  have h2 : q ≤ 1 := hle
  rcases (show q = 1 by omega) with rfl
  ·skip
   obtain ⟨lo104, T102, x103, e10, hEr99, hlt106, hlt107, hX, HH⟩ := hF
   dsimp only
   rw [e10]
   exact Gives.run rfl (r_extract (vs := #[.slice none 0 0, .slice none 0 0, .iface T102 (x103)]) rfl rfl) ⟨rfl, rfl⟩
 refine WalkC.look rfl (fun r => proj (r 10) 0) (fun r r' h => by rw [h 10 (by decide) rfl]) (fun q r uw _ _ _ _ => Gives.run rfl (r_assign rfl) ⟨rfl, rfl⟩) ?_
 refine WalkC.look rfl (fun r => proj (r 10) 1) (fun r r' h => by rw [h 10 (by decide) rfl]) (fun q r uw _ _ _ _ => Gives.run rfl (r_assign rfl) ⟨rfl, rfl⟩) ?_
 refine WalkC.look rfl (fun r => proj (r 10) 2) (fun r r' h => by rw [h 10 (by decide) rfl]) (fun q r uw _ _ _ _ => Gives.run rfl (r_assign rfl) ⟨rfl, rfl⟩) ?_
 refine WalkC.nil ?_
 intro r108 w109 hF111
 obtain ⟨lo104, T102, x103, e10, hEr99, hlt106, hlt107, hX, H110⟩ := hF111
 dsimp only
 rw [e10]
 refine wnil ?_
 refine thenNormal ?_
 refine seqAny ?_
 refine seqAny ?_
 refine drawAny (K := [none, none, none, none, none, none, none, none, none, none, none, none, none, none, none, none, none, none, none]) [0, 0, 2, 6, 15, 31, 0, 127, 255, 511, 511, 1535, 3583, 8191, 511, 16895, 65535, 131071, 262143] (fun w' => Ext w109 w') (fun w' w'' => Ext w' w'') mixed (by kernel_rfl) (Ext.drew _) (fun _ _ h h' => h.trans h') ?_ ?_
 ·exact relNone (by decide)
 refine ⟨.slice (ownA key83) ((0 + zs.length) + 1) c84, fun _ uw112 hC113 _ => Gives.run rfl (r_move (v := .slice (ownA key83) ((0 + zs.length) + 1) c84) rfl) ⟨rfl, Chg.refl _ _⟩, ?_⟩
 refine ⟨.pointer (some ⟨b35, 2, none⟩), fun _ uw114 hC115 _ => Gives.run rfl (r_fieldAddr (off' := 2) fld94_1 (by decide) (b := b35) (off := 0) rfl (by omega)) ⟨rfl, Chg.refl _ _⟩, ?_⟩
 refine ⟨.slice za zs.length zc, fun _ uw116 hC117 _ => Gives.run rfl (r_loadC (v := .slice za zs.length zc) one92 ((H110.ext hC117).get (k := 4) rfl) (off := 2) rfl (by rfl)) ⟨rfl, Chg.refl _ _⟩, ?_⟩
 refine ⟨i64 (zs.length : Nat), fun _ uw118 hC119 _ => Gives.run rfl (r_lenS sli92 (a := za) (m := zs.length) (c := zc) rfl) ⟨rfl, Chg.refl _ _⟩, ?_⟩
 refine ⟨.pointer (adr (ownA key83) (zs.length * 2)), fun _ uw120 hC121 _ => Gives.run rfl (r_idxS (E := ELb) (l := zr) (j := zs.length) sli92 ((H110.ext hC121).rd (k := 1) rfl hS91) rfl rfl (by first | rfl | omega | (simp; omega)) (by omega) (by omega)) ⟨rfl, Chg.refl _ _⟩, ?_⟩
 refine ⟨.agg (cel E64 [((zr).getD zs.length lb0).1, ((zr).getD zs.length lb0).2]).toArray, fun _ uw122 hC123 _ => Gives.run rfl ((r_ldS (E := ELb) (l := zr) (j := zs.length) (v := (zr).getD zs.length lb0) fits38 ((H110.ext hC123).rd (k := 1) rfl hS91) rfl rfl (at_getD (by omega))).as (v' := .agg (cel E64 [((zr).getD zs.length lb0).1, ((zr).getD zs.length lb0).2]).toArray) rfl) ⟨rfl, Chg.refl _ _⟩, ?_⟩
 refine ⟨.agg (cel E64 [7#64, 7#64]).toArray, fun _ uw124 hC125 _ => Gives.run rfl (r_buildA (cs' := (cel E64 [7#64, 7#64]).toArray) (ps := [(0, u64 (7#64)), (1, u64 (7#64))]) zer38 arr38 rfl (by rfl)) ⟨rfl, Chg.refl _ _⟩, ?_⟩
 refine ⟨.bool (false), fun _ uw126 hC127 _ => Gives.run rfl ((r_neqA (E := E64) (l := [((zr).getD zs.length lb0).1, ((zr).getD zs.length lb0).2]) (l' := [7#64, 7#64]) gty38 und38 fits32 (eqAt64 und32) (rfl) (rfl) rfl rfl).as (v' := .bool (false)) (by rw [hz7]; simp)) ⟨rfl, Chg.refl _ _⟩, ?_⟩
 refine ⟨.bool (false), fun _ uw128 hC129 _ => Gives.run rfl (r_move (v := .bool (false)) rfl) ⟨rfl, Chg.refl _ _⟩, ?_⟩
 refine ⟨.slice (ownA key83) ((0 + zs.length) + 1) c84, fun _ uw130 hC131 _ => Gives.runW (wantedSome (d' := 52) (b := false) rfl rfl rfl) (r_move (v := .slice (ownA key83) ((0 + zs.length) + 1) c84) rfl) ⟨rfl, Chg.refl _ _⟩, ?_⟩
 refine ⟨.pointer (some ⟨b35, 2, none⟩), fun _ uw132 hC133 _ => Gives.runW (wantedSome (d' := 52) (b := false) rfl rfl rfl) (r_fieldAddr (off' := 2) fld94_1 (by decide) (b := b35) (off := 0) rfl (by omega)) ⟨rfl, Chg.refl _ _⟩, ?_⟩
 refine ⟨.slice za zs.length zc, fun _ uw134 hC135 _ => Gives.runW (wantedSome (d' := 52) (b := false) rfl rfl rfl) (r_loadC (v := .slice za zs.length zc) one92 ((H110.ext hC135).get (k := 4) rfl) (off := 2) rfl (by rfl)) ⟨rfl, Chg.refl _ _⟩, ?_⟩
 refine ⟨i64 (zs.length : Nat), fun _ uw136 hC137 _ => Gives.runW (wantedSome (d' := 52) (b := false) rfl rfl rfl) (r_lenS sli92 (a := za) (m := zs.length) (c := zc) rfl) ⟨rfl, Chg.refl _ _⟩, ?_⟩
 refine ⟨.slice (if c84 = 0 then ownA key83 else adr (ownA key83) (0 * 2)) zs.length (c84 - 0), fun _ uw138 hC139 _ => Gives.runW (wantedSome (d' := 52) (b := false) rfl rfl rfl) ((r_sliceS (l := 0) (h := zs.length) sli92 rfl (.inr ⟨rfl, rfl⟩) (.inl ⟨_, _, _, rfl, rfl, by first | rfl | omega | (simp; omega)⟩) (by omega) (by omega)).as (v' := .slice (if c84 = 0 then ownA key83 else adr (ownA key83) (0 * 2)) zs.length (c84 - 0)) (by first | rfl | (congr 1; omega) | (simp; omega) | simp)) ⟨rfl, Chg.refl _ _⟩, ?_⟩
 refine ⟨.pointer (some ⟨b35, 2, none⟩), fun _ uw140 hC141 _ => Gives.runW (wantedSome (d' := 52) (b := false) rfl rfl rfl) (r_fieldAddr (off' := 2) fld94_1 (by decide) (b := b35) (off := 0) rfl (by omega)) ⟨rfl, Chg.refl _ _⟩, ?_⟩
 refine ⟨.slice za zs.length zc, fun _ uw142 hC143 _ => Gives.runW (wantedSome (d' := 52) (b := false) rfl rfl rfl) (r_loadC (v := .slice za zs.length zc) one92 ((H110.ext hC143).get (k := 4) rfl) (off := 2) rfl (by rfl)) ⟨rfl, Chg.refl _ _⟩, ?_⟩
 refine ⟨.bool (true), fun _ uw144 hC145 _ => Gives.callW (wantedSome (d' := 52) (b := false) rfl rfl rfl) (Enters.callL (vs := [.slice (if c84 = 0 then ownA key83 else adr (ownA key83) (0 * 2)) zs.length (c84 - 0), .slice za zs.length zc]) call47 rfl) (same_ok zs (if c84 = 0 then ownA key83 else adr (ownA key83) (0 * 2)) za zs.length zs.length (c84 - 0) zc rfl rfl uw144 (Eq.mp (congrArg (fun q => Rd ELb _ _ q) hzd) (Rd.sub ((H110.ext hC145).rd (k := 1) rfl hS91) 0 (zs.length) (m := c84) (fun e => by first | exact absurd e (by omega) | (rw [show zs.length = 0 by omega]; rfl)))) (hZ.ext (H110.ext hC145).chg) (by omega)), ?_⟩
 refine ⟨.bool (false), fun _ uw146 hC147 _ => Gives.runW (wantedSome (d' := 52) (b := false) rfl rfl rfl) (r_notT rfl) ⟨rfl, Chg.refl _ _⟩, ?_⟩
 refine ⟨.bool (false), fun _ uw148 hC149 _ => Gives.run rfl (r_pickF (v := .bool (false)) rfl rfl) ⟨rfl, Chg.refl _ _⟩, ?_⟩
 intro r153 w150 hE152 hF
 have H151 := H110.ext hE152
 refine wnil ?_
 refine thenNormal ?_
 refine condFalse rfl ?_
 refine skipAny ?_
 refine thenNormal ?_
 refine sR ?_
 refine sq (r_loadA (cs' := #[i64 (n), .slice (ownA kg49) g1.length cg50, .slice (ownA ko52) l1.length co53]) agg70 siz70 (H151.get (k := 5) rfl) (off := 0) rfl (by exact bLe rfl) (by rfl)) ?_
 refine c_call (vs := [.agg #[i64 (n), .slice (ownA kg49) g1.length cg50, .slice (ownA ko52) l1.length co53]]) call35 rfl (gates_ok n g1 l1 (ownA kg49) (ownA ko52) cg50 co53 w150 (H151.rd (k := 3) rfl hSg55) (by omega)) ?_
 rintro _ w154 ⟨⟨key156, c157, sp158, rfl, hS159, hk160⟩, hE161⟩
 rw [show g1.length = g1.length from rfl]
 have H162 := H151.add hE161 hk160
 refine sA (.slice (ownA key156) g1.length c157) rfl ?_
 refine wend ?_
 refine seqAny ?_
 refine blockAny ?_
 refine sR ?_
 refine sq (r_fieldAddr (off' := 0) fld70_0 (by decide) (b := b31) (off := 0) rfl (by omega)) ?_
 refine sq (r_loadC (v := i64 (n)) one3 (H162.get (k := 6) rfl) (off := 0) rfl (by rfl)) ?_
 refine sM (.slice (ownA key156) g1.length c157) rfl ?_
 refine sq (r_fieldAddr (off' := 2) fld70_2 (by decide) (b := b31) (off := 0) rfl (by omega)) ?_
 refine sq (r_loadC (v := .slice (ownA ko52) l1.length co53) one60 (H162.get (k := 6) rfl) (off := 2) rfl (by rfl)) ?_
 refine c_call (vs := [i64 (n), .slice (ownA key156) g1.length c157, .slice (ownA ko52) l1.length co53]) call53 rfl (good_yes n g1 l1 (ownA key156) (ownA ko52) c157 co53 w154 (H162.rd (k := 0) rfl hS159) (H162.rd (k := 3) rfl hSo56) (by omega) (by omega) hg) ?_
 rintro _ w163 ⟨rfl, hE164⟩
 have H165 := H162.ext hE164
 refine sq (r_notT rfl) ?_
 refine sA (.bool (false)) rfl ?_
 refine wend ?_
 refine condFalse rfl ?_
 refine sR ?_
 refine sq (r_fieldAddr (off' := 2) fld94_1 (by decide) (b := b35) (off := 0) rfl (by omega)) ?_
 refine sq (r_loadC (v := .slice za zs.length zc) one92 (H165.get (k := 5) rfl) (off := 2) rfl (by rfl)) ?_
 refine sq (r_lenS sli92 (a := za) (m := zs.length) (c := zc) rfl) ?_
 refine sq (r_fieldAddr (off' := 0) fld70_0 (by decide) (b := b31) (off := 0) rfl (by omega)) ?_
 refine sq (r_loadC (v := i64 (n)) one3 (H165.get (k := 6) rfl) (off := 0) rfl (by rfl)) ?_
 refine sq ((r_neqI (a := (zs.length : Nat)) (b := n) rfl rfl).as (v' := .bool (false)) (by exact congrArg Value.bool (decide_eq_false (by omega)))) ?_
 refine sA (.bool (false)) rfl ?_
 refine wend ?_
 refine condFalse rfl ?_
 refine sR ?_
 refine sq (r_fieldAddr (off' := 0) fld94_0 (by decide) (b := b35) (off := 0) rfl (by omega)) ?_
 refine sq (r_indexA (off' := 0) (j := 0) arr38 (b := b35) (off := 0) rfl rfl (by first | rfl | omega | (simp; omega)) (by omega) (by omega)) ?_
 refine sq (r_loadC (v := u64 (δ.1)) one32 (H165.get (k := 5) rfl) (off := 0) rfl (by rfl)) ?_
 refine sq (r_rem64 (a := δ.1) (b := 2#64) rfl rfl (by decide)) ?_
 refine sq ((r_eql64 (a := δ.1 % (2#64)) (b := 0#64) rfl rfl).as (v' := .bool (true)) (by rw [col_even hc])) ?_
 refine sA (.bool (true)) rfl ?_
 refine wend ?_
 refine condTrue rfl ?_
 refine sR ?_
 refine sM (.slice none 0 0) rfl ?_
 refine sq (r_lenS sli92 (a := none) (m := 0) (c := 0) rfl) ?_
 refine sM (.slice none 0 0) rfl ?_
 refine sq (r_lenS sli92 (a := none) (m := 0) (c := 0) rfl) ?_
 refine sq (r_addI (a := (0 : Nat)) (b := (0 : Nat)) rfl rfl (by omega)) ?_
 refine sq ((r_eqlI (a := (0 : Nat) + (0 : Nat)) (b := (0 : Int)) rfl rfl).as (v' := .bool (true)) (by rfl)) ?_
 refine sM (.bool (true)) rfl ?_
 refine sqAny (v := .iface T102 (x103)) (w' := w163) (wantedSome (d' := 114) (b := true) rfl rfl rfl) (r_move (v := .iface T102 (x103)) rfl) ?_
 refine caAny (wantedSome (d' := 114) (b := true) rfl rfl rfl) (Enters.callL (vs := [.iface T102 (x103)]) call26 rfl) (code_ok 100 1 lo104 (.iface T102 (x103)) w163 (Chg.gl H165.chg (fun x => x) hG) ((((hEr99.ext hE152).ext hE161).ext hE164))) ?_
 rintro _ w166 ⟨rfl, hE167⟩
 have H168 := H165.ext hE167
 refine sqAny (v := .bool (true)) (w' := w166) (wantedSome (d' := 114) (b := true) rfl rfl rfl) ((r_eqlI (a := 100) (b := (100 : Int)) rfl rfl).as (v' := .bool (true)) (by rfl)) ?_
 refine sq (r_pickT (u := .bool (true)) rfl rfl) ?_
 refine sA (.bool (true)) rfl ?_
 refine wend ?_
 refine retAny ?_
 refine blockRet ?_
 refine thenRet ?_
 refine retG (rs := [.tmp 4]) (vs := [.bool (true)]) rfl ⟨⟨rfl, rfl⟩, trivial⟩ ?_
 exact ⟨_, rfl, rfl, H168.chg⟩
set_option maxRecDepth 20000 in
set_option maxHeartbeats 2000000 in
theorem gtables_ok (n : Int) (gs : List Gt) (ol : List Int) (ga oa : Option Addr) (gc oc : Nat) (δ : Lb) (zs : List Lb) (za : Option Addr) (zc : Nat) (first : BitVec 64) (hgc : gs.length ≤ gc) (hoc : ol.length ≤ oc) (hzc : zs.length ≤ zc) (w : World) (hG : Gl w) (hGs : Rd EG w ga gs) (hOl : Rd EI w oa ol) (hZ : Rd ELb w za zs) (hzs : zs.length ≤ 8796093021952) (h1s : gs.length ≤ 60) (h2s : n ≤ 200) (hg : IsC n (gs.take 4200) (ol.take 80)) (hm : (zs.length : Int) = n) (hc : col δ = true) : Calls Tryd.prog 11 [.agg #[i64 (n), .slice ga gs.length gc, .slice oa ol.length oc], .agg #[u64 (δ.1), u64 (δ.2), .slice za zs.length zc, u64 (first)]].toArray w (Ret fun v w' => v = .bool true ∧ Ext w w') := by
 obtain ⟨g1, hg1⟩ : ∃ g1, g1 = gs.take 4200 := ⟨_, rfl⟩
 obtain ⟨l1, hl1⟩ : ∃ l1, l1 = ol.take 80 := ⟨_, rfl⟩
 have hgl1 : g1.length ≤ 60 := by rw [hg1, List.length_take]; omega
 have hll1 : l1.length ≤ 80 := by rw [hl1, List.length_take]; omega
 rw [← hg1, ← hl1] at hg
 obtain ⟨zr, hzr⟩ : ∃ zr, zr = zs ++ [((7#64, 7#64) : Lb)] := ⟨_, rfl⟩
 have hzrl : zr.length = zs.length + 1 := by rw [hzr, List.length_append]; rfl
 have hzd : (zr.drop 0).take (zs.length) = zs := by rw [hzr, List.drop_zero, List.take_left']; rfl
 have hz7 : zr.getD zs.length lb0 = (7#64, 7#64) := by rw [hzr]; exact getD_app_hi _ _ _ _ rfl
 have H := Hp.start No w
 refine enter (n := 145) Tryd.func11 rfl rfl (bLe rfl) ?_
 refine sR ?_
 refine q_box (v := .agg #[i64 (n), .slice ga gs.length gc, .slice oa ol.length oc]) (o := .cells #[i64 (n), .slice ga gs.length gc, .slice oa ol.length oc] 70 (0, 0)) H rfl (by rfl) ?_
 intro b31 w32 hb31 H33 hE34
 refine q_box (v := .agg #[u64 (δ.1), u64 (δ.2), .slice za zs.length zc, u64 (first)]) (o := .cells #[u64 (δ.1), u64 (δ.2), .slice za zs.length zc, u64 (first)] 94 (0, 0)) H33 rfl (by rfl) ?_
 intro b35 w36 hb35 H37 hE38
 refine sA (.bool (false)) rfl ?_
 refine wend ?_
 refine seqAny ?_
 refine sR ?_
 refine c_call (vs := []) call41 rfl (gawake_ok w36 (Chg.gl H37.chg (fun x => x) hG)) ?_
 rintro _ w39 ⟨rfl, hE40⟩
 have H41 := H37.ext hE40
 refine sq (r_notT rfl) ?_
 refine sM (.bool (false)) rfl ?_
 refine sqAny (v := .agg #[i64 (n), .slice ga gs.length gc, .slice oa ol.length oc]) (w' := w39) (wantedSome (d' := 14) (b := false) rfl rfl rfl) (r_loadA (cs' := #[i64 (n), .slice ga gs.length gc, .slice oa ol.length oc]) agg70 siz70 (H41.get (k := 1) rfl) (off := 0) rfl (by exact bLe rfl) (by rfl)) ?_
 refine caAny (wantedSome (d' := 14) (b := false) rfl rfl rfl) (Enters.callL (vs := [.agg #[i64 (n), .slice ga gs.length gc, .slice oa ol.length oc]]) call42 rfl) (small_yes n gs ol ga oa gc oc w39 h1s h2s) ?_
 rintro _ w42 ⟨rfl, hE43⟩
 have H44 := H41.ext hE43
 refine sqAny (v := .bool (false)) (w' := w42) (wantedSome (d' := 14) (b := false) rfl rfl rfl) (r_notT rfl) ?_
 refine sq (r_pickF (v := .bool (false)) rfl rfl) ?_
 refine wend ?_
 refine condFalse rfl ?_
 refine skipAny ?_
 refine thenNormal ?_
 refine sR ?_
 refine sq (r_loadA (cs' := #[i64 (n), .slice ga gs.length gc, .slice oa ol.length oc]) agg70 siz70 (H44.get (k := 1) rfl) (off := 0) rfl (by exact bLe rfl) (by rfl)) ?_
 refine c_call (vs := [.agg #[i64 (n), .slice ga gs.length gc, .slice oa ol.length oc]]) call43 rfl (own_ok n gs ol ga oa gc oc hgc hoc w42 (hGs.ext H44.chg) (hOl.ext H44.chg)) ?_
 rintro _ w45 ⟨⟨ng47, no48, kg49, cg50, spg51, ko52, co53, spo54, rfl, rfl, rfl, hSg55, hSo56, HN57⟩, hE58⟩
 rw [← hg1] at hSg55 HN57
 rw [← hl1] at hSo56 HN57
 rw [← hg1, ← hl1]
 have H59 := (H44.join HN57).as (L' := [(ko52, sob EI 3 l1 spo54), (kg49, sob EG 99 g1 spg51), (some b35, .cells #[u64 (δ.1), u64 (δ.2), .slice za zs.length zc, u64 (first)] 94 (0, 0)), (some b31, .cells #[i64 (n), .slice ga gs.length gc, .slice oa ol.length oc] 70 (0, 0))]) rfl
 refine d_store (k := 3) (v := .agg #[i64 (n), .slice (ownA kg49) g1.length cg50, .slice (ownA ko52) l1.length co53]) (cs' := #[i64 (n), .slice (ownA kg49) g1.length cg50, .slice (ownA ko52) l1.length co53]) H59 rfl rfl rfl siz70 (by rfl) (by intro u hu; simp [Value.cells] at hu; first | (subst hu; rfl) | (rcases hu with rfl | rfl | rfl <;> rfl)) (by exact bLe rfl) (by rfl) ?_
 intro w60 H61 hC62
 have H61' := H61.as (L' := [(ko52, sob EI 3 l1 spo54), (kg49, sob EG 99 g1 spg51), (some b35, .cells #[u64 (δ.1), u64 (δ.2), .slice za zs.length zc, u64 (first)] 94 (0, 0)), (some b31, .cells #[i64 (n), .slice (ownA kg49) g1.length cg50, .slice (ownA ko52) l1.length co53] 70 (0, 0))]) rfl
 clear H61
 refine wend ?_
 refine sR ?_
 refine q_buildSlice (E := ELb) (l := ([] : List LbT)) H61' sli92 zer38 (bLe rfl) (ps := []) rfl (by exact fillAll rfl rfl) rfl ?_
 intro b63 w65 hS64 H66 hE67
 refine sq (r_fieldAddr (off' := 2) fld94_1 (by decide) (b := b35) (off := 0) rfl (by omega)) ?_
 refine sq (r_loadC (v := .slice za zs.length zc) one92 (H66.get (k := 3) rfl) (off := 2) rfl (by rfl)) ?_
 refine q_append (E := ELb) (k := 0) (l := ([] : List LbT)) (l2 := zs) H66 rfl hS64 sli92 zer38 rfl byt38 (hZ.ext H66.chg) rfl (by rfl) rfl (by rfl) (by omega) ?_
 intro key68 c69 sp70 w72 hS71 hne74 H73
 have H73' := H73.as (L' := [(key68, sob ELb 38 (([] : List LbT) ++ zs) sp70), (ko52, sob EI 3 l1 spo54), (kg49, sob EG 99 g1 spg51), (some b35, .cells #[u64 (δ.1), u64 (δ.2), .slice za zs.length zc, u64 (first)] 94 (0, 0)), (some b31, .cells #[i64 (n), .slice (ownA kg49) g1.length cg50, .slice (ownA ko52) l1.length co53] 70 (0, 0))]) rfl
 clear H73
 have e75 : ([] : List LbT) ++ zs = zs := by rw [List.nil_append]
 have hS76 := hS71
 rw [e75] at hS76
 have H77 := H73'.as (L' := [(key68, sob ELb 38 zs sp70), (ko52, sob EI 3 l1 spo54), (kg49, sob EG 99 g1 spg51), (some b35, .cells #[u64 (δ.1), u64 (δ.2), .slice za zs.length zc, u64 (first)] 94 (0, 0)), (some b31, .cells #[i64 (n), .slice (ownA kg49) g1.length cg50, .slice (ownA ko52) l1.length co53] 70 (0, 0))]) (by rw [e75])
 refine sq (r_buildA (cs' := (cel E64 [7#64, 7#64]).toArray) (ps := [(0, u64 (7#64)), (1, u64 (7#64))]) zer38 arr38 rfl (by rfl)) ?_
 refine q_buildSlice (E := ELb) (l := ([(7#64, 7#64)] : List LbT)) H77 sli92 zer38 (bLe rfl) (ps := [(0, .agg (cel E64 [7#64, 7#64]).toArray)]) rfl (by exact fillAll rfl rfl) rfl ?_
 intro b78 w80 hS79 H81 hE82
 refine q_append (E := ELb) (k := 1) (l := zs) (l2 := ([(7#64, 7#64)] : List LbT)) H81 rfl hS76 sli92 zer38 rfl byt38 (H81.rd (k := 0) rfl hS79) rfl (by exact Nat.zero_add _) rfl (by rfl) (by omega) ?_
 intro key83 c84 sp85 w87 hS86 hne89 H88
 have H88' := H88.as (L' := [((some b78), sob ELb 38 ([(7#64, 7#64)] : List LbT) ([])), (key83, sob ELb 38 (zs ++ ([(7#64, 7#64)] : List LbT)) sp85), (ko52, sob EI 3 l1 spo54), (kg49, sob EG 99 g1 spg51), (some b35, .cells #[u64 (δ.1), u64 (δ.2), .slice za zs.length zc, u64 (first)] 94 (0, 0)), (some b31, .cells #[i64 (n), .slice (ownA kg49) g1.length cg50, .slice (ownA ko52) l1.length co53] 70 (0, 0))]) rfl
 clear H88
 have e90 : zs ++ ([(7#64, 7#64)] : List LbT) = zr := by rw [hzr]
 have hS91 := hS86
 rw [e90] at hS91
 have H92 := H88'.as (L' := [((some b78), sob ELb 38 ([(7#64, 7#64)] : List LbT) ([])), (key83, sob ELb 38 zr sp85), (ko52, sob EI 3 l1 spo54), (kg49, sob EG 99 g1 spg51), (some b35, .cells #[u64 (δ.1), u64 (δ.2), .slice za zs.length zc, u64 (first)] 94 (0, 0)), (some b31, .cells #[i64 (n), .slice (ownA kg49) g1.length cg50, .slice (ownA ko52) l1.length co53] 70 (0, 0))]) (by rw [e90])
 refine sA (.slice (ownA key83) ((0 + zs.length) + 1) c84) rfl ?_
 have hzcp := hS91.cap
 refine wend ?_
 refine seqAny ?_
 refine drawC (m := 18) [0, 0, 2, 0, 0, 16, 48, 120, 0, 256, 1023, 2047, 4095, 4095, 4095, 8191, 49151, 131071] [10] (fun q vs w' => match q, vs with | 0, [] => Ext w87 w' ∧ Hp No w w' [((some b78), sob ELb 38 ([(7#64, 7#64)] : List LbT) ([])), (key83, sob ELb 38 zr sp85), (ko52, sob EI 3 l1 spo54), (kg49, sob EG 99 g1 spg51), (some b35, .cells #[u64 (δ.1), u64 (δ.2), .slice za zs.length zc, u64 (first)] 94 (0, 0)), (some b31, .cells #[i64 (n), .slice (ownA kg49) g1.length cg50, .slice (ownA ko52) l1.length co53] 70 (0, 0))] | 1, [v0] => ∃ (k98 : Option Nat) (c99 : Nat) (z100 : List Value) (k101 : Option Nat) (c102 : Nat) (z103 : List Value), v0 = .tuple #[.slice (ownA k98) (((gS lhash (δ.1, δ.2) first g1 zs g1.length).2).length) c99, .slice (ownA k101) ((oL (gS lhash (δ.1, δ.2) first g1 zs g1.length).1 l1 l1.length).length) c102, .nilIface] ∧ Sl ELb k98 ((gS lhash (δ.1, δ.2) first g1 zs g1.length).2) c99 z100 ∧ Sl ELb k101 (oL (gS lhash (δ.1, δ.2) first g1 zs g1.length).1 l1 l1.length) c102 z103 ∧ Ext w87 w' ∧ Hp No w w' [(k98, sob ELb 38 ((gS lhash (δ.1, δ.2) first g1 zs g1.length).2) z100), (k101, sob ELb 38 (oL (gS lhash (δ.1, δ.2) first g1 zs g1.length).1 l1 l1.length) z103), ((some b78), sob ELb 38 ([(7#64, 7#64)] : List LbT) ([])), (key83, sob ELb 38 zr sp85), (ko52, sob EI 3 l1 spo54), (kg49, sob EG 99 g1 spg51), (some b35, .cells #[u64 (δ.1), u64 (δ.2), .slice za zs.length zc, u64 (first)] 94 (0, 0)), (some b31, .cells #[i64 (n), .slice (ownA kg49) g1.length cg50, .slice (ownA ko52) l1.length co53] 70 (0, 0))] | _, _ => False) mixed (by kernel_rfl) (by kernel_rfl) ⟨Ext.drew _, H92.drew⟩ ?_
 refine WalkC.look rfl (fun _ => .agg #[i64 (n), .slice (ownA kg49) g1.length cg50, .slice (ownA ko52) l1.length co53]) (fun _ _ _ => rfl) (fun q r uw hlo hhi hle hF => ?_) ?_
 ·skip
  have h1 : 0 ≤ q := Nat.zero_le _
  have h2 : q ≤ 0 := hhi 0 10 rfl rfl
  rcases (show q = 0 by omega) with rfl
  ·skip
   obtain ⟨hX, HH⟩ := hF
   exact Gives.run rfl (r_loadA (cs' := #[i64 (n), .slice (ownA kg49) g1.length cg50, .slice (ownA ko52) l1.length co53]) agg70 siz70 (HH.get (k := 5) rfl) (off := 0) rfl (by exact bLe rfl) (by rfl)) ⟨rfl, rfl⟩
 refine WalkC.look rfl (fun _ => pT b35) (fun _ _ _ => rfl) (fun q r uw _ _ _ _ => Gives.run rfl (r_fieldAddr (off' := 0) fld94_0 (by decide) (b := b35) (off := 0) rfl (by omega)) ⟨rfl, rfl⟩) ?_
 refine WalkC.look rfl (fun _ => .agg (cel E64 [δ.1, δ.2]).toArray) (fun _ _ _ => rfl) (fun q r uw hlo hhi hle hF => ?_) ?_
 ·skip
  have h1 : 0 ≤ q := Nat.zero_le _
  have h2 : q ≤ 0 := hhi 0 10 rfl rfl
  rcases (show q = 0 by omega) with rfl
  ·skip
   obtain ⟨hX, HH⟩ := hF
   exact Gives.run rfl (r_loadA (cs' := (cel E64 [δ.1, δ.2]).toArray) agg38 siz38 (HH.get (k := 4) rfl) (off := 0) rfl (by exact bLe rfl) (by rfl)) ⟨rfl, rfl⟩
 refine WalkC.look rfl (fun _ => .slice (ownA key83) ((0 + zs.length) + 1) c84) (fun _ _ _ => rfl) (fun q r uw _ _ _ _ => Gives.run rfl (r_move (v := .slice (ownA key83) ((0 + zs.length) + 1) c84) rfl) ⟨rfl, rfl⟩) ?_
 refine WalkC.look rfl (fun _ => .pointer (some ⟨b35, 2, none⟩)) (fun _ _ _ => rfl) (fun q r uw _ _ _ _ => Gives.run rfl (r_fieldAddr (off' := 2) fld94_1 (by decide) (b := b35) (off := 0) rfl (by omega)) ⟨rfl, rfl⟩) ?_
 refine WalkC.look rfl (fun _ => .slice za zs.length zc) (fun _ _ _ => rfl) (fun q r uw hlo hhi hle hF => ?_) ?_
 ·skip
  have h1 : 0 ≤ q := Nat.zero_le _
  have h2 : q ≤ 0 := hhi 0 10 rfl rfl
  rcases (show q = 0 by omega) with rfl
  ·skip
   obtain ⟨hX, HH⟩ := hF
   exact Gives.run rfl (r_loadC (v := .slice za zs.length zc) one92 (HH.get (k := 4) rfl) (off := 2) rfl (by rfl)) ⟨rfl, rfl⟩
 refine WalkC.look rfl (fun _ => i64 (zs.length : Nat)) (fun _ _ _ => rfl) (fun q r uw _ _ _ _ => Gives.run rfl (r_lenS sli92 (a := za) (m := zs.length) (c := zc) rfl) ⟨rfl, rfl⟩) ?_
 refine WalkC.look rfl (fun _ => .slice (if c84 = 0 then ownA key83 else adr (ownA key83) (0 * 2)) zs.length (c84 - 0)) (fun _ _ _ => rfl) (fun q r uw _ _ _ _ => Gives.run rfl ((r_sliceS (l := 0) (h := zs.length) sli92 rfl (.inr ⟨rfl, rfl⟩) (.inl ⟨_, _, _, rfl, rfl, by first | rfl | omega | (simp; omega)⟩) (by omega) (by omega)).as (v' := .slice (if c84 = 0 then ownA key83 else adr (ownA key83) (0 * 2)) zs.length (c84 - 0)) (by first | rfl | (congr 1; omega) | (simp; omega) | simp)) ⟨rfl, rfl⟩) ?_
 refine WalkC.look rfl (fun _ => .pointer (some ⟨b35, 3, none⟩)) (fun _ _ _ => rfl) (fun q r uw _ _ _ _ => Gives.run rfl (r_fieldAddr (off' := 3) fld94_2 (by decide) (b := b35) (off := 0) rfl (by omega)) ⟨rfl, rfl⟩) ?_
 refine WalkC.look rfl (fun _ => u64 (first)) (fun _ _ _ => rfl) (fun q r uw hlo hhi hle hF => ?_) ?_
 ·skip
  have h1 : 0 ≤ q := Nat.zero_le _
  have h2 : q ≤ 0 := hhi 0 10 rfl rfl
  rcases (show q = 0 by omega) with rfl
  ·skip
   obtain ⟨hX, HH⟩ := hF
   exact Gives.run rfl (r_loadC (v := u64 (first)) one32 (HH.get (k := 4) rfl) (off := 3) rfl (by rfl)) ⟨rfl, rfl⟩
 refine WalkC.eff 0 rfl (fun r uw93 hF95 => ?_) ?_
 ·skip
  obtain ⟨hX, H94⟩ := hF95
  dsimp only [List.take, List.map, List.cons_append, List.nil_append]
  refine Gives.ofW (d := 40) rfl rfl (fun Q' hK => ?_)
  refine c_call (vs := [.agg #[i64 (n), .slice (ownA kg49) g1.length cg50, .slice (ownA ko52) l1.length co53], .agg (cel E64 [δ.1, δ.2]).toArray, .slice (if c84 = 0 then ownA key83 else adr (ownA key83) (0 * 2)) zs.length (c84 - 0), u64 (first)]) call45 rfl (garble_ok n g1 l1 (ownA kg49) (ownA ko52) cg50 co53 (δ.1, δ.2) zs (if c84 = 0 then ownA key83 else adr (ownA key83) (0 * 2)) (c84 - 0) first uw93 (Chg.gl H94.chg (fun x => x) hG) (H94.rd (k := 3) rfl hSg55) (H94.rd (k := 2) rfl hSo56) (by first | omega | exact bLe rfl) (by first | omega | exact bLe rfl) (Eq.mp (congrArg (fun q => Rd ELb _ _ q) hzd) (Rd.sub (H94.rd (k := 1) rfl hS91) 0 (zs.length) (m := c84) (fun e => by first | exact absurd e (by omega) | (rw [show zs.length = 0 by omega]; rfl)))) hg hm hc) ?_
  rintro _ w96 ⟨k98, c99, z100, k101, c102, z103, rfl, hS104, hS105, HN106⟩
  have H107 := (H94.join HN106).as (L' := [(k98, sob ELb 38 ((gS lhash (δ.1, δ.2) first g1 zs g1.length).2) z100), (k101, sob ELb 38 (oL (gS lhash (δ.1, δ.2) first g1 zs g1.length).1 l1 l1.length) z103), ((some b78), sob ELb 38 ([(7#64, 7#64)] : List LbT) ([])), (key83, sob ELb 38 zr sp85), (ko52, sob EI 3 l1 spo54), (kg49, sob EG 99 g1 spg51), (some b35, .cells #[u64 (δ.1), u64 (δ.2), .slice za zs.length zc, u64 (first)] 94 (0, 0)), (some b31, .cells #[i64 (n), .slice (ownA kg49) g1.length cg50, .slice (ownA ko52) l1.length co53] 70 (0, 0))]) rfl
  exact hK _ _ ⟨k98, c99, z100, k101, c102, z103, rfl, hS104, hS105, (hX.trans HN106.chg), H107⟩
 refine WalkC.look rfl (fun r => r 10) (fun r r' h => h 10 (by decide) rfl) (fun q r uw _ _ _ _ => Gives.run rfl (r_move rfl) ⟨rfl, rfl⟩) ?_
 refine WalkC.look rfl (fun r => proj (r 10) 0) (fun r r' h => by rw [h 10 (by decide) rfl]) (fun q r uw hlo hhi hle hF => ?_) ?_
 ·skip
  have h1 : 1 ≤ q := hlo 0 10 rfl rfl
  have h2 : q ≤ 1 := hle
  rcases (show q = 1 by omega) with rfl
  ·skip
   obtain ⟨k98, c99, z100, k101, c102, z103, e10, hS104, hS105, hX, HH⟩ := hF
   dsimp only
   rw [e10]
   exact Gives.run rfl (r_extract (vs := #[.slice (ownA k98) (((gS lhash (δ.1, δ.2) first g1 zs g1.length).2).length) c99, .slice (ownA k101) ((oL (gS lhash (δ.1, δ.2) first g1 zs g1.length).1 l1 l1.length).length) c102, .nilIface]) rfl rfl) ⟨rfl, rfl⟩
 refine WalkC.look rfl (fun r => proj (r 10) 1) (fun r r' h => by rw [h 10 (by decide) rfl]) (fun q r uw hlo hhi hle hF => ?_) ?_
 ·skip
  have h1 : 1 ≤ q := hlo 0 10 rfl rfl
  have h2 : q ≤ 1 := hle
  rcases (show q = 1 by omega) with rfl
  ·skip
   obtain ⟨k98, c99, z100, k101, c102, z103, e10, hS104, hS105, hX, HH⟩ := hF
   dsimp only
   rw [e10]
   exact Gives.run rfl (r_extract (vs := #[.slice (ownA k98) (((gS lhash (δ.1, δ.2) first g1 zs g1.length).2).length) c99, .slice (ownA k101) ((oL (gS lhash (δ.1, δ.2) first g1 zs g1.length).1 l1 l1.length).length) c102, .nilIface]) rfl rfl) ⟨rfl, rfl⟩
 refine WalkC.look rfl (fun r => proj (r 10) 2) (fun r r' h => by rw [h 10 (by decide) rfl]) (fun q r uw hlo hhi hle hF => ?_) ?_
 ·skip
  have h1 : 1 ≤ q := hlo 0 10 rfl rfl
  have h2 : q ≤ 1 := hle
  rcases (show q = 1 by omega) with rfl
  ·skip
   obtain ⟨k98, c99, z100, k101, c102, z103, e10, hS104, hS105, hX, HH⟩ := hF
   dsimp only
   rw [e10]
   exact Gives.run rfl (r_extract (vs := #[.slice (ownA k98) (((gS lhash (δ.1, δ.2) first g1 zs g1.length).2).length) c99, .slice (ownA k101) ((oL (gS lhash (δ.1, δ.2) first g1 zs g1.length).1 l1 l1.length).length) c102, .nilIface]) rfl rfl) ⟨rfl, rfl⟩
 refine WalkC.look rfl (fun r => proj (r 10) 0) (fun r r' h => by rw [h 10 (by decide) rfl]) (fun q r uw _ _ _ _ => Gives.run rfl (r_assign rfl) ⟨rfl, rfl⟩) ?_
 refine WalkC.look rfl (fun r => proj (r 10) 1) (fun r r' h => by rw [h 10 (by decide) rfl]) (fun q r uw _ _ _ _ => Gives.run rfl (r_assign rfl) ⟨rfl, rfl⟩) ?_
 refine WalkC.look rfl (fun r => proj (r 10) 2) (fun r r' h => by rw [h 10 (by decide) rfl]) (fun q r uw _ _ _ _ => Gives.run rfl (r_assign rfl) ⟨rfl, rfl⟩) ?_
 refine WalkC.nil ?_
 intro r108 w109 hF111
 obtain ⟨k98, c99, z100, k101, c102, z103, e10, hS104, hS105, hX, H110⟩ := hF111
 dsimp only
 rw [e10]
 obtain ⟨tb, htb⟩ : ∃ x, x = (gS lhash δ first g1 zs g1.length).2 := ⟨_, rfl⟩
 rw [← htb] at H110 hS104 ⊢
 obtain ⟨ot, hot⟩ : ∃ x, x = oL (gS lhash δ first g1 zs g1.length).1 l1 l1.length := ⟨_, rfl⟩
 rw [← hot] at H110 hS105 ⊢
 have htbl : tb.length ≤ 120 := by rw [htb]; have := gS_tab (h := lhash) (δ := δ) (first := first) (gs := g1) (zs := zs) g1.length; omega
 have hotl : ot.length = l1.length := by rw [hot, oL_len]
 have hzn : n = ((zs.length : Nat) : Int) := hm.symm
 have hgz : IsC ((zs.length : Nat) : Int) g1 l1 := hzn ▸ hg
 have hout := hg.outs
 refine wnil ?_
 refine thenNormal ?_
 refine seqAny ?_
 refine seqAny ?_
 refine drawAny (K := [none, none, none, none, none, none, none, none, none, none, none, none, none, none, none, none, none, none, none]) [0, 0, 2, 6, 15, 31, 0, 127, 255, 511, 511, 1535, 3583, 8191, 511, 16895, 65535, 131071, 262143] (fun w' => Ext w109 w') (fun w' w'' => Ext w' w'') mixed (by kernel_rfl) (Ext.drew _) (fun _ _ h h' => h.trans h') ?_ ?_
 ·exact relNone (by decide)
 refine ⟨.slice (ownA key83) ((0 + zs.length) + 1) c84, fun _ uw112 hC113 _ => Gives.run rfl (r_move (v := .slice (ownA key83) ((0 + zs.length) + 1) c84) rfl) ⟨rfl, Chg.refl _ _⟩, ?_⟩
 refine ⟨.pointer (some ⟨b35, 2, none⟩), fun _ uw114 hC115 _ => Gives.run rfl (r_fieldAddr (off' := 2) fld94_1 (by decide) (b := b35) (off := 0) rfl (by omega)) ⟨rfl, Chg.refl _ _⟩, ?_⟩
 refine ⟨.slice za zs.length zc, fun _ uw116 hC117 _ => Gives.run rfl (r_loadC (v := .slice za zs.length zc) one92 ((H110.ext hC117).get (k := 6) rfl) (off := 2) rfl (by rfl)) ⟨rfl, Chg.refl _ _⟩, ?_⟩
 refine ⟨i64 (zs.length : Nat), fun _ uw118 hC119 _ => Gives.run rfl (r_lenS sli92 (a := za) (m := zs.length) (c := zc) rfl) ⟨rfl, Chg.refl _ _⟩, ?_⟩
 refine ⟨.pointer (adr (ownA key83) (zs.length * 2)), fun _ uw120 hC121 _ => Gives.run rfl (r_idxS (E := ELb) (l := zr) (j := zs.length) sli92 ((H110.ext hC121).rd (k := 3) rfl hS91) rfl rfl (by first | rfl | omega | (simp; omega)) (by omega) (by omega)) ⟨rfl, Chg.refl _ _⟩, ?_⟩
 refine ⟨.agg (cel E64 [((zr).getD zs.length lb0).1, ((zr).getD zs.length lb0).2]).toArray, fun _ uw122 hC123 _ => Gives.run rfl ((r_ldS (E := ELb) (l := zr) (j := zs.length) (v := (zr).getD zs.length lb0) fits38 ((H110.ext hC123).rd (k := 3) rfl hS91) rfl rfl (at_getD (by omega))).as (v' := .agg (cel E64 [((zr).getD zs.length lb0).1, ((zr).getD zs.length lb0).2]).toArray) rfl) ⟨rfl, Chg.refl _ _⟩, ?_⟩
 refine ⟨.agg (cel E64 [7#64, 7#64]).toArray, fun _ uw124 hC125 _ => Gives.run rfl (r_buildA (cs' := (cel E64 [7#64, 7#64]).toArray) (ps := [(0, u64 (7#64)), (1, u64 (7#64))]) zer38 arr38 rfl (by rfl)) ⟨rfl, Chg.refl _ _⟩, ?_⟩
 refine ⟨.bool (false), fun _ uw126 hC127 _ => Gives.run rfl ((r_neqA (E := E64) (l := [((zr).getD zs.length lb0).1, ((zr).getD zs.length lb0).2]) (l' := [7#64, 7#64]) gty38 und38 fits32 (eqAt64 und32) (rfl) (rfl) rfl rfl).as (v' := .bool (false)) (by rw [hz7]; simp)) ⟨rfl, Chg.refl _ _⟩, ?_⟩
 refine ⟨.bool (false), fun _ uw128 hC129 _ => Gives.run rfl (r_move (v := .bool (false)) rfl) ⟨rfl, Chg.refl _ _⟩, ?_⟩
 refine ⟨.slice (ownA key83) ((0 + zs.length) + 1) c84, fun _ uw130 hC131 _ => Gives.runW (wantedSome (d' := 52) (b := false) rfl rfl rfl) (r_move (v := .slice (ownA key83) ((0 + zs.length) + 1) c84) rfl) ⟨rfl, Chg.refl _ _⟩, ?_⟩
 refine ⟨.pointer (some ⟨b35, 2, none⟩), fun _ uw132 hC133 _ => Gives.runW (wantedSome (d' := 52) (b := false) rfl rfl rfl) (r_fieldAddr (off' := 2) fld94_1 (by decide) (b := b35) (off := 0) rfl (by omega)) ⟨rfl, Chg.refl _ _⟩, ?_⟩
 refine ⟨.slice za zs.length zc, fun _ uw134 hC135 _ => Gives.runW (wantedSome (d' := 52) (b := false) rfl rfl rfl) (r_loadC (v := .slice za zs.length zc) one92 ((H110.ext hC135).get (k := 6) rfl) (off := 2) rfl (by rfl)) ⟨rfl, Chg.refl _ _⟩, ?_⟩
 refine ⟨i64 (zs.length : Nat), fun _ uw136 hC137 _ => Gives.runW (wantedSome (d' := 52) (b := false) rfl rfl rfl) (r_lenS sli92 (a := za) (m := zs.length) (c := zc) rfl) ⟨rfl, Chg.refl _ _⟩, ?_⟩
 refine ⟨.slice (if c84 = 0 then ownA key83 else adr (ownA key83) (0 * 2)) zs.length (c84 - 0), fun _ uw138 hC139 _ => Gives.runW (wantedSome (d' := 52) (b := false) rfl rfl rfl) ((r_sliceS (l := 0) (h := zs.length) sli92 rfl (.inr ⟨rfl, rfl⟩) (.inl ⟨_, _, _, rfl, rfl, by first | rfl | omega | (simp; omega)⟩) (by omega) (by omega)).as (v' := .slice (if c84 = 0 then ownA key83 else adr (ownA key83) (0 * 2)) zs.length (c84 - 0)) (by first | rfl | (congr 1; omega) | (simp; omega) | simp)) ⟨rfl, Chg.refl _ _⟩, ?_⟩
 refine ⟨.pointer (some ⟨b35, 2, none⟩), fun _ uw140 hC141 _ => Gives.runW (wantedSome (d' := 52) (b := false) rfl rfl rfl) (r_fieldAddr (off' := 2) fld94_1 (by decide) (b := b35) (off := 0) rfl (by omega)) ⟨rfl, Chg.refl _ _⟩, ?_⟩
 refine ⟨.slice za zs.length zc, fun _ uw142 hC143 _ => Gives.runW (wantedSome (d' := 52) (b := false) rfl rfl rfl) (r_loadC (v := .slice za zs.length zc) one92 ((H110.ext hC143).get (k := 6) rfl) (off := 2) rfl (by rfl)) ⟨rfl, Chg.refl _ _⟩, ?_⟩
 refine ⟨.bool (true), fun _ uw144 hC145 _ => Gives.callW (wantedSome (d' := 52) (b := false) rfl rfl rfl) (Enters.callL (vs := [.slice (if c84 = 0 then ownA key83 else adr (ownA key83) (0 * 2)) zs.length (c84 - 0), .slice za zs.length zc]) call47 rfl) (same_ok zs (if c84 = 0 then ownA key83 else adr (ownA key83) (0 * 2)) za zs.length zs.length (c84 - 0) zc rfl rfl uw144 (Eq.mp (congrArg (fun q => Rd ELb _ _ q) hzd) (Rd.sub ((H110.ext hC145).rd (k := 3) rfl hS91) 0 (zs.length) (m := c84) (fun e => by first | exact absurd e (by omega) | (rw [show zs.length = 0 by omega]; rfl)))) (hZ.ext (H110.ext hC145).chg) (by omega)), ?_⟩
 refine ⟨.bool (false), fun _ uw146 hC147 _ => Gives.runW (wantedSome (d' := 52) (b := false) rfl rfl rfl) (r_notT rfl) ⟨rfl, Chg.refl _ _⟩, ?_⟩
 refine ⟨.bool (false), fun _ uw148 hC149 _ => Gives.run rfl (r_pickF (v := .bool (false)) rfl rfl) ⟨rfl, Chg.refl _ _⟩, ?_⟩
 intro r153 w150 hE152 hF
 have H151 := H110.ext hE152
 refine wnil ?_
 refine thenNormal ?_
 refine condFalse rfl ?_
 refine skipAny ?_
 refine thenNormal ?_
 refine sR ?_
 refine sq (r_loadA (cs' := #[i64 (n), .slice (ownA kg49) g1.length cg50, .slice (ownA ko52) l1.length co53]) agg70 siz70 (H151.get (k := 7) rfl) (off := 0) rfl (by exact bLe rfl) (by rfl)) ?_
 refine c_call (vs := [.agg #[i64 (n), .slice (ownA kg49) g1.length cg50, .slice (ownA ko52) l1.length co53]]) call35 rfl (gates_ok n g1 l1 (ownA kg49) (ownA ko52) cg50 co53 w150 (H151.rd (k := 5) rfl hSg55) (by omega)) ?_
 rintro _ w154 ⟨⟨key156, c157, sp158, rfl, hS159, hk160⟩, hE161⟩
 rw [show g1.length = g1.length from rfl]
 have H162 := H151.add hE161 hk160
 refine sA (.slice (ownA key156) g1.length c157) rfl ?_
 refine wend ?_
 refine seqAny ?_
 refine blockAny ?_
 refine sR ?_
 refine sq (r_fieldAddr (off' := 0) fld70_0 (by decide) (b := b31) (off := 0) rfl (by omega)) ?_
 refine sq (r_loadC (v := i64 (n)) one3 (H162.get (k := 8) rfl) (off := 0) rfl (by rfl)) ?_
 refine sM (.slice (ownA key156) g1.length c157) rfl ?_
 refine sq (r_fieldAddr (off' := 2) fld70_2 (by decide) (b := b31) (off := 0) rfl (by omega)) ?_
 refine sq (r_loadC (v := .slice (ownA ko52) l1.length co53) one60 (H162.get (k := 8) rfl) (off := 2) rfl (by rfl)) ?_
 refine c_call (vs := [i64 (n), .slice (ownA key156) g1.length c157, .slice (ownA ko52) l1.length co53]) call53 rfl (good_yes n g1 l1 (ownA key156) (ownA ko52) c157 co53 w154 (H162.rd (k := 0) rfl hS159) (H162.rd (k := 5) rfl hSo56) (by omega) (by omega) hg) ?_
 rintro _ w163 ⟨rfl, hE164⟩
 have H165 := H162.ext hE164
 refine sq (r_notT rfl) ?_
 refine sA (.bool (false)) rfl ?_
 refine wend ?_
 refine condFalse rfl ?_
 refine sR ?_
 refine sq (r_fieldAddr (off' := 2) fld94_1 (by decide) (b := b35) (off := 0) rfl (by omega)) ?_
 refine sq (r_loadC (v := .slice za zs.length zc) one92 (H165.get (k := 7) rfl) (off := 2) rfl (by rfl)) ?_
 refine sq (r_lenS sli92 (a := za) (m := zs.length) (c := zc) rfl) ?_
 refine sq (r_fieldAddr (off' := 0) fld70_0 (by decide) (b := b31) (off := 0) rfl (by omega)) ?_
 refine sq (r_loadC (v := i64 (n)) one3 (H165.get (k := 8) rfl) (off := 0) rfl (by rfl)) ?_
 refine sq ((r_neqI (a := (zs.length : Nat)) (b := n) rfl rfl).as (v' := .bool (false)) (by exact congrArg Value.bool (decide_eq_false (by omega)))) ?_
 refine sA (.bool (false)) rfl ?_
 refine wend ?_
 refine condFalse rfl ?_
 refine sR ?_
 refine sq (r_fieldAddr (off' := 0) fld94_0 (by decide) (b := b35) (off := 0) rfl (by omega)) ?_
 refine sq (r_indexA (off' := 0) (j := 0) arr38 (b := b35) (off := 0) rfl rfl (by first | rfl | omega | (simp; omega)) (by omega) (by omega)) ?_
 refine sq (r_loadC (v := u64 (δ.1)) one32 (H165.get (k := 7) rfl) (off := 0) rfl (by rfl)) ?_
 refine sq (r_rem64 (a := δ.1) (b := 2#64) rfl rfl (by decide)) ?_
 refine sq ((r_eql64 (a := δ.1 % (2#64)) (b := 0#64) rfl rfl).as (v' := .bool (false)) (by rw [col_odd hc])) ?_
 refine sA (.bool (false)) rfl ?_
 refine wend ?_
 refine condFalse rfl ?_
 refine skipAny ?_
 refine blockNormal ?_
 refine thenNormal ?_
 refine sR ?_
 refine sM (.slice (ownA key156) g1.length c157) rfl ?_
 refine sq (r_fieldAddr (off' := 0) fld94_0 (by decide) (b := b35) (off := 0) rfl (by omega)) ?_
 refine sq (r_loadA (cs' := (cel E64 [δ.1, δ.2]).toArray) agg38 siz38 (H165.get (k := 7) rfl) (off := 0) rfl (by exact bLe rfl) (by rfl)) ?_
 refine sq (r_fieldAddr (off' := 2) fld94_1 (by decide) (b := b35) (off := 0) rfl (by omega)) ?_
 refine sq (r_loadC (v := .slice za zs.length zc) one92 (H165.get (k := 7) rfl) (off := 2) rfl (by rfl)) ?_
 refine sq (r_fieldAddr (off' := 3) fld94_2 (by decide) (b := b35) (off := 0) rfl (by omega)) ?_
 refine sq (r_loadC (v := u64 (first)) one32 (H165.get (k := 7) rfl) (off := 3) rfl (by rfl)) ?_
 refine c_call (vs := [.slice (ownA key156) g1.length c157, .agg (cel E64 [δ.1, δ.2]).toArray, .slice za zs.length zc, u64 (first)]) call54 rfl (rgarble_ok g1 l1 (ownA key156) g1.length c157 (by exact (rfl).symm) (δ.1, δ.2) zs za zc first w163 (H165.rd (k := 0) rfl hS159) (hZ.ext H165.chg) hgz) ?_
 rintro _ w166 ⟨k168, c169, z170, k171, c172, z173, rfl, hS174, hS175, HN176⟩
 have H177 := (H165.join HN176).as (L' := [(k168, sob ELb 38 ((gS lhash (δ.1, δ.2) first g1 zs g1.length).2) z170), (k171, sob ELb 38 ((gS lhash (δ.1, δ.2) first g1 zs g1.length).1) z173), (key156, sob EG 85 g1 sp158), (k98, sob ELb 38 tb z100), (k101, sob ELb 38 ot z103), ((some b78), sob ELb 38 ([(7#64, 7#64)] : List LbT) ([])), (key83, sob ELb 38 zr sp85), (ko52, sob EI 3 l1 spo54), (kg49, sob EG 99 g1 spg51), (some b35, .cells #[u64 (δ.1), u64 (δ.2), .slice za zs.length zc, u64 (first)] 94 (0, 0)), (some b31, .cells #[i64 (n), .slice (ownA kg49) g1.length cg50, .slice (ownA ko52) l1.length co53] 70 (0, 0))]) rfl
 refine sM (.tuple #[.slice (ownA k168) ((gS lhash (δ.1, δ.2) first g1 zs g1.length).2.length) c169, .slice (ownA k171) ((gS lhash (δ.1, δ.2) first g1 zs g1.length).1.length) c172]) rfl ?_
 refine sq (r_extract (vs := #[.slice (ownA k168) ((gS lhash (δ.1, δ.2) first g1 zs g1.length).2.length) c169, .slice (ownA k171) ((gS lhash (δ.1, δ.2) first g1 zs g1.length).1.length) c172]) rfl rfl) ?_
 refine sq (r_extract (vs := #[.slice (ownA k168) ((gS lhash (δ.1, δ.2) first g1 zs g1.length).2.length) c169, .slice (ownA k171) ((gS lhash (δ.1, δ.2) first g1 zs g1.length).1.length) c172]) rfl rfl) ?_
 refine sA (.slice (ownA k168) ((gS lhash (δ.1, δ.2) first g1 zs g1.length).2.length) c169) rfl ?_
 refine sA (.slice (ownA k171) ((gS lhash (δ.1, δ.2) first g1 zs g1.length).1.length) c172) rfl ?_
 refine wend ?_
 refine sR ?_
 refine sM (.nilIface) rfl ?_
 refine sq (r_eqlNN isI27 rfl rfl) ?_
 refine sM (.bool (true)) rfl ?_
 refine sqAny (v := .slice (ownA k98) tb.length c99) (w' := w166) (wantedSome (d' := 132) (b := true) rfl rfl rfl) (r_move (v := .slice (ownA k98) tb.length c99) rfl) ?_
 refine sqAny (v := .slice (ownA k168) ((gS lhash (δ.1, δ.2) first g1 zs g1.length).2.length) c169) (w' := w166) (wantedSome (d' := 132) (b := true) rfl rfl rfl) (r_move (v := .slice (ownA k168) ((gS lhash (δ.1, δ.2) first g1 zs g1.length).2.length) c169) rfl) ?_
 refine caAny (wantedSome (d' := 132) (b := true) rfl rfl rfl) (Enters.callL (vs := [.slice (ownA k98) tb.length c99, .slice (ownA k168) ((gS lhash (δ.1, δ.2) first g1 zs g1.length).2.length) c169]) call47 rfl) (same_ok tb (ownA k98) (ownA k168) tb.length ((gS lhash (δ.1, δ.2) first g1 zs g1.length).2.length) c99 c169 (by rfl) (by rw [htb]) w166 (H177.rd (k := 3) rfl hS104) (Eq.mp (congrArg (fun q => Rd ELb _ _ q) htb.symm) (H177.rd (k := 0) rfl hS174)) (by omega)) ?_
 rintro _ w178 ⟨rfl, hE179⟩
 have H180 := H177.ext hE179
 refine sq (r_pickT (u := .bool (true)) rfl rfl) ?_
 refine sM (.bool (true)) rfl ?_
 refine sqAny (v := .slice (ownA k101) ot.length c102) (w' := w178) (wantedSome (d' := 137) (b := true) rfl rfl rfl) (r_move (v := .slice (ownA k101) ot.length c102) rfl) ?_
 refine sqAny (v := .pointer (some ⟨b31, 2, none⟩)) (w' := w178) (wantedSome (d' := 137) (b := true) rfl rfl rfl) (r_fieldAddr (off' := 2) fld70_2 (by decide) (b := b31) (off := 0) rfl (by omega)) ?_
 refine sqAny (v := .slice (ownA ko52) l1.length co53) (w' := w178) (wantedSome (d' := 137) (b := true) rfl rfl rfl) (r_loadC (v := .slice (ownA ko52) l1.length co53) one60 (H180.get (k := 10) rfl) (off := 2) rfl (by rfl)) ?_
 refine sqAny (v := .slice (ownA k171) ((gS lhash (δ.1, δ.2) first g1 zs g1.length).1.length) c172) (w' := w178) (wantedSome (d' := 137) (b := true) rfl rfl rfl) (r_move (v := .slice (ownA k171) ((gS lhash (δ.1, δ.2) first g1 zs g1.length).1.length) c172) rfl) ?_
 refine caAny (wantedSome (d' := 137) (b := true) rfl rfl rfl) (Enters.callL (vs := [.slice (ownA ko52) l1.length co53, .slice (ownA k171) ((gS lhash (δ.1, δ.2) first g1 zs g1.length).1.length) c172]) call55 rfl) (routs_ok l1 (ownA ko52) l1.length co53 (by rfl) ((gS lhash (δ.1, δ.2) first g1 zs g1.length).1) (ownA k171) ((gS lhash (δ.1, δ.2) first g1 zs g1.length).1.length) c172 (by rfl) w178 (H180.rd (k := 7) rfl hSo56) (H180.rd (k := 1) rfl hS175) (by omega) (fun j hj => by rw [gS_len]; have := hgz.ook j hj; omega)) ?_
 rintro _ w181 ⟨⟨key183, c184, sp185, rfl, hS186, hk187⟩, hE188⟩
 rw [show (oL ((gS lhash (δ.1, δ.2) first g1 zs g1.length).1) l1 l1.length).length = l1.length from oL_len _ _ _]
 have H189 := H180.add hE188 hk187
 refine caAny (wantedSome (d' := 137) (b := true) rfl rfl rfl) (Enters.callL (vs := [.slice (ownA k101) ot.length c102, .slice (ownA key183) l1.length c184]) call47 rfl) (same_ok ot (ownA k101) (ownA key183) ot.length l1.length c102 c184 (by rfl) (by exact hotl.symm) w181 (H189.rd (k := 5) rfl hS105) (Eq.mp (congrArg (fun q => Rd ELb _ _ q) hot.symm) (H189.rd (k := 0) rfl hS186)) (by omega)) ?_
 rintro _ w190 ⟨rfl, hE191⟩
 have H192 := H189.ext hE191
 refine sq (r_pickT (u := .bool (true)) rfl rfl) ?_
 refine sA (.bool (true)) rfl ?_
 refine wend ?_
 refine retAny ?_
 refine retG (rs := [.tmp 4]) (vs := [.bool (true)]) rfl ⟨⟨rfl, rfl⟩, trivial⟩ ?_
 exact ⟨_, rfl, rfl, H192.chg⟩
theorem gtables_big1 (n : Int) (gs : List Gt) (ol : List Int) (ga oa : Option Addr) (gc oc : Nat) (δ : Lb) (zs : List Lb) (za : Option Addr) (zc : Nat) (first : BitVec 64) (hgc : gs.length ≤ gc) (hoc : ol.length ≤ oc) (hzc : zs.length ≤ zc) (w : World) (hG : Gl w) (hGs : Rd EG w ga gs) (hOl : Rd EI w oa ol) (hZ : Rd ELb w za zs) (hzs : zs.length ≤ 8796093021952) (h1s : ¬ gs.length ≤ 60) : Calls Tryd.prog 11 [.agg #[i64 (n), .slice ga gs.length gc, .slice oa ol.length oc], .agg #[u64 (δ.1), u64 (δ.2), .slice za zs.length zc, u64 (first)]].toArray w (Ret fun v w' => v = .bool true ∧ Ext w w') := by
 have H := Hp.start No w
 refine enter (n := 145) Tryd.func11 rfl rfl (bLe rfl) ?_
 refine sR ?_
 refine q_box (v := .agg #[i64 (n), .slice ga gs.length gc, .slice oa ol.length oc]) (o := .cells #[i64 (n), .slice ga gs.length gc, .slice oa ol.length oc] 70 (0, 0)) H rfl (by rfl) ?_
 intro b1 w2 hb1 H3 hE4
 refine q_box (v := .agg #[u64 (δ.1), u64 (δ.2), .slice za zs.length zc, u64 (first)]) (o := .cells #[u64 (δ.1), u64 (δ.2), .slice za zs.length zc, u64 (first)] 94 (0, 0)) H3 rfl (by rfl) ?_
 intro b5 w6 hb5 H7 hE8
 refine sA (.bool (false)) rfl ?_
 refine wend ?_
 refine seqAny ?_
 refine sR ?_
 refine c_call (vs := []) call41 rfl (gawake_ok w6 (Chg.gl H7.chg (fun x => x) hG)) ?_
 rintro _ w9 ⟨rfl, hE10⟩
 have H11 := H7.ext hE10
 refine sq (r_notT rfl) ?_
 refine sM (.bool (false)) rfl ?_
 refine sqAny (v := .agg #[i64 (n), .slice ga gs.length gc, .slice oa ol.length oc]) (w' := w9) (wantedSome (d' := 14) (b := false) rfl rfl rfl) (r_loadA (cs' := #[i64 (n), .slice ga gs.length gc, .slice oa ol.length oc]) agg70 siz70 (H11.get (k := 1) rfl) (off := 0) rfl (by exact bLe rfl) (by rfl)) ?_
 refine caAny (wantedSome (d' := 14) (b := false) rfl rfl rfl) (Enters.callL (vs := [.agg #[i64 (n), .slice ga gs.length gc, .slice oa ol.length oc]]) call42 rfl) (small_no1 n gs ol ga oa gc oc w9 h1s) ?_
 rintro _ w12 ⟨rfl, hE13⟩
 have H14 := H11.ext hE13
 refine sqAny (v := .bool (true)) (w' := w12) (wantedSome (d' := 14) (b := false) rfl rfl rfl) (r_notF rfl) ?_
 refine sq (r_pickF (v := .bool (true)) rfl rfl) ?_
 refine wend ?_
 refine condTrue rfl ?_
 refine sR ?_
 refine c_call (vs := []) call41 rfl (gawake_ok w12 (Chg.gl H14.chg (fun x => x) hG)) ?_
 rintro _ w15 ⟨rfl, hE16⟩
 have H17 := H14.ext hE16
 refine sA (.bool (true)) rfl ?_
 refine wend ?_
 refine retAny ?_
 refine thenRet ?_
 refine retG (rs := [.tmp 4]) (vs := [.bool (true)]) rfl ⟨⟨rfl, rfl⟩, trivial⟩ ?_
 exact ⟨_, rfl, rfl, H17.chg⟩
theorem gtables_big2 (n : Int) (gs : List Gt) (ol : List Int) (ga oa : Option Addr) (gc oc : Nat) (δ : Lb) (zs : List Lb) (za : Option Addr) (zc : Nat) (first : BitVec 64) (hgc : gs.length ≤ gc) (hoc : ol.length ≤ oc) (hzc : zs.length ≤ zc) (w : World) (hG : Gl w) (hGs : Rd EG w ga gs) (hOl : Rd EI w oa ol) (hZ : Rd ELb w za zs) (hzs : zs.length ≤ 8796093021952) (h1s : gs.length ≤ 60) (h2s : ¬ n ≤ 200) : Calls Tryd.prog 11 [.agg #[i64 (n), .slice ga gs.length gc, .slice oa ol.length oc], .agg #[u64 (δ.1), u64 (δ.2), .slice za zs.length zc, u64 (first)]].toArray w (Ret fun v w' => v = .bool true ∧ Ext w w') := by
 have H := Hp.start No w
 refine enter (n := 145) Tryd.func11 rfl rfl (bLe rfl) ?_
 refine sR ?_
 refine q_box (v := .agg #[i64 (n), .slice ga gs.length gc, .slice oa ol.length oc]) (o := .cells #[i64 (n), .slice ga gs.length gc, .slice oa ol.length oc] 70 (0, 0)) H rfl (by rfl) ?_
 intro b1 w2 hb1 H3 hE4
 refine q_box (v := .agg #[u64 (δ.1), u64 (δ.2), .slice za zs.length zc, u64 (first)]) (o := .cells #[u64 (δ.1), u64 (δ.2), .slice za zs.length zc, u64 (first)] 94 (0, 0)) H3 rfl (by rfl) ?_
 intro b5 w6 hb5 H7 hE8
 refine sA (.bool (false)) rfl ?_
 refine wend ?_
 refine seqAny ?_
 refine sR ?_
 refine c_call (vs := []) call41 rfl (gawake_ok w6 (Chg.gl H7.chg (fun x => x) hG)) ?_
 rintro _ w9 ⟨rfl, hE10⟩
 have H11 := H7.ext hE10
 refine sq (r_notT rfl) ?_
 refine sM (.bool (false)) rfl ?_
 refine sqAny (v := .agg #[i64 (n), .slice ga gs.length gc, .slice oa ol.length oc]) (w' := w9) (wantedSome (d' := 14) (b := false) rfl rfl rfl) (r_loadA (cs' := #[i64 (n), .slice ga gs.length gc, .slice oa ol.length oc]) agg70 siz70 (H11.get (k := 1) rfl) (off := 0) rfl (by exact bLe rfl) (by rfl)) ?_
 refine caAny (wantedSome (d' := 14) (b := false) rfl rfl rfl) (Enters.callL (vs := [.agg #[i64 (n), .slice ga gs.length gc, .slice oa ol.length oc]]) call42 rfl) (small_no2 n gs ol ga oa gc oc w9 h1s h2s) ?_
 rintro _ w12 ⟨rfl, hE13⟩
 have H14 := H11.ext hE13
 refine sqAny (v := .bool (true)) (w' := w12) (wantedSome (d' := 14) (b := false) rfl rfl rfl) (r_notF rfl) ?_
 refine sq (r_pickF (v := .bool (true)) rfl rfl) ?_
 refine wend ?_
 refine condTrue rfl ?_
 refine sR ?_
 refine c_call (vs := []) call41 rfl (gawake_ok w12 (Chg.gl H14.chg (fun x => x) hG)) ?_
 rintro _ w15 ⟨rfl, hE16⟩
 have H17 := H14.ext hE16
 refine sA (.bool (true)) rfl ?_
 refine wend ?_
 refine retAny ?_
 refine thenRet ?_
 refine retG (rs := [.tmp 4]) (vs := [.bool (true)]) rfl ⟨⟨rfl, rfl⟩, trivial⟩ ?_
 exact ⟨_, rfl, rfl, H17.chg⟩
theorem gtables_all (n : Int) (gs : List Gt) (ol : List Int) (ga oa : Option Addr) (gc oc : Nat) (δ : Lb) (zs : List Lb) (za : Option Addr) (zc : Nat) (first : BitVec 64) (hgc : gs.length ≤ gc) (hoc : ol.length ≤ oc) (hzc : zs.length ≤ zc) (w : World) (hG : Gl w) (hGs : Rd EG w ga gs) (hOl : Rd EI w oa ol) (hZ : Rd ELb w za zs) (hzs : zs.length ≤ 8796093021952) : Calls Tryd.prog 11 [.agg #[i64 (n), .slice ga gs.length gc, .slice oa ol.length oc], .agg #[u64 (δ.1), u64 (δ.2), .slice za zs.length zc, u64 (first)]].toArray w (Ret fun v w' => v = .bool true ∧ Ext w w') := by
 by_cases h1s : gs.length ≤ 60
 ·by_cases h2s : n ≤ 200
  ·by_cases hg : IsC n (gs.take 4200) (ol.take 80)
   ·by_cases hm : (zs.length : Int) = n
    ·cases hc : col δ
     ·exact gtables_delta n gs ol ga oa gc oc δ zs za zc first hgc hoc hzc w hG hGs hOl hZ hzs h1s h2s hg hm hc
     ·exact gtables_ok n gs ol ga oa gc oc δ zs za zc first hgc hoc hzc w hG hGs hOl hZ hzs h1s h2s hg hm hc
    ·exact gtables_num n gs ol ga oa gc oc δ zs za zc first hgc hoc hzc w hG hGs hOl hZ hzs h1s h2s hg hm
   ·exact gtables_bad n gs ol ga oa gc oc δ zs za zc first hgc hoc hzc w hG hGs hOl hZ hzs h1s h2s hg
  ·exact gtables_big2 n gs ol ga oa gc oc δ zs za zc first hgc hoc hzc w hG hGs hOl hZ hzs h1s h2s
 ·exact gtables_big1 n gs ol ga oa gc oc δ zs za zc first hgc hoc hzc w hG hGs hOl hZ hzs h1s
end Go.Proofs.YteofdmdpaejgaaaDoor.Gb
