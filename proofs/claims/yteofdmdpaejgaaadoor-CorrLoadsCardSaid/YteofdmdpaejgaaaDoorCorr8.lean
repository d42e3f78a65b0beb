/- The walks of the stocks. -/
import Derived.Test.YteofdmdpaejgaaaDoorCorr7
import Derived.Test.YteofdmdpaejgaaaDoorVcOpenT
namespace Go.Proofs.YteofdmdpaejgaaaDoor.Co
open Go Go.Proofs.YteofdmdpaejgaaaDoor.Vc Go.Proofs.YteofdmdpaejgaaaDoor.Er
set_option linter.unusedVariables false
theorem call23 : callable Tryd.prog 23 = true := by kernel_rfl
theorem pls54 : pls Tryd.prog 54 = some #[(0, 1), (1, 1), (2, 1)] := by kernel_rfl
theorem zer54 : zer Tryd.prog 54 = some (.agg #[.slice none 0 0, .slice none 0 0, .slice none 0 0]) := by kernel_rfl
set_option maxRecDepth 20000 in
set_option maxHeartbeats 1000000 in
theorem corrloads_ok (ts bs : List Tr) (os : List Ot) (xa ya za : Option Addr) (xc yc zc : Nat) (w₀ : World) (hG : Gl w₀) (hT : Rd ETr w₀ xa ts) (hB : Rd ETr w₀ ya bs) (hO : Rd EOt w₀ za os) (hlt : ts.length * 24 ≤ 140737488355328) (hlb : bs.length * 24 ≤ 140737488355328) (hlo : os.length * 40 ≤ 140737488355328) : Calls Tryd.prog 5 [.slice xa ts.length xc, .slice ya bs.length yc, .slice za os.length zc].toArray w₀ (Ret fun v w' => v = .bool true ∧ Ext w₀ w') := by
  have H := Hp.start No w₀
  refine enter (n := 77) Tryd.func5 rfl rfl (Nat.le_of_ble_eq_true rfl) ?_
  refine seqRegion ?_
  refine sq (r_assign (v := .bool (false)) rfl) ?_
  refine wend ?_
  refine seqAny ?_
  refine seqRegion ?_
  refine c_call (vs := []) call15 rfl (cawake_ok w₀ (Chg.gl H.chg (fun x => x) hG)) ?_
  rintro _ w1 ⟨rfl, hE2⟩
  have H3 := H.ext hE2
  refine sq (r_notT rfl) ?_
  refine sq (r_move (v := .bool (false)) rfl) ?_
  refine sqAny (v := .slice xa ts.length xc) (w' := w1) (wantedSome (d' := 16) (b := false) rfl rfl rfl) (r_move (v := .slice xa ts.length xc) rfl) ?_
  refine sqAny (v := i64 ((ts.length : Nat))) (w' := w1) (wantedSome (d' := 16) (b := false) rfl rfl rfl) (r_lenS sli49 (a := xa) (m := ts.length) (c := xc) rfl) ?_
  refine sqAny (v := .slice ya bs.length yc) (w' := w1) (wantedSome (d' := 16) (b := false) rfl rfl rfl) (r_move (v := .slice ya bs.length yc) rfl) ?_
  refine sqAny (v := i64 ((bs.length : Nat))) (w' := w1) (wantedSome (d' := 16) (b := false) rfl rfl rfl) (r_lenS sli49 (a := ya) (m := bs.length) (c := yc) rfl) ?_
  refine sqAny (v := i64 ((ts.length : Nat) + (bs.length : Nat))) (w' := w1) (wantedSome (d' := 16) (b := false) rfl rfl rfl) (r_addI (a := (ts.length : Nat)) (b := (bs.length : Nat)) rfl rfl (by omega)) ?_
  refine sqAny (v := .slice za os.length zc) (w' := w1) (wantedSome (d' := 16) (b := false) rfl rfl rfl) (r_move (v := .slice za os.length zc) rfl) ?_
  refine sqAny (v := i64 ((os.length : Nat))) (w' := w1) (wantedSome (d' := 16) (b := false) rfl rfl rfl) (r_lenS sli50 (a := za) (m := os.length) (c := zc) rfl) ?_
  refine sqAny (v := i64 (((ts.length : Nat) + (bs.length : Nat)) + (os.length : Nat))) (w' := w1) (wantedSome (d' := 16) (b := false) rfl rfl rfl) (r_addI (a := (ts.length : Nat) + (bs.length : Nat)) (b := (os.length : Nat)) rfl rfl (by omega)) ?_
  refine sqAny (v := .bool (decide (((300 : Int) : Int) < (((ts.length : Nat) + (bs.length : Nat)) + (os.length : Nat))))) (w' := w1) (wantedSome (d' := 16) (b := false) rfl rfl rfl) (r_gtrI (a := ((ts.length : Nat) + (bs.length : Nat)) + (os.length : Nat)) (b := (300 : Int)) rfl rfl) ?_
  refine sq (r_pickF (v := .bool (decide (((300 : Int) : Int) < (((ts.length : Nat) + (bs.length : Nat)) + (os.length : Nat))))) rfl rfl) ?_
  refine wend ?_
  refine condProp (((300 : Int) : Int) < (((ts.length : Nat) + (bs.length : Nat)) + (os.length : Nat))) rfl (fun c26 => ?_) (fun c26 => ?_)
  · skip
    refine seqRegion ?_
    refine c_call (vs := []) call15 rfl (cawake_ok w1 (Chg.gl H3.chg (fun x => x) hG)) ?_
    rintro _ w4 ⟨rfl, hE5⟩
    have H6 := H3.ext hE5
    refine sq (r_assign (v := .bool (true)) rfl) ?_
    refine wend ?_
    refine retAny ?_
    refine thenRet ?_
    refine retG (rs := [.tmp 6]) (vs := [.bool (true)]) rfl ⟨⟨rfl, rfl⟩, trivial⟩ ?_
    exact ⟨_, rfl, rfl, H6.chg⟩
  · skip
    refine skipAny ?_
    refine thenNormal ?_
    refine seqRegion ?_
    refine q_buildSlice (E := ETr) (l := ([] : List Tr)) H3 sli49 zer34 (Nat.le_of_ble_eq_true rfl) (ps := []) rfl (by exact fillAll rfl rfl) rfl ?_
    intro b7 w9 hS8 H10 hE11
    refine sq (r_move (v := .slice xa ts.length xc) rfl) ?_
    refine q_append (E := ETr) (k := 0) (l := ([] : List Tr)) (l2 := ts) H10 rfl hS8 sli49 zer34 rfl byt34 (hT.ext H10.chg) rfl (by rfl) rfl (by rfl) (by omega) ?_
    intro key12 c13 sp14 w16 hS15 hne18 H17
    have H17' := H17.as (L' := [(key12, sob ETr 34 (([] : List Tr) ++ ts) sp14)]) rfl
    clear H17
    have e19 : ([] : List Tr) ++ ts = ts := by rw [List.nil_append]
    have hS20 := hS15
    rw [e19] at hS20
    have H21 := H17'.as (L' := [(key12, sob ETr 34 ts sp14)]) (by rw [e19])
    refine q_buildSlice (E := ETr) (l := ([] : List Tr)) H21 sli49 zer34 (Nat.le_of_ble_eq_true rfl) (ps := []) rfl (by exact fillAll rfl rfl) rfl ?_
    intro b22 w24 hS23 H25 hE26
    refine sq (r_move (v := .slice ya bs.length yc) rfl) ?_
    refine q_append (E := ETr) (k := 0) (l := ([] : List Tr)) (l2 := bs) H25 rfl hS23 sli49 zer34 rfl byt34 (hB.ext H25.chg) rfl (by rfl) rfl (by rfl) (by omega) ?_
    intro key27 c28 sp29 w31 hS30 hne33 H32
    have H32' := H32.as (L' := [(key27, sob ETr 34 (([] : List Tr) ++ bs) sp29), (key12, sob ETr 34 ts sp14)]) rfl
    clear H32
    have e34 : ([] : List Tr) ++ bs = bs := by rw [List.nil_append]
    have hS35 := hS30
    rw [e34] at hS35
    have H36 := H32'.as (L' := [(key27, sob ETr 34 bs sp29), (key12, sob ETr 34 ts sp14)]) (by rw [e34])
    refine q_buildSlice (E := EOt) (l := ([] : List Ot)) H36 sli50 zer41 (Nat.le_of_ble_eq_true rfl) (ps := []) rfl (by exact fillAll rfl rfl) rfl ?_
    intro b37 w39 hS38 H40 hE41
    refine sq (r_move (v := .slice za os.length zc) rfl) ?_
    refine q_append (E := EOt) (k := 0) (l := ([] : List Ot)) (l2 := os) H40 rfl hS38 sli50 zer41 rfl byt41 (hO.ext H40.chg) rfl (by rfl) rfl (by rfl) (by omega) ?_
    intro key42 c43 sp44 w46 hS45 hne48 H47
    have H47' := H47.as (L' := [(key42, sob EOt 41 (([] : List Ot) ++ os) sp44), (key27, sob ETr 34 bs sp29), (key12, sob ETr 34 ts sp14)]) rfl
    clear H47
    have e49 : ([] : List Ot) ++ os = os := by rw [List.nil_append]
    have hS50 := hS45
    rw [e49] at hS50
    have H51 := H47'.as (L' := [(key42, sob EOt 41 os sp44), (key27, sob ETr 34 bs sp29), (key12, sob ETr 34 ts sp14)]) (by rw [e49])
    refine sq (r_assign (v := .slice (ownA key12) (0 + ts.length) c13) rfl) ?_
    refine sq (r_assign (v := .slice (ownA key27) (0 + bs.length) c28) rfl) ?_
    refine sq (r_assign (v := .slice (ownA key42) (0 + os.length) c43) rfl) ?_
    simp only [Nat.zero_add]
    refine wend ?_
    refine seqRegion ?_
    refine sq (r_move (v := .slice (ownA key12) ts.length c13) rfl) ?_
    refine sq (r_move (v := .slice (ownA key27) bs.length c28) rfl) ?_
    refine sq (r_move (v := .slice (ownA key42) os.length c43) rfl) ?_
    refine c_call (vs := [.slice (ownA key12) ts.length c13, .slice (ownA key27) bs.length c28, .slice (ownA key42) os.length c43]) call22 rfl (cload_ok ts bs os (ownA key12) (ownA key27) (ownA key42) c13 c28 c43 w46 (H51.rd (k := 2) rfl hS20) (H51.rd (k := 1) rfl hS35) (H51.rd (k := 0) rfl hS50) (by first | omega | simp) (by first | omega | simp) (by first | omega | simp) ) ?_
    rintro _ w52 ⟨⟨b54, s55, rfl, hok56, hf57, hf58, hf59, HN60⟩, hE61⟩
    have H62 := (H51.join HN60).as (L' := [(some b54, .cells #[.slice s55.t.a s55.t.l.length s55.t.c, .slice s55.b.a s55.b.l.length s55.b.c, .slice s55.o.a s55.o.l.length s55.o.c] 135 (0, 0)), (s55.t.key, sobP ETr 34 s55.t.pre s55.t.l s55.t.sp), (s55.b.key, sobP ETr 34 s55.b.pre s55.b.l s55.b.sp), (s55.o.key, sobP EOt 41 s55.o.pre s55.o.l s55.o.sp), (key42, sob EOt 41 os sp44), (key27, sob ETr 34 bs sp29), (key12, sob ETr 34 ts sp14)]) rfl
    refine sq (r_assign (v := .pointer (some ⟨b54, 0, none⟩)) rfl) ?_
    refine wend ?_
    refine seqAny ?_
    refine seqRegion ?_
    refine sq (r_move (v := .slice (ownA key12) ts.length c13) rfl) ?_
    refine sq (r_lenS sli49 (a := ownA key12) (m := ts.length) (c := c13) rfl) ?_
    refine sq (r_move (v := i64 ((0 : Int))) rfl) ?_
    refine wend ?_
    refine blockAny ?_
    refine loopAny (σ := Nat × List Tr) (fun (zi, al) => [(0, .slice xa ts.length xc), (1, .slice ya bs.length yc), (2, .slice za os.length zc), (10, .pointer (some ⟨b54, 0, none⟩)), (8, .slice (ownA key27) bs.length c28), (9, .slice (ownA key42) os.length c43), (7, .slice (ownA key12) ts.length c13), (42, i64 ((ts.length : Nat))), (43, i64 ((zi : Nat)))]) (fun (zi, al) w' => (zi ≤ ts.length ∧ al.length = ts.length ∧ Sl ETr key12 al c13 sp14) ∧ Hp No w₀ w' [(some b54, .cells #[.slice s55.t.a s55.t.l.length s55.t.c, .slice s55.b.a s55.b.l.length s55.b.c, .slice s55.o.a s55.o.l.length s55.o.c] 135 (0, 0)), (s55.t.key, sobP ETr 34 s55.t.pre s55.t.l s55.t.sp), (s55.b.key, sobP ETr 34 s55.b.pre s55.b.l s55.b.sp), (s55.o.key, sobP EOt 41 s55.o.pre s55.o.l s55.o.sp), (key42, sob EOt 41 os sp44), (key27, sob ETr 34 bs sp29), (key12, sob ETr 34 al sp14)]) (fun (zi, al) => ts.length - zi) ((0, ts)) ?_ ?_ ?_
    · exact ⟨rfl, rfl, rfl, rfl, rfl, rfl, rfl, rfl, rfl, trivial⟩
    · exact ⟨⟨Nat.zero_le _, rfl, hS20⟩, H62⟩
    rintro ⟨zi, al⟩ ρ w63 ⟨⟨hzi, hnal, hral⟩, HLal⟩
    refine seqRegion ?_
    refine sq (r_lssI (a := (zi : Nat)) (b := (ts.length : Nat)) rfl rfl) ?_
    refine wend ?_
    refine seqAny ?_
    refine condProp (((zi : Nat) : Int) < (ts.length : Nat)) rfl (fun c44 => ?_) (fun c44 => ?_)
    · skip
      refine skipAny ?_
      refine thenNormal ?_
      refine seqAny ?_
      refine blockAny ?_
      refine seqRegion ?_
      refine sq (r_move (v := i64 ((zi : Nat))) rfl) ?_
      refine sq (r_assign (v := i64 ((zi : Nat))) rfl) ?_
      refine wend ?_
      refine oneRegion ?_
      refine sq (r_move (v := .slice (ownA key12) ts.length c13) rfl) ?_
      refine sq (r_move (v := i64 ((zi : Nat))) rfl) ?_
      refine sq (r_build (cs' := #[u64 (7#64), u64 (0#64), u64 (0#64)]) (ps := [(0, u64 (7#64))]) zer34 pls34 rfl (by rfl)) ?_
      refine sq (r_idxS (E := ETr) (l := al) (j := zi) sli49 (HLal.rd (k := 6) rfl hral) rfl rfl (by first | rfl | omega | (simp; omega)) (by exact hnal.symm) (by omega)) ?_
      refine d_storeS (E := ETr) (k := 6) (l := al) (j := zi) (b := (⟨7#64, 0#64, 0#64⟩ : Tr)) (a := (al).getD zi tr0) HLal rfl hral rfl rfl rfl rfl siz34 (at_getD (by omega)) ?_
      intro w66 hS65 H67
      have H67' := H67.as (L' := [(some b54, .cells #[.slice s55.t.a s55.t.l.length s55.t.c, .slice s55.b.a s55.b.l.length s55.b.c, .slice s55.o.a s55.o.l.length s55.o.c] 135 (0, 0)), (s55.t.key, sobP ETr 34 s55.t.pre s55.t.l s55.t.sp), (s55.b.key, sobP ETr 34 s55.b.pre s55.b.l s55.b.sp), (s55.o.key, sobP EOt 41 s55.o.pre s55.o.l s55.o.sp), (key42, sob EOt 41 os sp44), (key27, sob ETr 34 bs sp29), (key12, sob ETr 34 (al.set zi (⟨7#64, 0#64, 0#64⟩ : Tr)) sp14)]) rfl
      clear H67
      refine wnil ?_
      refine blockNormal ?_
      refine thenNormal ?_
      refine oneRegion ?_
      refine sq (r_addI (a := (zi : Nat)) (b := (1 : Int)) rfl rfl (by omega)) ?_
      refine sq (r_move (v := i64 ((zi : Nat) + (1 : Int))) rfl) ?_
      refine wnil ?_
      refine thenNormal ?_
      exact ⟨(zi + 1, al.set zi (⟨7#64, 0#64, 0#64⟩ : Tr)), _, rfl, ⟨rfl, rfl, rfl, rfl, rfl, rfl, rfl, rfl, rfl, trivial⟩, ⟨⟨by omega, by rw [List.length_set]; exact hnal, hS65⟩, H67'⟩, by show ts.length - (zi + 1) < ts.length - zi; omega⟩
    · skip
      have H68 := HLal.dropk 6
      have H68' := H68.as (L' := [(some b54, .cells #[.slice s55.t.a s55.t.l.length s55.t.c, .slice s55.b.a s55.b.l.length s55.b.c, .slice s55.o.a s55.o.l.length s55.o.c] 135 (0, 0)), (s55.t.key, sobP ETr 34 s55.t.pre s55.t.l s55.t.sp), (s55.b.key, sobP ETr 34 s55.b.pre s55.b.l s55.b.sp), (s55.o.key, sobP EOt 41 s55.o.pre s55.o.l s55.o.sp), (key42, sob EOt 41 os sp44), (key27, sob ETr 34 bs sp29)]) rfl
      refine exitAny ?_
      refine thenExit ?_
      refine thenExit ?_
      refine blockHere ?_
      refine thenNormal ?_
      refine seqAny ?_
      refine seqRegion ?_
      refine sq (r_move (v := .slice (ownA key27) bs.length c28) rfl) ?_
      refine sq (r_lenS sli49 (a := ownA key27) (m := bs.length) (c := c28) rfl) ?_
      refine sq (r_move (v := i64 ((0 : Int))) rfl) ?_
      refine wend ?_
      refine blockAny ?_
      refine loopAny (σ := Nat × List Tr) (fun (yi, bl) => [(0, .slice xa ts.length xc), (1, .slice ya bs.length yc), (2, .slice za os.length zc), (10, .pointer (some ⟨b54, 0, none⟩)), (9, .slice (ownA key42) os.length c43), (8, .slice (ownA key27) bs.length c28), (52, i64 ((bs.length : Nat))), (53, i64 ((yi : Nat)))]) (fun (yi, bl) w' => (yi ≤ bs.length ∧ bl.length = bs.length ∧ Sl ETr key27 bl c28 sp29) ∧ Hp No w₀ w' [(some b54, .cells #[.slice s55.t.a s55.t.l.length s55.t.c, .slice s55.b.a s55.b.l.length s55.b.c, .slice s55.o.a s55.o.l.length s55.o.c] 135 (0, 0)), (s55.t.key, sobP ETr 34 s55.t.pre s55.t.l s55.t.sp), (s55.b.key, sobP ETr 34 s55.b.pre s55.b.l s55.b.sp), (s55.o.key, sobP EOt 41 s55.o.pre s55.o.l s55.o.sp), (key42, sob EOt 41 os sp44), (key27, sob ETr 34 bl sp29)]) (fun (yi, bl) => bs.length - yi) ((0, bs)) ?_ ?_ ?_
      · exact ⟨rfl, rfl, rfl, rfl, rfl, rfl, rfl, rfl, trivial⟩
      · exact ⟨⟨Nat.zero_le _, rfl, hS35⟩, H68'⟩
      rintro ⟨yi, bl⟩ ρ w69 ⟨⟨hyi, hnbl, hrbl⟩, HLbl⟩
      refine seqRegion ?_
      refine sq (r_lssI (a := (yi : Nat)) (b := (bs.length : Nat)) rfl rfl) ?_
      refine wend ?_
      refine seqAny ?_
      refine condProp (((yi : Nat) : Int) < (bs.length : Nat)) rfl (fun c54 => ?_) (fun c54 => ?_)
      · skip
        refine skipAny ?_
        refine thenNormal ?_
        refine seqAny ?_
        refine blockAny ?_
        refine seqRegion ?_
        refine sq (r_move (v := i64 ((yi : Nat))) rfl) ?_
        refine sq (r_assign (v := i64 ((yi : Nat))) rfl) ?_
        refine wend ?_
        refine oneRegion ?_
        refine sq (r_move (v := .slice (ownA key27) bs.length c28) rfl) ?_
        refine sq (r_move (v := i64 ((yi : Nat))) rfl) ?_
        refine sq (r_build (cs' := #[u64 (0#64), u64 (7#64), u64 (0#64)]) (ps := [(1, u64 (7#64))]) zer34 pls34 rfl (by rfl)) ?_
        refine sq (r_idxS (E := ETr) (l := bl) (j := yi) sli49 (HLbl.rd (k := 5) rfl hrbl) rfl rfl (by first | rfl | omega | (simp; omega)) (by exact hnbl.symm) (by omega)) ?_
        refine d_storeS (E := ETr) (k := 5) (l := bl) (j := yi) (b := (⟨0#64, 7#64, 0#64⟩ : Tr)) (a := (bl).getD yi tr0) HLbl rfl hrbl rfl rfl rfl rfl siz34 (at_getD (by omega)) ?_
        intro w72 hS71 H73
        have H73' := H73.as (L' := [(some b54, .cells #[.slice s55.t.a s55.t.l.length s55.t.c, .slice s55.b.a s55.b.l.length s55.b.c, .slice s55.o.a s55.o.l.length s55.o.c] 135 (0, 0)), (s55.t.key, sobP ETr 34 s55.t.pre s55.t.l s55.t.sp), (s55.b.key, sobP ETr 34 s55.b.pre s55.b.l s55.b.sp), (s55.o.key, sobP EOt 41 s55.o.pre s55.o.l s55.o.sp), (key42, sob EOt 41 os sp44), (key27, sob ETr 34 (bl.set yi (⟨0#64, 7#64, 0#64⟩ : Tr)) sp29)]) rfl
        clear H73
        refine wnil ?_
        refine blockNormal ?_
        refine thenNormal ?_
        refine oneRegion ?_
        refine sq (r_addI (a := (yi : Nat)) (b := (1 : Int)) rfl rfl (by omega)) ?_
        refine sq (r_move (v := i64 ((yi : Nat) + (1 : Int))) rfl) ?_
        refine wnil ?_
        refine thenNormal ?_
        exact ⟨(yi + 1, bl.set yi (⟨0#64, 7#64, 0#64⟩ : Tr)), _, rfl, ⟨rfl, rfl, rfl, rfl, rfl, rfl, rfl, rfl, trivial⟩, ⟨⟨by omega, by rw [List.length_set]; exact hnbl, hS71⟩, H73'⟩, by show bs.length - (yi + 1) < bs.length - yi; omega⟩
      · skip
        have H74 := HLbl.dropk 5
        have H74' := H74.as (L' := [(some b54, .cells #[.slice s55.t.a s55.t.l.length s55.t.c, .slice s55.b.a s55.b.l.length s55.b.c, .slice s55.o.a s55.o.l.length s55.o.c] 135 (0, 0)), (s55.t.key, sobP ETr 34 s55.t.pre s55.t.l s55.t.sp), (s55.b.key, sobP ETr 34 s55.b.pre s55.b.l s55.b.sp), (s55.o.key, sobP EOt 41 s55.o.pre s55.o.l s55.o.sp), (key42, sob EOt 41 os sp44)]) rfl
        refine exitAny ?_
        refine thenExit ?_
        refine thenExit ?_
        refine blockHere ?_
        refine thenNormal ?_
        refine seqAny ?_
        refine seqRegion ?_
        refine sq (r_move (v := .slice (ownA key42) os.length c43) rfl) ?_
        refine sq (r_lenS sli50 (a := ownA key42) (m := os.length) (c := c43) rfl) ?_
        refine sq (r_move (v := i64 ((0 : Int))) rfl) ?_
        refine wend ?_
        refine blockAny ?_
        refine loopAny (σ := Nat × List Ot) (fun (xi, ol) => [(0, .slice xa ts.length xc), (1, .slice ya bs.length yc), (2, .slice za os.length zc), (10, .pointer (some ⟨b54, 0, none⟩)), (9, .slice (ownA key42) os.length c43), (62, i64 ((os.length : Nat))), (63, i64 ((xi : Nat)))]) (fun (xi, ol) w' => (xi ≤ os.length ∧ ol.length = os.length ∧ Sl EOt key42 ol c43 sp44) ∧ Hp No w₀ w' [(some b54, .cells #[.slice s55.t.a s55.t.l.length s55.t.c, .slice s55.b.a s55.b.l.length s55.b.c, .slice s55.o.a s55.o.l.length s55.o.c] 135 (0, 0)), (s55.t.key, sobP ETr 34 s55.t.pre s55.t.l s55.t.sp), (s55.b.key, sobP ETr 34 s55.b.pre s55.b.l s55.b.sp), (s55.o.key, sobP EOt 41 s55.o.pre s55.o.l s55.o.sp), (key42, sob EOt 41 ol sp44)]) (fun (xi, ol) => os.length - xi) ((0, os)) ?_ ?_ ?_
        · exact ⟨rfl, rfl, rfl, rfl, rfl, rfl, rfl, trivial⟩
        · exact ⟨⟨Nat.zero_le _, rfl, hS50⟩, H74'⟩
        rintro ⟨xi, ol⟩ ρ w75 ⟨⟨hxi, hnol, hrol⟩, HLol⟩
        refine seqRegion ?_
        refine sq (r_lssI (a := (xi : Nat)) (b := (os.length : Nat)) rfl rfl) ?_
        refine wend ?_
        refine seqAny ?_
        refine condProp (((xi : Nat) : Int) < (os.length : Nat)) rfl (fun c64 => ?_) (fun c64 => ?_)
        · skip
          refine skipAny ?_
          refine thenNormal ?_
          refine seqAny ?_
          refine blockAny ?_
          refine seqRegion ?_
          refine sq (r_move (v := i64 ((xi : Nat))) rfl) ?_
          refine sq (r_assign (v := i64 ((xi : Nat))) rfl) ?_
          refine wend ?_
          refine oneRegion ?_
          refine sq (r_move (v := .slice (ownA key42) os.length c43) rfl) ?_
          refine sq (r_move (v := i64 ((xi : Nat))) rfl) ?_
          refine sq (r_build (cs' := #[u64 (0#64), u64 (0#64), u64 (0#64), u64 (0#64), .bool (false)]) (ps := []) zer41 pls41 rfl (by rfl)) ?_
          refine sq (r_idxS (E := EOt) (l := ol) (j := xi) sli50 (HLol.rd (k := 4) rfl hrol) rfl rfl (by first | rfl | omega | (simp; omega)) (by exact hnol.symm) (by omega)) ?_
          refine d_storeS (E := EOt) (k := 4) (l := ol) (j := xi) (b := (⟨0#64, 0#64, 0#64, 0#64, false⟩ : Ot)) (a := (ol).getD xi ot0) HLol rfl hrol rfl rfl rfl rfl siz41 (at_getD (by omega)) ?_
          intro w78 hS77 H79
          have H79' := H79.as (L' := [(some b54, .cells #[.slice s55.t.a s55.t.l.length s55.t.c, .slice s55.b.a s55.b.l.length s55.b.c, .slice s55.o.a s55.o.l.length s55.o.c] 135 (0, 0)), (s55.t.key, sobP ETr 34 s55.t.pre s55.t.l s55.t.sp), (s55.b.key, sobP ETr 34 s55.b.pre s55.b.l s55.b.sp), (s55.o.key, sobP EOt 41 s55.o.pre s55.o.l s55.o.sp), (key42, sob EOt 41 (ol.set xi (⟨0#64, 0#64, 0#64, 0#64, false⟩ : Ot)) sp44)]) rfl
          clear H79
          refine wnil ?_
          refine blockNormal ?_
          refine thenNormal ?_
          refine oneRegion ?_
          refine sq (r_addI (a := (xi : Nat)) (b := (1 : Int)) rfl rfl (by omega)) ?_
          refine sq (r_move (v := i64 ((xi : Nat) + (1 : Int))) rfl) ?_
          refine wnil ?_
          refine thenNormal ?_
          exact ⟨(xi + 1, ol.set xi (⟨0#64, 0#64, 0#64, 0#64, false⟩ : Ot)), _, rfl, ⟨rfl, rfl, rfl, rfl, rfl, rfl, rfl, trivial⟩, ⟨⟨by omega, by rw [List.length_set]; exact hnol, hS77⟩, H79'⟩, by show os.length - (xi + 1) < os.length - xi; omega⟩
        · skip
          have H80 := HLol.dropk 4
          have H80' := H80.as (L' := [(some b54, .cells #[.slice s55.t.a s55.t.l.length s55.t.c, .slice s55.b.a s55.b.l.length s55.b.c, .slice s55.o.a s55.o.l.length s55.o.c] 135 (0, 0)), (s55.t.key, sobP ETr 34 s55.t.pre s55.t.l s55.t.sp), (s55.b.key, sobP ETr 34 s55.b.pre s55.b.l s55.b.sp), (s55.o.key, sobP EOt 41 s55.o.pre s55.o.l s55.o.sp)]) rfl
          refine exitAny ?_
          refine thenExit ?_
          refine thenExit ?_
          refine blockHere ?_
          refine thenNormal ?_
          refine seqRegion ?_
          refine sq (r_move (v := .pointer (some ⟨b54, 0, none⟩)) rfl) ?_
          refine sq (r_move (v := .slice xa ts.length xc) rfl) ?_
          refine sq (r_move (v := .slice ya bs.length yc) rfl) ?_
          refine sq (r_move (v := .slice za os.length zc) rfl) ?_
          refine sq (r_build (cs' := #[.slice xa ts.length xc, .slice ya bs.length yc, .slice za os.length zc]) (ps := [(0, .slice xa ts.length xc), (1, .slice ya bs.length yc), (2, .slice za os.length zc)]) zer54 pls54 rfl (by rfl)) ?_
          have H81 := (H80').as (L' := skR 34 41 135 b54 s55 ++ []) rfl
          refine c_call (vs := [.pointer (some ⟨b54, 0, none⟩), .agg #[.slice xa ts.length xc, .slice ya bs.length yc, .slice za os.length zc], .slice none 0 0]) call23 rfl (gives_ok b54 s55 hok56 ts bs os xa ya za none xc yc zc 0 ([] : List Int) hf57 hf58 hf59 (by first | omega | simp) (by first | omega | simp) (by first | omega | simp) (by first | omega | simp) [] w₀ w75 hG Rd.nil (fun _ hX _ => hT.ext hX) (fun _ hX _ => hB.ext hX) (fun _ hX _ => hO.ext hX) H81) ?_
          rintro _ w82 ⟨rfl, s84, HN85⟩
          have H86 := HN85.as (L' := [(some b54, .cells #[.slice s84.t.a s84.t.l.length s84.t.c, .slice s84.b.a s84.b.l.length s84.b.c, .slice s84.o.a s84.o.l.length s84.o.c] 135 (0, 0)), (s84.t.key, sobP ETr 34 s84.t.pre s84.t.l s84.t.sp), (s84.b.key, sobP ETr 34 s84.b.pre s84.b.l s84.b.sp), (s84.o.key, sobP EOt 41 s84.o.pre s84.o.l s84.o.sp)]) rfl
          refine sq (r_assign (v := .bool (true)) rfl) ?_
          refine wend ?_
          refine retAny ?_
          refine retG (rs := [.tmp 6]) (vs := [.bool (true)]) rfl ⟨⟨rfl, rfl⟩, trivial⟩ ?_
          exact ⟨_, rfl, rfl, H86.chg⟩
end Go.Proofs.YteofdmdpaejgaaaDoor.Co
