/- The walks of the nets. -/
import Derived.Test.YtpmmhpgfbfehmaaDoorNet4
import Derived.Test.YtpmmhpgfbfehmaaDoorNetSpec
import Derived.Test.YtpmmhpgfbfehmaaDoorVcBytes
import Derived.Test.YtpmmhpgfbfehmaaDoorVcPoset
namespace Go.Proofs.YtpmmhpgfbfehmaaDoor.Nt
open Go Go.Proofs.YtpmmhpgfbfehmaaDoor.Vc Go.Proofs.YtpmmhpgfbfehmaaDoor.Er
theorem agg42 : isAgg' Tryd.prog 42 = true := by kernel_rfl
theorem arr40 : arr Tryd.prog 40 = some (2, 1) := by kernel_rfl
theorem byt9 : byt Tryd.prog 9 = some 16 := by kernel_rfl
theorem call40 : callable Tryd.prog 40 = true := by kernel_rfl
theorem fits9 : Fits Tryd.prog 9 ET := fitsT (by kernel_rfl) (by kernel_rfl)
theorem fld42_0 : fld Tryd.prog 42 0 = some (0, 2, 40) := by kernel_rfl
theorem one39 : isOne Tryd.prog 39 = true := by kernel_rfl
theorem siz39 : siz Tryd.prog 39 = some 1 := by kernel_rfl
theorem siz42 : siz Tryd.prog 42 = some 2 := by kernel_rfl
theorem sli39 : sli Tryd.prog 39 = some (9, 1) := by kernel_rfl
theorem zer42 : zer Tryd.prog 42 = some (.agg #[.slice none 0 0, .slice none 0 0]) := by kernel_rfl
theorem zer9 : zer Tryd.prog 9 = some (.string ⟨#[]⟩) := by kernel_rfl
theorem rat_hit_0 (l : List (List (BitVec 8))) (aa oa : Option Addr) (ac on oc : Nat) (w : World) (i : Nat) (hi : i < l.length) (hA : Rd ET w aa l) : Calls Tryd.prog 39 [.agg #[.slice aa l.length ac, .slice oa on oc], i64 ((0 : Int)), i64 ((i : Nat))].toArray w (Ret fun v w' => v = .tuple #[.string (strB (l.getD i [])), i64 (0 : Int)] ∧ Ext w w') := by
  have H := Hp.start No w
  refine enter (n := 32) Tryd.func39 rfl rfl (Nat.le_of_ble_eq_true rfl) ?_
  refine seqRegion ?_
  refine q_box (v := .agg #[.slice aa l.length ac, .slice oa on oc]) (o := .cells #[.slice aa l.length ac, .slice oa on oc] 42 (0, 0)) H rfl (by rfl) ?_
  intro b1 w2 hb1 H3 hE4
  refine sq (r_assign (v := .string ({data := #[]})) rfl) ?_
  refine sq (r_assign (v := i64 ((0 : Int))) rfl) ?_
  refine wend ?_
  refine seqAny ?_
  refine seqRegion ?_
  refine sq (r_move (v := i64 ((0 : Int))) rfl) ?_
  refine sq ((r_lssI (a := (0 : Int)) (b := (0 : Int)) rfl rfl).as (v' := .bool (false)) (by rfl)) ?_
  refine sq (r_move (v := .bool (false)) rfl) ?_
  refine sqAny (v := i64 ((0 : Int))) (w' := w2) (wantedSome (d' := 10) (b := false) rfl rfl rfl) (r_move (v := i64 ((0 : Int))) rfl) ?_
  refine sqAny (v := .bool (false)) (w' := w2) (wantedSome (d' := 10) (b := false) rfl rfl rfl) ((r_gtrI (a := (0 : Int)) (b := (1 : Int)) rfl rfl).as (v' := .bool (false)) (by rfl)) ?_
  refine sq (r_pickF (v := .bool (false)) rfl rfl) ?_
  refine wend ?_
  refine condFalse rfl ?_
  refine skipAny ?_
  refine thenNormal ?_
  refine seqAny ?_
  refine seqRegion ?_
  refine sq (r_move (v := i64 ((i : Nat))) rfl) ?_
  refine sq ((r_lssI (a := (i : Nat)) (b := (0 : Int)) rfl rfl).as (v' := .bool (false)) (by exact congrArg Value.bool (decide_eq_false (by omega)))) ?_
  refine sq (r_move (v := .bool (false)) rfl) ?_
  refine sqAny (v := i64 ((i : Nat))) (w' := w2) (wantedSome (d' := 16) (b := false) rfl rfl rfl) (r_move (v := i64 ((i : Nat))) rfl) ?_
  refine sqAny (v := i64 ((0 : Int))) (w' := w2) (wantedSome (d' := 16) (b := false) rfl rfl rfl) (r_move (v := i64 ((0 : Int))) rfl) ?_
  refine sqAny (v := .pointer (some ⟨b1, 0, none⟩)) (w' := w2) (wantedSome (d' := 16) (b := false) rfl rfl rfl) (r_fieldAddr (off' := 0) fld42_0 (by decide) (b := b1) (off := 0) rfl (by omega)) ?_
  refine sqAny (v := .pointer (some ⟨b1, 0, none⟩)) (w' := w2) (wantedSome (d' := 16) (b := false) rfl rfl rfl) (r_indexA (off' := 0) (j := 0) arr40 (b := b1) (off := 0) rfl rfl (by first | rfl | omega | (simp; omega)) (by omega) (by omega)) ?_
  refine sqAny (v := .slice aa l.length ac) (w' := w2) (wantedSome (d' := 16) (b := false) rfl rfl rfl) (r_loadC (v := .slice aa l.length ac) one39 (H3.get (k := 0) rfl) (off := 0) rfl (by rfl)) ?_
  refine sqAny (v := i64 ((l.length : Nat))) (w' := w2) (wantedSome (d' := 16) (b := false) rfl rfl rfl) (r_lenS sli39 (a := aa) (m := l.length) (c := ac) rfl) ?_
  refine sqAny (v := .bool (false)) (w' := w2) (wantedSome (d' := 16) (b := false) rfl rfl rfl) ((r_geqI (a := (i : Nat)) (b := (l.length : Nat)) rfl rfl).as (v' := .bool (false)) (by exact congrArg Value.bool (decide_eq_false (by omega)))) ?_
  refine sq (r_pickF (v := .bool (false)) rfl rfl) ?_
  refine wend ?_
  refine condFalse rfl ?_
  refine skipAny ?_
  refine thenNormal ?_
  refine seqRegion ?_
  refine sq (r_move (v := i64 ((0 : Int))) rfl) ?_
  refine sq (r_fieldAddr (off' := 0) fld42_0 (by decide) (b := b1) (off := 0) rfl (by omega)) ?_
  refine sq (r_indexA (off' := 0) (j := 0) arr40 (b := b1) (off := 0) rfl rfl (by first | rfl | omega | (simp; omega)) (by omega) (by omega)) ?_
  refine sq (r_loadC (v := .slice aa l.length ac) one39 (H3.get (k := 0) rfl) (off := 0) rfl (by rfl)) ?_
  refine sq (r_move (v := i64 ((i : Nat))) rfl) ?_
  refine sq (r_idxS (E := ET) (l := l) (j := i) sli39 (hA.ext H3.chg) rfl rfl (by first | rfl | omega | (simp; omega)) (by rfl) (by omega)) ?_
  refine sq (r_ldS (E := ET) (l := l) (j := i) (v := (l).getD i []) fits9 (hA.ext H3.chg) rfl rfl (at_getD (by omega))) ?_
  refine sq (r_assign (v := .string (strB ((l).getD i []))) rfl) ?_
  refine sq (r_assign (v := i64 ((0 : Int))) rfl) ?_
  refine wend ?_
  refine retAny ?_
  refine retG (rs := [.tmp 6, .tmp 7]) (vs := [.string (strB ((l).getD i [])), i64 ((0 : Int))]) rfl ⟨⟨rfl, rfl⟩, ⟨rfl, rfl⟩, trivial⟩ ?_
  exact ⟨_, rfl, rfl, H3.chg⟩

theorem rat_miss_0 (l : List (List (BitVec 8))) (aa oa : Option Addr) (ac on oc : Nat) (w : World) (i : Int) (hi : i < 0 ∨ (l.length : Int) ≤ i) : Calls Tryd.prog 39 [.agg #[.slice aa l.length ac, .slice oa on oc], i64 ((0 : Int)), i64 (i)].toArray w (Ret fun v w' => v = .tuple #[.string (strB []), i64 (4 : Int)] ∧ Ext w w') := by
  have H := Hp.start No w
  refine enter (n := 32) Tryd.func39 rfl rfl (Nat.le_of_ble_eq_true rfl) ?_
  refine seqRegion ?_
  refine q_box (v := .agg #[.slice aa l.length ac, .slice oa on oc]) (o := .cells #[.slice aa l.length ac, .slice oa on oc] 42 (0, 0)) H rfl (by rfl) ?_
  intro b1 w2 hb1 H3 hE4
  refine sq (r_assign (v := .string ({data := #[]})) rfl) ?_
  refine sq (r_assign (v := i64 ((0 : Int))) rfl) ?_
  refine wend ?_
  refine seqAny ?_
  refine seqRegion ?_
  refine sq (r_move (v := i64 ((0 : Int))) rfl) ?_
  refine sq ((r_lssI (a := (0 : Int)) (b := (0 : Int)) rfl rfl).as (v' := .bool (false)) (by rfl)) ?_
  refine sq (r_move (v := .bool (false)) rfl) ?_
  refine sqAny (v := i64 ((0 : Int))) (w' := w2) (wantedSome (d' := 10) (b := false) rfl rfl rfl) (r_move (v := i64 ((0 : Int))) rfl) ?_
  refine sqAny (v := .bool (false)) (w' := w2) (wantedSome (d' := 10) (b := false) rfl rfl rfl) ((r_gtrI (a := (0 : Int)) (b := (1 : Int)) rfl rfl).as (v' := .bool (false)) (by rfl)) ?_
  refine sq (r_pickF (v := .bool (false)) rfl rfl) ?_
  refine wend ?_
  refine condFalse rfl ?_
  refine skipAny ?_
  refine thenNormal ?_
  refine seqAny ?_
  refine seqRegion ?_
  refine sq (r_move (v := i64 (i)) rfl) ?_
  refine sq (r_lssI (a := i) (b := (0 : Int)) rfl rfl) ?_
  refine sq (r_move (v := .bool (decide ((i : Int) < (0 : Int)))) rfl) ?_
  by_cases g5 : (i : Int) < (0 : Int)
  · skip
    refine skAny (wantedSome (d' := 16) (b := true) rfl rfl (congrArg Value.bool (decide_eq_true g5))) ?_
    refine skAny (wantedSome (d' := 16) (b := true) rfl rfl (congrArg Value.bool (decide_eq_true g5))) ?_
    refine skAny (wantedSome (d' := 16) (b := true) rfl rfl (congrArg Value.bool (decide_eq_true g5))) ?_
    refine skAny (wantedSome (d' := 16) (b := true) rfl rfl (congrArg Value.bool (decide_eq_true g5))) ?_
    refine skAny (wantedSome (d' := 16) (b := true) rfl rfl (congrArg Value.bool (decide_eq_true g5))) ?_
    refine skAny (wantedSome (d' := 16) (b := true) rfl rfl (congrArg Value.bool (decide_eq_true g5))) ?_
    refine skAny (wantedSome (d' := 16) (b := true) rfl rfl (congrArg Value.bool (decide_eq_true g5))) ?_
    refine sq (r_pickT (u := .bool (true)) (congrArg Value.bool (decide_eq_true g5)) rfl) ?_
    refine wend ?_
    refine condTrue rfl ?_
    refine seqRegion ?_
    refine sq (r_assign (v := .string ({data := #[]})) rfl) ?_
    refine sq (r_assign (v := i64 ((4 : Int))) rfl) ?_
    refine wend ?_
    refine retAny ?_
    refine thenRet ?_
    refine retG (rs := [.tmp 6, .tmp 7]) (vs := [.string ({data := #[]}), i64 ((4 : Int))]) rfl ⟨⟨rfl, rfl⟩, ⟨rfl, rfl⟩, trivial⟩ ?_
    exact ⟨_, rfl, rfl, H3.chg⟩
  · skip
    refine sqAny (v := i64 (i)) (w' := w2) (wantedSome (d' := 16) (b := false) rfl rfl (congrArg Value.bool (decide_eq_false g5))) (r_move (v := i64 (i)) rfl) ?_
    refine sqAny (v := i64 ((0 : Int))) (w' := w2) (wantedSome (d' := 16) (b := false) rfl rfl (congrArg Value.bool (decide_eq_false g5))) (r_move (v := i64 ((0 : Int))) rfl) ?_
    refine sqAny (v := .pointer (some ⟨b1, 0, none⟩)) (w' := w2) (wantedSome (d' := 16) (b := false) rfl rfl (congrArg Value.bool (decide_eq_false g5))) (r_fieldAddr (off' := 0) fld42_0 (by decide) (b := b1) (off := 0) rfl (by omega)) ?_
    refine sqAny (v := .pointer (some ⟨b1, 0, none⟩)) (w' := w2) (wantedSome (d' := 16) (b := false) rfl rfl (congrArg Value.bool (decide_eq_false g5))) (r_indexA (off' := 0) (j := 0) arr40 (b := b1) (off := 0) rfl rfl (by first | rfl | omega | (simp; omega)) (by omega) (by omega)) ?_
    refine sqAny (v := .slice aa l.length ac) (w' := w2) (wantedSome (d' := 16) (b := false) rfl rfl (congrArg Value.bool (decide_eq_false g5))) (r_loadC (v := .slice aa l.length ac) one39 (H3.get (k := 0) rfl) (off := 0) rfl (by rfl)) ?_
    refine sqAny (v := i64 ((l.length : Nat))) (w' := w2) (wantedSome (d' := 16) (b := false) rfl rfl (congrArg Value.bool (decide_eq_false g5))) (r_lenS sli39 (a := aa) (m := l.length) (c := ac) rfl) ?_
    refine sqAny (v := .bool (true)) (w' := w2) (wantedSome (d' := 16) (b := false) rfl rfl (congrArg Value.bool (decide_eq_false g5))) ((r_geqI (a := i) (b := (l.length : Nat)) rfl rfl).as (v' := .bool (true)) (by exact congrArg Value.bool (decide_eq_true (by omega)))) ?_
    refine sq (r_pickF (v := .bool (true)) (congrArg Value.bool (decide_eq_false g5)) rfl) ?_
    refine wend ?_
    refine condTrue rfl ?_
    refine seqRegion ?_
    refine sq (r_assign (v := .string ({data := #[]})) rfl) ?_
    refine sq (r_assign (v := i64 ((4 : Int))) rfl) ?_
    refine wend ?_
    refine retAny ?_
    refine thenRet ?_
    refine retG (rs := [.tmp 6, .tmp 7]) (vs := [.string ({data := #[]}), i64 ((4 : Int))]) rfl ⟨⟨rfl, rfl⟩, ⟨rfl, rfl⟩, trivial⟩ ?_
    exact ⟨_, rfl, rfl, H3.chg⟩

theorem rat_hit_1 (l : List (List (BitVec 8))) (aa oa : Option Addr) (ac on oc : Nat) (w : World) (i : Nat) (hi : i < l.length) (hA : Rd ET w aa l) : Calls Tryd.prog 39 [.agg #[.slice oa on oc, .slice aa l.length ac], i64 ((1 : Int)), i64 ((i : Nat))].toArray w (Ret fun v w' => v = .tuple #[.string (strB (l.getD i [])), i64 (0 : Int)] ∧ Ext w w') := by
  have H := Hp.start No w
  refine enter (n := 32) Tryd.func39 rfl rfl (Nat.le_of_ble_eq_true rfl) ?_
  refine seqRegion ?_
  refine q_box (v := .agg #[.slice oa on oc, .slice aa l.length ac]) (o := .cells #[.slice oa on oc, .slice aa l.length ac] 42 (0, 0)) H rfl (by rfl) ?_
  intro b1 w2 hb1 H3 hE4
  refine sq (r_assign (v := .string ({data := #[]})) rfl) ?_
  refine sq (r_assign (v := i64 ((0 : Int))) rfl) ?_
  refine wend ?_
  refine seqAny ?_
  refine seqRegion ?_
  refine sq (r_move (v := i64 ((1 : Int))) rfl) ?_
  refine sq ((r_lssI (a := (1 : Int)) (b := (0 : Int)) rfl rfl).as (v' := .bool (false)) (by rfl)) ?_
  refine sq (r_move (v := .bool (false)) rfl) ?_
  refine sqAny (v := i64 ((1 : Int))) (w' := w2) (wantedSome (d' := 10) (b := false) rfl rfl rfl) (r_move (v := i64 ((1 : Int))) rfl) ?_
  refine sqAny (v := .bool (false)) (w' := w2) (wantedSome (d' := 10) (b := false) rfl rfl rfl) ((r_gtrI (a := (1 : Int)) (b := (1 : Int)) rfl rfl).as (v' := .bool (false)) (by rfl)) ?_
  refine sq (r_pickF (v := .bool (false)) rfl rfl) ?_
  refine wend ?_
  refine condFalse rfl ?_
  refine skipAny ?_
  refine thenNormal ?_
  refine seqAny ?_
  refine seqRegion ?_
  refine sq (r_move (v := i64 ((i : Nat))) rfl) ?_
  refine sq ((r_lssI (a := (i : Nat)) (b := (0 : Int)) rfl rfl).as (v' := .bool (false)) (by exact congrArg Value.bool (decide_eq_false (by omega)))) ?_
  refine sq (r_move (v := .bool (false)) rfl) ?_
  refine sqAny (v := i64 ((i : Nat))) (w' := w2) (wantedSome (d' := 16) (b := false) rfl rfl rfl) (r_move (v := i64 ((i : Nat))) rfl) ?_
  refine sqAny (v := i64 ((1 : Int))) (w' := w2) (wantedSome (d' := 16) (b := false) rfl rfl rfl) (r_move (v := i64 ((1 : Int))) rfl) ?_
  refine sqAny (v := .pointer (some ⟨b1, 0, none⟩)) (w' := w2) (wantedSome (d' := 16) (b := false) rfl rfl rfl) (r_fieldAddr (off' := 0) fld42_0 (by decide) (b := b1) (off := 0) rfl (by omega)) ?_
  refine sqAny (v := .pointer (some ⟨b1, 1, none⟩)) (w' := w2) (wantedSome (d' := 16) (b := false) rfl rfl rfl) (r_indexA (off' := 1) (j := 1) arr40 (b := b1) (off := 0) rfl rfl (by first | rfl | omega | (simp; omega)) (by omega) (by omega)) ?_
  refine sqAny (v := .slice aa l.length ac) (w' := w2) (wantedSome (d' := 16) (b := false) rfl rfl rfl) (r_loadC (v := .slice aa l.length ac) one39 (H3.get (k := 0) rfl) (off := 1) rfl (by rfl)) ?_
  refine sqAny (v := i64 ((l.length : Nat))) (w' := w2) (wantedSome (d' := 16) (b := false) rfl rfl rfl) (r_lenS sli39 (a := aa) (m := l.length) (c := ac) rfl) ?_
  refine sqAny (v := .bool (false)) (w' := w2) (wantedSome (d' := 16) (b := false) rfl rfl rfl) ((r_geqI (a := (i : Nat)) (b := (l.length : Nat)) rfl rfl).as (v' := .bool (false)) (by exact congrArg Value.bool (decide_eq_false (by omega)))) ?_
  refine sq (r_pickF (v := .bool (false)) rfl rfl) ?_
  refine wend ?_
  refine condFalse rfl ?_
  refine skipAny ?_
  refine thenNormal ?_
  refine seqRegion ?_
  refine sq (r_move (v := i64 ((1 : Int))) rfl) ?_
  refine sq (r_fieldAddr (off' := 0) fld42_0 (by decide) (b := b1) (off := 0) rfl (by omega)) ?_
  refine sq (r_indexA (off' := 1) (j := 1) arr40 (b := b1) (off := 0) rfl rfl (by first | rfl | omega | (simp; omega)) (by omega) (by omega)) ?_
  refine sq (r_loadC (v := .slice aa l.length ac) one39 (H3.get (k := 0) rfl) (off := 1) rfl (by rfl)) ?_
  refine sq (r_move (v := i64 ((i : Nat))) rfl) ?_
  refine sq (r_idxS (E := ET) (l := l) (j := i) sli39 (hA.ext H3.chg) rfl rfl (by first | rfl | omega | (simp; omega)) (by rfl) (by omega)) ?_
  refine sq (r_ldS (E := ET) (l := l) (j := i) (v := (l).getD i []) fits9 (hA.ext H3.chg) rfl rfl (at_getD (by omega))) ?_
  refine sq (r_assign (v := .string (strB ((l).getD i []))) rfl) ?_
  refine sq (r_assign (v := i64 ((0 : Int))) rfl) ?_
  refine wend ?_
  refine retAny ?_
  refine retG (rs := [.tmp 6, .tmp 7]) (vs := [.string (strB ((l).getD i [])), i64 ((0 : Int))]) rfl ⟨⟨rfl, rfl⟩, ⟨rfl, rfl⟩, trivial⟩ ?_
  exact ⟨_, rfl, rfl, H3.chg⟩

theorem rat_miss_1 (l : List (List (BitVec 8))) (aa oa : Option Addr) (ac on oc : Nat) (w : World) (i : Int) (hi : i < 0 ∨ (l.length : Int) ≤ i) : Calls Tryd.prog 39 [.agg #[.slice oa on oc, .slice aa l.length ac], i64 ((1 : Int)), i64 (i)].toArray w (Ret fun v w' => v = .tuple #[.string (strB []), i64 (4 : Int)] ∧ Ext w w') := by
  have H := Hp.start No w
  refine enter (n := 32) Tryd.func39 rfl rfl (Nat.le_of_ble_eq_true rfl) ?_
  refine seqRegion ?_
  refine q_box (v := .agg #[.slice oa on oc, .slice aa l.length ac]) (o := .cells #[.slice oa on oc, .slice aa l.length ac] 42 (0, 0)) H rfl (by rfl) ?_
  intro b1 w2 hb1 H3 hE4
  refine sq (r_assign (v := .string ({data := #[]})) rfl) ?_
  refine sq (r_assign (v := i64 ((0 : Int))) rfl) ?_
  refine wend ?_
  refine seqAny ?_
  refine seqRegion ?_
  refine sq (r_move (v := i64 ((1 : Int))) rfl) ?_
  refine sq ((r_lssI (a := (1 : Int)) (b := (0 : Int)) rfl rfl).as (v' := .bool (false)) (by rfl)) ?_
  refine sq (r_move (v := .bool (false)) rfl) ?_
  refine sqAny (v := i64 ((1 : Int))) (w' := w2) (wantedSome (d' := 10) (b := false) rfl rfl rfl) (r_move (v := i64 ((1 : Int))) rfl) ?_
  refine sqAny (v := .bool (false)) (w' := w2) (wantedSome (d' := 10) (b := false) rfl rfl rfl) ((r_gtrI (a := (1 : Int)) (b := (1 : Int)) rfl rfl).as (v' := .bool (false)) (by rfl)) ?_
  refine sq (r_pickF (v := .bool (false)) rfl rfl) ?_
  refine wend ?_
  refine condFalse rfl ?_
  refine skipAny ?_
  refine thenNormal ?_
  refine seqAny ?_
  refine seqRegion ?_
  refine sq (r_move (v := i64 (i)) rfl) ?_
  refine sq (r_lssI (a := i) (b := (0 : Int)) rfl rfl) ?_
  refine sq (r_move (v := .bool (decide ((i : Int) < (0 : Int)))) rfl) ?_
  by_cases g5 : (i : Int) < (0 : Int)
  · skip
    refine skAny (wantedSome (d' := 16) (b := true) rfl rfl (congrArg Value.bool (decide_eq_true g5))) ?_
    refine skAny (wantedSome (d' := 16) (b := true) rfl rfl (congrArg Value.bool (decide_eq_true g5))) ?_
    refine skAny (wantedSome (d' := 16) (b := true) rfl rfl (congrArg Value.bool (decide_eq_true g5))) ?_
    refine skAny (wantedSome (d' := 16) (b := true) rfl rfl (congrArg Value.bool (decide_eq_true g5))) ?_
    refine skAny (wantedSome (d' := 16) (b := true) rfl rfl (congrArg Value.bool (decide_eq_true g5))) ?_
    refine skAny (wantedSome (d' := 16) (b := true) rfl rfl (congrArg Value.bool (decide_eq_true g5))) ?_
    refine skAny (wantedSome (d' := 16) (b := true) rfl rfl (congrArg Value.bool (decide_eq_true g5))) ?_
    refine sq (r_pickT (u := .bool (true)) (congrArg Value.bool (decide_eq_true g5)) rfl) ?_
    refine wend ?_
    refine condTrue rfl ?_
    refine seqRegion ?_
    refine sq (r_assign (v := .string ({data := #[]})) rfl) ?_
    refine sq (r_assign (v := i64 ((4 : Int))) rfl) ?_
    refine wend ?_
    refine retAny ?_
    refine thenRet ?_
    refine retG (rs := [.tmp 6, .tmp 7]) (vs := [.string ({data := #[]}), i64 ((4 : Int))]) rfl ⟨⟨rfl, rfl⟩, ⟨rfl, rfl⟩, trivial⟩ ?_
    exact ⟨_, rfl, rfl, H3.chg⟩
  · skip
    refine sqAny (v := i64 (i)) (w' := w2) (wantedSome (d' := 16) (b := false) rfl rfl (congrArg Value.bool (decide_eq_false g5))) (r_move (v := i64 (i)) rfl) ?_
    refine sqAny (v := i64 ((1 : Int))) (w' := w2) (wantedSome (d' := 16) (b := false) rfl rfl (congrArg Value.bool (decide_eq_false g5))) (r_move (v := i64 ((1 : Int))) rfl) ?_
    refine sqAny (v := .pointer (some ⟨b1, 0, none⟩)) (w' := w2) (wantedSome (d' := 16) (b := false) rfl rfl (congrArg Value.bool (decide_eq_false g5))) (r_fieldAddr (off' := 0) fld42_0 (by decide) (b := b1) (off := 0) rfl (by omega)) ?_
    refine sqAny (v := .pointer (some ⟨b1, 1, none⟩)) (w' := w2) (wantedSome (d' := 16) (b := false) rfl rfl (congrArg Value.bool (decide_eq_false g5))) (r_indexA (off' := 1) (j := 1) arr40 (b := b1) (off := 0) rfl rfl (by first | rfl | omega | (simp; omega)) (by omega) (by omega)) ?_
    refine sqAny (v := .slice aa l.length ac) (w' := w2) (wantedSome (d' := 16) (b := false) rfl rfl (congrArg Value.bool (decide_eq_false g5))) (r_loadC (v := .slice aa l.length ac) one39 (H3.get (k := 0) rfl) (off := 1) rfl (by rfl)) ?_
    refine sqAny (v := i64 ((l.length : Nat))) (w' := w2) (wantedSome (d' := 16) (b := false) rfl rfl (congrArg Value.bool (decide_eq_false g5))) (r_lenS sli39 (a := aa) (m := l.length) (c := ac) rfl) ?_
    refine sqAny (v := .bool (true)) (w' := w2) (wantedSome (d' := 16) (b := false) rfl rfl (congrArg Value.bool (decide_eq_false g5))) ((r_geqI (a := i) (b := (l.length : Nat)) rfl rfl).as (v' := .bool (true)) (by exact congrArg Value.bool (decide_eq_true (by omega)))) ?_
    refine sq (r_pickF (v := .bool (true)) (congrArg Value.bool (decide_eq_false g5)) rfl) ?_
    refine wend ?_
    refine condTrue rfl ?_
    refine seqRegion ?_
    refine sq (r_assign (v := .string ({data := #[]})) rfl) ?_
    refine sq (r_assign (v := i64 ((4 : Int))) rfl) ?_
    refine wend ?_
    refine retAny ?_
    refine thenRet ?_
    refine retG (rs := [.tmp 6, .tmp 7]) (vs := [.string ({data := #[]}), i64 ((4 : Int))]) rfl ⟨⟨rfl, rfl⟩, ⟨rfl, rfl⟩, trivial⟩ ?_
    exact ⟨_, rfl, rfl, H3.chg⟩

theorem rat_range (aa oa : Option Addr) (an ac on oc : Nat) (w : World) (way : Int) (h0 : way ≠ 0) (h1 : way ≠ 1) (i : Int) : Calls Tryd.prog 39 [.agg #[.slice aa an ac, .slice oa on oc], i64 (way), i64 (i)].toArray w (Ret fun v w' => v = .tuple #[.string (strB []), i64 (1 : Int)] ∧ Ext w w') := by
  have H := Hp.start No w
  refine enter (n := 32) Tryd.func39 rfl rfl (Nat.le_of_ble_eq_true rfl) ?_
  refine seqRegion ?_
  refine q_box (v := .agg #[.slice aa an ac, .slice oa on oc]) (o := .cells #[.slice aa an ac, .slice oa on oc] 42 (0, 0)) H rfl (by rfl) ?_
  intro b1 w2 hb1 H3 hE4
  refine sq (r_assign (v := .string ({data := #[]})) rfl) ?_
  refine sq (r_assign (v := i64 ((0 : Int))) rfl) ?_
  refine wend ?_
  refine seqAny ?_
  refine seqRegion ?_
  refine sq (r_move (v := i64 (way)) rfl) ?_
  refine sq (r_lssI (a := way) (b := (0 : Int)) rfl rfl) ?_
  refine sq (r_move (v := .bool (decide ((way : Int) < (0 : Int)))) rfl) ?_
  by_cases g5 : (way : Int) < (0 : Int)
  · skip
    refine skAny (wantedSome (d' := 10) (b := true) rfl rfl (congrArg Value.bool (decide_eq_true g5))) ?_
    refine skAny (wantedSome (d' := 10) (b := true) rfl rfl (congrArg Value.bool (decide_eq_true g5))) ?_
    refine sq (r_pickT (u := .bool (true)) (congrArg Value.bool (decide_eq_true g5)) rfl) ?_
    refine wend ?_
    refine condTrue rfl ?_
    refine seqRegion ?_
    refine sq (r_assign (v := .string ({data := #[]})) rfl) ?_
    refine sq (r_assign (v := i64 ((1 : Int))) rfl) ?_
    refine wend ?_
    refine retAny ?_
    refine thenRet ?_
    refine retG (rs := [.tmp 6, .tmp 7]) (vs := [.string ({data := #[]}), i64 ((1 : Int))]) rfl ⟨⟨rfl, rfl⟩, ⟨rfl, rfl⟩, trivial⟩ ?_
    exact ⟨_, rfl, rfl, H3.chg⟩
  · skip
    refine sqAny (v := i64 (way)) (w' := w2) (wantedSome (d' := 10) (b := false) rfl rfl (congrArg Value.bool (decide_eq_false g5))) (r_move (v := i64 (way)) rfl) ?_
    refine sqAny (v := .bool (true)) (w' := w2) (wantedSome (d' := 10) (b := false) rfl rfl (congrArg Value.bool (decide_eq_false g5))) ((r_gtrI (a := way) (b := (1 : Int)) rfl rfl).as (v' := .bool (true)) (by exact congrArg Value.bool (decide_eq_true (by omega)))) ?_
    refine sq (r_pickF (v := .bool (true)) (congrArg Value.bool (decide_eq_false g5)) rfl) ?_
    refine wend ?_
    refine condTrue rfl ?_
    refine seqRegion ?_
    refine sq (r_assign (v := .string ({data := #[]})) rfl) ?_
    refine sq (r_assign (v := i64 ((1 : Int))) rfl) ?_
    refine wend ?_
    refine retAny ?_
    refine thenRet ?_
    refine retG (rs := [.tmp 6, .tmp 7]) (vs := [.string ({data := #[]}), i64 ((1 : Int))]) rfl ⟨⟨rfl, rfl⟩, ⟨rfl, rfl⟩, trivial⟩ ?_
    exact ⟨_, rfl, rfl, H3.chg⟩

theorem rput_0 (aa oa la : Option Addr) (an ac on oc ln lc : Nat) (w : World) : Calls Tryd.prog 40 [.agg #[.slice aa an ac, .slice oa on oc], i64 ((0 : Int)), .slice la ln lc].toArray w (Ret fun v w' => v = .agg #[.slice la ln lc, .slice oa on oc] ∧ Ext w w') := by
  have H := Hp.start No w
  refine enter (n := 12) Tryd.func40 rfl rfl (Nat.le_of_ble_eq_true rfl) ?_
  refine seqRegion ?_
  refine q_box (v := .agg #[.slice aa an ac, .slice oa on oc]) (o := .cells #[.slice aa an ac, .slice oa on oc] 42 (0, 0)) H rfl (by rfl) ?_
  intro b1 w2 hb1 H3 hE4
  refine q_alloc (o := .cells #[.slice none 0 0, .slice none 0 0] 42 (0, 0)) H3 zer42 (by kernel_rfl) ?_
  intro b5 w6 hb5 H7 hE8
  refine wend ?_
  refine seqRegion ?_
  refine sq (r_move (v := i64 ((0 : Int))) rfl) ?_
  refine sq (r_move (v := .slice la ln lc) rfl) ?_
  refine sq (r_fieldAddr (off' := 0) fld42_0 (by decide) (b := b1) (off := 0) rfl (by omega)) ?_
  refine sq (r_indexA (off' := 0) (j := 0) arr40 (b := b1) (off := 0) rfl rfl (by first | rfl | omega | (simp; omega)) (by omega) (by omega)) ?_
  refine d_store (k := 1) (v := .slice la ln lc) (cs' := #[.slice la ln lc, .slice oa on oc]) H7 rfl rfl rfl siz39 (by rfl) (by intro u hu; simp [Value.cells] at hu; first | (subst hu; rfl) | (rcases hu with rfl <;> rfl)) (by exact Nat.le_of_ble_eq_true rfl) (by rfl) ?_
  intro w9 H10 hC11
  have H10' := H10.as (L' := [(some b5, .cells #[.slice none 0 0, .slice none 0 0] 42 (0, 0)), (some b1, .cells #[.slice la ln lc, .slice oa on oc] 42 (0, 0))]) rfl
  clear H10
  refine wend ?_
  refine seqRegion ?_
  refine sq (r_loadA (cs' := #[.slice la ln lc, .slice oa on oc]) agg42 siz42 (H10'.get (k := 1) rfl) (off := 0) rfl (by exact Nat.le_of_ble_eq_true rfl) (by rfl)) ?_
  refine d_store (k := 0) (v := .agg #[.slice la ln lc, .slice oa on oc]) (cs' := #[.slice la ln lc, .slice oa on oc]) H10' rfl rfl rfl siz42 (by rfl) (by intro u hu; simp [Value.cells] at hu; first | (subst hu; rfl) | (rcases hu with rfl | rfl <;> rfl)) (by exact Nat.le_of_ble_eq_true rfl) (by rfl) ?_
  intro w12 H13 hC14
  have H13' := H13.as (L' := [(some b5, .cells #[.slice la ln lc, .slice oa on oc] 42 (0, 0)), (some b1, .cells #[.slice la ln lc, .slice oa on oc] 42 (0, 0))]) rfl
  clear H13
  refine wend ?_
  refine retAny ?_
  refine retG (rs := [.cell 6 42]) (vs := [.agg #[.slice la ln lc, .slice oa on oc]]) rfl ⟨r_loadA (cs' := #[.slice la ln lc, .slice oa on oc]) agg42 siz42 (H13'.get (k := 0) rfl) (off := 0) rfl (by exact Nat.le_of_ble_eq_true rfl) (by rfl), trivial⟩ ?_
  exact ⟨_, rfl, rfl, H13'.chg⟩

theorem rput_1 (aa oa la : Option Addr) (an ac on oc ln lc : Nat) (w : World) : Calls Tryd.prog 40 [.agg #[.slice oa on oc, .slice aa an ac], i64 ((1 : Int)), .slice la ln lc].toArray w (Ret fun v w' => v = .agg #[.slice oa on oc, .slice la ln lc] ∧ Ext w w') := by
  have H := Hp.start No w
  refine enter (n := 12) Tryd.func40 rfl rfl (Nat.le_of_ble_eq_true rfl) ?_
  refine seqRegion ?_
  refine q_box (v := .agg #[.slice oa on oc, .slice aa an ac]) (o := .cells #[.slice oa on oc, .slice aa an ac] 42 (0, 0)) H rfl (by rfl) ?_
  intro b1 w2 hb1 H3 hE4
  refine q_alloc (o := .cells #[.slice none 0 0, .slice none 0 0] 42 (0, 0)) H3 zer42 (by kernel_rfl) ?_
  intro b5 w6 hb5 H7 hE8
  refine wend ?_
  refine seqRegion ?_
  refine sq (r_move (v := i64 ((1 : Int))) rfl) ?_
  refine sq (r_move (v := .slice la ln lc) rfl) ?_
  refine sq (r_fieldAddr (off' := 0) fld42_0 (by decide) (b := b1) (off := 0) rfl (by omega)) ?_
  refine sq (r_indexA (off' := 1) (j := 1) arr40 (b := b1) (off := 0) rfl rfl (by first | rfl | omega | (simp; omega)) (by omega) (by omega)) ?_
  refine d_store (k := 1) (v := .slice la ln lc) (cs' := #[.slice oa on oc, .slice la ln lc]) H7 rfl rfl rfl siz39 (by rfl) (by intro u hu; simp [Value.cells] at hu; first | (subst hu; rfl) | (rcases hu with rfl <;> rfl)) (by exact Nat.le_of_ble_eq_true rfl) (by rfl) ?_
  intro w9 H10 hC11
  have H10' := H10.as (L' := [(some b5, .cells #[.slice none 0 0, .slice none 0 0] 42 (0, 0)), (some b1, .cells #[.slice oa on oc, .slice la ln lc] 42 (0, 0))]) rfl
  clear H10
  refine wend ?_
  refine seqRegion ?_
  refine sq (r_loadA (cs' := #[.slice oa on oc, .slice la ln lc]) agg42 siz42 (H10'.get (k := 1) rfl) (off := 0) rfl (by exact Nat.le_of_ble_eq_true rfl) (by rfl)) ?_
  refine d_store (k := 0) (v := .agg #[.slice oa on oc, .slice la ln lc]) (cs' := #[.slice oa on oc, .slice la ln lc]) H10' rfl rfl rfl siz42 (by rfl) (by intro u hu; simp [Value.cells] at hu; first | (subst hu; rfl) | (rcases hu with rfl | rfl <;> rfl)) (by exact Nat.le_of_ble_eq_true rfl) (by rfl) ?_
  intro w12 H13 hC14
  have H13' := H13.as (L' := [(some b5, .cells #[.slice oa on oc, .slice la ln lc] 42 (0, 0)), (some b1, .cells #[.slice oa on oc, .slice la ln lc] 42 (0, 0))]) rfl
  clear H13
  refine wend ?_
  refine retAny ?_
  refine retG (rs := [.cell 6 42]) (vs := [.agg #[.slice oa on oc, .slice la ln lc]]) rfl ⟨r_loadA (cs' := #[.slice oa on oc, .slice la ln lc]) agg42 siz42 (H13'.get (k := 0) rfl) (off := 0) rfl (by exact Nat.le_of_ble_eq_true rfl) (by rfl), trivial⟩ ?_
  exact ⟨_, rfl, rfl, H13'.chg⟩

theorem rsend_ok_0 (l : List (List (BitVec 8))) (aa oa : Option Addr) (ac on oc : Nat) (w : World) (f : List (BitVec 8)) (hlen : l.length < 64) (hA : Rd ET w aa l) : Calls Tryd.prog 46 [.agg #[.slice aa l.length ac, .slice oa on oc], i64 ((0 : Int)), .string (strB f)].toArray w (Ret fun v w' => (∃ key c sp, v = .tuple #[.agg #[.slice (ownA key) ((l ++ [f]).length) c, .slice oa on oc], i64 (0 : Int)] ∧ Sl ET key (l ++ [f]) c sp ∧ ∀ g, key = some g → w.heap.size ≤ g ∧ w'.heap[g]? = some (sob ET 9 (l ++ [f]) sp)) ∧ Ext w w') := by
  have H := Hp.start No w
  refine enter (n := 34) Tryd.func46 rfl rfl (Nat.le_of_ble_eq_true rfl) ?_
  refine seqRegion ?_
  refine q_box (v := .agg #[.slice aa l.length ac, .slice oa on oc]) (o := .cells #[.slice aa l.length ac, .slice oa on oc] 42 (0, 0)) H rfl (by rfl) ?_
  intro b1 w2 hb1 H3 hE4
  refine q_alloc (o := .cells #[.slice none 0 0, .slice none 0 0] 42 (0, 0)) H3 zer42 (by kernel_rfl) ?_
  intro b5 w6 hb5 H7 hE8
  refine sq (r_assign (v := i64 ((0 : Int))) rfl) ?_
  refine wend ?_
  refine seqAny ?_
  refine seqRegion ?_
  refine sq (r_move (v := i64 ((0 : Int))) rfl) ?_
  refine sq ((r_lssI (a := (0 : Int)) (b := (0 : Int)) rfl rfl).as (v' := .bool (false)) (by rfl)) ?_
  refine sq (r_move (v := .bool (false)) rfl) ?_
  refine sqAny (v := i64 ((0 : Int))) (w' := w6) (wantedSome (d' := 10) (b := false) rfl rfl rfl) (r_move (v := i64 ((0 : Int))) rfl) ?_
  refine sqAny (v := .bool (false)) (w' := w6) (wantedSome (d' := 10) (b := false) rfl rfl rfl) ((r_gtrI (a := (0 : Int)) (b := (1 : Int)) rfl rfl).as (v' := .bool (false)) (by rfl)) ?_
  refine sq (r_pickF (v := .bool (false)) rfl rfl) ?_
  refine wend ?_
  refine condFalse rfl ?_
  refine skipAny ?_
  refine thenNormal ?_
  refine seqAny ?_
  refine seqRegion ?_
  refine sq (r_move (v := i64 ((0 : Int))) rfl) ?_
  refine sq (r_fieldAddr (off' := 0) fld42_0 (by decide) (b := b1) (off := 0) rfl (by omega)) ?_
  refine sq (r_indexA (off' := 0) (j := 0) arr40 (b := b1) (off := 0) rfl rfl (by first | rfl | omega | (simp; omega)) (by omega) (by omega)) ?_
  refine sq (r_loadC (v := .slice aa l.length ac) one39 (H7.get (k := 1) rfl) (off := 0) rfl (by rfl)) ?_
  refine sq (r_lenS sli39 (a := aa) (m := l.length) (c := ac) rfl) ?_
  refine sq ((r_geqI (a := (l.length : Nat)) (b := (64 : Int)) rfl rfl).as (v' := .bool (false)) (by exact congrArg Value.bool (decide_eq_false (by omega)))) ?_
  refine wend ?_
  refine condFalse rfl ?_
  refine skipAny ?_
  refine thenNormal ?_
  refine seqAny ?_
  refine drawP (m := 14) [0, 0, 0, 0, 0, 24, 56, 124, 0, 256, 1020, 2047, 4095, 8191] [2, 7, 9, 10, 11, 12] (fun bs vs w' => match bs, vs with | [false, false, false, false, false, false], [_, _, _, _, _, _] => Hp No w w' [(some b5, .cells #[.slice none 0 0, .slice none 0 0] 42 (0, 0)), (some b1, .cells #[.slice aa l.length ac, .slice oa on oc] 42 (0, 0))] | [true, false, false, false, false, false], [v2, _, _, _, _, _] => ∃ (b10 : Nat), v2 = .slice (ownA (some b10)) 0 0 ∧ Sl ET (some b10) ([] : List (List (BitVec 8))) 0 ([]) ∧ Hp No w w' [((some b10), sob ET 9 ([] : List (List (BitVec 8))) ([])), (some b5, .cells #[.slice none 0 0, .slice none 0 0] 42 (0, 0)), (some b1, .cells #[.slice aa l.length ac, .slice oa on oc] 42 (0, 0))] | [true, true, false, false, false, false], [v2, v7, _, _, _, _] => ∃ (b10 : Nat) (key16 : Option Nat) (c17 : Nat) (sp18 : List Value), v2 = .slice (ownA (some b10)) 0 0 ∧ v7 = .slice (ownA key16) (0 + l.length) c17 ∧ Sl ET key16 l c17 sp18 ∧ Hp No w w' [(key16, sob ET 9 l sp18), (some b5, .cells #[.slice none 0 0, .slice none 0 0] 42 (0, 0)), (some b1, .cells #[.slice aa l.length ac, .slice oa on oc] 42 (0, 0))] | [false, false, true, false, false, false], [_, _, v9, _, _, _] => ∃ (b27 : Nat), v9 = .slice (ownA (some b27)) 1 1 ∧ Sl ET (some b27) ([f] : List (List (BitVec 8))) 1 ([]) ∧ Hp No w w' [((some b27), sob ET 9 ([f] : List (List (BitVec 8))) ([])), (some b5, .cells #[.slice none 0 0, .slice none 0 0] 42 (0, 0)), (some b1, .cells #[.slice aa l.length ac, .slice oa on oc] 42 (0, 0))] | [true, false, true, false, false, false], [v2, _, v9, _, _, _] => ∃ (b10 : Nat) (b33 : Nat), v2 = .slice (ownA (some b10)) 0 0 ∧ v9 = .slice (ownA (some b33)) 1 1 ∧ Sl ET (some b33) ([f] : List (List (BitVec 8))) 1 ([]) ∧ Sl ET (some b10) ([] : List (List (BitVec 8))) 0 ([]) ∧ Hp No w w' [((some b33), sob ET 9 ([f] : List (List (BitVec 8))) ([])), ((some b10), sob ET 9 ([] : List (List (BitVec 8))) ([])), (some b5, .cells #[.slice none 0 0, .slice none 0 0] 42 (0, 0)), (some b1, .cells #[.slice aa l.length ac, .slice oa on oc] 42 (0, 0))] | [true, true, true, false, false, false], [v2, v7, v9, _, _, _] => ∃ (b10 : Nat) (key16 : Option Nat) (c17 : Nat) (sp18 : List Value) (b39 : Nat), v2 = .slice (ownA (some b10)) 0 0 ∧ v7 = .slice (ownA key16) (0 + l.length) c17 ∧ v9 = .slice (ownA (some b39)) 1 1 ∧ Sl ET (some b39) ([f] : List (List (BitVec 8))) 1 ([]) ∧ Sl ET key16 l c17 sp18 ∧ Hp No w w' [((some b39), sob ET 9 ([f] : List (List (BitVec 8))) ([])), (key16, sob ET 9 l sp18), (some b5, .cells #[.slice none 0 0, .slice none 0 0] 42 (0, 0)), (some b1, .cells #[.slice aa l.length ac, .slice oa on oc] 42 (0, 0))] | [true, true, true, true, false, false], [v2, v7, v9, v10, _, _] => ∃ (b10 : Nat) (key16 : Option Nat) (c17 : Nat) (b39 : Nat) (key45 : Option Nat) (c46 : Nat) (sp47 : List Value), v2 = .slice (ownA (some b10)) 0 0 ∧ v7 = .slice (ownA key16) (0 + l.length) c17 ∧ v9 = .slice (ownA (some b39)) 1 1 ∧ v10 = .slice (ownA key45) ((0 + l.length) + 1) c46 ∧ Sl ET (some b39) ([f] : List (List (BitVec 8))) 1 ([]) ∧ Sl ET key45 (l ++ ([f] : List (List (BitVec 8)))) c46 sp47 ∧ Hp No w w' [((some b39), sob ET 9 ([f] : List (List (BitVec 8))) ([])), (key45, sob ET 9 (l ++ ([f] : List (List (BitVec 8)))) sp47), (some b5, .cells #[.slice none 0 0, .slice none 0 0] 42 (0, 0)), (some b1, .cells #[.slice aa l.length ac, .slice oa on oc] 42 (0, 0))] | [true, true, true, true, true, false], [v2, v7, v9, v10, v11, _] => ∃ (b10 : Nat) (key16 : Option Nat) (c17 : Nat) (b39 : Nat) (key45 : Option Nat) (c46 : Nat) (sp47 : List Value), v2 = .slice (ownA (some b10)) 0 0 ∧ v7 = .slice (ownA key16) (0 + l.length) c17 ∧ v9 = .slice (ownA (some b39)) 1 1 ∧ v10 = .slice (ownA key45) ((0 + l.length) + 1) c46 ∧ v11 = .agg #[.slice (ownA key45) ((0 + l.length) + 1) c46, .slice oa on oc] ∧ Sl ET (some b39) ([f] : List (List (BitVec 8))) 1 ([]) ∧ Sl ET key45 (l ++ ([f] : List (List (BitVec 8)))) c46 sp47 ∧ Hp No w w' [((some b39), sob ET 9 ([f] : List (List (BitVec 8))) ([])), (key45, sob ET 9 (l ++ ([f] : List (List (BitVec 8)))) sp47), (some b5, .cells #[.slice none 0 0, .slice none 0 0] 42 (0, 0)), (some b1, .cells #[.slice aa l.length ac, .slice oa on oc] 42 (0, 0))] | [true, true, true, true, true, true], [v2, v7, v9, v10, v11, _] => ∃ (b10 : Nat) (key16 : Option Nat) (c17 : Nat) (b39 : Nat) (key45 : Option Nat) (c46 : Nat) (sp47 : List Value), v2 = .slice (ownA (some b10)) 0 0 ∧ v7 = .slice (ownA key16) (0 + l.length) c17 ∧ v9 = .slice (ownA (some b39)) 1 1 ∧ v10 = .slice (ownA key45) ((0 + l.length) + 1) c46 ∧ v11 = .agg #[.slice (ownA key45) ((0 + l.length) + 1) c46, .slice oa on oc] ∧ Sl ET (some b39) ([f] : List (List (BitVec 8))) 1 ([]) ∧ Sl ET key45 (l ++ ([f] : List (List (BitVec 8)))) c46 sp47 ∧ Hp No w w' [((some b39), sob ET 9 ([f] : List (List (BitVec 8))) ([])), (key45, sob ET 9 (l ++ ([f] : List (List (BitVec 8)))) sp47), (some b5, .cells #[.slice (ownA key45) ((0 + l.length) + 1) c46, .slice oa on oc] 42 (0, 0)), (some b1, .cells #[.slice aa l.length ac, .slice oa on oc] 42 (0, 0))] | _, _ => False) mixed (by kernel_rfl) (by kernel_rfl) H7.drew ?_
  refine WalkP.look rfl (fun _ => .agg #[.slice aa l.length ac, .slice oa on oc]) (fun _ _ _ => rfl) (fun L r uw hAn hDn hF => ?_) ?_
  · skip
    have b11 : L 11 = false := hDn 11 (by decide) rfl
    have b12 : L 12 = false := hDn 12 (by decide) rfl
    rcases Bool.eq_false_or_eq_true (L 2) with b2 | b2
    · skip
      rcases Bool.eq_false_or_eq_true (L 7) with b7 | b7
      · skip
        rcases Bool.eq_false_or_eq_true (L 9) with b9 | b9
        · skip
          rcases Bool.eq_false_or_eq_true (L 10) with b10 | b10
          · skip
            have hb : List.map L [2, 7, 9, 10, 11, 12] = [true, true, true, true, false, false] := by simp only [List.map_cons, List.map_nil, b2, b7, b9, b10, b11, b12]
            rw [hb] at hF
            obtain ⟨b10, key16, c17, b39, key45, c46, sp47, e2, e7, e9, e10, hS40, hS48, HH⟩ := hF
            exact Gives.run rfl (r_loadA (cs' := #[.slice aa l.length ac, .slice oa on oc]) agg42 siz42 (HH.get (k := 3) rfl) (off := 0) rfl (by exact Nat.le_of_ble_eq_true rfl) (by rfl)) ⟨rfl, rfl⟩
          · skip
            have hb : List.map L [2, 7, 9, 10, 11, 12] = [true, true, true, false, false, false] := by simp only [List.map_cons, List.map_nil, b2, b7, b9, b10, b11, b12]
            rw [hb] at hF
            obtain ⟨b10, key16, c17, sp18, b39, e2, e7, e9, hS40, hS24, HH⟩ := hF
            exact Gives.run rfl (r_loadA (cs' := #[.slice aa l.length ac, .slice oa on oc]) agg42 siz42 (HH.get (k := 3) rfl) (off := 0) rfl (by exact Nat.le_of_ble_eq_true rfl) (by rfl)) ⟨rfl, rfl⟩
        · skip
          rcases Bool.eq_false_or_eq_true (L 10) with b10 | b10
          · skip
            have hb : List.map L [2, 7, 9, 10, 11, 12] = [true, true, false, true, false, false] := by simp only [List.map_cons, List.map_nil, b2, b7, b9, b10, b11, b12]
            rw [hb] at hF
            exact False.elim hF
          · skip
            have hb : List.map L [2, 7, 9, 10, 11, 12] = [true, true, false, false, false, false] := by simp only [List.map_cons, List.map_nil, b2, b7, b9, b10, b11, b12]
            rw [hb] at hF
            obtain ⟨b10, key16, c17, sp18, e2, e7, hS24, HH⟩ := hF
            exact Gives.run rfl (r_loadA (cs' := #[.slice aa l.length ac, .slice oa on oc]) agg42 siz42 (HH.get (k := 2) rfl) (off := 0) rfl (by exact Nat.le_of_ble_eq_true rfl) (by rfl)) ⟨rfl, rfl⟩
      · skip
        rcases Bool.eq_false_or_eq_true (L 9) with b9 | b9
        · skip
          rcases Bool.eq_false_or_eq_true (L 10) with b10 | b10
          · skip
            have hb : List.map L [2, 7, 9, 10, 11, 12] = [true, false, true, true, false, false] := by simp only [List.map_cons, List.map_nil, b2, b7, b9, b10, b11, b12]
            rw [hb] at hF
            exact False.elim hF
          · skip
            have hb : List.map L [2, 7, 9, 10, 11, 12] = [true, false, true, false, false, false] := by simp only [List.map_cons, List.map_nil, b2, b7, b9, b10, b11, b12]
            rw [hb] at hF
            obtain ⟨b10, b33, e2, e9, hS34, hS11, HH⟩ := hF
            exact Gives.run rfl (r_loadA (cs' := #[.slice aa l.length ac, .slice oa on oc]) agg42 siz42 (HH.get (k := 3) rfl) (off := 0) rfl (by exact Nat.le_of_ble_eq_true rfl) (by rfl)) ⟨rfl, rfl⟩
        · skip
          rcases Bool.eq_false_or_eq_true (L 10) with b10 | b10
          · skip
            have hb : List.map L [2, 7, 9, 10, 11, 12] = [true, false, false, true, false, false] := by simp only [List.map_cons, List.map_nil, b2, b7, b9, b10, b11, b12]
            rw [hb] at hF
            exact False.elim hF
          · skip
            have hb : List.map L [2, 7, 9, 10, 11, 12] = [true, false, false, false, false, false] := by simp only [List.map_cons, List.map_nil, b2, b7, b9, b10, b11, b12]
            rw [hb] at hF
            obtain ⟨b10, e2, hS11, HH⟩ := hF
            exact Gives.run rfl (r_loadA (cs' := #[.slice aa l.length ac, .slice oa on oc]) agg42 siz42 (HH.get (k := 2) rfl) (off := 0) rfl (by exact Nat.le_of_ble_eq_true rfl) (by rfl)) ⟨rfl, rfl⟩
    · skip
      rcases Bool.eq_false_or_eq_true (L 7) with b7 | b7
      · skip
        rcases Bool.eq_false_or_eq_true (L 9) with b9 | b9
        · skip
          rcases Bool.eq_false_or_eq_true (L 10) with b10 | b10
          · skip
            have hb : List.map L [2, 7, 9, 10, 11, 12] = [false, true, true, true, false, false] := by simp only [List.map_cons, List.map_nil, b2, b7, b9, b10, b11, b12]
            rw [hb] at hF
            exact False.elim hF
          · skip
            have hb : List.map L [2, 7, 9, 10, 11, 12] = [false, true, true, false, false, false] := by simp only [List.map_cons, List.map_nil, b2, b7, b9, b10, b11, b12]
            rw [hb] at hF
            exact False.elim hF
        · skip
          rcases Bool.eq_false_or_eq_true (L 10) with b10 | b10
          · skip
            have hb : List.map L [2, 7, 9, 10, 11, 12] = [false, true, false, true, false, false] := by simp only [List.map_cons, List.map_nil, b2, b7, b9, b10, b11, b12]
            rw [hb] at hF
            exact False.elim hF
          · skip
            have hb : List.map L [2, 7, 9, 10, 11, 12] = [false, true, false, false, false, false] := by simp only [List.map_cons, List.map_nil, b2, b7, b9, b10, b11, b12]
            rw [hb] at hF
            exact False.elim hF
      · skip
        rcases Bool.eq_false_or_eq_true (L 9) with b9 | b9
        · skip
          rcases Bool.eq_false_or_eq_true (L 10) with b10 | b10
          · skip
            have hb : List.map L [2, 7, 9, 10, 11, 12] = [false, false, true, true, false, false] := by simp only [List.map_cons, List.map_nil, b2, b7, b9, b10, b11, b12]
            rw [hb] at hF
            exact False.elim hF
          · skip
            have hb : List.map L [2, 7, 9, 10, 11, 12] = [false, false, true, false, false, false] := by simp only [List.map_cons, List.map_nil, b2, b7, b9, b10, b11, b12]
            rw [hb] at hF
            obtain ⟨b27, e9, hS28, HH⟩ := hF
            exact Gives.run rfl (r_loadA (cs' := #[.slice aa l.length ac, .slice oa on oc]) agg42 siz42 (HH.get (k := 2) rfl) (off := 0) rfl (by exact Nat.le_of_ble_eq_true rfl) (by rfl)) ⟨rfl, rfl⟩
        · skip
          rcases Bool.eq_false_or_eq_true (L 10) with b10 | b10
          · skip
            have hb : List.map L [2, 7, 9, 10, 11, 12] = [false, false, false, true, false, false] := by simp only [List.map_cons, List.map_nil, b2, b7, b9, b10, b11, b12]
            rw [hb] at hF
            exact False.elim hF
          · skip
            have hb : List.map L [2, 7, 9, 10, 11, 12] = [false, false, false, false, false, false] := by simp only [List.map_cons, List.map_nil, b2, b7, b9, b10, b11, b12]
            rw [hb] at hF
            have HH := hF
            exact Gives.run rfl (r_loadA (cs' := #[.slice aa l.length ac, .slice oa on oc]) agg42 siz42 (HH.get (k := 1) rfl) (off := 0) rfl (by exact Nat.le_of_ble_eq_true rfl) (by rfl)) ⟨rfl, rfl⟩
  refine WalkP.look rfl (fun _ => i64 ((0 : Int))) (fun _ _ _ => rfl) (fun L r uw _ _ _ => Gives.run rfl (r_move (v := i64 ((0 : Int))) rfl) ⟨rfl, rfl⟩) ?_
  refine WalkP.eff 0 rfl (fun L r uw hLn hAn hDn hF => ?_) ?_
  · skip
    have b2 : L 2 = false := hLn
    have b7 : L 7 = false := hDn 7 (by decide) rfl
    have b10 : L 10 = false := hDn 10 (by decide) rfl
    have b11 : L 11 = false := hDn 11 (by decide) rfl
    have b12 : L 12 = false := hDn 12 (by decide) rfl
    rcases Bool.eq_false_or_eq_true (L 9) with b9 | b9
    · skip
      have hb : List.map L [2, 7, 9, 10, 11, 12] = [false, false, true, false, false, false] := by simp only [List.map_cons, List.map_nil, b2, b7, b9, b10, b11, b12]
      rw [hb] at hF ⊢
      obtain ⟨b27, e9, hS28, H60⟩ := hF
      dsimp only
      refine Gives.ofW (d := 24) rfl rfl (fun Q' hK => ?_)
      refine q_buildSlice (E := ET) (l := ([] : List (List (BitVec 8)))) H60 sli39 zer9 (Nat.le_of_ble_eq_true rfl) (ps := []) rfl (by exact fillAll rfl rfl) rfl ?_
      intro b61 w63 hS62 H64 hE65
      exact hK _ _ (show ∃ (b10 : Nat) (b33 : Nat), (_ : Value) = .slice (ownA (some b10)) 0 0 ∧ r 9 = .slice (ownA (some b33)) 1 1 ∧ Sl ET (some b33) ([f] : List (List (BitVec 8))) 1 ([]) ∧ Sl ET (some b10) ([] : List (List (BitVec 8))) 0 ([]) ∧ Hp No w w63 [((some b33), sob ET 9 ([f] : List (List (BitVec 8))) ([])), ((some b10), sob ET 9 ([] : List (List (BitVec 8))) ([])), (some b5, .cells #[.slice none 0 0, .slice none 0 0] 42 (0, 0)), (some b1, .cells #[.slice aa l.length ac, .slice oa on oc] 42 (0, 0))] from ⟨b61, b27, rfl, e9, hS28, hS62, ((((H64.pull (k := 3) rfl).pull (k := 3) rfl).pull (k := 2) rfl).pull (k := 3) rfl)⟩)
    · skip
      have hb : List.map L [2, 7, 9, 10, 11, 12] = [false, false, false, false, false, false] := by simp only [List.map_cons, List.map_nil, b2, b7, b9, b10, b11, b12]
      rw [hb] at hF ⊢
      have H66 := hF
      dsimp only
      refine Gives.ofW (d := 24) rfl rfl (fun Q' hK => ?_)
      refine q_buildSlice (E := ET) (l := ([] : List (List (BitVec 8)))) H66 sli39 zer9 (Nat.le_of_ble_eq_true rfl) (ps := []) rfl (by exact fillAll rfl rfl) rfl ?_
      intro b67 w69 hS68 H70 hE71
      exact hK _ _ (show ∃ (b10 : Nat), (_ : Value) = .slice (ownA (some b10)) 0 0 ∧ Sl ET (some b10) ([] : List (List (BitVec 8))) 0 ([]) ∧ Hp No w w69 [((some b10), sob ET 9 ([] : List (List (BitVec 8))) ([])), (some b5, .cells #[.slice none 0 0, .slice none 0 0] 42 (0, 0)), (some b1, .cells #[.slice aa l.length ac, .slice oa on oc] 42 (0, 0))] from ⟨b67, rfl, hS68, (((H70.pull (k := 2) rfl).pull (k := 2) rfl).pull (k := 2) rfl)⟩)
  refine WalkP.look rfl (fun _ => i64 ((0 : Int))) (fun _ _ _ => rfl) (fun L r uw _ _ _ => Gives.run rfl (r_move (v := i64 ((0 : Int))) rfl) ⟨rfl, rfl⟩) ?_
  refine WalkP.look rfl (fun _ => .pointer (some ⟨b1, 0, none⟩)) (fun _ _ _ => rfl) (fun L r uw _ _ _ => Gives.run rfl (r_fieldAddr (off' := 0) fld42_0 (by decide) (b := b1) (off := 0) rfl (by omega)) ⟨rfl, rfl⟩) ?_
  refine WalkP.look rfl (fun _ => .pointer (some ⟨b1, 0, none⟩)) (fun _ _ _ => rfl) (fun L r uw _ _ _ => Gives.run rfl (r_indexA (off' := 0) (j := 0) arr40 (b := b1) (off := 0) rfl rfl (by first | rfl | omega | (simp; omega)) (by omega) (by omega)) ⟨rfl, rfl⟩) ?_
  refine WalkP.look rfl (fun _ => .slice aa l.length ac) (fun _ _ _ => rfl) (fun L r uw hAn hDn hF => ?_) ?_
  · skip
    have b7 : L 7 = false := hDn 7 (by decide) rfl
    have b10 : L 10 = false := hDn 10 (by decide) rfl
    have b11 : L 11 = false := hDn 11 (by decide) rfl
    have b12 : L 12 = false := hDn 12 (by decide) rfl
    rcases Bool.eq_false_or_eq_true (L 2) with b2 | b2
    · skip
      rcases Bool.eq_false_or_eq_true (L 9) with b9 | b9
      · skip
        have hb : List.map L [2, 7, 9, 10, 11, 12] = [true, false, true, false, false, false] := by simp only [List.map_cons, List.map_nil, b2, b7, b9, b10, b11, b12]
        rw [hb] at hF
        obtain ⟨b10, b33, e2, e9, hS34, hS11, HH⟩ := hF
        exact Gives.run rfl (r_loadC (v := .slice aa l.length ac) one39 (HH.get (k := 3) rfl) (off := 0) rfl (by rfl)) ⟨rfl, rfl⟩
      · skip
        have hb : List.map L [2, 7, 9, 10, 11, 12] = [true, false, false, false, false, false] := by simp only [List.map_cons, List.map_nil, b2, b7, b9, b10, b11, b12]
        rw [hb] at hF
        obtain ⟨b10, e2, hS11, HH⟩ := hF
        exact Gives.run rfl (r_loadC (v := .slice aa l.length ac) one39 (HH.get (k := 2) rfl) (off := 0) rfl (by rfl)) ⟨rfl, rfl⟩
    · skip
      rcases Bool.eq_false_or_eq_true (L 9) with b9 | b9
      · skip
        have hb : List.map L [2, 7, 9, 10, 11, 12] = [false, false, true, false, false, false] := by simp only [List.map_cons, List.map_nil, b2, b7, b9, b10, b11, b12]
        rw [hb] at hF
        obtain ⟨b27, e9, hS28, HH⟩ := hF
        exact Gives.run rfl (r_loadC (v := .slice aa l.length ac) one39 (HH.get (k := 2) rfl) (off := 0) rfl (by rfl)) ⟨rfl, rfl⟩
      · skip
        have hb : List.map L [2, 7, 9, 10, 11, 12] = [false, false, false, false, false, false] := by simp only [List.map_cons, List.map_nil, b2, b7, b9, b10, b11, b12]
        rw [hb] at hF
        have HH := hF
        exact Gives.run rfl (r_loadC (v := .slice aa l.length ac) one39 (HH.get (k := 1) rfl) (off := 0) rfl (by rfl)) ⟨rfl, rfl⟩
  refine WalkP.eff 1 rfl (fun L r uw hLn hAn hDn hF => ?_) ?_
  · skip
    have b2 : L 2 = true := hAn 2 (by decide) rfl
    have b7 : L 7 = false := hLn
    have b10 : L 10 = false := hDn 10 (by decide) rfl
    have b11 : L 11 = false := hDn 11 (by decide) rfl
    have b12 : L 12 = false := hDn 12 (by decide) rfl
    rcases Bool.eq_false_or_eq_true (L 9) with b9 | b9
    · skip
      have hb : List.map L [2, 7, 9, 10, 11, 12] = [true, false, true, false, false, false] := by simp only [List.map_cons, List.map_nil, b2, b7, b9, b10, b11, b12]
      rw [hb] at hF ⊢
      obtain ⟨b10, b33, e2, e9, hS34, hS11, H72⟩ := hF
      dsimp only
      rw [e2]
      refine Gives.ofW (d := 29) rfl rfl (fun Q' hK => ?_)
      refine q_append (E := ET) (k := 1) (l := ([] : List (List (BitVec 8)))) (l2 := l) H72 rfl hS11 sli39 zer9 rfl byt9 (hA.ext H72.chg) rfl (by rfl) rfl (by rfl) (by omega) ?_
      intro key73 c74 sp75 w77 hS76 hne79 H78
      have H78' := H78.as (L' := [((some b33), sob ET 9 ([f] : List (List (BitVec 8))) ([])), (key73, sob ET 9 (([] : List (List (BitVec 8))) ++ l) sp75), (some b5, .cells #[.slice none 0 0, .slice none 0 0] 42 (0, 0)), (some b1, .cells #[.slice aa l.length ac, .slice oa on oc] 42 (0, 0))]) rfl
      clear H78
      have e80 : ([] : List (List (BitVec 8))) ++ l = l := by rw [List.nil_append]
      have hS81 := hS76
      rw [e80] at hS81
      have H82 := H78'.as (L' := [((some b33), sob ET 9 ([f] : List (List (BitVec 8))) ([])), (key73, sob ET 9 l sp75), (some b5, .cells #[.slice none 0 0, .slice none 0 0] 42 (0, 0)), (some b1, .cells #[.slice aa l.length ac, .slice oa on oc] 42 (0, 0))]) (by rw [e80])
      exact hK _ _ (show ∃ (b10 : Nat) (key16 : Option Nat) (c17 : Nat) (sp18 : List Value) (b39 : Nat), r 2 = .slice (ownA (some b10)) 0 0 ∧ (_ : Value) = .slice (ownA key16) (0 + l.length) c17 ∧ r 9 = .slice (ownA (some b39)) 1 1 ∧ Sl ET (some b39) ([f] : List (List (BitVec 8))) 1 ([]) ∧ Sl ET key16 l c17 sp18 ∧ Hp No w w77 [((some b39), sob ET 9 ([f] : List (List (BitVec 8))) ([])), (key16, sob ET 9 l sp18), (some b5, .cells #[.slice none 0 0, .slice none 0 0] 42 (0, 0)), (some b1, .cells #[.slice aa l.length ac, .slice oa on oc] 42 (0, 0))] from ⟨b10, key73, c74, sp75, b33, e2, rfl, e9, hS34, hS81, ((((H82.pull (k := 3) rfl).pull (k := 3) rfl).pull (k := 3) rfl).pull (k := 3) rfl)⟩)
    · skip
      have hb : List.map L [2, 7, 9, 10, 11, 12] = [true, false, false, false, false, false] := by simp only [List.map_cons, List.map_nil, b2, b7, b9, b10, b11, b12]
      rw [hb] at hF ⊢
      obtain ⟨b10, e2, hS11, H83⟩ := hF
      dsimp only
      rw [e2]
      refine Gives.ofW (d := 29) rfl rfl (fun Q' hK => ?_)
      refine q_append (E := ET) (k := 0) (l := ([] : List (List (BitVec 8)))) (l2 := l) H83 rfl hS11 sli39 zer9 rfl byt9 (hA.ext H83.chg) rfl (by rfl) rfl (by rfl) (by omega) ?_
      intro key84 c85 sp86 w88 hS87 hne90 H89
      have H89' := H89.as (L' := [(key84, sob ET 9 (([] : List (List (BitVec 8))) ++ l) sp86), (some b5, .cells #[.slice none 0 0, .slice none 0 0] 42 (0, 0)), (some b1, .cells #[.slice aa l.length ac, .slice oa on oc] 42 (0, 0))]) rfl
      clear H89
      have e91 : ([] : List (List (BitVec 8))) ++ l = l := by rw [List.nil_append]
      have hS92 := hS87
      rw [e91] at hS92
      have H93 := H89'.as (L' := [(key84, sob ET 9 l sp86), (some b5, .cells #[.slice none 0 0, .slice none 0 0] 42 (0, 0)), (some b1, .cells #[.slice aa l.length ac, .slice oa on oc] 42 (0, 0))]) (by rw [e91])
      exact hK _ _ (show ∃ (b10 : Nat) (key16 : Option Nat) (c17 : Nat) (sp18 : List Value), r 2 = .slice (ownA (some b10)) 0 0 ∧ (_ : Value) = .slice (ownA key16) (0 + l.length) c17 ∧ Sl ET key16 l c17 sp18 ∧ Hp No w w88 [(key16, sob ET 9 l sp18), (some b5, .cells #[.slice none 0 0, .slice none 0 0] 42 (0, 0)), (some b1, .cells #[.slice aa l.length ac, .slice oa on oc] 42 (0, 0))] from ⟨b10, key84, c85, sp86, e2, rfl, hS92, (((H93.pull (k := 2) rfl).pull (k := 2) rfl).pull (k := 2) rfl)⟩)
  refine WalkP.look rfl (fun _ => .string (strB f)) (fun _ _ _ => rfl) (fun L r uw _ _ _ => Gives.run rfl (r_move (v := .string (strB f)) rfl) ⟨rfl, rfl⟩) ?_
  refine WalkP.eff 2 rfl (fun L r uw hLn hAn hDn hF => ?_) ?_
  · skip
    have b9 : L 9 = false := hLn
    have b10 : L 10 = false := hDn 10 (by decide) rfl
    have b11 : L 11 = false := hDn 11 (by decide) rfl
    have b12 : L 12 = false := hDn 12 (by decide) rfl
    rcases Bool.eq_false_or_eq_true (L 2) with b2 | b2
    · skip
      rcases Bool.eq_false_or_eq_true (L 7) with b7 | b7
      · skip
        have hb : List.map L [2, 7, 9, 10, 11, 12] = [true, true, false, false, false, false] := by simp only [List.map_cons, List.map_nil, b2, b7, b9, b10, b11, b12]
        rw [hb] at hF ⊢
        obtain ⟨b10, key16, c17, sp18, e2, e7, hS24, H94⟩ := hF
        dsimp only
        rw [e2, e7]
        refine Gives.ofW (d := 31) rfl rfl (fun Q' hK => ?_)
        refine q_buildSlice (E := ET) (l := ([f] : List (List (BitVec 8)))) H94 sli39 zer9 (Nat.le_of_ble_eq_true rfl) (ps := [(0, .string (strB f))]) rfl (by exact fillAll rfl rfl) rfl ?_
        intro b95 w97 hS96 H98 hE99
        exact hK _ _ (show ∃ (b10 : Nat) (key16 : Option Nat) (c17 : Nat) (sp18 : List Value) (b39 : Nat), r 2 = .slice (ownA (some b10)) 0 0 ∧ r 7 = .slice (ownA key16) (0 + l.length) c17 ∧ (_ : Value) = .slice (ownA (some b39)) 1 1 ∧ Sl ET (some b39) ([f] : List (List (BitVec 8))) 1 ([]) ∧ Sl ET key16 l c17 sp18 ∧ Hp No w w97 [((some b39), sob ET 9 ([f] : List (List (BitVec 8))) ([])), (key16, sob ET 9 l sp18), (some b5, .cells #[.slice none 0 0, .slice none 0 0] 42 (0, 0)), (some b1, .cells #[.slice aa l.length ac, .slice oa on oc] 42 (0, 0))] from ⟨b10, key16, c17, sp18, b95, e2, e7, rfl, hS96, hS24, ((((H98.pull (k := 3) rfl).pull (k := 3) rfl).pull (k := 3) rfl).pull (k := 3) rfl)⟩)
      · skip
        have hb : List.map L [2, 7, 9, 10, 11, 12] = [true, false, false, false, false, false] := by simp only [List.map_cons, List.map_nil, b2, b7, b9, b10, b11, b12]
        rw [hb] at hF ⊢
        obtain ⟨b10, e2, hS11, H100⟩ := hF
        dsimp only
        rw [e2]
        refine Gives.ofW (d := 31) rfl rfl (fun Q' hK => ?_)
        refine q_buildSlice (E := ET) (l := ([f] : List (List (BitVec 8)))) H100 sli39 zer9 (Nat.le_of_ble_eq_true rfl) (ps := [(0, .string (strB f))]) rfl (by exact fillAll rfl rfl) rfl ?_
        intro b101 w103 hS102 H104 hE105
        exact hK _ _ (show ∃ (b10 : Nat) (b33 : Nat), r 2 = .slice (ownA (some b10)) 0 0 ∧ (_ : Value) = .slice (ownA (some b33)) 1 1 ∧ Sl ET (some b33) ([f] : List (List (BitVec 8))) 1 ([]) ∧ Sl ET (some b10) ([] : List (List (BitVec 8))) 0 ([]) ∧ Hp No w w103 [((some b33), sob ET 9 ([f] : List (List (BitVec 8))) ([])), ((some b10), sob ET 9 ([] : List (List (BitVec 8))) ([])), (some b5, .cells #[.slice none 0 0, .slice none 0 0] 42 (0, 0)), (some b1, .cells #[.slice aa l.length ac, .slice oa on oc] 42 (0, 0))] from ⟨b10, b101, e2, rfl, hS102, hS11, ((((H104.pull (k := 3) rfl).pull (k := 3) rfl).pull (k := 3) rfl).pull (k := 3) rfl)⟩)
    · skip
      rcases Bool.eq_false_or_eq_true (L 7) with b7 | b7
      · skip
        have hb : List.map L [2, 7, 9, 10, 11, 12] = [false, true, false, false, false, false] := by simp only [List.map_cons, List.map_nil, b2, b7, b9, b10, b11, b12]
        rw [hb] at hF
        exact False.elim hF
      · skip
        have hb : List.map L [2, 7, 9, 10, 11, 12] = [false, false, false, false, false, false] := by simp only [List.map_cons, List.map_nil, b2, b7, b9, b10, b11, b12]
        rw [hb] at hF ⊢
        have H106 := hF
        dsimp only
        refine Gives.ofW (d := 31) rfl rfl (fun Q' hK => ?_)
        refine q_buildSlice (E := ET) (l := ([f] : List (List (BitVec 8)))) H106 sli39 zer9 (Nat.le_of_ble_eq_true rfl) (ps := [(0, .string (strB f))]) rfl (by exact fillAll rfl rfl) rfl ?_
        intro b107 w109 hS108 H110 hE111
        exact hK _ _ (show ∃ (b27 : Nat), (_ : Value) = .slice (ownA (some b27)) 1 1 ∧ Sl ET (some b27) ([f] : List (List (BitVec 8))) 1 ([]) ∧ Hp No w w109 [((some b27), sob ET 9 ([f] : List (List (BitVec 8))) ([])), (some b5, .cells #[.slice none 0 0, .slice none 0 0] 42 (0, 0)), (some b1, .cells #[.slice aa l.length ac, .slice oa on oc] 42 (0, 0))] from ⟨b107, rfl, hS108, (((H110.pull (k := 2) rfl).pull (k := 2) rfl).pull (k := 2) rfl)⟩)
  refine WalkP.eff 3 rfl (fun L r uw hLn hAn hDn hF => ?_) ?_
  · skip
    have b2 : L 2 = true := hAn 2 (by decide) rfl
    have b7 : L 7 = true := hAn 7 (by decide) rfl
    have b9 : L 9 = true := hAn 9 (by decide) rfl
    have b10 : L 10 = false := hLn
    have b11 : L 11 = false := hDn 11 (by decide) rfl
    have b12 : L 12 = false := hDn 12 (by decide) rfl
    have hb : List.map L [2, 7, 9, 10, 11, 12] = [true, true, true, false, false, false] := by simp only [List.map_cons, List.map_nil, b2, b7, b9, b10, b11, b12]
    rw [hb] at hF ⊢
    obtain ⟨b10, key16, c17, sp18, b39, e2, e7, e9, hS40, hS24, H112⟩ := hF
    dsimp only
    rw [e2, e7, e9]
    refine Gives.ofW (d := 32) rfl rfl (fun Q' hK => ?_)
    refine q_append (E := ET) (k := 1) (l := l) (l2 := ([f] : List (List (BitVec 8)))) H112 rfl hS24 sli39 zer9 rfl byt9 (H112.rd (k := 0) rfl hS40) rfl (by exact Nat.zero_add _) rfl (by rfl) (by omega) ?_
    intro key113 c114 sp115 w117 hS116 hne119 H118
    have H118' := H118.as (L' := [((some b39), sob ET 9 ([f] : List (List (BitVec 8))) ([])), (key113, sob ET 9 (l ++ ([f] : List (List (BitVec 8)))) sp115), (some b5, .cells #[.slice none 0 0, .slice none 0 0] 42 (0, 0)), (some b1, .cells #[.slice aa l.length ac, .slice oa on oc] 42 (0, 0))]) rfl
    clear H118
    exact hK _ _ (show ∃ (b10 : Nat) (key16 : Option Nat) (c17 : Nat) (b39 : Nat) (key45 : Option Nat) (c46 : Nat) (sp47 : List Value), r 2 = .slice (ownA (some b10)) 0 0 ∧ r 7 = .slice (ownA key16) (0 + l.length) c17 ∧ r 9 = .slice (ownA (some b39)) 1 1 ∧ (_ : Value) = .slice (ownA key45) ((0 + l.length) + 1) c46 ∧ Sl ET (some b39) ([f] : List (List (BitVec 8))) 1 ([]) ∧ Sl ET key45 (l ++ ([f] : List (List (BitVec 8)))) c46 sp47 ∧ Hp No w w117 [((some b39), sob ET 9 ([f] : List (List (BitVec 8))) ([])), (key45, sob ET 9 (l ++ ([f] : List (List (BitVec 8)))) sp47), (some b5, .cells #[.slice none 0 0, .slice none 0 0] 42 (0, 0)), (some b1, .cells #[.slice aa l.length ac, .slice oa on oc] 42 (0, 0))] from ⟨b10, key16, c17, b39, key113, c114, sp115, e2, e7, e9, rfl, hS40, hS116, ((((H118'.pull (k := 3) rfl).pull (k := 3) rfl).pull (k := 3) rfl).pull (k := 3) rfl)⟩)
  refine WalkP.eff 4 rfl (fun L r uw hLn hAn hDn hF => ?_) ?_
  · skip
    have b2 : L 2 = true := hAn 2 (by decide) rfl
    have b7 : L 7 = true := hAn 7 (by decide) rfl
    have b9 : L 9 = true := hAn 9 (by decide) rfl
    have b10 : L 10 = true := hAn 10 (by decide) rfl
    have b11 : L 11 = false := hLn
    have b12 : L 12 = false := hDn 12 (by decide) rfl
    have hb : List.map L [2, 7, 9, 10, 11, 12] = [true, true, true, true, false, false] := by simp only [List.map_cons, List.map_nil, b2, b7, b9, b10, b11, b12]
    rw [hb] at hF ⊢
    obtain ⟨b10, key16, c17, b39, key45, c46, sp47, e2, e7, e9, e10, hS40, hS48, H120⟩ := hF
    dsimp only
    rw [e2, e7, e9, e10]
    refine Gives.ofW (d := 33) rfl rfl (fun Q' hK => ?_)
    refine c_call (vs := [.agg #[.slice aa l.length ac, .slice oa on oc], i64 ((0 : Int)), .slice (ownA key45) ((0 + l.length) + 1) c46]) call40 rfl (rput_0 aa oa (ownA key45) l.length ac on oc ((0 + l.length) + 1) c46 uw) ?_
    rintro _ w121 ⟨rfl, hE122⟩
    have H123 := H120.ext hE122
    exact hK _ _ (show ∃ (b10 : Nat) (key16 : Option Nat) (c17 : Nat) (b39 : Nat) (key45 : Option Nat) (c46 : Nat) (sp47 : List Value), r 2 = .slice (ownA (some b10)) 0 0 ∧ r 7 = .slice (ownA key16) (0 + l.length) c17 ∧ r 9 = .slice (ownA (some b39)) 1 1 ∧ r 10 = .slice (ownA key45) ((0 + l.length) + 1) c46 ∧ (_ : Value) = .agg #[.slice (ownA key45) ((0 + l.length) + 1) c46, .slice oa on oc] ∧ Sl ET (some b39) ([f] : List (List (BitVec 8))) 1 ([]) ∧ Sl ET key45 (l ++ ([f] : List (List (BitVec 8)))) c46 sp47 ∧ Hp No w w121 [((some b39), sob ET 9 ([f] : List (List (BitVec 8))) ([])), (key45, sob ET 9 (l ++ ([f] : List (List (BitVec 8)))) sp47), (some b5, .cells #[.slice none 0 0, .slice none 0 0] 42 (0, 0)), (some b1, .cells #[.slice aa l.length ac, .slice oa on oc] 42 (0, 0))] from ⟨b10, key16, c17, b39, key45, c46, sp47, e2, e7, e9, e10, rfl, hS40, hS48, ((((H123.pull (k := 3) rfl).pull (k := 3) rfl).pull (k := 3) rfl).pull (k := 3) rfl)⟩)
  refine WalkP.eff 5 rfl (fun L r uw hLn hAn hDn hF => ?_) ?_
  · skip
    have b2 : L 2 = true := hAn 2 (by decide) rfl
    have b7 : L 7 = true := hAn 7 (by decide) rfl
    have b9 : L 9 = true := hAn 9 (by decide) rfl
    have b10 : L 10 = true := hAn 10 (by decide) rfl
    have b11 : L 11 = true := hAn 11 (by decide) rfl
    have b12 : L 12 = false := hLn
    have hb : List.map L [2, 7, 9, 10, 11, 12] = [true, true, true, true, true, false] := by simp only [List.map_cons, List.map_nil, b2, b7, b9, b10, b11, b12]
    rw [hb] at hF ⊢
    obtain ⟨b10, key16, c17, b39, key45, c46, sp47, e2, e7, e9, e10, e11, hS40, hS48, H124⟩ := hF
    dsimp only
    rw [e2, e7, e9, e10, e11]
    refine Gives.ofW0 rfl (fun Q' hK => ?_)
    refine d_store (k := 2) (v := .agg #[.slice (ownA key45) ((0 + l.length) + 1) c46, .slice oa on oc]) (cs' := #[.slice (ownA key45) ((0 + l.length) + 1) c46, .slice oa on oc]) H124 rfl rfl rfl siz42 (by rfl) (by intro u hu; simp [Value.cells] at hu; first | (subst hu; rfl) | (rcases hu with rfl | rfl <;> rfl)) (by exact Nat.le_of_ble_eq_true rfl) (by rfl) ?_
    intro w125 H126 hC127
    have H126' := H126.as (L' := [((some b39), sob ET 9 ([f] : List (List (BitVec 8))) ([])), (key45, sob ET 9 (l ++ ([f] : List (List (BitVec 8)))) sp47), (some b5, .cells #[.slice (ownA key45) ((0 + l.length) + 1) c46, .slice oa on oc] 42 (0, 0)), (some b1, .cells #[.slice aa l.length ac, .slice oa on oc] 42 (0, 0))]) rfl
    clear H126
    exact hK _ (fun _ => (show ∃ (b10 : Nat) (key16 : Option Nat) (c17 : Nat) (b39 : Nat) (key45 : Option Nat) (c46 : Nat) (sp47 : List Value), r 2 = .slice (ownA (some b10)) 0 0 ∧ r 7 = .slice (ownA key16) (0 + l.length) c17 ∧ r 9 = .slice (ownA (some b39)) 1 1 ∧ r 10 = .slice (ownA key45) ((0 + l.length) + 1) c46 ∧ r 11 = .agg #[.slice (ownA key45) ((0 + l.length) + 1) c46, .slice oa on oc] ∧ Sl ET (some b39) ([f] : List (List (BitVec 8))) 1 ([]) ∧ Sl ET key45 (l ++ ([f] : List (List (BitVec 8)))) c46 sp47 ∧ Hp No w w125 [((some b39), sob ET 9 ([f] : List (List (BitVec 8))) ([])), (key45, sob ET 9 (l ++ ([f] : List (List (BitVec 8)))) sp47), (some b5, .cells #[.slice (ownA key45) ((0 + l.length) + 1) c46, .slice oa on oc] 42 (0, 0)), (some b1, .cells #[.slice aa l.length ac, .slice oa on oc] 42 (0, 0))] from ⟨b10, key16, c17, b39, key45, c46, sp47, e2, e7, e9, e10, e11, hS40, hS48, ((((H126'.pull (k := 3) rfl).pull (k := 3) rfl).pull (k := 3) rfl).pull (k := 3) rfl)⟩))
  refine WalkP.look rfl (fun _ => i64 ((0 : Int))) (fun _ _ _ => rfl) (fun L r uw _ _ _ => Gives.run rfl (r_assign (v := i64 ((0 : Int))) rfl) ⟨rfl, rfl⟩) ?_
  refine WalkP.nil ?_
  intro r128 w129 hF
  obtain ⟨b10, key16, c17, b39, key45, c46, sp47, e2, e7, e9, e10, e11, hS40, hS48, H130⟩ := hF
  dsimp only
  rw [e2, e7, e9, e10, e11]
  refine wnil ?_
  refine thenNormal ?_
  refine retAny ?_
  refine retG (rs := [.cell 6 42, .tmp 7]) (vs := [.agg #[.slice (ownA key45) ((0 + l.length) + 1) c46, .slice oa on oc], i64 ((0 : Int))]) rfl ⟨r_loadA (cs' := #[.slice (ownA key45) ((0 + l.length) + 1) c46, .slice oa on oc]) agg42 siz42 (H130.get (k := 2) rfl) (off := 0) rfl (by exact Nat.le_of_ble_eq_true rfl) (by rfl), ⟨rfl, rfl⟩, trivial⟩ ?_
  refine ⟨_, rfl, ⟨key45, c46, sp47, ?_, hS48, fun g hg => ⟨((H130.own _ (List.mem_of_getElem? (i := 1) rfl) g hg).resolve_left (fun h => h)), H130.has _ (List.mem_of_getElem? (i := 1) rfl) g hg⟩⟩, H130.chg⟩
  rw [show (l ++ ([f] : List (List (BitVec 8)))).length = (0 + l.length) + 1 from by rw [List.length_append, List.length_singleton, Nat.zero_add]]; rfl

theorem rsend_ok_1 (l : List (List (BitVec 8))) (aa oa : Option Addr) (ac on oc : Nat) (w : World) (f : List (BitVec 8)) (hlen : l.length < 64) (hA : Rd ET w aa l) : Calls Tryd.prog 46 [.agg #[.slice oa on oc, .slice aa l.length ac], i64 ((1 : Int)), .string (strB f)].toArray w (Ret fun v w' => (∃ key c sp, v = .tuple #[.agg #[.slice oa on oc, .slice (ownA key) ((l ++ [f]).length) c], i64 (0 : Int)] ∧ Sl ET key (l ++ [f]) c sp ∧ ∀ g, key = some g → w.heap.size ≤ g ∧ w'.heap[g]? = some (sob ET 9 (l ++ [f]) sp)) ∧ Ext w w') := by
  have H := Hp.start No w
  refine enter (n := 34) Tryd.func46 rfl rfl (Nat.le_of_ble_eq_true rfl) ?_
  refine seqRegion ?_
  refine q_box (v := .agg #[.slice oa on oc, .slice aa l.length ac]) (o := .cells #[.slice oa on oc, .slice aa l.length ac] 42 (0, 0)) H rfl (by rfl) ?_
  intro b1 w2 hb1 H3 hE4
  refine q_alloc (o := .cells #[.slice none 0 0, .slice none 0 0] 42 (0, 0)) H3 zer42 (by kernel_rfl) ?_
  intro b5 w6 hb5 H7 hE8
  refine sq (r_assign (v := i64 ((0 : Int))) rfl) ?_
  refine wend ?_
  refine seqAny ?_
  refine seqRegion ?_
  refine sq (r_move (v := i64 ((1 : Int))) rfl) ?_
  refine sq ((r_lssI (a := (1 : Int)) (b := (0 : Int)) rfl rfl).as (v' := .bool (false)) (by rfl)) ?_
  refine sq (r_move (v := .bool (false)) rfl) ?_
  refine sqAny (v := i64 ((1 : Int))) (w' := w6) (wantedSome (d' := 10) (b := false) rfl rfl rfl) (r_move (v := i64 ((1 : Int))) rfl) ?_
  refine sqAny (v := .bool (false)) (w' := w6) (wantedSome (d' := 10) (b := false) rfl rfl rfl) ((r_gtrI (a := (1 : Int)) (b := (1 : Int)) rfl rfl).as (v' := .bool (false)) (by rfl)) ?_
  refine sq (r_pickF (v := .bool (false)) rfl rfl) ?_
  refine wend ?_
  refine condFalse rfl ?_
  refine skipAny ?_
  refine thenNormal ?_
  refine seqAny ?_
  refine seqRegion ?_
  refine sq (r_move (v := i64 ((1 : Int))) rfl) ?_
  refine sq (r_fieldAddr (off' := 0) fld42_0 (by decide) (b := b1) (off := 0) rfl (by omega)) ?_
  refine sq (r_indexA (off' := 1) (j := 1) arr40 (b := b1) (off := 0) rfl rfl (by first | rfl | omega | (simp; omega)) (by omega) (by omega)) ?_
  refine sq (r_loadC (v := .slice aa l.length ac) one39 (H7.get (k := 1) rfl) (off := 1) rfl (by rfl)) ?_
  refine sq (r_lenS sli39 (a := aa) (m := l.length) (c := ac) rfl) ?_
  refine sq ((r_geqI (a := (l.length : Nat)) (b := (64 : Int)) rfl rfl).as (v' := .bool (false)) (by exact congrArg Value.bool (decide_eq_false (by omega)))) ?_
  refine wend ?_
  refine condFalse rfl ?_
  refine skipAny ?_
  refine thenNormal ?_
  refine seqAny ?_
  refine drawP (m := 14) [0, 0, 0, 0, 0, 24, 56, 124, 0, 256, 1020, 2047, 4095, 8191] [2, 7, 9, 10, 11, 12] (fun bs vs w' => match bs, vs with | [false, false, false, false, false, false], [_, _, _, _, _, _] => Hp No w w' [(some b5, .cells #[.slice none 0 0, .slice none 0 0] 42 (0, 0)), (some b1, .cells #[.slice oa on oc, .slice aa l.length ac] 42 (0, 0))] | [true, false, false, false, false, false], [v2, _, _, _, _, _] => ∃ (b10 : Nat), v2 = .slice (ownA (some b10)) 0 0 ∧ Sl ET (some b10) ([] : List (List (BitVec 8))) 0 ([]) ∧ Hp No w w' [((some b10), sob ET 9 ([] : List (List (BitVec 8))) ([])), (some b5, .cells #[.slice none 0 0, .slice none 0 0] 42 (0, 0)), (some b1, .cells #[.slice oa on oc, .slice aa l.length ac] 42 (0, 0))] | [true, true, false, false, false, false], [v2, v7, _, _, _, _] => ∃ (b10 : Nat) (key16 : Option Nat) (c17 : Nat) (sp18 : List Value), v2 = .slice (ownA (some b10)) 0 0 ∧ v7 = .slice (ownA key16) (0 + l.length) c17 ∧ Sl ET key16 l c17 sp18 ∧ Hp No w w' [(key16, sob ET 9 l sp18), (some b5, .cells #[.slice none 0 0, .slice none 0 0] 42 (0, 0)), (some b1, .cells #[.slice oa on oc, .slice aa l.length ac] 42 (0, 0))] | [false, false, true, false, false, false], [_, _, v9, _, _, _] => ∃ (b27 : Nat), v9 = .slice (ownA (some b27)) 1 1 ∧ Sl ET (some b27) ([f] : List (List (BitVec 8))) 1 ([]) ∧ Hp No w w' [((some b27), sob ET 9 ([f] : List (List (BitVec 8))) ([])), (some b5, .cells #[.slice none 0 0, .slice none 0 0] 42 (0, 0)), (some b1, .cells #[.slice oa on oc, .slice aa l.length ac] 42 (0, 0))] | [true, false, true, false, false, false], [v2, _, v9, _, _, _] => ∃ (b10 : Nat) (b33 : Nat), v2 = .slice (ownA (some b10)) 0 0 ∧ v9 = .slice (ownA (some b33)) 1 1 ∧ Sl ET (some b33) ([f] : List (List (BitVec 8))) 1 ([]) ∧ Sl ET (some b10) ([] : List (List (BitVec 8))) 0 ([]) ∧ Hp No w w' [((some b33), sob ET 9 ([f] : List (List (BitVec 8))) ([])), ((some b10), sob ET 9 ([] : List (List (BitVec 8))) ([])), (some b5, .cells #[.slice none 0 0, .slice none 0 0] 42 (0, 0)), (some b1, .cells #[.slice oa on oc, .slice aa l.length ac] 42 (0, 0))] | [true, true, true, false, false, false], [v2, v7, v9, _, _, _] => ∃ (b10 : Nat) (key16 : Option Nat) (c17 : Nat) (sp18 : List Value) (b39 : Nat), v2 = .slice (ownA (some b10)) 0 0 ∧ v7 = .slice (ownA key16) (0 + l.length) c17 ∧ v9 = .slice (ownA (some b39)) 1 1 ∧ Sl ET (some b39) ([f] : List (List (BitVec 8))) 1 ([]) ∧ Sl ET key16 l c17 sp18 ∧ Hp No w w' [((some b39), sob ET 9 ([f] : List (List (BitVec 8))) ([])), (key16, sob ET 9 l sp18), (some b5, .cells #[.slice none 0 0, .slice none 0 0] 42 (0, 0)), (some b1, .cells #[.slice oa on oc, .slice aa l.length ac] 42 (0, 0))] | [true, true, true, true, false, false], [v2, v7, v9, v10, _, _] => ∃ (b10 : Nat) (key16 : Option Nat) (c17 : Nat) (b39 : Nat) (key45 : Option Nat) (c46 : Nat) (sp47 : List Value), v2 = .slice (ownA (some b10)) 0 0 ∧ v7 = .slice (ownA key16) (0 + l.length) c17 ∧ v9 = .slice (ownA (some b39)) 1 1 ∧ v10 = .slice (ownA key45) ((0 + l.length) + 1) c46 ∧ Sl ET (some b39) ([f] : List (List (BitVec 8))) 1 ([]) ∧ Sl ET key45 (l ++ ([f] : List (List (BitVec 8)))) c46 sp47 ∧ Hp No w w' [((some b39), sob ET 9 ([f] : List (List (BitVec 8))) ([])), (key45, sob ET 9 (l ++ ([f] : List (List (BitVec 8)))) sp47), (some b5, .cells #[.slice none 0 0, .slice none 0 0] 42 (0, 0)), (some b1, .cells #[.slice oa on oc, .slice aa l.length ac] 42 (0, 0))] | [true, true, true, true, true, false], [v2, v7, v9, v10, v11, _] => ∃ (b10 : Nat) (key16 : Option Nat) (c17 : Nat) (b39 : Nat) (key45 : Option Nat) (c46 : Nat) (sp47 : List Value), v2 = .slice (ownA (some b10)) 0 0 ∧ v7 = .slice (ownA key16) (0 + l.length) c17 ∧ v9 = .slice (ownA (some b39)) 1 1 ∧ v10 = .slice (ownA key45) ((0 + l.length) + 1) c46 ∧ v11 = .agg #[.slice oa on oc, .slice (ownA key45) ((0 + l.length) + 1) c46] ∧ Sl ET (some b39) ([f] : List (List (BitVec 8))) 1 ([]) ∧ Sl ET key45 (l ++ ([f] : List (List (BitVec 8)))) c46 sp47 ∧ Hp No w w' [((some b39), sob ET 9 ([f] : List (List (BitVec 8))) ([])), (key45, sob ET 9 (l ++ ([f] : List (List (BitVec 8)))) sp47), (some b5, .cells #[.slice none 0 0, .slice none 0 0] 42 (0, 0)), (some b1, .cells #[.slice oa on oc, .slice aa l.length ac] 42 (0, 0))] | [true, true, true, true, true, true], [v2, v7, v9, v10, v11, _] => ∃ (b10 : Nat) (key16 : Option Nat) (c17 : Nat) (b39 : Nat) (key45 : Option Nat) (c46 : Nat) (sp47 : List Value), v2 = .slice (ownA (some b10)) 0 0 ∧ v7 = .slice (ownA key16) (0 + l.length) c17 ∧ v9 = .slice (ownA (some b39)) 1 1 ∧ v10 = .slice (ownA key45) ((0 + l.length) + 1) c46 ∧ v11 = .agg #[.slice oa on oc, .slice (ownA key45) ((0 + l.length) + 1) c46] ∧ Sl ET (some b39) ([f] : List (List (BitVec 8))) 1 ([]) ∧ Sl ET key45 (l ++ ([f] : List (List (BitVec 8)))) c46 sp47 ∧ Hp No w w' [((some b39), sob ET 9 ([f] : List (List (BitVec 8))) ([])), (key45, sob ET 9 (l ++ ([f] : List (List (BitVec 8)))) sp47), (some b5, .cells #[.slice oa on oc, .slice (ownA key45) ((0 + l.length) + 1) c46] 42 (0, 0)), (some b1, .cells #[.slice oa on oc, .slice aa l.length ac] 42 (0, 0))] | _, _ => False) mixed (by kernel_rfl) (by kernel_rfl) H7.drew ?_
  refine WalkP.look rfl (fun _ => .agg #[.slice oa on oc, .slice aa l.length ac]) (fun _ _ _ => rfl) (fun L r uw hAn hDn hF => ?_) ?_
  · skip
    have b11 : L 11 = false := hDn 11 (by decide) rfl
    have b12 : L 12 = false := hDn 12 (by decide) rfl
    rcases Bool.eq_false_or_eq_true (L 2) with b2 | b2
    · skip
      rcases Bool.eq_false_or_eq_true (L 7) with b7 | b7
      · skip
        rcases Bool.eq_false_or_eq_true (L 9) with b9 | b9
        · skip
          rcases Bool.eq_false_or_eq_true (L 10) with b10 | b10
          · skip
            have hb : List.map L [2, 7, 9, 10, 11, 12] = [true, true, true, true, false, false] := by simp only [List.map_cons, List.map_nil, b2, b7, b9, b10, b11, b12]
            rw [hb] at hF
            obtain ⟨b10, key16, c17, b39, key45, c46, sp47, e2, e7, e9, e10, hS40, hS48, HH⟩ := hF
            exact Gives.run rfl (r_loadA (cs' := #[.slice oa on oc, .slice aa l.length ac]) agg42 siz42 (HH.get (k := 3) rfl) (off := 0) rfl (by exact Nat.le_of_ble_eq_true rfl) (by rfl)) ⟨rfl, rfl⟩
          · skip
            have hb : List.map L [2, 7, 9, 10, 11, 12] = [true, true, true, false, false, false] := by simp only [List.map_cons, List.map_nil, b2, b7, b9, b10, b11, b12]
            rw [hb] at hF
            obtain ⟨b10, key16, c17, sp18, b39, e2, e7, e9, hS40, hS24, HH⟩ := hF
            exact Gives.run rfl (r_loadA (cs' := #[.slice oa on oc, .slice aa l.length ac]) agg42 siz42 (HH.get (k := 3) rfl) (off := 0) rfl (by exact Nat.le_of_ble_eq_true rfl) (by rfl)) ⟨rfl, rfl⟩
        · skip
          rcases Bool.eq_false_or_eq_true (L 10) with b10 | b10
          · skip
            have hb : List.map L [2, 7, 9, 10, 11, 12] = [true, true, false, true, false, false] := by simp only [List.map_cons, List.map_nil, b2, b7, b9, b10, b11, b12]
            rw [hb] at hF
            exact False.elim hF
          · skip
            have hb : List.map L [2, 7, 9, 10, 11, 12] = [true, true, false, false, false, false] := by simp only [List.map_cons, List.map_nil, b2, b7, b9, b10, b11, b12]
            rw [hb] at hF
            obtain ⟨b10, key16, c17, sp18, e2, e7, hS24, HH⟩ := hF
            exact Gives.run rfl (r_loadA (cs' := #[.slice oa on oc, .slice aa l.length ac]) agg42 siz42 (HH.get (k := 2) rfl) (off := 0) rfl (by exact Nat.le_of_ble_eq_true rfl) (by rfl)) ⟨rfl, rfl⟩
      · skip
        rcases Bool.eq_false_or_eq_true (L 9) with b9 | b9
        · skip
          rcases Bool.eq_false_or_eq_true (L 10) with b10 | b10
          · skip
            have hb : List.map L [2, 7, 9, 10, 11, 12] = [true, false, true, true, false, false] := by simp only [List.map_cons, List.map_nil, b2, b7, b9, b10, b11, b12]
            rw [hb] at hF
            exact False.elim hF
          · skip
            have hb : List.map L [2, 7, 9, 10, 11, 12] = [true, false, true, false, false, false] := by simp only [List.map_cons, List.map_nil, b2, b7, b9, b10, b11, b12]
            rw [hb] at hF
            obtain ⟨b10, b33, e2, e9, hS34, hS11, HH⟩ := hF
            exact Gives.run rfl (r_loadA (cs' := #[.slice oa on oc, .slice aa l.length ac]) agg42 siz42 (HH.get (k := 3) rfl) (off := 0) rfl (by exact Nat.le_of_ble_eq_true rfl) (by rfl)) ⟨rfl, rfl⟩
        · skip
          rcases Bool.eq_false_or_eq_true (L 10) with b10 | b10
          · skip
            have hb : List.map L [2, 7, 9, 10, 11, 12] = [true, false, false, true, false, false] := by simp only [List.map_cons, List.map_nil, b2, b7, b9, b10, b11, b12]
            rw [hb] at hF
            exact False.elim hF
          · skip
            have hb : List.map L [2, 7, 9, 10, 11, 12] = [true, false, false, false, false, false] := by simp only [List.map_cons, List.map_nil, b2, b7, b9, b10, b11, b12]
            rw [hb] at hF
            obtain ⟨b10, e2, hS11, HH⟩ := hF
            exact Gives.run rfl (r_loadA (cs' := #[.slice oa on oc, .slice aa l.length ac]) agg42 siz42 (HH.get (k := 2) rfl) (off := 0) rfl (by exact Nat.le_of_ble_eq_true rfl) (by rfl)) ⟨rfl, rfl⟩
    · skip
      rcases Bool.eq_false_or_eq_true (L 7) with b7 | b7
      · skip
        rcases Bool.eq_false_or_eq_true (L 9) with b9 | b9
        · skip
          rcases Bool.eq_false_or_eq_true (L 10) with b10 | b10
          · skip
            have hb : List.map L [2, 7, 9, 10, 11, 12] = [false, true, true, true, false, false] := by simp only [List.map_cons, List.map_nil, b2, b7, b9, b10, b11, b12]
            rw [hb] at hF
            exact False.elim hF
          · skip
            have hb : List.map L [2, 7, 9, 10, 11, 12] = [false, true, true, false, false, false] := by simp only [List.map_cons, List.map_nil, b2, b7, b9, b10, b11, b12]
            rw [hb] at hF
            exact False.elim hF
        · skip
          rcases Bool.eq_false_or_eq_true (L 10) with b10 | b10
          · skip
            have hb : List.map L [2, 7, 9, 10, 11, 12] = [false, true, false, true, false, false] := by simp only [List.map_cons, List.map_nil, b2, b7, b9, b10, b11, b12]
            rw [hb] at hF
            exact False.elim hF
          · skip
            have hb : List.map L [2, 7, 9, 10, 11, 12] = [false, true, false, false, false, false] := by simp only [List.map_cons, List.map_nil, b2, b7, b9, b10, b11, b12]
            rw [hb] at hF
            exact False.elim hF
      · skip
        rcases Bool.eq_false_or_eq_true (L 9) with b9 | b9
        · skip
          rcases Bool.eq_false_or_eq_true (L 10) with b10 | b10
          · skip
            have hb : List.map L [2, 7, 9, 10, 11, 12] = [false, false, true, true, false, false] := by simp only [List.map_cons, List.map_nil, b2, b7, b9, b10, b11, b12]
            rw [hb] at hF
            exact False.elim hF
          · skip
            have hb : List.map L [2, 7, 9, 10, 11, 12] = [false, false, true, false, false, false] := by simp only [List.map_cons, List.map_nil, b2, b7, b9, b10, b11, b12]
            rw [hb] at hF
            obtain ⟨b27, e9, hS28, HH⟩ := hF
            exact Gives.run rfl (r_loadA (cs' := #[.slice oa on oc, .slice aa l.length ac]) agg42 siz42 (HH.get (k := 2) rfl) (off := 0) rfl (by exact Nat.le_of_ble_eq_true rfl) (by rfl)) ⟨rfl, rfl⟩
        · skip
          rcases Bool.eq_false_or_eq_true (L 10) with b10 | b10
          · skip
            have hb : List.map L [2, 7, 9, 10, 11, 12] = [false, false, false, true, false, false] := by simp only [List.map_cons, List.map_nil, b2, b7, b9, b10, b11, b12]
            rw [hb] at hF
            exact False.elim hF
          · skip
            have hb : List.map L [2, 7, 9, 10, 11, 12] = [false, false, false, false, false, false] := by simp only [List.map_cons, List.map_nil, b2, b7, b9, b10, b11, b12]
            rw [hb] at hF
            have HH := hF
            exact Gives.run rfl (r_loadA (cs' := #[.slice oa on oc, .slice aa l.length ac]) agg42 siz42 (HH.get (k := 1) rfl) (off := 0) rfl (by exact Nat.le_of_ble_eq_true rfl) (by rfl)) ⟨rfl, rfl⟩
  refine WalkP.look rfl (fun _ => i64 ((1 : Int))) (fun _ _ _ => rfl) (fun L r uw _ _ _ => Gives.run rfl (r_move (v := i64 ((1 : Int))) rfl) ⟨rfl, rfl⟩) ?_
  refine WalkP.eff 0 rfl (fun L r uw hLn hAn hDn hF => ?_) ?_
  · skip
    have b2 : L 2 = false := hLn
    have b7 : L 7 = false := hDn 7 (by decide) rfl
    have b10 : L 10 = false := hDn 10 (by decide) rfl
    have b11 : L 11 = false := hDn 11 (by decide) rfl
    have b12 : L 12 = false := hDn 12 (by decide) rfl
    rcases Bool.eq_false_or_eq_true (L 9) with b9 | b9
    · skip
      have hb : List.map L [2, 7, 9, 10, 11, 12] = [false, false, true, false, false, false] := by simp only [List.map_cons, List.map_nil, b2, b7, b9, b10, b11, b12]
      rw [hb] at hF ⊢
      obtain ⟨b27, e9, hS28, H60⟩ := hF
      dsimp only
      refine Gives.ofW (d := 24) rfl rfl (fun Q' hK => ?_)
      refine q_buildSlice (E := ET) (l := ([] : List (List (BitVec 8)))) H60 sli39 zer9 (Nat.le_of_ble_eq_true rfl) (ps := []) rfl (by exact fillAll rfl rfl) rfl ?_
      intro b61 w63 hS62 H64 hE65
      exact hK _ _ (show ∃ (b10 : Nat) (b33 : Nat), (_ : Value) = .slice (ownA (some b10)) 0 0 ∧ r 9 = .slice (ownA (some b33)) 1 1 ∧ Sl ET (some b33) ([f] : List (List (BitVec 8))) 1 ([]) ∧ Sl ET (some b10) ([] : List (List (BitVec 8))) 0 ([]) ∧ Hp No w w63 [((some b33), sob ET 9 ([f] : List (List (BitVec 8))) ([])), ((some b10), sob ET 9 ([] : List (List (BitVec 8))) ([])), (some b5, .cells #[.slice none 0 0, .slice none 0 0] 42 (0, 0)), (some b1, .cells #[.slice oa on oc, .slice aa l.length ac] 42 (0, 0))] from ⟨b61, b27, rfl, e9, hS28, hS62, ((((H64.pull (k := 3) rfl).pull (k := 3) rfl).pull (k := 2) rfl).pull (k := 3) rfl)⟩)
    · skip
      have hb : List.map L [2, 7, 9, 10, 11, 12] = [false, false, false, false, false, false] := by simp only [List.map_cons, List.map_nil, b2, b7, b9, b10, b11, b12]
      rw [hb] at hF ⊢
      have H66 := hF
      dsimp only
      refine Gives.ofW (d := 24) rfl rfl (fun Q' hK => ?_)
      refine q_buildSlice (E := ET) (l := ([] : List (List (BitVec 8)))) H66 sli39 zer9 (Nat.le_of_ble_eq_true rfl) (ps := []) rfl (by exact fillAll rfl rfl) rfl ?_
      intro b67 w69 hS68 H70 hE71
      exact hK _ _ (show ∃ (b10 : Nat), (_ : Value) = .slice (ownA (some b10)) 0 0 ∧ Sl ET (some b10) ([] : List (List (BitVec 8))) 0 ([]) ∧ Hp No w w69 [((some b10), sob ET 9 ([] : List (List (BitVec 8))) ([])), (some b5, .cells #[.slice none 0 0, .slice none 0 0] 42 (0, 0)), (some b1, .cells #[.slice oa on oc, .slice aa l.length ac] 42 (0, 0))] from ⟨b67, rfl, hS68, (((H70.pull (k := 2) rfl).pull (k := 2) rfl).pull (k := 2) rfl)⟩)
  refine WalkP.look rfl (fun _ => i64 ((1 : Int))) (fun _ _ _ => rfl) (fun L r uw _ _ _ => Gives.run rfl (r_move (v := i64 ((1 : Int))) rfl) ⟨rfl, rfl⟩) ?_
  refine WalkP.look rfl (fun _ => .pointer (some ⟨b1, 0, none⟩)) (fun _ _ _ => rfl) (fun L r uw _ _ _ => Gives.run rfl (r_fieldAddr (off' := 0) fld42_0 (by decide) (b := b1) (off := 0) rfl (by omega)) ⟨rfl, rfl⟩) ?_
  refine WalkP.look rfl (fun _ => .pointer (some ⟨b1, 1, none⟩)) (fun _ _ _ => rfl) (fun L r uw _ _ _ => Gives.run rfl (r_indexA (off' := 1) (j := 1) arr40 (b := b1) (off := 0) rfl rfl (by first | rfl | omega | (simp; omega)) (by omega) (by omega)) ⟨rfl, rfl⟩) ?_
  refine WalkP.look rfl (fun _ => .slice aa l.length ac) (fun _ _ _ => rfl) (fun L r uw hAn hDn hF => ?_) ?_
  · skip
    have b7 : L 7 = false := hDn 7 (by decide) rfl
    have b10 : L 10 = false := hDn 10 (by decide) rfl
    have b11 : L 11 = false := hDn 11 (by decide) rfl
    have b12 : L 12 = false := hDn 12 (by decide) rfl
    rcases Bool.eq_false_or_eq_true (L 2) with b2 | b2
    · skip
      rcases Bool.eq_false_or_eq_true (L 9) with b9 | b9
      · skip
        have hb : List.map L [2, 7, 9, 10, 11, 12] = [true, false, true, false, false, false] := by simp only [List.map_cons, List.map_nil, b2, b7, b9, b10, b11, b12]
        rw [hb] at hF
        obtain ⟨b10, b33, e2, e9, hS34, hS11, HH⟩ := hF
        exact Gives.run rfl (r_loadC (v := .slice aa l.length ac) one39 (HH.get (k := 3) rfl) (off := 1) rfl (by rfl)) ⟨rfl, rfl⟩
      · skip
        have hb : List.map L [2, 7, 9, 10, 11, 12] = [true, false, false, false, false, false] := by simp only [List.map_cons, List.map_nil, b2, b7, b9, b10, b11, b12]
        rw [hb] at hF
        obtain ⟨b10, e2, hS11, HH⟩ := hF
        exact Gives.run rfl (r_loadC (v := .slice aa l.length ac) one39 (HH.get (k := 2) rfl) (off := 1) rfl (by rfl)) ⟨rfl, rfl⟩
    · skip
      rcases Bool.eq_false_or_eq_true (L 9) with b9 | b9
      · skip
        have hb : List.map L [2, 7, 9, 10, 11, 12] = [false, false, true, false, false, false] := by simp only [List.map_cons, List.map_nil, b2, b7, b9, b10, b11, b12]
        rw [hb] at hF
        obtain ⟨b27, e9, hS28, HH⟩ := hF
        exact Gives.run rfl (r_loadC (v := .slice aa l.length ac) one39 (HH.get (k := 2) rfl) (off := 1) rfl (by rfl)) ⟨rfl, rfl⟩
      · skip
        have hb : List.map L [2, 7, 9, 10, 11, 12] = [false, false, false, false, false, false] := by simp only [List.map_cons, List.map_nil, b2, b7, b9, b10, b11, b12]
        rw [hb] at hF
        have HH := hF
        exact Gives.run rfl (r_loadC (v := .slice aa l.length ac) one39 (HH.get (k := 1) rfl) (off := 1) rfl (by rfl)) ⟨rfl, rfl⟩
  refine WalkP.eff 1 rfl (fun L r uw hLn hAn hDn hF => ?_) ?_
  · skip
    have b2 : L 2 = true := hAn 2 (by decide) rfl
    have b7 : L 7 = false := hLn
    have b10 : L 10 = false := hDn 10 (by decide) rfl
    have b11 : L 11 = false := hDn 11 (by decide) rfl
    have b12 : L 12 = false := hDn 12 (by decide) rfl
    rcases Bool.eq_false_or_eq_true (L 9) with b9 | b9
    · skip
      have hb : List.map L [2, 7, 9, 10, 11, 12] = [true, false, true, false, false, false] := by simp only [List.map_cons, List.map_nil, b2, b7, b9, b10, b11, b12]
      rw [hb] at hF ⊢
      obtain ⟨b10, b33, e2, e9, hS34, hS11, H72⟩ := hF
      dsimp only
      rw [e2]
      refine Gives.ofW (d := 29) rfl rfl (fun Q' hK => ?_)
      refine q_append (E := ET) (k := 1) (l := ([] : List (List (BitVec 8)))) (l2 := l) H72 rfl hS11 sli39 zer9 rfl byt9 (hA.ext H72.chg) rfl (by rfl) rfl (by rfl) (by omega) ?_
      intro key73 c74 sp75 w77 hS76 hne79 H78
      have H78' := H78.as (L' := [((some b33), sob ET 9 ([f] : List (List (BitVec 8))) ([])), (key73, sob ET 9 (([] : List (List (BitVec 8))) ++ l) sp75), (some b5, .cells #[.slice none 0 0, .slice none 0 0] 42 (0, 0)), (some b1, .cells #[.slice oa on oc, .slice aa l.length ac] 42 (0, 0))]) rfl
      clear H78
      have e80 : ([] : List (List (BitVec 8))) ++ l = l := by rw [List.nil_append]
      have hS81 := hS76
      rw [e80] at hS81
      have H82 := H78'.as (L' := [((some b33), sob ET 9 ([f] : List (List (BitVec 8))) ([])), (key73, sob ET 9 l sp75), (some b5, .cells #[.slice none 0 0, .slice none 0 0] 42 (0, 0)), (some b1, .cells #[.slice oa on oc, .slice aa l.length ac] 42 (0, 0))]) (by rw [e80])
      exact hK _ _ (show ∃ (b10 : Nat) (key16 : Option Nat) (c17 : Nat) (sp18 : List Value) (b39 : Nat), r 2 = .slice (ownA (some b10)) 0 0 ∧ (_ : Value) = .slice (ownA key16) (0 + l.length) c17 ∧ r 9 = .slice (ownA (some b39)) 1 1 ∧ Sl ET (some b39) ([f] : List (List (BitVec 8))) 1 ([]) ∧ Sl ET key16 l c17 sp18 ∧ Hp No w w77 [((some b39), sob ET 9 ([f] : List (List (BitVec 8))) ([])), (key16, sob ET 9 l sp18), (some b5, .cells #[.slice none 0 0, .slice none 0 0] 42 (0, 0)), (some b1, .cells #[.slice oa on oc, .slice aa l.length ac] 42 (0, 0))] from ⟨b10, key73, c74, sp75, b33, e2, rfl, e9, hS34, hS81, ((((H82.pull (k := 3) rfl).pull (k := 3) rfl).pull (k := 3) rfl).pull (k := 3) rfl)⟩)
    · skip
      have hb : List.map L [2, 7, 9, 10, 11, 12] = [true, false, false, false, false, false] := by simp only [List.map_cons, List.map_nil, b2, b7, b9, b10, b11, b12]
      rw [hb] at hF ⊢
      obtain ⟨b10, e2, hS11, H83⟩ := hF
      dsimp only
      rw [e2]
      refine Gives.ofW (d := 29) rfl rfl (fun Q' hK => ?_)
      refine q_append (E := ET) (k := 0) (l := ([] : List (List (BitVec 8)))) (l2 := l) H83 rfl hS11 sli39 zer9 rfl byt9 (hA.ext H83.chg) rfl (by rfl) rfl (by rfl) (by omega) ?_
      intro key84 c85 sp86 w88 hS87 hne90 H89
      have H89' := H89.as (L' := [(key84, sob ET 9 (([] : List (List (BitVec 8))) ++ l) sp86), (some b5, .cells #[.slice none 0 0, .slice none 0 0] 42 (0, 0)), (some b1, .cells #[.slice oa on oc, .slice aa l.length ac] 42 (0, 0))]) rfl
      clear H89
      have e91 : ([] : List (List (BitVec 8))) ++ l = l := by rw [List.nil_append]
      have hS92 := hS87
      rw [e91] at hS92
      have H93 := H89'.as (L' := [(key84, sob ET 9 l sp86), (some b5, .cells #[.slice none 0 0, .slice none 0 0] 42 (0, 0)), (some b1, .cells #[.slice oa on oc, .slice aa l.length ac] 42 (0, 0))]) (by rw [e91])
      exact hK _ _ (show ∃ (b10 : Nat) (key16 : Option Nat) (c17 : Nat) (sp18 : List Value), r 2 = .slice (ownA (some b10)) 0 0 ∧ (_ : Value) = .slice (ownA key16) (0 + l.length) c17 ∧ Sl ET key16 l c17 sp18 ∧ Hp No w w88 [(key16, sob ET 9 l sp18), (some b5, .cells #[.slice none 0 0, .slice none 0 0] 42 (0, 0)), (some b1, .cells #[.slice oa on oc, .slice aa l.length ac] 42 (0, 0))] from ⟨b10, key84, c85, sp86, e2, rfl, hS92, (((H93.pull (k := 2) rfl).pull (k := 2) rfl).pull (k := 2) rfl)⟩)
  refine WalkP.look rfl (fun _ => .string (strB f)) (fun _ _ _ => rfl) (fun L r uw _ _ _ => Gives.run rfl (r_move (v := .string (strB f)) rfl) ⟨rfl, rfl⟩) ?_
  refine WalkP.eff 2 rfl (fun L r uw hLn hAn hDn hF => ?_) ?_
  · skip
    have b9 : L 9 = false := hLn
    have b10 : L 10 = false := hDn 10 (by decide) rfl
    have b11 : L 11 = false := hDn 11 (by decide) rfl
    have b12 : L 12 = false := hDn 12 (by decide) rfl
    rcases Bool.eq_false_or_eq_true (L 2) with b2 | b2
    · skip
      rcases Bool.eq_false_or_eq_true (L 7) with b7 | b7
      · skip
        have hb : List.map L [2, 7, 9, 10, 11, 12] = [true, true, false, false, false, false] := by simp only [List.map_cons, List.map_nil, b2, b7, b9, b10, b11, b12]
        rw [hb] at hF ⊢
        obtain ⟨b10, key16, c17, sp18, e2, e7, hS24, H94⟩ := hF
        dsimp only
        rw [e2, e7]
        refine Gives.ofW (d := 31) rfl rfl (fun Q' hK => ?_)
        refine q_buildSlice (E := ET) (l := ([f] : List (List (BitVec 8)))) H94 sli39 zer9 (Nat.le_of_ble_eq_true rfl) (ps := [(0, .string (strB f))]) rfl (by exact fillAll rfl rfl) rfl ?_
        intro b95 w97 hS96 H98 hE99
        exact hK _ _ (show ∃ (b10 : Nat) (key16 : Option Nat) (c17 : Nat) (sp18 : List Value) (b39 : Nat), r 2 = .slice (ownA (some b10)) 0 0 ∧ r 7 = .slice (ownA key16) (0 + l.length) c17 ∧ (_ : Value) = .slice (ownA (some b39)) 1 1 ∧ Sl ET (some b39) ([f] : List (List (BitVec 8))) 1 ([]) ∧ Sl ET key16 l c17 sp18 ∧ Hp No w w97 [((some b39), sob ET 9 ([f] : List (List (BitVec 8))) ([])), (key16, sob ET 9 l sp18), (some b5, .cells #[.slice none 0 0, .slice none 0 0] 42 (0, 0)), (some b1, .cells #[.slice oa on oc, .slice aa l.length ac] 42 (0, 0))] from ⟨b10, key16, c17, sp18, b95, e2, e7, rfl, hS96, hS24, ((((H98.pull (k := 3) rfl).pull (k := 3) rfl).pull (k := 3) rfl).pull (k := 3) rfl)⟩)
      · skip
        have hb : List.map L [2, 7, 9, 10, 11, 12] = [true, false, false, false, false, false] := by simp only [List.map_cons, List.map_nil, b2, b7, b9, b10, b11, b12]
        rw [hb] at hF ⊢
        obtain ⟨b10, e2, hS11, H100⟩ := hF
        dsimp only
        rw [e2]
        refine Gives.ofW (d := 31) rfl rfl (fun Q' hK => ?_)
        refine q_buildSlice (E := ET) (l := ([f] : List (List (BitVec 8)))) H100 sli39 zer9 (Nat.le_of_ble_eq_true rfl) (ps := [(0, .string (strB f))]) rfl (by exact fillAll rfl rfl) rfl ?_
        intro b101 w103 hS102 H104 hE105
        exact hK _ _ (show ∃ (b10 : Nat) (b33 : Nat), r 2 = .slice (ownA (some b10)) 0 0 ∧ (_ : Value) = .slice (ownA (some b33)) 1 1 ∧ Sl ET (some b33) ([f] : List (List (BitVec 8))) 1 ([]) ∧ Sl ET (some b10) ([] : List (List (BitVec 8))) 0 ([]) ∧ Hp No w w103 [((some b33), sob ET 9 ([f] : List (List (BitVec 8))) ([])), ((some b10), sob ET 9 ([] : List (List (BitVec 8))) ([])), (some b5, .cells #[.slice none 0 0, .slice none 0 0] 42 (0, 0)), (some b1, .cells #[.slice oa on oc, .slice aa l.length ac] 42 (0, 0))] from ⟨b10, b101, e2, rfl, hS102, hS11, ((((H104.pull (k := 3) rfl).pull (k := 3) rfl).pull (k := 3) rfl).pull (k := 3) rfl)⟩)
    · skip
      rcases Bool.eq_false_or_eq_true (L 7) with b7 | b7
      · skip
        have hb : List.map L [2, 7, 9, 10, 11, 12] = [false, true, false, false, false, false] := by simp only [List.map_cons, List.map_nil, b2, b7, b9, b10, b11, b12]
        rw [hb] at hF
        exact False.elim hF
      · skip
        have hb : List.map L [2, 7, 9, 10, 11, 12] = [false, false, false, false, false, false] := by simp only [List.map_cons, List.map_nil, b2, b7, b9, b10, b11, b12]
        rw [hb] at hF ⊢
        have H106 := hF
        dsimp only
        refine Gives.ofW (d := 31) rfl rfl (fun Q' hK => ?_)
        refine q_buildSlice (E := ET) (l := ([f] : List (List (BitVec 8)))) H106 sli39 zer9 (Nat.le_of_ble_eq_true rfl) (ps := [(0, .string (strB f))]) rfl (by exact fillAll rfl rfl) rfl ?_
        intro b107 w109 hS108 H110 hE111
        exact hK _ _ (show ∃ (b27 : Nat), (_ : Value) = .slice (ownA (some b27)) 1 1 ∧ Sl ET (some b27) ([f] : List (List (BitVec 8))) 1 ([]) ∧ Hp No w w109 [((some b27), sob ET 9 ([f] : List (List (BitVec 8))) ([])), (some b5, .cells #[.slice none 0 0, .slice none 0 0] 42 (0, 0)), (some b1, .cells #[.slice oa on oc, .slice aa l.length ac] 42 (0, 0))] from ⟨b107, rfl, hS108, (((H110.pull (k := 2) rfl).pull (k := 2) rfl).pull (k := 2) rfl)⟩)
  refine WalkP.eff 3 rfl (fun L r uw hLn hAn hDn hF => ?_) ?_
  · skip
    have b2 : L 2 = true := hAn 2 (by decide) rfl
    have b7 : L 7 = true := hAn 7 (by decide) rfl
    have b9 : L 9 = true := hAn 9 (by decide) rfl
    have b10 : L 10 = false := hLn
    have b11 : L 11 = false := hDn 11 (by decide) rfl
    have b12 : L 12 = false := hDn 12 (by decide) rfl
    have hb : List.map L [2, 7, 9, 10, 11, 12] = [true, true, true, false, false, false] := by simp only [List.map_cons, List.map_nil, b2, b7, b9, b10, b11, b12]
    rw [hb] at hF ⊢
    obtain ⟨b10, key16, c17, sp18, b39, e2, e7, e9, hS40, hS24, H112⟩ := hF
    dsimp only
    rw [e2, e7, e9]
    refine Gives.ofW (d := 32) rfl rfl (fun Q' hK => ?_)
    refine q_append (E := ET) (k := 1) (l := l) (l2 := ([f] : List (List (BitVec 8)))) H112 rfl hS24 sli39 zer9 rfl byt9 (H112.rd (k := 0) rfl hS40) rfl (by exact Nat.zero_add _) rfl (by rfl) (by omega) ?_
    intro key113 c114 sp115 w117 hS116 hne119 H118
    have H118' := H118.as (L' := [((some b39), sob ET 9 ([f] : List (List (BitVec 8))) ([])), (key113, sob ET 9 (l ++ ([f] : List (List (BitVec 8)))) sp115), (some b5, .cells #[.slice none 0 0, .slice none 0 0] 42 (0, 0)), (some b1, .cells #[.slice oa on oc, .slice aa l.length ac] 42 (0, 0))]) rfl
    clear H118
    exact hK _ _ (show ∃ (b10 : Nat) (key16 : Option Nat) (c17 : Nat) (b39 : Nat) (key45 : Option Nat) (c46 : Nat) (sp47 : List Value), r 2 = .slice (ownA (some b10)) 0 0 ∧ r 7 = .slice (ownA key16) (0 + l.length) c17 ∧ r 9 = .slice (ownA (some b39)) 1 1 ∧ (_ : Value) = .slice (ownA key45) ((0 + l.length) + 1) c46 ∧ Sl ET (some b39) ([f] : List (List (BitVec 8))) 1 ([]) ∧ Sl ET key45 (l ++ ([f] : List (List (BitVec 8)))) c46 sp47 ∧ Hp No w w117 [((some b39), sob ET 9 ([f] : List (List (BitVec 8))) ([])), (key45, sob ET 9 (l ++ ([f] : List (List (BitVec 8)))) sp47), (some b5, .cells #[.slice none 0 0, .slice none 0 0] 42 (0, 0)), (some b1, .cells #[.slice oa on oc, .slice aa l.length ac] 42 (0, 0))] from ⟨b10, key16, c17, b39, key113, c114, sp115, e2, e7, e9, rfl, hS40, hS116, ((((H118'.pull (k := 3) rfl).pull (k := 3) rfl).pull (k := 3) rfl).pull (k := 3) rfl)⟩)
  refine WalkP.eff 4 rfl (fun L r uw hLn hAn hDn hF => ?_) ?_
  · skip
    have b2 : L 2 = true := hAn 2 (by decide) rfl
    have b7 : L 7 = true := hAn 7 (by decide) rfl
    have b9 : L 9 = true := hAn 9 (by decide) rfl
    have b10 : L 10 = true := hAn 10 (by decide) rfl
    have b11 : L 11 = false := hLn
    have b12 : L 12 = false := hDn 12 (by decide) rfl
    have hb : List.map L [2, 7, 9, 10, 11, 12] = [true, true, true, true, false, false] := by simp only [List.map_cons, List.map_nil, b2, b7, b9, b10, b11, b12]
    rw [hb] at hF ⊢
    obtain ⟨b10, key16, c17, b39, key45, c46, sp47, e2, e7, e9, e10, hS40, hS48, H120⟩ := hF
    dsimp only
    rw [e2, e7, e9, e10]
    refine Gives.ofW (d := 33) rfl rfl (fun Q' hK => ?_)
    refine c_call (vs := [.agg #[.slice oa on oc, .slice aa l.length ac], i64 ((1 : Int)), .slice (ownA key45) ((0 + l.length) + 1) c46]) call40 rfl (rput_1 aa oa (ownA key45) l.length ac on oc ((0 + l.length) + 1) c46 uw) ?_
    rintro _ w121 ⟨rfl, hE122⟩
    have H123 := H120.ext hE122
    exact hK _ _ (show ∃ (b10 : Nat) (key16 : Option Nat) (c17 : Nat) (b39 : Nat) (key45 : Option Nat) (c46 : Nat) (sp47 : List Value), r 2 = .slice (ownA (some b10)) 0 0 ∧ r 7 = .slice (ownA key16) (0 + l.length) c17 ∧ r 9 = .slice (ownA (some b39)) 1 1 ∧ r 10 = .slice (ownA key45) ((0 + l.length) + 1) c46 ∧ (_ : Value) = .agg #[.slice oa on oc, .slice (ownA key45) ((0 + l.length) + 1) c46] ∧ Sl ET (some b39) ([f] : List (List (BitVec 8))) 1 ([]) ∧ Sl ET key45 (l ++ ([f] : List (List (BitVec 8)))) c46 sp47 ∧ Hp No w w121 [((some b39), sob ET 9 ([f] : List (List (BitVec 8))) ([])), (key45, sob ET 9 (l ++ ([f] : List (List (BitVec 8)))) sp47), (some b5, .cells #[.slice none 0 0, .slice none 0 0] 42 (0, 0)), (some b1, .cells #[.slice oa on oc, .slice aa l.length ac] 42 (0, 0))] from ⟨b10, key16, c17, b39, key45, c46, sp47, e2, e7, e9, e10, rfl, hS40, hS48, ((((H123.pull (k := 3) rfl).pull (k := 3) rfl).pull (k := 3) rfl).pull (k := 3) rfl)⟩)
  refine WalkP.eff 5 rfl (fun L r uw hLn hAn hDn hF => ?_) ?_
  · skip
    have b2 : L 2 = true := hAn 2 (by decide) rfl
    have b7 : L 7 = true := hAn 7 (by decide) rfl
    have b9 : L 9 = true := hAn 9 (by decide) rfl
    have b10 : L 10 = true := hAn 10 (by decide) rfl
    have b11 : L 11 = true := hAn 11 (by decide) rfl
    have b12 : L 12 = false := hLn
    have hb : List.map L [2, 7, 9, 10, 11, 12] = [true, true, true, true, true, false] := by simp only [List.map_cons, List.map_nil, b2, b7, b9, b10, b11, b12]
    rw [hb] at hF ⊢
    obtain ⟨b10, key16, c17, b39, key45, c46, sp47, e2, e7, e9, e10, e11, hS40, hS48, H124⟩ := hF
    dsimp only
    rw [e2, e7, e9, e10, e11]
    refine Gives.ofW0 rfl (fun Q' hK => ?_)
    refine d_store (k := 2) (v := .agg #[.slice oa on oc, .slice (ownA key45) ((0 + l.length) + 1) c46]) (cs' := #[.slice oa on oc, .slice (ownA key45) ((0 + l.length) + 1) c46]) H124 rfl rfl rfl siz42 (by rfl) (by intro u hu; simp [Value.cells] at hu; first | (subst hu; rfl) | (rcases hu with rfl | rfl <;> rfl)) (by exact Nat.le_of_ble_eq_true rfl) (by rfl) ?_
    intro w125 H126 hC127
    have H126' := H126.as (L' := [((some b39), sob ET 9 ([f] : List (List (BitVec 8))) ([])), (key45, sob ET 9 (l ++ ([f] : List (List (BitVec 8)))) sp47), (some b5, .cells #[.slice oa on oc, .slice (ownA key45) ((0 + l.length) + 1) c46] 42 (0, 0)), (some b1, .cells #[.slice oa on oc, .slice aa l.length ac] 42 (0, 0))]) rfl
    clear H126
    exact hK _ (fun _ => (show ∃ (b10 : Nat) (key16 : Option Nat) (c17 : Nat) (b39 : Nat) (key45 : Option Nat) (c46 : Nat) (sp47 : List Value), r 2 = .slice (ownA (some b10)) 0 0 ∧ r 7 = .slice (ownA key16) (0 + l.length) c17 ∧ r 9 = .slice (ownA (some b39)) 1 1 ∧ r 10 = .slice (ownA key45) ((0 + l.length) + 1) c46 ∧ r 11 = .agg #[.slice oa on oc, .slice (ownA key45) ((0 + l.length) + 1) c46] ∧ Sl ET (some b39) ([f] : List (List (BitVec 8))) 1 ([]) ∧ Sl ET key45 (l ++ ([f] : List (List (BitVec 8)))) c46 sp47 ∧ Hp No w w125 [((some b39), sob ET 9 ([f] : List (List (BitVec 8))) ([])), (key45, sob ET 9 (l ++ ([f] : List (List (BitVec 8)))) sp47), (some b5, .cells #[.slice oa on oc, .slice (ownA key45) ((0 + l.length) + 1) c46] 42 (0, 0)), (some b1, .cells #[.slice oa on oc, .slice aa l.length ac] 42 (0, 0))] from ⟨b10, key16, c17, b39, key45, c46, sp47, e2, e7, e9, e10, e11, hS40, hS48, ((((H126'.pull (k := 3) rfl).pull (k := 3) rfl).pull (k := 3) rfl).pull (k := 3) rfl)⟩))
  refine WalkP.look rfl (fun _ => i64 ((0 : Int))) (fun _ _ _ => rfl) (fun L r uw _ _ _ => Gives.run rfl (r_assign (v := i64 ((0 : Int))) rfl) ⟨rfl, rfl⟩) ?_
  refine WalkP.nil ?_
  intro r128 w129 hF
  obtain ⟨b10, key16, c17, b39, key45, c46, sp47, e2, e7, e9, e10, e11, hS40, hS48, H130⟩ := hF
  dsimp only
  rw [e2, e7, e9, e10, e11]
  refine wnil ?_
  refine thenNormal ?_
  refine retAny ?_
  refine retG (rs := [.cell 6 42, .tmp 7]) (vs := [.agg #[.slice oa on oc, .slice (ownA key45) ((0 + l.length) + 1) c46], i64 ((0 : Int))]) rfl ⟨r_loadA (cs' := #[.slice oa on oc, .slice (ownA key45) ((0 + l.length) + 1) c46]) agg42 siz42 (H130.get (k := 2) rfl) (off := 0) rfl (by exact Nat.le_of_ble_eq_true rfl) (by rfl), ⟨rfl, rfl⟩, trivial⟩ ?_
  refine ⟨_, rfl, ⟨key45, c46, sp47, ?_, hS48, fun g hg => ⟨((H130.own _ (List.mem_of_getElem? (i := 1) rfl) g hg).resolve_left (fun h => h)), H130.has _ (List.mem_of_getElem? (i := 1) rfl) g hg⟩⟩, H130.chg⟩
  rw [show (l ++ ([f] : List (List (BitVec 8)))).length = (0 + l.length) + 1 from by rw [List.length_append, List.length_singleton, Nat.zero_add]]; rfl

theorem rsend_full_0 (l : List (List (BitVec 8))) (aa oa : Option Addr) (ac on oc : Nat) (w : World) (f : List (BitVec 8)) (hlen : 64 ≤ l.length) : Calls Tryd.prog 46 [.agg #[.slice aa l.length ac, .slice oa on oc], i64 ((0 : Int)), .string (strB f)].toArray w (Ret fun v w' => v = .tuple #[.agg #[.slice aa l.length ac, .slice oa on oc], i64 (5 : Int)] ∧ Ext w w') := by
  have H := Hp.start No w
  refine enter (n := 34) Tryd.func46 rfl rfl (Nat.le_of_ble_eq_true rfl) ?_
  refine seqRegion ?_
  refine q_box (v := .agg #[.slice aa l.length ac, .slice oa on oc]) (o := .cells #[.slice aa l.length ac, .slice oa on oc] 42 (0, 0)) H rfl (by rfl) ?_
  intro b1 w2 hb1 H3 hE4
  refine q_alloc (o := .cells #[.slice none 0 0, .slice none 0 0] 42 (0, 0)) H3 zer42 (by kernel_rfl) ?_
  intro b5 w6 hb5 H7 hE8
  refine sq (r_assign (v := i64 ((0 : Int))) rfl) ?_
  refine wend ?_
  refine seqAny ?_
  refine seqRegion ?_
  refine sq (r_move (v := i64 ((0 : Int))) rfl) ?_
  refine sq ((r_lssI (a := (0 : Int)) (b := (0 : Int)) rfl rfl).as (v' := .bool (false)) (by rfl)) ?_
  refine sq (r_move (v := .bool (false)) rfl) ?_
  refine sqAny (v := i64 ((0 : Int))) (w' := w6) (wantedSome (d' := 10) (b := false) rfl rfl rfl) (r_move (v := i64 ((0 : Int))) rfl) ?_
  refine sqAny (v := .bool (false)) (w' := w6) (wantedSome (d' := 10) (b := false) rfl rfl rfl) ((r_gtrI (a := (0 : Int)) (b := (1 : Int)) rfl rfl).as (v' := .bool (false)) (by rfl)) ?_
  refine sq (r_pickF (v := .bool (false)) rfl rfl) ?_
  refine wend ?_
  refine condFalse rfl ?_
  refine skipAny ?_
  refine thenNormal ?_
  refine seqAny ?_
  refine seqRegion ?_
  refine sq (r_move (v := i64 ((0 : Int))) rfl) ?_
  refine sq (r_fieldAddr (off' := 0) fld42_0 (by decide) (b := b1) (off := 0) rfl (by omega)) ?_
  refine sq (r_indexA (off' := 0) (j := 0) arr40 (b := b1) (off := 0) rfl rfl (by first | rfl | omega | (simp; omega)) (by omega) (by omega)) ?_
  refine sq (r_loadC (v := .slice aa l.length ac) one39 (H7.get (k := 1) rfl) (off := 0) rfl (by rfl)) ?_
  refine sq (r_lenS sli39 (a := aa) (m := l.length) (c := ac) rfl) ?_
  refine sq ((r_geqI (a := (l.length : Nat)) (b := (64 : Int)) rfl rfl).as (v' := .bool (true)) (by exact congrArg Value.bool (decide_eq_true (by omega)))) ?_
  refine wend ?_
  refine condTrue rfl ?_
  refine seqRegion ?_
  refine sq (r_loadA (cs' := #[.slice aa l.length ac, .slice oa on oc]) agg42 siz42 (H7.get (k := 1) rfl) (off := 0) rfl (by exact Nat.le_of_ble_eq_true rfl) (by rfl)) ?_
  refine d_store (k := 0) (v := .agg #[.slice aa l.length ac, .slice oa on oc]) (cs' := #[.slice aa l.length ac, .slice oa on oc]) H7 rfl rfl rfl siz42 (by rfl) (by intro u hu; simp [Value.cells] at hu; first | (subst hu; rfl) | (rcases hu with rfl | rfl <;> rfl)) (by exact Nat.le_of_ble_eq_true rfl) (by rfl) ?_
  intro w9 H10 hC11
  have H10' := H10.as (L' := [(some b5, .cells #[.slice aa l.length ac, .slice oa on oc] 42 (0, 0)), (some b1, .cells #[.slice aa l.length ac, .slice oa on oc] 42 (0, 0))]) rfl
  clear H10
  refine sq (r_assign (v := i64 ((5 : Int))) rfl) ?_
  refine wend ?_
  refine retAny ?_
  refine thenRet ?_
  refine retG (rs := [.cell 6 42, .tmp 7]) (vs := [.agg #[.slice aa l.length ac, .slice oa on oc], i64 ((5 : Int))]) rfl ⟨r_loadA (cs' := #[.slice aa l.length ac, .slice oa on oc]) agg42 siz42 (H10'.get (k := 0) rfl) (off := 0) rfl (by exact Nat.le_of_ble_eq_true rfl) (by rfl), ⟨rfl, rfl⟩, trivial⟩ ?_
  exact ⟨_, rfl, rfl, H10'.chg⟩

theorem rsend_full_1 (l : List (List (BitVec 8))) (aa oa : Option Addr) (ac on oc : Nat) (w : World) (f : List (BitVec 8)) (hlen : 64 ≤ l.length) : Calls Tryd.prog 46 [.agg #[.slice oa on oc, .slice aa l.length ac], i64 ((1 : Int)), .string (strB f)].toArray w (Ret fun v w' => v = .tuple #[.agg #[.slice oa on oc, .slice aa l.length ac], i64 (5 : Int)] ∧ Ext w w') := by
  have H := Hp.start No w
  refine enter (n := 34) Tryd.func46 rfl rfl (Nat.le_of_ble_eq_true rfl) ?_
  refine seqRegion ?_
  refine q_box (v := .agg #[.slice oa on oc, .slice aa l.length ac]) (o := .cells #[.slice oa on oc, .slice aa l.length ac] 42 (0, 0)) H rfl (by rfl) ?_
  intro b1 w2 hb1 H3 hE4
  refine q_alloc (o := .cells #[.slice none 0 0, .slice none 0 0] 42 (0, 0)) H3 zer42 (by kernel_rfl) ?_
  intro b5 w6 hb5 H7 hE8
  refine sq (r_assign (v := i64 ((0 : Int))) rfl) ?_
  refine wend ?_
  refine seqAny ?_
  refine seqRegion ?_
  refine sq (r_move (v := i64 ((1 : Int))) rfl) ?_
  refine sq ((r_lssI (a := (1 : Int)) (b := (0 : Int)) rfl rfl).as (v' := .bool (false)) (by rfl)) ?_
  refine sq (r_move (v := .bool (false)) rfl) ?_
  refine sqAny (v := i64 ((1 : Int))) (w' := w6) (wantedSome (d' := 10) (b := false) rfl rfl rfl) (r_move (v := i64 ((1 : Int))) rfl) ?_
  refine sqAny (v := .bool (false)) (w' := w6) (wantedSome (d' := 10) (b := false) rfl rfl rfl) ((r_gtrI (a := (1 : Int)) (b := (1 : Int)) rfl rfl).as (v' := .bool (false)) (by rfl)) ?_
  refine sq (r_pickF (v := .bool (false)) rfl rfl) ?_
  refine wend ?_
  refine condFalse rfl ?_
  refine skipAny ?_
  refine thenNormal ?_
  refine seqAny ?_
  refine seqRegion ?_
  refine sq (r_move (v := i64 ((1 : Int))) rfl) ?_
  refine sq (r_fieldAddr (off' := 0) fld42_0 (by decide) (b := b1) (off := 0) rfl (by omega)) ?_
  refine sq (r_indexA (off' := 1) (j := 1) arr40 (b := b1) (off := 0) rfl rfl (by first | rfl | omega | (simp; omega)) (by omega) (by omega)) ?_
  refine sq (r_loadC (v := .slice aa l.length ac) one39 (H7.get (k := 1) rfl) (off := 1) rfl (by rfl)) ?_
  refine sq (r_lenS sli39 (a := aa) (m := l.length) (c := ac) rfl) ?_
  refine sq ((r_geqI (a := (l.length : Nat)) (b := (64 : Int)) rfl rfl).as (v' := .bool (true)) (by exact congrArg Value.bool (decide_eq_true (by omega)))) ?_
  refine wend ?_
  refine condTrue rfl ?_
  refine seqRegion ?_
  refine sq (r_loadA (cs' := #[.slice oa on oc, .slice aa l.length ac]) agg42 siz42 (H7.get (k := 1) rfl) (off := 0) rfl (by exact Nat.le_of_ble_eq_true rfl) (by rfl)) ?_
  refine d_store (k := 0) (v := .agg #[.slice oa on oc, .slice aa l.length ac]) (cs' := #[.slice oa on oc, .slice aa l.length ac]) H7 rfl rfl rfl siz42 (by rfl) (by intro u hu; simp [Value.cells] at hu; first | (subst hu; rfl) | (rcases hu with rfl | rfl <;> rfl)) (by exact Nat.le_of_ble_eq_true rfl) (by rfl) ?_
  intro w9 H10 hC11
  have H10' := H10.as (L' := [(some b5, .cells #[.slice oa on oc, .slice aa l.length ac] 42 (0, 0)), (some b1, .cells #[.slice oa on oc, .slice aa l.length ac] 42 (0, 0))]) rfl
  clear H10
  refine sq (r_assign (v := i64 ((5 : Int))) rfl) ?_
  refine wend ?_
  refine retAny ?_
  refine thenRet ?_
  refine retG (rs := [.cell 6 42, .tmp 7]) (vs := [.agg #[.slice oa on oc, .slice aa l.length ac], i64 ((5 : Int))]) rfl ⟨r_loadA (cs' := #[.slice oa on oc, .slice aa l.length ac]) agg42 siz42 (H10'.get (k := 0) rfl) (off := 0) rfl (by exact Nat.le_of_ble_eq_true rfl) (by rfl), ⟨rfl, rfl⟩, trivial⟩ ?_
  exact ⟨_, rfl, rfl, H10'.chg⟩

theorem rsend_range (aa oa : Option Addr) (an ac on oc : Nat) (w : World) (way : Int) (h0 : way ≠ 0) (h1 : way ≠ 1) (f : List (BitVec 8)) : Calls Tryd.prog 46 [.agg #[.slice aa an ac, .slice oa on oc], i64 (way), .string (strB f)].toArray w (Ret fun v w' => v = .tuple #[.agg #[.slice aa an ac, .slice oa on oc], i64 (1 : Int)] ∧ Ext w w') := by
  have H := Hp.start No w
  refine enter (n := 34) Tryd.func46 rfl rfl (Nat.le_of_ble_eq_true rfl) ?_
  refine seqRegion ?_
  refine q_box (v := .agg #[.slice aa an ac, .slice oa on oc]) (o := .cells #[.slice aa an ac, .slice oa on oc] 42 (0, 0)) H rfl (by rfl) ?_
  intro b1 w2 hb1 H3 hE4
  refine q_alloc (o := .cells #[.slice none 0 0, .slice none 0 0] 42 (0, 0)) H3 zer42 (by kernel_rfl) ?_
  intro b5 w6 hb5 H7 hE8
  refine sq (r_assign (v := i64 ((0 : Int))) rfl) ?_
  refine wend ?_
  refine seqAny ?_
  refine seqRegion ?_
  refine sq (r_move (v := i64 (way)) rfl) ?_
  refine sq (r_lssI (a := way) (b := (0 : Int)) rfl rfl) ?_
  refine sq (r_move (v := .bool (decide ((way : Int) < (0 : Int)))) rfl) ?_
  by_cases g9 : (way : Int) < (0 : Int)
  · skip
    refine skAny (wantedSome (d' := 10) (b := true) rfl rfl (congrArg Value.bool (decide_eq_true g9))) ?_
    refine skAny (wantedSome (d' := 10) (b := true) rfl rfl (congrArg Value.bool (decide_eq_true g9))) ?_
    refine sq (r_pickT (u := .bool (true)) (congrArg Value.bool (decide_eq_true g9)) rfl) ?_
    refine wend ?_
    refine condTrue rfl ?_
    refine seqRegion ?_
    refine sq (r_loadA (cs' := #[.slice aa an ac, .slice oa on oc]) agg42 siz42 (H7.get (k := 1) rfl) (off := 0) rfl (by exact Nat.le_of_ble_eq_true rfl) (by rfl)) ?_
    refine d_store (k := 0) (v := .agg #[.slice aa an ac, .slice oa on oc]) (cs' := #[.slice aa an ac, .slice oa on oc]) H7 rfl rfl rfl siz42 (by rfl) (by intro u hu; simp [Value.cells] at hu; first | (subst hu; rfl) | (rcases hu with rfl | rfl <;> rfl)) (by exact Nat.le_of_ble_eq_true rfl) (by rfl) ?_
    intro w10 H11 hC12
    have H11' := H11.as (L' := [(some b5, .cells #[.slice aa an ac, .slice oa on oc] 42 (0, 0)), (some b1, .cells #[.slice aa an ac, .slice oa on oc] 42 (0, 0))]) rfl
    clear H11
    refine sq (r_assign (v := i64 ((1 : Int))) rfl) ?_
    refine wend ?_
    refine retAny ?_
    refine thenRet ?_
    refine retG (rs := [.cell 6 42, .tmp 7]) (vs := [.agg #[.slice aa an ac, .slice oa on oc], i64 ((1 : Int))]) rfl ⟨r_loadA (cs' := #[.slice aa an ac, .slice oa on oc]) agg42 siz42 (H11'.get (k := 0) rfl) (off := 0) rfl (by exact Nat.le_of_ble_eq_true rfl) (by rfl), ⟨rfl, rfl⟩, trivial⟩ ?_
    exact ⟨_, rfl, rfl, H11'.chg⟩
  · skip
    refine sqAny (v := i64 (way)) (w' := w6) (wantedSome (d' := 10) (b := false) rfl rfl (congrArg Value.bool (decide_eq_false g9))) (r_move (v := i64 (way)) rfl) ?_
    refine sqAny (v := .bool (true)) (w' := w6) (wantedSome (d' := 10) (b := false) rfl rfl (congrArg Value.bool (decide_eq_false g9))) ((r_gtrI (a := way) (b := (1 : Int)) rfl rfl).as (v' := .bool (true)) (by exact congrArg Value.bool (decide_eq_true (by omega)))) ?_
    refine sq (r_pickF (v := .bool (true)) (congrArg Value.bool (decide_eq_false g9)) rfl) ?_
    refine wend ?_
    refine condTrue rfl ?_
    refine seqRegion ?_
    refine sq (r_loadA (cs' := #[.slice aa an ac, .slice oa on oc]) agg42 siz42 (H7.get (k := 1) rfl) (off := 0) rfl (by exact Nat.le_of_ble_eq_true rfl) (by rfl)) ?_
    refine d_store (k := 0) (v := .agg #[.slice aa an ac, .slice oa on oc]) (cs' := #[.slice aa an ac, .slice oa on oc]) H7 rfl rfl rfl siz42 (by rfl) (by intro u hu; simp [Value.cells] at hu; first | (subst hu; rfl) | (rcases hu with rfl | rfl <;> rfl)) (by exact Nat.le_of_ble_eq_true rfl) (by rfl) ?_
    intro w13 H14 hC15
    have H14' := H14.as (L' := [(some b5, .cells #[.slice aa an ac, .slice oa on oc] 42 (0, 0)), (some b1, .cells #[.slice aa an ac, .slice oa on oc] 42 (0, 0))]) rfl
    clear H14
    refine sq (r_assign (v := i64 ((1 : Int))) rfl) ?_
    refine wend ?_
    refine retAny ?_
    refine thenRet ?_
    refine retG (rs := [.cell 6 42, .tmp 7]) (vs := [.agg #[.slice aa an ac, .slice oa on oc], i64 ((1 : Int))]) rfl ⟨r_loadA (cs' := #[.slice aa an ac, .slice oa on oc]) agg42 siz42 (H14'.get (k := 0) rfl) (off := 0) rfl (by exact Nat.le_of_ble_eq_true rfl) (by rfl), ⟨rfl, rfl⟩, trivial⟩ ?_
    exact ⟨_, rfl, rfl, H14'.chg⟩
end Go.Proofs.YtpmmhpgfbfehmaaDoor.Nt
