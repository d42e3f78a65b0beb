/- The walks of the nets. -/
import Derived.Test.YtpmmhpgfbfehmaaDoorNet7
namespace Go.Proofs.YtpmmhpgfbfehmaaDoor.Nt
open Go Go.Proofs.YtpmmhpgfbfehmaaDoor.Vc Go.Proofs.YtpmmhpgfbfehmaaDoor.Er
theorem call39 : callable Tryd.prog 39 = true := by kernel_rfl
theorem call46 : callable Tryd.prog 46 = true := by kernel_rfl
theorem siz9 : siz Tryd.prog 9 = some 1 := by kernel_rfl
theorem call22 : callable Tryd.prog 22 = true := by kernel_rfl
theorem pls42 : pls Tryd.prog 42 = some #[(0, 2)] := by kernel_rfl
theorem zer40 : zer Tryd.prog 40 = some (.agg (List.replicate 2 (.slice none 0 0)).toArray) := by kernel_rfl
theorem rdeliver_miss_0 (l : List (List (BitVec 8))) (aa oa : Option Addr) (ac on oc : Nat) (w : World) (i : Int) (hi : i < 0 ∨ (l.length : Int) ≤ i) : Calls Tryd.prog 47 [.agg #[.slice aa l.length ac, .slice oa on oc], i64 ((0 : Int)), i64 (i)].toArray w (Ret fun v w' => v = .tuple #[.agg #[.slice aa l.length ac, .slice oa on oc], .string (strB []), i64 (4 : Int)] ∧ Ext w w') := by
  have H := Hp.start No w
  refine enter (n := 45) Tryd.func47 rfl rfl (Nat.le_of_ble_eq_true rfl) ?_
  refine seqRegion ?_
  refine q_box (v := .agg #[.slice aa l.length ac, .slice oa on oc]) (o := .cells #[.slice aa l.length ac, .slice oa on oc] 42 (0, 0)) H rfl (by rfl) ?_
  intro b1 w2 hb1 H3 hE4
  refine q_alloc (o := .cells #[.slice none 0 0, .slice none 0 0] 42 (0, 0)) H3 zer42 (by kernel_rfl) ?_
  intro b5 w6 hb5 H7 hE8
  refine sq (r_assign (v := .string ({data := #[]})) rfl) ?_
  refine sq (r_assign (v := i64 ((0 : Int))) rfl) ?_
  refine wend ?_
  refine seqRegion ?_
  refine sq (r_loadA (cs' := #[.slice aa l.length ac, .slice oa on oc]) agg42 siz42 (H7.get (k := 1) rfl) (off := 0) rfl (by exact Nat.le_of_ble_eq_true rfl) (by rfl)) ?_
  refine sq (r_move (v := i64 ((0 : Int))) rfl) ?_
  refine sq (r_move (v := i64 (i)) rfl) ?_
  refine c_call (vs := [.agg #[.slice aa l.length ac, .slice oa on oc], i64 ((0 : Int)), i64 (i)]) call39 rfl (rat_miss_0 l aa oa ac on oc w6 i hi) ?_
  rintro _ w9 ⟨rfl, hE10⟩
  have H11 := H7.ext hE10
  refine sq (r_move (v := .tuple #[.string (strB []), i64 ((4 : Int))]) rfl) ?_
  refine sq (r_extract (vs := #[.string (strB []), i64 ((4 : Int))]) rfl rfl) ?_
  refine sq (r_extract (vs := #[.string (strB []), i64 ((4 : Int))]) rfl rfl) ?_
  refine sq (r_assign (v := .string (strB [])) rfl) ?_
  refine sq (r_assign (v := i64 ((4 : Int))) rfl) ?_
  refine wend ?_
  refine seqAny ?_
  refine seqRegion ?_
  refine sq (r_move (v := i64 ((4 : Int))) rfl) ?_
  refine sq ((r_neqI (a := (4 : Int)) (b := (0 : Int)) rfl rfl).as (v' := .bool (true)) (by rfl)) ?_
  refine wend ?_
  refine condTrue rfl ?_
  refine seqRegion ?_
  refine sq (r_loadA (cs' := #[.slice aa l.length ac, .slice oa on oc]) agg42 siz42 (H11.get (k := 1) rfl) (off := 0) rfl (by exact Nat.le_of_ble_eq_true rfl) (by rfl)) ?_
  refine sq (r_move (v := i64 ((4 : Int))) rfl) ?_
  refine d_store (k := 0) (v := .agg #[.slice aa l.length ac, .slice oa on oc]) (cs' := #[.slice aa l.length ac, .slice oa on oc]) H11 rfl rfl rfl siz42 (by rfl) (by intro u hu; simp [Value.cells] at hu; first | (subst hu; rfl) | (rcases hu with rfl | rfl <;> rfl)) (by exact Nat.le_of_ble_eq_true rfl) (by rfl) ?_
  intro w12 H13 hC14
  have H13' := H13.as (L' := [(some b5, .cells #[.slice aa l.length ac, .slice oa on oc] 42 (0, 0)), (some b1, .cells #[.slice aa l.length ac, .slice oa on oc] 42 (0, 0))]) rfl
  clear H13
  refine sq (r_assign (v := .string ({data := #[]})) rfl) ?_
  refine sq (r_assign (v := i64 ((4 : Int))) rfl) ?_
  refine wend ?_
  refine retAny ?_
  refine thenRet ?_
  refine retG (rs := [.cell 6 42, .tmp 7, .tmp 8]) (vs := [.agg #[.slice aa l.length ac, .slice oa on oc], .string ({data := #[]}), i64 ((4 : Int))]) rfl ⟨r_loadA (cs' := #[.slice aa l.length ac, .slice oa on oc]) agg42 siz42 (H13'.get (k := 0) rfl) (off := 0) rfl (by exact Nat.le_of_ble_eq_true rfl) (by rfl), ⟨rfl, rfl⟩, ⟨rfl, rfl⟩, trivial⟩ ?_
  exact ⟨_, rfl, rfl, H13'.chg⟩

theorem rdeliver_miss_1 (l : List (List (BitVec 8))) (aa oa : Option Addr) (ac on oc : Nat) (w : World) (i : Int) (hi : i < 0 ∨ (l.length : Int) ≤ i) : Calls Tryd.prog 47 [.agg #[.slice oa on oc, .slice aa l.length ac], i64 ((1 : Int)), i64 (i)].toArray w (Ret fun v w' => v = .tuple #[.agg #[.slice oa on oc, .slice aa l.length ac], .string (strB []), i64 (4 : Int)] ∧ Ext w w') := by
  have H := Hp.start No w
  refine enter (n := 45) Tryd.func47 rfl rfl (Nat.le_of_ble_eq_true rfl) ?_
  refine seqRegion ?_
  refine q_box (v := .agg #[.slice oa on oc, .slice aa l.length ac]) (o := .cells #[.slice oa on oc, .slice aa l.length ac] 42 (0, 0)) H rfl (by rfl) ?_
  intro b1 w2 hb1 H3 hE4
  refine q_alloc (o := .cells #[.slice none 0 0, .slice none 0 0] 42 (0, 0)) H3 zer42 (by kernel_rfl) ?_
  intro b5 w6 hb5 H7 hE8
  refine sq (r_assign (v := .string ({data := #[]})) rfl) ?_
  refine sq (r_assign (v := i64 ((0 : Int))) rfl) ?_
  refine wend ?_
  refine seqRegion ?_
  refine sq (r_loadA (cs' := #[.slice oa on oc, .slice aa l.length ac]) agg42 siz42 (H7.get (k := 1) rfl) (off := 0) rfl (by exact Nat.le_of_ble_eq_true rfl) (by rfl)) ?_
  refine sq (r_move (v := i64 ((1 : Int))) rfl) ?_
  refine sq (r_move (v := i64 (i)) rfl) ?_
  refine c_call (vs := [.agg #[.slice oa on oc, .slice aa l.length ac], i64 ((1 : Int)), i64 (i)]) call39 rfl (rat_miss_1 l aa oa ac on oc w6 i hi) ?_
  rintro _ w9 ⟨rfl, hE10⟩
  have H11 := H7.ext hE10
  refine sq (r_move (v := .tuple #[.string (strB []), i64 ((4 : Int))]) rfl) ?_
  refine sq (r_extract (vs := #[.string (strB []), i64 ((4 : Int))]) rfl rfl) ?_
  refine sq (r_extract (vs := #[.string (strB []), i64 ((4 : Int))]) rfl rfl) ?_
  refine sq (r_assign (v := .string (strB [])) rfl) ?_
  refine sq (r_assign (v := i64 ((4 : Int))) rfl) ?_
  refine wend ?_
  refine seqAny ?_
  refine seqRegion ?_
  refine sq (r_move (v := i64 ((4 : Int))) rfl) ?_
  refine sq ((r_neqI (a := (4 : Int)) (b := (0 : Int)) rfl rfl).as (v' := .bool (true)) (by rfl)) ?_
  refine wend ?_
  refine condTrue rfl ?_
  refine seqRegion ?_
  refine sq (r_loadA (cs' := #[.slice oa on oc, .slice aa l.length ac]) agg42 siz42 (H11.get (k := 1) rfl) (off := 0) rfl (by exact Nat.le_of_ble_eq_true rfl) (by rfl)) ?_
  refine sq (r_move (v := i64 ((4 : Int))) rfl) ?_
  refine d_store (k := 0) (v := .agg #[.slice oa on oc, .slice aa l.length ac]) (cs' := #[.slice oa on oc, .slice aa l.length ac]) H11 rfl rfl rfl siz42 (by rfl) (by intro u hu; simp [Value.cells] at hu; first | (subst hu; rfl) | (rcases hu with rfl | rfl <;> rfl)) (by exact Nat.le_of_ble_eq_true rfl) (by rfl) ?_
  intro w12 H13 hC14
  have H13' := H13.as (L' := [(some b5, .cells #[.slice oa on oc, .slice aa l.length ac] 42 (0, 0)), (some b1, .cells #[.slice oa on oc, .slice aa l.length ac] 42 (0, 0))]) rfl
  clear H13
  refine sq (r_assign (v := .string ({data := #[]})) rfl) ?_
  refine sq (r_assign (v := i64 ((4 : Int))) rfl) ?_
  refine wend ?_
  refine retAny ?_
  refine thenRet ?_
  refine retG (rs := [.cell 6 42, .tmp 7, .tmp 8]) (vs := [.agg #[.slice oa on oc, .slice aa l.length ac], .string ({data := #[]}), i64 ((4 : Int))]) rfl ⟨r_loadA (cs' := #[.slice oa on oc, .slice aa l.length ac]) agg42 siz42 (H13'.get (k := 0) rfl) (off := 0) rfl (by exact Nat.le_of_ble_eq_true rfl) (by rfl), ⟨rfl, rfl⟩, ⟨rfl, rfl⟩, trivial⟩ ?_
  exact ⟨_, rfl, rfl, H13'.chg⟩

theorem rdeliver_range (aa oa : Option Addr) (an ac on oc : Nat) (w : World) (way : Int) (h0 : way ≠ 0) (h1 : way ≠ 1) (i : Int) : Calls Tryd.prog 47 [.agg #[.slice aa an ac, .slice oa on oc], i64 (way), i64 (i)].toArray w (Ret fun v w' => v = .tuple #[.agg #[.slice aa an ac, .slice oa on oc], .string (strB []), i64 (1 : Int)] ∧ Ext w w') := by
  have H := Hp.start No w
  refine enter (n := 45) Tryd.func47 rfl rfl (Nat.le_of_ble_eq_true rfl) ?_
  refine seqRegion ?_
  refine q_box (v := .agg #[.slice aa an ac, .slice oa on oc]) (o := .cells #[.slice aa an ac, .slice oa on oc] 42 (0, 0)) H rfl (by rfl) ?_
  intro b1 w2 hb1 H3 hE4
  refine q_alloc (o := .cells #[.slice none 0 0, .slice none 0 0] 42 (0, 0)) H3 zer42 (by kernel_rfl) ?_
  intro b5 w6 hb5 H7 hE8
  refine sq (r_assign (v := .string ({data := #[]})) rfl) ?_
  refine sq (r_assign (v := i64 ((0 : Int))) rfl) ?_
  refine wend ?_
  refine seqRegion ?_
  refine sq (r_loadA (cs' := #[.slice aa an ac, .slice oa on oc]) agg42 siz42 (H7.get (k := 1) rfl) (off := 0) rfl (by exact Nat.le_of_ble_eq_true rfl) (by rfl)) ?_
  refine sq (r_move (v := i64 (way)) rfl) ?_
  refine sq (r_move (v := i64 (i)) rfl) ?_
  refine c_call (vs := [.agg #[.slice aa an ac, .slice oa on oc], i64 (way), i64 (i)]) call39 rfl (rat_range aa oa an ac on oc w6 way h0 h1 i) ?_
  rintro _ w9 ⟨rfl, hE10⟩
  have H11 := H7.ext hE10
  refine sq (r_move (v := .tuple #[.string (strB []), i64 ((1 : Int))]) rfl) ?_
  refine sq (r_extract (vs := #[.string (strB []), i64 ((1 : Int))]) rfl rfl) ?_
  refine sq (r_extract (vs := #[.string (strB []), i64 ((1 : Int))]) rfl rfl) ?_
  refine sq (r_assign (v := .string (strB [])) rfl) ?_
  refine sq (r_assign (v := i64 ((1 : Int))) rfl) ?_
  refine wend ?_
  refine seqAny ?_
  refine seqRegion ?_
  refine sq (r_move (v := i64 ((1 : Int))) rfl) ?_
  refine sq ((r_neqI (a := (1 : Int)) (b := (0 : Int)) rfl rfl).as (v' := .bool (true)) (by rfl)) ?_
  refine wend ?_
  refine condTrue rfl ?_
  refine seqRegion ?_
  refine sq (r_loadA (cs' := #[.slice aa an ac, .slice oa on oc]) agg42 siz42 (H11.get (k := 1) rfl) (off := 0) rfl (by exact Nat.le_of_ble_eq_true rfl) (by rfl)) ?_
  refine sq (r_move (v := i64 ((1 : Int))) rfl) ?_
  refine d_store (k := 0) (v := .agg #[.slice aa an ac, .slice oa on oc]) (cs' := #[.slice aa an ac, .slice oa on oc]) H11 rfl rfl rfl siz42 (by rfl) (by intro u hu; simp [Value.cells] at hu; first | (subst hu; rfl) | (rcases hu with rfl | rfl <;> rfl)) (by exact Nat.le_of_ble_eq_true rfl) (by rfl) ?_
  intro w12 H13 hC14
  have H13' := H13.as (L' := [(some b5, .cells #[.slice aa an ac, .slice oa on oc] 42 (0, 0)), (some b1, .cells #[.slice aa an ac, .slice oa on oc] 42 (0, 0))]) rfl
  clear H13
  refine sq (r_assign (v := .string ({data := #[]})) rfl) ?_
  refine sq (r_assign (v := i64 ((1 : Int))) rfl) ?_
  refine wend ?_
  refine retAny ?_
  refine thenRet ?_
  refine retG (rs := [.cell 6 42, .tmp 7, .tmp 8]) (vs := [.agg #[.slice aa an ac, .slice oa on oc], .string ({data := #[]}), i64 ((1 : Int))]) rfl ⟨r_loadA (cs' := #[.slice aa an ac, .slice oa on oc]) agg42 siz42 (H13'.get (k := 0) rfl) (off := 0) rfl (by exact Nat.le_of_ble_eq_true rfl) (by rfl), ⟨rfl, rfl⟩, ⟨rfl, rfl⟩, trivial⟩ ?_
  exact ⟨_, rfl, rfl, H13'.chg⟩

theorem rdeliver_ok_0 (l : List (List (BitVec 8))) (aa oa : Option Addr) (ac on oc : Nat) (w : World) (i : Nat) (hi : i < l.length) (hl : l.length ≤ 64) (hac : l.length ≤ ac) (hA : Rd ET w aa l) : Calls Tryd.prog 47 [.agg #[.slice aa l.length ac, .slice oa on oc], i64 ((0 : Int)), i64 ((i : Nat))].toArray w (Ret fun v w' => (∃ key c sp, v = .tuple #[.agg #[.slice (ownA key) ((l.eraseIdx i).length) c, .slice oa on oc], .string (strB (l.getD i [])), i64 (0 : Int)] ∧ Sl ET key (l.eraseIdx i) c sp ∧ ∀ g, key = some g → w.heap.size ≤ g ∧ w'.heap[g]? = some (sob ET 9 (l.eraseIdx i) sp)) ∧ Ext w w') := by
  have H := Hp.start No w
  refine enter (n := 45) Tryd.func47 rfl rfl (Nat.le_of_ble_eq_true rfl) ?_
  refine seqRegion ?_
  refine q_box (v := .agg #[.slice aa l.length ac, .slice oa on oc]) (o := .cells #[.slice aa l.length ac, .slice oa on oc] 42 (0, 0)) H rfl (by rfl) ?_
  intro b1 w2 hb1 H3 hE4
  refine q_alloc (o := .cells #[.slice none 0 0, .slice none 0 0] 42 (0, 0)) H3 zer42 (by kernel_rfl) ?_
  intro b5 w6 hb5 H7 hE8
  refine sq (r_assign (v := .string ({data := #[]})) rfl) ?_
  refine sq (r_assign (v := i64 ((0 : Int))) rfl) ?_
  refine wend ?_
  refine seqRegion ?_
  refine sq (r_loadA (cs' := #[.slice aa l.length ac, .slice oa on oc]) agg42 siz42 (H7.get (k := 1) rfl) (off := 0) rfl (by exact Nat.le_of_ble_eq_true rfl) (by rfl)) ?_
  refine sq (r_move (v := i64 ((0 : Int))) rfl) ?_
  refine sq (r_move (v := i64 ((i : Nat))) rfl) ?_
  refine c_call (vs := [.agg #[.slice aa l.length ac, .slice oa on oc], i64 ((0 : Int)), i64 ((i : Nat))]) call39 rfl (rat_hit_0 l aa oa ac on oc w6 i hi (hA.ext H7.chg)) ?_
  rintro _ w9 ⟨rfl, hE10⟩
  have H11 := H7.ext hE10
  refine sq (r_move (v := .tuple #[.string (strB (l.getD i [])), i64 ((0 : Int))]) rfl) ?_
  refine sq (r_extract (vs := #[.string (strB (l.getD i [])), i64 ((0 : Int))]) rfl rfl) ?_
  refine sq (r_extract (vs := #[.string (strB (l.getD i [])), i64 ((0 : Int))]) rfl rfl) ?_
  refine sq (r_assign (v := .string (strB (l.getD i []))) rfl) ?_
  refine sq (r_assign (v := i64 ((0 : Int))) rfl) ?_
  refine wend ?_
  refine seqAny ?_
  refine seqRegion ?_
  refine sq (r_move (v := i64 ((0 : Int))) rfl) ?_
  refine sq ((r_neqI (a := (0 : Int)) (b := (0 : Int)) rfl rfl).as (v' := .bool (false)) (by rfl)) ?_
  refine wend ?_
  refine condFalse rfl ?_
  refine skipAny ?_
  refine thenNormal ?_
  refine seqRegion ?_
  refine q_buildSlice (E := ET) (l := ([] : List (List (BitVec 8)))) H11 sli39 zer9 (Nat.le_of_ble_eq_true rfl) (ps := []) rfl (by exact fillAll rfl rfl) rfl ?_
  intro b12 w14 hS13 H15 hE16
  refine sq (r_move (v := i64 ((0 : Int))) rfl) ?_
  refine sq (r_fieldAddr (off' := 0) fld42_0 (by decide) (b := b1) (off := 0) rfl (by omega)) ?_
  refine sq (r_indexA (off' := 0) (j := 0) arr40 (b := b1) (off := 0) rfl rfl (by first | rfl | omega | (simp; omega)) (by omega) (by omega)) ?_
  refine sq (r_loadC (v := .slice aa l.length ac) one39 (H15.get (k := 2) rfl) (off := 0) rfl (by rfl)) ?_
  refine sq (r_move (v := i64 ((i : Nat))) rfl) ?_
  refine sq ((r_sliceS (l := 0) (h := i) sli39 rfl (.inr ⟨rfl, rfl⟩) (.inl ⟨_, _, _, rfl, rfl, by first | rfl | omega | (simp; omega)⟩) (by omega) (by omega)).as (v' := .slice (if ac = 0 then aa else adr aa (0 * 1)) i (ac - 0)) (by first | rfl | (congr 1; omega) | (simp; omega) | simp)) ?_
  refine q_append (E := ET) (k := 0) (l := ([] : List (List (BitVec 8)))) (l2 := (l.drop 0).take (i)) H15 rfl hS13 sli39 zer9 rfl byt9 (Rd.sub (hA.ext H15.chg) 0 (i) (m := ac) (fun e => by first | exact absurd e (by omega) | (rw [show i = 0 by omega]; rfl))) rfl (by rfl) rfl (by rw [List.length_take, List.length_drop]; omega) (by omega) ?_
  intro key17 c18 sp19 w21 hS20 hne23 H22
  have H22' := H22.as (L' := [(key17, sob ET 9 (([] : List (List (BitVec 8))) ++ ((l.drop 0).take (i))) sp19), (some b5, .cells #[.slice none 0 0, .slice none 0 0] 42 (0, 0)), (some b1, .cells #[.slice aa l.length ac, .slice oa on oc] 42 (0, 0))]) rfl
  clear H22
  have e24 : ([] : List (List (BitVec 8))) ++ ((l.drop 0).take (i)) = l.take i := by rw [List.nil_append, List.drop_zero]
  have hS25 := hS20
  rw [e24] at hS25
  have H26 := H22'.as (L' := [(key17, sob ET 9 (l.take i) sp19), (some b5, .cells #[.slice none 0 0, .slice none 0 0] 42 (0, 0)), (some b1, .cells #[.slice aa l.length ac, .slice oa on oc] 42 (0, 0))]) (by rw [e24])
  refine sq (r_assign (v := .slice (ownA key17) (0 + i) c18) rfl) ?_
  refine wend ?_
  refine seqAny ?_
  refine drawC (m := 17) [0, 0, 0, 0, 0, 24, 56, 0, 128, 504, 1020, 2047, 0, 0, 4095, 24575, 65535] [10, 11, 14] (fun q vs w' => match q, vs with | 0, [] => Hp No w w' [(key17, sob ET 9 (l.take i) sp19), (some b5, .cells #[.slice none 0 0, .slice none 0 0] 42 (0, 0)), (some b1, .cells #[.slice aa l.length ac, .slice oa on oc] 42 (0, 0))] | 1, [v0] => ∃ (key30 : Option Nat) (c31 : Nat) (sp32 : List Value), v0 = .slice (ownA key30) ((0 + i) + (l.length - (i + 1))) c31 ∧ Sl ET key30 (l.eraseIdx i) c31 sp32 ∧ Hp No w w' [(key30, sob ET 9 (l.eraseIdx i) sp32), (some b5, .cells #[.slice none 0 0, .slice none 0 0] 42 (0, 0)), (some b1, .cells #[.slice aa l.length ac, .slice oa on oc] 42 (0, 0))] | 2, [v0, v1] => ∃ (key30 : Option Nat) (c31 : Nat) (sp32 : List Value), v0 = .slice (ownA key30) ((0 + i) + (l.length - (i + 1))) c31 ∧ v1 = .agg #[.slice (ownA key30) ((0 + i) + (l.length - (i + 1))) c31, .slice oa on oc] ∧ Sl ET key30 (l.eraseIdx i) c31 sp32 ∧ Hp No w w' [(key30, sob ET 9 (l.eraseIdx i) sp32), (some b5, .cells #[.slice none 0 0, .slice none 0 0] 42 (0, 0)), (some b1, .cells #[.slice aa l.length ac, .slice oa on oc] 42 (0, 0))] | 3, [v0, v1, _] => ∃ (key30 : Option Nat) (c31 : Nat) (sp32 : List Value), v0 = .slice (ownA key30) ((0 + i) + (l.length - (i + 1))) c31 ∧ v1 = .agg #[.slice (ownA key30) ((0 + i) + (l.length - (i + 1))) c31, .slice oa on oc] ∧ True ∧ Sl ET key30 (l.eraseIdx i) c31 sp32 ∧ Hp No w w' [(key30, sob ET 9 (l.eraseIdx i) sp32), (some b5, .cells #[.slice (ownA key30) ((0 + i) + (l.length - (i + 1))) c31, .slice oa on oc] 42 (0, 0)), (some b1, .cells #[.slice aa l.length ac, .slice oa on oc] 42 (0, 0))] | _, _ => False) mixed (by kernel_rfl) (by kernel_rfl) H26.drew ?_
  refine WalkC.look rfl (fun _ => .agg #[.slice aa l.length ac, .slice oa on oc]) (fun _ _ _ => rfl) (fun q r uw hlo hhi hle hF => ?_) ?_
  · skip
    have h1 : 0 ≤ q := Nat.zero_le _
    have h2 : q ≤ 1 := hhi 1 11 rfl rfl
    rcases (show q = 0 ∨ q = 1 by omega) with rfl | rfl
    · skip
      have HH := hF
      exact Gives.run rfl (r_loadA (cs' := #[.slice aa l.length ac, .slice oa on oc]) agg42 siz42 (HH.get (k := 2) rfl) (off := 0) rfl (by exact Nat.le_of_ble_eq_true rfl) (by rfl)) ⟨rfl, rfl⟩
    · skip
      obtain ⟨key30, c31, sp32, e10, hS38, HH⟩ := hF
      exact Gives.run rfl (r_loadA (cs' := #[.slice aa l.length ac, .slice oa on oc]) agg42 siz42 (HH.get (k := 2) rfl) (off := 0) rfl (by exact Nat.le_of_ble_eq_true rfl) (by rfl)) ⟨rfl, rfl⟩
  refine WalkC.look rfl (fun _ => i64 ((0 : Int))) (fun _ _ _ => rfl) (fun q r uw _ _ _ _ => Gives.run rfl (r_move (v := i64 ((0 : Int))) rfl) ⟨rfl, rfl⟩) ?_
  refine WalkC.look rfl (fun _ => .slice (ownA key17) (0 + i) c18) (fun _ _ _ => rfl) (fun q r uw _ _ _ _ => Gives.run rfl (r_move (v := .slice (ownA key17) (0 + i) c18) rfl) ⟨rfl, rfl⟩) ?_
  refine WalkC.look rfl (fun _ => i64 ((0 : Int))) (fun _ _ _ => rfl) (fun q r uw _ _ _ _ => Gives.run rfl (r_move (v := i64 ((0 : Int))) rfl) ⟨rfl, rfl⟩) ?_
  refine WalkC.look rfl (fun _ => .pointer (some ⟨b1, 0, none⟩)) (fun _ _ _ => rfl) (fun q r uw _ _ _ _ => Gives.run rfl (r_fieldAddr (off' := 0) fld42_0 (by decide) (b := b1) (off := 0) rfl (by omega)) ⟨rfl, rfl⟩) ?_
  refine WalkC.look rfl (fun _ => .pointer (some ⟨b1, 0, none⟩)) (fun _ _ _ => rfl) (fun q r uw _ _ _ _ => Gives.run rfl (r_indexA (off' := 0) (j := 0) arr40 (b := b1) (off := 0) rfl rfl (by first | rfl | omega | (simp; omega)) (by omega) (by omega)) ⟨rfl, rfl⟩) ?_
  refine WalkC.look rfl (fun _ => .slice aa l.length ac) (fun _ _ _ => rfl) (fun q r uw hlo hhi hle hF => ?_) ?_
  · skip
    have h1 : 0 ≤ q := Nat.zero_le _
    have h2 : q ≤ 0 := hhi 0 10 rfl rfl
    rcases (show q = 0 by omega) with rfl
    · skip
      have HH := hF
      exact Gives.run rfl (r_loadC (v := .slice aa l.length ac) one39 (HH.get (k := 2) rfl) (off := 0) rfl (by rfl)) ⟨rfl, rfl⟩
  refine WalkC.look rfl (fun _ => i64 ((i : Nat))) (fun _ _ _ => rfl) (fun q r uw _ _ _ _ => Gives.run rfl (r_move (v := i64 ((i : Nat))) rfl) ⟨rfl, rfl⟩) ?_
  refine WalkC.look rfl (fun _ => i64 ((i : Nat) + (1 : Int))) (fun _ _ _ => rfl) (fun q r uw _ _ _ _ => Gives.run rfl (r_addI (a := (i : Nat)) (b := (1 : Int)) rfl rfl (by omega)) ⟨rfl, rfl⟩) ?_
  refine WalkC.look rfl (fun _ => .slice (if ac = i + 1 then aa else adr aa ((i + 1) * 1)) (l.length - (i + 1)) (ac - (i + 1))) (fun _ _ _ => rfl) (fun q r uw _ _ _ _ => Gives.run rfl ((r_sliceS (l := i + 1) (h := l.length) sli39 rfl (.inl ⟨_, _, _, rfl, rfl, by first | rfl | omega | (simp; omega)⟩) (.inr ⟨rfl, rfl⟩) (by omega) (by omega)).as (v' := .slice (if ac = i + 1 then aa else adr aa ((i + 1) * 1)) (l.length - (i + 1)) (ac - (i + 1))) (by first | rfl | (congr 1; omega) | (simp; omega) | simp)) ⟨rfl, rfl⟩) ?_
  refine WalkC.eff 0 rfl (fun r uw27 hF29 => ?_) ?_
  · skip
    have H28 := hF29
    dsimp only [List.take, List.map, List.cons_append, List.nil_append]
    refine Gives.ofW (d := 41) rfl rfl (fun Q' hK => ?_)
    refine q_append (E := ET) (k := 0) (l := l.take i) (l2 := (l.drop (i + 1)).take (l.length - (i + 1))) H28 rfl hS25 sli39 zer9 rfl byt9 (Rd.sub (hA.ext H28.chg) (i + 1) (l.length - (i + 1)) (m := ac) (fun e => by first | exact absurd e (by omega) | (rw [show l.length - (i + 1) = 0 by omega]; rfl))) rfl (by rw [List.length_take]; omega) rfl (by rw [List.length_take, List.length_drop]; omega) (by omega) ?_
    intro key30 c31 sp32 w34 hS33 hne36 H35
    have H35' := H35.as (L' := [(key30, sob ET 9 ((l.take i) ++ ((l.drop (i + 1)).take (l.length - (i + 1)))) sp32), (some b5, .cells #[.slice none 0 0, .slice none 0 0] 42 (0, 0)), (some b1, .cells #[.slice aa l.length ac, .slice oa on oc] 42 (0, 0))]) rfl
    clear H35
    have e37 : (l.take i) ++ ((l.drop (i + 1)).take (l.length - (i + 1))) = l.eraseIdx i := by rw [List.take_of_length_le (l := l.drop (i + 1)) (by rw [List.length_drop]; omega), ← List.eraseIdx_eq_take_drop_succ]
    have hS38 := hS33
    rw [e37] at hS38
    have H39 := H35'.as (L' := [(key30, sob ET 9 (l.eraseIdx i) sp32), (some b5, .cells #[.slice none 0 0, .slice none 0 0] 42 (0, 0)), (some b1, .cells #[.slice aa l.length ac, .slice oa on oc] 42 (0, 0))]) (by rw [e37])
    exact hK _ _ ⟨key30, c31, sp32, rfl, hS38, H39⟩
  refine WalkC.eff 1 rfl (fun r uw40 hF42 => ?_) ?_
  · skip
    obtain ⟨key30, c31, sp32, e10, hS38, H41⟩ := hF42
    dsimp only [List.take, List.map, List.cons_append, List.nil_append]
    rw [e10]
    refine Gives.ofW (d := 42) rfl rfl (fun Q' hK => ?_)
    refine c_call (vs := [.agg #[.slice aa l.length ac, .slice oa on oc], i64 ((0 : Int)), .slice (ownA key30) ((0 + i) + (l.length - (i + 1))) c31]) call40 rfl (rput_0 aa oa (ownA key30) l.length ac on oc ((0 + i) + (l.length - (i + 1))) c31 uw40) ?_
    rintro _ w43 ⟨rfl, hE44⟩
    have H45 := H41.ext hE44
    exact hK _ _ ⟨key30, c31, sp32, rfl, rfl, hS38, H45⟩
  refine WalkC.look rfl (fun _ => .string (strB (l.getD i []))) (fun _ _ _ => rfl) (fun q r uw _ _ _ _ => Gives.run rfl (r_move (v := .string (strB (l.getD i []))) rfl) ⟨rfl, rfl⟩) ?_
  refine WalkC.look rfl (fun _ => i64 ((0 : Int))) (fun _ _ _ => rfl) (fun q r uw _ _ _ _ => Gives.run rfl (r_move (v := i64 ((0 : Int))) rfl) ⟨rfl, rfl⟩) ?_
  refine WalkC.eff 2 rfl (fun r uw46 hF48 => ?_) ?_
  · skip
    obtain ⟨key30, c31, sp32, e10, e11, hS38, H47⟩ := hF48
    dsimp only [List.take, List.map, List.cons_append, List.nil_append]
    rw [e10, e11]
    refine Gives.ofW0 rfl (fun Q' hK => ?_)
    refine d_store (k := 1) (v := .agg #[.slice (ownA key30) ((0 + i) + (l.length - (i + 1))) c31, .slice oa on oc]) (cs' := #[.slice (ownA key30) ((0 + i) + (l.length - (i + 1))) c31, .slice oa on oc]) H47 rfl rfl rfl siz42 (by rfl) (by intro u hu; simp [Value.cells] at hu; first | (subst hu; rfl) | (rcases hu with rfl | rfl <;> rfl)) (by exact Nat.le_of_ble_eq_true rfl) (by rfl) ?_
    intro w49 H50 hC51
    have H50' := H50.as (L' := [(key30, sob ET 9 (l.eraseIdx i) sp32), (some b5, .cells #[.slice (ownA key30) ((0 + i) + (l.length - (i + 1))) c31, .slice oa on oc] 42 (0, 0)), (some b1, .cells #[.slice aa l.length ac, .slice oa on oc] 42 (0, 0))]) rfl
    clear H50
    exact hK _ (fun _ => ⟨key30, c31, sp32, rfl, rfl, trivial, hS38, H50'⟩)
  refine WalkC.look rfl (fun _ => .string (strB (l.getD i []))) (fun _ _ _ => rfl) (fun q r uw _ _ _ _ => Gives.run rfl (r_assign (v := .string (strB (l.getD i []))) rfl) ⟨rfl, rfl⟩) ?_
  refine WalkC.look rfl (fun _ => i64 ((0 : Int))) (fun _ _ _ => rfl) (fun q r uw _ _ _ _ => Gives.run rfl (r_assign (v := i64 ((0 : Int))) rfl) ⟨rfl, rfl⟩) ?_
  refine WalkC.nil ?_
  intro r52 w53 hF55
  obtain ⟨key30, c31, sp32, e10, e11, e14, hS38, H54⟩ := hF55
  dsimp only
  rw [e10, e11]
  refine wnil ?_
  refine thenNormal ?_
  refine retAny ?_
  refine retG (rs := [.cell 6 42, .tmp 7, .tmp 8]) (vs := [.agg #[.slice (ownA key30) ((0 + i) + (l.length - (i + 1))) c31, .slice oa on oc], .string (strB (l.getD i [])), i64 ((0 : Int))]) rfl ⟨r_loadA (cs' := #[.slice (ownA key30) ((0 + i) + (l.length - (i + 1))) c31, .slice oa on oc]) agg42 siz42 (H54.get (k := 1) rfl) (off := 0) rfl (by exact Nat.le_of_ble_eq_true rfl) (by rfl), ⟨rfl, rfl⟩, ⟨rfl, rfl⟩, trivial⟩ ?_
  refine ⟨_, rfl, ⟨key30, c31, sp32, ?_, hS38, fun g hg => ⟨((H54.own _ (List.mem_of_getElem? (i := 0) rfl) g hg).resolve_left (fun h => h)), H54.has _ (List.mem_of_getElem? (i := 0) rfl) g hg⟩⟩, H54.chg⟩
  rw [show (l.eraseIdx i).length = (0 + i) + (l.length - (i + 1)) from by rw [List.length_eraseIdx_of_lt hi]; omega]; rfl

theorem rdeliver_ok_1 (l : List (List (BitVec 8))) (aa oa : Option Addr) (ac on oc : Nat) (w : World) (i : Nat) (hi : i < l.length) (hl : l.length ≤ 64) (hac : l.length ≤ ac) (hA : Rd ET w aa l) : Calls Tryd.prog 47 [.agg #[.slice oa on oc, .slice aa l.length ac], i64 ((1 : Int)), i64 ((i : Nat))].toArray w (Ret fun v w' => (∃ key c sp, v = .tuple #[.agg #[.slice oa on oc, .slice (ownA key) ((l.eraseIdx i).length) c], .string (strB (l.getD i [])), i64 (0 : Int)] ∧ Sl ET key (l.eraseIdx i) c sp ∧ ∀ g, key = some g → w.heap.size ≤ g ∧ w'.heap[g]? = some (sob ET 9 (l.eraseIdx i) sp)) ∧ Ext w w') := by
  have H := Hp.start No w
  refine enter (n := 45) Tryd.func47 rfl rfl (Nat.le_of_ble_eq_true rfl) ?_
  refine seqRegion ?_
  refine q_box (v := .agg #[.slice oa on oc, .slice aa l.length ac]) (o := .cells #[.slice oa on oc, .slice aa l.length ac] 42 (0, 0)) H rfl (by rfl) ?_
  intro b1 w2 hb1 H3 hE4
  refine q_alloc (o := .cells #[.slice none 0 0, .slice none 0 0] 42 (0, 0)) H3 zer42 (by kernel_rfl) ?_
  intro b5 w6 hb5 H7 hE8
  refine sq (r_assign (v := .string ({data := #[]})) rfl) ?_
  refine sq (r_assign (v := i64 ((0 : Int))) rfl) ?_
  refine wend ?_
  refine seqRegion ?_
  refine sq (r_loadA (cs' := #[.slice oa on oc, .slice aa l.length ac]) agg42 siz42 (H7.get (k := 1) rfl) (off := 0) rfl (by exact Nat.le_of_ble_eq_true rfl) (by rfl)) ?_
  refine sq (r_move (v := i64 ((1 : Int))) rfl) ?_
  refine sq (r_move (v := i64 ((i : Nat))) rfl) ?_
  refine c_call (vs := [.agg #[.slice oa on oc, .slice aa l.length ac], i64 ((1 : Int)), i64 ((i : Nat))]) call39 rfl (rat_hit_1 l aa oa ac on oc w6 i hi (hA.ext H7.chg)) ?_
  rintro _ w9 ⟨rfl, hE10⟩
  have H11 := H7.ext hE10
  refine sq (r_move (v := .tuple #[.string (strB (l.getD i [])), i64 ((0 : Int))]) rfl) ?_
  refine sq (r_extract (vs := #[.string (strB (l.getD i [])), i64 ((0 : Int))]) rfl rfl) ?_
  refine sq (r_extract (vs := #[.string (strB (l.getD i [])), i64 ((0 : Int))]) rfl rfl) ?_
  refine sq (r_assign (v := .string (strB (l.getD i []))) rfl) ?_
  refine sq (r_assign (v := i64 ((0 : Int))) rfl) ?_
  refine wend ?_
  refine seqAny ?_
  refine seqRegion ?_
  refine sq (r_move (v := i64 ((0 : Int))) rfl) ?_
  refine sq ((r_neqI (a := (0 : Int)) (b := (0 : Int)) rfl rfl).as (v' := .bool (false)) (by rfl)) ?_
  refine wend ?_
  refine condFalse rfl ?_
  refine skipAny ?_
  refine thenNormal ?_
  refine seqRegion ?_
  refine q_buildSlice (E := ET) (l := ([] : List (List (BitVec 8)))) H11 sli39 zer9 (Nat.le_of_ble_eq_true rfl) (ps := []) rfl (by exact fillAll rfl rfl) rfl ?_
  intro b12 w14 hS13 H15 hE16
  refine sq (r_move (v := i64 ((1 : Int))) rfl) ?_
  refine sq (r_fieldAddr (off' := 0) fld42_0 (by decide) (b := b1) (off := 0) rfl (by omega)) ?_
  refine sq (r_indexA (off' := 1) (j := 1) arr40 (b := b1) (off := 0) rfl rfl (by first | rfl | omega | (simp; omega)) (by omega) (by omega)) ?_
  refine sq (r_loadC (v := .slice aa l.length ac) one39 (H15.get (k := 2) rfl) (off := 1) rfl (by rfl)) ?_
  refine sq (r_move (v := i64 ((i : Nat))) rfl) ?_
  refine sq ((r_sliceS (l := 0) (h := i) sli39 rfl (.inr ⟨rfl, rfl⟩) (.inl ⟨_, _, _, rfl, rfl, by first | rfl | omega | (simp; omega)⟩) (by omega) (by omega)).as (v' := .slice (if ac = 0 then aa else adr aa (0 * 1)) i (ac - 0)) (by first | rfl | (congr 1; omega) | (simp; omega) | simp)) ?_
  refine q_append (E := ET) (k := 0) (l := ([] : List (List (BitVec 8)))) (l2 := (l.drop 0).take (i)) H15 rfl hS13 sli39 zer9 rfl byt9 (Rd.sub (hA.ext H15.chg) 0 (i) (m := ac) (fun e => by first | exact absurd e (by omega) | (rw [show i = 0 by omega]; rfl))) rfl (by rfl) rfl (by rw [List.length_take, List.length_drop]; omega) (by omega) ?_
  intro key17 c18 sp19 w21 hS20 hne23 H22
  have H22' := H22.as (L' := [(key17, sob ET 9 (([] : List (List (BitVec 8))) ++ ((l.drop 0).take (i))) sp19), (some b5, .cells #[.slice none 0 0, .slice none 0 0] 42 (0, 0)), (some b1, .cells #[.slice oa on oc, .slice aa l.length ac] 42 (0, 0))]) rfl
  clear H22
  have e24 : ([] : List (List (BitVec 8))) ++ ((l.drop 0).take (i)) = l.take i := by rw [List.nil_append, List.drop_zero]
  have hS25 := hS20
  rw [e24] at hS25
  have H26 := H22'.as (L' := [(key17, sob ET 9 (l.take i) sp19), (some b5, .cells #[.slice none 0 0, .slice none 0 0] 42 (0, 0)), (some b1, .cells #[.slice oa on oc, .slice aa l.length ac] 42 (0, 0))]) (by rw [e24])
  refine sq (r_assign (v := .slice (ownA key17) (0 + i) c18) rfl) ?_
  refine wend ?_
  refine seqAny ?_
  refine drawC (m := 17) [0, 0, 0, 0, 0, 24, 56, 0, 128, 504, 1020, 2047, 0, 0, 4095, 24575, 65535] [10, 11, 14] (fun q vs w' => match q, vs with | 0, [] => Hp No w w' [(key17, sob ET 9 (l.take i) sp19), (some b5, .cells #[.slice none 0 0, .slice none 0 0] 42 (0, 0)), (some b1, .cells #[.slice oa on oc, .slice aa l.length ac] 42 (0, 0))] | 1, [v0] => ∃ (key30 : Option Nat) (c31 : Nat) (sp32 : List Value), v0 = .slice (ownA key30) ((0 + i) + (l.length - (i + 1))) c31 ∧ Sl ET key30 (l.eraseIdx i) c31 sp32 ∧ Hp No w w' [(key30, sob ET 9 (l.eraseIdx i) sp32), (some b5, .cells #[.slice none 0 0, .slice none 0 0] 42 (0, 0)), (some b1, .cells #[.slice oa on oc, .slice aa l.length ac] 42 (0, 0))] | 2, [v0, v1] => ∃ (key30 : Option Nat) (c31 : Nat) (sp32 : List Value), v0 = .slice (ownA key30) ((0 + i) + (l.length - (i + 1))) c31 ∧ v1 = .agg #[.slice oa on oc, .slice (ownA key30) ((0 + i) + (l.length - (i + 1))) c31] ∧ Sl ET key30 (l.eraseIdx i) c31 sp32 ∧ Hp No w w' [(key30, sob ET 9 (l.eraseIdx i) sp32), (some b5, .cells #[.slice none 0 0, .slice none 0 0] 42 (0, 0)), (some b1, .cells #[.slice oa on oc, .slice aa l.length ac] 42 (0, 0))] | 3, [v0, v1, _] => ∃ (key30 : Option Nat) (c31 : Nat) (sp32 : List Value), v0 = .slice (ownA key30) ((0 + i) + (l.length - (i + 1))) c31 ∧ v1 = .agg #[.slice oa on oc, .slice (ownA key30) ((0 + i) + (l.length - (i + 1))) c31] ∧ True ∧ Sl ET key30 (l.eraseIdx i) c31 sp32 ∧ Hp No w w' [(key30, sob ET 9 (l.eraseIdx i) sp32), (some b5, .cells #[.slice oa on oc, .slice (ownA key30) ((0 + i) + (l.length - (i + 1))) c31] 42 (0, 0)), (some b1, .cells #[.slice oa on oc, .slice aa l.length ac] 42 (0, 0))] | _, _ => False) mixed (by kernel_rfl) (by kernel_rfl) H26.drew ?_
  refine WalkC.look rfl (fun _ => .agg #[.slice oa on oc, .slice aa l.length ac]) (fun _ _ _ => rfl) (fun q r uw hlo hhi hle hF => ?_) ?_
  · skip
    have h1 : 0 ≤ q := Nat.zero_le _
    have h2 : q ≤ 1 := hhi 1 11 rfl rfl
    rcases (show q = 0 ∨ q = 1 by omega) with rfl | rfl
    · skip
      have HH := hF
      exact Gives.run rfl (r_loadA (cs' := #[.slice oa on oc, .slice aa l.length ac]) agg42 siz42 (HH.get (k := 2) rfl) (off := 0) rfl (by exact Nat.le_of_ble_eq_true rfl) (by rfl)) ⟨rfl, rfl⟩
    · skip
      obtain ⟨key30, c31, sp32, e10, hS38, HH⟩ := hF
      exact Gives.run rfl (r_loadA (cs' := #[.slice oa on oc, .slice aa l.length ac]) agg42 siz42 (HH.get (k := 2) rfl) (off := 0) rfl (by exact Nat.le_of_ble_eq_true rfl) (by rfl)) ⟨rfl, rfl⟩
  refine WalkC.look rfl (fun _ => i64 ((1 : Int))) (fun _ _ _ => rfl) (fun q r uw _ _ _ _ => Gives.run rfl (r_move (v := i64 ((1 : Int))) rfl) ⟨rfl, rfl⟩) ?_
  refine WalkC.look rfl (fun _ => .slice (ownA key17) (0 + i) c18) (fun _ _ _ => rfl) (fun q r uw _ _ _ _ => Gives.run rfl (r_move (v := .slice (ownA key17) (0 + i) c18) rfl) ⟨rfl, rfl⟩) ?_
  refine WalkC.look rfl (fun _ => i64 ((1 : Int))) (fun _ _ _ => rfl) (fun q r uw _ _ _ _ => Gives.run rfl (r_move (v := i64 ((1 : Int))) rfl) ⟨rfl, rfl⟩) ?_
  refine WalkC.look rfl (fun _ => .pointer (some ⟨b1, 0, none⟩)) (fun _ _ _ => rfl) (fun q r uw _ _ _ _ => Gives.run rfl (r_fieldAddr (off' := 0) fld42_0 (by decide) (b := b1) (off := 0) rfl (by omega)) ⟨rfl, rfl⟩) ?_
  refine WalkC.look rfl (fun _ => .pointer (some ⟨b1, 1, none⟩)) (fun _ _ _ => rfl) (fun q r uw _ _ _ _ => Gives.run rfl (r_indexA (off' := 1) (j := 1) arr40 (b := b1) (off := 0) rfl rfl (by first | rfl | omega | (simp; omega)) (by omega) (by omega)) ⟨rfl, rfl⟩) ?_
  refine WalkC.look rfl (fun _ => .slice aa l.length ac) (fun _ _ _ => rfl) (fun q r uw hlo hhi hle hF => ?_) ?_
  · skip
    have h1 : 0 ≤ q := Nat.zero_le _
    have h2 : q ≤ 0 := hhi 0 10 rfl rfl
    rcases (show q = 0 by omega) with rfl
    · skip
      have HH := hF
      exact Gives.run rfl (r_loadC (v := .slice aa l.length ac) one39 (HH.get (k := 2) rfl) (off := 1) rfl (by rfl)) ⟨rfl, rfl⟩
  refine WalkC.look rfl (fun _ => i64 ((i : Nat))) (fun _ _ _ => rfl) (fun q r uw _ _ _ _ => Gives.run rfl (r_move (v := i64 ((i : Nat))) rfl) ⟨rfl, rfl⟩) ?_
  refine WalkC.look rfl (fun _ => i64 ((i : Nat) + (1 : Int))) (fun _ _ _ => rfl) (fun q r uw _ _ _ _ => Gives.run rfl (r_addI (a := (i : Nat)) (b := (1 : Int)) rfl rfl (by omega)) ⟨rfl, rfl⟩) ?_
  refine WalkC.look rfl (fun _ => .slice (if ac = i + 1 then aa else adr aa ((i + 1) * 1)) (l.length - (i + 1)) (ac - (i + 1))) (fun _ _ _ => rfl) (fun q r uw _ _ _ _ => Gives.run rfl ((r_sliceS (l := i + 1) (h := l.length) sli39 rfl (.inl ⟨_, _, _, rfl, rfl, by first | rfl | omega | (simp; omega)⟩) (.inr ⟨rfl, rfl⟩) (by omega) (by omega)).as (v' := .slice (if ac = i + 1 then aa else adr aa ((i + 1) * 1)) (l.length - (i + 1)) (ac - (i + 1))) (by first | rfl | (congr 1; omega) | (simp; omega) | simp)) ⟨rfl, rfl⟩) ?_
  refine WalkC.eff 0 rfl (fun r uw27 hF29 => ?_) ?_
  · skip
    have H28 := hF29
    dsimp only [List.take, List.map, List.cons_append, List.nil_append]
    refine Gives.ofW (d := 41) rfl rfl (fun Q' hK => ?_)
    refine q_append (E := ET) (k := 0) (l := l.take i) (l2 := (l.drop (i + 1)).take (l.length - (i + 1))) H28 rfl hS25 sli39 zer9 rfl byt9 (Rd.sub (hA.ext H28.chg) (i + 1) (l.length - (i + 1)) (m := ac) (fun e => by first | exact absurd e (by omega) | (rw [show l.length - (i + 1) = 0 by omega]; rfl))) rfl (by rw [List.length_take]; omega) rfl (by rw [List.length_take, List.length_drop]; omega) (by omega) ?_
    intro key30 c31 sp32 w34 hS33 hne36 H35
    have H35' := H35.as (L' := [(key30, sob ET 9 ((l.take i) ++ ((l.drop (i + 1)).take (l.length - (i + 1)))) sp32), (some b5, .cells #[.slice none 0 0, .slice none 0 0] 42 (0, 0)), (some b1, .cells #[.slice oa on oc, .slice aa l.length ac] 42 (0, 0))]) rfl
    clear H35
    have e37 : (l.take i) ++ ((l.drop (i + 1)).take (l.length - (i + 1))) = l.eraseIdx i := by rw [List.take_of_length_le (l := l.drop (i + 1)) (by rw [List.length_drop]; omega), ← List.eraseIdx_eq_take_drop_succ]
    have hS38 := hS33
    rw [e37] at hS38
    have H39 := H35'.as (L' := [(key30, sob ET 9 (l.eraseIdx i) sp32), (some b5, .cells #[.slice none 0 0, .slice none 0 0] 42 (0, 0)), (some b1, .cells #[.slice oa on oc, .slice aa l.length ac] 42 (0, 0))]) (by rw [e37])
    exact hK _ _ ⟨key30, c31, sp32, rfl, hS38, H39⟩
  refine WalkC.eff 1 rfl (fun r uw40 hF42 => ?_) ?_
  · skip
    obtain ⟨key30, c31, sp32, e10, hS38, H41⟩ := hF42
    dsimp only [List.take, List.map, List.cons_append, List.nil_append]
    rw [e10]
    refine Gives.ofW (d := 42) rfl rfl (fun Q' hK => ?_)
    refine c_call (vs := [.agg #[.slice oa on oc, .slice aa l.length ac], i64 ((1 : Int)), .slice (ownA key30) ((0 + i) + (l.length - (i + 1))) c31]) call40 rfl (rput_1 aa oa (ownA key30) l.length ac on oc ((0 + i) + (l.length - (i + 1))) c31 uw40) ?_
    rintro _ w43 ⟨rfl, hE44⟩
    have H45 := H41.ext hE44
    exact hK _ _ ⟨key30, c31, sp32, rfl, rfl, hS38, H45⟩
  refine WalkC.look rfl (fun _ => .string (strB (l.getD i []))) (fun _ _ _ => rfl) (fun q r uw _ _ _ _ => Gives.run rfl (r_move (v := .string (strB (l.getD i []))) rfl) ⟨rfl, rfl⟩) ?_
  refine WalkC.look rfl (fun _ => i64 ((0 : Int))) (fun _ _ _ => rfl) (fun q r uw _ _ _ _ => Gives.run rfl (r_move (v := i64 ((0 : Int))) rfl) ⟨rfl, rfl⟩) ?_
  refine WalkC.eff 2 rfl (fun r uw46 hF48 => ?_) ?_
  · skip
    obtain ⟨key30, c31, sp32, e10, e11, hS38, H47⟩ := hF48
    dsimp only [List.take, List.map, List.cons_append, List.nil_append]
    rw [e10, e11]
    refine Gives.ofW0 rfl (fun Q' hK => ?_)
    refine d_store (k := 1) (v := .agg #[.slice oa on oc, .slice (ownA key30) ((0 + i) + (l.length - (i + 1))) c31]) (cs' := #[.slice oa on oc, .slice (ownA key30) ((0 + i) + (l.length - (i + 1))) c31]) H47 rfl rfl rfl siz42 (by rfl) (by intro u hu; simp [Value.cells] at hu; first | (subst hu; rfl) | (rcases hu with rfl | rfl <;> rfl)) (by exact Nat.le_of_ble_eq_true rfl) (by rfl) ?_
    intro w49 H50 hC51
    have H50' := H50.as (L' := [(key30, sob ET 9 (l.eraseIdx i) sp32), (some b5, .cells #[.slice oa on oc, .slice (ownA key30) ((0 + i) + (l.length - (i + 1))) c31] 42 (0, 0)), (some b1, .cells #[.slice oa on oc, .slice aa l.length ac] 42 (0, 0))]) rfl
    clear H50
    exact hK _ (fun _ => ⟨key30, c31, sp32, rfl, rfl, trivial, hS38, H50'⟩)
  refine WalkC.look rfl (fun _ => .string (strB (l.getD i []))) (fun _ _ _ => rfl) (fun q r uw _ _ _ _ => Gives.run rfl (r_assign (v := .string (strB (l.getD i []))) rfl) ⟨rfl, rfl⟩) ?_
  refine WalkC.look rfl (fun _ => i64 ((0 : Int))) (fun _ _ _ => rfl) (fun q r uw _ _ _ _ => Gives.run rfl (r_assign (v := i64 ((0 : Int))) rfl) ⟨rfl, rfl⟩) ?_
  refine WalkC.nil ?_
  intro r52 w53 hF55
  obtain ⟨key30, c31, sp32, e10, e11, e14, hS38, H54⟩ := hF55
  dsimp only
  rw [e10, e11]
  refine wnil ?_
  refine thenNormal ?_
  refine retAny ?_
  refine retG (rs := [.cell 6 42, .tmp 7, .tmp 8]) (vs := [.agg #[.slice oa on oc, .slice (ownA key30) ((0 + i) + (l.length - (i + 1))) c31], .string (strB (l.getD i [])), i64 ((0 : Int))]) rfl ⟨r_loadA (cs' := #[.slice oa on oc, .slice (ownA key30) ((0 + i) + (l.length - (i + 1))) c31]) agg42 siz42 (H54.get (k := 1) rfl) (off := 0) rfl (by exact Nat.le_of_ble_eq_true rfl) (by rfl), ⟨rfl, rfl⟩, ⟨rfl, rfl⟩, trivial⟩ ?_
  refine ⟨_, rfl, ⟨key30, c31, sp32, ?_, hS38, fun g hg => ⟨((H54.own _ (List.mem_of_getElem? (i := 0) rfl) g hg).resolve_left (fun h => h)), H54.has _ (List.mem_of_getElem? (i := 0) rfl) g hg⟩⟩, H54.chg⟩
  rw [show (l.eraseIdx i).length = (0 + i) + (l.length - (i + 1)) from by rw [List.length_eraseIdx_of_lt hi]; omega]; rfl

theorem rcopy_miss_0 (l : List (List (BitVec 8))) (aa oa : Option Addr) (ac on oc : Nat) (w : World) (i : Int) (hi : i < 0 ∨ (l.length : Int) ≤ i) : Calls Tryd.prog 48 [.agg #[.slice aa l.length ac, .slice oa on oc], i64 ((0 : Int)), i64 (i)].toArray w (Ret fun v w' => v = .tuple #[.agg #[.slice aa l.length ac, .slice oa on oc], i64 (4 : Int)] ∧ Ext w w') := by
  have H := Hp.start No w
  refine enter (n := 27) Tryd.func48 rfl rfl (Nat.le_of_ble_eq_true rfl) ?_
  refine seqRegion ?_
  refine q_box (v := .agg #[.slice aa l.length ac, .slice oa on oc]) (o := .cells #[.slice aa l.length ac, .slice oa on oc] 42 (0, 0)) H rfl (by rfl) ?_
  intro b1 w2 hb1 H3 hE4
  refine q_alloc (o := .cells #[.slice none 0 0, .slice none 0 0] 42 (0, 0)) H3 zer42 (by kernel_rfl) ?_
  intro b5 w6 hb5 H7 hE8
  refine sq (r_assign (v := i64 ((0 : Int))) rfl) ?_
  refine wend ?_
  refine seqRegion ?_
  refine sq (r_loadA (cs' := #[.slice aa l.length ac, .slice oa on oc]) agg42 siz42 (H7.get (k := 1) rfl) (off := 0) rfl (by exact Nat.le_of_ble_eq_true rfl) (by rfl)) ?_
  refine sq (r_move (v := i64 ((0 : Int))) rfl) ?_
  refine sq (r_move (v := i64 (i)) rfl) ?_
  refine c_call (vs := [.agg #[.slice aa l.length ac, .slice oa on oc], i64 ((0 : Int)), i64 (i)]) call39 rfl (rat_miss_0 l aa oa ac on oc w6 i hi) ?_
  rintro _ w9 ⟨rfl, hE10⟩
  have H11 := H7.ext hE10
  refine sq (r_move (v := .tuple #[.string (strB []), i64 ((4 : Int))]) rfl) ?_
  refine sq (r_extract (vs := #[.string (strB []), i64 ((4 : Int))]) rfl rfl) ?_
  refine sq (r_extract (vs := #[.string (strB []), i64 ((4 : Int))]) rfl rfl) ?_
  refine sq (r_assign (v := .string (strB [])) rfl) ?_
  refine sq (r_assign (v := i64 ((4 : Int))) rfl) ?_
  refine wend ?_
  refine seqAny ?_
  refine seqRegion ?_
  refine sq (r_move (v := i64 ((4 : Int))) rfl) ?_
  refine sq ((r_neqI (a := (4 : Int)) (b := (0 : Int)) rfl rfl).as (v' := .bool (true)) (by rfl)) ?_
  refine wend ?_
  refine condTrue rfl ?_
  refine seqRegion ?_
  refine sq (r_loadA (cs' := #[.slice aa l.length ac, .slice oa on oc]) agg42 siz42 (H11.get (k := 1) rfl) (off := 0) rfl (by exact Nat.le_of_ble_eq_true rfl) (by rfl)) ?_
  refine sq (r_move (v := i64 ((4 : Int))) rfl) ?_
  refine d_store (k := 0) (v := .agg #[.slice aa l.length ac, .slice oa on oc]) (cs' := #[.slice aa l.length ac, .slice oa on oc]) H11 rfl rfl rfl siz42 (by rfl) (by intro u hu; simp [Value.cells] at hu; first | (subst hu; rfl) | (rcases hu with rfl | rfl <;> rfl)) (by exact Nat.le_of_ble_eq_true rfl) (by rfl) ?_
  intro w12 H13 hC14
  have H13' := H13.as (L' := [(some b5, .cells #[.slice aa l.length ac, .slice oa on oc] 42 (0, 0)), (some b1, .cells #[.slice aa l.length ac, .slice oa on oc] 42 (0, 0))]) rfl
  clear H13
  refine sq (r_assign (v := i64 ((4 : Int))) rfl) ?_
  refine wend ?_
  refine retAny ?_
  refine thenRet ?_
  refine retG (rs := [.cell 6 42, .tmp 7]) (vs := [.agg #[.slice aa l.length ac, .slice oa on oc], i64 ((4 : Int))]) rfl ⟨r_loadA (cs' := #[.slice aa l.length ac, .slice oa on oc]) agg42 siz42 (H13'.get (k := 0) rfl) (off := 0) rfl (by exact Nat.le_of_ble_eq_true rfl) (by rfl), ⟨rfl, rfl⟩, trivial⟩ ?_
  exact ⟨_, rfl, rfl, H13'.chg⟩

theorem rcopy_miss_1 (l : List (List (BitVec 8))) (aa oa : Option Addr) (ac on oc : Nat) (w : World) (i : Int) (hi : i < 0 ∨ (l.length : Int) ≤ i) : Calls Tryd.prog 48 [.agg #[.slice oa on oc, .slice aa l.length ac], i64 ((1 : Int)), i64 (i)].toArray w (Ret fun v w' => v = .tuple #[.agg #[.slice oa on oc, .slice aa l.length ac], i64 (4 : Int)] ∧ Ext w w') := by
  have H := Hp.start No w
  refine enter (n := 27) Tryd.func48 rfl rfl (Nat.le_of_ble_eq_true rfl) ?_
  refine seqRegion ?_
  refine q_box (v := .agg #[.slice oa on oc, .slice aa l.length ac]) (o := .cells #[.slice oa on oc, .slice aa l.length ac] 42 (0, 0)) H rfl (by rfl) ?_
  intro b1 w2 hb1 H3 hE4
  refine q_alloc (o := .cells #[.slice none 0 0, .slice none 0 0] 42 (0, 0)) H3 zer42 (by kernel_rfl) ?_
  intro b5 w6 hb5 H7 hE8
  refine sq (r_assign (v := i64 ((0 : Int))) rfl) ?_
  refine wend ?_
  refine seqRegion ?_
  refine sq (r_loadA (cs' := #[.slice oa on oc, .slice aa l.length ac]) agg42 siz42 (H7.get (k := 1) rfl) (off := 0) rfl (by exact Nat.le_of_ble_eq_true rfl) (by rfl)) ?_
  refine sq (r_move (v := i64 ((1 : Int))) rfl) ?_
  refine sq (r_move (v := i64 (i)) rfl) ?_
  refine c_call (vs := [.agg #[.slice oa on oc, .slice aa l.length ac], i64 ((1 : Int)), i64 (i)]) call39 rfl (rat_miss_1 l aa oa ac on oc w6 i hi) ?_
  rintro _ w9 ⟨rfl, hE10⟩
  have H11 := H7.ext hE10
  refine sq (r_move (v := .tuple #[.string (strB []), i64 ((4 : Int))]) rfl) ?_
  refine sq (r_extract (vs := #[.string (strB []), i64 ((4 : Int))]) rfl rfl) ?_
  refine sq (r_extract (vs := #[.string (strB []), i64 ((4 : Int))]) rfl rfl) ?_
  refine sq (r_assign (v := .string (strB [])) rfl) ?_
  refine sq (r_assign (v := i64 ((4 : Int))) rfl) ?_
  refine wend ?_
  refine seqAny ?_
  refine seqRegion ?_
  refine sq (r_move (v := i64 ((4 : Int))) rfl) ?_
  refine sq ((r_neqI (a := (4 : Int)) (b := (0 : Int)) rfl rfl).as (v' := .bool (true)) (by rfl)) ?_
  refine wend ?_
  refine condTrue rfl ?_
  refine seqRegion ?_
  refine sq (r_loadA (cs' := #[.slice oa on oc, .slice aa l.length ac]) agg42 siz42 (H11.get (k := 1) rfl) (off := 0) rfl (by exact Nat.le_of_ble_eq_true rfl) (by rfl)) ?_
  refine sq (r_move (v := i64 ((4 : Int))) rfl) ?_
  refine d_store (k := 0) (v := .agg #[.slice oa on oc, .slice aa l.length ac]) (cs' := #[.slice oa on oc, .slice aa l.length ac]) H11 rfl rfl rfl siz42 (by rfl) (by intro u hu; simp [Value.cells] at hu; first | (subst hu; rfl) | (rcases hu with rfl | rfl <;> rfl)) (by exact Nat.le_of_ble_eq_true rfl) (by rfl) ?_
  intro w12 H13 hC14
  have H13' := H13.as (L' := [(some b5, .cells #[.slice oa on oc, .slice aa l.length ac] 42 (0, 0)), (some b1, .cells #[.slice oa on oc, .slice aa l.length ac] 42 (0, 0))]) rfl
  clear H13
  refine sq (r_assign (v := i64 ((4 : Int))) rfl) ?_
  refine wend ?_
  refine retAny ?_
  refine thenRet ?_
  refine retG (rs := [.cell 6 42, .tmp 7]) (vs := [.agg #[.slice oa on oc, .slice aa l.length ac], i64 ((4 : Int))]) rfl ⟨r_loadA (cs' := #[.slice oa on oc, .slice aa l.length ac]) agg42 siz42 (H13'.get (k := 0) rfl) (off := 0) rfl (by exact Nat.le_of_ble_eq_true rfl) (by rfl), ⟨rfl, rfl⟩, trivial⟩ ?_
  exact ⟨_, rfl, rfl, H13'.chg⟩

theorem rcopy_range (aa oa : Option Addr) (an ac on oc : Nat) (w : World) (way : Int) (h0 : way ≠ 0) (h1 : way ≠ 1) (i : Int) : Calls Tryd.prog 48 [.agg #[.slice aa an ac, .slice oa on oc], i64 (way), i64 (i)].toArray w (Ret fun v w' => v = .tuple #[.agg #[.slice aa an ac, .slice oa on oc], i64 (1 : Int)] ∧ Ext w w') := by
  have H := Hp.start No w
  refine enter (n := 27) Tryd.func48 rfl rfl (Nat.le_of_ble_eq_true rfl) ?_
  refine seqRegion ?_
  refine q_box (v := .agg #[.slice aa an ac, .slice oa on oc]) (o := .cells #[.slice aa an ac, .slice oa on oc] 42 (0, 0)) H rfl (by rfl) ?_
  intro b1 w2 hb1 H3 hE4
  refine q_alloc (o := .cells #[.slice none 0 0, .slice none 0 0] 42 (0, 0)) H3 zer42 (by kernel_rfl) ?_
  intro b5 w6 hb5 H7 hE8
  refine sq (r_assign (v := i64 ((0 : Int))) rfl) ?_
  refine wend ?_
  refine seqRegion ?_
  refine sq (r_loadA (cs' := #[.slice aa an ac, .slice oa on oc]) agg42 siz42 (H7.get (k := 1) rfl) (off := 0) rfl (by exact Nat.le_of_ble_eq_true rfl) (by rfl)) ?_
  refine sq (r_move (v := i64 (way)) rfl) ?_
  refine sq (r_move (v := i64 (i)) rfl) ?_
  refine c_call (vs := [.agg #[.slice aa an ac, .slice oa on oc], i64 (way), i64 (i)]) call39 rfl (rat_range aa oa an ac on oc w6 way h0 h1 i) ?_
  rintro _ w9 ⟨rfl, hE10⟩
  have H11 := H7.ext hE10
  refine sq (r_move (v := .tuple #[.string (strB []), i64 ((1 : Int))]) rfl) ?_
  refine sq (r_extract (vs := #[.string (strB []), i64 ((1 : Int))]) rfl rfl) ?_
  refine sq (r_extract (vs := #[.string (strB []), i64 ((1 : Int))]) rfl rfl) ?_
  refine sq (r_assign (v := .string (strB [])) rfl) ?_
  refine sq (r_assign (v := i64 ((1 : Int))) rfl) ?_
  refine wend ?_
  refine seqAny ?_
  refine seqRegion ?_
  refine sq (r_move (v := i64 ((1 : Int))) rfl) ?_
  refine sq ((r_neqI (a := (1 : Int)) (b := (0 : Int)) rfl rfl).as (v' := .bool (true)) (by rfl)) ?_
  refine wend ?_
  refine condTrue rfl ?_
  refine seqRegion ?_
  refine sq (r_loadA (cs' := #[.slice aa an ac, .slice oa on oc]) agg42 siz42 (H11.get (k := 1) rfl) (off := 0) rfl (by exact Nat.le_of_ble_eq_true rfl) (by rfl)) ?_
  refine sq (r_move (v := i64 ((1 : Int))) rfl) ?_
  refine d_store (k := 0) (v := .agg #[.slice aa an ac, .slice oa on oc]) (cs' := #[.slice aa an ac, .slice oa on oc]) H11 rfl rfl rfl siz42 (by rfl) (by intro u hu; simp [Value.cells] at hu; first | (subst hu; rfl) | (rcases hu with rfl | rfl <;> rfl)) (by exact Nat.le_of_ble_eq_true rfl) (by rfl) ?_
  intro w12 H13 hC14
  have H13' := H13.as (L' := [(some b5, .cells #[.slice aa an ac, .slice oa on oc] 42 (0, 0)), (some b1, .cells #[.slice aa an ac, .slice oa on oc] 42 (0, 0))]) rfl
  clear H13
  refine sq (r_assign (v := i64 ((1 : Int))) rfl) ?_
  refine wend ?_
  refine retAny ?_
  refine thenRet ?_
  refine retG (rs := [.cell 6 42, .tmp 7]) (vs := [.agg #[.slice aa an ac, .slice oa on oc], i64 ((1 : Int))]) rfl ⟨r_loadA (cs' := #[.slice aa an ac, .slice oa on oc]) agg42 siz42 (H13'.get (k := 0) rfl) (off := 0) rfl (by exact Nat.le_of_ble_eq_true rfl) (by rfl), ⟨rfl, rfl⟩, trivial⟩ ?_
  exact ⟨_, rfl, rfl, H13'.chg⟩

theorem rcopy_ok_0 (l : List (List (BitVec 8))) (aa oa : Option Addr) (ac on oc : Nat) (w : World) (i : Nat) (hi : i < l.length) (hlen : l.length < 64) (hA : Rd ET w aa l) : Calls Tryd.prog 48 [.agg #[.slice aa l.length ac, .slice oa on oc], i64 ((0 : Int)), i64 ((i : Nat))].toArray w (Ret fun v w' => (∃ key c sp, v = .tuple #[.agg #[.slice (ownA key) ((l ++ [l.getD i []]).length) c, .slice oa on oc], i64 (0 : Int)] ∧ Sl ET key (l ++ [l.getD i []]) c sp ∧ ∀ g, key = some g → w.heap.size ≤ g ∧ w'.heap[g]? = some (sob ET 9 (l ++ [l.getD i []]) sp)) ∧ Ext w w') := by
  have H := Hp.start No w
  refine enter (n := 27) Tryd.func48 rfl rfl (Nat.le_of_ble_eq_true rfl) ?_
  refine seqRegion ?_
  refine q_box (v := .agg #[.slice aa l.length ac, .slice oa on oc]) (o := .cells #[.slice aa l.length ac, .slice oa on oc] 42 (0, 0)) H rfl (by rfl) ?_
  intro b1 w2 hb1 H3 hE4
  refine q_alloc (o := .cells #[.slice none 0 0, .slice none 0 0] 42 (0, 0)) H3 zer42 (by kernel_rfl) ?_
  intro b5 w6 hb5 H7 hE8
  refine sq (r_assign (v := i64 ((0 : Int))) rfl) ?_
  refine wend ?_
  refine seqRegion ?_
  refine sq (r_loadA (cs' := #[.slice aa l.length ac, .slice oa on oc]) agg42 siz42 (H7.get (k := 1) rfl) (off := 0) rfl (by exact Nat.le_of_ble_eq_true rfl) (by rfl)) ?_
  refine sq (r_move (v := i64 ((0 : Int))) rfl) ?_
  refine sq (r_move (v := i64 ((i : Nat))) rfl) ?_
  refine c_call (vs := [.agg #[.slice aa l.length ac, .slice oa on oc], i64 ((0 : Int)), i64 ((i : Nat))]) call39 rfl (rat_hit_0 l aa oa ac on oc w6 i hi (hA.ext H7.chg)) ?_
  rintro _ w9 ⟨rfl, hE10⟩
  have H11 := H7.ext hE10
  refine sq (r_move (v := .tuple #[.string (strB (l.getD i [])), i64 ((0 : Int))]) rfl) ?_
  refine sq (r_extract (vs := #[.string (strB (l.getD i [])), i64 ((0 : Int))]) rfl rfl) ?_
  refine sq (r_extract (vs := #[.string (strB (l.getD i [])), i64 ((0 : Int))]) rfl rfl) ?_
  refine sq (r_assign (v := .string (strB (l.getD i []))) rfl) ?_
  refine sq (r_assign (v := i64 ((0 : Int))) rfl) ?_
  refine wend ?_
  refine seqAny ?_
  refine seqRegion ?_
  refine sq (r_move (v := i64 ((0 : Int))) rfl) ?_
  refine sq ((r_neqI (a := (0 : Int)) (b := (0 : Int)) rfl rfl).as (v' := .bool (false)) (by rfl)) ?_
  refine wend ?_
  refine condFalse rfl ?_
  refine skipAny ?_
  refine thenNormal ?_
  refine seqRegion ?_
  refine sq (r_loadA (cs' := #[.slice aa l.length ac, .slice oa on oc]) agg42 siz42 (H11.get (k := 1) rfl) (off := 0) rfl (by exact Nat.le_of_ble_eq_true rfl) (by rfl)) ?_
  refine sq (r_move (v := i64 ((0 : Int))) rfl) ?_
  refine sq (r_move (v := .string (strB (l.getD i []))) rfl) ?_
  refine c_call (vs := [.agg #[.slice aa l.length ac, .slice oa on oc], i64 ((0 : Int)), .string (strB (l.getD i []))]) call46 rfl (rsend_ok_0 l aa oa ac on oc w9 (l.getD i []) hlen (hA.ext H11.chg)) ?_
  rintro _ w12 ⟨⟨key14, c15, sp16, rfl, hS17, hk18⟩, hE19⟩
  have H20 := H11.add hE19 hk18
  refine sq (r_extract (vs := #[.agg #[.slice (ownA key14) ((l ++ [l.getD i []]).length) c15, .slice oa on oc], i64 ((0 : Int))]) rfl rfl) ?_
  refine sq (r_extract (vs := #[.agg #[.slice (ownA key14) ((l ++ [l.getD i []]).length) c15, .slice oa on oc], i64 ((0 : Int))]) rfl rfl) ?_
  refine d_store (k := 1) (v := .agg #[.slice (ownA key14) ((l ++ [l.getD i []]).length) c15, .slice oa on oc]) (cs' := #[.slice (ownA key14) ((l ++ [l.getD i []]).length) c15, .slice oa on oc]) H20 rfl rfl rfl siz42 (by rfl) (by intro u hu; simp [Value.cells] at hu; first | (subst hu; rfl) | (rcases hu with rfl | rfl <;> rfl)) (by exact Nat.le_of_ble_eq_true rfl) (by rfl) ?_
  intro w21 H22 hC23
  have H22' := H22.as (L' := [(key14, sob ET 9 (l ++ [l.getD i []]) sp16), (some b5, .cells #[.slice (ownA key14) ((l ++ [l.getD i []]).length) c15, .slice oa on oc] 42 (0, 0)), (some b1, .cells #[.slice aa l.length ac, .slice oa on oc] 42 (0, 0))]) rfl
  clear H22
  refine sq (r_assign (v := i64 ((0 : Int))) rfl) ?_
  refine wend ?_
  refine retAny ?_
  refine retG (rs := [.cell 6 42, .tmp 7]) (vs := [.agg #[.slice (ownA key14) ((l ++ [l.getD i []]).length) c15, .slice oa on oc], i64 ((0 : Int))]) rfl ⟨r_loadA (cs' := #[.slice (ownA key14) ((l ++ [l.getD i []]).length) c15, .slice oa on oc]) agg42 siz42 (H22'.get (k := 1) rfl) (off := 0) rfl (by exact Nat.le_of_ble_eq_true rfl) (by rfl), ⟨rfl, rfl⟩, trivial⟩ ?_
  refine ⟨_, rfl, ⟨key14, c15, sp16, ?_, hS17, fun g hg => ⟨((H22'.own _ (List.mem_of_getElem? (i := 0) rfl) g hg).resolve_left (fun h => h)), H22'.has _ (List.mem_of_getElem? (i := 0) rfl) g hg⟩⟩, H22'.chg⟩
  rw [show (l ++ [l.getD i []]).length = (l ++ [l.getD i []]).length from by rfl]; rfl

theorem rcopy_full_0 (l : List (List (BitVec 8))) (aa oa : Option Addr) (ac on oc : Nat) (w : World) (i : Nat) (hi : i < l.length) (hlen : 64 ≤ l.length) (hA : Rd ET w aa l) : Calls Tryd.prog 48 [.agg #[.slice aa l.length ac, .slice oa on oc], i64 ((0 : Int)), i64 ((i : Nat))].toArray w (Ret fun v w' => v = .tuple #[.agg #[.slice aa l.length ac, .slice oa on oc], i64 (5 : Int)] ∧ Ext w w') := by
  have H := Hp.start No w
  refine enter (n := 27) Tryd.func48 rfl rfl (Nat.le_of_ble_eq_true rfl) ?_
  refine seqRegion ?_
  refine q_box (v := .agg #[.slice aa l.length ac, .slice oa on oc]) (o := .cells #[.slice aa l.length ac, .slice oa on oc] 42 (0, 0)) H rfl (by rfl) ?_
  intro b1 w2 hb1 H3 hE4
  refine q_alloc (o := .cells #[.slice none 0 0, .slice none 0 0] 42 (0, 0)) H3 zer42 (by kernel_rfl) ?_
  intro b5 w6 hb5 H7 hE8
  refine sq (r_assign (v := i64 ((0 : Int))) rfl) ?_
  refine wend ?_
  refine seqRegion ?_
  refine sq (r_loadA (cs' := #[.slice aa l.length ac, .slice oa on oc]) agg42 siz42 (H7.get (k := 1) rfl) (off := 0) rfl (by exact Nat.le_of_ble_eq_true rfl) (by rfl)) ?_
  refine sq (r_move (v := i64 ((0 : Int))) rfl) ?_
  refine sq (r_move (v := i64 ((i : Nat))) rfl) ?_
  refine c_call (vs := [.agg #[.slice aa l.length ac, .slice oa on oc], i64 ((0 : Int)), i64 ((i : Nat))]) call39 rfl (rat_hit_0 l aa oa ac on oc w6 i hi (hA.ext H7.chg)) ?_
  rintro _ w9 ⟨rfl, hE10⟩
  have H11 := H7.ext hE10
  refine sq (r_move (v := .tuple #[.string (strB (l.getD i [])), i64 ((0 : Int))]) rfl) ?_
  refine sq (r_extract (vs := #[.string (strB (l.getD i [])), i64 ((0 : Int))]) rfl rfl) ?_
  refine sq (r_extract (vs := #[.string (strB (l.getD i [])), i64 ((0 : Int))]) rfl rfl) ?_
  refine sq (r_assign (v := .string (strB (l.getD i []))) rfl) ?_
  refine sq (r_assign (v := i64 ((0 : Int))) rfl) ?_
  refine wend ?_
  refine seqAny ?_
  refine seqRegion ?_
  refine sq (r_move (v := i64 ((0 : Int))) rfl) ?_
  refine sq ((r_neqI (a := (0 : Int)) (b := (0 : Int)) rfl rfl).as (v' := .bool (false)) (by rfl)) ?_
  refine wend ?_
  refine condFalse rfl ?_
  refine skipAny ?_
  refine thenNormal ?_
  refine seqRegion ?_
  refine sq (r_loadA (cs' := #[.slice aa l.length ac, .slice oa on oc]) agg42 siz42 (H11.get (k := 1) rfl) (off := 0) rfl (by exact Nat.le_of_ble_eq_true rfl) (by rfl)) ?_
  refine sq (r_move (v := i64 ((0 : Int))) rfl) ?_
  refine sq (r_move (v := .string (strB (l.getD i []))) rfl) ?_
  refine c_call (vs := [.agg #[.slice aa l.length ac, .slice oa on oc], i64 ((0 : Int)), .string (strB (l.getD i []))]) call46 rfl (rsend_full_0 l aa oa ac on oc w9 (l.getD i []) hlen) ?_
  rintro _ w12 ⟨rfl, hE13⟩
  have H14 := H11.ext hE13
  refine sq (r_extract (vs := #[.agg #[.slice aa l.length ac, .slice oa on oc], i64 ((5 : Int))]) rfl rfl) ?_
  refine sq (r_extract (vs := #[.agg #[.slice aa l.length ac, .slice oa on oc], i64 ((5 : Int))]) rfl rfl) ?_
  refine d_store (k := 0) (v := .agg #[.slice aa l.length ac, .slice oa on oc]) (cs' := #[.slice aa l.length ac, .slice oa on oc]) H14 rfl rfl rfl siz42 (by rfl) (by intro u hu; simp [Value.cells] at hu; first | (subst hu; rfl) | (rcases hu with rfl | rfl <;> rfl)) (by exact Nat.le_of_ble_eq_true rfl) (by rfl) ?_
  intro w15 H16 hC17
  have H16' := H16.as (L' := [(some b5, .cells #[.slice aa l.length ac, .slice oa on oc] 42 (0, 0)), (some b1, .cells #[.slice aa l.length ac, .slice oa on oc] 42 (0, 0))]) rfl
  clear H16
  refine sq (r_assign (v := i64 ((5 : Int))) rfl) ?_
  refine wend ?_
  refine retAny ?_
  refine retG (rs := [.cell 6 42, .tmp 7]) (vs := [.agg #[.slice aa l.length ac, .slice oa on oc], i64 ((5 : Int))]) rfl ⟨r_loadA (cs' := #[.slice aa l.length ac, .slice oa on oc]) agg42 siz42 (H16'.get (k := 0) rfl) (off := 0) rfl (by exact Nat.le_of_ble_eq_true rfl) (by rfl), ⟨rfl, rfl⟩, trivial⟩ ?_
  exact ⟨_, rfl, rfl, H16'.chg⟩

theorem rcopy_ok_1 (l : List (List (BitVec 8))) (aa oa : Option Addr) (ac on oc : Nat) (w : World) (i : Nat) (hi : i < l.length) (hlen : l.length < 64) (hA : Rd ET w aa l) : Calls Tryd.prog 48 [.agg #[.slice oa on oc, .slice aa l.length ac], i64 ((1 : Int)), i64 ((i : Nat))].toArray w (Ret fun v w' => (∃ key c sp, v = .tuple #[.agg #[.slice oa on oc, .slice (ownA key) ((l ++ [l.getD i []]).length) c], i64 (0 : Int)] ∧ Sl ET key (l ++ [l.getD i []]) c sp ∧ ∀ g, key = some g → w.heap.size ≤ g ∧ w'.heap[g]? = some (sob ET 9 (l ++ [l.getD i []]) sp)) ∧ Ext w w') := by
  have H := Hp.start No w
  refine enter (n := 27) Tryd.func48 rfl rfl (Nat.le_of_ble_eq_true rfl) ?_
  refine seqRegion ?_
  refine q_box (v := .agg #[.slice oa on oc, .slice aa l.length ac]) (o := .cells #[.slice oa on oc, .slice aa l.length ac] 42 (0, 0)) H rfl (by rfl) ?_
  intro b1 w2 hb1 H3 hE4
  refine q_alloc (o := .cells #[.slice none 0 0, .slice none 0 0] 42 (0, 0)) H3 zer42 (by kernel_rfl) ?_
  intro b5 w6 hb5 H7 hE8
  refine sq (r_assign (v := i64 ((0 : Int))) rfl) ?_
  refine wend ?_
  refine seqRegion ?_
  refine sq (r_loadA (cs' := #[.slice oa on oc, .slice aa l.length ac]) agg42 siz42 (H7.get (k := 1) rfl) (off := 0) rfl (by exact Nat.le_of_ble_eq_true rfl) (by rfl)) ?_
  refine sq (r_move (v := i64 ((1 : Int))) rfl) ?_
  refine sq (r_move (v := i64 ((i : Nat))) rfl) ?_
  refine c_call (vs := [.agg #[.slice oa on oc, .slice aa l.length ac], i64 ((1 : Int)), i64 ((i : Nat))]) call39 rfl (rat_hit_1 l aa oa ac on oc w6 i hi (hA.ext H7.chg)) ?_
  rintro _ w9 ⟨rfl, hE10⟩
  have H11 := H7.ext hE10
  refine sq (r_move (v := .tuple #[.string (strB (l.getD i [])), i64 ((0 : Int))]) rfl) ?_
  refine sq (r_extract (vs := #[.string (strB (l.getD i [])), i64 ((0 : Int))]) rfl rfl) ?_
  refine sq (r_extract (vs := #[.string (strB (l.getD i [])), i64 ((0 : Int))]) rfl rfl) ?_
  refine sq (r_assign (v := .string (strB (l.getD i []))) rfl) ?_
  refine sq (r_assign (v := i64 ((0 : Int))) rfl) ?_
  refine wend ?_
  refine seqAny ?_
  refine seqRegion ?_
  refine sq (r_move (v := i64 ((0 : Int))) rfl) ?_
  refine sq ((r_neqI (a := (0 : Int)) (b := (0 : Int)) rfl rfl).as (v' := .bool (false)) (by rfl)) ?_
  refine wend ?_
  refine condFalse rfl ?_
  refine skipAny ?_
  refine thenNormal ?_
  refine seqRegion ?_
  refine sq (r_loadA (cs' := #[.slice oa on oc, .slice aa l.length ac]) agg42 siz42 (H11.get (k := 1) rfl) (off := 0) rfl (by exact Nat.le_of_ble_eq_true rfl) (by rfl)) ?_
  refine sq (r_move (v := i64 ((1 : Int))) rfl) ?_
  refine sq (r_move (v := .string (strB (l.getD i []))) rfl) ?_
  refine c_call (vs := [.agg #[.slice oa on oc, .slice aa l.length ac], i64 ((1 : Int)), .string (strB (l.getD i []))]) call46 rfl (rsend_ok_1 l aa oa ac on oc w9 (l.getD i []) hlen (hA.ext H11.chg)) ?_
  rintro _ w12 ⟨⟨key14, c15, sp16, rfl, hS17, hk18⟩, hE19⟩
  have H20 := H11.add hE19 hk18
  refine sq (r_extract (vs := #[.agg #[.slice oa on oc, .slice (ownA key14) ((l ++ [l.getD i []]).length) c15], i64 ((0 : Int))]) rfl rfl) ?_
  refine sq (r_extract (vs := #[.agg #[.slice oa on oc, .slice (ownA key14) ((l ++ [l.getD i []]).length) c15], i64 ((0 : Int))]) rfl rfl) ?_
  refine d_store (k := 1) (v := .agg #[.slice oa on oc, .slice (ownA key14) ((l ++ [l.getD i []]).length) c15]) (cs' := #[.slice oa on oc, .slice (ownA key14) ((l ++ [l.getD i []]).length) c15]) H20 rfl rfl rfl siz42 (by rfl) (by intro u hu; simp [Value.cells] at hu; first | (subst hu; rfl) | (rcases hu with rfl | rfl <;> rfl)) (by exact Nat.le_of_ble_eq_true rfl) (by rfl) ?_
  intro w21 H22 hC23
  have H22' := H22.as (L' := [(key14, sob ET 9 (l ++ [l.getD i []]) sp16), (some b5, .cells #[.slice oa on oc, .slice (ownA key14) ((l ++ [l.getD i []]).length) c15] 42 (0, 0)), (some b1, .cells #[.slice oa on oc, .slice aa l.length ac] 42 (0, 0))]) rfl
  clear H22
  refine sq (r_assign (v := i64 ((0 : Int))) rfl) ?_
  refine wend ?_
  refine retAny ?_
  refine retG (rs := [.cell 6 42, .tmp 7]) (vs := [.agg #[.slice oa on oc, .slice (ownA key14) ((l ++ [l.getD i []]).length) c15], i64 ((0 : Int))]) rfl ⟨r_loadA (cs' := #[.slice oa on oc, .slice (ownA key14) ((l ++ [l.getD i []]).length) c15]) agg42 siz42 (H22'.get (k := 1) rfl) (off := 0) rfl (by exact Nat.le_of_ble_eq_true rfl) (by rfl), ⟨rfl, rfl⟩, trivial⟩ ?_
  refine ⟨_, rfl, ⟨key14, c15, sp16, ?_, hS17, fun g hg => ⟨((H22'.own _ (List.mem_of_getElem? (i := 0) rfl) g hg).resolve_left (fun h => h)), H22'.has _ (List.mem_of_getElem? (i := 0) rfl) g hg⟩⟩, H22'.chg⟩
  rw [show (l ++ [l.getD i []]).length = (l ++ [l.getD i []]).length from by rfl]; rfl

theorem rcopy_full_1 (l : List (List (BitVec 8))) (aa oa : Option Addr) (ac on oc : Nat) (w : World) (i : Nat) (hi : i < l.length) (hlen : 64 ≤ l.length) (hA : Rd ET w aa l) : Calls Tryd.prog 48 [.agg #[.slice oa on oc, .slice aa l.length ac], i64 ((1 : Int)), i64 ((i : Nat))].toArray w (Ret fun v w' => v = .tuple #[.agg #[.slice oa on oc, .slice aa l.length ac], i64 (5 : Int)] ∧ Ext w w') := by
  have H := Hp.start No w
  refine enter (n := 27) Tryd.func48 rfl rfl (Nat.le_of_ble_eq_true rfl) ?_
  refine seqRegion ?_
  refine q_box (v := .agg #[.slice oa on oc, .slice aa l.length ac]) (o := .cells #[.slice oa on oc, .slice aa l.length ac] 42 (0, 0)) H rfl (by rfl) ?_
  intro b1 w2 hb1 H3 hE4
  refine q_alloc (o := .cells #[.slice none 0 0, .slice none 0 0] 42 (0, 0)) H3 zer42 (by kernel_rfl) ?_
  intro b5 w6 hb5 H7 hE8
  refine sq (r_assign (v := i64 ((0 : Int))) rfl) ?_
  refine wend ?_
  refine seqRegion ?_
  refine sq (r_loadA (cs' := #[.slice oa on oc, .slice aa l.length ac]) agg42 siz42 (H7.get (k := 1) rfl) (off := 0) rfl (by exact Nat.le_of_ble_eq_true rfl) (by rfl)) ?_
  refine sq (r_move (v := i64 ((1 : Int))) rfl) ?_
  refine sq (r_move (v := i64 ((i : Nat))) rfl) ?_
  refine c_call (vs := [.agg #[.slice oa on oc, .slice aa l.length ac], i64 ((1 : Int)), i64 ((i : Nat))]) call39 rfl (rat_hit_1 l aa oa ac on oc w6 i hi (hA.ext H7.chg)) ?_
  rintro _ w9 ⟨rfl, hE10⟩
  have H11 := H7.ext hE10
  refine sq (r_move (v := .tuple #[.string (strB (l.getD i [])), i64 ((0 : Int))]) rfl) ?_
  refine sq (r_extract (vs := #[.string (strB (l.getD i [])), i64 ((0 : Int))]) rfl rfl) ?_
  refine sq (r_extract (vs := #[.string (strB (l.getD i [])), i64 ((0 : Int))]) rfl rfl) ?_
  refine sq (r_assign (v := .string (strB (l.getD i []))) rfl) ?_
  refine sq (r_assign (v := i64 ((0 : Int))) rfl) ?_
  refine wend ?_
  refine seqAny ?_
  refine seqRegion ?_
  refine sq (r_move (v := i64 ((0 : Int))) rfl) ?_
  refine sq ((r_neqI (a := (0 : Int)) (b := (0 : Int)) rfl rfl).as (v' := .bool (false)) (by rfl)) ?_
  refine wend ?_
  refine condFalse rfl ?_
  refine skipAny ?_
  refine thenNormal ?_
  refine seqRegion ?_
  refine sq (r_loadA (cs' := #[.slice oa on oc, .slice aa l.length ac]) agg42 siz42 (H11.get (k := 1) rfl) (off := 0) rfl (by exact Nat.le_of_ble_eq_true rfl) (by rfl)) ?_
  refine sq (r_move (v := i64 ((1 : Int))) rfl) ?_
  refine sq (r_move (v := .string (strB (l.getD i []))) rfl) ?_
  refine c_call (vs := [.agg #[.slice oa on oc, .slice aa l.length ac], i64 ((1 : Int)), .string (strB (l.getD i []))]) call46 rfl (rsend_full_1 l aa oa ac on oc w9 (l.getD i []) hlen) ?_
  rintro _ w12 ⟨rfl, hE13⟩
  have H14 := H11.ext hE13
  refine sq (r_extract (vs := #[.agg #[.slice oa on oc, .slice aa l.length ac], i64 ((5 : Int))]) rfl rfl) ?_
  refine sq (r_extract (vs := #[.agg #[.slice oa on oc, .slice aa l.length ac], i64 ((5 : Int))]) rfl rfl) ?_
  refine d_store (k := 0) (v := .agg #[.slice oa on oc, .slice aa l.length ac]) (cs' := #[.slice oa on oc, .slice aa l.length ac]) H14 rfl rfl rfl siz42 (by rfl) (by intro u hu; simp [Value.cells] at hu; first | (subst hu; rfl) | (rcases hu with rfl | rfl <;> rfl)) (by exact Nat.le_of_ble_eq_true rfl) (by rfl) ?_
  intro w15 H16 hC17
  have H16' := H16.as (L' := [(some b5, .cells #[.slice oa on oc, .slice aa l.length ac] 42 (0, 0)), (some b1, .cells #[.slice oa on oc, .slice aa l.length ac] 42 (0, 0))]) rfl
  clear H16
  refine sq (r_assign (v := i64 ((5 : Int))) rfl) ?_
  refine wend ?_
  refine retAny ?_
  refine retG (rs := [.cell 6 42, .tmp 7]) (vs := [.agg #[.slice oa on oc, .slice aa l.length ac], i64 ((5 : Int))]) rfl ⟨r_loadA (cs' := #[.slice oa on oc, .slice aa l.length ac]) agg42 siz42 (H16'.get (k := 0) rfl) (off := 0) rfl (by exact Nat.le_of_ble_eq_true rfl) (by rfl), ⟨rfl, rfl⟩, trivial⟩ ?_
  exact ⟨_, rfl, rfl, H16'.chg⟩

theorem rflip_miss_0 (l : List (List (BitVec 8))) (aa oa : Option Addr) (ac on oc : Nat) (w : World) (i : Int) (bit : Int) (hi : i < 0 ∨ (l.length : Int) ≤ i) : Calls Tryd.prog 22 [.agg #[.slice aa l.length ac, .slice oa on oc], i64 ((0 : Int)), i64 (i), i64 (bit)].toArray w (Ret fun v w' => v = .tuple #[.agg #[.slice aa l.length ac, .slice oa on oc], i64 (4 : Int)] ∧ Ext w w') := by
  have H := Hp.start No w
  refine enter (n := 65) Tryd.func22 rfl rfl (Nat.le_of_ble_eq_true rfl) ?_
  refine seqRegion ?_
  refine q_box (v := .agg #[.slice aa l.length ac, .slice oa on oc]) (o := .cells #[.slice aa l.length ac, .slice oa on oc] 42 (0, 0)) H rfl (by rfl) ?_
  intro b1 w2 hb1 H3 hE4
  refine q_alloc (o := .cells #[.slice none 0 0, .slice none 0 0] 42 (0, 0)) H3 zer42 (by kernel_rfl) ?_
  intro b5 w6 hb5 H7 hE8
  refine sq (r_assign (v := i64 ((0 : Int))) rfl) ?_
  refine wend ?_
  refine seqRegion ?_
  refine sq (r_loadA (cs' := #[.slice aa l.length ac, .slice oa on oc]) agg42 siz42 (H7.get (k := 1) rfl) (off := 0) rfl (by exact Nat.le_of_ble_eq_true rfl) (by rfl)) ?_
  refine sq (r_move (v := i64 ((0 : Int))) rfl) ?_
  refine sq (r_move (v := i64 (i)) rfl) ?_
  refine c_call (vs := [.agg #[.slice aa l.length ac, .slice oa on oc], i64 ((0 : Int)), i64 (i)]) call39 rfl (rat_miss_0 l aa oa ac on oc w6 i hi) ?_
  rintro _ w9 ⟨rfl, hE10⟩
  have H11 := H7.ext hE10
  refine sq (r_move (v := .tuple #[.string (strB []), i64 ((4 : Int))]) rfl) ?_
  refine sq (r_extract (vs := #[.string (strB []), i64 ((4 : Int))]) rfl rfl) ?_
  refine sq (r_extract (vs := #[.string (strB []), i64 ((4 : Int))]) rfl rfl) ?_
  refine sq (r_assign (v := .string (strB [])) rfl) ?_
  refine sq (r_assign (v := i64 ((4 : Int))) rfl) ?_
  refine wend ?_
  refine seqAny ?_
  refine seqRegion ?_
  refine sq (r_move (v := i64 ((4 : Int))) rfl) ?_
  refine sq ((r_neqI (a := (4 : Int)) (b := (0 : Int)) rfl rfl).as (v' := .bool (true)) (by rfl)) ?_
  refine wend ?_
  refine condTrue rfl ?_
  refine seqRegion ?_
  refine sq (r_loadA (cs' := #[.slice aa l.length ac, .slice oa on oc]) agg42 siz42 (H11.get (k := 1) rfl) (off := 0) rfl (by exact Nat.le_of_ble_eq_true rfl) (by rfl)) ?_
  refine sq (r_move (v := i64 ((4 : Int))) rfl) ?_
  refine d_store (k := 0) (v := .agg #[.slice aa l.length ac, .slice oa on oc]) (cs' := #[.slice aa l.length ac, .slice oa on oc]) H11 rfl rfl rfl siz42 (by rfl) (by intro u hu; simp [Value.cells] at hu; first | (subst hu; rfl) | (rcases hu with rfl | rfl <;> rfl)) (by exact Nat.le_of_ble_eq_true rfl) (by rfl) ?_
  intro w12 H13 hC14
  have H13' := H13.as (L' := [(some b5, .cells #[.slice aa l.length ac, .slice oa on oc] 42 (0, 0)), (some b1, .cells #[.slice aa l.length ac, .slice oa on oc] 42 (0, 0))]) rfl
  clear H13
  refine sq (r_assign (v := i64 ((4 : Int))) rfl) ?_
  refine wend ?_
  refine retAny ?_
  refine thenRet ?_
  refine retG (rs := [.cell 8 42, .tmp 9]) (vs := [.agg #[.slice aa l.length ac, .slice oa on oc], i64 ((4 : Int))]) rfl ⟨r_loadA (cs' := #[.slice aa l.length ac, .slice oa on oc]) agg42 siz42 (H13'.get (k := 0) rfl) (off := 0) rfl (by exact Nat.le_of_ble_eq_true rfl) (by rfl), ⟨rfl, rfl⟩, trivial⟩ ?_
  exact ⟨_, rfl, rfl, H13'.chg⟩

theorem rflip_miss_1 (l : List (List (BitVec 8))) (aa oa : Option Addr) (ac on oc : Nat) (w : World) (i : Int) (bit : Int) (hi : i < 0 ∨ (l.length : Int) ≤ i) : Calls Tryd.prog 22 [.agg #[.slice oa on oc, .slice aa l.length ac], i64 ((1 : Int)), i64 (i), i64 (bit)].toArray w (Ret fun v w' => v = .tuple #[.agg #[.slice oa on oc, .slice aa l.length ac], i64 (4 : Int)] ∧ Ext w w') := by
  have H := Hp.start No w
  refine enter (n := 65) Tryd.func22 rfl rfl (Nat.le_of_ble_eq_true rfl) ?_
  refine seqRegion ?_
  refine q_box (v := .agg #[.slice oa on oc, .slice aa l.length ac]) (o := .cells #[.slice oa on oc, .slice aa l.length ac] 42 (0, 0)) H rfl (by rfl) ?_
  intro b1 w2 hb1 H3 hE4
  refine q_alloc (o := .cells #[.slice none 0 0, .slice none 0 0] 42 (0, 0)) H3 zer42 (by kernel_rfl) ?_
  intro b5 w6 hb5 H7 hE8
  refine sq (r_assign (v := i64 ((0 : Int))) rfl) ?_
  refine wend ?_
  refine seqRegion ?_
  refine sq (r_loadA (cs' := #[.slice oa on oc, .slice aa l.length ac]) agg42 siz42 (H7.get (k := 1) rfl) (off := 0) rfl (by exact Nat.le_of_ble_eq_true rfl) (by rfl)) ?_
  refine sq (r_move (v := i64 ((1 : Int))) rfl) ?_
  refine sq (r_move (v := i64 (i)) rfl) ?_
  refine c_call (vs := [.agg #[.slice oa on oc, .slice aa l.length ac], i64 ((1 : Int)), i64 (i)]) call39 rfl (rat_miss_1 l aa oa ac on oc w6 i hi) ?_
  rintro _ w9 ⟨rfl, hE10⟩
  have H11 := H7.ext hE10
  refine sq (r_move (v := .tuple #[.string (strB []), i64 ((4 : Int))]) rfl) ?_
  refine sq (r_extract (vs := #[.string (strB []), i64 ((4 : Int))]) rfl rfl) ?_
  refine sq (r_extract (vs := #[.string (strB []), i64 ((4 : Int))]) rfl rfl) ?_
  refine sq (r_assign (v := .string (strB [])) rfl) ?_
  refine sq (r_assign (v := i64 ((4 : Int))) rfl) ?_
  refine wend ?_
  refine seqAny ?_
  refine seqRegion ?_
  refine sq (r_move (v := i64 ((4 : Int))) rfl) ?_
  refine sq ((r_neqI (a := (4 : Int)) (b := (0 : Int)) rfl rfl).as (v' := .bool (true)) (by rfl)) ?_
  refine wend ?_
  refine condTrue rfl ?_
  refine seqRegion ?_
  refine sq (r_loadA (cs' := #[.slice oa on oc, .slice aa l.length ac]) agg42 siz42 (H11.get (k := 1) rfl) (off := 0) rfl (by exact Nat.le_of_ble_eq_true rfl) (by rfl)) ?_
  refine sq (r_move (v := i64 ((4 : Int))) rfl) ?_
  refine d_store (k := 0) (v := .agg #[.slice oa on oc, .slice aa l.length ac]) (cs' := #[.slice oa on oc, .slice aa l.length ac]) H11 rfl rfl rfl siz42 (by rfl) (by intro u hu; simp [Value.cells] at hu; first | (subst hu; rfl) | (rcases hu with rfl | rfl <;> rfl)) (by exact Nat.le_of_ble_eq_true rfl) (by rfl) ?_
  intro w12 H13 hC14
  have H13' := H13.as (L' := [(some b5, .cells #[.slice oa on oc, .slice aa l.length ac] 42 (0, 0)), (some b1, .cells #[.slice oa on oc, .slice aa l.length ac] 42 (0, 0))]) rfl
  clear H13
  refine sq (r_assign (v := i64 ((4 : Int))) rfl) ?_
  refine wend ?_
  refine retAny ?_
  refine thenRet ?_
  refine retG (rs := [.cell 8 42, .tmp 9]) (vs := [.agg #[.slice oa on oc, .slice aa l.length ac], i64 ((4 : Int))]) rfl ⟨r_loadA (cs' := #[.slice oa on oc, .slice aa l.length ac]) agg42 siz42 (H13'.get (k := 0) rfl) (off := 0) rfl (by exact Nat.le_of_ble_eq_true rfl) (by rfl), ⟨rfl, rfl⟩, trivial⟩ ?_
  exact ⟨_, rfl, rfl, H13'.chg⟩

theorem rflip_range (aa oa : Option Addr) (an ac on oc : Nat) (w : World) (way : Int) (h0 : way ≠ 0) (h1 : way ≠ 1) (i : Int) (bit : Int) : Calls Tryd.prog 22 [.agg #[.slice aa an ac, .slice oa on oc], i64 (way), i64 (i), i64 (bit)].toArray w (Ret fun v w' => v = .tuple #[.agg #[.slice aa an ac, .slice oa on oc], i64 (1 : Int)] ∧ Ext w w') := by
  have H := Hp.start No w
  refine enter (n := 65) Tryd.func22 rfl rfl (Nat.le_of_ble_eq_true rfl) ?_
  refine seqRegion ?_
  refine q_box (v := .agg #[.slice aa an ac, .slice oa on oc]) (o := .cells #[.slice aa an ac, .slice oa on oc] 42 (0, 0)) H rfl (by rfl) ?_
  intro b1 w2 hb1 H3 hE4
  refine q_alloc (o := .cells #[.slice none 0 0, .slice none 0 0] 42 (0, 0)) H3 zer42 (by kernel_rfl) ?_
  intro b5 w6 hb5 H7 hE8
  refine sq (r_assign (v := i64 ((0 : Int))) rfl) ?_
  refine wend ?_
  refine seqRegion ?_
  refine sq (r_loadA (cs' := #[.slice aa an ac, .slice oa on oc]) agg42 siz42 (H7.get (k := 1) rfl) (off := 0) rfl (by exact Nat.le_of_ble_eq_true rfl) (by rfl)) ?_
  refine sq (r_move (v := i64 (way)) rfl) ?_
  refine sq (r_move (v := i64 (i)) rfl) ?_
  refine c_call (vs := [.agg #[.slice aa an ac, .slice oa on oc], i64 (way), i64 (i)]) call39 rfl (rat_range aa oa an ac on oc w6 way h0 h1 i) ?_
  rintro _ w9 ⟨rfl, hE10⟩
  have H11 := H7.ext hE10
  refine sq (r_move (v := .tuple #[.string (strB []), i64 ((1 : Int))]) rfl) ?_
  refine sq (r_extract (vs := #[.string (strB []), i64 ((1 : Int))]) rfl rfl) ?_
  refine sq (r_extract (vs := #[.string (strB []), i64 ((1 : Int))]) rfl rfl) ?_
  refine sq (r_assign (v := .string (strB [])) rfl) ?_
  refine sq (r_assign (v := i64 ((1 : Int))) rfl) ?_
  refine wend ?_
  refine seqAny ?_
  refine seqRegion ?_
  refine sq (r_move (v := i64 ((1 : Int))) rfl) ?_
  refine sq ((r_neqI (a := (1 : Int)) (b := (0 : Int)) rfl rfl).as (v' := .bool (true)) (by rfl)) ?_
  refine wend ?_
  refine condTrue rfl ?_
  refine seqRegion ?_
  refine sq (r_loadA (cs' := #[.slice aa an ac, .slice oa on oc]) agg42 siz42 (H11.get (k := 1) rfl) (off := 0) rfl (by exact Nat.le_of_ble_eq_true rfl) (by rfl)) ?_
  refine sq (r_move (v := i64 ((1 : Int))) rfl) ?_
  refine d_store (k := 0) (v := .agg #[.slice aa an ac, .slice oa on oc]) (cs' := #[.slice aa an ac, .slice oa on oc]) H11 rfl rfl rfl siz42 (by rfl) (by intro u hu; simp [Value.cells] at hu; first | (subst hu; rfl) | (rcases hu with rfl | rfl <;> rfl)) (by exact Nat.le_of_ble_eq_true rfl) (by rfl) ?_
  intro w12 H13 hC14
  have H13' := H13.as (L' := [(some b5, .cells #[.slice aa an ac, .slice oa on oc] 42 (0, 0)), (some b1, .cells #[.slice aa an ac, .slice oa on oc] 42 (0, 0))]) rfl
  clear H13
  refine sq (r_assign (v := i64 ((1 : Int))) rfl) ?_
  refine wend ?_
  refine retAny ?_
  refine thenRet ?_
  refine retG (rs := [.cell 8 42, .tmp 9]) (vs := [.agg #[.slice aa an ac, .slice oa on oc], i64 ((1 : Int))]) rfl ⟨r_loadA (cs' := #[.slice aa an ac, .slice oa on oc]) agg42 siz42 (H13'.get (k := 0) rfl) (off := 0) rfl (by exact Nat.le_of_ble_eq_true rfl) (by rfl), ⟨rfl, rfl⟩, trivial⟩ ?_
  exact ⟨_, rfl, rfl, H13'.chg⟩

theorem rflip_ok_0 (l : List (List (BitVec 8))) (aa oa : Option Addr) (ac on oc : Nat) (w : World) (i : Nat) (hi : i < l.length) (hl : l.length ≤ 64) (bit : Nat) (hbit : bit / 8 < (l.getD i []).length) (hfl : (l.getD i []).length ≤ 140737488355328) (hA : Rd ET w aa l) : Calls Tryd.prog 22 [.agg #[.slice aa l.length ac, .slice oa on oc], i64 ((0 : Int)), i64 ((i : Nat)), i64 ((bit : Nat))].toArray w (Ret fun v w' => (∃ key c sp, v = .tuple #[.agg #[.slice (ownA key) ((l.set i (flipB (l.getD i []) bit)).length) c, .slice oa on oc], i64 (0 : Int)] ∧ Sl ET key (l.set i (flipB (l.getD i []) bit)) c sp ∧ ∀ g, key = some g → w.heap.size ≤ g ∧ w'.heap[g]? = some (sob ET 9 (l.set i (flipB (l.getD i []) bit)) sp)) ∧ Ext w w') := by
  have H := Hp.start No w
  refine enter (n := 65) Tryd.func22 rfl rfl (Nat.le_of_ble_eq_true rfl) ?_
  refine seqRegion ?_
  refine q_box (v := .agg #[.slice aa l.length ac, .slice oa on oc]) (o := .cells #[.slice aa l.length ac, .slice oa on oc] 42 (0, 0)) H rfl (by rfl) ?_
  intro b1 w2 hb1 H3 hE4
  refine q_alloc (o := .cells #[.slice none 0 0, .slice none 0 0] 42 (0, 0)) H3 zer42 (by kernel_rfl) ?_
  intro b5 w6 hb5 H7 hE8
  refine sq (r_assign (v := i64 ((0 : Int))) rfl) ?_
  refine wend ?_
  refine seqRegion ?_
  refine sq (r_loadA (cs' := #[.slice aa l.length ac, .slice oa on oc]) agg42 siz42 (H7.get (k := 1) rfl) (off := 0) rfl (by exact Nat.le_of_ble_eq_true rfl) (by rfl)) ?_
  refine sq (r_move (v := i64 ((0 : Int))) rfl) ?_
  refine sq (r_move (v := i64 ((i : Nat))) rfl) ?_
  refine c_call (vs := [.agg #[.slice aa l.length ac, .slice oa on oc], i64 ((0 : Int)), i64 ((i : Nat))]) call39 rfl (rat_hit_0 l aa oa ac on oc w6 i hi (hA.ext H7.chg)) ?_
  rintro _ w9 ⟨rfl, hE10⟩
  have H11 := H7.ext hE10
  refine sq (r_move (v := .tuple #[.string (strB (l.getD i [])), i64 ((0 : Int))]) rfl) ?_
  refine sq (r_extract (vs := #[.string (strB (l.getD i [])), i64 ((0 : Int))]) rfl rfl) ?_
  refine sq (r_extract (vs := #[.string (strB (l.getD i [])), i64 ((0 : Int))]) rfl rfl) ?_
  refine sq (r_assign (v := .string (strB (l.getD i []))) rfl) ?_
  refine sq (r_assign (v := i64 ((0 : Int))) rfl) ?_
  refine wend ?_
  refine seqAny ?_
  refine seqRegion ?_
  refine sq (r_move (v := i64 ((0 : Int))) rfl) ?_
  refine sq ((r_neqI (a := (0 : Int)) (b := (0 : Int)) rfl rfl).as (v' := .bool (false)) (by rfl)) ?_
  refine wend ?_
  refine condFalse rfl ?_
  refine skipAny ?_
  refine thenNormal ?_
  refine seqAny ?_
  refine seqRegion ?_
  refine sq (r_move (v := i64 ((bit : Nat))) rfl) ?_
  refine sq ((r_lssI (a := (bit : Nat)) (b := (0 : Int)) rfl rfl).as (v' := .bool (false)) (by exact congrArg Value.bool (decide_eq_false (by omega)))) ?_
  refine sq (r_move (v := .bool (false)) rfl) ?_
  refine sqAny (v := i64 ((bit : Nat))) (w' := w9) (wantedSome (d' := 27) (b := false) rfl rfl rfl) (r_move (v := i64 ((bit : Nat))) rfl) ?_
  refine sqAny (v := i64 ((bit : Nat) / (8 : Int))) (w' := w9) (wantedSome (d' := 27) (b := false) rfl rfl rfl) (r_quoI (a := (bit : Nat)) (b := (8 : Int)) rfl rfl (by omega)) ?_
  refine sqAny (v := .string (strB (l.getD i []))) (w' := w9) (wantedSome (d' := 27) (b := false) rfl rfl rfl) (r_move (v := .string (strB (l.getD i []))) rfl) ?_
  refine sqAny (v := i64 (((l.getD i []).length : Nat))) (w' := w9) (wantedSome (d' := 27) (b := false) rfl rfl rfl) (r_lenStB (l := l.getD i []) und9 rfl) ?_
  refine sqAny (v := .bool (false)) (w' := w9) (wantedSome (d' := 27) (b := false) rfl rfl rfl) ((r_geqI (a := (bit : Nat) / (8 : Int)) (b := ((l.getD i []).length : Nat)) rfl rfl).as (v' := .bool (false)) (by exact congrArg Value.bool (decide_eq_false (by omega)))) ?_
  refine sq (r_pickF (v := .bool (false)) rfl rfl) ?_
  refine wend ?_
  refine condFalse rfl ?_
  refine skipAny ?_
  refine thenNormal ?_
  refine seqRegion ?_
  refine sq (r_move (v := .string (strB (l.getD i []))) rfl) ?_
  refine q_toBytes (l := l.getD i []) H11 und9 und30 und5 rfl ?_
  intro g12 c13 sp14 w15 H16 hE17
  refine sq (r_assign (v := .slice (ownA (some g12)) ((l.getD i []).length) c13) rfl) ?_
  refine wend ?_
  refine seqAny ?_
  refine drawC (m := 14) [0, 0, 2, 0, 0, 16, 56, 120, 0, 256, 768, 2040, 4095, 8191] [13] (fun q vs w' => match q, vs with | 0, [] => Hp No w w' [((some g12), sobF 5 (l.getD i []) sp14), (some b5, .cells #[.slice none 0 0, .slice none 0 0] 42 (0, 0)), (some b1, .cells #[.slice aa l.length ac, .slice oa on oc] 42 (0, 0))] | 1, [_] => True ∧ Hp No w w' [((some g12), sobF 5 ((l.getD i []).set (bit / 8) (((l.getD i []).getD (bit / 8) 0#8) ^^^ ((1#8) <<< (bit % 8 : Nat)))) sp14), (some b5, .cells #[.slice none 0 0, .slice none 0 0] 42 (0, 0)), (some b1, .cells #[.slice aa l.length ac, .slice oa on oc] 42 (0, 0))] | _, _ => False) mixed (by kernel_rfl) (by kernel_rfl) H16.drew ?_
  refine WalkC.look rfl (fun _ => .slice (ownA (some g12)) ((l.getD i []).length) c13) (fun _ _ _ => rfl) (fun q r uw _ _ _ _ => Gives.run rfl (r_move (v := .slice (ownA (some g12)) ((l.getD i []).length) c13) rfl) ⟨rfl, rfl⟩) ?_
  refine WalkC.look rfl (fun _ => i64 ((bit : Nat))) (fun _ _ _ => rfl) (fun q r uw _ _ _ _ => Gives.run rfl (r_move (v := i64 ((bit : Nat))) rfl) ⟨rfl, rfl⟩) ?_
  refine WalkC.look rfl (fun _ => i64 ((bit : Nat) / (8 : Int))) (fun _ _ _ => rfl) (fun q r uw _ _ _ _ => Gives.run rfl (r_quoI (a := (bit : Nat)) (b := (8 : Int)) rfl rfl (by omega)) ⟨rfl, rfl⟩) ?_
  refine WalkC.look rfl (fun _ => .slice (ownA (some g12)) ((l.getD i []).length) c13) (fun _ _ _ => rfl) (fun q r uw _ _ _ _ => Gives.run rfl (r_move (v := .slice (ownA (some g12)) ((l.getD i []).length) c13) rfl) ⟨rfl, rfl⟩) ?_
  refine WalkC.look rfl (fun _ => i64 ((bit : Nat))) (fun _ _ _ => rfl) (fun q r uw _ _ _ _ => Gives.run rfl (r_move (v := i64 ((bit : Nat))) rfl) ⟨rfl, rfl⟩) ?_
  refine WalkC.look rfl (fun _ => i64 ((bit : Nat) / (8 : Int))) (fun _ _ _ => rfl) (fun q r uw _ _ _ _ => Gives.run rfl (r_quoI (a := (bit : Nat)) (b := (8 : Int)) rfl rfl (by omega)) ⟨rfl, rfl⟩) ?_
  refine WalkC.look rfl (fun _ => .pointer (adr (ownA (some g12)) ((bit / 8) * 1))) (fun _ _ _ => rfl) (fun q r uw hlo hhi hle hF => ?_) ?_
  · skip
    have h1 : 0 ≤ q := Nat.zero_le _
    have h2 : q ≤ 0 := hhi 0 13 rfl rfl
    rcases (show q = 0 by omega) with rfl
    · skip
      have HH := hF
      exact Gives.run rfl (r_idxS (E := E8) (l := l.getD i []) (j := bit / 8) sli30 (HH.rdZ (k := 0) rfl) rfl rfl (by first | rfl | omega | (simp; omega)) (by rfl) (by omega)) ⟨rfl, rfl⟩
  refine WalkC.look rfl (fun _ => u8 ((l.getD i []).getD (bit / 8) 0#8)) (fun _ _ _ => rfl) (fun q r uw hlo hhi hle hF => ?_) ?_
  · skip
    have h1 : 0 ≤ q := Nat.zero_le _
    have h2 : q ≤ 0 := hhi 0 13 rfl rfl
    rcases (show q = 0 by omega) with rfl
    · skip
      have HH := hF
      exact Gives.run rfl (r_ldS (E := E8) (l := l.getD i []) (j := bit / 8) (v := (l.getD i []).getD (bit / 8) 0#8) fits5 (HH.rdZ (k := 0) rfl) rfl rfl (at_getD (by omega))) ⟨rfl, rfl⟩
  refine WalkC.look rfl (fun _ => i64 ((bit : Nat))) (fun _ _ _ => rfl) (fun q r uw _ _ _ _ => Gives.run rfl (r_move (v := i64 ((bit : Nat))) rfl) ⟨rfl, rfl⟩) ?_
  refine WalkC.look rfl (fun _ => i64 ((bit : Nat) % (8 : Int))) (fun _ _ _ => rfl) (fun q r uw _ _ _ _ => Gives.run rfl (r_remI (a := (bit : Nat)) (b := (8 : Int)) rfl rfl (by omega)) ⟨rfl, rfl⟩) ?_
  refine WalkC.look rfl (fun _ => u8 ((1#8) <<< (bit % 8 : Nat))) (fun _ _ _ => rfl) (fun q r uw _ _ _ _ => Gives.run rfl (r_shl8 (a := 1#8) (c := bit % 8) rfl rfl) ⟨rfl, rfl⟩) ?_
  refine WalkC.look rfl (fun _ => u8 (((l.getD i []).getD (bit / 8) 0#8) ^^^ ((1#8) <<< (bit % 8 : Nat)))) (fun _ _ _ => rfl) (fun q r uw _ _ _ _ => Gives.run rfl (r_xor8 (a := (l.getD i []).getD (bit / 8) 0#8) (b := (1#8) <<< (bit % 8 : Nat)) rfl rfl) ⟨rfl, rfl⟩) ?_
  refine WalkC.look rfl (fun _ => .pointer (adr (ownA (some g12)) ((bit / 8) * 1))) (fun _ _ _ => rfl) (fun q r uw hlo hhi hle hF => ?_) ?_
  · skip
    have h1 : 0 ≤ q := Nat.zero_le _
    have h2 : q ≤ 0 := hhi 0 13 rfl rfl
    rcases (show q = 0 by omega) with rfl
    · skip
      have HH := hF
      exact Gives.run rfl (r_idxS (E := E8) (l := l.getD i []) (j := bit / 8) sli30 (HH.rdZ (k := 0) rfl) rfl rfl (by first | rfl | omega | (simp; omega)) (by rfl) (by omega)) ⟨rfl, rfl⟩
  refine WalkC.eff 0 rfl (fun r uw18 hF20 => ?_) ?_
  · skip
    have H19 := hF20
    dsimp only [List.take, List.map, List.cons_append, List.nil_append]
    refine Gives.ofW0 rfl (fun Q' hK => ?_)
    refine d_storeF (k := 0) (l := l.getD i []) (j := bit / 8) (b := ((l.getD i []).getD (bit / 8) 0#8) ^^^ ((1#8) <<< (bit % 8 : Nat))) H19 rfl rfl (Nat.mul_one _) rfl siz5 (by omega) ?_
    intro w22 H23
    have H23' := H23.as (L' := [((some g12), sobF 5 ((l.getD i []).set (bit / 8) (((l.getD i []).getD (bit / 8) 0#8) ^^^ ((1#8) <<< (bit % 8 : Nat)))) sp14), (some b5, .cells #[.slice none 0 0, .slice none 0 0] 42 (0, 0)), (some b1, .cells #[.slice aa l.length ac, .slice oa on oc] 42 (0, 0))]) rfl
    clear H23
    exact hK _ (fun _ => ⟨trivial, H23'⟩)
  refine WalkC.nil ?_
  intro r24 w25 hF27
  obtain ⟨e13, H26⟩ := hF27
  dsimp only
  refine wnil ?_
  refine thenNormal ?_
  refine seqRegion ?_
  refine q_buildSlice (E := ET) (l := ([] : List (List (BitVec 8)))) H26 sli39 zer9 (Nat.le_of_ble_eq_true rfl) (ps := []) rfl (by exact fillAll rfl rfl) rfl ?_
  intro b28 w30 hS29 H31 hE32
  refine sq (r_move (v := i64 ((0 : Int))) rfl) ?_
  refine sq (r_fieldAddr (off' := 0) fld42_0 (by decide) (b := b1) (off := 0) rfl (by omega)) ?_
  refine sq (r_indexA (off' := 0) (j := 0) arr40 (b := b1) (off := 0) rfl rfl (by first | rfl | omega | (simp; omega)) (by omega) (by omega)) ?_
  refine sq (r_loadC (v := .slice aa l.length ac) one39 (H31.get (k := 3) rfl) (off := 0) rfl (by rfl)) ?_
  refine q_append (E := ET) (k := 0) (l := ([] : List (List (BitVec 8)))) (l2 := l) H31 rfl hS29 sli39 zer9 rfl byt9 (hA.ext H31.chg) rfl (by rfl) rfl (by rfl) (by omega) ?_
  intro key33 c34 sp35 w37 hS36 hne39 H38
  have H38' := H38.as (L' := [(key33, sob ET 9 (([] : List (List (BitVec 8))) ++ l) sp35), ((some g12), sobF 5 ((l.getD i []).set (bit / 8) (((l.getD i []).getD (bit / 8) 0#8) ^^^ ((1#8) <<< (bit % 8 : Nat)))) sp14), (some b5, .cells #[.slice none 0 0, .slice none 0 0] 42 (0, 0)), (some b1, .cells #[.slice aa l.length ac, .slice oa on oc] 42 (0, 0))]) rfl
  clear H38
  have e40 : ([] : List (List (BitVec 8))) ++ l = l := by rw [List.nil_append]
  have hS41 := hS36
  rw [e40] at hS41
  have H42 := H38'.as (L' := [(key33, sob ET 9 l sp35), ((some g12), sobF 5 ((l.getD i []).set (bit / 8) (((l.getD i []).getD (bit / 8) 0#8) ^^^ ((1#8) <<< (bit % 8 : Nat)))) sp14), (some b5, .cells #[.slice none 0 0, .slice none 0 0] 42 (0, 0)), (some b1, .cells #[.slice aa l.length ac, .slice oa on oc] 42 (0, 0))]) (by rw [e40])
  refine sq (r_assign (v := .slice (ownA key33) (0 + l.length) c34) rfl) ?_
  refine wend ?_
  refine seqRegion ?_
  refine sq (r_move (v := .slice (ownA key33) (0 + l.length) c34) rfl) ?_
  refine sq (r_move (v := i64 ((i : Nat))) rfl) ?_
  refine sq (r_move (v := .slice (ownA (some g12)) ((l.getD i []).length) c13) rfl) ?_
  refine sq (r_toStr (l := (l.getD i []).set (bit / 8) (((l.getD i []).getD (bit / 8) 0#8) ^^^ ((1#8) <<< (bit % 8 : Nat)))) und30 und5 und9 (H42.rdZ (k := 1) rfl) rfl (by exact (List.length_set ..).symm)) ?_
  refine sq (r_idxS (E := ET) (l := l) (j := i) sli39 (H42.rd (k := 0) rfl hS41) rfl rfl (by first | rfl | omega | (simp; omega)) (by exact Nat.zero_add _) (by omega)) ?_
  refine d_storeS (E := ET) (k := 0) (l := l) (j := i) (b := (l.getD i []).set (bit / 8) (((l.getD i []).getD (bit / 8) 0#8) ^^^ ((1#8) <<< (bit % 8 : Nat)))) (a := (l).getD i []) H42 rfl hS41 rfl rfl rfl rfl siz9 (at_getD (by omega)) ?_
  intro w44 hS43 H45
  have H45' := H45.as (L' := [(key33, sob ET 9 (l.set i ((l.getD i []).set (bit / 8) (((l.getD i []).getD (bit / 8) 0#8) ^^^ ((1#8) <<< (bit % 8 : Nat))))) sp35), ((some g12), sobF 5 ((l.getD i []).set (bit / 8) (((l.getD i []).getD (bit / 8) 0#8) ^^^ ((1#8) <<< (bit % 8 : Nat)))) sp14), (some b5, .cells #[.slice none 0 0, .slice none 0 0] 42 (0, 0)), (some b1, .cells #[.slice aa l.length ac, .slice oa on oc] 42 (0, 0))]) rfl
  clear H45
  refine wend ?_
  refine seqRegion ?_
  have e46 : l.set i ((l.getD i []).set (bit / 8) (((l.getD i []).getD (bit / 8) 0#8) ^^^ ((1#8) <<< (bit % 8 : Nat)))) = l.set i (flipB (l.getD i []) bit) := by rfl
  have hS47 := hS43
  rw [e46] at hS47
  have H48 := H45'.as (L' := [(key33, sob ET 9 (l.set i (flipB (l.getD i []) bit)) sp35), ((some g12), sobF 5 ((l.getD i []).set (bit / 8) (((l.getD i []).getD (bit / 8) 0#8) ^^^ ((1#8) <<< (bit % 8 : Nat)))) sp14), (some b5, .cells #[.slice none 0 0, .slice none 0 0] 42 (0, 0)), (some b1, .cells #[.slice aa l.length ac, .slice oa on oc] 42 (0, 0))]) (by rw [e46])
  refine sq (r_loadA (cs' := #[.slice aa l.length ac, .slice oa on oc]) agg42 siz42 (H48.get (k := 3) rfl) (off := 0) rfl (by exact Nat.le_of_ble_eq_true rfl) (by rfl)) ?_
  refine sq (r_move (v := i64 ((0 : Int))) rfl) ?_
  refine sq (r_move (v := .slice (ownA key33) (0 + l.length) c34) rfl) ?_
  refine c_call (vs := [.agg #[.slice aa l.length ac, .slice oa on oc], i64 ((0 : Int)), .slice (ownA key33) (0 + l.length) c34]) call40 rfl (rput_0 aa oa (ownA key33) l.length ac on oc (0 + l.length) c34 w44) ?_
  rintro _ w49 ⟨rfl, hE50⟩
  have H51 := H48.ext hE50
  refine d_store (k := 2) (v := .agg #[.slice (ownA key33) (0 + l.length) c34, .slice oa on oc]) (cs' := #[.slice (ownA key33) (0 + l.length) c34, .slice oa on oc]) H51 rfl rfl rfl siz42 (by rfl) (by intro u hu; simp [Value.cells] at hu; first | (subst hu; rfl) | (rcases hu with rfl | rfl <;> rfl)) (by exact Nat.le_of_ble_eq_true rfl) (by rfl) ?_
  intro w52 H53 hC54
  have H53' := H53.as (L' := [(key33, sob ET 9 (l.set i (flipB (l.getD i []) bit)) sp35), ((some g12), sobF 5 ((l.getD i []).set (bit / 8) (((l.getD i []).getD (bit / 8) 0#8) ^^^ ((1#8) <<< (bit % 8 : Nat)))) sp14), (some b5, .cells #[.slice (ownA key33) (0 + l.length) c34, .slice oa on oc] 42 (0, 0)), (some b1, .cells #[.slice aa l.length ac, .slice oa on oc] 42 (0, 0))]) rfl
  clear H53
  refine sq (r_assign (v := i64 ((0 : Int))) rfl) ?_
  refine wend ?_
  refine retAny ?_
  refine retG (rs := [.cell 8 42, .tmp 9]) (vs := [.agg #[.slice (ownA key33) (0 + l.length) c34, .slice oa on oc], i64 ((0 : Int))]) rfl ⟨r_loadA (cs' := #[.slice (ownA key33) (0 + l.length) c34, .slice oa on oc]) agg42 siz42 (H53'.get (k := 2) rfl) (off := 0) rfl (by exact Nat.le_of_ble_eq_true rfl) (by rfl), ⟨rfl, rfl⟩, trivial⟩ ?_
  refine ⟨_, rfl, ⟨key33, c34, sp35, ?_, hS47, fun g hg => ⟨((H53'.own _ (List.mem_of_getElem? (i := 0) rfl) g hg).resolve_left (fun h => h)), H53'.has _ (List.mem_of_getElem? (i := 0) rfl) g hg⟩⟩, H53'.chg⟩
  rw [show (l.set i (flipB (l.getD i []) bit)).length = 0 + l.length from by rw [List.length_set, Nat.zero_add]]; rfl

theorem rflip_bit_0 (l : List (List (BitVec 8))) (aa oa : Option Addr) (ac on oc : Nat) (w : World) (i : Nat) (hi : i < l.length) (bit : Int) (hb64 : bit ≤ 9223372036854775807) (hbit : bit < 0 ∨ ((l.getD i []).length : Int) ≤ bit / 8) (hA : Rd ET w aa l) : Calls Tryd.prog 22 [.agg #[.slice aa l.length ac, .slice oa on oc], i64 ((0 : Int)), i64 ((i : Nat)), i64 (bit)].toArray w (Ret fun v w' => v = .tuple #[.agg #[.slice aa l.length ac, .slice oa on oc], i64 (1 : Int)] ∧ Ext w w') := by
  have H := Hp.start No w
  refine enter (n := 65) Tryd.func22 rfl rfl (Nat.le_of_ble_eq_true rfl) ?_
  refine seqRegion ?_
  refine q_box (v := .agg #[.slice aa l.length ac, .slice oa on oc]) (o := .cells #[.slice aa l.length ac, .slice oa on oc] 42 (0, 0)) H rfl (by rfl) ?_
  intro b1 w2 hb1 H3 hE4
  refine q_alloc (o := .cells #[.slice none 0 0, .slice none 0 0] 42 (0, 0)) H3 zer42 (by kernel_rfl) ?_
  intro b5 w6 hb5 H7 hE8
  refine sq (r_assign (v := i64 ((0 : Int))) rfl) ?_
  refine wend ?_
  refine seqRegion ?_
  refine sq (r_loadA (cs' := #[.slice aa l.length ac, .slice oa on oc]) agg42 siz42 (H7.get (k := 1) rfl) (off := 0) rfl (by exact Nat.le_of_ble_eq_true rfl) (by rfl)) ?_
  refine sq (r_move (v := i64 ((0 : Int))) rfl) ?_
  refine sq (r_move (v := i64 ((i : Nat))) rfl) ?_
  refine c_call (vs := [.agg #[.slice aa l.length ac, .slice oa on oc], i64 ((0 : Int)), i64 ((i : Nat))]) call39 rfl (rat_hit_0 l aa oa ac on oc w6 i hi (hA.ext H7.chg)) ?_
  rintro _ w9 ⟨rfl, hE10⟩
  have H11 := H7.ext hE10
  refine sq (r_move (v := .tuple #[.string (strB (l.getD i [])), i64 ((0 : Int))]) rfl) ?_
  refine sq (r_extract (vs := #[.string (strB (l.getD i [])), i64 ((0 : Int))]) rfl rfl) ?_
  refine sq (r_extract (vs := #[.string (strB (l.getD i [])), i64 ((0 : Int))]) rfl rfl) ?_
  refine sq (r_assign (v := .string (strB (l.getD i []))) rfl) ?_
  refine sq (r_assign (v := i64 ((0 : Int))) rfl) ?_
  refine wend ?_
  refine seqAny ?_
  refine seqRegion ?_
  refine sq (r_move (v := i64 ((0 : Int))) rfl) ?_
  refine sq ((r_neqI (a := (0 : Int)) (b := (0 : Int)) rfl rfl).as (v' := .bool (false)) (by rfl)) ?_
  refine wend ?_
  refine condFalse rfl ?_
  refine skipAny ?_
  refine thenNormal ?_
  refine seqAny ?_
  refine seqRegion ?_
  refine sq (r_move (v := i64 (bit)) rfl) ?_
  refine sq (r_lssI (a := bit) (b := (0 : Int)) rfl rfl) ?_
  refine sq (r_move (v := .bool (decide ((bit : Int) < (0 : Int)))) rfl) ?_
  by_cases g12 : (bit : Int) < (0 : Int)
  · skip
    refine skAny (wantedSome (d' := 27) (b := true) rfl rfl (congrArg Value.bool (decide_eq_true g12))) ?_
    refine skAny (wantedSome (d' := 27) (b := true) rfl rfl (congrArg Value.bool (decide_eq_true g12))) ?_
    refine skAny (wantedSome (d' := 27) (b := true) rfl rfl (congrArg Value.bool (decide_eq_true g12))) ?_
    refine skAny (wantedSome (d' := 27) (b := true) rfl rfl (congrArg Value.bool (decide_eq_true g12))) ?_
    refine skAny (wantedSome (d' := 27) (b := true) rfl rfl (congrArg Value.bool (decide_eq_true g12))) ?_
    refine sq (r_pickT (u := .bool (true)) (congrArg Value.bool (decide_eq_true g12)) rfl) ?_
    refine wend ?_
    refine condTrue rfl ?_
    refine seqRegion ?_
    refine sq (r_loadA (cs' := #[.slice aa l.length ac, .slice oa on oc]) agg42 siz42 (H11.get (k := 1) rfl) (off := 0) rfl (by exact Nat.le_of_ble_eq_true rfl) (by rfl)) ?_
    refine d_store (k := 0) (v := .agg #[.slice aa l.length ac, .slice oa on oc]) (cs' := #[.slice aa l.length ac, .slice oa on oc]) H11 rfl rfl rfl siz42 (by rfl) (by intro u hu; simp [Value.cells] at hu; first | (subst hu; rfl) | (rcases hu with rfl | rfl <;> rfl)) (by exact Nat.le_of_ble_eq_true rfl) (by rfl) ?_
    intro w13 H14 hC15
    have H14' := H14.as (L' := [(some b5, .cells #[.slice aa l.length ac, .slice oa on oc] 42 (0, 0)), (some b1, .cells #[.slice aa l.length ac, .slice oa on oc] 42 (0, 0))]) rfl
    clear H14
    refine sq (r_assign (v := i64 ((1 : Int))) rfl) ?_
    refine wend ?_
    refine retAny ?_
    refine thenRet ?_
    refine retG (rs := [.cell 8 42, .tmp 9]) (vs := [.agg #[.slice aa l.length ac, .slice oa on oc], i64 ((1 : Int))]) rfl ⟨r_loadA (cs' := #[.slice aa l.length ac, .slice oa on oc]) agg42 siz42 (H14'.get (k := 0) rfl) (off := 0) rfl (by exact Nat.le_of_ble_eq_true rfl) (by rfl), ⟨rfl, rfl⟩, trivial⟩ ?_
    exact ⟨_, rfl, rfl, H14'.chg⟩
  · skip
    refine sqAny (v := i64 (bit)) (w' := w9) (wantedSome (d' := 27) (b := false) rfl rfl (congrArg Value.bool (decide_eq_false g12))) (r_move (v := i64 (bit)) rfl) ?_
    refine sqAny (v := i64 (bit / (8 : Int))) (w' := w9) (wantedSome (d' := 27) (b := false) rfl rfl (congrArg Value.bool (decide_eq_false g12))) (r_quoI (a := bit) (b := (8 : Int)) rfl rfl (by omega)) ?_
    refine sqAny (v := .string (strB (l.getD i []))) (w' := w9) (wantedSome (d' := 27) (b := false) rfl rfl (congrArg Value.bool (decide_eq_false g12))) (r_move (v := .string (strB (l.getD i []))) rfl) ?_
    refine sqAny (v := i64 (((l.getD i []).length : Nat))) (w' := w9) (wantedSome (d' := 27) (b := false) rfl rfl (congrArg Value.bool (decide_eq_false g12))) (r_lenStB (l := l.getD i []) und9 rfl) ?_
    refine sqAny (v := .bool (true)) (w' := w9) (wantedSome (d' := 27) (b := false) rfl rfl (congrArg Value.bool (decide_eq_false g12))) ((r_geqI (a := bit / (8 : Int)) (b := ((l.getD i []).length : Nat)) rfl rfl).as (v' := .bool (true)) (by exact congrArg Value.bool (decide_eq_true (by omega)))) ?_
    refine sq (r_pickF (v := .bool (true)) (congrArg Value.bool (decide_eq_false g12)) rfl) ?_
    refine wend ?_
    refine condTrue rfl ?_
    refine seqRegion ?_
    refine sq (r_loadA (cs' := #[.slice aa l.length ac, .slice oa on oc]) agg42 siz42 (H11.get (k := 1) rfl) (off := 0) rfl (by exact Nat.le_of_ble_eq_true rfl) (by rfl)) ?_
    refine d_store (k := 0) (v := .agg #[.slice aa l.length ac, .slice oa on oc]) (cs' := #[.slice aa l.length ac, .slice oa on oc]) H11 rfl rfl rfl siz42 (by rfl) (by intro u hu; simp [Value.cells] at hu; first | (subst hu; rfl) | (rcases hu with rfl | rfl <;> rfl)) (by exact Nat.le_of_ble_eq_true rfl) (by rfl) ?_
    intro w16 H17 hC18
    have H17' := H17.as (L' := [(some b5, .cells #[.slice aa l.length ac, .slice oa on oc] 42 (0, 0)), (some b1, .cells #[.slice aa l.length ac, .slice oa on oc] 42 (0, 0))]) rfl
    clear H17
    refine sq (r_assign (v := i64 ((1 : Int))) rfl) ?_
    refine wend ?_
    refine retAny ?_
    refine thenRet ?_
    refine retG (rs := [.cell 8 42, .tmp 9]) (vs := [.agg #[.slice aa l.length ac, .slice oa on oc], i64 ((1 : Int))]) rfl ⟨r_loadA (cs' := #[.slice aa l.length ac, .slice oa on oc]) agg42 siz42 (H17'.get (k := 0) rfl) (off := 0) rfl (by exact Nat.le_of_ble_eq_true rfl) (by rfl), ⟨rfl, rfl⟩, trivial⟩ ?_
    exact ⟨_, rfl, rfl, H17'.chg⟩

theorem rflip_ok_1 (l : List (List (BitVec 8))) (aa oa : Option Addr) (ac on oc : Nat) (w : World) (i : Nat) (hi : i < l.length) (hl : l.length ≤ 64) (bit : Nat) (hbit : bit / 8 < (l.getD i []).length) (hfl : (l.getD i []).length ≤ 140737488355328) (hA : Rd ET w aa l) : Calls Tryd.prog 22 [.agg #[.slice oa on oc, .slice aa l.length ac], i64 ((1 : Int)), i64 ((i : Nat)), i64 ((bit : Nat))].toArray w (Ret fun v w' => (∃ key c sp, v = .tuple #[.agg #[.slice oa on oc, .slice (ownA key) ((l.set i (flipB (l.getD i []) bit)).length) c], i64 (0 : Int)] ∧ Sl ET key (l.set i (flipB (l.getD i []) bit)) c sp ∧ ∀ g, key = some g → w.heap.size ≤ g ∧ w'.heap[g]? = some (sob ET 9 (l.set i (flipB (l.getD i []) bit)) sp)) ∧ Ext w w') := by
  have H := Hp.start No w
  refine enter (n := 65) Tryd.func22 rfl rfl (Nat.le_of_ble_eq_true rfl) ?_
  refine seqRegion ?_
  refine q_box (v := .agg #[.slice oa on oc, .slice aa l.length ac]) (o := .cells #[.slice oa on oc, .slice aa l.length ac] 42 (0, 0)) H rfl (by rfl) ?_
  intro b1 w2 hb1 H3 hE4
  refine q_alloc (o := .cells #[.slice none 0 0, .slice none 0 0] 42 (0, 0)) H3 zer42 (by kernel_rfl) ?_
  intro b5 w6 hb5 H7 hE8
  refine sq (r_assign (v := i64 ((0 : Int))) rfl) ?_
  refine wend ?_
  refine seqRegion ?_
  refine sq (r_loadA (cs' := #[.slice oa on oc, .slice aa l.length ac]) agg42 siz42 (H7.get (k := 1) rfl) (off := 0) rfl (by exact Nat.le_of_ble_eq_true rfl) (by rfl)) ?_
  refine sq (r_move (v := i64 ((1 : Int))) rfl) ?_
  refine sq (r_move (v := i64 ((i : Nat))) rfl) ?_
  refine c_call (vs := [.agg #[.slice oa on oc, .slice aa l.length ac], i64 ((1 : Int)), i64 ((i : Nat))]) call39 rfl (rat_hit_1 l aa oa ac on oc w6 i hi (hA.ext H7.chg)) ?_
  rintro _ w9 ⟨rfl, hE10⟩
  have H11 := H7.ext hE10
  refine sq (r_move (v := .tuple #[.string (strB (l.getD i [])), i64 ((0 : Int))]) rfl) ?_
  refine sq (r_extract (vs := #[.string (strB (l.getD i [])), i64 ((0 : Int))]) rfl rfl) ?_
  refine sq (r_extract (vs := #[.string (strB (l.getD i [])), i64 ((0 : Int))]) rfl rfl) ?_
  refine sq (r_assign (v := .string (strB (l.getD i []))) rfl) ?_
  refine sq (r_assign (v := i64 ((0 : Int))) rfl) ?_
  refine wend ?_
  refine seqAny ?_
  refine seqRegion ?_
  refine sq (r_move (v := i64 ((0 : Int))) rfl) ?_
  refine sq ((r_neqI (a := (0 : Int)) (b := (0 : Int)) rfl rfl).as (v' := .bool (false)) (by rfl)) ?_
  refine wend ?_
  refine condFalse rfl ?_
  refine skipAny ?_
  refine thenNormal ?_
  refine seqAny ?_
  refine seqRegion ?_
  refine sq (r_move (v := i64 ((bit : Nat))) rfl) ?_
  refine sq ((r_lssI (a := (bit : Nat)) (b := (0 : Int)) rfl rfl).as (v' := .bool (false)) (by exact congrArg Value.bool (decide_eq_false (by omega)))) ?_
  refine sq (r_move (v := .bool (false)) rfl) ?_
  refine sqAny (v := i64 ((bit : Nat))) (w' := w9) (wantedSome (d' := 27) (b := false) rfl rfl rfl) (r_move (v := i64 ((bit : Nat))) rfl) ?_
  refine sqAny (v := i64 ((bit : Nat) / (8 : Int))) (w' := w9) (wantedSome (d' := 27) (b := false) rfl rfl rfl) (r_quoI (a := (bit : Nat)) (b := (8 : Int)) rfl rfl (by omega)) ?_
  refine sqAny (v := .string (strB (l.getD i []))) (w' := w9) (wantedSome (d' := 27) (b := false) rfl rfl rfl) (r_move (v := .string (strB (l.getD i []))) rfl) ?_
  refine sqAny (v := i64 (((l.getD i []).length : Nat))) (w' := w9) (wantedSome (d' := 27) (b := false) rfl rfl rfl) (r_lenStB (l := l.getD i []) und9 rfl) ?_
  refine sqAny (v := .bool (false)) (w' := w9) (wantedSome (d' := 27) (b := false) rfl rfl rfl) ((r_geqI (a := (bit : Nat) / (8 : Int)) (b := ((l.getD i []).length : Nat)) rfl rfl).as (v' := .bool (false)) (by exact congrArg Value.bool (decide_eq_false (by omega)))) ?_
  refine sq (r_pickF (v := .bool (false)) rfl rfl) ?_
  refine wend ?_
  refine condFalse rfl ?_
  refine skipAny ?_
  refine thenNormal ?_
  refine seqRegion ?_
  refine sq (r_move (v := .string (strB (l.getD i []))) rfl) ?_
  refine q_toBytes (l := l.getD i []) H11 und9 und30 und5 rfl ?_
  intro g12 c13 sp14 w15 H16 hE17
  refine sq (r_assign (v := .slice (ownA (some g12)) ((l.getD i []).length) c13) rfl) ?_
  refine wend ?_
  refine seqAny ?_
  refine drawC (m := 14) [0, 0, 2, 0, 0, 16, 56, 120, 0, 256, 768, 2040, 4095, 8191] [13] (fun q vs w' => match q, vs with | 0, [] => Hp No w w' [((some g12), sobF 5 (l.getD i []) sp14), (some b5, .cells #[.slice none 0 0, .slice none 0 0] 42 (0, 0)), (some b1, .cells #[.slice oa on oc, .slice aa l.length ac] 42 (0, 0))] | 1, [_] => True ∧ Hp No w w' [((some g12), sobF 5 ((l.getD i []).set (bit / 8) (((l.getD i []).getD (bit / 8) 0#8) ^^^ ((1#8) <<< (bit % 8 : Nat)))) sp14), (some b5, .cells #[.slice none 0 0, .slice none 0 0] 42 (0, 0)), (some b1, .cells #[.slice oa on oc, .slice aa l.length ac] 42 (0, 0))] | _, _ => False) mixed (by kernel_rfl) (by kernel_rfl) H16.drew ?_
  refine WalkC.look rfl (fun _ => .slice (ownA (some g12)) ((l.getD i []).length) c13) (fun _ _ _ => rfl) (fun q r uw _ _ _ _ => Gives.run rfl (r_move (v := .slice (ownA (some g12)) ((l.getD i []).length) c13) rfl) ⟨rfl, rfl⟩) ?_
  refine WalkC.look rfl (fun _ => i64 ((bit : Nat))) (fun _ _ _ => rfl) (fun q r uw _ _ _ _ => Gives.run rfl (r_move (v := i64 ((bit : Nat))) rfl) ⟨rfl, rfl⟩) ?_
  refine WalkC.look rfl (fun _ => i64 ((bit : Nat) / (8 : Int))) (fun _ _ _ => rfl) (fun q r uw _ _ _ _ => Gives.run rfl (r_quoI (a := (bit : Nat)) (b := (8 : Int)) rfl rfl (by omega)) ⟨rfl, rfl⟩) ?_
  refine WalkC.look rfl (fun _ => .slice (ownA (some g12)) ((l.getD i []).length) c13) (fun _ _ _ => rfl) (fun q r uw _ _ _ _ => Gives.run rfl (r_move (v := .slice (ownA (some g12)) ((l.getD i []).length) c13) rfl) ⟨rfl, rfl⟩) ?_
  refine WalkC.look rfl (fun _ => i64 ((bit : Nat))) (fun _ _ _ => rfl) (fun q r uw _ _ _ _ => Gives.run rfl (r_move (v := i64 ((bit : Nat))) rfl) ⟨rfl, rfl⟩) ?_
  refine WalkC.look rfl (fun _ => i64 ((bit : Nat) / (8 : Int))) (fun _ _ _ => rfl) (fun q r uw _ _ _ _ => Gives.run rfl (r_quoI (a := (bit : Nat)) (b := (8 : Int)) rfl rfl (by omega)) ⟨rfl, rfl⟩) ?_
  refine WalkC.look rfl (fun _ => .pointer (adr (ownA (some g12)) ((bit / 8) * 1))) (fun _ _ _ => rfl) (fun q r uw hlo hhi hle hF => ?_) ?_
  · skip
    have h1 : 0 ≤ q := Nat.zero_le _
    have h2 : q ≤ 0 := hhi 0 13 rfl rfl
    rcases (show q = 0 by omega) with rfl
    · skip
      have HH := hF
      exact Gives.run rfl (r_idxS (E := E8) (l := l.getD i []) (j := bit / 8) sli30 (HH.rdZ (k := 0) rfl) rfl rfl (by first | rfl | omega | (simp; omega)) (by rfl) (by omega)) ⟨rfl, rfl⟩
  refine WalkC.look rfl (fun _ => u8 ((l.getD i []).getD (bit / 8) 0#8)) (fun _ _ _ => rfl) (fun q r uw hlo hhi hle hF => ?_) ?_
  · skip
    have h1 : 0 ≤ q := Nat.zero_le _
    have h2 : q ≤ 0 := hhi 0 13 rfl rfl
    rcases (show q = 0 by omega) with rfl
    · skip
      have HH := hF
      exact Gives.run rfl (r_ldS (E := E8) (l := l.getD i []) (j := bit / 8) (v := (l.getD i []).getD (bit / 8) 0#8) fits5 (HH.rdZ (k := 0) rfl) rfl rfl (at_getD (by omega))) ⟨rfl, rfl⟩
  refine WalkC.look rfl (fun _ => i64 ((bit : Nat))) (fun _ _ _ => rfl) (fun q r uw _ _ _ _ => Gives.run rfl (r_move (v := i64 ((bit : Nat))) rfl) ⟨rfl, rfl⟩) ?_
  refine WalkC.look rfl (fun _ => i64 ((bit : Nat) % (8 : Int))) (fun _ _ _ => rfl) (fun q r uw _ _ _ _ => Gives.run rfl (r_remI (a := (bit : Nat)) (b := (8 : Int)) rfl rfl (by omega)) ⟨rfl, rfl⟩) ?_
  refine WalkC.look rfl (fun _ => u8 ((1#8) <<< (bit % 8 : Nat))) (fun _ _ _ => rfl) (fun q r uw _ _ _ _ => Gives.run rfl (r_shl8 (a := 1#8) (c := bit % 8) rfl rfl) ⟨rfl, rfl⟩) ?_
  refine WalkC.look rfl (fun _ => u8 (((l.getD i []).getD (bit / 8) 0#8) ^^^ ((1#8) <<< (bit % 8 : Nat)))) (fun _ _ _ => rfl) (fun q r uw _ _ _ _ => Gives.run rfl (r_xor8 (a := (l.getD i []).getD (bit / 8) 0#8) (b := (1#8) <<< (bit % 8 : Nat)) rfl rfl) ⟨rfl, rfl⟩) ?_
  refine WalkC.look rfl (fun _ => .pointer (adr (ownA (some g12)) ((bit / 8) * 1))) (fun _ _ _ => rfl) (fun q r uw hlo hhi hle hF => ?_) ?_
  · skip
    have h1 : 0 ≤ q := Nat.zero_le _
    have h2 : q ≤ 0 := hhi 0 13 rfl rfl
    rcases (show q = 0 by omega) with rfl
    · skip
      have HH := hF
      exact Gives.run rfl (r_idxS (E := E8) (l := l.getD i []) (j := bit / 8) sli30 (HH.rdZ (k := 0) rfl) rfl rfl (by first | rfl | omega | (simp; omega)) (by rfl) (by omega)) ⟨rfl, rfl⟩
  refine WalkC.eff 0 rfl (fun r uw18 hF20 => ?_) ?_
  · skip
    have H19 := hF20
    dsimp only [List.take, List.map, List.cons_append, List.nil_append]
    refine Gives.ofW0 rfl (fun Q' hK => ?_)
    refine d_storeF (k := 0) (l := l.getD i []) (j := bit / 8) (b := ((l.getD i []).getD (bit / 8) 0#8) ^^^ ((1#8) <<< (bit % 8 : Nat))) H19 rfl rfl (Nat.mul_one _) rfl siz5 (by omega) ?_
    intro w22 H23
    have H23' := H23.as (L' := [((some g12), sobF 5 ((l.getD i []).set (bit / 8) (((l.getD i []).getD (bit / 8) 0#8) ^^^ ((1#8) <<< (bit % 8 : Nat)))) sp14), (some b5, .cells #[.slice none 0 0, .slice none 0 0] 42 (0, 0)), (some b1, .cells #[.slice oa on oc, .slice aa l.length ac] 42 (0, 0))]) rfl
    clear H23
    exact hK _ (fun _ => ⟨trivial, H23'⟩)
  refine WalkC.nil ?_
  intro r24 w25 hF27
  obtain ⟨e13, H26⟩ := hF27
  dsimp only
  refine wnil ?_
  refine thenNormal ?_
  refine seqRegion ?_
  refine q_buildSlice (E := ET) (l := ([] : List (List (BitVec 8)))) H26 sli39 zer9 (Nat.le_of_ble_eq_true rfl) (ps := []) rfl (by exact fillAll rfl rfl) rfl ?_
  intro b28 w30 hS29 H31 hE32
  refine sq (r_move (v := i64 ((1 : Int))) rfl) ?_
  refine sq (r_fieldAddr (off' := 0) fld42_0 (by decide) (b := b1) (off := 0) rfl (by omega)) ?_
  refine sq (r_indexA (off' := 1) (j := 1) arr40 (b := b1) (off := 0) rfl rfl (by first | rfl | omega | (simp; omega)) (by omega) (by omega)) ?_
  refine sq (r_loadC (v := .slice aa l.length ac) one39 (H31.get (k := 3) rfl) (off := 1) rfl (by rfl)) ?_
  refine q_append (E := ET) (k := 0) (l := ([] : List (List (BitVec 8)))) (l2 := l) H31 rfl hS29 sli39 zer9 rfl byt9 (hA.ext H31.chg) rfl (by rfl) rfl (by rfl) (by omega) ?_
  intro key33 c34 sp35 w37 hS36 hne39 H38
  have H38' := H38.as (L' := [(key33, sob ET 9 (([] : List (List (BitVec 8))) ++ l) sp35), ((some g12), sobF 5 ((l.getD i []).set (bit / 8) (((l.getD i []).getD (bit / 8) 0#8) ^^^ ((1#8) <<< (bit % 8 : Nat)))) sp14), (some b5, .cells #[.slice none 0 0, .slice none 0 0] 42 (0, 0)), (some b1, .cells #[.slice oa on oc, .slice aa l.length ac] 42 (0, 0))]) rfl
  clear H38
  have e40 : ([] : List (List (BitVec 8))) ++ l = l := by rw [List.nil_append]
  have hS41 := hS36
  rw [e40] at hS41
  have H42 := H38'.as (L' := [(key33, sob ET 9 l sp35), ((some g12), sobF 5 ((l.getD i []).set (bit / 8) (((l.getD i []).getD (bit / 8) 0#8) ^^^ ((1#8) <<< (bit % 8 : Nat)))) sp14), (some b5, .cells #[.slice none 0 0, .slice none 0 0] 42 (0, 0)), (some b1, .cells #[.slice oa on oc, .slice aa l.length ac] 42 (0, 0))]) (by rw [e40])
  refine sq (r_assign (v := .slice (ownA key33) (0 + l.length) c34) rfl) ?_
  refine wend ?_
  refine seqRegion ?_
  refine sq (r_move (v := .slice (ownA key33) (0 + l.length) c34) rfl) ?_
  refine sq (r_move (v := i64 ((i : Nat))) rfl) ?_
  refine sq (r_move (v := .slice (ownA (some g12)) ((l.getD i []).length) c13) rfl) ?_
  refine sq (r_toStr (l := (l.getD i []).set (bit / 8) (((l.getD i []).getD (bit / 8) 0#8) ^^^ ((1#8) <<< (bit % 8 : Nat)))) und30 und5 und9 (H42.rdZ (k := 1) rfl) rfl (by exact (List.length_set ..).symm)) ?_
  refine sq (r_idxS (E := ET) (l := l) (j := i) sli39 (H42.rd (k := 0) rfl hS41) rfl rfl (by first | rfl | omega | (simp; omega)) (by exact Nat.zero_add _) (by omega)) ?_
  refine d_storeS (E := ET) (k := 0) (l := l) (j := i) (b := (l.getD i []).set (bit / 8) (((l.getD i []).getD (bit / 8) 0#8) ^^^ ((1#8) <<< (bit % 8 : Nat)))) (a := (l).getD i []) H42 rfl hS41 rfl rfl rfl rfl siz9 (at_getD (by omega)) ?_
  intro w44 hS43 H45
  have H45' := H45.as (L' := [(key33, sob ET 9 (l.set i ((l.getD i []).set (bit / 8) (((l.getD i []).getD (bit / 8) 0#8) ^^^ ((1#8) <<< (bit % 8 : Nat))))) sp35), ((some g12), sobF 5 ((l.getD i []).set (bit / 8) (((l.getD i []).getD (bit / 8) 0#8) ^^^ ((1#8) <<< (bit % 8 : Nat)))) sp14), (some b5, .cells #[.slice none 0 0, .slice none 0 0] 42 (0, 0)), (some b1, .cells #[.slice oa on oc, .slice aa l.length ac] 42 (0, 0))]) rfl
  clear H45
  refine wend ?_
  refine seqRegion ?_
  have e46 : l.set i ((l.getD i []).set (bit / 8) (((l.getD i []).getD (bit / 8) 0#8) ^^^ ((1#8) <<< (bit % 8 : Nat)))) = l.set i (flipB (l.getD i []) bit) := by rfl
  have hS47 := hS43
  rw [e46] at hS47
  have H48 := H45'.as (L' := [(key33, sob ET 9 (l.set i (flipB (l.getD i []) bit)) sp35), ((some g12), sobF 5 ((l.getD i []).set (bit / 8) (((l.getD i []).getD (bit / 8) 0#8) ^^^ ((1#8) <<< (bit % 8 : Nat)))) sp14), (some b5, .cells #[.slice none 0 0, .slice none 0 0] 42 (0, 0)), (some b1, .cells #[.slice oa on oc, .slice aa l.length ac] 42 (0, 0))]) (by rw [e46])
  refine sq (r_loadA (cs' := #[.slice oa on oc, .slice aa l.length ac]) agg42 siz42 (H48.get (k := 3) rfl) (off := 0) rfl (by exact Nat.le_of_ble_eq_true rfl) (by rfl)) ?_
  refine sq (r_move (v := i64 ((1 : Int))) rfl) ?_
  refine sq (r_move (v := .slice (ownA key33) (0 + l.length) c34) rfl) ?_
  refine c_call (vs := [.agg #[.slice oa on oc, .slice aa l.length ac], i64 ((1 : Int)), .slice (ownA key33) (0 + l.length) c34]) call40 rfl (rput_1 aa oa (ownA key33) l.length ac on oc (0 + l.length) c34 w44) ?_
  rintro _ w49 ⟨rfl, hE50⟩
  have H51 := H48.ext hE50
  refine d_store (k := 2) (v := .agg #[.slice oa on oc, .slice (ownA key33) (0 + l.length) c34]) (cs' := #[.slice oa on oc, .slice (ownA key33) (0 + l.length) c34]) H51 rfl rfl rfl siz42 (by rfl) (by intro u hu; simp [Value.cells] at hu; first | (subst hu; rfl) | (rcases hu with rfl | rfl <;> rfl)) (by exact Nat.le_of_ble_eq_true rfl) (by rfl) ?_
  intro w52 H53 hC54
  have H53' := H53.as (L' := [(key33, sob ET 9 (l.set i (flipB (l.getD i []) bit)) sp35), ((some g12), sobF 5 ((l.getD i []).set (bit / 8) (((l.getD i []).getD (bit / 8) 0#8) ^^^ ((1#8) <<< (bit % 8 : Nat)))) sp14), (some b5, .cells #[.slice oa on oc, .slice (ownA key33) (0 + l.length) c34] 42 (0, 0)), (some b1, .cells #[.slice oa on oc, .slice aa l.length ac] 42 (0, 0))]) rfl
  clear H53
  refine sq (r_assign (v := i64 ((0 : Int))) rfl) ?_
  refine wend ?_
  refine retAny ?_
  refine retG (rs := [.cell 8 42, .tmp 9]) (vs := [.agg #[.slice oa on oc, .slice (ownA key33) (0 + l.length) c34], i64 ((0 : Int))]) rfl ⟨r_loadA (cs' := #[.slice oa on oc, .slice (ownA key33) (0 + l.length) c34]) agg42 siz42 (H53'.get (k := 2) rfl) (off := 0) rfl (by exact Nat.le_of_ble_eq_true rfl) (by rfl), ⟨rfl, rfl⟩, trivial⟩ ?_
  refine ⟨_, rfl, ⟨key33, c34, sp35, ?_, hS47, fun g hg => ⟨((H53'.own _ (List.mem_of_getElem? (i := 0) rfl) g hg).resolve_left (fun h => h)), H53'.has _ (List.mem_of_getElem? (i := 0) rfl) g hg⟩⟩, H53'.chg⟩
  rw [show (l.set i (flipB (l.getD i []) bit)).length = 0 + l.length from by rw [List.length_set, Nat.zero_add]]; rfl

theorem rflip_bit_1 (l : List (List (BitVec 8))) (aa oa : Option Addr) (ac on oc : Nat) (w : World) (i : Nat) (hi : i < l.length) (bit : Int) (hb64 : bit ≤ 9223372036854775807) (hbit : bit < 0 ∨ ((l.getD i []).length : Int) ≤ bit / 8) (hA : Rd ET w aa l) : Calls Tryd.prog 22 [.agg #[.slice oa on oc, .slice aa l.length ac], i64 ((1 : Int)), i64 ((i : Nat)), i64 (bit)].toArray w (Ret fun v w' => v = .tuple #[.agg #[.slice oa on oc, .slice aa l.length ac], i64 (1 : Int)] ∧ Ext w w') := by
  have H := Hp.start No w
  refine enter (n := 65) Tryd.func22 rfl rfl (Nat.le_of_ble_eq_true rfl) ?_
  refine seqRegion ?_
  refine q_box (v := .agg #[.slice oa on oc, .slice aa l.length ac]) (o := .cells #[.slice oa on oc, .slice aa l.length ac] 42 (0, 0)) H rfl (by rfl) ?_
  intro b1 w2 hb1 H3 hE4
  refine q_alloc (o := .cells #[.slice none 0 0, .slice none 0 0] 42 (0, 0)) H3 zer42 (by kernel_rfl) ?_
  intro b5 w6 hb5 H7 hE8
  refine sq (r_assign (v := i64 ((0 : Int))) rfl) ?_
  refine wend ?_
  refine seqRegion ?_
  refine sq (r_loadA (cs' := #[.slice oa on oc, .slice aa l.length ac]) agg42 siz42 (H7.get (k := 1) rfl) (off := 0) rfl (by exact Nat.le_of_ble_eq_true rfl) (by rfl)) ?_
  refine sq (r_move (v := i64 ((1 : Int))) rfl) ?_
  refine sq (r_move (v := i64 ((i : Nat))) rfl) ?_
  refine c_call (vs := [.agg #[.slice oa on oc, .slice aa l.length ac], i64 ((1 : Int)), i64 ((i : Nat))]) call39 rfl (rat_hit_1 l aa oa ac on oc w6 i hi (hA.ext H7.chg)) ?_
  rintro _ w9 ⟨rfl, hE10⟩
  have H11 := H7.ext hE10
  refine sq (r_move (v := .tuple #[.string (strB (l.getD i [])), i64 ((0 : Int))]) rfl) ?_
  refine sq (r_extract (vs := #[.string (strB (l.getD i [])), i64 ((0 : Int))]) rfl rfl) ?_
  refine sq (r_extract (vs := #[.string (strB (l.getD i [])), i64 ((0 : Int))]) rfl rfl) ?_
  refine sq (r_assign (v := .string (strB (l.getD i []))) rfl) ?_
  refine sq (r_assign (v := i64 ((0 : Int))) rfl) ?_
  refine wend ?_
  refine seqAny ?_
  refine seqRegion ?_
  refine sq (r_move (v := i64 ((0 : Int))) rfl) ?_
  refine sq ((r_neqI (a := (0 : Int)) (b := (0 : Int)) rfl rfl).as (v' := .bool (false)) (by rfl)) ?_
  refine wend ?_
  refine condFalse rfl ?_
  refine skipAny ?_
  refine thenNormal ?_
  refine seqAny ?_
  refine seqRegion ?_
  refine sq (r_move (v := i64 (bit)) rfl) ?_
  refine sq (r_lssI (a := bit) (b := (0 : Int)) rfl rfl) ?_
  refine sq (r_move (v := .bool (decide ((bit : Int) < (0 : Int)))) rfl) ?_
  by_cases g12 : (bit : Int) < (0 : Int)
  · skip
    refine skAny (wantedSome (d' := 27) (b := true) rfl rfl (congrArg Value.bool (decide_eq_true g12))) ?_
    refine skAny (wantedSome (d' := 27) (b := true) rfl rfl (congrArg Value.bool (decide_eq_true g12))) ?_
    refine skAny (wantedSome (d' := 27) (b := true) rfl rfl (congrArg Value.bool (decide_eq_true g12))) ?_
    refine skAny (wantedSome (d' := 27) (b := true) rfl rfl (congrArg Value.bool (decide_eq_true g12))) ?_
    refine skAny (wantedSome (d' := 27) (b := true) rfl rfl (congrArg Value.bool (decide_eq_true g12))) ?_
    refine sq (r_pickT (u := .bool (true)) (congrArg Value.bool (decide_eq_true g12)) rfl) ?_
    refine wend ?_
    refine condTrue rfl ?_
    refine seqRegion ?_
    refine sq (r_loadA (cs' := #[.slice oa on oc, .slice aa l.length ac]) agg42 siz42 (H11.get (k := 1) rfl) (off := 0) rfl (by exact Nat.le_of_ble_eq_true rfl) (by rfl)) ?_
    refine d_store (k := 0) (v := .agg #[.slice oa on oc, .slice aa l.length ac]) (cs' := #[.slice oa on oc, .slice aa l.length ac]) H11 rfl rfl rfl siz42 (by rfl) (by intro u hu; simp [Value.cells] at hu; first | (subst hu; rfl) | (rcases hu with rfl | rfl <;> rfl)) (by exact Nat.le_of_ble_eq_true rfl) (by rfl) ?_
    intro w13 H14 hC15
    have H14' := H14.as (L' := [(some b5, .cells #[.slice oa on oc, .slice aa l.length ac] 42 (0, 0)), (some b1, .cells #[.slice oa on oc, .slice aa l.length ac] 42 (0, 0))]) rfl
    clear H14
    refine sq (r_assign (v := i64 ((1 : Int))) rfl) ?_
    refine wend ?_
    refine retAny ?_
    refine thenRet ?_
    refine retG (rs := [.cell 8 42, .tmp 9]) (vs := [.agg #[.slice oa on oc, .slice aa l.length ac], i64 ((1 : Int))]) rfl ⟨r_loadA (cs' := #[.slice oa on oc, .slice aa l.length ac]) agg42 siz42 (H14'.get (k := 0) rfl) (off := 0) rfl (by exact Nat.le_of_ble_eq_true rfl) (by rfl), ⟨rfl, rfl⟩, trivial⟩ ?_
    exact ⟨_, rfl, rfl, H14'.chg⟩
  · skip
    refine sqAny (v := i64 (bit)) (w' := w9) (wantedSome (d' := 27) (b := false) rfl rfl (congrArg Value.bool (decide_eq_false g12))) (r_move (v := i64 (bit)) rfl) ?_
    refine sqAny (v := i64 (bit / (8 : Int))) (w' := w9) (wantedSome (d' := 27) (b := false) rfl rfl (congrArg Value.bool (decide_eq_false g12))) (r_quoI (a := bit) (b := (8 : Int)) rfl rfl (by omega)) ?_
    refine sqAny (v := .string (strB (l.getD i []))) (w' := w9) (wantedSome (d' := 27) (b := false) rfl rfl (congrArg Value.bool (decide_eq_false g12))) (r_move (v := .string (strB (l.getD i []))) rfl) ?_
    refine sqAny (v := i64 (((l.getD i []).length : Nat))) (w' := w9) (wantedSome (d' := 27) (b := false) rfl rfl (congrArg Value.bool (decide_eq_false g12))) (r_lenStB (l := l.getD i []) und9 rfl) ?_
    refine sqAny (v := .bool (true)) (w' := w9) (wantedSome (d' := 27) (b := false) rfl rfl (congrArg Value.bool (decide_eq_false g12))) ((r_geqI (a := bit / (8 : Int)) (b := ((l.getD i []).length : Nat)) rfl rfl).as (v' := .bool (true)) (by exact congrArg Value.bool (decide_eq_true (by omega)))) ?_
    refine sq (r_pickF (v := .bool (true)) (congrArg Value.bool (decide_eq_false g12)) rfl) ?_
    refine wend ?_
    refine condTrue rfl ?_
    refine seqRegion ?_
    refine sq (r_loadA (cs' := #[.slice oa on oc, .slice aa l.length ac]) agg42 siz42 (H11.get (k := 1) rfl) (off := 0) rfl (by exact Nat.le_of_ble_eq_true rfl) (by rfl)) ?_
    refine d_store (k := 0) (v := .agg #[.slice oa on oc, .slice aa l.length ac]) (cs' := #[.slice oa on oc, .slice aa l.length ac]) H11 rfl rfl rfl siz42 (by rfl) (by intro u hu; simp [Value.cells] at hu; first | (subst hu; rfl) | (rcases hu with rfl | rfl <;> rfl)) (by exact Nat.le_of_ble_eq_true rfl) (by rfl) ?_
    intro w16 H17 hC18
    have H17' := H17.as (L' := [(some b5, .cells #[.slice oa on oc, .slice aa l.length ac] 42 (0, 0)), (some b1, .cells #[.slice oa on oc, .slice aa l.length ac] 42 (0, 0))]) rfl
    clear H17
    refine sq (r_assign (v := i64 ((1 : Int))) rfl) ?_
    refine wend ?_
    refine retAny ?_
    refine thenRet ?_
    refine retG (rs := [.cell 8 42, .tmp 9]) (vs := [.agg #[.slice oa on oc, .slice aa l.length ac], i64 ((1 : Int))]) rfl ⟨r_loadA (cs' := #[.slice oa on oc, .slice aa l.length ac]) agg42 siz42 (H17'.get (k := 0) rfl) (off := 0) rfl (by exact Nat.le_of_ble_eq_true rfl) (by rfl), ⟨rfl, rfl⟩, trivial⟩ ?_
    exact ⟨_, rfl, rfl, H17'.chg⟩
end Go.Proofs.YtpmmhpgfbfehmaaDoor.Nt
