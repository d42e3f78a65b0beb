/- The walks of the stocks. -/
import Derived.Test.YteofdmdpaejgaaaDoorCorr9
namespace Go.Proofs.YteofdmdpaejgaaaDoor.Co
open Go Go.Proofs.YteofdmdpaejgaaaDoor.Vc Go.Proofs.YteofdmdpaejgaaaDoor.Er
set_option linter.unusedVariables false
theorem agg54 : isAgg' Tryd.prog 54 = true := by kernel_rfl
theorem call25 : callable Tryd.prog 25 = true := by kernel_rfl
theorem call26 : callable Tryd.prog 26 = true := by kernel_rfl
theorem call27 : callable Tryd.prog 27 = true := by kernel_rfl
theorem siz54 : siz Tryd.prog 54 = some 3 := by kernel_rfl
set_option maxRecDepth 20000 in
set_option maxHeartbeats 1000000 in
theorem corrdeals_ok (ws : List (BitVec 64)) (wa : Option Addr) (wc : Nat) (hwc : ws.length ≤ wc) (x1 x2 x3 : Int) (sc : List Int) (sa : Option Addr) (scc : Nat) (w₀ : World) (hG : Gl w₀) (hW : Rd E64 w₀ wa ws) (hwl : ws.length * 8 ≤ 140737488355328) (hSc : Rd EI w₀ sa sc) : Calls Tryd.prog 7 [.slice wa ws.length wc, .agg (cel EI [x1, x2, x3]).toArray, .slice sa sc.length scc].toArray w₀ (Ret fun v w' => v = .bool true ∧ Ext w₀ w') := by
  have H := Hp.start No w₀
  refine enter (n := 96) Tryd.func7 rfl rfl (Nat.le_of_ble_eq_true rfl) ?_
  refine seqRegion ?_
  refine q_box (v := .agg (cel EI [x1, x2, x3]).toArray) (o := .cells (cel EI ([x1, x2, x3])).toArray 59 (0, 0)) H rfl (by rfl) ?_
  intro b1 w2 hb1 H3 hE4
  refine sq (r_assign (v := .bool (false)) rfl) ?_
  refine wend ?_
  refine seqAny ?_
  refine seqRegion ?_
  refine c_call (vs := []) call15 rfl (cawake_ok w2 (Chg.gl H3.chg (fun x => x) hG)) ?_
  rintro _ w5 ⟨rfl, hE6⟩
  have H7 := H3.ext hE6
  refine sq (r_notT rfl) ?_
  refine sq (r_move (v := .bool (false)) rfl) ?_
  refine sqAny (v := .slice wa ws.length wc) (w' := w5) (wantedSome (d' := 14) (b := false) rfl rfl rfl) (r_move (v := .slice wa ws.length wc) rfl) ?_
  refine sqAny (v := i64 ((ws.length : Nat))) (w' := w5) (wantedSome (d' := 14) (b := false) rfl rfl rfl) (r_lenS sli22 (a := wa) (m := ws.length) (c := wc) rfl) ?_
  refine sqAny (v := .bool (decide (((2000 : Int) : Int) < (ws.length : Nat)))) (w' := w5) (wantedSome (d' := 14) (b := false) rfl rfl rfl) (r_gtrI (a := (ws.length : Nat)) (b := (2000 : Int)) rfl rfl) ?_
  refine sq (r_pickF (v := .bool (decide (((2000 : Int) : Int) < (ws.length : Nat)))) rfl rfl) ?_
  refine sq (r_move (v := .bool (decide (((2000 : Int) : Int) < (ws.length : Nat)))) rfl) ?_
  by_cases g8 : ((2000 : Int) : Int) < (ws.length : Nat)
  · skip
    refine skAny (wantedSome (d' := 19) (b := true) rfl rfl (congrArg Value.bool (decide_eq_true g8))) ?_
    refine skAny (wantedSome (d' := 19) (b := true) rfl rfl (congrArg Value.bool (decide_eq_true g8))) ?_
    refine skAny (wantedSome (d' := 19) (b := true) rfl rfl (congrArg Value.bool (decide_eq_true g8))) ?_
    refine sq (r_pickT (u := .bool (true)) (congrArg Value.bool (decide_eq_true g8)) rfl) ?_
    refine wend ?_
    refine condTrue rfl ?_
    refine seqRegion ?_
    refine c_call (vs := []) call15 rfl (cawake_ok w5 (Chg.gl H7.chg (fun x => x) hG)) ?_
    rintro _ w9 ⟨rfl, hE10⟩
    have H11 := H7.ext hE10
    refine sq (r_assign (v := .bool (true)) rfl) ?_
    refine wend ?_
    refine retAny ?_
    refine thenRet ?_
    refine retG (rs := [.tmp 6]) (vs := [.bool (true)]) rfl ⟨⟨rfl, rfl⟩, trivial⟩ ?_
    exact ⟨_, rfl, rfl, H11.chg⟩
  · skip
    refine sqAny (v := .slice sa sc.length scc) (w' := w5) (wantedSome (d' := 19) (b := false) rfl rfl (congrArg Value.bool (decide_eq_false g8))) (r_move (v := .slice sa sc.length scc) rfl) ?_
    refine sqAny (v := i64 ((sc.length : Nat))) (w' := w5) (wantedSome (d' := 19) (b := false) rfl rfl (congrArg Value.bool (decide_eq_false g8))) (r_lenS sli60 (a := sa) (m := sc.length) (c := scc) rfl) ?_
    refine sqAny (v := .bool (decide (((200 : Int) : Int) < (sc.length : Nat)))) (w' := w5) (wantedSome (d' := 19) (b := false) rfl rfl (congrArg Value.bool (decide_eq_false g8))) (r_gtrI (a := (sc.length : Nat)) (b := (200 : Int)) rfl rfl) ?_
    refine sq (r_pickF (v := .bool (decide (((200 : Int) : Int) < (sc.length : Nat)))) (congrArg Value.bool (decide_eq_false g8)) rfl) ?_
    refine wend ?_
    refine condProp (((200 : Int) : Int) < (sc.length : Nat)) rfl (fun c23 => ?_) (fun c23 => ?_)
    · skip
      refine seqRegion ?_
      refine c_call (vs := []) call15 rfl (cawake_ok w5 (Chg.gl H7.chg (fun x => x) hG)) ?_
      rintro _ w12 ⟨rfl, hE13⟩
      have H14 := H7.ext hE13
      refine sq (r_assign (v := .bool (true)) rfl) ?_
      refine wend ?_
      refine retAny ?_
      refine thenRet ?_
      refine retG (rs := [.tmp 6]) (vs := [.bool (true)]) rfl ⟨⟨rfl, rfl⟩, trivial⟩ ?_
      exact ⟨_, rfl, rfl, H14.chg⟩
    · skip
      refine skipAny ?_
      refine thenNormal ?_
      by_cases hr : (0 ≤ x1 ∧ x1 ≤ 65536) ∧ (0 ≤ x2 ∧ x2 ≤ 65536) ∧ (0 ≤ x3 ∧ x3 ≤ 65536)
      · skip
        refine seqRegion ?_
        obtain ⟨n1, rfl⟩ : ∃ n : Nat, x1 = (n : Int) := ⟨x1.toNat, by omega⟩
        obtain ⟨n2, rfl⟩ : ∃ n : Nat, x2 = (n : Int) := ⟨x2.toNat, by omega⟩
        obtain ⟨n3, rfl⟩ : ∃ n : Nat, x3 = (n : Int) := ⟨x3.toNat, by omega⟩
        have hn1 : n1 ≤ 65536 := by omega
        have hn2 : n2 ≤ 65536 := by omega
        have hn3 : n3 ≤ 65536 := by omega
        refine sq (r_move (v := .slice wa ws.length wc) rfl) ?_
        refine c_call (vs := [.slice wa ws.length wc]) call17 rfl (load_ok ws (by omega) wa ws.length wc (by rfl) w5 (hW.ext H7.chg)) ?_
        rintro _ w15 ⟨⟨b17, key18, c19, sp20, rfl, hS21, HN22⟩, hE23⟩
        have H24 := (H7.join HN22).as (L' := [(some b17, .cells #[.slice (ownA key18) ws.length c19, .pointer none, i64 ((ws.length : Nat)), i64 ((0 : Nat))] 141 (0, 0)), (key18, sob E64 32 ws sp20), (some b1, .cells (cel EI ([(n1 : Nat), (n2 : Nat), (n3 : Nat)])).toArray 59 (0, 0))]) rfl
        refine sq (r_assign (v := .pointer (some ⟨b17, 0, none⟩)) rfl) ?_
        refine wend ?_
        by_cases hfit : 5 * (n1 + n2 + n3) ≤ ws.length
        · skip
          refine seqRegion ?_
          refine sq (r_move (v := .pointer (some ⟨b17, 0, none⟩)) rfl) ?_
          refine sq (r_indexA (off' := 0) (j := 0) arr59 (b := b1) (off := 0) rfl rfl (by first | rfl | omega | (simp; omega)) (by omega) (by omega)) ?_
          refine sq ((r_ld1 (E := EI) (l := [(n1 : Nat), (n2 : Nat), (n3 : Nat)]) (j := 0) (a := (n1 : Nat)) fits3 (H24.get (k := 2) rfl) (by rfl) rfl rfl).as (v' := i64 ((n1 : Nat))) (by rfl)) ?_
          refine sq (r_indexA (off' := 1) (j := 1) arr59 (b := b1) (off := 0) rfl rfl (by first | rfl | omega | (simp; omega)) (by omega) (by omega)) ?_
          refine sq ((r_ld1 (E := EI) (l := [(n1 : Nat), (n2 : Nat), (n3 : Nat)]) (j := 1) (a := (n2 : Nat)) fits3 (H24.get (k := 2) rfl) (by rfl) rfl rfl).as (v' := i64 ((n2 : Nat))) (by rfl)) ?_
          refine sq (r_indexA (off' := 2) (j := 2) arr59 (b := b1) (off := 0) rfl rfl (by first | rfl | omega | (simp; omega)) (by omega) (by omega)) ?_
          refine sq ((r_ld1 (E := EI) (l := [(n1 : Nat), (n2 : Nat), (n3 : Nat)]) (j := 2) (a := (n3 : Nat)) fits3 (H24.get (k := 2) rfl) (by rfl) rfl rfl).as (v' := i64 ((n3 : Nat))) (by rfl)) ?_
          have H25 := (H24).as (L' := ((some b17, .cells #[.slice (ownA key18) ws.length c19, .pointer none, i64 ((ws.length : Nat)), i64 ((0 : Nat))] 141 (0, 0)) :: (key18, sob E64 32 ws sp20) :: [(some b1, .cells (cel EI ([(n1 : Nat), (n2 : Nat), (n3 : Nat)])).toArray 59 (0, 0))])) rfl
          refine c_call (vs := [.pointer (some ⟨b17, 0, none⟩), i64 ((n1 : Nat)), i64 ((n2 : Nat)), i64 ((n3 : Nat))]) call16 rfl (deal_ok b17 key18 c19 sp20 ws hS21 (by omega) n1 n2 n3 (by omega) (by omega) (by omega) (by omega) [(some b1, .cells (cel EI ([(n1 : Nat), (n2 : Nat), (n3 : Nat)])).toArray 59 (0, 0))] w₀ w15 H25) ?_
          rintro _ w26 ⟨b28, b29, s30, s31, rfl, hok32, hok33, hD34, HN35⟩
          have H36 := HN35.as (L' := [(some b28, .cells #[.slice s30.t.a s30.t.l.length s30.t.c, .slice s30.b.a s30.b.l.length s30.b.c, .slice s30.o.a s30.o.l.length s30.o.c] 135 (0, 0)), (s30.t.key, sobP ETr 34 s30.t.pre s30.t.l s30.t.sp), (s30.b.key, sobP ETr 34 s30.b.pre s30.b.l s30.b.sp), (s30.o.key, sobP EOt 41 s30.o.pre s30.o.l s30.o.sp), (some b29, .cells #[.slice s31.t.a s31.t.l.length s31.t.c, .slice s31.b.a s31.b.l.length s31.b.c, .slice s31.o.a s31.o.l.length s31.o.c] 135 (0, 0)), (s31.t.key, sobP ETr 34 s31.t.pre s31.t.l s31.t.sp), (s31.b.key, sobP ETr 34 s31.b.pre s31.b.l s31.b.sp), (s31.o.key, sobP EOt 41 s31.o.pre s31.o.l s31.o.sp), (some b17, .cells #[.slice (ownA key18) ws.length c19, .pointer none, i64 ((ws.length : Nat)), i64 ((5 * (n1 + n2) + 5 * n3 : Nat))] 141 (0, 0)), (key18, sob E64 32 ws sp20), (some b1, .cells (cel EI ([(n1 : Nat), (n2 : Nat), (n3 : Nat)])).toArray 59 (0, 0))]) rfl
          refine sq (r_move (v := .tuple #[.agg #[.pointer (some ⟨b28, 0, none⟩), .pointer (some ⟨b29, 0, none⟩)], .nilIface]) rfl) ?_
          refine sq (r_extract (vs := #[.agg #[.pointer (some ⟨b28, 0, none⟩), .pointer (some ⟨b29, 0, none⟩)], .nilIface]) rfl rfl) ?_
          refine sq (r_extract (vs := #[.agg #[.pointer (some ⟨b28, 0, none⟩), .pointer (some ⟨b29, 0, none⟩)], .nilIface]) rfl rfl) ?_
          refine q_alloc (o := .cells #[.pointer none, .pointer none] 25 (0, 0)) H36 zer25 (by kernel_rfl) ?_
          intro b37 w38 hb37 H39 hE40
          refine d_store (k := 0) (v := .agg #[.pointer (some ⟨b28, 0, none⟩), .pointer (some ⟨b29, 0, none⟩)]) (cs' := #[.pointer (some ⟨b28, 0, none⟩), .pointer (some ⟨b29, 0, none⟩)]) H39 rfl rfl rfl siz25 (by rfl) (by intro u hu; simp [Value.cells] at hu; first | (subst hu; rfl) | (rcases hu with rfl | rfl <;> rfl)) (by exact Nat.le_of_ble_eq_true rfl) (by rfl) ?_
          intro w41 H42 hC43
          have H42' := H42.as (L' := [(some b37, .cells #[.pointer (some ⟨b28, 0, none⟩), .pointer (some ⟨b29, 0, none⟩)] 25 (0, 0)), (some b28, .cells #[.slice s30.t.a s30.t.l.length s30.t.c, .slice s30.b.a s30.b.l.length s30.b.c, .slice s30.o.a s30.o.l.length s30.o.c] 135 (0, 0)), (s30.t.key, sobP ETr 34 s30.t.pre s30.t.l s30.t.sp), (s30.b.key, sobP ETr 34 s30.b.pre s30.b.l s30.b.sp), (s30.o.key, sobP EOt 41 s30.o.pre s30.o.l s30.o.sp), (some b29, .cells #[.slice s31.t.a s31.t.l.length s31.t.c, .slice s31.b.a s31.b.l.length s31.b.c, .slice s31.o.a s31.o.l.length s31.o.c] 135 (0, 0)), (s31.t.key, sobP ETr 34 s31.t.pre s31.t.l s31.t.sp), (s31.b.key, sobP ETr 34 s31.b.pre s31.b.l s31.b.sp), (s31.o.key, sobP EOt 41 s31.o.pre s31.o.l s31.o.sp), (some b17, .cells #[.slice (ownA key18) ws.length c19, .pointer none, i64 ((ws.length : Nat)), i64 ((5 * (n1 + n2) + 5 * n3 : Nat))] 141 (0, 0)), (key18, sob E64 32 ws sp20), (some b1, .cells (cel EI ([(n1 : Nat), (n2 : Nat), (n3 : Nat)])).toArray 59 (0, 0))]) rfl
          clear H42
          refine sq (r_assign (v := .nilIface) rfl) ?_
          refine wend ?_
          refine seqRegion ?_
          refine sq (r_move (v := .slice wa ws.length wc) rfl) ?_
          refine sq (r_indexA (off' := 0) (j := 0) arr59 (b := b1) (off := 0) rfl rfl (by first | rfl | omega | (simp; omega)) (by omega) (by omega)) ?_
          refine sq ((r_ld1 (E := EI) (l := [(n1 : Nat), (n2 : Nat), (n3 : Nat)]) (j := 0) (a := (n1 : Nat)) fits3 (H42'.get (k := 11) rfl) (by rfl) rfl rfl).as (v' := i64 ((n1 : Nat))) (by rfl)) ?_
          refine sq (r_indexA (off' := 1) (j := 1) arr59 (b := b1) (off := 0) rfl rfl (by first | rfl | omega | (simp; omega)) (by omega) (by omega)) ?_
          refine sq ((r_ld1 (E := EI) (l := [(n1 : Nat), (n2 : Nat), (n3 : Nat)]) (j := 1) (a := (n2 : Nat)) fits3 (H42'.get (k := 11) rfl) (by rfl) rfl rfl).as (v' := i64 ((n2 : Nat))) (by rfl)) ?_
          refine sq (r_indexA (off' := 2) (j := 2) arr59 (b := b1) (off := 0) rfl rfl (by first | rfl | omega | (simp; omega)) (by omega) (by omega)) ?_
          refine sq ((r_ld1 (E := EI) (l := [(n1 : Nat), (n2 : Nat), (n3 : Nat)]) (j := 2) (a := (n3 : Nat)) fits3 (H42'.get (k := 11) rfl) (by rfl) rfl rfl).as (v' := i64 ((n3 : Nat))) (by rfl)) ?_
          refine c_call (vs := [.slice wa ws.length wc, i64 ((n1 : Nat)), i64 ((n2 : Nat)), i64 ((n3 : Nat))]) call25 rfl (rdeal_ok ws wa wc n1 n2 n3 (by omega) (by omega) (by omega) w41 (hW.ext H42'.chg) (by omega) (by omega)) ?_
          rintro _ w44 ⟨key46, c47, sp48, key50, c51, sp52, key54, c55, sp56, key58, c59, sp60, key62, c63, sp64, key66, c67, sp68, rfl, hS49, hS53, hS57, hS61, hS65, hS69, HN70⟩
          have H71 := (H42'.join HN70).as (L' := [(key46, sob ETr 34 (rowsOf (trA ws) 0 n1) sp48), (key50, sob ETr 34 (rowsOf (trA ws) (5 * n1) n2) sp52), (key54, sob EOt 41 (rowsOf (otA ws) (5 * (n1 + n2)) n3) sp56), (key58, sob ETr 34 (rowsOf (trB ws) 0 n1) sp60), (key62, sob ETr 34 (rowsOf (biB ws) (5 * n1) n2) sp64), (key66, sob EOt 41 (rowsOf (otB ws) (5 * (n1 + n2)) n3) sp68), (some b37, .cells #[.pointer (some ⟨b28, 0, none⟩), .pointer (some ⟨b29, 0, none⟩)] 25 (0, 0)), (some b28, .cells #[.slice s30.t.a s30.t.l.length s30.t.c, .slice s30.b.a s30.b.l.length s30.b.c, .slice s30.o.a s30.o.l.length s30.o.c] 135 (0, 0)), (s30.t.key, sobP ETr 34 s30.t.pre s30.t.l s30.t.sp), (s30.b.key, sobP ETr 34 s30.b.pre s30.b.l s30.b.sp), (s30.o.key, sobP EOt 41 s30.o.pre s30.o.l s30.o.sp), (some b29, .cells #[.slice s31.t.a s31.t.l.length s31.t.c, .slice s31.b.a s31.b.l.length s31.b.c, .slice s31.o.a s31.o.l.length s31.o.c] 135 (0, 0)), (s31.t.key, sobP ETr 34 s31.t.pre s31.t.l s31.t.sp), (s31.b.key, sobP ETr 34 s31.b.pre s31.b.l s31.b.sp), (s31.o.key, sobP EOt 41 s31.o.pre s31.o.l s31.o.sp), (some b17, .cells #[.slice (ownA key18) ws.length c19, .pointer none, i64 ((ws.length : Nat)), i64 ((5 * (n1 + n2) + 5 * n3 : Nat))] 141 (0, 0)), (key18, sob E64 32 ws sp20), (some b1, .cells (cel EI ([(n1 : Nat), (n2 : Nat), (n3 : Nat)])).toArray 59 (0, 0))]) rfl
          refine sq (r_move (v := .tuple #[.agg #[.slice (ownA key46) ((rowsOf (trA ws) 0 n1).length) c47, .slice (ownA key50) ((rowsOf (trA ws) (5 * n1) n2).length) c51, .slice (ownA key54) ((rowsOf (otA ws) (5 * (n1 + n2)) n3).length) c55, .slice (ownA key58) ((rowsOf (trB ws) 0 n1).length) c59, .slice (ownA key62) ((rowsOf (biB ws) (5 * n1) n2).length) c63, .slice (ownA key66) ((rowsOf (otB ws) (5 * (n1 + n2)) n3).length) c67], i64 ((0 : Int))]) rfl) ?_
          refine sq (r_extract (vs := #[.agg #[.slice (ownA key46) ((rowsOf (trA ws) 0 n1).length) c47, .slice (ownA key50) ((rowsOf (trA ws) (5 * n1) n2).length) c51, .slice (ownA key54) ((rowsOf (otA ws) (5 * (n1 + n2)) n3).length) c55, .slice (ownA key58) ((rowsOf (trB ws) 0 n1).length) c59, .slice (ownA key62) ((rowsOf (biB ws) (5 * n1) n2).length) c63, .slice (ownA key66) ((rowsOf (otB ws) (5 * (n1 + n2)) n3).length) c67], i64 ((0 : Int))]) rfl rfl) ?_
          refine sq (r_extract (vs := #[.agg #[.slice (ownA key46) ((rowsOf (trA ws) 0 n1).length) c47, .slice (ownA key50) ((rowsOf (trA ws) (5 * n1) n2).length) c51, .slice (ownA key54) ((rowsOf (otA ws) (5 * (n1 + n2)) n3).length) c55, .slice (ownA key58) ((rowsOf (trB ws) 0 n1).length) c59, .slice (ownA key62) ((rowsOf (biB ws) (5 * n1) n2).length) c63, .slice (ownA key66) ((rowsOf (otB ws) (5 * (n1 + n2)) n3).length) c67], i64 ((0 : Int))]) rfl rfl) ?_
          refine q_alloc (o := .cells #[.slice none 0 0, .slice none 0 0, .slice none 0 0, .slice none 0 0, .slice none 0 0, .slice none 0 0] 61 (0, 0)) H71 zer61 (by kernel_rfl) ?_
          intro b72 w73 hb72 H74 hE75
          refine d_store (k := 0) (v := .agg #[.slice (ownA key46) ((rowsOf (trA ws) 0 n1).length) c47, .slice (ownA key50) ((rowsOf (trA ws) (5 * n1) n2).length) c51, .slice (ownA key54) ((rowsOf (otA ws) (5 * (n1 + n2)) n3).length) c55, .slice (ownA key58) ((rowsOf (trB ws) 0 n1).length) c59, .slice (ownA key62) ((rowsOf (biB ws) (5 * n1) n2).length) c63, .slice (ownA key66) ((rowsOf (otB ws) (5 * (n1 + n2)) n3).length) c67]) (cs' := #[.slice (ownA key46) ((rowsOf (trA ws) 0 n1).length) c47, .slice (ownA key50) ((rowsOf (trA ws) (5 * n1) n2).length) c51, .slice (ownA key54) ((rowsOf (otA ws) (5 * (n1 + n2)) n3).length) c55, .slice (ownA key58) ((rowsOf (trB ws) 0 n1).length) c59, .slice (ownA key62) ((rowsOf (biB ws) (5 * n1) n2).length) c63, .slice (ownA key66) ((rowsOf (otB ws) (5 * (n1 + n2)) n3).length) c67]) H74 rfl rfl rfl siz61 (by rfl) (by intro u hu; simp [Value.cells] at hu; first | (subst hu; rfl) | (rcases hu with rfl | rfl | rfl | rfl | rfl | rfl <;> rfl)) (by exact Nat.le_of_ble_eq_true rfl) (by rfl) ?_
          intro w76 H77 hC78
          have H77' := H77.as (L' := [(some b72, .cells #[.slice (ownA key46) ((rowsOf (trA ws) 0 n1).length) c47, .slice (ownA key50) ((rowsOf (trA ws) (5 * n1) n2).length) c51, .slice (ownA key54) ((rowsOf (otA ws) (5 * (n1 + n2)) n3).length) c55, .slice (ownA key58) ((rowsOf (trB ws) 0 n1).length) c59, .slice (ownA key62) ((rowsOf (biB ws) (5 * n1) n2).length) c63, .slice (ownA key66) ((rowsOf (otB ws) (5 * (n1 + n2)) n3).length) c67] 61 (0, 0)), (key46, sob ETr 34 (rowsOf (trA ws) 0 n1) sp48), (key50, sob ETr 34 (rowsOf (trA ws) (5 * n1) n2) sp52), (key54, sob EOt 41 (rowsOf (otA ws) (5 * (n1 + n2)) n3) sp56), (key58, sob ETr 34 (rowsOf (trB ws) 0 n1) sp60), (key62, sob ETr 34 (rowsOf (biB ws) (5 * n1) n2) sp64), (key66, sob EOt 41 (rowsOf (otB ws) (5 * (n1 + n2)) n3) sp68), (some b37, .cells #[.pointer (some ⟨b28, 0, none⟩), .pointer (some ⟨b29, 0, none⟩)] 25 (0, 0)), (some b28, .cells #[.slice s30.t.a s30.t.l.length s30.t.c, .slice s30.b.a s30.b.l.length s30.b.c, .slice s30.o.a s30.o.l.length s30.o.c] 135 (0, 0)), (s30.t.key, sobP ETr 34 s30.t.pre s30.t.l s30.t.sp), (s30.b.key, sobP ETr 34 s30.b.pre s30.b.l s30.b.sp), (s30.o.key, sobP EOt 41 s30.o.pre s30.o.l s30.o.sp), (some b29, .cells #[.slice s31.t.a s31.t.l.length s31.t.c, .slice s31.b.a s31.b.l.length s31.b.c, .slice s31.o.a s31.o.l.length s31.o.c] 135 (0, 0)), (s31.t.key, sobP ETr 34 s31.t.pre s31.t.l s31.t.sp), (s31.b.key, sobP ETr 34 s31.b.pre s31.b.l s31.b.sp), (s31.o.key, sobP EOt 41 s31.o.pre s31.o.l s31.o.sp), (some b17, .cells #[.slice (ownA key18) ws.length c19, .pointer none, i64 ((ws.length : Nat)), i64 ((5 * (n1 + n2) + 5 * n3 : Nat))] 141 (0, 0)), (key18, sob E64 32 ws sp20), (some b1, .cells (cel EI ([(n1 : Nat), (n2 : Nat), (n3 : Nat)])).toArray 59 (0, 0))]) rfl
          clear H77
          refine sq (r_assign (v := i64 ((0 : Int))) rfl) ?_
          refine wend ?_
          refine seqAny ?_
          refine seqRegion ?_
          refine sq (r_move (v := .nilIface) rfl) ?_
          refine c_call (vs := [.nilIface]) call26 rfl (codenil_ok w76) ?_
          rintro _ w79 ⟨rfl, hE80⟩
          have H81 := H77'.ext hE80
          refine sq (r_move (v := i64 ((0 : Int))) rfl) ?_
          refine sq ((r_neqI (a := (0 : Int)) (b := (0 : Int)) rfl rfl).as (v' := .bool (false)) (by rfl)) ?_
          refine wend ?_
          refine condFalse rfl ?_
          refine skipAny ?_
          refine thenNormal ?_
          refine seqAny ?_
          refine seqRegion ?_
          refine sq (r_move (v := i64 ((0 : Int))) rfl) ?_
          refine sq ((r_neqI (a := (0 : Int)) (b := (0 : Int)) rfl rfl).as (v' := .bool (false)) (by rfl)) ?_
          refine wend ?_
          refine condFalse rfl ?_
          refine skipAny ?_
          refine thenNormal ?_
          refine seqAny ?_
          refine drawC (m := 29) [0, 1, 0, 4, 0, 16, 60, 0, 128, 508, 1020, 2047, 4095, 8191, 16383, 8191, 40959, 8191, 262143, 524287, 1048575, 2097151, 4194303, 2097151, 10485759, 2097151, 67108863, 134217727, 268435455] [1, 18, 26] (fun q vs w' => match q, vs with | 0, [] => Hp No w₀ w' [(some b72, .cells #[.slice (ownA key46) ((rowsOf (trA ws) 0 n1).length) c47, .slice (ownA key50) ((rowsOf (trA ws) (5 * n1) n2).length) c51, .slice (ownA key54) ((rowsOf (otA ws) (5 * (n1 + n2)) n3).length) c55, .slice (ownA key58) ((rowsOf (trB ws) 0 n1).length) c59, .slice (ownA key62) ((rowsOf (biB ws) (5 * n1) n2).length) c63, .slice (ownA key66) ((rowsOf (otB ws) (5 * (n1 + n2)) n3).length) c67] 61 (0, 0)), (key46, sob ETr 34 (rowsOf (trA ws) 0 n1) sp48), (key50, sob ETr 34 (rowsOf (trA ws) (5 * n1) n2) sp52), (key54, sob EOt 41 (rowsOf (otA ws) (5 * (n1 + n2)) n3) sp56), (key58, sob ETr 34 (rowsOf (trB ws) 0 n1) sp60), (key62, sob ETr 34 (rowsOf (biB ws) (5 * n1) n2) sp64), (key66, sob EOt 41 (rowsOf (otB ws) (5 * (n1 + n2)) n3) sp68), (some b37, .cells #[.pointer (some ⟨b28, 0, none⟩), .pointer (some ⟨b29, 0, none⟩)] 25 (0, 0)), (some b28, .cells #[.slice s30.t.a s30.t.l.length s30.t.c, .slice s30.b.a s30.b.l.length s30.b.c, .slice s30.o.a s30.o.l.length s30.o.c] 135 (0, 0)), (s30.t.key, sobP ETr 34 s30.t.pre s30.t.l s30.t.sp), (s30.b.key, sobP ETr 34 s30.b.pre s30.b.l s30.b.sp), (s30.o.key, sobP EOt 41 s30.o.pre s30.o.l s30.o.sp), (some b29, .cells #[.slice s31.t.a s31.t.l.length s31.t.c, .slice s31.b.a s31.b.l.length s31.b.c, .slice s31.o.a s31.o.l.length s31.o.c] 135 (0, 0)), (s31.t.key, sobP ETr 34 s31.t.pre s31.t.l s31.t.sp), (s31.b.key, sobP ETr 34 s31.b.pre s31.b.l s31.b.sp), (s31.o.key, sobP EOt 41 s31.o.pre s31.o.l s31.o.sp), (some b17, .cells #[.slice (ownA key18) ws.length c19, .pointer none, i64 ((ws.length : Nat)), i64 ((5 * (n1 + n2) + 5 * n3 : Nat))] 141 (0, 0)), (key18, sob E64 32 ws sp20), (some b1, .cells (cel EI ([(n1 : Nat), (n2 : Nat), (n3 : Nat)])).toArray 59 (0, 0))] | 1, [v0] => v0 = i64 ((5 * (n1 + n2) + 5 * n3 : Nat)) ∧ Hp No w₀ w' [(some b72, .cells #[.slice (ownA key46) ((rowsOf (trA ws) 0 n1).length) c47, .slice (ownA key50) ((rowsOf (trA ws) (5 * n1) n2).length) c51, .slice (ownA key54) ((rowsOf (otA ws) (5 * (n1 + n2)) n3).length) c55, .slice (ownA key58) ((rowsOf (trB ws) 0 n1).length) c59, .slice (ownA key62) ((rowsOf (biB ws) (5 * n1) n2).length) c63, .slice (ownA key66) ((rowsOf (otB ws) (5 * (n1 + n2)) n3).length) c67] 61 (0, 0)), (key46, sob ETr 34 (rowsOf (trA ws) 0 n1) sp48), (key50, sob ETr 34 (rowsOf (trA ws) (5 * n1) n2) sp52), (key54, sob EOt 41 (rowsOf (otA ws) (5 * (n1 + n2)) n3) sp56), (key58, sob ETr 34 (rowsOf (trB ws) 0 n1) sp60), (key62, sob ETr 34 (rowsOf (biB ws) (5 * n1) n2) sp64), (key66, sob EOt 41 (rowsOf (otB ws) (5 * (n1 + n2)) n3) sp68), (some b37, .cells #[.pointer (some ⟨b28, 0, none⟩), .pointer (some ⟨b29, 0, none⟩)] 25 (0, 0)), (some b28, .cells #[.slice s30.t.a s30.t.l.length s30.t.c, .slice s30.b.a s30.b.l.length s30.b.c, .slice s30.o.a s30.o.l.length s30.o.c] 135 (0, 0)), (s30.t.key, sobP ETr 34 s30.t.pre s30.t.l s30.t.sp), (s30.b.key, sobP ETr 34 s30.b.pre s30.b.l s30.b.sp), (s30.o.key, sobP EOt 41 s30.o.pre s30.o.l s30.o.sp), (some b29, .cells #[.slice s31.t.a s31.t.l.length s31.t.c, .slice s31.b.a s31.b.l.length s31.b.c, .slice s31.o.a s31.o.l.length s31.o.c] 135 (0, 0)), (s31.t.key, sobP ETr 34 s31.t.pre s31.t.l s31.t.sp), (s31.b.key, sobP ETr 34 s31.b.pre s31.b.l s31.b.sp), (s31.o.key, sobP EOt 41 s31.o.pre s31.o.l s31.o.sp), (some b17, .cells #[.slice (ownA key18) ws.length c19, .pointer none, i64 ((ws.length : Nat)), i64 ((5 * (n1 + n2) + 5 * n3 : Nat))] 141 (0, 0)), (key18, sob E64 32 ws sp20), (some b1, .cells (cel EI ([(n1 : Nat), (n2 : Nat), (n3 : Nat)])).toArray 59 (0, 0))] | 2, [v0, v1] => v0 = i64 ((5 * (n1 + n2) + 5 * n3 : Nat)) ∧ v1 = .bool (true) ∧ Hp No w₀ w' [(some b72, .cells #[.slice (ownA key46) ((rowsOf (trA ws) 0 n1).length) c47, .slice (ownA key50) ((rowsOf (trA ws) (5 * n1) n2).length) c51, .slice (ownA key54) ((rowsOf (otA ws) (5 * (n1 + n2)) n3).length) c55, .slice (ownA key58) ((rowsOf (trB ws) 0 n1).length) c59, .slice (ownA key62) ((rowsOf (biB ws) (5 * n1) n2).length) c63, .slice (ownA key66) ((rowsOf (otB ws) (5 * (n1 + n2)) n3).length) c67] 61 (0, 0)), (key46, sob ETr 34 (rowsOf (trA ws) 0 n1) sp48), (key50, sob ETr 34 (rowsOf (trA ws) (5 * n1) n2) sp52), (key54, sob EOt 41 (rowsOf (otA ws) (5 * (n1 + n2)) n3) sp56), (key58, sob ETr 34 (rowsOf (trB ws) 0 n1) sp60), (key62, sob ETr 34 (rowsOf (biB ws) (5 * n1) n2) sp64), (key66, sob EOt 41 (rowsOf (otB ws) (5 * (n1 + n2)) n3) sp68), (some b37, .cells #[.pointer (some ⟨b28, 0, none⟩), .pointer (some ⟨b29, 0, none⟩)] 25 (0, 0)), (some b29, .cells #[.slice s31.t.a s31.t.l.length s31.t.c, .slice s31.b.a s31.b.l.length s31.b.c, .slice s31.o.a s31.o.l.length s31.o.c] 135 (0, 0)), (s31.t.key, sobP ETr 34 s31.t.pre s31.t.l s31.t.sp), (s31.b.key, sobP ETr 34 s31.b.pre s31.b.l s31.b.sp), (s31.o.key, sobP EOt 41 s31.o.pre s31.o.l s31.o.sp), (some b17, .cells #[.slice (ownA key18) ws.length c19, .pointer none, i64 ((ws.length : Nat)), i64 ((5 * (n1 + n2) + 5 * n3 : Nat))] 141 (0, 0)), (key18, sob E64 32 ws sp20), (some b1, .cells (cel EI ([(n1 : Nat), (n2 : Nat), (n3 : Nat)])).toArray 59 (0, 0))] | 3, [v0, v1, v2] => v0 = i64 ((5 * (n1 + n2) + 5 * n3 : Nat)) ∧ v1 = .bool (true) ∧ v2 = .bool (true) ∧ Hp No w₀ w' [(some b72, .cells #[.slice (ownA key46) ((rowsOf (trA ws) 0 n1).length) c47, .slice (ownA key50) ((rowsOf (trA ws) (5 * n1) n2).length) c51, .slice (ownA key54) ((rowsOf (otA ws) (5 * (n1 + n2)) n3).length) c55, .slice (ownA key58) ((rowsOf (trB ws) 0 n1).length) c59, .slice (ownA key62) ((rowsOf (biB ws) (5 * n1) n2).length) c63, .slice (ownA key66) ((rowsOf (otB ws) (5 * (n1 + n2)) n3).length) c67] 61 (0, 0)), (key46, sob ETr 34 (rowsOf (trA ws) 0 n1) sp48), (key50, sob ETr 34 (rowsOf (trA ws) (5 * n1) n2) sp52), (key54, sob EOt 41 (rowsOf (otA ws) (5 * (n1 + n2)) n3) sp56), (key58, sob ETr 34 (rowsOf (trB ws) 0 n1) sp60), (key62, sob ETr 34 (rowsOf (biB ws) (5 * n1) n2) sp64), (key66, sob EOt 41 (rowsOf (otB ws) (5 * (n1 + n2)) n3) sp68), (some b37, .cells #[.pointer (some ⟨b28, 0, none⟩), .pointer (some ⟨b29, 0, none⟩)] 25 (0, 0)), (some b17, .cells #[.slice (ownA key18) ws.length c19, .pointer none, i64 ((ws.length : Nat)), i64 ((5 * (n1 + n2) + 5 * n3 : Nat))] 141 (0, 0)), (key18, sob E64 32 ws sp20), (some b1, .cells (cel EI ([(n1 : Nat), (n2 : Nat), (n3 : Nat)])).toArray 59 (0, 0))] | _, _ => False) mixed (by kernel_rfl) (by kernel_rfl) H81.drew ?_
          refine WalkC.look rfl (fun _ => .pointer (some ⟨b17, 0, none⟩)) (fun _ _ _ => rfl) (fun q r uw _ _ _ _ => Gives.run rfl (r_move (v := .pointer (some ⟨b17, 0, none⟩)) rfl) ⟨rfl, rfl⟩) ?_
          refine WalkC.eff 0 rfl (fun r uw82 hF84 => ?_) ?_
          · skip
            have H83 := hF84
            dsimp only [List.take, List.map, List.cons_append, List.nil_append]
            refine Gives.ofW (d := 69) rfl rfl (fun Q' hK => ?_)
            refine c_call (vs := [.pointer (some ⟨b17, 0, none⟩)]) call27 rfl (used_ok b17 ws.length (5 * (n1 + n2) + 5 * n3) (.slice (ownA key18) ws.length c19) (.pointer none) uw82 (H83.get (k := 16) rfl)) ?_
            rintro _ w85 ⟨rfl, hE86⟩
            have H87 := H83.ext hE86
            exact hK _ _ ⟨rfl, H87⟩
          refine WalkC.look rfl (fun _ => .pointer (some ⟨b1, 0, none⟩)) (fun _ _ _ => rfl) (fun q r uw _ _ _ _ => Gives.run rfl (r_indexA (off' := 0) (j := 0) arr59 (b := b1) (off := 0) rfl rfl (by first | rfl | omega | (simp; omega)) (by omega) (by omega)) ⟨rfl, rfl⟩) ?_
          refine WalkC.look rfl (fun _ => i64 ((n1 : Nat))) (fun _ _ _ => rfl) (fun q r uw hlo hhi hle hF => ?_) ?_
          · skip
            have h1 : 0 ≤ q := Nat.zero_le _
            have h2 : q ≤ 1 := hhi 1 18 rfl rfl
            rcases (show q = 0 ∨ q = 1 by omega) with rfl | rfl
            · skip
              have HH := hF
              exact Gives.run rfl ((r_ld1 (E := EI) (l := [(n1 : Nat), (n2 : Nat), (n3 : Nat)]) (j := 0) (a := (n1 : Nat)) fits3 (HH.get (k := 18) rfl) (by rfl) rfl rfl).as (v' := i64 ((n1 : Nat))) (by rfl)) ⟨rfl, rfl⟩
            · skip
              obtain ⟨e1, HH⟩ := hF
              exact Gives.run rfl ((r_ld1 (E := EI) (l := [(n1 : Nat), (n2 : Nat), (n3 : Nat)]) (j := 0) (a := (n1 : Nat)) fits3 (HH.get (k := 18) rfl) (by rfl) rfl rfl).as (v' := i64 ((n1 : Nat))) (by rfl)) ⟨rfl, rfl⟩
          refine WalkC.look rfl (fun _ => .pointer (some ⟨b1, 1, none⟩)) (fun _ _ _ => rfl) (fun q r uw _ _ _ _ => Gives.run rfl (r_indexA (off' := 1) (j := 1) arr59 (b := b1) (off := 0) rfl rfl (by first | rfl | omega | (simp; omega)) (by omega) (by omega)) ⟨rfl, rfl⟩) ?_
          refine WalkC.look rfl (fun _ => i64 ((n2 : Nat))) (fun _ _ _ => rfl) (fun q r uw hlo hhi hle hF => ?_) ?_
          · skip
            have h1 : 0 ≤ q := Nat.zero_le _
            have h2 : q ≤ 1 := hhi 1 18 rfl rfl
            rcases (show q = 0 ∨ q = 1 by omega) with rfl | rfl
            · skip
              have HH := hF
              exact Gives.run rfl ((r_ld1 (E := EI) (l := [(n1 : Nat), (n2 : Nat), (n3 : Nat)]) (j := 1) (a := (n2 : Nat)) fits3 (HH.get (k := 18) rfl) (by rfl) rfl rfl).as (v' := i64 ((n2 : Nat))) (by rfl)) ⟨rfl, rfl⟩
            · skip
              obtain ⟨e1, HH⟩ := hF
              exact Gives.run rfl ((r_ld1 (E := EI) (l := [(n1 : Nat), (n2 : Nat), (n3 : Nat)]) (j := 1) (a := (n2 : Nat)) fits3 (HH.get (k := 18) rfl) (by rfl) rfl rfl).as (v' := i64 ((n2 : Nat))) (by rfl)) ⟨rfl, rfl⟩
          refine WalkC.look rfl (fun _ => i64 ((n1 : Nat) + (n2 : Nat))) (fun _ _ _ => rfl) (fun q r uw _ _ _ _ => Gives.run rfl (r_addI (a := (n1 : Nat)) (b := (n2 : Nat)) rfl rfl (by omega)) ⟨rfl, rfl⟩) ?_
          refine WalkC.look rfl (fun _ => .pointer (some ⟨b1, 2, none⟩)) (fun _ _ _ => rfl) (fun q r uw _ _ _ _ => Gives.run rfl (r_indexA (off' := 2) (j := 2) arr59 (b := b1) (off := 0) rfl rfl (by first | rfl | omega | (simp; omega)) (by omega) (by omega)) ⟨rfl, rfl⟩) ?_
          refine WalkC.look rfl (fun _ => i64 ((n3 : Nat))) (fun _ _ _ => rfl) (fun q r uw hlo hhi hle hF => ?_) ?_
          · skip
            have h1 : 0 ≤ q := Nat.zero_le _
            have h2 : q ≤ 1 := hhi 1 18 rfl rfl
            rcases (show q = 0 ∨ q = 1 by omega) with rfl | rfl
            · skip
              have HH := hF
              exact Gives.run rfl ((r_ld1 (E := EI) (l := [(n1 : Nat), (n2 : Nat), (n3 : Nat)]) (j := 2) (a := (n3 : Nat)) fits3 (HH.get (k := 18) rfl) (by rfl) rfl rfl).as (v' := i64 ((n3 : Nat))) (by rfl)) ⟨rfl, rfl⟩
            · skip
              obtain ⟨e1, HH⟩ := hF
              exact Gives.run rfl ((r_ld1 (E := EI) (l := [(n1 : Nat), (n2 : Nat), (n3 : Nat)]) (j := 2) (a := (n3 : Nat)) fits3 (HH.get (k := 18) rfl) (by rfl) rfl rfl).as (v' := i64 ((n3 : Nat))) (by rfl)) ⟨rfl, rfl⟩
          refine WalkC.look rfl (fun _ => i64 (((n1 : Nat) + (n2 : Nat)) + (n3 : Nat))) (fun _ _ _ => rfl) (fun q r uw _ _ _ _ => Gives.run rfl (r_addI (a := (n1 : Nat) + (n2 : Nat)) (b := (n3 : Nat)) rfl rfl (by omega)) ⟨rfl, rfl⟩) ?_
          refine WalkC.look rfl (fun _ => i64 ((5 : Int) * (((n1 : Nat) + (n2 : Nat)) + (n3 : Nat)))) (fun _ _ _ => rfl) (fun q r uw _ _ _ _ => Gives.run rfl (r_mulI (a := (5 : Int)) (b := ((n1 : Nat) + (n2 : Nat)) + (n3 : Nat)) rfl rfl (by omega)) ⟨rfl, rfl⟩) ?_
          refine WalkC.look rfl (fun _ => .bool (true)) (fun _ _ _ => rfl) (fun q r uw hlo hhi hle hF => ?_) ?_
          · skip
            have h1 : 1 ≤ q := hlo 0 1 rfl rfl
            have h2 : q ≤ 1 := hhi 1 18 rfl rfl
            rcases (show q = 1 by omega) with rfl
            · skip
              obtain ⟨e1, HH⟩ := hF
              dsimp only
              rw [e1]
              exact Gives.run rfl ((r_eqlI (a := (5 * (n1 + n2) + 5 * n3 : Nat)) (b := (5 : Int) * (((n1 : Nat) + (n2 : Nat)) + (n3 : Nat))) rfl rfl).as (v' := .bool (true)) (by exact congrArg Value.bool (decide_eq_true (by omega)))) ⟨rfl, rfl⟩
          refine WalkC.look rfl (fun _ => .bool (true)) (fun _ _ _ => rfl) (fun q r uw _ _ _ _ => Gives.run rfl (r_move (v := .bool (true)) rfl) ⟨rfl, rfl⟩) ?_
          refine WalkC.look rfl (fun _ => .pointer (some ⟨b37, 0, none⟩)) (fun _ _ _ => rfl) (fun q r uw _ _ _ _ => Gives.runW (wantedSome (d' := 80) (b := true) rfl rfl rfl) (r_indexA (off' := 0) (j := 0) arr25 (b := b37) (off := 0) rfl rfl (by first | rfl | omega | (simp; omega)) (by omega) (by omega)) ⟨rfl, rfl⟩) ?_
          refine WalkC.look rfl (fun _ => .pointer (some ⟨b28, 0, none⟩)) (fun _ _ _ => rfl) (fun q r uw hlo hhi hle hF => ?_) ?_
          · skip
            have h1 : 1 ≤ q := hlo 0 1 rfl rfl
            have h2 : q ≤ 1 := hhi 1 18 rfl rfl
            rcases (show q = 1 by omega) with rfl
            · skip
              obtain ⟨e1, HH⟩ := hF
              exact Gives.runW (wantedSome (d' := 80) (b := true) rfl rfl rfl) (r_loadC (v := .pointer (some ⟨b28, 0, none⟩)) one24 (HH.get (k := 7) rfl) (off := 0) rfl (by rfl)) ⟨rfl, rfl⟩
          refine WalkC.look rfl (fun _ => .pointer (some ⟨b72, 0, none⟩)) (fun _ _ _ => rfl) (fun q r uw _ _ _ _ => Gives.runW (wantedSome (d' := 80) (b := true) rfl rfl rfl) (r_indexA (off' := 0) (j := 0) arr61 (b := b72) (off := 0) rfl rfl (by first | rfl | omega | (simp; omega)) (by omega) (by omega)) ⟨rfl, rfl⟩) ?_
          refine WalkC.look rfl (fun _ => .agg #[.slice (ownA key46) ((rowsOf (trA ws) 0 n1).length) c47, .slice (ownA key50) ((rowsOf (trA ws) (5 * n1) n2).length) c51, .slice (ownA key54) ((rowsOf (otA ws) (5 * (n1 + n2)) n3).length) c55]) (fun _ _ _ => rfl) (fun q r uw hlo hhi hle hF => ?_) ?_
          · skip
            have h1 : 1 ≤ q := hlo 0 1 rfl rfl
            have h2 : q ≤ 1 := hhi 1 18 rfl rfl
            rcases (show q = 1 by omega) with rfl
            · skip
              obtain ⟨e1, HH⟩ := hF
              exact Gives.runW (wantedSome (d' := 80) (b := true) rfl rfl rfl) (r_loadA (cs' := #[.slice (ownA key46) ((rowsOf (trA ws) 0 n1).length) c47, .slice (ownA key50) ((rowsOf (trA ws) (5 * n1) n2).length) c51, .slice (ownA key54) ((rowsOf (otA ws) (5 * (n1 + n2)) n3).length) c55]) agg54 siz54 (HH.get (k := 0) rfl) (off := 0) rfl (by exact Nat.le_of_ble_eq_true rfl) (by rfl)) ⟨rfl, rfl⟩
          refine WalkC.look rfl (fun _ => .slice sa sc.length scc) (fun _ _ _ => rfl) (fun q r uw _ _ _ _ => Gives.runW (wantedSome (d' := 80) (b := true) rfl rfl rfl) (r_move (v := .slice sa sc.length scc) rfl) ⟨rfl, rfl⟩) ?_
          refine WalkC.eff 1 rfl (fun r uw88 hF90 => ?_) ?_
          · skip
            obtain ⟨e1, H89⟩ := hF90
            dsimp only [List.take, List.map, List.cons_append, List.nil_append]
            rw [e1]
            refine Gives.ofW (d := 86) rfl rfl (fun Q' hK => ?_)
            have H91 := ((H89.pick 19 [8, 9, 10, 11, 0, 1, 2, 3, 4, 5, 6, 7, 12, 13, 14, 15, 16, 17, 18] (by decide) (by decide))).as (L' := skR 34 41 135 b28 s30 ++ [(some b72, .cells #[.slice (ownA key46) ((rowsOf (trA ws) 0 n1).length) c47, .slice (ownA key50) ((rowsOf (trA ws) (5 * n1) n2).length) c51, .slice (ownA key54) ((rowsOf (otA ws) (5 * (n1 + n2)) n3).length) c55, .slice (ownA key58) ((rowsOf (trB ws) 0 n1).length) c59, .slice (ownA key62) ((rowsOf (biB ws) (5 * n1) n2).length) c63, .slice (ownA key66) ((rowsOf (otB ws) (5 * (n1 + n2)) n3).length) c67] 61 (0, 0)), (key46, sob ETr 34 (rowsOf (trA ws) 0 n1) sp48), (key50, sob ETr 34 (rowsOf (trA ws) (5 * n1) n2) sp52), (key54, sob EOt 41 (rowsOf (otA ws) (5 * (n1 + n2)) n3) sp56), (key58, sob ETr 34 (rowsOf (trB ws) 0 n1) sp60), (key62, sob ETr 34 (rowsOf (biB ws) (5 * n1) n2) sp64), (key66, sob EOt 41 (rowsOf (otB ws) (5 * (n1 + n2)) n3) sp68), (some b37, .cells #[.pointer (some ⟨b28, 0, none⟩), .pointer (some ⟨b29, 0, none⟩)] 25 (0, 0)), (some b29, .cells #[.slice s31.t.a s31.t.l.length s31.t.c, .slice s31.b.a s31.b.l.length s31.b.c, .slice s31.o.a s31.o.l.length s31.o.c] 135 (0, 0)), (s31.t.key, sobP ETr 34 s31.t.pre s31.t.l s31.t.sp), (s31.b.key, sobP ETr 34 s31.b.pre s31.b.l s31.b.sp), (s31.o.key, sobP EOt 41 s31.o.pre s31.o.l s31.o.sp), (some b17, .cells #[.slice (ownA key18) ws.length c19, .pointer none, i64 ((ws.length : Nat)), i64 ((5 * (n1 + n2) + 5 * n3 : Nat))] 141 (0, 0)), (key18, sob E64 32 ws sp20), (some b1, .cells (cel EI ([(n1 : Nat), (n2 : Nat), (n3 : Nat)])).toArray 59 (0, 0))]) rfl
            refine caAny (wantedSome (d' := 80) (b := true) rfl rfl rfl) (Enters.callL (vs := [.pointer (some ⟨b28, 0, none⟩), .agg #[.slice (ownA key46) ((rowsOf (trA ws) 0 n1).length) c47, .slice (ownA key50) ((rowsOf (trA ws) (5 * n1) n2).length) c51, .slice (ownA key54) ((rowsOf (otA ws) (5 * (n1 + n2)) n3).length) c55], .slice sa sc.length scc]) call23 rfl) (gives_ok b28 s30 hok32 (rowsOf (trA ws) 0 n1) (rowsOf (trA ws) (5 * n1) n2) (rowsOf (otA ws) (5 * (n1 + n2)) n3) (ownA key46) (ownA key50) (ownA key54) sa c47 c51 c55 scc sc hD34.t1 hD34.b1 hD34.o1 (by rw [rowsOf_len]; omega) (by rw [rowsOf_len]; omega) (by rw [rowsOf_len]; omega) (by omega) [(some b72, .cells #[.slice (ownA key46) ((rowsOf (trA ws) 0 n1).length) c47, .slice (ownA key50) ((rowsOf (trA ws) (5 * n1) n2).length) c51, .slice (ownA key54) ((rowsOf (otA ws) (5 * (n1 + n2)) n3).length) c55, .slice (ownA key58) ((rowsOf (trB ws) 0 n1).length) c59, .slice (ownA key62) ((rowsOf (biB ws) (5 * n1) n2).length) c63, .slice (ownA key66) ((rowsOf (otB ws) (5 * (n1 + n2)) n3).length) c67] 61 (0, 0)), (key46, sob ETr 34 (rowsOf (trA ws) 0 n1) sp48), (key50, sob ETr 34 (rowsOf (trA ws) (5 * n1) n2) sp52), (key54, sob EOt 41 (rowsOf (otA ws) (5 * (n1 + n2)) n3) sp56), (key58, sob ETr 34 (rowsOf (trB ws) 0 n1) sp60), (key62, sob ETr 34 (rowsOf (biB ws) (5 * n1) n2) sp64), (key66, sob EOt 41 (rowsOf (otB ws) (5 * (n1 + n2)) n3) sp68), (some b37, .cells #[.pointer (some ⟨b28, 0, none⟩), .pointer (some ⟨b29, 0, none⟩)] 25 (0, 0)), (some b29, .cells #[.slice s31.t.a s31.t.l.length s31.t.c, .slice s31.b.a s31.b.l.length s31.b.c, .slice s31.o.a s31.o.l.length s31.o.c] 135 (0, 0)), (s31.t.key, sobP ETr 34 s31.t.pre s31.t.l s31.t.sp), (s31.b.key, sobP ETr 34 s31.b.pre s31.b.l s31.b.sp), (s31.o.key, sobP EOt 41 s31.o.pre s31.o.l s31.o.sp), (some b17, .cells #[.slice (ownA key18) ws.length c19, .pointer none, i64 ((ws.length : Nat)), i64 ((5 * (n1 + n2) + 5 * n3 : Nat))] 141 (0, 0)), (key18, sob E64 32 ws sp20), (some b1, .cells (cel EI ([(n1 : Nat), (n2 : Nat), (n3 : Nat)])).toArray 59 (0, 0))] w₀ uw88 hG hSc (fun _ _ hR => rdStay (T := 34) hS49 (List.mem_of_getElem? (i := 1) rfl) hR) (fun _ _ hR => rdStay (T := 34) hS53 (List.mem_of_getElem? (i := 2) rfl) hR) (fun _ _ hR => rdStay (T := 41) hS57 (List.mem_of_getElem? (i := 3) rfl) hR) H91) ?_
            rintro _ w92 ⟨rfl, s94, HN95⟩
            have H96 := ((((HN95.dropk 0).dropk 0).dropk 0).dropk 0).as (L' := [(some b72, .cells #[.slice (ownA key46) ((rowsOf (trA ws) 0 n1).length) c47, .slice (ownA key50) ((rowsOf (trA ws) (5 * n1) n2).length) c51, .slice (ownA key54) ((rowsOf (otA ws) (5 * (n1 + n2)) n3).length) c55, .slice (ownA key58) ((rowsOf (trB ws) 0 n1).length) c59, .slice (ownA key62) ((rowsOf (biB ws) (5 * n1) n2).length) c63, .slice (ownA key66) ((rowsOf (otB ws) (5 * (n1 + n2)) n3).length) c67] 61 (0, 0)), (key46, sob ETr 34 (rowsOf (trA ws) 0 n1) sp48), (key50, sob ETr 34 (rowsOf (trA ws) (5 * n1) n2) sp52), (key54, sob EOt 41 (rowsOf (otA ws) (5 * (n1 + n2)) n3) sp56), (key58, sob ETr 34 (rowsOf (trB ws) 0 n1) sp60), (key62, sob ETr 34 (rowsOf (biB ws) (5 * n1) n2) sp64), (key66, sob EOt 41 (rowsOf (otB ws) (5 * (n1 + n2)) n3) sp68), (some b37, .cells #[.pointer (some ⟨b28, 0, none⟩), .pointer (some ⟨b29, 0, none⟩)] 25 (0, 0)), (some b29, .cells #[.slice s31.t.a s31.t.l.length s31.t.c, .slice s31.b.a s31.b.l.length s31.b.c, .slice s31.o.a s31.o.l.length s31.o.c] 135 (0, 0)), (s31.t.key, sobP ETr 34 s31.t.pre s31.t.l s31.t.sp), (s31.b.key, sobP ETr 34 s31.b.pre s31.b.l s31.b.sp), (s31.o.key, sobP EOt 41 s31.o.pre s31.o.l s31.o.sp), (some b17, .cells #[.slice (ownA key18) ws.length c19, .pointer none, i64 ((ws.length : Nat)), i64 ((5 * (n1 + n2) + 5 * n3 : Nat))] 141 (0, 0)), (key18, sob E64 32 ws sp20), (some b1, .cells (cel EI ([(n1 : Nat), (n2 : Nat), (n3 : Nat)])).toArray 59 (0, 0))]) rfl
            exact hK _ _ ⟨rfl, rfl, H96⟩
          refine WalkC.look rfl (fun _ => .bool (true)) (fun _ _ _ => rfl) (fun q r uw hlo hhi hle hF => ?_) ?_
          · skip
            have h1 : 2 ≤ q := hlo 1 18 rfl rfl
            have h2 : q ≤ 2 := hhi 2 26 rfl rfl
            rcases (show q = 2 by omega) with rfl
            · skip
              obtain ⟨e1, e18, HH⟩ := hF
              dsimp only
              rw [e18]
              exact Gives.run rfl (r_pickT (u := .bool (true)) rfl rfl) ⟨rfl, rfl⟩
          refine WalkC.look rfl (fun _ => .bool (true)) (fun _ _ _ => rfl) (fun q r uw _ _ _ _ => Gives.run rfl (r_move (v := .bool (true)) rfl) ⟨rfl, rfl⟩) ?_
          refine WalkC.look rfl (fun _ => .pointer (some ⟨b37, 1, none⟩)) (fun _ _ _ => rfl) (fun q r uw _ _ _ _ => Gives.runW (wantedSome (d' := 88) (b := true) rfl rfl rfl) (r_indexA (off' := 1) (j := 1) arr25 (b := b37) (off := 0) rfl rfl (by first | rfl | omega | (simp; omega)) (by omega) (by omega)) ⟨rfl, rfl⟩) ?_
          refine WalkC.look rfl (fun _ => .pointer (some ⟨b29, 0, none⟩)) (fun _ _ _ => rfl) (fun q r uw hlo hhi hle hF => ?_) ?_
          · skip
            have h1 : 2 ≤ q := hlo 1 18 rfl rfl
            have h2 : q ≤ 2 := hhi 2 26 rfl rfl
            rcases (show q = 2 by omega) with rfl
            · skip
              obtain ⟨e1, e18, HH⟩ := hF
              exact Gives.runW (wantedSome (d' := 88) (b := true) rfl rfl rfl) (r_loadC (v := .pointer (some ⟨b29, 0, none⟩)) one24 (HH.get (k := 7) rfl) (off := 1) rfl (by rfl)) ⟨rfl, rfl⟩
          refine WalkC.look rfl (fun _ => .pointer (some ⟨b72, 3, none⟩)) (fun _ _ _ => rfl) (fun q r uw _ _ _ _ => Gives.runW (wantedSome (d' := 88) (b := true) rfl rfl rfl) (r_indexA (off' := 3) (j := 1) arr61 (b := b72) (off := 0) rfl rfl (by first | rfl | omega | (simp; omega)) (by omega) (by omega)) ⟨rfl, rfl⟩) ?_
          refine WalkC.look rfl (fun _ => .agg #[.slice (ownA key58) ((rowsOf (trB ws) 0 n1).length) c59, .slice (ownA key62) ((rowsOf (biB ws) (5 * n1) n2).length) c63, .slice (ownA key66) ((rowsOf (otB ws) (5 * (n1 + n2)) n3).length) c67]) (fun _ _ _ => rfl) (fun q r uw hlo hhi hle hF => ?_) ?_
          · skip
            have h1 : 2 ≤ q := hlo 1 18 rfl rfl
            have h2 : q ≤ 2 := hhi 2 26 rfl rfl
            rcases (show q = 2 by omega) with rfl
            · skip
              obtain ⟨e1, e18, HH⟩ := hF
              exact Gives.runW (wantedSome (d' := 88) (b := true) rfl rfl rfl) (r_loadA (cs' := #[.slice (ownA key58) ((rowsOf (trB ws) 0 n1).length) c59, .slice (ownA key62) ((rowsOf (biB ws) (5 * n1) n2).length) c63, .slice (ownA key66) ((rowsOf (otB ws) (5 * (n1 + n2)) n3).length) c67]) agg54 siz54 (HH.get (k := 0) rfl) (off := 3) rfl (by exact Nat.le_of_ble_eq_true rfl) (by rfl)) ⟨rfl, rfl⟩
          refine WalkC.look rfl (fun _ => .slice sa sc.length scc) (fun _ _ _ => rfl) (fun q r uw _ _ _ _ => Gives.runW (wantedSome (d' := 88) (b := true) rfl rfl rfl) (r_move (v := .slice sa sc.length scc) rfl) ⟨rfl, rfl⟩) ?_
          refine WalkC.eff 2 rfl (fun r uw97 hF99 => ?_) ?_
          · skip
            obtain ⟨e1, e18, H98⟩ := hF99
            dsimp only [List.take, List.map, List.cons_append, List.nil_append]
            rw [e1, e18]
            refine Gives.ofW (d := 94) rfl rfl (fun Q' hK => ?_)
            have H100 := ((H98.pick 15 [8, 9, 10, 11, 0, 1, 2, 3, 4, 5, 6, 7, 12, 13, 14] (by decide) (by decide))).as (L' := skR 34 41 135 b29 s31 ++ [(some b72, .cells #[.slice (ownA key46) ((rowsOf (trA ws) 0 n1).length) c47, .slice (ownA key50) ((rowsOf (trA ws) (5 * n1) n2).length) c51, .slice (ownA key54) ((rowsOf (otA ws) (5 * (n1 + n2)) n3).length) c55, .slice (ownA key58) ((rowsOf (trB ws) 0 n1).length) c59, .slice (ownA key62) ((rowsOf (biB ws) (5 * n1) n2).length) c63, .slice (ownA key66) ((rowsOf (otB ws) (5 * (n1 + n2)) n3).length) c67] 61 (0, 0)), (key46, sob ETr 34 (rowsOf (trA ws) 0 n1) sp48), (key50, sob ETr 34 (rowsOf (trA ws) (5 * n1) n2) sp52), (key54, sob EOt 41 (rowsOf (otA ws) (5 * (n1 + n2)) n3) sp56), (key58, sob ETr 34 (rowsOf (trB ws) 0 n1) sp60), (key62, sob ETr 34 (rowsOf (biB ws) (5 * n1) n2) sp64), (key66, sob EOt 41 (rowsOf (otB ws) (5 * (n1 + n2)) n3) sp68), (some b37, .cells #[.pointer (some ⟨b28, 0, none⟩), .pointer (some ⟨b29, 0, none⟩)] 25 (0, 0)), (some b17, .cells #[.slice (ownA key18) ws.length c19, .pointer none, i64 ((ws.length : Nat)), i64 ((5 * (n1 + n2) + 5 * n3 : Nat))] 141 (0, 0)), (key18, sob E64 32 ws sp20), (some b1, .cells (cel EI ([(n1 : Nat), (n2 : Nat), (n3 : Nat)])).toArray 59 (0, 0))]) rfl
            refine caAny (wantedSome (d' := 88) (b := true) rfl rfl rfl) (Enters.callL (vs := [.pointer (some ⟨b29, 0, none⟩), .agg #[.slice (ownA key58) ((rowsOf (trB ws) 0 n1).length) c59, .slice (ownA key62) ((rowsOf (biB ws) (5 * n1) n2).length) c63, .slice (ownA key66) ((rowsOf (otB ws) (5 * (n1 + n2)) n3).length) c67], .slice sa sc.length scc]) call23 rfl) (gives_ok b29 s31 hok33 (rowsOf (trB ws) 0 n1) (rowsOf (biB ws) (5 * n1) n2) (rowsOf (otB ws) (5 * (n1 + n2)) n3) (ownA key58) (ownA key62) (ownA key66) sa c59 c63 c67 scc sc hD34.t2 hD34.b2 hD34.o2 (by rw [rowsOf_len]; omega) (by rw [rowsOf_len]; omega) (by rw [rowsOf_len]; omega) (by omega) [(some b72, .cells #[.slice (ownA key46) ((rowsOf (trA ws) 0 n1).length) c47, .slice (ownA key50) ((rowsOf (trA ws) (5 * n1) n2).length) c51, .slice (ownA key54) ((rowsOf (otA ws) (5 * (n1 + n2)) n3).length) c55, .slice (ownA key58) ((rowsOf (trB ws) 0 n1).length) c59, .slice (ownA key62) ((rowsOf (biB ws) (5 * n1) n2).length) c63, .slice (ownA key66) ((rowsOf (otB ws) (5 * (n1 + n2)) n3).length) c67] 61 (0, 0)), (key46, sob ETr 34 (rowsOf (trA ws) 0 n1) sp48), (key50, sob ETr 34 (rowsOf (trA ws) (5 * n1) n2) sp52), (key54, sob EOt 41 (rowsOf (otA ws) (5 * (n1 + n2)) n3) sp56), (key58, sob ETr 34 (rowsOf (trB ws) 0 n1) sp60), (key62, sob ETr 34 (rowsOf (biB ws) (5 * n1) n2) sp64), (key66, sob EOt 41 (rowsOf (otB ws) (5 * (n1 + n2)) n3) sp68), (some b37, .cells #[.pointer (some ⟨b28, 0, none⟩), .pointer (some ⟨b29, 0, none⟩)] 25 (0, 0)), (some b17, .cells #[.slice (ownA key18) ws.length c19, .pointer none, i64 ((ws.length : Nat)), i64 ((5 * (n1 + n2) + 5 * n3 : Nat))] 141 (0, 0)), (key18, sob E64 32 ws sp20), (some b1, .cells (cel EI ([(n1 : Nat), (n2 : Nat), (n3 : Nat)])).toArray 59 (0, 0))] w₀ uw97 hG hSc (fun _ _ hR => rdStay (T := 34) hS61 (List.mem_of_getElem? (i := 4) rfl) hR) (fun _ _ hR => rdStay (T := 34) hS65 (List.mem_of_getElem? (i := 5) rfl) hR) (fun _ _ hR => rdStay (T := 41) hS69 (List.mem_of_getElem? (i := 6) rfl) hR) H100) ?_
            rintro _ w101 ⟨rfl, s103, HN104⟩
            have H105 := ((((HN104.dropk 0).dropk 0).dropk 0).dropk 0).as (L' := [(some b72, .cells #[.slice (ownA key46) ((rowsOf (trA ws) 0 n1).length) c47, .slice (ownA key50) ((rowsOf (trA ws) (5 * n1) n2).length) c51, .slice (ownA key54) ((rowsOf (otA ws) (5 * (n1 + n2)) n3).length) c55, .slice (ownA key58) ((rowsOf (trB ws) 0 n1).length) c59, .slice (ownA key62) ((rowsOf (biB ws) (5 * n1) n2).length) c63, .slice (ownA key66) ((rowsOf (otB ws) (5 * (n1 + n2)) n3).length) c67] 61 (0, 0)), (key46, sob ETr 34 (rowsOf (trA ws) 0 n1) sp48), (key50, sob ETr 34 (rowsOf (trA ws) (5 * n1) n2) sp52), (key54, sob EOt 41 (rowsOf (otA ws) (5 * (n1 + n2)) n3) sp56), (key58, sob ETr 34 (rowsOf (trB ws) 0 n1) sp60), (key62, sob ETr 34 (rowsOf (biB ws) (5 * n1) n2) sp64), (key66, sob EOt 41 (rowsOf (otB ws) (5 * (n1 + n2)) n3) sp68), (some b37, .cells #[.pointer (some ⟨b28, 0, none⟩), .pointer (some ⟨b29, 0, none⟩)] 25 (0, 0)), (some b17, .cells #[.slice (ownA key18) ws.length c19, .pointer none, i64 ((ws.length : Nat)), i64 ((5 * (n1 + n2) + 5 * n3 : Nat))] 141 (0, 0)), (key18, sob E64 32 ws sp20), (some b1, .cells (cel EI ([(n1 : Nat), (n2 : Nat), (n3 : Nat)])).toArray 59 (0, 0))]) rfl
            exact hK _ _ ⟨rfl, rfl, rfl, H105⟩
          refine WalkC.look rfl (fun _ => .bool (true)) (fun _ _ _ => rfl) (fun q r uw hlo hhi hle hF => ?_) ?_
          · skip
            have h1 : 3 ≤ q := hlo 2 26 rfl rfl
            have h2 : q ≤ 3 := hle
            rcases (show q = 3 by omega) with rfl
            · skip
              obtain ⟨e1, e18, e26, HH⟩ := hF
              dsimp only
              rw [e26]
              exact Gives.run rfl (r_pickT (u := .bool (true)) rfl rfl) ⟨rfl, rfl⟩
          refine WalkC.look rfl (fun _ => .bool (true)) (fun _ _ _ => rfl) (fun q r uw _ _ _ _ => Gives.run rfl (r_assign (v := .bool (true)) rfl) ⟨rfl, rfl⟩) ?_
          refine WalkC.nil ?_
          intro r106 w107 hF109
          obtain ⟨e1, e18, e26, H108⟩ := hF109
          dsimp only
          rw [e1, e18, e26]
          refine wnil ?_
          refine thenNormal ?_
          refine retAny ?_
          refine retG (rs := [.tmp 6]) (vs := [.bool (true)]) rfl ⟨⟨rfl, rfl⟩, trivial⟩ ?_
          exact ⟨_, rfl, rfl, H108.chg⟩
        · skip
          refine seqRegion ?_
          refine sq (r_move (v := .pointer (some ⟨b17, 0, none⟩)) rfl) ?_
          refine sq (r_indexA (off' := 0) (j := 0) arr59 (b := b1) (off := 0) rfl rfl (by first | rfl | omega | (simp; omega)) (by omega) (by omega)) ?_
          refine sq ((r_ld1 (E := EI) (l := [(n1 : Nat), (n2 : Nat), (n3 : Nat)]) (j := 0) (a := (n1 : Nat)) fits3 (H24.get (k := 2) rfl) (by rfl) rfl rfl).as (v' := i64 ((n1 : Nat))) (by rfl)) ?_
          refine sq (r_indexA (off' := 1) (j := 1) arr59 (b := b1) (off := 0) rfl rfl (by first | rfl | omega | (simp; omega)) (by omega) (by omega)) ?_
          refine sq ((r_ld1 (E := EI) (l := [(n1 : Nat), (n2 : Nat), (n3 : Nat)]) (j := 1) (a := (n2 : Nat)) fits3 (H24.get (k := 2) rfl) (by rfl) rfl rfl).as (v' := i64 ((n2 : Nat))) (by rfl)) ?_
          refine sq (r_indexA (off' := 2) (j := 2) arr59 (b := b1) (off := 0) rfl rfl (by first | rfl | omega | (simp; omega)) (by omega) (by omega)) ?_
          refine sq ((r_ld1 (E := EI) (l := [(n1 : Nat), (n2 : Nat), (n3 : Nat)]) (j := 2) (a := (n3 : Nat)) fits3 (H24.get (k := 2) rfl) (by rfl) rfl rfl).as (v' := i64 ((n3 : Nat))) (by rfl)) ?_
          have := H24.lt (List.mem_of_getElem? (i := 0) rfl) rfl
          have := H24.lt (List.mem_of_getElem? (i := 2) rfl) rfl
          refine c_call (vs := [.pointer (some ⟨b17, 0, none⟩), i64 ((n1 : Nat)), i64 ((n2 : Nat)), i64 ((n3 : Nat))]) call16 rfl (deal_short b17 ws.length 0 (.slice (ownA key18) ws.length c19) (.pointer none) n1 n2 n3 (by omega) (by omega) (by omega) w15 (Chg.gl H24.chg (fun x => x) hG) (H24.get (k := 0) rfl) (Nat.zero_le _) (by omega) (by omega)) ?_
          rintro _ w110 ⟨⟨v112, rfl, hEr113⟩, hE114⟩
          have H115 := H24.ext hE114
          obtain ⟨T116, x117, rfl⟩ := hEr113.iface
          refine sq (r_move (v := .tuple #[.agg #[.pointer none, .pointer none], .iface T116 (x117)]) rfl) ?_
          refine sq (r_extract (vs := #[.agg #[.pointer none, .pointer none], .iface T116 (x117)]) rfl rfl) ?_
          refine sq (r_extract (vs := #[.agg #[.pointer none, .pointer none], .iface T116 (x117)]) rfl rfl) ?_
          refine q_alloc (o := .cells #[.pointer none, .pointer none] 25 (0, 0)) H115 zer25 (by kernel_rfl) ?_
          intro b118 w119 hb118 H120 hE121
          refine d_store (k := 0) (v := .agg #[.pointer none, .pointer none]) (cs' := #[.pointer none, .pointer none]) H120 rfl rfl rfl siz25 (by rfl) (by intro u hu; simp [Value.cells] at hu; first | (subst hu; rfl) | (rcases hu with rfl | rfl <;> rfl)) (by exact Nat.le_of_ble_eq_true rfl) (by rfl) ?_
          intro w122 H123 hC124
          have H123' := H123.as (L' := [(some b118, .cells #[.pointer none, .pointer none] 25 (0, 0)), (some b17, .cells #[.slice (ownA key18) ws.length c19, .pointer none, i64 ((ws.length : Nat)), i64 ((0 : Nat))] 141 (0, 0)), (key18, sob E64 32 ws sp20), (some b1, .cells (cel EI ([(n1 : Nat), (n2 : Nat), (n3 : Nat)])).toArray 59 (0, 0))]) rfl
          clear H123
          refine sq (r_assign (v := .iface T116 (x117)) rfl) ?_
          refine wend ?_
          refine seqRegion ?_
          refine sq (r_move (v := .slice wa ws.length wc) rfl) ?_
          refine sq (r_indexA (off' := 0) (j := 0) arr59 (b := b1) (off := 0) rfl rfl (by first | rfl | omega | (simp; omega)) (by omega) (by omega)) ?_
          refine sq ((r_ld1 (E := EI) (l := [(n1 : Nat), (n2 : Nat), (n3 : Nat)]) (j := 0) (a := (n1 : Nat)) fits3 (H123'.get (k := 3) rfl) (by rfl) rfl rfl).as (v' := i64 ((n1 : Nat))) (by rfl)) ?_
          refine sq (r_indexA (off' := 1) (j := 1) arr59 (b := b1) (off := 0) rfl rfl (by first | rfl | omega | (simp; omega)) (by omega) (by omega)) ?_
          refine sq ((r_ld1 (E := EI) (l := [(n1 : Nat), (n2 : Nat), (n3 : Nat)]) (j := 1) (a := (n2 : Nat)) fits3 (H123'.get (k := 3) rfl) (by rfl) rfl rfl).as (v' := i64 ((n2 : Nat))) (by rfl)) ?_
          refine sq (r_indexA (off' := 2) (j := 2) arr59 (b := b1) (off := 0) rfl rfl (by first | rfl | omega | (simp; omega)) (by omega) (by omega)) ?_
          refine sq ((r_ld1 (E := EI) (l := [(n1 : Nat), (n2 : Nat), (n3 : Nat)]) (j := 2) (a := (n3 : Nat)) fits3 (H123'.get (k := 3) rfl) (by rfl) rfl rfl).as (v' := i64 ((n3 : Nat))) (by rfl)) ?_
          refine c_call (vs := [.slice wa ws.length wc, i64 ((n1 : Nat)), i64 ((n2 : Nat)), i64 ((n3 : Nat))]) call25 rfl (rdeal_short ws wa wc n1 n2 n3 (by omega) (by omega) (by omega) w122 (by omega) (by omega)) ?_
          rintro _ w125 ⟨rfl, hE126⟩
          have H127 := H123'.ext hE126
          refine sq (r_move (v := .tuple #[.agg #[.slice none 0 0, .slice none 0 0, .slice none 0 0, .slice none 0 0, .slice none 0 0, .slice none 0 0], i64 ((40 : Int))]) rfl) ?_
          refine sq (r_extract (vs := #[.agg #[.slice none 0 0, .slice none 0 0, .slice none 0 0, .slice none 0 0, .slice none 0 0, .slice none 0 0], i64 ((40 : Int))]) rfl rfl) ?_
          refine sq (r_extract (vs := #[.agg #[.slice none 0 0, .slice none 0 0, .slice none 0 0, .slice none 0 0, .slice none 0 0, .slice none 0 0], i64 ((40 : Int))]) rfl rfl) ?_
          refine q_alloc (o := .cells #[.slice none 0 0, .slice none 0 0, .slice none 0 0, .slice none 0 0, .slice none 0 0, .slice none 0 0] 61 (0, 0)) H127 zer61 (by kernel_rfl) ?_
          intro b128 w129 hb128 H130 hE131
          refine d_store (k := 0) (v := .agg #[.slice none 0 0, .slice none 0 0, .slice none 0 0, .slice none 0 0, .slice none 0 0, .slice none 0 0]) (cs' := #[.slice none 0 0, .slice none 0 0, .slice none 0 0, .slice none 0 0, .slice none 0 0, .slice none 0 0]) H130 rfl rfl rfl siz61 (by rfl) (by intro u hu; simp [Value.cells] at hu; first | (subst hu; rfl) | (rcases hu with rfl | rfl | rfl | rfl | rfl | rfl <;> rfl)) (by exact Nat.le_of_ble_eq_true rfl) (by rfl) ?_
          intro w132 H133 hC134
          have H133' := H133.as (L' := [(some b128, .cells #[.slice none 0 0, .slice none 0 0, .slice none 0 0, .slice none 0 0, .slice none 0 0, .slice none 0 0] 61 (0, 0)), (some b118, .cells #[.pointer none, .pointer none] 25 (0, 0)), (some b17, .cells #[.slice (ownA key18) ws.length c19, .pointer none, i64 ((ws.length : Nat)), i64 ((0 : Nat))] 141 (0, 0)), (key18, sob E64 32 ws sp20), (some b1, .cells (cel EI ([(n1 : Nat), (n2 : Nat), (n3 : Nat)])).toArray 59 (0, 0))]) rfl
          clear H133
          refine sq (r_assign (v := i64 ((40 : Int))) rfl) ?_
          refine wend ?_
          refine seqAny ?_
          refine seqRegion ?_
          refine sq (r_move (v := .iface T116 (x117)) rfl) ?_
          refine c_call (vs := [.iface T116 (x117)]) call26 rfl (code_ok 40 1 w15.heap.size (.iface T116 (x117)) w132 (Chg.gl H133'.chg (fun x => x) hG) ((Er.chgs (((((Ext.chg (M := fun x => x = b118 ∨ x = b128) hE121).trans (hC124.mono (M' := fun x => x = b118 ∨ x = b128) (fun _ h => by subst h; simp))).trans (Ext.chg (M := fun x => x = b118 ∨ x = b128) hE126)).trans (Ext.chg (M := fun x => x = b118 ∨ x = b128) hE131)).trans (hC134.mono (M' := fun x => x = b118 ∨ x = b128) (fun _ h => by subst h; simp))) (fun x h1 h2 h3 => by have := hE121.size; have := hC124.size; have := hE126.size; have := hE131.size; have := hC134.size; rcases h3 with rfl | rfl <;> omega) hEr113))) ?_
          rintro _ w135 ⟨rfl, hE136⟩
          have H137 := H133'.ext hE136
          refine sq (r_move (v := i64 ((40 : Int))) rfl) ?_
          refine sq ((r_neqI (a := 40) (b := (40 : Int)) rfl rfl).as (v' := .bool (false)) (by rfl)) ?_
          refine wend ?_
          refine condFalse rfl ?_
          refine skipAny ?_
          refine thenNormal ?_
          refine seqAny ?_
          refine seqRegion ?_
          refine sq (r_move (v := i64 ((40 : Int))) rfl) ?_
          refine sq ((r_neqI (a := (40 : Int)) (b := (0 : Int)) rfl rfl).as (v' := .bool (true)) (by rfl)) ?_
          refine wend ?_
          refine condTrue rfl ?_
          refine seqRegion ?_
          refine sq (r_indexA (off' := 0) (j := 0) arr25 (b := b118) (off := 0) rfl rfl (by first | rfl | omega | (simp; omega)) (by omega) (by omega)) ?_
          refine sq (r_loadC (v := .pointer none) one24 (H137.get (k := 1) rfl) (off := 0) rfl (by rfl)) ?_
          refine sq (r_eqlPO und24 rfl rfl) ?_
          refine sq (r_move (v := .bool (true)) rfl) ?_
          refine sqAny (v := .pointer (some ⟨b118, 1, none⟩)) (w' := w135) (wantedSome (d' := 58) (b := true) rfl rfl rfl) (r_indexA (off' := 1) (j := 1) arr25 (b := b118) (off := 0) rfl rfl (by first | rfl | omega | (simp; omega)) (by omega) (by omega)) ?_
          refine sqAny (v := .pointer none) (w' := w135) (wantedSome (d' := 58) (b := true) rfl rfl rfl) (r_loadC (v := .pointer none) one24 (H137.get (k := 1) rfl) (off := 1) rfl (by rfl)) ?_
          refine sqAny (v := .bool (true)) (w' := w135) (wantedSome (d' := 58) (b := true) rfl rfl rfl) (r_eqlPO und24 rfl rfl) ?_
          refine sq (r_pickT (u := .bool (true)) rfl rfl) ?_
          refine sq (r_move (v := .bool (true)) rfl) ?_
          refine sqAny (v := .pointer (some ⟨b17, 0, none⟩)) (w' := w135) (wantedSome (d' := 63) (b := true) rfl rfl rfl) (r_move (v := .pointer (some ⟨b17, 0, none⟩)) rfl) ?_
          refine caAny (wantedSome (d' := 63) (b := true) rfl rfl rfl) (Enters.callL (vs := [.pointer (some ⟨b17, 0, none⟩)]) call27 rfl) (used_ok b17 ws.length 0 (.slice (ownA key18) ws.length c19) (.pointer none) w135 (H137.get (k := 2) rfl)) ?_
          rintro _ w138 ⟨rfl, hE139⟩
          have H140 := H137.ext hE139
          refine sqAny (v := .bool (true)) (w' := w138) (wantedSome (d' := 63) (b := true) rfl rfl rfl) ((r_eqlI (a := (0 : Nat)) (b := (0 : Int)) rfl rfl).as (v' := .bool (true)) (by rfl)) ?_
          refine sq (r_pickT (u := .bool (true)) rfl rfl) ?_
          refine sq (r_assign (v := .bool (true)) rfl) ?_
          refine wend ?_
          refine retAny ?_
          refine thenRet ?_
          refine retG (rs := [.tmp 6]) (vs := [.bool (true)]) rfl ⟨⟨rfl, rfl⟩, trivial⟩ ?_
          exact ⟨_, rfl, rfl, H140.chg⟩
      · skip
        refine seqRegion ?_
        refine sq (r_move (v := .slice wa ws.length wc) rfl) ?_
        refine c_call (vs := [.slice wa ws.length wc]) call17 rfl (load_ok ws (by omega) wa ws.length wc (by rfl) w5 (hW.ext H7.chg)) ?_
        rintro _ w141 ⟨⟨b143, key144, c145, sp146, rfl, hS147, HN148⟩, hE149⟩
        have H150 := (H7.join HN148).as (L' := [(some b143, .cells #[.slice (ownA key144) ws.length c145, .pointer none, i64 ((ws.length : Nat)), i64 ((0 : Nat))] 141 (0, 0)), (key144, sob E64 32 ws sp146), (some b1, .cells (cel EI ([x1, x2, x3])).toArray 59 (0, 0))]) rfl
        refine sq (r_assign (v := .pointer (some ⟨b143, 0, none⟩)) rfl) ?_
        refine wend ?_
        refine seqRegion ?_
        refine sq (r_move (v := .pointer (some ⟨b143, 0, none⟩)) rfl) ?_
        refine sq (r_indexA (off' := 0) (j := 0) arr59 (b := b1) (off := 0) rfl rfl (by first | rfl | omega | (simp; omega)) (by omega) (by omega)) ?_
        refine sq (r_ld1 (E := EI) (l := [x1, x2, x3]) (j := 0) (a := x1) fits3 (H150.get (k := 2) rfl) (by rfl) rfl rfl) ?_
        refine sq (r_indexA (off' := 1) (j := 1) arr59 (b := b1) (off := 0) rfl rfl (by first | rfl | omega | (simp; omega)) (by omega) (by omega)) ?_
        refine sq (r_ld1 (E := EI) (l := [x1, x2, x3]) (j := 1) (a := x2) fits3 (H150.get (k := 2) rfl) (by rfl) rfl rfl) ?_
        refine sq (r_indexA (off' := 2) (j := 2) arr59 (b := b1) (off := 0) rfl rfl (by first | rfl | omega | (simp; omega)) (by omega) (by omega)) ?_
        refine sq (r_ld1 (E := EI) (l := [x1, x2, x3]) (j := 2) (a := x3) fits3 (H150.get (k := 2) rfl) (by rfl) rfl rfl) ?_
        have := H150.lt (List.mem_of_getElem? (i := 0) rfl) rfl
        have := H150.lt (List.mem_of_getElem? (i := 2) rfl) rfl
        refine c_call (vs := [.pointer (some ⟨b143, 0, none⟩), i64 (x1), i64 (x2), i64 (x3)]) call16 rfl (deal_range b143 x1 x2 x3 w141 (Chg.gl H150.chg (fun x => x) hG) (fun h => hr ⟨h 0 (by decide), h 1 (by decide), h 2 (by decide)⟩)) ?_
        rintro _ w151 ⟨⟨v153, rfl, hEr154⟩, hE155⟩
        have H156 := H150.ext hE155
        obtain ⟨T157, x158, rfl⟩ := hEr154.iface
        refine sq (r_move (v := .tuple #[.agg #[.pointer none, .pointer none], .iface T157 (x158)]) rfl) ?_
        refine sq (r_extract (vs := #[.agg #[.pointer none, .pointer none], .iface T157 (x158)]) rfl rfl) ?_
        refine sq (r_extract (vs := #[.agg #[.pointer none, .pointer none], .iface T157 (x158)]) rfl rfl) ?_
        refine q_alloc (o := .cells #[.pointer none, .pointer none] 25 (0, 0)) H156 zer25 (by kernel_rfl) ?_
        intro b159 w160 hb159 H161 hE162
        refine d_store (k := 0) (v := .agg #[.pointer none, .pointer none]) (cs' := #[.pointer none, .pointer none]) H161 rfl rfl rfl siz25 (by rfl) (by intro u hu; simp [Value.cells] at hu; first | (subst hu; rfl) | (rcases hu with rfl | rfl <;> rfl)) (by exact Nat.le_of_ble_eq_true rfl) (by rfl) ?_
        intro w163 H164 hC165
        have H164' := H164.as (L' := [(some b159, .cells #[.pointer none, .pointer none] 25 (0, 0)), (some b143, .cells #[.slice (ownA key144) ws.length c145, .pointer none, i64 ((ws.length : Nat)), i64 ((0 : Nat))] 141 (0, 0)), (key144, sob E64 32 ws sp146), (some b1, .cells (cel EI ([x1, x2, x3])).toArray 59 (0, 0))]) rfl
        clear H164
        refine sq (r_assign (v := .iface T157 (x158)) rfl) ?_
        refine wend ?_
        refine seqRegion ?_
        refine sq (r_move (v := .slice wa ws.length wc) rfl) ?_
        refine sq (r_indexA (off' := 0) (j := 0) arr59 (b := b1) (off := 0) rfl rfl (by first | rfl | omega | (simp; omega)) (by omega) (by omega)) ?_
        refine sq (r_ld1 (E := EI) (l := [x1, x2, x3]) (j := 0) (a := x1) fits3 (H164'.get (k := 3) rfl) (by rfl) rfl rfl) ?_
        refine sq (r_indexA (off' := 1) (j := 1) arr59 (b := b1) (off := 0) rfl rfl (by first | rfl | omega | (simp; omega)) (by omega) (by omega)) ?_
        refine sq (r_ld1 (E := EI) (l := [x1, x2, x3]) (j := 1) (a := x2) fits3 (H164'.get (k := 3) rfl) (by rfl) rfl rfl) ?_
        refine sq (r_indexA (off' := 2) (j := 2) arr59 (b := b1) (off := 0) rfl rfl (by first | rfl | omega | (simp; omega)) (by omega) (by omega)) ?_
        refine sq (r_ld1 (E := EI) (l := [x1, x2, x3]) (j := 2) (a := x3) fits3 (H164'.get (k := 3) rfl) (by rfl) rfl rfl) ?_
        refine c_call (vs := [.slice wa ws.length wc, i64 (x1), i64 (x2), i64 (x3)]) call25 rfl (rdeal_range ws wa wc x1 x2 x3 w163 hr) ?_
        rintro _ w166 ⟨rfl, hE167⟩
        have H168 := H164'.ext hE167
        refine sq (r_move (v := .tuple #[.agg #[.slice none 0 0, .slice none 0 0, .slice none 0 0, .slice none 0 0, .slice none 0 0, .slice none 0 0], i64 ((1 : Int))]) rfl) ?_
        refine sq (r_extract (vs := #[.agg #[.slice none 0 0, .slice none 0 0, .slice none 0 0, .slice none 0 0, .slice none 0 0, .slice none 0 0], i64 ((1 : Int))]) rfl rfl) ?_
        refine sq (r_extract (vs := #[.agg #[.slice none 0 0, .slice none 0 0, .slice none 0 0, .slice none 0 0, .slice none 0 0, .slice none 0 0], i64 ((1 : Int))]) rfl rfl) ?_
        refine q_alloc (o := .cells #[.slice none 0 0, .slice none 0 0, .slice none 0 0, .slice none 0 0, .slice none 0 0, .slice none 0 0] 61 (0, 0)) H168 zer61 (by kernel_rfl) ?_
        intro b169 w170 hb169 H171 hE172
        refine d_store (k := 0) (v := .agg #[.slice none 0 0, .slice none 0 0, .slice none 0 0, .slice none 0 0, .slice none 0 0, .slice none 0 0]) (cs' := #[.slice none 0 0, .slice none 0 0, .slice none 0 0, .slice none 0 0, .slice none 0 0, .slice none 0 0]) H171 rfl rfl rfl siz61 (by rfl) (by intro u hu; simp [Value.cells] at hu; first | (subst hu; rfl) | (rcases hu with rfl | rfl | rfl | rfl | rfl | rfl <;> rfl)) (by exact Nat.le_of_ble_eq_true rfl) (by rfl) ?_
        intro w173 H174 hC175
        have H174' := H174.as (L' := [(some b169, .cells #[.slice none 0 0, .slice none 0 0, .slice none 0 0, .slice none 0 0, .slice none 0 0, .slice none 0 0] 61 (0, 0)), (some b159, .cells #[.pointer none, .pointer none] 25 (0, 0)), (some b143, .cells #[.slice (ownA key144) ws.length c145, .pointer none, i64 ((ws.length : Nat)), i64 ((0 : Nat))] 141 (0, 0)), (key144, sob E64 32 ws sp146), (some b1, .cells (cel EI ([x1, x2, x3])).toArray 59 (0, 0))]) rfl
        clear H174
        refine sq (r_assign (v := i64 ((1 : Int))) rfl) ?_
        refine wend ?_
        refine seqAny ?_
        refine seqRegion ?_
        refine sq (r_move (v := .iface T157 (x158)) rfl) ?_
        refine c_call (vs := [.iface T157 (x158)]) call26 rfl (code_ok 1 1 w141.heap.size (.iface T157 (x158)) w173 (Chg.gl H174'.chg (fun x => x) hG) ((Er.chgs (((((Ext.chg (M := fun x => x = b159 ∨ x = b169) hE162).trans (hC165.mono (M' := fun x => x = b159 ∨ x = b169) (fun _ h => by subst h; simp))).trans (Ext.chg (M := fun x => x = b159 ∨ x = b169) hE167)).trans (Ext.chg (M := fun x => x = b159 ∨ x = b169) hE172)).trans (hC175.mono (M' := fun x => x = b159 ∨ x = b169) (fun _ h => by subst h; simp))) (fun x h1 h2 h3 => by have := hE162.size; have := hC165.size; have := hE167.size; have := hE172.size; have := hC175.size; rcases h3 with rfl | rfl <;> omega) hEr154))) ?_
        rintro _ w176 ⟨rfl, hE177⟩
        have H178 := H174'.ext hE177
        refine sq (r_move (v := i64 ((1 : Int))) rfl) ?_
        refine sq ((r_neqI (a := 1) (b := (1 : Int)) rfl rfl).as (v' := .bool (false)) (by rfl)) ?_
        refine wend ?_
        refine condFalse rfl ?_
        refine skipAny ?_
        refine thenNormal ?_
        refine seqAny ?_
        refine seqRegion ?_
        refine sq (r_move (v := i64 ((1 : Int))) rfl) ?_
        refine sq ((r_neqI (a := (1 : Int)) (b := (0 : Int)) rfl rfl).as (v' := .bool (true)) (by rfl)) ?_
        refine wend ?_
        refine condTrue rfl ?_
        refine seqRegion ?_
        refine sq (r_indexA (off' := 0) (j := 0) arr25 (b := b159) (off := 0) rfl rfl (by first | rfl | omega | (simp; omega)) (by omega) (by omega)) ?_
        refine sq (r_loadC (v := .pointer none) one24 (H178.get (k := 1) rfl) (off := 0) rfl (by rfl)) ?_
        refine sq (r_eqlPO und24 rfl rfl) ?_
        refine sq (r_move (v := .bool (true)) rfl) ?_
        refine sqAny (v := .pointer (some ⟨b159, 1, none⟩)) (w' := w176) (wantedSome (d' := 58) (b := true) rfl rfl rfl) (r_indexA (off' := 1) (j := 1) arr25 (b := b159) (off := 0) rfl rfl (by first | rfl | omega | (simp; omega)) (by omega) (by omega)) ?_
        refine sqAny (v := .pointer none) (w' := w176) (wantedSome (d' := 58) (b := true) rfl rfl rfl) (r_loadC (v := .pointer none) one24 (H178.get (k := 1) rfl) (off := 1) rfl (by rfl)) ?_
        refine sqAny (v := .bool (true)) (w' := w176) (wantedSome (d' := 58) (b := true) rfl rfl rfl) (r_eqlPO und24 rfl rfl) ?_
        refine sq (r_pickT (u := .bool (true)) rfl rfl) ?_
        refine sq (r_move (v := .bool (true)) rfl) ?_
        refine sqAny (v := .pointer (some ⟨b143, 0, none⟩)) (w' := w176) (wantedSome (d' := 63) (b := true) rfl rfl rfl) (r_move (v := .pointer (some ⟨b143, 0, none⟩)) rfl) ?_
        refine caAny (wantedSome (d' := 63) (b := true) rfl rfl rfl) (Enters.callL (vs := [.pointer (some ⟨b143, 0, none⟩)]) call27 rfl) (used_ok b143 ws.length 0 (.slice (ownA key144) ws.length c145) (.pointer none) w176 (H178.get (k := 2) rfl)) ?_
        rintro _ w179 ⟨rfl, hE180⟩
        have H181 := H178.ext hE180
        refine sqAny (v := .bool (true)) (w' := w179) (wantedSome (d' := 63) (b := true) rfl rfl rfl) ((r_eqlI (a := (0 : Nat)) (b := (0 : Int)) rfl rfl).as (v' := .bool (true)) (by rfl)) ?_
        refine sq (r_pickT (u := .bool (true)) rfl rfl) ?_
        refine sq (r_assign (v := .bool (true)) rfl) ?_
        refine wend ?_
        refine retAny ?_
        refine thenRet ?_
        refine retG (rs := [.tmp 6]) (vs := [.bool (true)]) rfl ⟨⟨rfl, rfl⟩, trivial⟩ ?_
        exact ⟨_, rfl, rfl, H181.chg⟩
end Go.Proofs.YteofdmdpaejgaaaDoor.Co
