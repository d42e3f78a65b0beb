/- The walks of the links. -/
import Derived.Test.YtpmmhpgfbfehmaaDoorLink13
namespace Go.Proofs.YtpmmhpgfbfehmaaDoor.Lk
open Go Go.Proofs.YtpmmhpgfbfehmaaDoor.Vc Go.Proofs.YtpmmhpgfbfehmaaDoor.Er
set_option linter.unusedVariables false
theorem fits51 : Fits Tryd.prog 51 EQ := fitsQ (by kernel_rfl) (by kernel_rfl)
theorem fld51_1 : fld Tryd.prog 51 1 = some (1, 1, 3) := by kernel_rfl
theorem siz49 : siz Tryd.prog 49 = some 2 := by kernel_rfl
theorem siz51 : siz Tryd.prog 51 = some 4 := by kernel_rfl
theorem sli46 : sli Tryd.prog 46 = some (51, 4) := by kernel_rfl
theorem zer40 : zer Tryd.prog 40 = some (.agg (List.replicate 2 (.slice none 0 0)).toArray) := by kernel_rfl
theorem zer49 : zer Tryd.prog 49 = some (.agg (List.replicate 2 (.pointer none)).toArray) := by kernel_rfl
theorem zer51 : zer Tryd.prog 51 = some (.agg #[.int .i64 0, .int .i64 0, .int .i64 0, .slice none 0 0]) := by kernel_rfl
theorem linksure_ok (xl : List OpQ) (cont : Nat → List (BitVec 8)) (xa : Option Addr) (xc : Nat) (w₀ : World) (hG : Gl w₀) (hSr : Rd EQ w₀ xa xl) (hxl : xl.length ≤ 140737488355328) (hop : ∀ i, i < xl.length → (xl.getD i oq0).bit ≤ 9223372036854775807 ∧ (xl.getD i oq0).fr.n = (cont i).length ∧ Rd E8 w₀ (xl.getD i oq0).fr.a (cont i) ∧ (cont i).length ≤ 140737488355328) : Calls Tryd.prog 5 [.slice xa xl.length xc].toArray w₀ (Ret fun v w' => v = .bool true ∧ Ext w₀ w') := by
  have H := Hp.start No w₀
  refine enter (n := 289) Tryd.func5 rfl rfl (Nat.le_of_ble_eq_true rfl) ?_
  refine seqRegion ?_
  refine sq (r_assign (v := .bool (false)) rfl) ?_
  refine wend ?_
  refine seqRegion ?_
  refine c_call (vs := []) call23 rfl (lnew_ok w₀) ?_
  rintro _ w1 ⟨⟨b3, rfl, HN4⟩, hE5⟩
  have okE := en0_ok 5
  have H6 := (H.join HN4).as (L' := ((endR 30 53 89 b3 en0 ++ (([] : List (Option Nat × Obj)) ++ ([] : List (Option Nat × Obj)))))) rfl
  refine c_call (vs := []) call23 rfl (lnew_ok w1) ?_
  rintro _ w7 ⟨⟨b9, rfl, HN10⟩, hE11⟩
  have H13 := (H6.join HN10).as (L' := endR 30 53 89 b9 en0 ++ (endR 30 53 89 b3 en0 ++ ([] : List (Option Nat × Obj)))) rfl
  have H12 := (Hp.mid (X := endR 30 53 89 b9 en0) (A := endR 30 53 89 b3 en0) (Y := ([] : List (Option Nat × Obj))) H13).as (L' := ((endR 30 53 89 b3 en0 ++ (endR 30 53 89 b9 en0 ++ ([] : List (Option Nat × Obj)))))) rfl
  refine sq (r_buildA (cs' := #[.pointer (some ⟨b3, 0, none⟩), .pointer (some ⟨b9, 0, none⟩)]) (ps := [(0, .pointer (some ⟨b3, 0, none⟩)), (1, .pointer (some ⟨b9, 0, none⟩))]) zer49 arr49 rfl (by rfl)) ?_
  refine q_alloc (o := .cells #[.pointer none, .pointer none] 49 (0, 0)) H12 zer49 (by kernel_rfl) ?_
  intro b14 w15 hb14 H16 hE17
  refine d_store (k := 0) (v := .agg #[.pointer (some ⟨b3, 0, none⟩), .pointer (some ⟨b9, 0, none⟩)]) (cs' := #[.pointer (some ⟨b3, 0, none⟩), .pointer (some ⟨b9, 0, none⟩)]) H16 rfl rfl rfl siz49 (by rfl) (by intro u hu; simp [Value.cells] at hu; first | (subst hu; rfl) | (rcases hu with rfl | rfl <;> rfl)) (by exact Nat.le_of_ble_eq_true rfl) (by rfl) ?_
  intro w18 H19 hC20
  have H19' := H19.as (L' := ((some b14, .cells #[.pointer (some ⟨b3, 0, none⟩), .pointer (some ⟨b9, 0, none⟩)] 49 (0, 0)) :: (endR 30 53 89 b3 en0 ++ (endR 30 53 89 b9 en0 ++ ([] : List (Option Nat × Obj)))))) rfl
  clear H19
  refine wend ?_
  refine seqAny ?_
  refine seqRegion ?_
  refine c_call (vs := []) call24 rfl (lawake_ok w18 (Chg.gl H19'.chg (fun x => x) hG)) ?_
  rintro _ w21 ⟨rfl, hE22⟩
  have H23 := H19'.ext hE22
  refine sq (r_notT rfl) ?_
  refine sq (r_move (v := .bool (false)) rfl) ?_
  refine sqAny (v := .pointer (some ⟨b14, 0, none⟩)) (w' := w21) (wantedSome (d' := 28) (b := false) rfl rfl rfl) (r_indexA (off' := 0) (j := 0) arr49 (b := b14) (off := 0) rfl rfl (by first | rfl | omega | (simp; omega)) (by omega) (by omega)) ?_
  refine sqAny (v := .pointer (some ⟨b3, 0, none⟩)) (w' := w21) (wantedSome (d' := 28) (b := false) rfl rfl rfl) (r_loadC (v := .pointer (some ⟨b3, 0, none⟩)) one47 (H23.get (k := 0) rfl) (off := 0) rfl (by rfl)) ?_
  refine sqAny (v := .bool (false)) (w' := w21) (wantedSome (d' := 28) (b := false) rfl rfl rfl) (r_eqlPN und47 rfl rfl) ?_
  refine sq (r_pickF (v := .bool (false)) rfl rfl) ?_
  refine sq (r_move (v := .bool (false)) rfl) ?_
  refine sqAny (v := .pointer (some ⟨b14, 1, none⟩)) (w' := w21) (wantedSome (d' := 33) (b := false) rfl rfl rfl) (r_indexA (off' := 1) (j := 1) arr49 (b := b14) (off := 0) rfl rfl (by first | rfl | omega | (simp; omega)) (by omega) (by omega)) ?_
  refine sqAny (v := .pointer (some ⟨b9, 0, none⟩)) (w' := w21) (wantedSome (d' := 33) (b := false) rfl rfl rfl) (r_loadC (v := .pointer (some ⟨b9, 0, none⟩)) one47 (H23.get (k := 0) rfl) (off := 1) rfl (by rfl)) ?_
  refine sqAny (v := .bool (false)) (w' := w21) (wantedSome (d' := 33) (b := false) rfl rfl rfl) (r_eqlPN und47 rfl rfl) ?_
  refine sq (r_pickF (v := .bool (false)) rfl rfl) ?_
  refine wend ?_
  refine condFalse rfl ?_
  refine skipAny ?_
  refine thenNormal ?_
  refine seqRegion ?_
  refine q_alloc (o := .cells #[.slice none 0 0, .slice none 0 0] 40 (0, 0)) H23 zer40 (by kernel_rfl) ?_
  intro b24 w25 hb24 H26 hE27
  refine q_alloc (o := .cells #[.slice none 0 0, .slice none 0 0] 40 (0, 0)) H26 zer40 (by kernel_rfl) ?_
  intro b28 w29 hb28 H30 hE31
  refine q_alloc (o := .cells #[.slice none 0 0, .slice none 0 0] 40 (0, 0)) H30 zer40 (by kernel_rfl) ?_
  intro b32 w33 hb32 H34 hE35
  refine wend ?_
  refine seqAny ?_
  refine seqRegion ?_
  refine sq (r_assign (v := i64 ((0 : Int))) rfl) ?_
  refine wend ?_
  refine blockAny ?_
  refine loopAny (σ := Nat × En × En × List (Option Nat × Obj) × Tx × Tx × Tx × Tx × Tx × Tx) (fun (z, u, v, G, wa, wb, sa, sb, ca, cb) => [(0, .slice xa xl.length xc), (3, .pointer (some ⟨b14, 0, none⟩)), (4, .pointer (some ⟨b24, 0, none⟩)), (5, .pointer (some ⟨b28, 0, none⟩)), (6, .pointer (some ⟨b32, 0, none⟩)), (7, i64 ((z : Nat)))]) (fun (z, u, v, G, wa, wb, sa, sb, ca, cb) w' => (z ≤ 360 ∧ u.ok 5 G ∧ v.ok 5 G ∧ Sv z u v wa wb sa sb ca cb) ∧ Hp No w₀ w' ((some b14, .cells #[.pointer (some ⟨b3, 0, none⟩), .pointer (some ⟨b9, 0, none⟩)] 49 (0, 0)) :: (some b24, .cells #[.slice (ownA wa.key) wa.l.length wa.c, .slice (ownA wb.key) wb.l.length wb.c] 40 (0, 0)) :: (some b28, .cells #[.slice (ownA sa.key) sa.l.length sa.c, .slice (ownA sb.key) sb.l.length sb.c] 40 (0, 0)) :: (some b32, .cells #[.slice (ownA ca.key) ca.l.length ca.c, .slice (ownA cb.key) cb.l.length cb.c] 40 (0, 0)) :: (wa.key, sob ET 9 wa.l wa.sp) :: (wb.key, sob ET 9 wb.l wb.sp) :: (sa.key, sob ET 9 sa.l sa.sp) :: (sb.key, sob ET 9 sb.l sb.sp) :: (ca.key, sob ET 9 ca.l ca.sp) :: (cb.key, sob ET 9 cb.l cb.sp) :: (endR 30 53 89 b3 u ++ (endR 30 53 89 b9 v ++ G)))) (fun (z, u, v, G, wa, wb, sa, sb, ca, cb) => 360 - z) ((0, en0, en0, ([] : List (Option Nat × Obj)), tx0, tx0, tx0, tx0, tx0, tx0)) ?_ ?_ ?_
  · exact ⟨rfl, rfl, rfl, rfl, rfl, rfl, trivial⟩
  · exact ⟨⟨Nat.zero_le _, okE, okE, sv0_ok⟩, ((((((((((((((((H34.nil (sob ET 9 [] [])).nil (sob ET 9 [] [])).nil (sob ET 9 [] [])).nil (sob ET 9 [] [])).nil (sob ET 9 [] [])).nil (sob ET 9 [] [])).pull (k := 5) rfl).pull (k := 5) rfl).pull (k := 5) rfl).pull (k := 5) rfl).pull (k := 5) rfl).pull (k := 5) rfl).pull (k := 6) rfl).pull (k := 7) rfl).pull (k := 8) rfl).pull (k := 9) rfl)⟩
  rintro ⟨z, u, v, G, wa, wb, sa, sb, ca, cb⟩ ρ w36 ⟨⟨hz, hu, hv, hs⟩, HL⟩
  refine seqAny ?_
  refine seqRegion ?_
  refine sq (r_move (v := i64 ((z : Nat))) rfl) ?_
  refine sq (r_move (v := .slice xa xl.length xc) rfl) ?_
  refine sq (r_lenS sli46 (a := xa) (m := xl.length) (c := xc) rfl) ?_
  refine sq (r_lssI (a := (z : Nat)) (b := (xl.length : Nat)) rfl rfl) ?_
  refine sq (r_move (v := .bool (decide (((z : Nat) : Int) < (xl.length : Nat)))) rfl) ?_
  by_cases g38 : ((z : Nat) : Int) < (xl.length : Nat)
  · skip
    refine sqAny (v := i64 ((z : Nat))) (w' := w36) (wantedSome (d' := 42) (b := true) rfl rfl (congrArg Value.bool (decide_eq_true g38))) (r_move (v := i64 ((z : Nat))) rfl) ?_
    refine sqAny (v := .bool (decide (((z : Nat) : Int) < (360 : Int)))) (w' := w36) (wantedSome (d' := 42) (b := true) rfl rfl (congrArg Value.bool (decide_eq_true g38))) (r_lssI (a := (z : Nat)) (b := (360 : Int)) rfl rfl) ?_
    refine sq (r_pickT (u := .bool (decide (((z : Nat) : Int) < (360 : Int)))) (congrArg Value.bool (decide_eq_true g38)) rfl) ?_
    refine wend ?_
    refine condProp (((z : Nat) : Int) < (360 : Int)) rfl (fun c45 => ?_) (fun c45 => ?_)
    · skip
      have hzl : z < xl.length := by omega
      have hz3 : z < 360 := by omega
      refine skipAny ?_
      refine thenNormal ?_
      refine seqAny ?_
      refine blockAny ?_
      refine seqRegion ?_
      refine sq (r_move (v := .slice xa xl.length xc) rfl) ?_
      refine sq (r_move (v := i64 ((z : Nat))) rfl) ?_
      refine sq (r_idxS (E := EQ) (l := xl) (j := z) sli46 (hSr.ext HL.chg) rfl rfl (by first | rfl | omega | (simp; omega)) (by rfl) (by omega)) ?_
      refine sq (((r_ldS (E := EQ) (l := xl) (j := z) (v := (xl).getD z oq0) fits51 (hSr.ext HL.chg) rfl rfl (at_getD (by omega))).as (v' := .agg #[i64 (((xl).getD z oq0).kd), i64 (((xl).getD z oq0).i), i64 (((xl).getD z oq0).bit), .slice (((xl).getD z oq0).fr.a) (((xl).getD z oq0).fr.n) (((xl).getD z oq0).fr.c)]) rfl).as (v' := .agg #[i64 (((xl).getD z oq0).kd), i64 (((xl).getD z oq0).i), i64 (((xl).getD z oq0).bit), .slice (((xl).getD z oq0).fr.a) ((cont z).length) (((xl).getD z oq0).fr.c)]) (by rw [← (hop z (by omega)).2.1])) ?_
      refine q_alloc (o := .cells #[i64 ((0 : Int)), i64 ((0 : Int)), i64 ((0 : Int)), .slice none 0 0] 51 (0, 0)) HL zer51 (by kernel_rfl) ?_
      intro b39 w40 hb39 H41 hE42
      refine d_store (k := 0) (v := .agg #[i64 (((xl).getD z oq0).kd), i64 (((xl).getD z oq0).i), i64 (((xl).getD z oq0).bit), .slice (((xl).getD z oq0).fr.a) ((cont z).length) (((xl).getD z oq0).fr.c)]) (cs' := #[i64 (((xl).getD z oq0).kd), i64 (((xl).getD z oq0).i), i64 (((xl).getD z oq0).bit), .slice (((xl).getD z oq0).fr.a) ((cont z).length) (((xl).getD z oq0).fr.c)]) H41 rfl rfl rfl siz51 (by rfl) (by intro u hu; simp [Value.cells] at hu; first | (subst hu; rfl) | (rcases hu with rfl | rfl | rfl | rfl <;> rfl)) (by exact Nat.le_of_ble_eq_true rfl) (by rfl) ?_
      intro w43 H44 hC45
      have H44' := H44.as (L' := ((some b39, .cells #[i64 (((xl).getD z oq0).kd), i64 (((xl).getD z oq0).i), i64 (((xl).getD z oq0).bit), .slice (((xl).getD z oq0).fr.a) ((cont z).length) (((xl).getD z oq0).fr.c)] 51 (0, 0)) :: (some b14, .cells #[.pointer (some ⟨b3, 0, none⟩), .pointer (some ⟨b9, 0, none⟩)] 49 (0, 0)) :: (some b24, .cells #[.slice (ownA wa.key) wa.l.length wa.c, .slice (ownA wb.key) wb.l.length wb.c] 40 (0, 0)) :: (some b28, .cells #[.slice (ownA sa.key) sa.l.length sa.c, .slice (ownA sb.key) sb.l.length sb.c] 40 (0, 0)) :: (some b32, .cells #[.slice (ownA ca.key) ca.l.length ca.c, .slice (ownA cb.key) cb.l.length cb.c] 40 (0, 0)) :: (wa.key, sob ET 9 wa.l wa.sp) :: (wb.key, sob ET 9 wb.l wb.sp) :: (sa.key, sob ET 9 sa.l sa.sp) :: (sb.key, sob ET 9 sb.l sb.sp) :: (ca.key, sob ET 9 ca.l ca.sp) :: (cb.key, sob ET 9 cb.l cb.sp) :: (endR 30 53 89 b3 u ++ (endR 30 53 89 b9 v ++ G)))) rfl
      clear H44
      refine wend ?_
      refine seqRegion ?_
      refine sq (r_fieldAddr (off' := 1) fld51_1 (by decide) (b := b39) (off := 0) rfl (by omega)) ?_
      refine sq (r_loadC (v := i64 (((xl).getD z oq0).i)) one3 (H44'.get (k := 0) rfl) (off := 1) rfl (by rfl)) ?_
      refine sq (r_Ito64 und3 und26 (a := ((xl).getD z oq0).i) rfl) ?_
      obtain ⟨xm, hxm, hxm2⟩ := modBig (BitVec.ofInt 64 ((xl).getD z oq0).i) 2#64 2 (by omega) (by omega) rfl
      refine sq (r_rem64 (a := BitVec.ofInt 64 (((xl).getD z oq0).i)) (b := 2#64) rfl rfl (by decide)) ?_
      refine sq ((r_64toI und26 und3 (a := (BitVec.ofInt 64 (((xl).getD z oq0).i)) % (2#64)) rfl).as (v' := i64 ((xm : Nat))) (by exact congrArg i64 hxm)) ?_
      refine sq (r_assign (v := i64 ((xm : Nat))) rfl) ?_
      refine wend ?_
      refine outHere (n := 289) (e := .normal) (σ := En × En × List (Option Nat × Obj) × Tx × Tx × Tx × Tx × Tx × Tx) (fun _ => [(0, .slice xa xl.length xc), (3, .pointer (some ⟨b14, 0, none⟩)), (4, .pointer (some ⟨b24, 0, none⟩)), (5, .pointer (some ⟨b28, 0, none⟩)), (6, .pointer (some ⟨b32, 0, none⟩)), (7, i64 ((z : Nat)))]) (J5 w₀ b3 b9 b14 b24 b28 b32 z) ?_ (fun hn => ?_)
      · skip
        rintro ⟨u5, v5, G5, wa5, wb5, sa5, sb5, ca5, cb5⟩ ρ w9 ⟨⟨hu5, hv5, hs5⟩, H9⟩
        refine blockNormal ?_
        refine thenNormal ?_
        refine oneRegion ?_
        refine sq (r_move (v := i64 ((z : Nat))) rfl) ?_
        refine sq (r_addI (a := (z : Nat)) (b := (1 : Int)) rfl rfl (by omega)) ?_
        refine sq (r_assign (v := i64 ((z : Nat) + (1 : Int))) rfl) ?_
        refine wnil ?_
        refine thenNormal ?_
        exact ⟨(z + 1, u5, v5, G5, ⟨wa5.key, wa5.c, wa5.sp, wa5.l⟩, ⟨wb5.key, wb5.c, wb5.sp, wb5.l⟩, ⟨sa5.key, sa5.c, sa5.sp, sa5.l⟩, ⟨sb5.key, sb5.c, sb5.sp, sb5.l⟩, ⟨ca5.key, ca5.c, ca5.sp, ca5.l⟩, ⟨cb5.key, cb5.c, cb5.sp, cb5.l⟩), _, rfl, ⟨rfl, rfl, rfl, rfl, rfl, rfl, trivial⟩, ⟨⟨by omega, hu5, hv5, hs5⟩, H9⟩, by show 360 - (z + 1) < 360 - z; omega⟩
      · skip
        refine outHere (n := 289) (e := .ret) (σ := Unit) (fun _ => [(2, .bool true)]) (fun _ w' => ∃ L, Hp No w₀ w' L) ?_ (fun hr => ?_)
        · skip
          rintro _ ρ w9 ⟨L9, H9⟩
          refine blockRet ?_
          refine thenRet ?_
          refine thenRet ?_
          refine blockRet ?_
          refine thenRet ?_
          refine retG (rs := [.tmp 2]) (vs := [.bool (true)]) rfl ⟨⟨rfl, rfl⟩, trivial⟩ ?_
          exact ⟨_, rfl, rfl, H9.chg⟩
        · skip
          have hx2 : xm = 0 ∨ xm = 1 := by omega
          have hK := fun s ρ w hk hJ => keepHere hk (sure_k xl cont xa xc w₀ hG hSr hxl hop b3 b9 b14 b24 b28 b32 z hz3 hn s ρ w hJ)
          rcases hx2 with rfl | rfl
          · exact keepHere (slots := [(0, .slice xa xl.length xc), (3, .pointer (some ⟨b14, 0, none⟩)), (4, .pointer (some ⟨b24, 0, none⟩)), (5, .pointer (some ⟨b28, 0, none⟩)), (6, .pointer (some ⟨b32, 0, none⟩)), (7, i64 ((z : Nat))), (8, .pointer (some ⟨b39, 0, none⟩)), (9, i64 ((0 : Nat)))]) ⟨rfl, rfl, rfl, rfl, rfl, rfl, rfl, rfl, trivial⟩ (sure_0 xl cont xa xc w₀ hG hSr hxl hop b3 b9 b14 b24 b28 b32 b39 z hz3 hzl u v G wa wb sa sb ca cb hu hv hs hK hr _ H44' _)
          · exact keepHere (slots := [(0, .slice xa xl.length xc), (3, .pointer (some ⟨b14, 0, none⟩)), (4, .pointer (some ⟨b24, 0, none⟩)), (5, .pointer (some ⟨b28, 0, none⟩)), (6, .pointer (some ⟨b32, 0, none⟩)), (7, i64 ((z : Nat))), (8, .pointer (some ⟨b39, 0, none⟩)), (9, i64 ((1 : Nat)))]) ⟨rfl, rfl, rfl, rfl, rfl, rfl, rfl, rfl, trivial⟩ (sure_1 xl cont xa xc w₀ hG hSr hxl hop b3 b9 b14 b24 b28 b32 b39 z hz3 hzl u v G wa wb sa sb ca cb hu hv hs hK hr _ H44' _)
    · skip
      refine exitAny ?_
      refine thenExit ?_
      refine thenExit ?_
      refine blockHere ?_
      refine thenNormal ?_
      refine seqRegion ?_
      refine sq (r_assign (v := .bool (true)) rfl) ?_
      refine wend ?_
      refine retAny ?_
      refine retG (rs := [.tmp 2]) (vs := [.bool (true)]) rfl ⟨⟨rfl, rfl⟩, trivial⟩ ?_
      exact ⟨_, rfl, rfl, HL.chg⟩
  · skip
    refine skAny (wantedSome (d' := 42) (b := false) rfl rfl (congrArg Value.bool (decide_eq_false g38))) ?_
    refine skAny (wantedSome (d' := 42) (b := false) rfl rfl (congrArg Value.bool (decide_eq_false g38))) ?_
    refine sq (r_pickF (v := .bool (false)) (congrArg Value.bool (decide_eq_false g38)) rfl) ?_
    refine wend ?_
    refine condFalse rfl ?_
    refine exitAny ?_
    refine thenExit ?_
    refine thenExit ?_
    refine blockHere ?_
    refine thenNormal ?_
    refine seqRegion ?_
    refine sq (r_assign (v := .bool (true)) rfl) ?_
    refine wend ?_
    refine retAny ?_
    refine retG (rs := [.tmp 2]) (vs := [.bool (true)]) rfl ⟨⟨rfl, rfl⟩, trivial⟩ ?_
    exact ⟨_, rfl, rfl, HL.chg⟩
end Go.Proofs.YtpmmhpgfbfehmaaDoor.Lk
