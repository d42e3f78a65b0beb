/- The walks of the nets. -/
import Derived.Test.YtpmmhpgfbfehmaaDoorNet5
namespace Go.Proofs.YtpmmhpgfbfehmaaDoor.Nt
open Go Go.Proofs.YtpmmhpgfbfehmaaDoor.Vc Go.Proofs.YtpmmhpgfbfehmaaDoor.Er

theorem netorder_ok (fl : List SlV) (cont : Nat → List (BitVec 8)) (fa : Option Addr) (fc : Nat) (way lost : Int) (w₀ : World) (hG : Gl w₀) (hFr : Rd ES w₀ fa fl) (hfl : fl.length * 24 ≤ 140737488355328) (hfr : ∀ i, i < fl.length → (fl.getD i sv0).n = (cont i).length ∧ Rd E8 w₀ (fl.getD i sv0).a (cont i) ∧ (cont i).length ≤ 140737488351232 ∧ (fl.getD i sv0).n ≤ (fl.getD i sv0).c) : Calls Tryd.prog 3 [.slice fa fl.length fc, i64 (way), i64 (lost)].toArray w₀ (Ret fun v w' => v = .bool true ∧ Ext w₀ w') := by
  obtain ⟨k, hk⟩ := way_bool way
  have H := Hp.start No w₀
  refine enter (n := 93) Tryd.func3 rfl rfl (Nat.le_of_ble_eq_true rfl) ?_
  refine seqRegion ?_
  refine sq (r_assign (v := .bool (false)) rfl) ?_
  refine wend ?_
  refine seqRegion ?_
  refine c_call (vs := []) call12 rfl (nnew_ok w₀) ?_
  rintro _ w1 ⟨⟨b3, rfl, HN4⟩, hE5⟩
  have H6 := (H.join HN4).as (L' := ((some b3, .cells (nv false wy0 wy0) 76 (0, 0)) :: (wy0.key, sob ES 30 (svs wy0.fs) wy0.sp) :: (wy0.key, sob ES 30 (svs wy0.fs) wy0.sp) :: (frs 5 wy0.fs ++ (frs 5 wy0.fs ++ [])))) rfl
  refine sq (r_assign (v := .pointer (some ⟨b3, 0, none⟩)) rfl) ?_
  refine wend ?_
  refine seqAny ?_
  refine seqRegion ?_
  refine c_call (vs := []) call13 rfl (nawake_ok w1 (Chg.gl H6.chg (fun x => x) hG)) ?_
  rintro _ w7 ⟨rfl, hE8⟩
  have H9 := H6.ext hE8
  refine sq (r_notT rfl) ?_
  refine sq (r_move (v := .bool (false)) rfl) ?_
  refine sqAny (v := .pointer (some ⟨b3, 0, none⟩)) (w' := w7) (wantedSome (d' := 18) (b := false) rfl rfl rfl) (r_move (v := .pointer (some ⟨b3, 0, none⟩)) rfl) ?_
  refine sqAny (v := .bool (false)) (w' := w7) (wantedSome (d' := 18) (b := false) rfl rfl rfl) (r_eqlPN und23 rfl rfl) ?_
  refine sq (r_pickF (v := .bool (false)) rfl rfl) ?_
  refine wend ?_
  refine condFalse rfl ?_
  refine skipAny ?_
  refine thenNormal ?_
  refine seqRegion ?_
  refine sq (r_move (v := i64 (way)) rfl) ?_
  refine sq (r_Ito64 und3 und26 (a := way) rfl) ?_
  refine sq (r_rem64 (a := BitVec.ofInt 64 way) (b := 2#64) rfl rfl (by decide)) ?_
  refine sq ((r_64toI und26 und3 (a := (BitVec.ofInt 64 way) % (2#64)) rfl).as (v' := i64 (wI k)) (by exact congrArg i64 hk)) ?_
  refine sq (r_assign (v := i64 (wI k)) rfl) ?_
  have H10 := H9.as (L' := ((some b3, .cells (nv k wy0 wy0) 76 (0, 0)) :: (wy0.key, sob ES 30 (svs wy0.fs) wy0.sp) :: (wy0.key, sob ES 30 (svs wy0.fs) wy0.sp) :: (frs 5 wy0.fs ++ (frs 5 wy0.fs ++ [])))) (by cases k <;> rfl)
  refine wend ?_
  refine seqRegion ?_
  refine sq (r_move (v := .slice fa fl.length fc) rfl) ?_
  refine sq (r_lenS sli22 (a := fa) (m := fl.length) (c := fc) rfl) ?_
  refine sq ((r_minI (a := (fl.length : Nat)) (b := (64 : Int)) rfl rfl).as (v' := i64 (((min fl.length 64) : Nat))) (by exact congrArg i64 (by omega))) ?_
  refine sq (r_assign (v := i64 (((min fl.length 64) : Nat))) rfl) ?_
  refine wend ?_
  refine seqAny ?_
  refine seqRegion ?_
  refine sq (r_assign (v := i64 ((0 : Int))) rfl) ?_
  refine wend ?_
  refine blockAny ?_
  refine loopAny (σ := Nat × Wy) (fun (q, x) => [(0, .slice fa fl.length fc), (1, i64 (wI k)), (2, i64 (lost)), (7, .pointer (some ⟨b3, 0, none⟩)), (8, i64 (((min fl.length 64) : Nat))), (9, i64 ((q : Nat)))]) (fun (q, x) w' => q ≤ (min fl.length 64) ∧ x.ok ∧ bss x.fs = (List.range q).map cont ∧ Hp No w₀ w' ((some b3, .cells (nv k x wy0) 76 (0, 0)) :: (x.key, sob ES 30 (svs x.fs) x.sp) :: (wy0.key, sob ES 30 (svs wy0.fs) wy0.sp) :: (frs 5 x.fs ++ (frs 5 wy0.fs ++ [])))) (fun (q, x) => (min fl.length 64) - q) ((0, wy0)) ?_ ?_ ?_
  · exact ⟨rfl, rfl, rfl, rfl, rfl, rfl, trivial⟩
  · exact ⟨by omega, wy0_ok, rfl, H10⟩
  rintro ⟨q, x⟩ ρ w11 ⟨hq, hxok, hxb, HL⟩
  refine seqAny ?_
  refine seqRegion ?_
  refine sq (r_move (v := i64 ((q : Nat))) rfl) ?_
  refine sq (r_move (v := i64 (((min fl.length 64) : Nat))) rfl) ?_
  refine sq (r_lssI (a := (q : Nat)) (b := ((min fl.length 64) : Nat)) rfl rfl) ?_
  refine wend ?_
  refine condProp (((q : Nat) : Int) < ((min fl.length 64) : Nat)) rfl (fun hk31 => ?_) (fun hk31 => ?_)
  · skip
    refine skipAny ?_
    refine thenNormal ?_
    refine seqAny ?_
    refine blockAny ?_
    refine seqRegion ?_
    refine sq (r_move (v := .pointer (some ⟨b3, 0, none⟩)) rfl) ?_
    refine sq (r_move (v := i64 (wI k)) rfl) ?_
    refine sq (r_move (v := .slice fa fl.length fc) rfl) ?_
    refine sq (r_move (v := i64 ((q : Nat))) rfl) ?_
    refine sq (r_idxS (E := ES) (l := fl) (j := q) sli22 (hFr.ext HL.chg) rfl rfl (by first | rfl | omega | (simp; omega)) (by rfl) (by omega)) ?_
    refine sq ((r_ldS (E := ES) (l := fl) (j := q) (v := (fl).getD q sv0) fits30 (hFr.ext HL.chg) rfl rfl (at_getD (by omega))).as (v' := .slice ((fl.getD q sv0).a) ((fl.getD q sv0).n) ((fl.getD q sv0).c)) (by rfl)) ?_
    refine c_call (vs := [.pointer (some ⟨b3, 0, none⟩), i64 (wI k), .slice ((fl.getD q sv0).a) ((fl.getD q sv0).n) ((fl.getD q sv0).c)]) call14 rfl (send_ok k b3 x wy0 hxok ([]) w₀ w11 (cont q) (by (have := (hfr q (by omega)).2.2.1; omega)) ((fl.getD q sv0).a) ((fl.getD q sv0).n) ((fl.getD q sv0).c) (by exact (hfr q (by omega)).1) HL (fun w1 HX => (hfr q (by omega)).2.1.ext HX.chg) (by have h1 := congrArg List.length hxb; rw [bss_len, List.length_map, List.length_range] at h1; omega)) ?_
    rintro _ w13 ⟨rfl, a15, hok16, hbs17, HN18⟩
    have H19 := HN18.as (L' := ((some b3, .cells (nv k a15 wy0) 76 (0, 0)) :: (a15.key, sob ES 30 (svs a15.fs) a15.sp) :: (wy0.key, sob ES 30 (svs wy0.fs) wy0.sp) :: (frs 5 a15.fs ++ (frs 5 wy0.fs ++ [])))) rfl
    refine sq (r_neqNN isI28 rfl rfl) ?_
    refine wend ?_
    refine condFalse rfl ?_
    refine skipAny ?_
    refine blockNormal ?_
    refine thenNormal ?_
    refine oneRegion ?_
    refine sq (r_move (v := i64 ((q : Nat))) rfl) ?_
    refine sq (r_addI (a := (q : Nat)) (b := (1 : Int)) rfl rfl (by omega)) ?_
    refine sq (r_assign (v := i64 ((q : Nat) + (1 : Int))) rfl) ?_
    refine wnil ?_
    refine thenNormal ?_
    exact ⟨(q + 1, a15), _, rfl, ⟨rfl, rfl, rfl, rfl, rfl, rfl, trivial⟩, ⟨by omega, hok16, by rw [hbs17, hxb, List.range_succ, List.map_append]; rfl, H19⟩, by show (min fl.length 64) - (q + 1) < (min fl.length 64) - q; omega⟩
  · skip
    obtain rfl : q = (min fl.length 64) := by omega
    refine exitAny ?_
    refine thenExit ?_
    refine thenExit ?_
    refine blockHere ?_
    refine thenNormal ?_
    refine seqAny ?_
    refine seqRegion ?_
    refine sq (r_move (v := i64 (((min fl.length 64) : Nat))) rfl) ?_
    refine sq (r_eqlI (a := ((min fl.length 64) : Nat)) (b := (0 : Int)) rfl rfl) ?_
    refine wend ?_
    refine condProp ((((min fl.length 64) : Nat) : Int) = (0 : Int)) rfl (fun c43 => ?_) (fun c43 => ?_)
    · skip
      refine seqRegion ?_
      refine sq (r_move (v := .pointer (some ⟨b3, 0, none⟩)) rfl) ?_
      refine sq (r_move (v := i64 (wI k)) rfl) ?_
      refine c_call (vs := [.pointer (some ⟨b3, 0, none⟩), i64 (wI k)]) call15 rfl (len k b3 x wy0 w11 (HL.get (k := 0) rfl)) ?_
      rintro _ w20 ⟨rfl, hE21⟩
      have H22 := HL.ext hE21
      refine sq ((r_eqlI (a := (x.fs.length : Nat)) (b := (0 : Int)) rfl rfl).as (v' := .bool (true)) (by have h1 := congrArg List.length hxb; rw [bss_len, List.length_map, List.length_range] at h1; exact congrArg Value.bool (decide_eq_true (by omega)))) ?_
      refine sq (r_assign (v := .bool (true)) rfl) ?_
      refine wend ?_
      refine retAny ?_
      refine thenRet ?_
      refine retG (rs := [.tmp 6]) (vs := [.bool (true)]) rfl ⟨⟨rfl, rfl⟩, trivial⟩ ?_
      exact ⟨_, rfl, rfl, H22.chg⟩
    · skip
      refine skipAny ?_
      refine thenNormal ?_
      refine seqRegion ?_
      obtain ⟨r, hr, hr2⟩ := mod_nat (BitVec.ofInt 64 lost) (min fl.length 64) (by omega) (by omega) _ rfl
      refine sq (r_move (v := i64 (lost)) rfl) ?_
      refine sq (r_Ito64 und3 und26 (a := lost) rfl) ?_
      refine sq (r_move (v := i64 (((min fl.length 64) : Nat))) rfl) ?_
      refine sq (r_Ito64 und3 und26 (a := ((min fl.length 64) : Nat)) rfl) ?_
      refine sq (r_rem64 (a := BitVec.ofInt 64 lost) (b := BitVec.ofInt 64 ((min fl.length 64) : Nat)) rfl rfl ((ofInt_ne _ (by omega) (by omega)))) ?_
      refine sq ((r_64toI und26 und3 (a := (BitVec.ofInt 64 lost) % (BitVec.ofInt 64 ((min fl.length 64) : Nat))) rfl).as (v' := i64 ((r : Nat))) (by exact congrArg i64 hr)) ?_
      refine sq (r_assign (v := i64 ((r : Nat))) rfl) ?_
      refine wend ?_
      refine seqAny ?_
      refine seqRegion ?_
      refine sq (r_move (v := .pointer (some ⟨b3, 0, none⟩)) rfl) ?_
      refine sq (r_move (v := i64 (wI k)) rfl) ?_
      refine sq (r_move (v := i64 ((r : Nat))) rfl) ?_
      obtain ⟨f23, hf24, hfb25⟩ := bss_at (F := x.fs) (i := r) (b := cont r) (by rw [hxb, List.getElem?_map, List.getElem?_range hr2]; rfl)
      have fok26 := hxok.each _ (List.mem_of_getElem? hf24)
      have hif23 := (List.getElem?_eq_some_iff.1 hf24).1
      refine c_call (vs := [.pointer (some ⟨b3, 0, none⟩), i64 (wI k), i64 ((r : Nat))]) call16 rfl (drop_ok k b3 x wy0 hxok ([]) w₀ w11 r hif23 f23 hf24 (by have h1 := congrArg List.length hxb; rw [bss_len, List.length_map, List.length_range] at h1; omega) HL) ?_
      rintro _ w27 ⟨rfl, a29, hok30, hbs31, HN32⟩
      have H33 := HN32.as (L' := ((some b3, .cells (nv k a29 wy0) 76 (0, 0)) :: (a29.key, sob ES 30 (svs a29.fs) a29.sp) :: (wy0.key, sob ES 30 (svs wy0.fs) wy0.sp) :: (frs 5 a29.fs ++ (frs 5 wy0.fs ++ [])))) rfl
      have hx2 : bss a29.fs = remL cont r (min fl.length 64) 0 := by rw [hbs31, hxb]; exact remL_start hr2
      refine sq (r_neqNN isI28 rfl rfl) ?_
      refine wend ?_
      refine condFalse rfl ?_
      refine skipAny ?_
      refine thenNormal ?_
      refine seqAny ?_
      refine seqRegion ?_
      refine sq (r_assign (v := i64 ((0 : Int))) rfl) ?_
      refine wend ?_
      refine blockAny ?_
      refine loopAny (σ := Nat × Wy) (fun (q, x) => [(0, .slice fa fl.length fc), (1, i64 (wI k)), (2, i64 ((r : Nat))), (7, .pointer (some ⟨b3, 0, none⟩)), (8, i64 (((min fl.length 64) : Nat))), (10, i64 ((q : Nat)))]) (fun (q, x) w' => q ≤ (min fl.length 64) ∧ x.ok ∧ bss x.fs = remL cont r (min fl.length 64) q ∧ Hp No w₀ w' ((some b3, .cells (nv k x wy0) 76 (0, 0)) :: (x.key, sob ES 30 (svs x.fs) x.sp) :: (wy0.key, sob ES 30 (svs wy0.fs) wy0.sp) :: (frs 5 x.fs ++ (frs 5 wy0.fs ++ [])))) (fun (q, x) => (min fl.length 64) - q) ((0, a29)) ?_ ?_ ?_
      · exact ⟨rfl, rfl, rfl, rfl, rfl, rfl, trivial⟩
      · exact ⟨by omega, hok30, hx2, H33⟩
      rintro ⟨q, x⟩ ρ w34 ⟨hq, hxok, hxb, HL⟩
      refine seqAny ?_
      refine seqRegion ?_
      refine sq (r_move (v := i64 ((q : Nat))) rfl) ?_
      refine sq (r_move (v := i64 (((min fl.length 64) : Nat))) rfl) ?_
      refine sq (r_lssI (a := (q : Nat)) (b := ((min fl.length 64) : Nat)) rfl rfl) ?_
      refine wend ?_
      refine condProp (((q : Nat) : Int) < ((min fl.length 64) : Nat)) rfl (fun hk61 => ?_) (fun hk61 => ?_)
      · skip
        refine skipAny ?_
        refine thenNormal ?_
        refine seqAny ?_
        refine blockAny ?_
        refine seqAny ?_
        refine seqRegion ?_
        refine sq (r_move (v := i64 ((q : Nat))) rfl) ?_
        refine sq (r_move (v := i64 ((r : Nat))) rfl) ?_
        refine sq (r_eqlI (a := (q : Nat)) (b := (r : Nat)) rfl rfl) ?_
        refine wend ?_
        refine condProp (((q : Nat) : Int) = (r : Nat)) rfl (fun c66 => ?_) (fun c66 => ?_)
        · skip
          refine exitAny ?_
          refine thenExit ?_
          refine blockHere ?_
          refine thenNormal ?_
          refine oneRegion ?_
          refine sq (r_move (v := i64 ((q : Nat))) rfl) ?_
          refine sq (r_addI (a := (q : Nat)) (b := (1 : Int)) rfl rfl (by omega)) ?_
          refine sq (r_assign (v := i64 ((q : Nat) + (1 : Int))) rfl) ?_
          refine wnil ?_
          refine thenNormal ?_
          exact ⟨(q + 1, x), _, rfl, ⟨rfl, rfl, rfl, rfl, rfl, rfl, trivial⟩, ⟨by omega, hxok, by rw [hxb, remL_skip (by omega) (by omega)], HL⟩, by show (min fl.length 64) - (q + 1) < (min fl.length 64) - q; omega⟩
        · skip
          refine skipAny ?_
          refine thenNormal ?_
          refine seqRegion ?_
          refine sq (r_move (v := .pointer (some ⟨b3, 0, none⟩)) rfl) ?_
          refine sq (r_move (v := i64 (wI k)) rfl) ?_
          obtain ⟨f36, hf37, hfb38⟩ := bss_at (F := x.fs) (i := 0) (b := cont q) (by rw [hxb, remL_cons (by omega) (by omega)]; rfl)
          have fok39 := hxok.each _ (List.mem_of_getElem? hf37)
          have hif36 := (List.getElem?_eq_some_iff.1 hf37).1
          refine c_call (vs := [.pointer (some ⟨b3, 0, none⟩), i64 (wI k), i64 ((0 : Int))]) call17 rfl (deliver_ok k b3 x wy0 hxok ([]) w₀ w34 0 hif36 f36 hf37 (by have h1 := congrArg List.length hxb; rw [bss_len] at h1; have h2 := remL_len (cont := cont) (r := r) (K := (min fl.length 64)) (i := q); omega) HL) ?_
          rintro _ w40 ⟨rfl, a42, hok43, hbs44, HN45⟩
          have H46 := HN45.as (L' := ((f36.key, sob E8 5 f36.bs f36.sp) :: (some b3, .cells (nv k a42 wy0) 76 (0, 0)) :: (a42.key, sob ES 30 (svs a42.fs) a42.sp) :: (wy0.key, sob ES 30 (svs wy0.fs) wy0.sp) :: (frs 5 a42.fs ++ (frs 5 wy0.fs ++ [])))) rfl
          refine sq (r_move (v := .tuple #[.slice (ownA f36.key) f36.bs.length f36.c, .nilIface]) rfl) ?_
          refine sq (r_extract (vs := #[.slice (ownA f36.key) f36.bs.length f36.c, .nilIface]) rfl rfl) ?_
          refine sq (r_extract (vs := #[.slice (ownA f36.key) f36.bs.length f36.c, .nilIface]) rfl rfl) ?_
          refine sq (r_assign (v := .slice (ownA f36.key) f36.bs.length f36.c) rfl) ?_
          refine sq (r_assign (v := .nilIface) rfl) ?_
          refine wend ?_
          refine seqAny ?_
          refine drawAny (K := [none, none, none, none, none, none, none, none, none, none, none, none]) [0, 1, 3, 7, 15, 7, 7, 103, 231, 487, 1023, 2047] (fun w' => Ext w40 w') (fun w' w'' => Ext w' w'') mixed (by kernel_rfl) (Ext.drew _) (fun _ _ h h' => h.trans h') ?_ ?_
          · exact relNone (by decide)
          refine ⟨.nilIface, fun _ uw47 hC48 _ => Gives.run rfl (r_move (v := .nilIface) rfl) ⟨rfl, Chg.refl _ _⟩, ?_⟩
          refine ⟨.bool (false), fun _ uw49 hC50 _ => Gives.run rfl (r_neqNN isI28 rfl rfl) ⟨rfl, Chg.refl _ _⟩, ?_⟩
          refine ⟨.bool (false), fun _ uw51 hC52 _ => Gives.run rfl (r_move (v := .bool (false)) rfl) ⟨rfl, Chg.refl _ _⟩, ?_⟩
          refine ⟨.slice (ownA f36.key) f36.bs.length f36.c, fun _ uw53 hC54 _ => Gives.runW (wantedSome (d' := 75) (b := false) rfl rfl rfl) (r_move (v := .slice (ownA f36.key) f36.bs.length f36.c) rfl) ⟨rfl, Chg.refl _ _⟩, ?_⟩
          refine ⟨.string (strB f36.bs), fun _ uw55 hC56 _ => Gives.runW (wantedSome (d' := 75) (b := false) rfl rfl rfl) (r_toStr (l := f36.bs) und30 und5 und9 ((H46.ext hC56).rd (k := 0) rfl fok39) rfl (by rfl)) ⟨rfl, Chg.refl _ _⟩, ?_⟩
          refine ⟨.slice fa fl.length fc, fun _ uw57 hC58 _ => Gives.runW (wantedSome (d' := 75) (b := false) rfl rfl rfl) (r_move (v := .slice fa fl.length fc) rfl) ⟨rfl, Chg.refl _ _⟩, ?_⟩
          refine ⟨i64 ((q : Nat)), fun _ uw59 hC60 _ => Gives.runW (wantedSome (d' := 75) (b := false) rfl rfl rfl) (r_move (v := i64 ((q : Nat))) rfl) ⟨rfl, Chg.refl _ _⟩, ?_⟩
          refine ⟨.pointer (adr fa (q * 1)), fun _ uw61 hC62 _ => Gives.runW (wantedSome (d' := 75) (b := false) rfl rfl rfl) (r_idxS (E := ES) (l := fl) (j := q) sli22 (hFr.ext (H46.ext hC62).chg) rfl rfl (by first | rfl | omega | (simp; omega)) (by rfl) (by omega)) ⟨rfl, Chg.refl _ _⟩, ?_⟩
          refine ⟨.slice ((fl.getD q sv0).a) ((fl.getD q sv0).n) ((fl.getD q sv0).c), fun _ uw63 hC64 _ => Gives.runW (wantedSome (d' := 75) (b := false) rfl rfl rfl) ((r_ldS (E := ES) (l := fl) (j := q) (v := (fl).getD q sv0) fits30 (hFr.ext (H46.ext hC64).chg) rfl rfl (at_getD (by omega))).as (v' := .slice ((fl.getD q sv0).a) ((fl.getD q sv0).n) ((fl.getD q sv0).c)) (by rfl)) ⟨rfl, Chg.refl _ _⟩, ?_⟩
          refine ⟨.string (strB (cont q)), fun _ uw65 hC66 _ => Gives.runW (wantedSome (d' := 75) (b := false) rfl rfl rfl) (r_toStr (l := cont q) und30 und5 und9 ((hfr q (by omega)).2.1.ext (H46.ext hC66).chg) rfl (by exact (hfr q (by omega)).1)) ⟨rfl, Chg.refl _ _⟩, ?_⟩
          refine ⟨.bool (false), fun _ uw67 hC68 _ => Gives.runW (wantedSome (d' := 75) (b := false) rfl rfl rfl) ((r_neqStr (s := strB f36.bs) (s' := strB (cont q)) rfl rfl).as (v' := .bool (false)) (by rw [hfb38]; simp)) ⟨rfl, Chg.refl _ _⟩, ?_⟩
          refine ⟨.bool (false), fun _ uw69 hC70 _ => Gives.run rfl (r_pickF (v := .bool (false)) rfl rfl) ⟨rfl, Chg.refl _ _⟩, ?_⟩
          intro r74 w71 hE73 hF
          have H72 := H46.ext hE73
          refine wnil ?_
          refine thenNormal ?_
          refine condFalse rfl ?_
          refine skipAny ?_
          refine blockNormal ?_
          refine thenNormal ?_
          refine oneRegion ?_
          refine sq (r_move (v := i64 ((q : Nat))) rfl) ?_
          refine sq (r_addI (a := (q : Nat)) (b := (1 : Int)) rfl rfl (by omega)) ?_
          refine sq (r_assign (v := i64 ((q : Nat) + (1 : Int))) rfl) ?_
          refine wnil ?_
          refine thenNormal ?_
          exact ⟨(q + 1, a42), _, rfl, ⟨rfl, rfl, rfl, rfl, rfl, rfl, trivial⟩, ⟨by omega, hok43, by rw [hbs44, hxb, remL_cons (by omega) (by omega)]; rfl, (H72.dropk 0)⟩, by show (min fl.length 64) - (q + 1) < (min fl.length 64) - q; omega⟩
      · skip
        obtain rfl : q = (min fl.length 64) := by omega
        refine exitAny ?_
        refine thenExit ?_
        refine thenExit ?_
        refine blockHere ?_
        refine thenNormal ?_
        refine seqRegion ?_
        refine sq (r_move (v := .pointer (some ⟨b3, 0, none⟩)) rfl) ?_
        refine sq (r_move (v := i64 (wI k)) rfl) ?_
        have := HL.lt (List.mem_of_getElem? (i := 0) rfl) rfl
        refine c_call (vs := [.pointer (some ⟨b3, 0, none⟩), i64 (wI k), i64 ((0 : Int))]) call17 rfl (deliver_miss k b3 x wy0 w34 (0 : Int) (Chg.gl HL.chg (fun x => x) hG) (HL.get (k := 0) rfl) (by have h1 := congrArg List.length hxb; rw [remL_end, bss_len, List.length_nil] at h1; omega)) ?_
        rintro _ w75 ⟨⟨v77, rfl, hEr78⟩, hE79⟩
        have H80 := HL.ext hE79
        obtain ⟨T81, x82, rfl⟩ := hEr78.iface
        refine sq (r_move (v := .tuple #[.slice none 0 0, .iface T81 (x82)]) rfl) ?_
        refine sq (r_extract (vs := #[.slice none 0 0, .iface T81 (x82)]) rfl rfl) ?_
        refine sq (r_extract (vs := #[.slice none 0 0, .iface T81 (x82)]) rfl rfl) ?_
        refine sq (r_assign (v := .slice none 0 0) rfl) ?_
        refine sq (r_assign (v := .iface T81 (x82)) rfl) ?_
        refine wend ?_
        refine seqRegion ?_
        refine sq (r_move (v := .iface T81 (x82)) rfl) ?_
        refine c_call (vs := [.iface T81 (x82), i64 ((4 : Int))]) call18 rfl (is_ok 4 (4 : Int) 1 (.iface T81 (x82)) w34.heap.size w75 (hEr78)) ?_
        rintro _ w83 ⟨rfl, hE84⟩
        have H85 := H80.ext hE84
        refine sq (r_assign (v := .bool (true)) rfl) ?_
        refine wend ?_
        refine retAny ?_
        refine retG (rs := [.tmp 6]) (vs := [.bool (true)]) rfl ⟨⟨rfl, rfl⟩, trivial⟩ ?_
        exact ⟨_, rfl, rfl, H85.chg⟩
end Go.Proofs.YtpmmhpgfbfehmaaDoor.Nt
