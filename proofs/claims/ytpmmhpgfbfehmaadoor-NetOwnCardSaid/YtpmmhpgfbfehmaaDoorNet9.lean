/- The walks of the nets. -/
import Derived.Test.YtpmmhpgfbfehmaaDoorNet8
namespace Go.Proofs.YtpmmhpgfbfehmaaDoor.Nt
open Go Go.Proofs.YtpmmhpgfbfehmaaDoor.Vc Go.Proofs.YtpmmhpgfbfehmaaDoor.Er
theorem call22 : callable Tryd.prog 22 = true := by kernel_rfl
theorem pls42 : pls Tryd.prog 42 = some #[(0, 2)] := by kernel_rfl
theorem zer40 : zer Tryd.prog 40 = some (.agg (List.replicate 2 (.slice none 0 0)).toArray) := by kernel_rfl
theorem netown_ok (bs : List (BitVec 8)) (fa : Option Addr) (fc : Nat) (bit : Int) (hb64 : bit ≤ 9223372036854775807) (w₀ : World) (hG : Gl w₀) (hFa : Rd E8 w₀ fa bs) (hbl : bs.length ≤ 140737488351232) : Calls Tryd.prog 4 [.slice fa bs.length fc, i64 (bit)].toArray w₀ (Ret fun v w' => v = .bool true ∧ Ext w₀ w') := by
  have H := Hp.start No w₀
  refine enter (n := 141) Tryd.func4 rfl rfl (Nat.le_of_ble_eq_true rfl) ?_
  refine seqRegion ?_
  refine sq (r_assign (v := .bool (false)) rfl) ?_
  refine wend ?_
  refine seqRegion ?_
  refine c_call (vs := []) call12 rfl (nnew_ok w₀) ?_
  rintro _ w1 ⟨⟨b3, rfl, HN4⟩, hE5⟩
  have H6 := (H.join HN4).as (L' := ((some b3, .cells (nv false wy0 wy0) 76 (0, 0)) :: (wy0.key, sob ES 30 (svs wy0.fs) wy0.sp) :: (wy0.key, sob ES 30 (svs wy0.fs) wy0.sp) :: (frs 5 wy0.fs ++ (frs 5 wy0.fs ++ [])))) rfl
  refine sq (r_assign (v := .pointer (some ⟨b3, 0, none⟩)) rfl) ?_
  refine wend ?_
  refine seqAny ?_
  refine seqRegion ?_
  refine c_call (vs := []) call13 rfl (nawake_ok w1 (Chg.gl H6.chg (fun x => x) hG)) ?_
  rintro _ w7 ⟨rfl, hE8⟩
  have H9 := H6.ext hE8
  refine sq (r_notT rfl) ?_
  refine sq (r_move (v := .bool (false)) rfl) ?_
  refine sqAny (v := .pointer (some ⟨b3, 0, none⟩)) (w' := w7) (wantedSome (d' := 22) (b := false) rfl rfl rfl) (r_move (v := .pointer (some ⟨b3, 0, none⟩)) rfl) ?_
  refine sqAny (v := .bool (false)) (w' := w7) (wantedSome (d' := 22) (b := false) rfl rfl rfl) (r_eqlPN und23 rfl rfl) ?_
  refine sq (r_pickF (v := .bool (false)) rfl rfl) ?_
  refine wend ?_
  refine condFalse rfl ?_
  refine skipAny ?_
  refine thenNormal ?_
  refine seqRegion ?_
  refine q_buildSlice (E := E8) (l := []) H9 sli30 zer5 (Nat.le_of_ble_eq_true rfl) (ps := []) rfl (by exact fillAll rfl rfl) rfl ?_
  intro b10 w12 hS11 H13 hE14
  refine sq (r_move (v := .slice fa bs.length fc) rfl) ?_
  refine q_append (E := E8) (k := 0) (l := []) (l2 := bs) H13 rfl hS11 sli30 zer5 rfl byt5 (hFa.ext H13.chg) rfl (by rfl) rfl (by rfl) (by omega) ?_
  intro key15 c16 sp17 w19 hS18 hne21 H20
  have H20' := H20.as (L' := ((key15, sob E8 5 (([]) ++ bs) sp17) :: (some b3, .cells (nv false wy0 wy0) 76 (0, 0)) :: (wy0.key, sob ES 30 (svs wy0.fs) wy0.sp) :: (wy0.key, sob ES 30 (svs wy0.fs) wy0.sp) :: (frs 5 wy0.fs ++ (frs 5 wy0.fs ++ [])))) rfl
  clear H20
  have e22 : ([]) ++ bs = bs := by rw [List.nil_append]
  have hS23 := hS18
  rw [e22] at hS23
  have H24 := H20'.as (L' := ((key15, sob E8 5 bs sp17) :: (some b3, .cells (nv false wy0 wy0) 76 (0, 0)) :: (wy0.key, sob ES 30 (svs wy0.fs) wy0.sp) :: (wy0.key, sob ES 30 (svs wy0.fs) wy0.sp) :: (frs 5 wy0.fs ++ (frs 5 wy0.fs ++ [])))) (by rw [e22])
  refine q_buildSlice (E := E8) (l := [77#8]) H24 sli30 zer5 (Nat.le_of_ble_eq_true rfl) (ps := [(0, u8 (77#8))]) rfl (by exact fillAll rfl rfl) rfl ?_
  intro b25 w27 hS26 H28 hE29
  refine q_append (E := E8) (k := 1) (l := bs) (l2 := [77#8]) H28 rfl hS23 sli30 zer5 rfl byt5 (H28.rd (k := 0) rfl hS26) rfl (by exact Nat.zero_add _) rfl (by rfl) (by omega) ?_
  intro key30 c31 sp32 w34 hS33 hne36 H35
  have H35' := H35.as (L' := (((some b25), sob E8 5 ([77#8]) ([])) :: (key30, sob E8 5 (bs ++ ([77#8])) sp32) :: (some b3, .cells (nv false wy0 wy0) 76 (0, 0)) :: (wy0.key, sob ES 30 (svs wy0.fs) wy0.sp) :: (wy0.key, sob ES 30 (svs wy0.fs) wy0.sp) :: (frs 5 wy0.fs ++ (frs 5 wy0.fs ++ [])))) rfl
  clear H35
  have e37 : bs ++ ([77#8]) = bs ++ [77#8] := by rfl
  have hS38 := hS33
  rw [e37] at hS38
  have H39 := H35'.as (L' := (((some b25), sob E8 5 ([77#8]) ([])) :: (key30, sob E8 5 (bs ++ [77#8]) sp32) :: (some b3, .cells (nv false wy0 wy0) 76 (0, 0)) :: (wy0.key, sob ES 30 (svs wy0.fs) wy0.sp) :: (wy0.key, sob ES 30 (svs wy0.fs) wy0.sp) :: (frs 5 wy0.fs ++ (frs 5 wy0.fs ++ [])))) (by rw [e37])
  refine sq (r_assign (v := .slice (ownA key30) ((0 + bs.length) + 1) c31) rfl) ?_
  have H40 := H39.dropk 0
  have H40' := H40.as (L' := ((key30, sob E8 5 (bs ++ [77#8]) sp32) :: (some b3, .cells (nv false wy0 wy0) 76 (0, 0)) :: (wy0.key, sob ES 30 (svs wy0.fs) wy0.sp) :: (wy0.key, sob ES 30 (svs wy0.fs) wy0.sp) :: (frs 5 wy0.fs ++ (frs 5 wy0.fs ++ [])))) rfl
  have hcap : bs.length + 1 ≤ c31 := by have := hS38.cap; rw [List.length_append] at this; exact this
  refine wend ?_
  refine seqRegion ?_
  refine sq (r_move (v := .pointer (some ⟨b3, 0, none⟩)) rfl) ?_
  refine sq (r_move (v := .slice (ownA key30) ((0 + bs.length) + 1) c31) rfl) ?_
  refine sq (r_move (v := .slice fa bs.length fc) rfl) ?_
  refine sq (r_lenS sli30 (a := fa) (m := bs.length) (c := fc) rfl) ?_
  refine sq ((r_sliceS (l := 0) (h := bs.length) sli30 rfl (.inr ⟨rfl, rfl⟩) (.inl ⟨_, _, _, rfl, rfl, by first | rfl | omega | (simp; omega)⟩) (by omega) (by omega)).as (v' := .slice (if c31 = 0 then ownA key30 else adr (ownA key30) (0 * 1)) bs.length (c31 - 0)) (by first | rfl | (congr 1; omega) | (simp; omega) | simp)) ?_
  have H41 := Hp.toR [(key30, sob E8 5 (bs ++ [77#8]) sp32)] (F := frs 5 wy0.fs) (G := frs 5 wy0.fs) (X := []) H40'
  refine c_call (vs := [.pointer (some ⟨b3, 0, none⟩), i64 ((0 : Int)), .slice (if c31 = 0 then ownA key30 else adr (ownA key30) (0 * 1)) bs.length (c31 - 0)]) call14 rfl (send_ok false b3 wy0 wy0 wy0_ok ([(key30, sob E8 5 (bs ++ [77#8]) sp32)] ++ []) w₀ w34 (((bs ++ [77#8]).drop 0).take (bs.length)) (by first | omega | exact Nat.le_of_ble_eq_true rfl | (simp; omega)) (if c31 = 0 then ownA key30 else adr (ownA key30) (0 * 1)) bs.length (c31 - 0) (by rw [List.length_take, List.length_drop, List.length_append]; omega) H41 (fun w1 HX => Rd.sub (HX.rdm (T := 5) hS38 (by simp)) 0 (bs.length) (m := c31) (fun e => by first | exact absurd e (by omega) | (rw [show bs.length = 0 by omega]; rfl))) (by decide)) ?_
  rintro _ w42 ⟨rfl, a44, hok45, hbs46, HN47⟩
  have H48 := (Hp.fromR [(key30, sob E8 5 (bs ++ [77#8]) sp32)] (F := frs 5 a44.fs) (G := frs 5 wy0.fs) (X := []) HN47).as (L' := ((key30, sob E8 5 (bs ++ [77#8]) sp32) :: (some b3, .cells (nv false a44 wy0) 76 (0, 0)) :: (a44.key, sob ES 30 (svs a44.fs) a44.sp) :: (wy0.key, sob ES 30 (svs wy0.fs) wy0.sp) :: (frs 5 a44.fs ++ (frs 5 wy0.fs ++ [])))) rfl
  have htk : ((bs ++ [77#8]).drop 0).take (bs.length) = bs := by simp
  have hx1 : bss a44.fs = [bs] := by rw [hbs46, htk]; rfl
  refine wend ?_
  refine seqRegion ?_
  refine sq (r_move (v := .pointer (some ⟨b3, 0, none⟩)) rfl) ?_
  obtain ⟨f49, hf50, hfb51⟩ := bss_at (F := a44.fs) (i := 0) (b := bs) (by rw [hx1]; rfl)
  have fok52 := hok45.each _ (List.mem_of_getElem? hf50)
  have hif49 := (List.getElem?_eq_some_iff.1 hf50).1
  have H53 := Hp.toR [(key30, sob E8 5 (bs ++ [77#8]) sp32)] (F := frs 5 a44.fs) (G := frs 5 wy0.fs) (X := []) H48
  refine c_call (vs := [.pointer (some ⟨b3, 0, none⟩), i64 ((0 : Int)), i64 ((0 : Int))]) call19 rfl (copy_ok false b3 a44 wy0 hok45 ([(key30, sob E8 5 (bs ++ [77#8]) sp32)] ++ []) w₀ w42 0 hif49 f49 hf50 (by rw [hfb51]; omega) (by have h1 := congrArg List.length hx1; rw [bss_len] at h1; simp at h1; omega) H53) ?_
  rintro _ w54 ⟨rfl, a56, hok57, hbs58, HN59⟩
  have H60 := (Hp.fromR [(key30, sob E8 5 (bs ++ [77#8]) sp32)] (F := frs 5 a56.fs) (G := frs 5 wy0.fs) (X := []) HN59).as (L' := ((key30, sob E8 5 (bs ++ [77#8]) sp32) :: (some b3, .cells (nv false a56 wy0) 76 (0, 0)) :: (a56.key, sob ES 30 (svs a56.fs) a56.sp) :: (wy0.key, sob ES 30 (svs wy0.fs) wy0.sp) :: (frs 5 a56.fs ++ (frs 5 wy0.fs ++ [])))) rfl
  have hx2 : bss a56.fs = [bs, bs] := by rw [hbs58, hx1, hfb51]; rfl
  refine wend ?_
  refine seqAny ?_
  refine seqAny ?_
  refine drawAny (K := [none, none, none, none, none, none, none, none, none, none, none, none, none, none, none, none]) [0, 0, 2, 7, 15, 31, 63, 127, 127, 383, 1023, 2047, 127, 4223, 16383, 32767] (fun w' => Ext w54 w') (fun w' w'' => Ext w' w'') mixed (by kernel_rfl) (Ext.drew _) (fun _ _ h h' => h.trans h') ?_ ?_
  · exact relNone (by decide)
  refine ⟨.slice (ownA key30) ((0 + bs.length) + 1) c31, fun _ uw61 hC62 _ => Gives.run rfl (r_move (v := .slice (ownA key30) ((0 + bs.length) + 1) c31) rfl) ⟨rfl, Chg.refl _ _⟩, ?_⟩
  refine ⟨.slice fa bs.length fc, fun _ uw63 hC64 _ => Gives.run rfl (r_move (v := .slice fa bs.length fc) rfl) ⟨rfl, Chg.refl _ _⟩, ?_⟩
  refine ⟨i64 ((bs.length : Nat)), fun _ uw65 hC66 _ => Gives.run rfl (r_lenS sli30 (a := fa) (m := bs.length) (c := fc) rfl) ⟨rfl, Chg.refl _ _⟩, ?_⟩
  refine ⟨.pointer (adr (ownA key30) (bs.length * 1)), fun _ uw67 hC68 _ => Gives.run rfl (r_idxS (E := E8) (l := bs ++ [77#8]) (j := bs.length) sli30 ((H60.ext hC68).rd (k := 0) rfl hS38) rfl rfl (by first | rfl | omega | (simp; omega)) (by rw [List.length_append, Nat.zero_add]; rfl) (by rw [List.length_append]; simp)) ⟨rfl, Chg.refl _ _⟩, ?_⟩
  refine ⟨u8 ((bs ++ [77#8]).getD bs.length 0#8), fun _ uw69 hC70 _ => Gives.run rfl (r_ldS (E := E8) (l := bs ++ [77#8]) (j := bs.length) (v := (bs ++ [77#8]).getD bs.length 0#8) fits5 ((H60.ext hC70).rd (k := 0) rfl hS38) rfl rfl (at_getD (by rw [List.length_append]; simp))) ⟨rfl, Chg.refl _ _⟩, ?_⟩
  refine ⟨.bool (false), fun _ uw71 hC72 _ => Gives.run rfl ((r_neq8 (a := (bs ++ [77#8]).getD bs.length 0#8) (b := 77#8) rfl rfl).as (v' := .bool (false)) (by simp)) ⟨rfl, Chg.refl _ _⟩, ?_⟩
  refine ⟨.bool (false), fun _ uw73 hC74 _ => Gives.run rfl (r_move (v := .bool (false)) rfl) ⟨rfl, Chg.refl _ _⟩, ?_⟩
  refine ⟨.slice (ownA key30) ((0 + bs.length) + 1) c31, fun _ uw75 hC76 _ => Gives.runW (wantedSome (d' := 45) (b := false) rfl rfl rfl) (r_move (v := .slice (ownA key30) ((0 + bs.length) + 1) c31) rfl) ⟨rfl, Chg.refl _ _⟩, ?_⟩
  refine ⟨.slice fa bs.length fc, fun _ uw77 hC78 _ => Gives.runW (wantedSome (d' := 45) (b := false) rfl rfl rfl) (r_move (v := .slice fa bs.length fc) rfl) ⟨rfl, Chg.refl _ _⟩, ?_⟩
  refine ⟨i64 ((bs.length : Nat)), fun _ uw79 hC80 _ => Gives.runW (wantedSome (d' := 45) (b := false) rfl rfl rfl) (r_lenS sli30 (a := fa) (m := bs.length) (c := fc) rfl) ⟨rfl, Chg.refl _ _⟩, ?_⟩
  refine ⟨.slice (if c31 = 0 then ownA key30 else adr (ownA key30) (0 * 1)) bs.length (c31 - 0), fun _ uw81 hC82 _ => Gives.runW (wantedSome (d' := 45) (b := false) rfl rfl rfl) ((r_sliceS (l := 0) (h := bs.length) sli30 rfl (.inr ⟨rfl, rfl⟩) (.inl ⟨_, _, _, rfl, rfl, by first | rfl | omega | (simp; omega)⟩) (by omega) (by omega)).as (v' := .slice (if c31 = 0 then ownA key30 else adr (ownA key30) (0 * 1)) bs.length (c31 - 0)) (by first | rfl | (congr 1; omega) | (simp; omega) | simp)) ⟨rfl, Chg.refl _ _⟩, ?_⟩
  refine ⟨.string (strB (((bs ++ [77#8]).drop 0).take (bs.length))), fun _ uw83 hC84 _ => Gives.runW (wantedSome (d' := 45) (b := false) rfl rfl rfl) (r_toStr (l := ((bs ++ [77#8]).drop 0).take (bs.length)) und30 und5 und9 (Rd.sub ((H60.ext hC84).rd (k := 0) rfl hS38) 0 (bs.length) (m := c31) (fun e => by first | exact absurd e (by omega) | (rw [show bs.length = 0 by omega]; rfl))) rfl (by rw [List.length_take, List.length_drop, List.length_append]; omega)) ⟨rfl, Chg.refl _ _⟩, ?_⟩
  refine ⟨.slice fa bs.length fc, fun _ uw85 hC86 _ => Gives.runW (wantedSome (d' := 45) (b := false) rfl rfl rfl) (r_move (v := .slice fa bs.length fc) rfl) ⟨rfl, Chg.refl _ _⟩, ?_⟩
  refine ⟨.string (strB bs), fun _ uw87 hC88 _ => Gives.runW (wantedSome (d' := 45) (b := false) rfl rfl rfl) (r_toStr (l := bs) und30 und5 und9 (hFa.ext (H60.ext hC88).chg) rfl (by rfl)) ⟨rfl, Chg.refl _ _⟩, ?_⟩
  refine ⟨.bool (false), fun _ uw89 hC90 _ => Gives.runW (wantedSome (d' := 45) (b := false) rfl rfl rfl) ((r_neqStr (s := strB (((bs ++ [77#8]).drop 0).take (bs.length))) (s' := strB bs) rfl rfl).as (v' := .bool (false)) (by rw [htk]; simp)) ⟨rfl, Chg.refl _ _⟩, ?_⟩
  refine ⟨.bool (false), fun _ uw91 hC92 _ => Gives.run rfl (r_pickF (v := .bool (false)) rfl rfl) ⟨rfl, Chg.refl _ _⟩, ?_⟩
  intro r96 w93 hE95 hF
  have H94 := H60.ext hE95
  refine wnil ?_
  refine thenNormal ?_
  refine condFalse rfl ?_
  refine skipAny ?_
  refine thenNormal ?_
  refine seqAny ?_
  refine seqRegion ?_
  refine sq (r_move (v := .slice (ownA key30) ((0 + bs.length) + 1) c31) rfl) ?_
  refine sq (r_lenS sli30 (a := ownA key30) (m := (0 + bs.length) + 1) (c := c31) rfl) ?_
  refine sq (r_move (v := i64 ((0 : Int))) rfl) ?_
  refine wend ?_
  refine blockAny ?_
  refine loopAny (σ := Nat × List (BitVec 8)) (fun (q, rl) => [(0, .slice fa bs.length fc), (1, i64 (bit)), (5, .pointer (some ⟨b3, 0, none⟩)), (6, .slice (ownA key30) ((0 + bs.length) + 1) c31), (56, i64 (((0 + bs.length) + 1 : Nat))), (57, i64 ((q : Nat)))]) (fun (q, rl) w' => q ≤ (0 + bs.length) + 1 ∧ rl.length = (0 + bs.length) + 1 ∧ Sl E8 key30 rl c31 sp32 ∧ Hp No w₀ w' ((key30, sob E8 5 rl sp32) :: (some b3, .cells (nv false a56 wy0) 76 (0, 0)) :: (a56.key, sob ES 30 (svs a56.fs) a56.sp) :: (wy0.key, sob ES 30 (svs wy0.fs) wy0.sp) :: (frs 5 a56.fs ++ (frs 5 wy0.fs ++ [])))) (fun (q, rl) => ((0 + bs.length) + 1) - q) ((0, (bs ++ [77#8]))) ?_ ?_ ?_
  · exact ⟨rfl, rfl, rfl, rfl, rfl, rfl, trivial⟩
  · exact ⟨Nat.zero_le _, (by symm; rw [List.length_append, Nat.zero_add]; rfl), hS38, H94⟩
  rintro ⟨q, rl⟩ ρ w97 ⟨hq, hrn, hrl, HL⟩
  refine seqRegion ?_
  refine sq (r_lssI (a := (q : Nat)) (b := ((0 + bs.length) + 1 : Nat)) rfl rfl) ?_
  refine wend ?_
  refine seqAny ?_
  refine condProp (((q : Nat) : Int) < ((0 + bs.length) + 1 : Nat)) rfl (fun c58 => ?_) (fun c58 => ?_)
  · skip
    refine skipAny ?_
    refine thenNormal ?_
    refine seqAny ?_
    refine blockAny ?_
    refine seqRegion ?_
    refine sq (r_move (v := i64 ((q : Nat))) rfl) ?_
    refine sq (r_assign (v := i64 ((q : Nat))) rfl) ?_
    refine wend ?_
    refine oneRegion ?_
    refine sq (r_move (v := .slice (ownA key30) ((0 + bs.length) + 1) c31) rfl) ?_
    refine sq (r_move (v := i64 ((q : Nat))) rfl) ?_
    refine sq (r_idxS (E := E8) (l := rl) (j := q) sli30 (HL.rd (k := 0) rfl hrl) rfl rfl (by first | rfl | omega | (simp; omega)) (by exact hrn.symm) (by omega)) ?_
    refine d_storeS (E := E8) (k := 0) (l := rl) (j := q) (b := 1#8) (a := (rl).getD q 0#8) HL rfl hrl rfl rfl rfl rfl siz5 (at_getD (by omega)) ?_
    intro w100 hS99 H101
    have H101' := H101.as (L' := ((key30, sob E8 5 (rl.set q (1#8)) sp32) :: (some b3, .cells (nv false a56 wy0) 76 (0, 0)) :: (a56.key, sob ES 30 (svs a56.fs) a56.sp) :: (wy0.key, sob ES 30 (svs wy0.fs) wy0.sp) :: (frs 5 a56.fs ++ (frs 5 wy0.fs ++ [])))) rfl
    clear H101
    refine wnil ?_
    refine blockNormal ?_
    refine thenNormal ?_
    refine oneRegion ?_
    refine sq (r_addI (a := (q : Nat)) (b := (1 : Int)) rfl rfl (by omega)) ?_
    refine sq (r_move (v := i64 ((q : Nat) + (1 : Int))) rfl) ?_
    refine wnil ?_
    refine thenNormal ?_
    exact ⟨(q + 1, rl.set q (1#8)), _, rfl, ⟨rfl, rfl, rfl, rfl, rfl, rfl, trivial⟩, ⟨by omega, by rw [List.length_set]; exact hrn, hS99, H101'⟩, by show ((0 + bs.length) + 1) - (q + 1) < ((0 + bs.length) + 1) - q; omega⟩
  · skip
    have H102 := HL.dropk 0
    have H102' := H102.as (L' := ((some b3, .cells (nv false a56 wy0) 76 (0, 0)) :: (a56.key, sob ES 30 (svs a56.fs) a56.sp) :: (wy0.key, sob ES 30 (svs wy0.fs) wy0.sp) :: (frs 5 a56.fs ++ (frs 5 wy0.fs ++ [])))) rfl
    refine exitAny ?_
    refine thenExit ?_
    refine thenExit ?_
    refine blockHere ?_
    refine thenNormal ?_
    refine seqRegion ?_
    refine sq (r_move (v := .pointer (some ⟨b3, 0, none⟩)) rfl) ?_
    obtain ⟨f103, hf104, hfb105⟩ := bss_at (F := a56.fs) (i := 0) (b := bs) (by rw [hx2]; rfl)
    have fok106 := hok57.each _ (List.mem_of_getElem? hf104)
    have hif103 := (List.getElem?_eq_some_iff.1 hf104).1
    refine c_call (vs := [.pointer (some ⟨b3, 0, none⟩), i64 ((0 : Int)), i64 ((0 : Int))]) call20 rfl (at_hit false b3 a56 wy0 w97 0 hif103 f103 hf104 (by rw [hfb105]; omega) (H102'.get (k := 0) rfl) (H102'.rd (k := 1) rfl hok57.sl) (H102'.rdF (T := 5) fok106 (List.mem_cons_of_mem _ (List.mem_cons_of_mem _ (List.mem_cons_of_mem _ (List.mem_append_left _ (frs_mem hf104))))))) ?_
    rintro _ w107 ⟨⟨key109, c110, sp111, rfl, hS112, hk113⟩, hE114⟩
    have H115 := H102'.add hE114 hk113
    refine sq (r_move (v := .tuple #[.slice (ownA key109) f103.bs.length c110, .nilIface]) rfl) ?_
    refine sq (r_extract (vs := #[.slice (ownA key109) f103.bs.length c110, .nilIface]) rfl rfl) ?_
    refine sq (r_extract (vs := #[.slice (ownA key109) f103.bs.length c110, .nilIface]) rfl rfl) ?_
    refine sq (r_assign (v := .slice (ownA key109) f103.bs.length c110) rfl) ?_
    refine sq (r_assign (v := .nilIface) rfl) ?_
    have hfl0 : f103.bs.length ≤ 140737488351232 := by rw [hfb105]; exact hbl
    refine wend ?_
    refine seqAny ?_
    refine seqRegion ?_
    refine sq (r_move (v := .slice (ownA key109) f103.bs.length c110) rfl) ?_
    refine sq (r_lenS sli30 (a := ownA key109) (m := f103.bs.length) (c := c110) rfl) ?_
    refine sq (r_move (v := i64 ((0 : Int))) rfl) ?_
    refine wend ?_
    refine blockAny ?_
    refine loopAny (σ := Nat × List (BitVec 8)) (fun (q, al) => [(0, .slice fa bs.length fc), (1, i64 (bit)), (5, .pointer (some ⟨b3, 0, none⟩)), (8, .slice (ownA key109) f103.bs.length c110), (70, i64 ((f103.bs.length : Nat))), (71, i64 ((q : Nat)))]) (fun (q, al) w' => q ≤ f103.bs.length ∧ al.length = f103.bs.length ∧ Sl E8 key109 al c110 sp111 ∧ Hp No w₀ w' ((key109, sob E8 5 al sp111) :: (some b3, .cells (nv false a56 wy0) 76 (0, 0)) :: (a56.key, sob ES 30 (svs a56.fs) a56.sp) :: (wy0.key, sob ES 30 (svs wy0.fs) wy0.sp) :: (frs 5 a56.fs ++ (frs 5 wy0.fs ++ [])))) (fun (q, al) => f103.bs.length - q) ((0, f103.bs)) ?_ ?_ ?_
    · exact ⟨rfl, rfl, rfl, rfl, rfl, rfl, trivial⟩
    · exact ⟨Nat.zero_le _, (by symm; rfl), hS112, H115⟩
    rintro ⟨q, al⟩ ρ w116 ⟨hq, hrn, hrl, HL⟩
    refine seqRegion ?_
    refine sq (r_lssI (a := (q : Nat)) (b := (f103.bs.length : Nat)) rfl rfl) ?_
    refine wend ?_
    refine seqAny ?_
    refine condProp (((q : Nat) : Int) < (f103.bs.length : Nat)) rfl (fun c72 => ?_) (fun c72 => ?_)
    · skip
      refine skipAny ?_
      refine thenNormal ?_
      refine seqAny ?_
      refine blockAny ?_
      refine seqRegion ?_
      refine sq (r_move (v := i64 ((q : Nat))) rfl) ?_
      refine sq (r_assign (v := i64 ((q : Nat))) rfl) ?_
      refine wend ?_
      refine oneRegion ?_
      refine sq (r_move (v := .slice (ownA key109) f103.bs.length c110) rfl) ?_
      refine sq (r_move (v := i64 ((q : Nat))) rfl) ?_
      refine sq (r_idxS (E := E8) (l := al) (j := q) sli30 (HL.rd (k := 0) rfl hrl) rfl rfl (by first | rfl | omega | (simp; omega)) (by exact hrn.symm) (by omega)) ?_
      refine d_storeS (E := E8) (k := 0) (l := al) (j := q) (b := 2#8) (a := (al).getD q 0#8) HL rfl hrl rfl rfl rfl rfl siz5 (at_getD (by omega)) ?_
      intro w119 hS118 H120
      have H120' := H120.as (L' := ((key109, sob E8 5 (al.set q (2#8)) sp111) :: (some b3, .cells (nv false a56 wy0) 76 (0, 0)) :: (a56.key, sob ES 30 (svs a56.fs) a56.sp) :: (wy0.key, sob ES 30 (svs wy0.fs) wy0.sp) :: (frs 5 a56.fs ++ (frs 5 wy0.fs ++ [])))) rfl
      clear H120
      refine wnil ?_
      refine blockNormal ?_
      refine thenNormal ?_
      refine oneRegion ?_
      refine sq (r_addI (a := (q : Nat)) (b := (1 : Int)) rfl rfl (by omega)) ?_
      refine sq (r_move (v := i64 ((q : Nat) + (1 : Int))) rfl) ?_
      refine wnil ?_
      refine thenNormal ?_
      exact ⟨(q + 1, al.set q (2#8)), _, rfl, ⟨rfl, rfl, rfl, rfl, rfl, rfl, trivial⟩, ⟨by omega, by rw [List.length_set]; exact hrn, hS118, H120'⟩, by show f103.bs.length - (q + 1) < f103.bs.length - q; omega⟩
    · skip
      have H121 := HL.dropk 0
      have H121' := H121.as (L' := ((some b3, .cells (nv false a56 wy0) 76 (0, 0)) :: (a56.key, sob ES 30 (svs a56.fs) a56.sp) :: (wy0.key, sob ES 30 (svs wy0.fs) wy0.sp) :: (frs 5 a56.fs ++ (frs 5 wy0.fs ++ [])))) rfl
      refine exitAny ?_
      refine thenExit ?_
      refine thenExit ?_
      refine blockHere ?_
      refine thenNormal ?_
      by_cases hb : 0 ≤ bit ∧ bit / 8 < (bs.length : Int)
      · skip
        refine seqRegion ?_
        obtain ⟨bn, rfl⟩ : ∃ bn : Nat, bit = (bn : Int) := ⟨bit.toNat, by omega⟩
        refine sq (r_move (v := .pointer (some ⟨b3, 0, none⟩)) rfl) ?_
        refine sq (r_move (v := i64 ((bn : Nat))) rfl) ?_
        obtain ⟨f122, hf123, hfb124⟩ := bss_at (F := a56.fs) (i := 0) (b := bs) (by rw [hx2]; rfl)
        have fok125 := hok57.each _ (List.mem_of_getElem? hf123)
        have hif122 := (List.getElem?_eq_some_iff.1 hf123).1
        refine c_call (vs := [.pointer (some ⟨b3, 0, none⟩), i64 ((0 : Int)), i64 ((0 : Int)), i64 ((bn : Nat))]) call21 rfl (flip_ok false b3 a56 wy0 hok57 ([]) w₀ w116 0 hif122 f122 hf123 (by rw [hfb124]; omega) bn (by rw [hfb124]; omega) H121') ?_
        rintro _ w126 ⟨rfl, a128, hok129, hbs130, HN131⟩
        have H132 := HN131.as (L' := ((some b3, .cells (nv false a128 wy0) 76 (0, 0)) :: (a128.key, sob ES 30 (svs a128.fs) a128.sp) :: (wy0.key, sob ES 30 (svs wy0.fs) wy0.sp) :: (frs 5 a128.fs ++ (frs 5 wy0.fs ++ [])))) rfl
        have hx3 : bss a128.fs = [flipB bs bn, bs] := by rw [hbs130, hx2, hfb124]; rfl
        refine wend ?_
        refine seqRegion ?_
        refine sq (r_move (v := .pointer (some ⟨b3, 0, none⟩)) rfl) ?_
        obtain ⟨f133, hf134, hfb135⟩ := bss_at (F := a128.fs) (i := 1) (b := bs) (by rw [hx3]; rfl)
        have fok136 := hok129.each _ (List.mem_of_getElem? hf134)
        have hif133 := (List.getElem?_eq_some_iff.1 hf134).1
        refine c_call (vs := [.pointer (some ⟨b3, 0, none⟩), i64 ((0 : Int)), i64 ((1 : Int))]) call20 rfl (at_hit false b3 a128 wy0 w126 1 hif133 f133 hf134 (by rw [hfb135]; omega) (H132.get (k := 0) rfl) (H132.rd (k := 1) rfl hok129.sl) (H132.rdF (T := 5) fok136 (List.mem_cons_of_mem _ (List.mem_cons_of_mem _ (List.mem_cons_of_mem _ (List.mem_append_left _ (frs_mem hf134))))))) ?_
        rintro _ w137 ⟨⟨key139, c140, sp141, rfl, hS142, hk143⟩, hE144⟩
        have H145 := H132.add hE144 hk143
        refine sq (r_move (v := .tuple #[.slice (ownA key139) f133.bs.length c140, .nilIface]) rfl) ?_
        refine sq (r_extract (vs := #[.slice (ownA key139) f133.bs.length c140, .nilIface]) rfl rfl) ?_
        refine sq (r_extract (vs := #[.slice (ownA key139) f133.bs.length c140, .nilIface]) rfl rfl) ?_
        refine sq (r_assign (v := .slice (ownA key139) f133.bs.length c140) rfl) ?_
        refine sq (r_assign (v := .nilIface) rfl) ?_
        refine wend ?_
        refine seqRegion ?_
        refine sq (r_move (v := .pointer (some ⟨b3, 0, none⟩)) rfl) ?_
        obtain ⟨f146, hf147, hfb148⟩ := bss_at (F := a128.fs) (i := 1) (b := bs) (by rw [hx3]; rfl)
        have fok149 := hok129.each _ (List.mem_of_getElem? hf147)
        have hif146 := (List.getElem?_eq_some_iff.1 hf147).1
        have H150 := Hp.toR [(key139, sob E8 5 f133.bs sp141)] (F := frs 5 a128.fs) (G := frs 5 wy0.fs) (X := []) H145
        refine c_call (vs := [.pointer (some ⟨b3, 0, none⟩), i64 ((0 : Int)), i64 ((1 : Int))]) call17 rfl (deliver_ok false b3 a128 wy0 hok129 ([(key139, sob E8 5 f133.bs sp141)] ++ []) w₀ w137 1 hif146 f146 hf147 (by have h1 := congrArg List.length hx3; rw [bss_len] at h1; simp at h1; omega) H150) ?_
        rintro _ w151 ⟨rfl, a153, hok154, hbs155, HN156⟩
        have H158 := Hp.toR [(f146.key, sob E8 5 f146.bs f146.sp)] (F := frs 5 a153.fs) (G := frs 5 wy0.fs) (X := ([(key139, sob E8 5 f133.bs sp141)] ++ [])) HN156
        have H159 := (Hp.fromR [(f146.key, sob E8 5 f146.bs f146.sp), (key139, sob E8 5 f133.bs sp141)] (F := frs 5 a153.fs) (G := frs 5 wy0.fs) (X := []) H158).as (L' := ((f146.key, sob E8 5 f146.bs f146.sp) :: (key139, sob E8 5 f133.bs sp141) :: (some b3, .cells (nv false a153 wy0) 76 (0, 0)) :: (a153.key, sob ES 30 (svs a153.fs) a153.sp) :: (wy0.key, sob ES 30 (svs wy0.fs) wy0.sp) :: (frs 5 a153.fs ++ (frs 5 wy0.fs ++ [])))) rfl
        refine sq (r_move (v := .tuple #[.slice (ownA f146.key) f146.bs.length f146.c, .nilIface]) rfl) ?_
        refine sq (r_extract (vs := #[.slice (ownA f146.key) f146.bs.length f146.c, .nilIface]) rfl rfl) ?_
        refine sq (r_extract (vs := #[.slice (ownA f146.key) f146.bs.length f146.c, .nilIface]) rfl rfl) ?_
        refine sq (r_assign (v := .slice (ownA f146.key) f146.bs.length f146.c) rfl) ?_
        refine sq (r_assign (v := .nilIface) rfl) ?_
        have hx4 : bss a153.fs = [flipB bs bn] := by rw [hbs155, hx3]; rfl
        refine wend ?_
        refine seqRegion ?_
        refine sq (r_move (v := .pointer (some ⟨b3, 0, none⟩)) rfl) ?_
        obtain ⟨f160, hf161, hfb162⟩ := bss_at (F := a153.fs) (i := 0) (b := flipB bs bn) (by rw [hx4]; rfl)
        have fok163 := hok154.each _ (List.mem_of_getElem? hf161)
        have hif160 := (List.getElem?_eq_some_iff.1 hf161).1
        have H164 := Hp.toR [(f146.key, sob E8 5 f146.bs f146.sp), (key139, sob E8 5 f133.bs sp141)] (F := frs 5 a153.fs) (G := frs 5 wy0.fs) (X := []) H159
        refine c_call (vs := [.pointer (some ⟨b3, 0, none⟩), i64 ((0 : Int)), i64 ((0 : Int))]) call17 rfl (deliver_ok false b3 a153 wy0 hok154 ([(f146.key, sob E8 5 f146.bs f146.sp), (key139, sob E8 5 f133.bs sp141)] ++ []) w₀ w151 0 hif160 f160 hf161 (by have h1 := congrArg List.length hx4; rw [bss_len] at h1; simp at h1; omega) H164) ?_
        rintro _ w165 ⟨rfl, a167, hok168, hbs169, HN170⟩
        have H172 := Hp.toR [(f160.key, sob E8 5 f160.bs f160.sp)] (F := frs 5 a167.fs) (G := frs 5 wy0.fs) (X := ([(f146.key, sob E8 5 f146.bs f146.sp), (key139, sob E8 5 f133.bs sp141)] ++ [])) HN170
        have H173 := (Hp.fromR [(f160.key, sob E8 5 f160.bs f160.sp), (f146.key, sob E8 5 f146.bs f146.sp), (key139, sob E8 5 f133.bs sp141)] (F := frs 5 a167.fs) (G := frs 5 wy0.fs) (X := []) H172).as (L' := ((f160.key, sob E8 5 f160.bs f160.sp) :: (f146.key, sob E8 5 f146.bs f146.sp) :: (key139, sob E8 5 f133.bs sp141) :: (some b3, .cells (nv false a167 wy0) 76 (0, 0)) :: (a167.key, sob ES 30 (svs a167.fs) a167.sp) :: (wy0.key, sob ES 30 (svs wy0.fs) wy0.sp) :: (frs 5 a167.fs ++ (frs 5 wy0.fs ++ [])))) rfl
        refine sq (r_move (v := .tuple #[.slice (ownA f160.key) f160.bs.length f160.c, .nilIface]) rfl) ?_
        refine sq (r_extract (vs := #[.slice (ownA f160.key) f160.bs.length f160.c, .nilIface]) rfl rfl) ?_
        refine sq (r_extract (vs := #[.slice (ownA f160.key) f160.bs.length f160.c, .nilIface]) rfl rfl) ?_
        refine sq (r_assign (v := .slice (ownA f160.key) f160.bs.length f160.c) rfl) ?_
        refine sq (r_assign (v := .nilIface) rfl) ?_
        refine wend ?_
        refine seqRegion ?_
        refine sq (r_move (v := .slice fa bs.length fc) rfl) ?_
        refine sq (r_toStr (l := bs) und30 und5 und9 (hFa.ext H173.chg) rfl (by rfl)) ?_
        refine q_buildSlice (E := ET) (l := ([bs] : List (List (BitVec 8)))) H173 sli39 zer9 (Nat.le_of_ble_eq_true rfl) (ps := [(0, .string (strB bs))]) rfl (by exact fillAll rfl rfl) rfl ?_
        intro b174 w176 hS175 H177 hE178
        refine sq (r_buildA (cs' := #[.slice (ownA (some b174)) 1 1, .slice none 0 0]) (ps := [(0, .slice (ownA (some b174)) 1 1)]) zer40 arr40 rfl (by rfl)) ?_
        refine sq (r_build (cs' := #[.slice (ownA (some b174)) 1 1, .slice none 0 0]) (ps := [(0, .agg #[.slice (ownA (some b174)) 1 1, .slice none 0 0])]) zer42 pls42 rfl (by rfl)) ?_
        refine sq (r_move (v := i64 ((bn : Nat))) rfl) ?_
        refine c_call (vs := [.agg #[.slice (ownA (some b174)) 1 1, .slice none 0 0], i64 ((0 : Int)), i64 ((0 : Int)), i64 ((bn : Nat))]) call22 rfl (rflip_ok_0 [bs] (ownA (some b174)) none 1 0 0 w176 0 (by simp) (by simp) bn (show _ < bs.length by omega) (show bs.length ≤ _ by omega) (H177.rd (k := 0) rfl hS175)) ?_
        rintro _ w179 ⟨⟨key181, c182, sp183, rfl, hS184, hk185⟩, hE186⟩
        have H187 := H177.add hE186 hk185
        refine sq (r_move (v := .tuple #[.agg #[.slice (ownA key181) (([bs].set 0 (flipB ([bs].getD 0 []) bn)).length) c182, .slice none 0 0], i64 ((0 : Int))]) rfl) ?_
        refine sq (r_extract (vs := #[.agg #[.slice (ownA key181) (([bs].set 0 (flipB ([bs].getD 0 []) bn)).length) c182, .slice none 0 0], i64 ((0 : Int))]) rfl rfl) ?_
        refine sq (r_extract (vs := #[.agg #[.slice (ownA key181) (([bs].set 0 (flipB ([bs].getD 0 []) bn)).length) c182, .slice none 0 0], i64 ((0 : Int))]) rfl rfl) ?_
        refine q_alloc (o := .cells #[.slice none 0 0, .slice none 0 0] 42 (0, 0)) H187 zer42 (by kernel_rfl) ?_
        intro b188 w189 hb188 H190 hE191
        refine d_store (k := 0) (v := .agg #[.slice (ownA key181) (([bs].set 0 (flipB ([bs].getD 0 []) bn)).length) c182, .slice none 0 0]) (cs' := #[.slice (ownA key181) (([bs].set 0 (flipB ([bs].getD 0 []) bn)).length) c182, .slice none 0 0]) H190 rfl rfl rfl siz42 (by rfl) (by intro u hu; simp [Value.cells] at hu; first | (subst hu; rfl) | (rcases hu with rfl | rfl <;> rfl)) (by exact Nat.le_of_ble_eq_true rfl) (by rfl) ?_
        intro w192 H193 hC194
        have H193' := H193.as (L' := ((some b188, .cells #[.slice (ownA key181) (([bs].set 0 (flipB ([bs].getD 0 []) bn)).length) c182, .slice none 0 0] 42 (0, 0)) :: (key181, sob ET 9 ([bs].set 0 (flipB ([bs].getD 0 []) bn)) sp183) :: ((some b174), sob ET 9 ([bs] : List (List (BitVec 8))) ([])) :: (f160.key, sob E8 5 f160.bs f160.sp) :: (f146.key, sob E8 5 f146.bs f146.sp) :: (key139, sob E8 5 f133.bs sp141) :: (some b3, .cells (nv false a167 wy0) 76 (0, 0)) :: (a167.key, sob ES 30 (svs a167.fs) a167.sp) :: (wy0.key, sob ES 30 (svs wy0.fs) wy0.sp) :: (frs 5 a167.fs ++ (frs 5 wy0.fs ++ [])))) rfl
        clear H193
        refine sq (r_assign (v := i64 ((0 : Int))) rfl) ?_
        refine wend ?_
        refine seqAny ?_
        refine seqAny ?_
        refine drawAny (K := [none, none, none, none, none, none, none, none, none, none, none, none, none, none, none, none, none, none, none, none, none, none, none]) [0, 1, 3, 7, 15, 7, 39, 103, 231, 487, 1023, 2047, 4095, 8191, 16383, 32767, 65535, 131071, 65535, 327679, 1048575, 2097151, 4194303] (fun w' => Ext w192 w') (fun w' w'' => Ext w' w'') mixed (by kernel_rfl) (Ext.drew _) (fun _ _ h h' => h.trans h') ?_ ?_
        · exact relNone (by decide)
        refine ⟨i64 ((0 : Int)), fun _ uw195 hC196 _ => Gives.run rfl (r_move (v := i64 ((0 : Int))) rfl) ⟨rfl, Chg.refl _ _⟩, ?_⟩
        refine ⟨.bool (true), fun _ uw197 hC198 _ => Gives.run rfl ((r_eqlI (a := (0 : Int)) (b := (0 : Int)) rfl rfl).as (v' := .bool (true)) (by rfl)) ⟨rfl, Chg.refl _ _⟩, ?_⟩
        refine ⟨.bool (true), fun _ uw199 hC200 _ => Gives.run rfl (r_move (v := .bool (true)) rfl) ⟨rfl, Chg.refl _ _⟩, ?_⟩
        refine ⟨.slice (ownA f160.key) f160.bs.length f160.c, fun _ uw201 hC202 _ => Gives.runW (wantedSome (d' := 108) (b := true) rfl rfl rfl) (r_move (v := .slice (ownA f160.key) f160.bs.length f160.c) rfl) ⟨rfl, Chg.refl _ _⟩, ?_⟩
        refine ⟨.string (strB f160.bs), fun _ uw203 hC204 _ => Gives.runW (wantedSome (d' := 108) (b := true) rfl rfl rfl) (r_toStr (l := f160.bs) und30 und5 und9 ((H193'.ext hC204).rd (k := 3) rfl fok163) rfl (by rfl)) ⟨rfl, Chg.refl _ _⟩, ?_⟩
        refine ⟨.pointer (some ⟨b188, 0, none⟩), fun _ uw205 hC206 _ => Gives.runW (wantedSome (d' := 108) (b := true) rfl rfl rfl) (r_fieldAddr (off' := 0) fld42_0 (by decide) (b := b188) (off := 0) rfl (by omega)) ⟨rfl, Chg.refl _ _⟩, ?_⟩
        refine ⟨.pointer (some ⟨b188, 0, none⟩), fun _ uw207 hC208 _ => Gives.runW (wantedSome (d' := 108) (b := true) rfl rfl rfl) (r_indexA (off' := 0) (j := 0) arr40 (b := b188) (off := 0) rfl rfl (by first | rfl | omega | (simp; omega)) (by omega) (by omega)) ⟨rfl, Chg.refl _ _⟩, ?_⟩
        refine ⟨.slice (ownA key181) (([bs].set 0 (flipB ([bs].getD 0 []) bn)).length) c182, fun _ uw209 hC210 _ => Gives.runW (wantedSome (d' := 108) (b := true) rfl rfl rfl) (r_loadC (v := .slice (ownA key181) (([bs].set 0 (flipB ([bs].getD 0 []) bn)).length) c182) one39 ((H193'.ext hC210).get (k := 0) rfl) (off := 0) rfl (by rfl)) ⟨rfl, Chg.refl _ _⟩, ?_⟩
        refine ⟨.pointer (adr (ownA key181) (0 * 1)), fun _ uw211 hC212 _ => Gives.runW (wantedSome (d' := 108) (b := true) rfl rfl rfl) (r_idxS (E := ET) (l := [bs].set 0 (flipB ([bs].getD 0 []) bn)) (j := 0) sli39 ((H193'.ext hC212).rd (k := 1) rfl hS184) rfl rfl (by first | rfl | omega | (simp; omega)) (by rfl) (by rw [List.length_set]; simp)) ⟨rfl, Chg.refl _ _⟩, ?_⟩
        refine ⟨.string (strB (([bs].set 0 (flipB ([bs].getD 0 []) bn)).getD 0 [])), fun _ uw213 hC214 _ => Gives.runW (wantedSome (d' := 108) (b := true) rfl rfl rfl) (r_ldS (E := ET) (l := [bs].set 0 (flipB ([bs].getD 0 []) bn)) (j := 0) (v := ([bs].set 0 (flipB ([bs].getD 0 []) bn)).getD 0 []) fits9 ((H193'.ext hC214).rd (k := 1) rfl hS184) rfl rfl (at_getD (by rw [List.length_set]; simp))) ⟨rfl, Chg.refl _ _⟩, ?_⟩
        refine ⟨.bool (false), fun _ uw215 hC216 _ => Gives.runW (wantedSome (d' := 108) (b := true) rfl rfl rfl) ((r_neqStr (s := strB f160.bs) (s' := strB (([bs].set 0 (flipB ([bs].getD 0 []) bn)).getD 0 [])) rfl rfl).as (v' := .bool (false)) (by rw [hfb162]; simp)) ⟨rfl, Chg.refl _ _⟩, ?_⟩
        refine ⟨.bool (false), fun _ uw217 hC218 _ => Gives.run rfl (r_pickT (u := .bool (false)) rfl rfl) ⟨rfl, Chg.refl _ _⟩, ?_⟩
        refine ⟨.bool (false), fun _ uw219 hC220 _ => Gives.run rfl (r_move (v := .bool (false)) rfl) ⟨rfl, Chg.refl _ _⟩, ?_⟩
        refine ⟨i64 ((0 : Int)), fun _ uw221 hC222 _ => Gives.runW (wantedSome (d' := 118) (b := false) rfl rfl rfl) (r_move (v := i64 ((0 : Int))) rfl) ⟨rfl, Chg.refl _ _⟩, ?_⟩
        refine ⟨.bool (false), fun _ uw223 hC224 _ => Gives.runW (wantedSome (d' := 118) (b := false) rfl rfl rfl) ((r_neqI (a := (0 : Int)) (b := (0 : Int)) rfl rfl).as (v' := .bool (false)) (by rfl)) ⟨rfl, Chg.refl _ _⟩, ?_⟩
        refine ⟨.bool (false), fun _ uw225 hC226 _ => Gives.runW (wantedSome (d' := 118) (b := false) rfl rfl rfl) (r_move (v := .bool (false)) rfl) ⟨rfl, Chg.refl _ _⟩, ?_⟩
        refine ⟨undef, fun _ uw227 hC228 _ => Gives.off (wantedSome (d' := 121) (b := false) rfl rfl rfl) ⟨rfl, Chg.refl _ _⟩, ?_⟩
        refine ⟨undef, fun _ uw229 hC230 _ => Gives.off (wantedSome (d' := 121) (b := false) rfl rfl rfl) ⟨rfl, Chg.refl _ _⟩, ?_⟩
        refine ⟨undef, fun _ uw231 hC232 _ => Gives.off (wantedSome (d' := 121) (b := false) rfl rfl rfl) ⟨rfl, Chg.refl _ _⟩, ?_⟩
        refine ⟨undef, fun _ uw233 hC234 _ => Gives.off (wantedSome (d' := 121) (b := false) rfl rfl rfl) ⟨rfl, Chg.refl _ _⟩, ?_⟩
        refine ⟨undef, fun _ uw235 hC236 _ => Gives.off (wantedSome (d' := 121) (b := false) rfl rfl rfl) ⟨rfl, Chg.refl _ _⟩, ?_⟩
        refine ⟨.bool (false), fun _ uw237 hC238 _ => Gives.runW (wantedSome (d' := 118) (b := false) rfl rfl rfl) (r_pickF (v := .bool (false)) rfl rfl) ⟨rfl, Chg.refl _ _⟩, ?_⟩
        refine ⟨.bool (false), fun _ uw239 hC240 _ => Gives.run rfl (r_pickF (v := .bool (false)) rfl rfl) ⟨rfl, Chg.refl _ _⟩, ?_⟩
        intro r244 w241 hE243 hF
        have H242 := H193'.ext hE243
        refine wnil ?_
        refine thenNormal ?_
        refine condFalse rfl ?_
        refine skipAny ?_
        refine thenNormal ?_
        refine seqRegion ?_
        refine sq (r_move (v := .slice (ownA key139) f133.bs.length c140) rfl) ?_
        refine sq (r_toStr (l := f133.bs) und30 und5 und9 (H242.rd (k := 5) rfl hS142) rfl (by rfl)) ?_
        refine sq (r_move (v := .slice fa bs.length fc) rfl) ?_
        refine sq (r_toStr (l := bs) und30 und5 und9 (hFa.ext H242.chg) rfl (by rfl)) ?_
        refine sq ((r_eqlStr (s := strB f133.bs) (s' := strB bs) rfl rfl).as (v' := .bool (true)) (by rw [hfb135]; simp)) ?_
        refine sq (r_move (v := .bool (true)) rfl) ?_
        refine sqAny (v := .slice (ownA f146.key) f146.bs.length f146.c) (w' := w241) (wantedSome (d' := 134) (b := true) rfl rfl rfl) (r_move (v := .slice (ownA f146.key) f146.bs.length f146.c) rfl) ?_
        refine sqAny (v := .string (strB f146.bs)) (w' := w241) (wantedSome (d' := 134) (b := true) rfl rfl rfl) (r_toStr (l := f146.bs) und30 und5 und9 (H242.rd (k := 4) rfl fok149) rfl (by rfl)) ?_
        refine sqAny (v := .slice fa bs.length fc) (w' := w241) (wantedSome (d' := 134) (b := true) rfl rfl rfl) (r_move (v := .slice fa bs.length fc) rfl) ?_
        refine sqAny (v := .string (strB bs)) (w' := w241) (wantedSome (d' := 134) (b := true) rfl rfl rfl) (r_toStr (l := bs) und30 und5 und9 (hFa.ext H242.chg) rfl (by rfl)) ?_
        refine sqAny (v := .bool (true)) (w' := w241) (wantedSome (d' := 134) (b := true) rfl rfl rfl) ((r_eqlStr (s := strB f146.bs) (s' := strB bs) rfl rfl).as (v' := .bool (true)) (by rw [hfb148]; simp)) ?_
        refine sq (r_pickT (u := .bool (true)) rfl rfl) ?_
        refine sq (r_assign (v := .bool (true)) rfl) ?_
        refine wend ?_
        refine retAny ?_
        refine retG (rs := [.tmp 4]) (vs := [.bool (true)]) rfl ⟨⟨rfl, rfl⟩, trivial⟩ ?_
        exact ⟨_, rfl, rfl, H242.chg⟩
      · skip
        refine seqRegion ?_
        refine sq (r_move (v := .pointer (some ⟨b3, 0, none⟩)) rfl) ?_
        refine sq (r_move (v := i64 (bit)) rfl) ?_
        obtain ⟨f245, hf246, hfb247⟩ := bss_at (F := a56.fs) (i := 0) (b := bs) (by rw [hx2]; rfl)
        have fok248 := hok57.each _ (List.mem_of_getElem? hf246)
        have hif245 := (List.getElem?_eq_some_iff.1 hf246).1
        have := H121'.lt (List.mem_of_getElem? (i := 0) rfl) rfl
        refine c_call (vs := [.pointer (some ⟨b3, 0, none⟩), i64 ((0 : Int)), i64 ((0 : Int)), i64 (bit)]) call21 rfl (flip_bit false b3 a56 wy0 w116 0 hif245 f245 hf246 bit hb64 (Chg.gl H121'.chg (fun x => x) hG) (H121'.get (k := 0) rfl) (H121'.rd (k := 1) rfl hok57.sl) (by rw [hfb247]; omega)) ?_
        rintro _ w249 ⟨⟨v251, rfl, hEr252⟩, hE253⟩
        have H254 := H121'.ext hE253
        obtain ⟨T255, x256, rfl⟩ := hEr252.iface
        have hx3 : bss a56.fs = [bs, bs] := by exact hx2
        refine wend ?_
        refine seqRegion ?_
        refine sq (r_move (v := .pointer (some ⟨b3, 0, none⟩)) rfl) ?_
        obtain ⟨f257, hf258, hfb259⟩ := bss_at (F := a56.fs) (i := 1) (b := bs) (by rw [hx3]; rfl)
        have fok260 := hok57.each _ (List.mem_of_getElem? hf258)
        have hif257 := (List.getElem?_eq_some_iff.1 hf258).1
        refine c_call (vs := [.pointer (some ⟨b3, 0, none⟩), i64 ((0 : Int)), i64 ((1 : Int))]) call20 rfl (at_hit false b3 a56 wy0 w249 1 hif257 f257 hf258 (by rw [hfb259]; omega) (H254.get (k := 0) rfl) (H254.rd (k := 1) rfl hok57.sl) (H254.rdF (T := 5) fok260 (List.mem_cons_of_mem _ (List.mem_cons_of_mem _ (List.mem_cons_of_mem _ (List.mem_append_left _ (frs_mem hf258))))))) ?_
        rintro _ w261 ⟨⟨key263, c264, sp265, rfl, hS266, hk267⟩, hE268⟩
        have H269 := H254.add hE268 hk267
        refine sq (r_move (v := .tuple #[.slice (ownA key263) f257.bs.length c264, .nilIface]) rfl) ?_
        refine sq (r_extract (vs := #[.slice (ownA key263) f257.bs.length c264, .nilIface]) rfl rfl) ?_
        refine sq (r_extract (vs := #[.slice (ownA key263) f257.bs.length c264, .nilIface]) rfl rfl) ?_
        refine sq (r_assign (v := .slice (ownA key263) f257.bs.length c264) rfl) ?_
        refine sq (r_assign (v := .nilIface) rfl) ?_
        refine wend ?_
        refine seqRegion ?_
        refine sq (r_move (v := .pointer (some ⟨b3, 0, none⟩)) rfl) ?_
        obtain ⟨f270, hf271, hfb272⟩ := bss_at (F := a56.fs) (i := 1) (b := bs) (by rw [hx3]; rfl)
        have fok273 := hok57.each _ (List.mem_of_getElem? hf271)
        have hif270 := (List.getElem?_eq_some_iff.1 hf271).1
        have H274 := Hp.toR [(key263, sob E8 5 f257.bs sp265)] (F := frs 5 a56.fs) (G := frs 5 wy0.fs) (X := []) H269
        refine c_call (vs := [.pointer (some ⟨b3, 0, none⟩), i64 ((0 : Int)), i64 ((1 : Int))]) call17 rfl (deliver_ok false b3 a56 wy0 hok57 ([(key263, sob E8 5 f257.bs sp265)] ++ []) w₀ w261 1 hif270 f270 hf271 (by have h1 := congrArg List.length hx3; rw [bss_len] at h1; simp at h1; omega) H274) ?_
        rintro _ w275 ⟨rfl, a277, hok278, hbs279, HN280⟩
        have H282 := Hp.toR [(f270.key, sob E8 5 f270.bs f270.sp)] (F := frs 5 a277.fs) (G := frs 5 wy0.fs) (X := ([(key263, sob E8 5 f257.bs sp265)] ++ [])) HN280
        have H283 := (Hp.fromR [(f270.key, sob E8 5 f270.bs f270.sp), (key263, sob E8 5 f257.bs sp265)] (F := frs 5 a277.fs) (G := frs 5 wy0.fs) (X := []) H282).as (L' := ((f270.key, sob E8 5 f270.bs f270.sp) :: (key263, sob E8 5 f257.bs sp265) :: (some b3, .cells (nv false a277 wy0) 76 (0, 0)) :: (a277.key, sob ES 30 (svs a277.fs) a277.sp) :: (wy0.key, sob ES 30 (svs wy0.fs) wy0.sp) :: (frs 5 a277.fs ++ (frs 5 wy0.fs ++ [])))) rfl
        refine sq (r_move (v := .tuple #[.slice (ownA f270.key) f270.bs.length f270.c, .nilIface]) rfl) ?_
        refine sq (r_extract (vs := #[.slice (ownA f270.key) f270.bs.length f270.c, .nilIface]) rfl rfl) ?_
        refine sq (r_extract (vs := #[.slice (ownA f270.key) f270.bs.length f270.c, .nilIface]) rfl rfl) ?_
        refine sq (r_assign (v := .slice (ownA f270.key) f270.bs.length f270.c) rfl) ?_
        refine sq (r_assign (v := .nilIface) rfl) ?_
        have hx4 : bss a277.fs = [bs] := by rw [hbs279, hx3]; rfl
        refine wend ?_
        refine seqRegion ?_
        refine sq (r_move (v := .pointer (some ⟨b3, 0, none⟩)) rfl) ?_
        obtain ⟨f284, hf285, hfb286⟩ := bss_at (F := a277.fs) (i := 0) (b := bs) (by rw [hx4]; rfl)
        have fok287 := hok278.each _ (List.mem_of_getElem? hf285)
        have hif284 := (List.getElem?_eq_some_iff.1 hf285).1
        have H288 := Hp.toR [(f270.key, sob E8 5 f270.bs f270.sp), (key263, sob E8 5 f257.bs sp265)] (F := frs 5 a277.fs) (G := frs 5 wy0.fs) (X := []) H283
        refine c_call (vs := [.pointer (some ⟨b3, 0, none⟩), i64 ((0 : Int)), i64 ((0 : Int))]) call17 rfl (deliver_ok false b3 a277 wy0 hok278 ([(f270.key, sob E8 5 f270.bs f270.sp), (key263, sob E8 5 f257.bs sp265)] ++ []) w₀ w275 0 hif284 f284 hf285 (by have h1 := congrArg List.length hx4; rw [bss_len] at h1; simp at h1; omega) H288) ?_
        rintro _ w289 ⟨rfl, a291, hok292, hbs293, HN294⟩
        have H296 := Hp.toR [(f284.key, sob E8 5 f284.bs f284.sp)] (F := frs 5 a291.fs) (G := frs 5 wy0.fs) (X := ([(f270.key, sob E8 5 f270.bs f270.sp), (key263, sob E8 5 f257.bs sp265)] ++ [])) HN294
        have H297 := (Hp.fromR [(f284.key, sob E8 5 f284.bs f284.sp), (f270.key, sob E8 5 f270.bs f270.sp), (key263, sob E8 5 f257.bs sp265)] (F := frs 5 a291.fs) (G := frs 5 wy0.fs) (X := []) H296).as (L' := ((f284.key, sob E8 5 f284.bs f284.sp) :: (f270.key, sob E8 5 f270.bs f270.sp) :: (key263, sob E8 5 f257.bs sp265) :: (some b3, .cells (nv false a291 wy0) 76 (0, 0)) :: (a291.key, sob ES 30 (svs a291.fs) a291.sp) :: (wy0.key, sob ES 30 (svs wy0.fs) wy0.sp) :: (frs 5 a291.fs ++ (frs 5 wy0.fs ++ [])))) rfl
        refine sq (r_move (v := .tuple #[.slice (ownA f284.key) f284.bs.length f284.c, .nilIface]) rfl) ?_
        refine sq (r_extract (vs := #[.slice (ownA f284.key) f284.bs.length f284.c, .nilIface]) rfl rfl) ?_
        refine sq (r_extract (vs := #[.slice (ownA f284.key) f284.bs.length f284.c, .nilIface]) rfl rfl) ?_
        refine sq (r_assign (v := .slice (ownA f284.key) f284.bs.length f284.c) rfl) ?_
        refine sq (r_assign (v := .nilIface) rfl) ?_
        refine wend ?_
        refine seqRegion ?_
        refine sq (r_move (v := .slice fa bs.length fc) rfl) ?_
        refine sq (r_toStr (l := bs) und30 und5 und9 (hFa.ext H297.chg) rfl (by rfl)) ?_
        refine q_buildSlice (E := ET) (l := ([bs] : List (List (BitVec 8)))) H297 sli39 zer9 (Nat.le_of_ble_eq_true rfl) (ps := [(0, .string (strB bs))]) rfl (by exact fillAll rfl rfl) rfl ?_
        intro b298 w300 hS299 H301 hE302
        refine sq (r_buildA (cs' := #[.slice (ownA (some b298)) 1 1, .slice none 0 0]) (ps := [(0, .slice (ownA (some b298)) 1 1)]) zer40 arr40 rfl (by rfl)) ?_
        refine sq (r_build (cs' := #[.slice (ownA (some b298)) 1 1, .slice none 0 0]) (ps := [(0, .agg #[.slice (ownA (some b298)) 1 1, .slice none 0 0])]) zer42 pls42 rfl (by rfl)) ?_
        refine sq (r_move (v := i64 (bit)) rfl) ?_
        refine c_call (vs := [.agg #[.slice (ownA (some b298)) 1 1, .slice none 0 0], i64 ((0 : Int)), i64 ((0 : Int)), i64 (bit)]) call22 rfl (rflip_bit_0 [bs] (ownA (some b298)) none 1 0 0 w300 0 (by simp) bit hb64 (show _ ∨ ((bs.length : Nat) : Int) ≤ _ by omega) (H301.rd (k := 0) rfl hS299)) ?_
        rintro _ w303 ⟨rfl, hE304⟩
        have H305 := H301.ext hE304
        refine sq (r_move (v := .tuple #[.agg #[.slice (ownA (some b298)) 1 1, .slice none 0 0], i64 ((1 : Int))]) rfl) ?_
        refine sq (r_extract (vs := #[.agg #[.slice (ownA (some b298)) 1 1, .slice none 0 0], i64 ((1 : Int))]) rfl rfl) ?_
        refine sq (r_extract (vs := #[.agg #[.slice (ownA (some b298)) 1 1, .slice none 0 0], i64 ((1 : Int))]) rfl rfl) ?_
        refine q_alloc (o := .cells #[.slice none 0 0, .slice none 0 0] 42 (0, 0)) H305 zer42 (by kernel_rfl) ?_
        intro b306 w307 hb306 H308 hE309
        refine d_store (k := 0) (v := .agg #[.slice (ownA (some b298)) 1 1, .slice none 0 0]) (cs' := #[.slice (ownA (some b298)) 1 1, .slice none 0 0]) H308 rfl rfl rfl siz42 (by rfl) (by intro u hu; simp [Value.cells] at hu; first | (subst hu; rfl) | (rcases hu with rfl | rfl <;> rfl)) (by exact Nat.le_of_ble_eq_true rfl) (by rfl) ?_
        intro w310 H311 hC312
        have H311' := H311.as (L' := ((some b306, .cells #[.slice (ownA (some b298)) 1 1, .slice none 0 0] 42 (0, 0)) :: ((some b298), sob ET 9 ([bs] : List (List (BitVec 8))) ([])) :: (f284.key, sob E8 5 f284.bs f284.sp) :: (f270.key, sob E8 5 f270.bs f270.sp) :: (key263, sob E8 5 f257.bs sp265) :: (some b3, .cells (nv false a291 wy0) 76 (0, 0)) :: (a291.key, sob ES 30 (svs a291.fs) a291.sp) :: (wy0.key, sob ES 30 (svs wy0.fs) wy0.sp) :: (frs 5 a291.fs ++ (frs 5 wy0.fs ++ [])))) rfl
        clear H311
        refine sq (r_assign (v := i64 ((1 : Int))) rfl) ?_
        refine wend ?_
        refine seqAny ?_
        refine seqAny ?_
        refine drawAny (K := [none, none, none, none, none, none, none, none, none, none, none, none, none, none, none, none, none, none, none, none, none, none, none]) [0, 1, 3, 7, 15, 7, 39, 103, 231, 487, 1023, 2047, 4095, 8191, 16383, 32767, 65535, 131071, 65535, 327679, 1048575, 2097151, 4194303] (fun w' => Ext w310 w') (fun w' w'' => Ext w' w'') mixed (by kernel_rfl) (Ext.drew _) (fun _ _ h h' => h.trans h') ?_ ?_
        · exact relNone (by decide)
        refine ⟨i64 ((1 : Int)), fun _ uw313 hC314 _ => Gives.run rfl (r_move (v := i64 ((1 : Int))) rfl) ⟨rfl, Chg.refl _ _⟩, ?_⟩
        refine ⟨.bool (false), fun _ uw315 hC316 _ => Gives.run rfl ((r_eqlI (a := (1 : Int)) (b := (0 : Int)) rfl rfl).as (v' := .bool (false)) (by rfl)) ⟨rfl, Chg.refl _ _⟩, ?_⟩
        refine ⟨.bool (false), fun _ uw317 hC318 _ => Gives.run rfl (r_move (v := .bool (false)) rfl) ⟨rfl, Chg.refl _ _⟩, ?_⟩
        refine ⟨undef, fun _ uw319 hC320 _ => Gives.off (wantedSome (d' := 108) (b := false) rfl rfl rfl) ⟨rfl, Chg.refl _ _⟩, ?_⟩
        refine ⟨undef, fun _ uw321 hC322 _ => Gives.off (wantedSome (d' := 108) (b := false) rfl rfl rfl) ⟨rfl, Chg.refl _ _⟩, ?_⟩
        refine ⟨undef, fun _ uw323 hC324 _ => Gives.off (wantedSome (d' := 108) (b := false) rfl rfl rfl) ⟨rfl, Chg.refl _ _⟩, ?_⟩
        refine ⟨undef, fun _ uw325 hC326 _ => Gives.off (wantedSome (d' := 108) (b := false) rfl rfl rfl) ⟨rfl, Chg.refl _ _⟩, ?_⟩
        refine ⟨undef, fun _ uw327 hC328 _ => Gives.off (wantedSome (d' := 108) (b := false) rfl rfl rfl) ⟨rfl, Chg.refl _ _⟩, ?_⟩
        refine ⟨undef, fun _ uw329 hC330 _ => Gives.off (wantedSome (d' := 108) (b := false) rfl rfl rfl) ⟨rfl, Chg.refl _ _⟩, ?_⟩
        refine ⟨undef, fun _ uw331 hC332 _ => Gives.off (wantedSome (d' := 108) (b := false) rfl rfl rfl) ⟨rfl, Chg.refl _ _⟩, ?_⟩
        refine ⟨undef, fun _ uw333 hC334 _ => Gives.off (wantedSome (d' := 108) (b := false) rfl rfl rfl) ⟨rfl, Chg.refl _ _⟩, ?_⟩
        refine ⟨.bool (false), fun _ uw335 hC336 _ => Gives.run rfl (r_pickF (v := .bool (false)) rfl rfl) ⟨rfl, Chg.refl _ _⟩, ?_⟩
        refine ⟨.bool (false), fun _ uw337 hC338 _ => Gives.run rfl (r_move (v := .bool (false)) rfl) ⟨rfl, Chg.refl _ _⟩, ?_⟩
        refine ⟨i64 ((1 : Int)), fun _ uw339 hC340 _ => Gives.runW (wantedSome (d' := 118) (b := false) rfl rfl rfl) (r_move (v := i64 ((1 : Int))) rfl) ⟨rfl, Chg.refl _ _⟩, ?_⟩
        refine ⟨.bool (true), fun _ uw341 hC342 _ => Gives.runW (wantedSome (d' := 118) (b := false) rfl rfl rfl) ((r_neqI (a := (1 : Int)) (b := (0 : Int)) rfl rfl).as (v' := .bool (true)) (by rfl)) ⟨rfl, Chg.refl _ _⟩, ?_⟩
        refine ⟨.bool (true), fun _ uw343 hC344 _ => Gives.runW (wantedSome (d' := 118) (b := false) rfl rfl rfl) (r_move (v := .bool (true)) rfl) ⟨rfl, Chg.refl _ _⟩, ?_⟩
        refine ⟨.slice (ownA f284.key) f284.bs.length f284.c, fun _ uw345 hC346 _ => Gives.runW (wantedSome (d' := 121) (b := true) rfl rfl rfl) (r_move (v := .slice (ownA f284.key) f284.bs.length f284.c) rfl) ⟨rfl, Chg.refl _ _⟩, ?_⟩
        refine ⟨.string (strB f284.bs), fun _ uw347 hC348 _ => Gives.runW (wantedSome (d' := 121) (b := true) rfl rfl rfl) (r_toStr (l := f284.bs) und30 und5 und9 ((H311'.ext hC348).rd (k := 2) rfl fok287) rfl (by rfl)) ⟨rfl, Chg.refl _ _⟩, ?_⟩
        refine ⟨.slice fa bs.length fc, fun _ uw349 hC350 _ => Gives.runW (wantedSome (d' := 121) (b := true) rfl rfl rfl) (r_move (v := .slice fa bs.length fc) rfl) ⟨rfl, Chg.refl _ _⟩, ?_⟩
        refine ⟨.string (strB bs), fun _ uw351 hC352 _ => Gives.runW (wantedSome (d' := 121) (b := true) rfl rfl rfl) (r_toStr (l := bs) und30 und5 und9 (hFa.ext (H311'.ext hC352).chg) rfl (by rfl)) ⟨rfl, Chg.refl _ _⟩, ?_⟩
        refine ⟨.bool (false), fun _ uw353 hC354 _ => Gives.runW (wantedSome (d' := 121) (b := true) rfl rfl rfl) ((r_neqStr (s := strB f284.bs) (s' := strB bs) rfl rfl).as (v' := .bool (false)) (by rw [hfb286]; simp)) ⟨rfl, Chg.refl _ _⟩, ?_⟩
        refine ⟨.bool (false), fun _ uw355 hC356 _ => Gives.runW (wantedSome (d' := 118) (b := false) rfl rfl rfl) (r_pickT (u := .bool (false)) rfl rfl) ⟨rfl, Chg.refl _ _⟩, ?_⟩
        refine ⟨.bool (false), fun _ uw357 hC358 _ => Gives.run rfl (r_pickF (v := .bool (false)) rfl rfl) ⟨rfl, Chg.refl _ _⟩, ?_⟩
        intro r362 w359 hE361 hF
        have H360 := H311'.ext hE361
        refine wnil ?_
        refine thenNormal ?_
        refine condFalse rfl ?_
        refine skipAny ?_
        refine thenNormal ?_
        refine seqRegion ?_
        refine sq (r_move (v := .slice (ownA key263) f257.bs.length c264) rfl) ?_
        refine sq (r_toStr (l := f257.bs) und30 und5 und9 (H360.rd (k := 4) rfl hS266) rfl (by rfl)) ?_
        refine sq (r_move (v := .slice fa bs.length fc) rfl) ?_
        refine sq (r_toStr (l := bs) und30 und5 und9 (hFa.ext H360.chg) rfl (by rfl)) ?_
        refine sq ((r_eqlStr (s := strB f257.bs) (s' := strB bs) rfl rfl).as (v' := .bool (true)) (by rw [hfb259]; simp)) ?_
        refine sq (r_move (v := .bool (true)) rfl) ?_
        refine sqAny (v := .slice (ownA f270.key) f270.bs.length f270.c) (w' := w359) (wantedSome (d' := 134) (b := true) rfl rfl rfl) (r_move (v := .slice (ownA f270.key) f270.bs.length f270.c) rfl) ?_
        refine sqAny (v := .string (strB f270.bs)) (w' := w359) (wantedSome (d' := 134) (b := true) rfl rfl rfl) (r_toStr (l := f270.bs) und30 und5 und9 (H360.rd (k := 3) rfl fok273) rfl (by rfl)) ?_
        refine sqAny (v := .slice fa bs.length fc) (w' := w359) (wantedSome (d' := 134) (b := true) rfl rfl rfl) (r_move (v := .slice fa bs.length fc) rfl) ?_
        refine sqAny (v := .string (strB bs)) (w' := w359) (wantedSome (d' := 134) (b := true) rfl rfl rfl) (r_toStr (l := bs) und30 und5 und9 (hFa.ext H360.chg) rfl (by rfl)) ?_
        refine sqAny (v := .bool (true)) (w' := w359) (wantedSome (d' := 134) (b := true) rfl rfl rfl) ((r_eqlStr (s := strB f270.bs) (s' := strB bs) rfl rfl).as (v' := .bool (true)) (by rw [hfb272]; simp)) ?_
        refine sq (r_pickT (u := .bool (true)) rfl rfl) ?_
        refine sq (r_assign (v := .bool (true)) rfl) ?_
        refine wend ?_
        refine retAny ?_
        refine retG (rs := [.tmp 4]) (vs := [.bool (true)]) rfl ⟨⟨rfl, rfl⟩, trivial⟩ ?_
        exact ⟨_, rfl, rfl, H360.chg⟩
end Go.Proofs.YtpmmhpgfbfehmaaDoor.Nt
