/- The walks of the cipher. -/
import Derived.Test.YtcnkllkieelahaaAes
import Derived.Test.YtcnkllkieelahaaAesPlain
import Derived.Test.YtcnkllkieelahaaProg
namespace Go.Proofs.Ytcnkllkieelahaa.Aes
open Go Go.Proofs.Ytcnkllkieelahaa.Vc Go.Proofs.Ytcnkllkieelahaa.AesSpec
theorem call15 : callable Try.prog 15 = true := by kernel_rfl
theorem call16 : callable Try.prog 16 = true := by kernel_rfl
theorem call9 : callable Try.prog 9 = true := by kernel_rfl
theorem gty22 : Try.prog.eqGuardType Try.prog.depth 22 = false := by kernel_rfl
theorem und23 : Try.prog.underlying 23 = some (.pointer 50) := by kernel_rfl
theorem und4 : Try.prog.underlying 4 = some .bool := by kernel_rfl
theorem awake_ok (w : World) : Calls Try.prog 9 [].toArray w (Ret fun v w' => v = .bool true ∧ Ext w w') := by
  have H := Hp.start No w
  refine enter (n := 21) Try.func9 rfl rfl (Nat.le_of_ble_eq_true rfl) ?_
  refine seqRegion ?_
  refine sq (r_assign (v := .bool (false)) rfl) ?_
  refine wend ?_
  refine seqRegion ?_
  refine c_call (vs := []) call15 rfl (fixed_ok w) ?_
  rintro _ w1 ⟨⟨b3, rfl, hb4, ho5⟩, hE6⟩
  have H7 := H.add1 hE6 hb4 ho5
  refine sq (r_assign (v := .pointer (some ⟨b3, 0, none⟩)) rfl) ?_
  refine wend ?_
  refine seqAny ?_
  refine seqRegion ?_
  refine sq (r_move (v := .pointer (some ⟨b3, 0, none⟩)) rfl) ?_
  refine sq (r_eqlPN und23 rfl rfl) ?_
  refine wend ?_
  refine condFalse rfl ?_
  refine skipAny ?_
  refine thenNormal ?_
  refine seqRegion ?_
  refine q_alloc (o := .cells (cel E8 (List.replicate 16 0#8)).toArray 22 (0, 0)) H7 zer22 (by kernel_rfl) ?_
  intro b8 w9 hb8 H10 _
  refine wend ?_
  refine seqAny ?_
  refine seqRegion ?_
  refine sq (r_move (v := i64 ((0 : Int))) rfl) ?_
  refine wend ?_
  refine blockAny ?_
  refine loopAny (σ := Nat) (fun i => [(1, .pointer (some ⟨b3, 0, none⟩)), (2, .pointer (some ⟨b8, 0, none⟩)), (7, i64 ((i : Nat)))]) (fun i w' => i ≤ 16 ∧ Hp No w w' [(some b8, .cells (cel E8 (awkS i)).toArray 22 (0, 0)), (some b3, .cells (cel E8 (cipher fixKey)).toArray 50 (0, 0))]) (fun i => 16 - i) (0) ?_ ?_ ?_
  · exact ⟨rfl, rfl, rfl, trivial⟩
  · exact ⟨by omega, H10⟩
  rintro i ρ w11 ⟨hi, H12⟩
  have hl := awk_len i
  refine seqRegion ?_
  refine sq (r_lssI (a := (i : Nat)) (b := (16 : Int)) rfl rfl) ?_
  refine wend ?_
  refine seqAny ?_
  refine condProp ((i : Nat) < (16 : Int)) rfl (fun c8 => ?_) (fun c8 => ?_)
  · skip
    refine skipAny ?_
    refine thenNormal ?_
    refine seqAny ?_
    refine blockAny ?_
    refine seqRegion ?_
    refine sq (r_move (v := i64 ((i : Nat))) rfl) ?_
    refine sq (r_assign (v := i64 ((i : Nat))) rfl) ?_
    refine wend ?_
    refine oneRegion ?_
    refine sq (r_move (v := i64 ((i : Nat))) rfl) ?_
    refine sq (r_move (v := i64 ((i : Nat))) rfl) ?_
    refine sq (r_mulI (a := (17 : Int)) (b := (i : Nat)) rfl rfl (by omega)) ?_
    refine sq (r_Ito8 und3 und5 (a := (17 : Int) * (i : Nat)) rfl) ?_
    refine sq (r_indexA (off' := i) (j := i) arr22 (b := b8) (off := 0) rfl rfl (by first | rfl | omega | (simp; omega)) (by omega) (by omega)) ?_
    refine d_store (k := 0) (v := u8 (BitVec.ofInt 8 ((17 : Int) * (i : Nat)))) (cs' := (cel E8 ((awkS i).set i (BitVec.ofInt 8 ((17 : Int) * (i : Nat))))).toArray) H12 rfl rfl rfl siz5 (by rfl) (by exact E8.one _) (by rw [List.size_toArray, cel_length]; show _ ≤ _ * 1; first | omega | (simp only [List.length_set]; omega) | exact Nat.le_of_ble_eq_true rfl | (simp <;> omega)) (by exact put1 (E := E8) rfl _ _ _) ?_
    intro w13 H14 _
    have H14' := H14.as (L' := [(some b8, .cells (cel E8 ((awkS i).set i (BitVec.ofInt 8 ((17 : Int) * (i : Nat))))).toArray 22 (0, 0)), (some b3, .cells (cel E8 (cipher fixKey)).toArray 50 (0, 0))]) rfl
    clear H14
    refine wnil ?_
    refine blockNormal ?_
    refine thenNormal ?_
    refine oneRegion ?_
    refine sq (r_addI (a := (i : Nat)) (b := (1 : Int)) rfl rfl (by omega)) ?_
    refine sq (r_move (v := i64 ((i : Nat) + (1 : Int))) rfl) ?_
    refine wnil ?_
    refine thenNormal ?_
    exact ⟨i + 1, _, rfl, ⟨rfl, rfl, rfl, trivial⟩, ⟨by omega, H14'⟩, by show 16 - (i + 1) < 16 - i; omega⟩
  · skip
    obtain rfl : i = 16 := by omega
    have H15 := H12.as (L' := [(some b8, .cells (cel E8 (awkS 16)).toArray 22 (0, 0)), (some b3, .cells (cel E8 (cipher fixKey)).toArray 50 (0, 0))]) (rfl)
    refine exitAny ?_
    refine thenExit ?_
    refine thenExit ?_
    refine blockHere ?_
    refine thenNormal ?_
    refine seqRegion ?_
    refine sq (r_move (v := .pointer (some ⟨b3, 0, none⟩)) rfl) ?_
    refine sq (r_loadA (cs' := (cel E8 (awkS 16)).toArray) agg22 siz22 (H15.get (k := 0) rfl) (off := 0) rfl (by rw [List.size_toArray, cel_length, awk_len]; decide) (by exact ext_all (by rw [cel_length, awk_len]; rfl))) ?_
    refine c_call (vs := [.pointer (some ⟨b3, 0, none⟩), .agg (cel E8 (awkS 16)).toArray]) call10 rfl (enc_ok b3 (cipher fixKey) (cipher_len _ (fixS_len 16)) (awkS 16) (awk_len 16) w11 (H15.get (k := 1) rfl)) ?_
    rintro _ w16 ⟨rfl, hE17⟩
    have H18 := H15.ext hE17
    refine sq (r_buildA (cs' := (cel E8 [105#8, 196#8, 224#8, 216#8, 106#8, 123#8, 4#8, 48#8, 216#8, 205#8, 183#8, 128#8, 112#8, 180#8, 197#8, 90#8]).toArray) (ps := [(0, u8 (105#8)), (1, u8 (196#8)), (2, u8 (224#8)), (3, u8 (216#8)), (4, u8 (106#8)), (5, u8 (123#8)), (6, u8 (4#8)), (7, u8 (48#8)), (8, u8 (216#8)), (9, u8 (205#8)), (10, u8 (183#8)), (11, u8 (128#8)), (12, u8 (112#8)), (13, u8 (180#8)), (14, u8 (197#8)), (15, u8 (90#8))]) zer22 arr22 rfl (by rfl)) ?_
    refine sq ((r_eqlA (E := E8) (l := encL (cipher fixKey) (awkS 16)) (l' := [105#8, 196#8, 224#8, 216#8, 106#8, 123#8, 4#8, 48#8, 216#8, 205#8, 183#8, 128#8, 112#8, 180#8, 197#8, 90#8]) gty22 und22 fits5 (eqAt8 und5) (by rw [encL_len, awk_len]) (rfl) rfl rfl).as (v' := .bool (true)) (by rw [decide_eq_true vec])) ?_
    refine sq (r_assign (v := .bool (true)) rfl) ?_
    refine wend ?_
    refine retAny ?_
    refine retG (rs := [.tmp 0]) (vs := [.bool (true)]) rfl ⟨⟨rfl, rfl⟩, trivial⟩ ?_
    exact ⟨_, rfl, rfl, H18.chg⟩

theorem apart_ok (key a b : List By) (hk : key.length = 16) (ha : a.length = 16) (hb : b.length = 16) (w : World) : Calls Try.prog 4 [.agg (cel E8 key).toArray, .agg (cel E8 a).toArray, .agg (cel E8 b).toArray].toArray w (Ret fun v w' => v = .bool true ∧ Ext w w') := by
  have H := Hp.start No w
  refine enter (n := 43) Try.func4 rfl rfl (Nat.le_of_ble_eq_true rfl) ?_
  refine seqRegion ?_
  refine q_box (v := .agg (cel E8 key).toArray) (o := .cells (cel E8 key).toArray 22 (0, 0)) H rfl (by rfl) ?_
  intro b1 w2 hb1 H3 _
  refine q_box (v := .agg (cel E8 a).toArray) (o := .cells (cel E8 a).toArray 22 (0, 0)) H3 rfl (by rfl) ?_
  intro b4 w5 hb4 H6 _
  refine q_box (v := .agg (cel E8 b).toArray) (o := .cells (cel E8 b).toArray 22 (0, 0)) H6 rfl (by rfl) ?_
  intro b7 w8 hb7 H9 _
  refine sq (r_assign (v := .bool (false)) rfl) ?_
  refine wend ?_
  refine seqAny ?_
  refine drawAny (K := [none, some (allocRel w8 (.cells (cel E8 (cipher key)).toArray 50 (0, 0))), none, some (allocRel w8 (.cells (cel E8 (cipher key)).toArray 50 (0, 0))), some (fun r u _ => u = r 1), some (fun r u _ => u = r 3)]) [0, 1, 0, 7, 15, 31] (fun w' => Ext w8 w') (fun w' w'' => Ext w' w'') mixed (by kernel_rfl) (Ext.drew _) (fun _ _ h h' => h.trans h') ?_ ?_
  · exact relAll ⟨⟨allocRel_stable, allocRel_congr⟩, ⟨allocRel_stable, allocRel_congr⟩, ⟨fun _ _ _ _ _ _ h => h, fun _ _ _ _ h hu => hu.trans (h 1 (Nat.le_of_ble_eq_true rfl) rfl)⟩, ⟨fun _ _ _ _ _ _ h => h, fun _ _ _ _ h hu => hu.trans (h 3 (Nat.le_of_ble_eq_true rfl) rfl)⟩, trivial⟩
  refine ⟨.agg (cel E8 key).toArray, fun _ uw10 hC11 _ => Gives.run rfl (r_loadA (cs' := (cel E8 key).toArray) agg22 siz22 ((H9.ext hC11).get (k := 2) rfl) (off := 0) rfl (by rw [List.size_toArray, cel_length]; show _ ≤ _ * 1; omega) (by exact ext_all (by rw [cel_length]; show _ * 1 = _; omega))) ⟨rfl, Chg.refl _ _⟩, ?_⟩
  refine ⟨fun r uw12 hC13 hF => ?_, ?_⟩
  · exact Gives.call rfl (Enters.callL (vs := [.agg (cel E8 key).toArray]) call8 rfl) ((new_ok key hk uw12).mono fun _ _ ⟨v, h1, ⟨b, h2, h3, h4⟩, h5⟩ => ⟨v, h1, ⟨b, h2, Nat.le_trans hC13.size h3, h4⟩, h5⟩)
  refine ⟨.agg (cel E8 key).toArray, fun _ uw14 hC15 _ => Gives.run rfl (r_loadA (cs' := (cel E8 key).toArray) agg22 siz22 ((H9.ext hC15).get (k := 2) rfl) (off := 0) rfl (by rw [List.size_toArray, cel_length]; show _ ≤ _ * 1; omega) (by exact ext_all (by rw [cel_length]; show _ * 1 = _; omega))) ⟨rfl, Chg.refl _ _⟩, ?_⟩
  refine ⟨fun r uw16 hC17 hF => ?_, ?_⟩
  · exact Gives.call rfl (Enters.callL (vs := [.agg (cel E8 key).toArray]) call8 rfl) ((new_ok key hk uw16).mono fun _ _ ⟨v, h1, ⟨b, h2, h3, h4⟩, h5⟩ => ⟨v, h1, ⟨b, h2, Nat.le_trans hC17.size h3, h4⟩, h5⟩)
  refine ⟨fun r uw18 hC19 hF => ?_, ?_⟩
  · exact Gives.run rfl (r_assign rfl) ⟨rfl, Chg.refl _ _⟩
  refine ⟨fun r uw20 hC21 hF => ?_, ?_⟩
  · exact Gives.run rfl (r_assign rfl) ⟨rfl, Chg.refl _ _⟩
  intro r25 w22 hE24 hF
  have H23 := H9.ext hE24
  obtain ⟨b1, hb1, _, ho1⟩ := hF 1 _ rfl
  obtain ⟨b3, hb3, _, ho3⟩ := hF 3 _ rfl
  have e4 := hF 4 _ rfl
  have e5 := hF 5 _ rfl
  dsimp only at e4 e5 ⊢
  rw [hb1] at e4
  rw [hb3] at e5
  rw [e4, e5]
  have f26 := H23.get (k := 0) rfl
  have f27 := H23.get (k := 1) rfl
  have f28 := H23.get (k := 2) rfl
  have X29 := H23.chg
  have H30 := Hp.start No w22
  obtain ⟨bN1, rfl⟩ : ∃ x, x = b1 := ⟨_, rfl⟩
  obtain ⟨bN3, rfl⟩ : ∃ x, x = b3 := ⟨_, rfl⟩
  refine wnil ?_
  refine thenNormal ?_
  refine seqAny ?_
  refine seqRegion ?_
  refine c_call (vs := []) call9 rfl (awake_ok w22) ?_
  rintro _ w31 ⟨rfl, hE32⟩
  have H33 := H30.ext hE32
  refine sq (r_notT rfl) ?_
  refine sq (r_move (v := .bool (false)) rfl) ?_
  refine sqAny (v := .pointer (some ⟨bN1, 0, none⟩)) (w' := w31) (wantedSome (d' := 15) (b := false) rfl rfl rfl) (r_move (v := .pointer (some ⟨bN1, 0, none⟩)) rfl) ?_
  refine sqAny (v := .bool (false)) (w' := w31) (wantedSome (d' := 15) (b := false) rfl rfl rfl) (r_eqlPN und23 rfl rfl) ?_
  refine sq (r_pickF (v := .bool (false)) rfl rfl) ?_
  refine sq (r_move (v := .bool (false)) rfl) ?_
  refine sqAny (v := .pointer (some ⟨bN3, 0, none⟩)) (w' := w31) (wantedSome (d' := 19) (b := false) rfl rfl rfl) (r_move (v := .pointer (some ⟨bN3, 0, none⟩)) rfl) ?_
  refine sqAny (v := .bool (false)) (w' := w31) (wantedSome (d' := 19) (b := false) rfl rfl rfl) (r_eqlPN und23 rfl rfl) ?_
  refine sq (r_pickF (v := .bool (false)) rfl rfl) ?_
  refine wend ?_
  refine condFalse rfl ?_
  refine skipAny ?_
  refine thenNormal ?_
  refine seqAny ?_
  refine drawAny (K := [none, none, none, none, none, none, none, none, none, none, none, none, none, none, none, none, none, none, none, none, none]) [0, 0, 3, 0, 0, 31, 63, 0, 0, 384, 1023, 2047, 4095, 4095, 16383, 4095, 4095, 131071, 262143, 524287, 1048575] (fun w' => Ext w31 w') (fun w' w'' => Ext w' w'') mixed (by kernel_rfl) (Ext.drew _) (fun _ _ h h' => h.trans h') ?_ ?_
  · exact relNone (by decide)
  refine ⟨.pointer (some ⟨bN1, 0, none⟩), fun _ uw34 hC35 _ => Gives.run rfl (r_move (v := .pointer (some ⟨bN1, 0, none⟩)) rfl) ⟨rfl, Chg.refl _ _⟩, ?_⟩
  refine ⟨.agg (cel E8 a).toArray, fun _ uw36 hC37 _ => Gives.run rfl (r_loadA (cs' := (cel E8 a).toArray) agg22 siz22 ((H33.ext hC37).keepE f27) (off := 0) rfl (by rw [List.size_toArray, cel_length]; show _ ≤ _ * 1; omega) (by exact ext_all (by rw [cel_length]; show _ * 1 = _; omega))) ⟨rfl, Chg.refl _ _⟩, ?_⟩
  refine ⟨.agg (cel E8 (encL (cipher key) a)).toArray, fun _ uw38 hC39 _ => Gives.call rfl (Enters.callL (vs := [.pointer (some ⟨bN1, 0, none⟩), .agg (cel E8 a).toArray]) call10 rfl) (enc_ok bN1 (cipher key) (cipher_len _ hk) a (ha) uw38 ((H33.ext hC39).keepE ho1)), ?_⟩
  refine ⟨.pointer (some ⟨bN1, 0, none⟩), fun _ uw40 hC41 _ => Gives.run rfl (r_move (v := .pointer (some ⟨bN1, 0, none⟩)) rfl) ⟨rfl, Chg.refl _ _⟩, ?_⟩
  refine ⟨.agg (cel E8 b).toArray, fun _ uw42 hC43 _ => Gives.run rfl (r_loadA (cs' := (cel E8 b).toArray) agg22 siz22 ((H33.ext hC43).keepE f26) (off := 0) rfl (by rw [List.size_toArray, cel_length]; show _ ≤ _ * 1; omega) (by exact ext_all (by rw [cel_length]; show _ * 1 = _; omega))) ⟨rfl, Chg.refl _ _⟩, ?_⟩
  refine ⟨.agg (cel E8 (encL (cipher key) b)).toArray, fun _ uw44 hC45 _ => Gives.call rfl (Enters.callL (vs := [.pointer (some ⟨bN1, 0, none⟩), .agg (cel E8 b).toArray]) call10 rfl) (enc_ok bN1 (cipher key) (cipher_len _ hk) b (hb) uw44 ((H33.ext hC45).keepE ho1)), ?_⟩
  refine ⟨.bool (decide ((encL (cipher key) a) = (encL (cipher key) b))), fun _ uw46 hC47 _ => Gives.run rfl (r_eqlA (E := E8) (l := encL (cipher key) a) (l' := encL (cipher key) b) gty22 und22 fits5 (eqAt8 und5) (by rw [encL_len, ha]) (by rw [encL_len, hb]) rfl rfl) ⟨rfl, Chg.refl _ _⟩, ?_⟩
  refine ⟨.agg (cel E8 a).toArray, fun _ uw48 hC49 _ => Gives.run rfl (r_loadA (cs' := (cel E8 a).toArray) agg22 siz22 ((H33.ext hC49).keepE f27) (off := 0) rfl (by rw [List.size_toArray, cel_length]; show _ ≤ _ * 1; omega) (by exact ext_all (by rw [cel_length]; show _ * 1 = _; omega))) ⟨rfl, Chg.refl _ _⟩, ?_⟩
  refine ⟨.agg (cel E8 b).toArray, fun _ uw50 hC51 _ => Gives.run rfl (r_loadA (cs' := (cel E8 b).toArray) agg22 siz22 ((H33.ext hC51).keepE f26) (off := 0) rfl (by rw [List.size_toArray, cel_length]; show _ ≤ _ * 1; omega) (by exact ext_all (by rw [cel_length]; show _ * 1 = _; omega))) ⟨rfl, Chg.refl _ _⟩, ?_⟩
  refine ⟨.bool (decide (a = b)), fun _ uw52 hC53 _ => Gives.run rfl (r_eqlA (E := E8) (l := a) (l' := b) gty22 und22 fits5 (eqAt8 und5) (ha) (hb) rfl rfl) ⟨rfl, Chg.refl _ _⟩, ?_⟩
  refine ⟨.bool (true), fun _ uw54 hC55 _ => Gives.run rfl ((r_eqlB und4 (a := decide ((encL (cipher key) a) = (encL (cipher key) b))) (b := decide (a = b)) rfl rfl).as (v' := .bool (true)) (by rw [enc_apart key a b hk ha hb]; simp)) ⟨rfl, Chg.refl _ _⟩, ?_⟩
  refine ⟨.bool (true), fun _ uw56 hC57 _ => Gives.run rfl (r_move (v := .bool (true)) rfl) ⟨rfl, Chg.refl _ _⟩, ?_⟩
  refine ⟨.pointer (some ⟨bN1, 0, none⟩), fun _ uw58 hC59 _ => Gives.runW (wantedSome (d' := 34) (b := true) rfl rfl rfl) (r_move (v := .pointer (some ⟨bN1, 0, none⟩)) rfl) ⟨rfl, Chg.refl _ _⟩, ?_⟩
  refine ⟨.agg (cel E8 a).toArray, fun _ uw60 hC61 _ => Gives.runW (wantedSome (d' := 34) (b := true) rfl rfl rfl) (r_loadA (cs' := (cel E8 a).toArray) agg22 siz22 ((H33.ext hC61).keepE f27) (off := 0) rfl (by rw [List.size_toArray, cel_length]; show _ ≤ _ * 1; omega) (by exact ext_all (by rw [cel_length]; show _ * 1 = _; omega))) ⟨rfl, Chg.refl _ _⟩, ?_⟩
  refine ⟨.agg (cel E8 (encL (cipher key) a)).toArray, fun _ uw62 hC63 _ => Gives.callW (wantedSome (d' := 34) (b := true) rfl rfl rfl) (Enters.callL (vs := [.pointer (some ⟨bN1, 0, none⟩), .agg (cel E8 a).toArray]) call10 rfl) (enc_ok bN1 (cipher key) (cipher_len _ hk) a (ha) uw62 ((H33.ext hC63).keepE ho1)), ?_⟩
  refine ⟨.pointer (some ⟨bN3, 0, none⟩), fun _ uw64 hC65 _ => Gives.runW (wantedSome (d' := 34) (b := true) rfl rfl rfl) (r_move (v := .pointer (some ⟨bN3, 0, none⟩)) rfl) ⟨rfl, Chg.refl _ _⟩, ?_⟩
  refine ⟨.agg (cel E8 a).toArray, fun _ uw66 hC67 _ => Gives.runW (wantedSome (d' := 34) (b := true) rfl rfl rfl) (r_loadA (cs' := (cel E8 a).toArray) agg22 siz22 ((H33.ext hC67).keepE f27) (off := 0) rfl (by rw [List.size_toArray, cel_length]; show _ ≤ _ * 1; omega) (by exact ext_all (by rw [cel_length]; show _ * 1 = _; omega))) ⟨rfl, Chg.refl _ _⟩, ?_⟩
  refine ⟨.agg (cel E8 (encL (cipher key) a)).toArray, fun _ uw68 hC69 _ => Gives.callW (wantedSome (d' := 34) (b := true) rfl rfl rfl) (Enters.callL (vs := [.pointer (some ⟨bN3, 0, none⟩), .agg (cel E8 a).toArray]) call10 rfl) (enc_ok bN3 (cipher key) (cipher_len _ hk) a (ha) uw68 ((H33.ext hC69).keepE ho3)), ?_⟩
  refine ⟨.bool (true), fun _ uw70 hC71 _ => Gives.runW (wantedSome (d' := 34) (b := true) rfl rfl rfl) ((r_eqlA (E := E8) (l := encL (cipher key) a) (l' := encL (cipher key) a) gty22 und22 fits5 (eqAt8 und5) (by rw [encL_len, ha]) (by rw [encL_len, ha]) rfl rfl).as (v' := .bool (true)) (by simp)) ⟨rfl, Chg.refl _ _⟩, ?_⟩
  refine ⟨.bool (true), fun _ uw72 hC73 _ => Gives.run rfl (r_pickT (u := .bool (true)) rfl rfl) ⟨rfl, Chg.refl _ _⟩, ?_⟩
  refine ⟨.bool (true), fun _ uw74 hC75 _ => Gives.run rfl (r_assign (v := .bool (true)) rfl) ⟨rfl, Chg.refl _ _⟩, ?_⟩
  intro r79 w76 hE78 hF
  have H77 := H33.ext hE78
  refine wnil ?_
  refine thenNormal ?_
  refine retAny ?_
  refine retG (rs := [.tmp 6]) (vs := [.bool (true)]) rfl ⟨⟨rfl, rfl⟩, trivial⟩ ?_
  exact ⟨_, rfl, rfl, X29.trans H77.chg⟩

theorem fixedkey_ok (a b tw : BitVec 64) (blk : List By) (hbl : blk.length = 16) (w : World) : Calls Try.prog 7 [.agg (cel E64 [a, b]).toArray, u64 (tw), .agg (cel E8 blk).toArray].toArray w (Ret fun v w' => v = .bool true ∧ Ext w w') := by
  have H := Hp.start No w
  refine enter (n := 97) Try.func7 rfl rfl (Nat.le_of_ble_eq_true rfl) ?_
  refine seqRegion ?_
  refine q_box (v := .agg (cel E64 [a, b]).toArray) (o := .cells (cel E64 ([a, b])).toArray 39 (0, 0)) H rfl (by rfl) ?_
  intro b1 w2 hb1 H3 _
  refine q_box (v := .agg (cel E8 blk).toArray) (o := .cells (cel E8 blk).toArray 22 (0, 0)) H3 rfl (by rfl) ?_
  intro b4 w5 hb4 H6 _
  refine sq (r_assign (v := .bool (false)) rfl) ?_
  refine wend ?_
  refine seqRegion ?_
  refine q_alloc (o := .cells (cel E8 (List.replicate 16 0#8)).toArray 22 (0, 0)) H6 zer22 (by kernel_rfl) ?_
  intro b7 w8 hb7 H9 _
  refine wend ?_
  refine seqAny ?_
  refine seqRegion ?_
  refine sq (r_move (v := i64 ((0 : Int))) rfl) ?_
  refine wend ?_
  refine blockAny ?_
  refine loopAny (σ := Nat) (fun i => [(1, u64 (tw)), (3, .pointer (some ⟨b1, 0, none⟩)), (5, .pointer (some ⟨b4, 0, none⟩)), (7, .pointer (some ⟨b7, 0, none⟩)), (16, i64 ((i : Nat)))]) (fun i w' => i ≤ 16 ∧ Hp No w w' [(some b7, .cells (cel E8 (fixS i)).toArray 22 (0, 0)), (some b4, .cells (cel E8 blk).toArray 22 (0, 0)), (some b1, .cells (cel E64 ([a, b])).toArray 39 (0, 0))]) (fun i => 16 - i) (0) ?_ ?_ ?_
  · exact ⟨rfl, rfl, rfl, rfl, rfl, trivial⟩
  · exact ⟨by omega, H9⟩
  rintro i ρ w10 ⟨hi, H11⟩
  have hl := fixS_len i
  refine seqRegion ?_
  refine sq (r_lssI (a := (i : Nat)) (b := (16 : Int)) rfl rfl) ?_
  refine wend ?_
  refine seqAny ?_
  refine condProp ((i : Nat) < (16 : Int)) rfl (fun c17 => ?_) (fun c17 => ?_)
  · skip
    refine skipAny ?_
    refine thenNormal ?_
    refine seqAny ?_
    refine blockAny ?_
    refine seqRegion ?_
    refine sq (r_move (v := i64 ((i : Nat))) rfl) ?_
    refine sq (r_assign (v := i64 ((i : Nat))) rfl) ?_
    refine wend ?_
    refine oneRegion ?_
    refine sq (r_move (v := i64 ((i : Nat))) rfl) ?_
    refine sq (r_move (v := i64 ((i : Nat))) rfl) ?_
    refine sq (r_Ito8 und3 und5 (a := (i : Nat)) rfl) ?_
    refine sq (r_indexA (off' := i) (j := i) arr22 (b := b7) (off := 0) rfl rfl (by first | rfl | omega | (simp; omega)) (by omega) (by omega)) ?_
    refine d_store (k := 0) (v := u8 (BitVec.ofInt 8 (i : Nat))) (cs' := (cel E8 ((fixS i).set i (BitVec.ofInt 8 (i : Nat)))).toArray) H11 rfl rfl rfl siz5 (by rfl) (by exact E8.one _) (by rw [List.size_toArray, cel_length]; show _ ≤ _ * 1; first | omega | (simp only [List.length_set]; omega) | exact Nat.le_of_ble_eq_true rfl | (simp <;> omega)) (by exact put1 (E := E8) rfl _ _ _) ?_
    intro w12 H13 _
    have H13' := H13.as (L' := [(some b7, .cells (cel E8 ((fixS i).set i (BitVec.ofInt 8 (i : Nat)))).toArray 22 (0, 0)), (some b4, .cells (cel E8 blk).toArray 22 (0, 0)), (some b1, .cells (cel E64 ([a, b])).toArray 39 (0, 0))]) rfl
    clear H13
    refine wnil ?_
    refine blockNormal ?_
    refine thenNormal ?_
    refine oneRegion ?_
    refine sq (r_addI (a := (i : Nat)) (b := (1 : Int)) rfl rfl (by omega)) ?_
    refine sq (r_move (v := i64 ((i : Nat) + (1 : Int))) rfl) ?_
    refine wnil ?_
    refine thenNormal ?_
    exact ⟨i + 1, _, rfl, ⟨rfl, rfl, rfl, rfl, rfl, trivial⟩, ⟨by omega, H13'⟩, by show 16 - (i + 1) < 16 - i; omega⟩
  · skip
    obtain rfl : i = 16 := by omega
    have H14 := H11.as (L' := [(some b7, .cells (cel E8 fixKey).toArray 22 (0, 0)), (some b4, .cells (cel E8 blk).toArray 22 (0, 0)), (some b1, .cells (cel E64 ([a, b])).toArray 39 (0, 0))]) (by rw [fixKey])
    refine exitAny ?_
    refine thenExit ?_
    refine thenExit ?_
    refine blockHere ?_
    refine thenNormal ?_
    refine seqRegion ?_
    refine sq (r_loadA (cs' := (cel E8 fixKey).toArray) agg22 siz22 (H14.get (k := 0) rfl) (off := 0) rfl (by rw [List.size_toArray, cel_length, fixKey, fixS_len]; decide) (by exact ext_all (by rw [cel_length, fixKey, fixS_len]; rfl))) ?_
    refine c_call (vs := [.agg (cel E8 fixKey).toArray]) call8 rfl (new_ok fixKey (fixS_len 16) w10) ?_
    rintro _ w15 ⟨⟨b17, rfl, hb18, ho19⟩, hE20⟩
    have H21 := H14.add1 hE20 hb18 ho19
    refine c_call (vs := []) call15 rfl (fixed_ok w15) ?_
    rintro _ w22 ⟨⟨b24, rfl, hb25, ho26⟩, hE27⟩
    have H28 := H21.add1 hE27 hb25 ho26
    refine sq (r_assign (v := .pointer (some ⟨b17, 0, none⟩)) rfl) ?_
    refine sq (r_assign (v := .pointer (some ⟨b24, 0, none⟩)) rfl) ?_
    have f29 := H28.get (k := 0) rfl
    have f30 := H28.get (k := 1) rfl
    have f31 := H28.get (k := 2) rfl
    have f32 := H28.get (k := 3) rfl
    have f33 := H28.get (k := 4) rfl
    have X34 := H28.chg
    have H35 := Hp.start No w22
    refine wend ?_
    refine seqAny ?_
    refine seqAny ?_
    refine drawAny (K := [none, none, none, none, none, none, none, none, none, none, none, none, none, none, none, none, none, none, none]) [0, 1, 3, 7, 15, 31, 63, 127, 255, 511, 1023, 2047, 2047, 8191, 2047, 2047, 65535, 131071, 262143] (fun w' => Ext w22 w') (fun w' w'' => Ext w' w'') mixed (by kernel_rfl) (Ext.drew _) (fun _ _ h h' => h.trans h') ?_ ?_
    · exact relNone (by decide)
    refine ⟨.bool (true), fun _ uw36 hC37 _ => Gives.call rfl (Enters.callL (vs := []) call9 rfl) (awake_ok uw36), ?_⟩
    refine ⟨.bool (false), fun _ uw38 hC39 _ => Gives.run rfl (r_notT rfl) ⟨rfl, Chg.refl _ _⟩, ?_⟩
    refine ⟨.bool (false), fun _ uw40 hC41 _ => Gives.run rfl (r_move (v := .bool (false)) rfl) ⟨rfl, Chg.refl _ _⟩, ?_⟩
    refine ⟨.pointer (some ⟨b17, 0, none⟩), fun _ uw42 hC43 _ => Gives.runW (wantedSome (d' := 29) (b := false) rfl rfl rfl) (r_move (v := .pointer (some ⟨b17, 0, none⟩)) rfl) ⟨rfl, Chg.refl _ _⟩, ?_⟩
    refine ⟨.bool (false), fun _ uw44 hC45 _ => Gives.runW (wantedSome (d' := 29) (b := false) rfl rfl rfl) (r_eqlPN und23 rfl rfl) ⟨rfl, Chg.refl _ _⟩, ?_⟩
    refine ⟨.bool (false), fun _ uw46 hC47 _ => Gives.run rfl (r_pickF (v := .bool (false)) rfl rfl) ⟨rfl, Chg.refl _ _⟩, ?_⟩
    refine ⟨.bool (false), fun _ uw48 hC49 _ => Gives.run rfl (r_move (v := .bool (false)) rfl) ⟨rfl, Chg.refl _ _⟩, ?_⟩
    refine ⟨.pointer (some ⟨b24, 0, none⟩), fun _ uw50 hC51 _ => Gives.runW (wantedSome (d' := 33) (b := false) rfl rfl rfl) (r_move (v := .pointer (some ⟨b24, 0, none⟩)) rfl) ⟨rfl, Chg.refl _ _⟩, ?_⟩
    refine ⟨.bool (false), fun _ uw52 hC53 _ => Gives.runW (wantedSome (d' := 33) (b := false) rfl rfl rfl) (r_eqlPN und23 rfl rfl) ⟨rfl, Chg.refl _ _⟩, ?_⟩
    refine ⟨.bool (false), fun _ uw54 hC55 _ => Gives.run rfl (r_pickF (v := .bool (false)) rfl rfl) ⟨rfl, Chg.refl _ _⟩, ?_⟩
    refine ⟨.bool (false), fun _ uw56 hC57 _ => Gives.run rfl (r_move (v := .bool (false)) rfl) ⟨rfl, Chg.refl _ _⟩, ?_⟩
    refine ⟨.pointer (some ⟨b17, 0, none⟩), fun _ uw58 hC59 _ => Gives.runW (wantedSome (d' := 37) (b := false) rfl rfl rfl) (r_move (v := .pointer (some ⟨b17, 0, none⟩)) rfl) ⟨rfl, Chg.refl _ _⟩, ?_⟩
    refine ⟨.agg (cel E8 blk).toArray, fun _ uw60 hC61 _ => Gives.runW (wantedSome (d' := 37) (b := false) rfl rfl rfl) (r_loadA (cs' := (cel E8 blk).toArray) agg22 siz22 ((H35.ext hC61).keepE f32) (off := 0) rfl (by rw [List.size_toArray, cel_length, hbl]; decide) (by exact ext_all (by rw [cel_length, hbl]; rfl))) ⟨rfl, Chg.refl _ _⟩, ?_⟩
    refine ⟨.agg (cel E8 (encL (cipher fixKey) blk)).toArray, fun _ uw62 hC63 _ => Gives.callW (wantedSome (d' := 37) (b := false) rfl rfl rfl) (Enters.callL (vs := [.pointer (some ⟨b17, 0, none⟩), .agg (cel E8 blk).toArray]) call10 rfl) (enc_ok b17 (cipher fixKey) (cipher_len _ (fixS_len 16)) blk (hbl) uw62 ((H35.ext hC63).keepE f30)), ?_⟩
    refine ⟨.pointer (some ⟨b24, 0, none⟩), fun _ uw64 hC65 _ => Gives.runW (wantedSome (d' := 37) (b := false) rfl rfl rfl) (r_move (v := .pointer (some ⟨b24, 0, none⟩)) rfl) ⟨rfl, Chg.refl _ _⟩, ?_⟩
    refine ⟨.agg (cel E8 blk).toArray, fun _ uw66 hC67 _ => Gives.runW (wantedSome (d' := 37) (b := false) rfl rfl rfl) (r_loadA (cs' := (cel E8 blk).toArray) agg22 siz22 ((H35.ext hC67).keepE f32) (off := 0) rfl (by rw [List.size_toArray, cel_length, hbl]; decide) (by exact ext_all (by rw [cel_length, hbl]; rfl))) ⟨rfl, Chg.refl _ _⟩, ?_⟩
    refine ⟨.agg (cel E8 (encL (cipher fixKey) blk)).toArray, fun _ uw68 hC69 _ => Gives.callW (wantedSome (d' := 37) (b := false) rfl rfl rfl) (Enters.callL (vs := [.pointer (some ⟨b24, 0, none⟩), .agg (cel E8 blk).toArray]) call10 rfl) (enc_ok b24 (cipher fixKey) (cipher_len _ (fixS_len 16)) blk (hbl) uw68 ((H35.ext hC69).keepE f29)), ?_⟩
    refine ⟨.bool (false), fun _ uw70 hC71 _ => Gives.runW (wantedSome (d' := 37) (b := false) rfl rfl rfl) ((r_neqA (E := E8) (l := encL (cipher fixKey) blk) (l' := encL (cipher fixKey) blk) gty22 und22 fits5 (eqAt8 und5) (by rw [encL_len, hbl]) (by rw [encL_len, hbl]) rfl rfl).as (v' := .bool (false)) (by simp)) ⟨rfl, Chg.refl _ _⟩, ?_⟩
    refine ⟨.bool (false), fun _ uw72 hC73 _ => Gives.run rfl (r_pickF (v := .bool (false)) rfl rfl) ⟨rfl, Chg.refl _ _⟩, ?_⟩
    intro r77 w74 hE76 hF
    have H75 := H35.ext hE76
    refine wnil ?_
    refine thenNormal ?_
    refine condFalse rfl ?_
    refine skipAny ?_
    refine thenNormal ?_
    refine seqRegion ?_
    refine sq (r_loadA (cs' := (cel E64 ([a, b])).toArray) agg39 siz39 (H75.keepE f33) (off := 0) rfl (by exact Nat.le_of_ble_eq_true rfl) (by exact ext_all rfl)) ?_
    refine c_call (vs := [.agg (cel E64 ([a, b])).toArray]) call19 rfl (double_ok a b w74) ?_
    rintro _ w78 ⟨rfl, hE79⟩
    have H80 := H75.ext hE79
    refine q_alloc (o := .cells (cel E64 ([0#64, 0#64])).toArray 39 (0, 0)) H80 zer39 (by kernel_rfl) ?_
    intro b81 w82 hb81 H83 _
    refine d_store (k := 0) (v := .agg (cel E64 [(dbl a b).1, (dbl a b).2]).toArray) (cs' := (cel E64 ([(dbl a b).1, (dbl a b).2])).toArray) H83 rfl rfl rfl siz39 (by exact celSize (by first | rfl | (show _ * 1 = _; omega))) (by exact celOne _) (by rw [List.size_toArray, cel_length]; show _ ≤ _ * 1; first | omega | (simp only [List.length_set]; omega) | exact Nat.le_of_ble_eq_true rfl | (simp <;> omega)) (by exact putAll (by first | rfl | omega | (simp <;> omega))) ?_
    intro w84 H85 _
    have H85' := H85.as (L' := [(some b81, .cells (cel E64 ([(dbl a b).1, (dbl a b).2])).toArray 39 (0, 0))]) rfl
    clear H85
    refine wend ?_
    refine seqRegion ?_
    refine sq (r_indexA (off' := 0) (j := 0) arr39 (b := b81) (off := 0) rfl rfl (by first | rfl | omega | (simp; omega)) (by omega) (by omega)) ?_
    refine sq (r_ld1 (E := E64) (l := [(dbl a b).1, (dbl a b).2]) (j := 0) (a := (dbl a b).1) fits34 (H85'.get (k := 0) rfl) (by rfl) rfl rfl) ?_
    refine sq (r_move (v := u64 (tw)) rfl) ?_
    refine sq (r_xor64 (a := (dbl a b).1) (b := tw) rfl rfl) ?_
    refine sq (r_indexA (off' := 0) (j := 0) arr39 (b := b81) (off := 0) rfl rfl (by first | rfl | omega | (simp; omega)) (by omega) (by omega)) ?_
    refine d_store (k := 0) (v := u64 (((dbl a b).1) ^^^ tw)) (cs' := (cel E64 ([((dbl a b).1) ^^^ tw, (dbl a b).2])).toArray) H85' rfl rfl rfl siz34 (by rfl) (by exact E64.one _) (by rw [List.size_toArray, cel_length]; show _ ≤ _ * 1; first | omega | (simp only [List.length_set]; omega) | exact Nat.le_of_ble_eq_true rfl | (simp <;> omega)) (by exact put1 (E := E64) rfl _ _ _) ?_
    intro w86 H87 _
    have H87' := H87.as (L' := [(some b81, .cells (cel E64 ([((dbl a b).1) ^^^ tw, (dbl a b).2])).toArray 39 (0, 0))]) rfl
    clear H87
    refine wend ?_
    refine seqRegion ?_
    refine q_alloc (o := .cells (cel E8 (List.replicate 16 0#8)).toArray 22 (0, 0)) H87' zer22 (by kernel_rfl) ?_
    intro b88 w89 hb88 H90 _
    refine wend ?_
    refine seqAny ?_
    refine seqRegion ?_
    refine sq (r_move (v := i64 ((0 : Int))) rfl) ?_
    refine wend ?_
    refine blockAny ?_
    refine loopAny (σ := Nat) (fun i => [(1, u64 (tw)), (3, .pointer (some ⟨b1, 0, none⟩)), (9, .pointer (some ⟨b17, 0, none⟩)), (10, .pointer (some ⟨b24, 0, none⟩)), (11, .pointer (some ⟨b81, 0, none⟩)), (12, .pointer (some ⟨b88, 0, none⟩)), (53, i64 ((i : Nat)))]) (fun i w' => i ≤ 16 ∧ Hp No w22 w' [(some b88, .cells (cel E8 (bytesS ((dbl a b).1 ^^^ tw) ((dbl a b).2) i)).toArray 22 (0, 0)), (some b81, .cells (cel E64 ([((dbl a b).1) ^^^ tw, (dbl a b).2])).toArray 39 (0, 0))]) (fun i => 16 - i) (0) ?_ ?_ ?_
    · exact ⟨rfl, rfl, rfl, rfl, rfl, rfl, rfl, trivial⟩
    · exact ⟨by omega, H90⟩
    rintro i ρ w91 ⟨hi, H92⟩
    have hl := bytesS_len ((dbl a b).1 ^^^ tw) ((dbl a b).2) i
    refine seqRegion ?_
    refine sq (r_lssI (a := (i : Nat)) (b := (16 : Int)) rfl rfl) ?_
    refine wend ?_
    refine seqAny ?_
    refine condProp ((i : Nat) < (16 : Int)) rfl (fun c54 => ?_) (fun c54 => ?_)
    · skip
      refine skipAny ?_
      refine thenNormal ?_
      refine seqAny ?_
      refine blockAny ?_
      refine seqRegion ?_
      refine sq (r_move (v := i64 ((i : Nat))) rfl) ?_
      refine sq (r_assign (v := i64 ((i : Nat))) rfl) ?_
      refine wend ?_
      refine oneRegion ?_
      refine sq (r_move (v := i64 ((i : Nat))) rfl) ?_
      refine sq (r_move (v := i64 ((i : Nat))) rfl) ?_
      refine sq (r_quoI (a := (i : Nat)) (b := (8 : Int)) rfl rfl (by omega)) ?_
      refine sq (r_indexA (off' := i / 8) (j := i / 8) arr39 (b := b81) (off := 0) rfl rfl (by first | rfl | omega | (simp; omega)) (by omega) (by omega)) ?_
      refine sq (r_ld1 (E := E64) (l := [((dbl a b).1) ^^^ tw, (dbl a b).2]) (j := i / 8) (a := ([(dbl a b).1 ^^^ tw, (dbl a b).2].getD (i / 8) 0#64)) fits34 (H92.get (k := 1) rfl) (at_getD (by simp; omega)) rfl rfl) ?_
      refine sq (r_move (v := i64 ((i : Nat))) rfl) ?_
      refine sq (r_remI (a := (i : Nat)) (b := (8 : Int)) rfl rfl (by omega)) ?_
      refine sq (r_mulI (a := (8 : Int)) (b := (i : Nat) % (8 : Int)) rfl rfl (by omega)) ?_
      refine sq (r_shr64 (a := ([(dbl a b).1 ^^^ tw, (dbl a b).2].getD (i / 8) 0#64)) (c := 8 * (i % 8)) rfl rfl) ?_
      refine sq (r_64to8 und34 und5 (a := ([(dbl a b).1 ^^^ tw, (dbl a b).2].getD (i / 8) 0#64) >>> (8 * (i % 8) : Nat)) rfl) ?_
      refine sq (r_indexA (off' := i) (j := i) arr22 (b := b88) (off := 0) rfl rfl (by first | rfl | omega | (simp; omega)) (by omega) (by omega)) ?_
      refine d_store (k := 0) (v := u8 ((([(dbl a b).1 ^^^ tw, (dbl a b).2].getD (i / 8) 0#64) >>> (8 * (i % 8) : Nat)).setWidth 8)) (cs' := (cel E8 ((bytesS ((dbl a b).1 ^^^ tw) ((dbl a b).2) i).set i ((([(dbl a b).1 ^^^ tw, (dbl a b).2].getD (i / 8) 0#64) >>> (8 * (i % 8) : Nat)).setWidth 8))).toArray) H92 rfl rfl rfl siz5 (by rfl) (by exact E8.one _) (by rw [List.size_toArray, cel_length]; show _ ≤ _ * 1; first | omega | (simp only [List.length_set]; omega) | exact Nat.le_of_ble_eq_true rfl | (simp <;> omega)) (by exact put1 (E := E8) rfl _ _ _) ?_
      intro w93 H94 _
      have H94' := H94.as (L' := [(some b88, .cells (cel E8 ((bytesS ((dbl a b).1 ^^^ tw) ((dbl a b).2) i).set i ((([(dbl a b).1 ^^^ tw, (dbl a b).2].getD (i / 8) 0#64) >>> (8 * (i % 8) : Nat)).setWidth 8))).toArray 22 (0, 0)), (some b81, .cells (cel E64 ([((dbl a b).1) ^^^ tw, (dbl a b).2])).toArray 39 (0, 0))]) rfl
      clear H94
      refine wnil ?_
      refine blockNormal ?_
      refine thenNormal ?_
      refine oneRegion ?_
      refine sq (r_addI (a := (i : Nat)) (b := (1 : Int)) rfl rfl (by omega)) ?_
      refine sq (r_move (v := i64 ((i : Nat) + (1 : Int))) rfl) ?_
      refine wnil ?_
      refine thenNormal ?_
      exact ⟨i + 1, _, rfl, ⟨rfl, rfl, rfl, rfl, rfl, rfl, rfl, trivial⟩, ⟨by omega, H94'⟩, by show 16 - (i + 1) < 16 - i; omega⟩
    · skip
      obtain rfl : i = 16 := by omega
      have H95 := H92.as (L' := [(some b88, .cells (cel E8 (bytesS ((dbl a b).1 ^^^ tw) ((dbl a b).2) 16)).toArray 22 (0, 0)), (some b81, .cells (cel E64 ([((dbl a b).1) ^^^ tw, (dbl a b).2])).toArray 39 (0, 0))]) (rfl)
      refine exitAny ?_
      refine thenExit ?_
      refine thenExit ?_
      refine blockHere ?_
      refine thenNormal ?_
      refine seqRegion ?_
      refine sq (r_move (v := .pointer (some ⟨b17, 0, none⟩)) rfl) ?_
      refine sq (r_loadA (cs' := (cel E8 (bytesS ((dbl a b).1 ^^^ tw) ((dbl a b).2) 16)).toArray) agg22 siz22 (H95.get (k := 0) rfl) (off := 0) rfl (by rw [List.size_toArray, cel_length, bytesS_len]; decide) (by exact ext_all (by rw [cel_length, bytesS_len]; rfl))) ?_
      refine c_call (vs := [.pointer (some ⟨b17, 0, none⟩), .agg (cel E8 (bytesS ((dbl a b).1 ^^^ tw) ((dbl a b).2) 16)).toArray]) call10 rfl (enc_ok b17 (cipher fixKey) (cipher_len _ (fixS_len 16)) (bytesS ((dbl a b).1 ^^^ tw) ((dbl a b).2) 16) (bytesS_len _ _ _) w91 (H95.keepE f30)) ?_
      rintro _ w96 ⟨rfl, hE97⟩
      have H98 := H95.ext hE97
      refine d_store (k := 0) (v := .agg (cel E8 (encL (cipher fixKey) (bytesS ((dbl a b).1 ^^^ tw) ((dbl a b).2) 16))).toArray) (cs' := (cel E8 (encL (cipher fixKey) (bytesS ((dbl a b).1 ^^^ tw) ((dbl a b).2) 16))).toArray) H98 rfl rfl rfl siz22 (by exact celSize (by rw [encL_len, bytesS_len]; rfl)) (by exact celOne _) (by rw [List.size_toArray, cel_length]; show _ ≤ _ * 1; first | omega | (simp only [List.length_set]; omega) | exact Nat.le_of_ble_eq_true rfl | (simp <;> omega)) (by exact putAll (by rw [encL_len, bytesS_len])) ?_
      intro w99 H100 _
      have H100' := H100.as (L' := [(some b88, .cells (cel E8 (encL (cipher fixKey) (bytesS ((dbl a b).1 ^^^ tw) ((dbl a b).2) 16))).toArray 22 (0, 0)), (some b81, .cells (cel E64 ([((dbl a b).1) ^^^ tw, (dbl a b).2])).toArray 39 (0, 0))]) rfl
      clear H100
      refine wend ?_
      refine seqRegion ?_
      refine sq (r_move (v := .pointer (some ⟨b24, 0, none⟩)) rfl) ?_
      refine sq (r_loadA (cs' := (cel E64 ([a, b])).toArray) agg39 siz39 (H100'.keepE f33) (off := 0) rfl (by exact Nat.le_of_ble_eq_true rfl) (by exact ext_all rfl)) ?_
      refine sq (r_move (v := u64 (tw)) rfl) ?_
      refine c_call (vs := [.pointer (some ⟨b24, 0, none⟩), .agg (cel E64 ([a, b])).toArray, u64 (tw)]) call16 rfl (hash_ok b24 (cipher fixKey) (cipher_len _ (fixS_len 16)) a b tw w99 (H100'.keepE f29)) ?_
      rintro _ w101 ⟨rfl, hE102⟩
      have H103 := H100'.ext hE102
      refine q_alloc (o := .cells (cel E64 ([0#64, 0#64])).toArray 39 (0, 0)) H103 zer39 (by kernel_rfl) ?_
      intro b104 w105 hb104 H106 _
      refine d_store (k := 0) (v := .agg (cel E64 [(hashL (cipher fixKey) a b tw).1, (hashL (cipher fixKey) a b tw).2]).toArray) (cs' := (cel E64 ([(hashL (cipher fixKey) a b tw).1, (hashL (cipher fixKey) a b tw).2])).toArray) H106 rfl rfl rfl siz39 (by exact celSize (by first | rfl | (show _ * 1 = _; omega))) (by exact celOne _) (by rw [List.size_toArray, cel_length]; show _ ≤ _ * 1; first | omega | (simp only [List.length_set]; omega) | exact Nat.le_of_ble_eq_true rfl | (simp <;> omega)) (by exact putAll (by first | rfl | omega | (simp <;> omega))) ?_
      intro w107 H108 _
      have H108' := H108.as (L' := [(some b104, .cells (cel E64 ([(hashL (cipher fixKey) a b tw).1, (hashL (cipher fixKey) a b tw).2])).toArray 39 (0, 0)), (some b88, .cells (cel E8 (encL (cipher fixKey) (bytesS ((dbl a b).1 ^^^ tw) ((dbl a b).2) 16))).toArray 22 (0, 0)), (some b81, .cells (cel E64 ([((dbl a b).1) ^^^ tw, (dbl a b).2])).toArray 39 (0, 0))]) rfl
      clear H108
      refine wend ?_
      refine seqAny ?_
      refine seqRegion ?_
      refine sq (r_move (v := i64 ((0 : Int))) rfl) ?_
      refine wend ?_
      refine blockAny ?_
      refine loopAny (σ := Nat) (fun i => [(11, .pointer (some ⟨b81, 0, none⟩)), (12, .pointer (some ⟨b88, 0, none⟩)), (14, .pointer (some ⟨b104, 0, none⟩)), (75, i64 ((i : Nat)))]) (fun i w' => i ≤ 16 ∧ Hp No w22 w' [(some b104, .cells (cel E64 ([(hashL (cipher fixKey) a b tw).1, (hashL (cipher fixKey) a b tw).2])).toArray 39 (0, 0)), (some b88, .cells (cel E8 (encL (cipher fixKey) (bytesS ((dbl a b).1 ^^^ tw) ((dbl a b).2) 16))).toArray 22 (0, 0)), (some b81, .cells (cel E64 ([((dbl a b).1) ^^^ tw, (dbl a b).2])).toArray 39 (0, 0))]) (fun i => 16 - i) (0) ?_ ?_ ?_
      · exact ⟨rfl, rfl, rfl, rfl, trivial⟩
      · exact ⟨by omega, H108'⟩
      rintro i ρ w109 ⟨hi, H110⟩
      refine seqRegion ?_
      refine sq (r_lssI (a := (i : Nat)) (b := (16 : Int)) rfl rfl) ?_
      refine wend ?_
      refine seqAny ?_
      refine condProp ((i : Nat) < (16 : Int)) rfl (fun c76 => ?_) (fun c76 => ?_)
      · skip
        refine skipAny ?_
        refine thenNormal ?_
        refine seqAny ?_
        refine blockAny ?_
        refine seqRegion ?_
        refine sq (r_move (v := i64 ((i : Nat))) rfl) ?_
        refine sq (r_assign (v := i64 ((i : Nat))) rfl) ?_
        refine wend ?_
        refine seqAny ?_
        refine drawAny (K := [none, none, none, none, none, none, none, none, none, none, none, none, none, none, none, none, none, none]) [0, 1, 3, 7, 0, 16, 48, 112, 255, 0, 512, 1536, 4095, 8191, 0, 16384, 49152, 131071] (fun w' => Ext w109 w') (fun w' w'' => Ext w' w'') mixed (by kernel_rfl) (Ext.drew _) (fun _ _ h h' => h.trans h') ?_ ?_
        · exact relNone (by decide)
        refine ⟨i64 ((i : Nat)), fun _ uw111 hC112 _ => Gives.run rfl (r_move (v := i64 ((i : Nat))) rfl) ⟨rfl, Chg.refl _ _⟩, ?_⟩
        refine ⟨i64 ((i : Nat) / (8 : Int)), fun _ uw113 hC114 _ => Gives.run rfl (r_quoI (a := (i : Nat)) (b := (8 : Int)) rfl rfl (by omega)) ⟨rfl, Chg.refl _ _⟩, ?_⟩
        refine ⟨.pointer (some ⟨b104, i / 8, none⟩), fun _ uw115 hC116 _ => Gives.run rfl (r_indexA (off' := i / 8) (j := i / 8) arr39 (b := b104) (off := 0) rfl rfl (by first | rfl | omega | (simp; omega)) (by omega) (by omega)) ⟨rfl, Chg.refl _ _⟩, ?_⟩
        refine ⟨u64 (([(hashL (cipher fixKey) a b tw).1, (hashL (cipher fixKey) a b tw).2].getD (i / 8) 0#64)), fun _ uw117 hC118 _ => Gives.run rfl (r_ld1 (E := E64) (l := [(hashL (cipher fixKey) a b tw).1, (hashL (cipher fixKey) a b tw).2]) (j := i / 8) (a := ([(hashL (cipher fixKey) a b tw).1, (hashL (cipher fixKey) a b tw).2].getD (i / 8) 0#64)) fits34 ((H110.ext hC118).get (k := 0) rfl) (at_getD (by simp; omega)) rfl rfl) ⟨rfl, Chg.refl _ _⟩, ?_⟩
        refine ⟨i64 ((i : Nat)), fun _ uw119 hC120 _ => Gives.run rfl (r_move (v := i64 ((i : Nat))) rfl) ⟨rfl, Chg.refl _ _⟩, ?_⟩
        refine ⟨i64 ((i : Nat) / (8 : Int)), fun _ uw121 hC122 _ => Gives.run rfl (r_quoI (a := (i : Nat)) (b := (8 : Int)) rfl rfl (by omega)) ⟨rfl, Chg.refl _ _⟩, ?_⟩
        refine ⟨.pointer (some ⟨b81, i / 8, none⟩), fun _ uw123 hC124 _ => Gives.run rfl (r_indexA (off' := i / 8) (j := i / 8) arr39 (b := b81) (off := 0) rfl rfl (by first | rfl | omega | (simp; omega)) (by omega) (by omega)) ⟨rfl, Chg.refl _ _⟩, ?_⟩
        refine ⟨u64 (([(dbl a b).1 ^^^ tw, (dbl a b).2].getD (i / 8) 0#64)), fun _ uw125 hC126 _ => Gives.run rfl (r_ld1 (E := E64) (l := [((dbl a b).1) ^^^ tw, (dbl a b).2]) (j := i / 8) (a := ([(dbl a b).1 ^^^ tw, (dbl a b).2].getD (i / 8) 0#64)) fits34 ((H110.ext hC126).get (k := 2) rfl) (at_getD (by simp; omega)) rfl rfl) ⟨rfl, Chg.refl _ _⟩, ?_⟩
        refine ⟨u64 (([(hashL (cipher fixKey) a b tw).1, (hashL (cipher fixKey) a b tw).2].getD (i / 8) 0#64) ^^^ ([(dbl a b).1 ^^^ tw, (dbl a b).2].getD (i / 8) 0#64)), fun _ uw127 hC128 _ => Gives.run rfl (r_xor64 (a := ([(hashL (cipher fixKey) a b tw).1, (hashL (cipher fixKey) a b tw).2].getD (i / 8) 0#64)) (b := ([(dbl a b).1 ^^^ tw, (dbl a b).2].getD (i / 8) 0#64)) rfl rfl) ⟨rfl, Chg.refl _ _⟩, ?_⟩
        refine ⟨i64 ((i : Nat)), fun _ uw129 hC130 _ => Gives.run rfl (r_move (v := i64 ((i : Nat))) rfl) ⟨rfl, Chg.refl _ _⟩, ?_⟩
        refine ⟨i64 ((i : Nat) % (8 : Int)), fun _ uw131 hC132 _ => Gives.run rfl (r_remI (a := (i : Nat)) (b := (8 : Int)) rfl rfl (by omega)) ⟨rfl, Chg.refl _ _⟩, ?_⟩
        refine ⟨i64 ((8 : Int) * ((i : Nat) % (8 : Int))), fun _ uw133 hC134 _ => Gives.run rfl (r_mulI (a := (8 : Int)) (b := (i : Nat) % (8 : Int)) rfl rfl (by omega)) ⟨rfl, Chg.refl _ _⟩, ?_⟩
        refine ⟨u64 ((([(hashL (cipher fixKey) a b tw).1, (hashL (cipher fixKey) a b tw).2].getD (i / 8) 0#64) ^^^ ([(dbl a b).1 ^^^ tw, (dbl a b).2].getD (i / 8) 0#64)) >>> (8 * (i % 8) : Nat)), fun _ uw135 hC136 _ => Gives.run rfl (r_shr64 (a := ([(hashL (cipher fixKey) a b tw).1, (hashL (cipher fixKey) a b tw).2].getD (i / 8) 0#64) ^^^ ([(dbl a b).1 ^^^ tw, (dbl a b).2].getD (i / 8) 0#64)) (c := 8 * (i % 8)) rfl rfl) ⟨rfl, Chg.refl _ _⟩, ?_⟩
        refine ⟨u8 (((([(hashL (cipher fixKey) a b tw).1, (hashL (cipher fixKey) a b tw).2].getD (i / 8) 0#64) ^^^ ([(dbl a b).1 ^^^ tw, (dbl a b).2].getD (i / 8) 0#64)) >>> (8 * (i % 8) : Nat)).setWidth 8), fun _ uw137 hC138 _ => Gives.run rfl (r_64to8 und34 und5 (a := (([(hashL (cipher fixKey) a b tw).1, (hashL (cipher fixKey) a b tw).2].getD (i / 8) 0#64) ^^^ ([(dbl a b).1 ^^^ tw, (dbl a b).2].getD (i / 8) 0#64)) >>> (8 * (i % 8) : Nat)) rfl) ⟨rfl, Chg.refl _ _⟩, ?_⟩
        refine ⟨i64 ((i : Nat)), fun _ uw139 hC140 _ => Gives.run rfl (r_move (v := i64 ((i : Nat))) rfl) ⟨rfl, Chg.refl _ _⟩, ?_⟩
        refine ⟨.pointer (some ⟨b88, i, none⟩), fun _ uw141 hC142 _ => Gives.run rfl (r_indexA (off' := i) (j := i) arr22 (b := b88) (off := 0) rfl rfl (by first | rfl | omega | (simp; omega)) (by omega) (by omega)) ⟨rfl, Chg.refl _ _⟩, ?_⟩
        refine ⟨u8 ((encL (cipher fixKey) (bytesS ((dbl a b).1 ^^^ tw) ((dbl a b).2) 16)).getD i 0#8), fun _ uw143 hC144 _ => Gives.run rfl (r_ld1 (E := E8) (l := encL (cipher fixKey) (bytesS ((dbl a b).1 ^^^ tw) ((dbl a b).2) 16)) (j := i) (a := (encL (cipher fixKey) (bytesS ((dbl a b).1 ^^^ tw) ((dbl a b).2) 16)).getD i 0#8) fits5 ((H110.ext hC144).get (k := 1) rfl) (at_getD (by rw [encL_len, bytesS_len]; omega)) rfl rfl) ⟨rfl, Chg.refl _ _⟩, ?_⟩
        refine ⟨.bool (false), fun _ uw145 hC146 _ => Gives.run rfl ((r_neq8 (a := ((([(hashL (cipher fixKey) a b tw).1, (hashL (cipher fixKey) a b tw).2].getD (i / 8) 0#64) ^^^ ([(dbl a b).1 ^^^ tw, (dbl a b).2].getD (i / 8) 0#64)) >>> (8 * (i % 8) : Nat)).setWidth 8) (b := (encL (cipher fixKey) (bytesS ((dbl a b).1 ^^^ tw) ((dbl a b).2) 16)).getD i 0#8) rfl rfl).as (v' := .bool (false)) (by rw [fixed_byte _ _ _ _ i (by omega)]; simp)) ⟨rfl, Chg.refl _ _⟩, ?_⟩
        intro r150 w147 hE149 hF
        have H148 := H110.ext hE149
        refine wnil ?_
        refine thenNormal ?_
        refine condFalse rfl ?_
        refine skipAny ?_
        refine blockNormal ?_
        refine thenNormal ?_
        refine oneRegion ?_
        refine sq (r_addI (a := (i : Nat)) (b := (1 : Int)) rfl rfl (by omega)) ?_
        refine sq (r_move (v := i64 ((i : Nat) + (1 : Int))) rfl) ?_
        refine wnil ?_
        refine thenNormal ?_
        exact ⟨i + 1, _, rfl, ⟨rfl, rfl, rfl, rfl, trivial⟩, ⟨by omega, H148⟩, by show 16 - (i + 1) < 16 - i; omega⟩
      · skip
        refine exitAny ?_
        refine thenExit ?_
        refine thenExit ?_
        refine blockHere ?_
        refine thenNormal ?_
        refine seqRegion ?_
        refine sq (r_assign (v := .bool (true)) rfl) ?_
        refine wend ?_
        refine retAny ?_
        refine retG (rs := [.tmp 6]) (vs := [.bool (true)]) rfl ⟨⟨rfl, rfl⟩, trivial⟩ ?_
        exact ⟨_, rfl, rfl, X34.trans H110.chg⟩
end Go.Proofs.Ytcnkllkieelahaa.Aes
