/- The walks of the laws that hold the cipher to the document's. -/
import Derived.Test.YtcnkllkieelahaaAesRef
import Derived.Test.YtcnkllkieelahaaAesLaw
import Derived.Test.YtcnkllkieelahaaVcStr
import Derived.Test.YtcnkllkieelahaaAesRefWords
import Derived.Test.YtcnkllkieelahaaProg
namespace Go.Proofs.Ytcnkllkieelahaa.Aes
open Go Go.Proofs.Ytcnkllkieelahaa.Vc Go.Proofs.Ytcnkllkieelahaa.AesSpec
theorem call13 : callable Try.prog 13 = true := by kernel_rfl
theorem call14 : callable Try.prog 14 = true := by kernel_rfl
theorem call17 : callable Try.prog 17 = true := by kernel_rfl
theorem call18 : callable Try.prog 18 = true := by kernel_rfl
theorem gty39 : Try.prog.eqGuardType Try.prog.depth 39 = false := by kernel_rfl
theorem und27 : Try.prog.underlying 27 = some (.slice 5) := by kernel_rfl
theorem und9 : Try.prog.underlying 9 = some .string := by kernel_rfl
theorem blocks_ok (key block : List By) (hk : key.length = 16) (hb : block.length = 16) (w : World) : Calls Try.prog 3 [.agg (cel E8 key).toArray, .agg (cel E8 block).toArray].toArray w (Ret fun v w' => v = .bool true ∧ Ext w w') := by
  obtain ⟨bx, hbx⟩ : ∃ bx, bx = boxR 256 := ⟨_, rfl⟩
  have H := Hp.start No w
  refine enter (n := 26) Try.func3 rfl rfl (Nat.le_of_ble_eq_true rfl) ?_
  refine seqRegion ?_
  refine q_box (v := .agg (cel E8 key).toArray) (o := .cells (cel E8 key).toArray 22 (0, 0)) H rfl (by rfl) ?_
  intro b1 w2 hb1 H3 _
  refine q_box (v := .agg (cel E8 block).toArray) (o := .cells (cel E8 block).toArray 22 (0, 0)) H3 rfl (by rfl) ?_
  intro b4 w5 hb4 H6 _
  refine sq (r_assign (v := .bool (false)) rfl) ?_
  refine wend ?_
  refine seqRegion ?_
  refine sq (r_loadA (cs' := (cel E8 key).toArray) agg22 siz22 (H6.get (k := 1) rfl) (off := 0) rfl (by rw [List.size_toArray, cel_length]; show _ ≤ _ * 1; omega) (by exact ext_all (by rw [cel_length]; show _ * 1 = _; omega))) ?_
  refine c_call (vs := [.agg (cel E8 key).toArray]) call8 rfl (new_ok key (hk) w5) ?_
  rintro _ w7 ⟨⟨b9, rfl, hb10, ho11⟩, hE12⟩
  have H13 := H6.add1 hE12 hb10 ho11
  refine sq (r_assign (v := .pointer (some ⟨b9, 0, none⟩)) rfl) ?_
  refine wend ?_
  refine seqAny ?_
  refine seqRegion ?_
  refine c_call (vs := []) call9 rfl (awake_ok w7) ?_
  rintro _ w14 ⟨rfl, hE15⟩
  have H16 := H13.ext hE15
  refine sq (r_notT rfl) ?_
  refine sq (r_move (v := .bool (false)) rfl) ?_
  refine sqAny (v := .pointer (some ⟨b9, 0, none⟩)) (w' := w14) (wantedSome (d' := 11) (b := false) rfl rfl rfl) (r_move (v := .pointer (some ⟨b9, 0, none⟩)) rfl) ?_
  refine sqAny (v := .bool (false)) (w' := w14) (wantedSome (d' := 11) (b := false) rfl rfl rfl) (r_eqlPN und23 rfl rfl) ?_
  refine sq (r_pickF (v := .bool (false)) rfl rfl) ?_
  refine wend ?_
  refine condFalse rfl ?_
  refine skipAny ?_
  refine thenNormal ?_
  refine seqRegion ?_
  refine sq (r_move (v := .pointer (some ⟨b9, 0, none⟩)) rfl) ?_
  refine sq (r_loadA (cs' := (cel E8 block).toArray) agg22 siz22 (H16.get (k := 1) rfl) (off := 0) rfl (by rw [List.size_toArray, cel_length]; show _ ≤ _ * 1; omega) (by exact ext_all (by rw [cel_length]; show _ * 1 = _; omega))) ?_
  refine c_call (vs := [.pointer (some ⟨b9, 0, none⟩), .agg (cel E8 block).toArray]) call10 rfl (enc_ok b9 (cipher key) (cipher_len _ hk) block (hb) w14 (H16.get (k := 0) rfl)) ?_
  rintro _ w17 ⟨rfl, hE18⟩
  have H19 := H16.ext hE18
  refine q_alloc (o := .cells (cel E8 (List.replicate 16 0#8)).toArray 22 (0, 0)) H19 zer22 (by kernel_rfl) ?_
  intro b20 w21 hb20 H22 _
  refine d_store (k := 0) (v := .agg (cel E8 (encL (cipher key) block)).toArray) (cs' := (cel E8 (encL (cipher key) block)).toArray) H22 rfl rfl rfl siz22 (by exact celSize (by rw [encL_len, hb]; rfl)) (by exact celOne _) (by rw [List.size_toArray, cel_length]; show _ ≤ _ * 1; first | omega | (simp only [List.length_set]; omega) | exact Nat.le_of_ble_eq_true rfl | (simp <;> omega)) (by exact putAll (by simp [encL_len, hb])) ?_
  intro w23 H24 _
  have H24' := H24.as (L' := [(some b20, .cells (cel E8 (encL (cipher key) block)).toArray 22 (0, 0)), (some b9, .cells (cel E8 (cipher key)).toArray 50 (0, 0)), (some b4, .cells (cel E8 block).toArray 22 (0, 0)), (some b1, .cells (cel E8 key).toArray 22 (0, 0))]) rfl
  clear H24
  refine wend ?_
  refine seqAny ?_
  refine drawAny (K := [none, none, none, some (fun _ v w' => CiphR (expR key bx 40).1 bx w23 v w'), none, some (slRel E8 5 (encR ((expR key bx 40).1) bx block 10) w23), none, none, none]) [0, 1, 0, 4, 0, 28, 60, 127, 255] (fun w' => Ext w23 w') (fun w' w'' => Ext w' w'') mixed (by kernel_rfl) (Ext.drew _) (fun _ _ h h' => h.trans h') ?_ ?_
  · exact relAll ⟨⟨fun _ _ _ _ _ hR h => CiphR.ext h hR, fun _ _ _ _ _ h => h⟩, ⟨fun _ _ _ _ _ hR h => SlRes.ext h hR, fun _ _ _ _ _ h => h⟩, trivial⟩
  refine ⟨.slice (some ⟨b20, 0, none⟩) 16 16, fun _ uw25 hC26 _ => Gives.run rfl (r_sliceA0 arr22 (b := b20) (off := 0) rfl (Nat.le_of_ble_eq_true rfl)) ⟨rfl, Chg.refl _ _⟩, ?_⟩
  refine ⟨.string (strB (encL (cipher key) block)), fun _ uw27 hC28 _ => Gives.run rfl (r_toStr (l := encL (cipher key) block) und27 und5 und9 (Rd.row ((H24'.ext hC28).get (k := 0) rfl)) rfl (by rw [encL_len, hb])) ⟨rfl, Chg.refl _ _⟩, ?_⟩
  refine ⟨.slice (some ⟨b1, 0, none⟩) 16 16, fun _ uw29 hC30 _ => Gives.run rfl (r_sliceA0 arr22 (b := b1) (off := 0) rfl (Nat.le_of_ble_eq_true rfl)) ⟨rfl, Chg.refl _ _⟩, ?_⟩
  refine ⟨fun r uw31 hC32 hF => Gives.call rfl (Enters.callL (vs := [.slice (some ⟨b1, 0, none⟩) 16 16]) call12 rfl) ((rnew_ok bx key hbx (by exact hk) (some ⟨b1, 0, none⟩) 16 (by omega) uw31 (Rd.row ((H24'.ext hC32).get (k := 3) rfl))).mono fun _ _ ⟨v, h1, h2, h3⟩ => ⟨v, h1, CiphR.old h2 hC32, h3⟩), ?_⟩
  refine ⟨.slice (some ⟨b4, 0, none⟩) 16 16, fun _ uw33 hC34 _ => Gives.run rfl (r_sliceA0 arr22 (b := b4) (off := 0) rfl (Nat.le_of_ble_eq_true rfl)) ⟨rfl, Chg.refl _ _⟩, ?_⟩
  refine ⟨fun r uw35 hC36 hF => ?_, ?_⟩
  · obtain ⟨xk39, ck40, xb41, cb42, e43, hc44, hK45, hB46⟩ := CiphR.rd (hF 3 _ rfl rfl) (expR_len key bx (by exact hk) 40)
    exact Gives.call rfl (Enters.callL (vs := [.agg #[.slice xk39 176 ck40, .slice xb41 256 cb42], .slice (some ⟨b4, 0, none⟩) 16 16]) call11 (by simp only [List.map]; exact (congr (congrArg List.cons e43) (congr (congrArg List.cons rfl) rfl)))) ((renc_ok ((expR key bx 40).1) bx block (by exact expR_len key bx (by exact hk) 40) (by rw [hbx]; exact boxR_len _) (by exact hb) xk39 xb41 (some ⟨b4, 0, none⟩) ck40 cb42 16 (by exact hc44) uw35 hK45 hB46 (Rd.row ((H24'.ext hC36).get (k := 2) rfl))).mono fun _ _ ⟨v, h1, h2, h3⟩ => ⟨v, h1, h2.old (hC36.size), h3⟩)
  refine ⟨.string (strB (encR ((expR key bx 40).1) bx block 10)), fun _ uw47 hC48 hF => ?_, ?_⟩
  · obtain ⟨x51, c52, e49, h50⟩ := SlRes.rd (hF 5 _ rfl rfl)
    rw [show (encR ((expR key bx 40).1) bx block 10).length = 16 from encR_len _ _ _ _] at e49
    exact Gives.run rfl (r_toStr (l := encR ((expR key bx 40).1) bx block 10) und27 und5 und9 h50 e49 (by exact (encR_len _ _ _ _).symm)) ⟨rfl, Chg.refl _ _⟩
  refine ⟨.bool (true), fun _ uw53 hC54 _ => Gives.run rfl ((r_eqlStr (s := strB (encL (cipher key) block)) (s' := strB (encR ((expR key bx 40).1) bx block 10)) rfl rfl).as (v' := .bool (true)) (by rw [hbx, enc_eq key block hk hb]; simp)) ⟨rfl, Chg.refl _ _⟩, ?_⟩
  refine ⟨.bool (true), fun _ uw55 hC56 _ => Gives.run rfl (r_assign (v := .bool (true)) rfl) ⟨rfl, Chg.refl _ _⟩, ?_⟩
  intro r60 w57 hE59 hF
  have H58 := H24'.ext hE59
  refine wnil ?_
  refine thenNormal ?_
  refine retAny ?_
  refine retG (rs := [.tmp 4]) (vs := [.bool (true)]) rfl ⟨⟨rfl, rfl⟩, trivial⟩ ?_
  exact ⟨_, rfl, rfl, H58.chg⟩

theorem words_ok (key : List By) (hk : key.length = 16) (n : BitVec 64) (w : World) : Calls Try.prog 5 [.agg (cel E8 key).toArray, u64 (n)].toArray w (Ret fun v w' => v = .bool true ∧ Ext w w') := by
  obtain ⟨bx, hbx⟩ : ∃ bx, bx = boxR 256 := ⟨_, rfl⟩
  have H := Hp.start No w
  refine enter (n := 35) Try.func5 rfl rfl (Nat.le_of_ble_eq_true rfl) ?_
  refine seqRegion ?_
  refine q_box (v := .agg (cel E8 key).toArray) (o := .cells (cel E8 key).toArray 22 (0, 0)) H rfl (by rfl) ?_
  intro b1 w2 hb1 H3 _
  refine sq (r_assign (v := .bool (false)) rfl) ?_
  refine wend ?_
  refine seqRegion ?_
  refine sq (r_loadA (cs' := (cel E8 key).toArray) agg22 siz22 (H3.get (k := 0) rfl) (off := 0) rfl (by rw [List.size_toArray, cel_length]; show _ ≤ _ * 1; omega) (by exact ext_all (by rw [cel_length]; show _ * 1 = _; omega))) ?_
  refine c_call (vs := [.agg (cel E8 key).toArray]) call8 rfl (new_ok key (hk) w2) ?_
  rintro _ w4 ⟨⟨b6, rfl, hb7, ho8⟩, hE9⟩
  have H10 := H3.add1 hE9 hb7 ho8
  refine sq (r_assign (v := .pointer (some ⟨b6, 0, none⟩)) rfl) ?_
  refine wend ?_
  refine seqAny ?_
  refine seqRegion ?_
  refine c_call (vs := []) call9 rfl (awake_ok w4) ?_
  rintro _ w11 ⟨rfl, hE12⟩
  have H13 := H10.ext hE12
  refine sq (r_notT rfl) ?_
  refine sq (r_move (v := .bool (false)) rfl) ?_
  refine sqAny (v := .pointer (some ⟨b6, 0, none⟩)) (w' := w11) (wantedSome (d' := 11) (b := false) rfl rfl rfl) (r_move (v := .pointer (some ⟨b6, 0, none⟩)) rfl) ?_
  refine sqAny (v := .bool (false)) (w' := w11) (wantedSome (d' := 11) (b := false) rfl rfl rfl) (r_eqlPN und23 rfl rfl) ?_
  refine sq (r_pickF (v := .bool (false)) rfl rfl) ?_
  refine wend ?_
  refine condFalse rfl ?_
  refine skipAny ?_
  refine thenNormal ?_
  refine seqRegion ?_
  refine sq (r_sliceA0 arr22 (b := b1) (off := 0) rfl (Nat.le_of_ble_eq_true rfl)) ?_
  refine c_call (vs := [.slice (some ⟨b1, 0, none⟩) 16 16]) call12 rfl (rnew_ok bx key hbx (by exact hk) (some ⟨b1, 0, none⟩) 16 (by omega) w11 (Rd.row (H13.get (k := 1) rfl))) ?_
  rintro _ w14 ⟨⟨kk16, kc17, spk18, kb19, cb20, spb21, rfl, hSk22, hSb23, HN25⟩, hE24⟩
  have H26 := (H13.join HN25).as (L' := [(kb19, sob E8 5 bx spb21), (kk16, sob E8 5 ((expR key bx 40).1) spk18), (some b6, .cells (cel E8 (cipher key)).toArray 50 (0, 0)), (some b1, .cells (cel E8 key).toArray 22 (0, 0))]) rfl
  have hlk := expR_len key bx (by exact hk) 40
  have hcp := hSk22.cap
  have hlb : bx.length = 256 := by rw [hbx]; exact boxR_len _
  refine q_alloc (o := .cells #[.slice none 0 0, .slice none 0 0] 30 (0, 0)) H26 zer30 (by kernel_rfl) ?_
  intro b27 w28 hb27 H29 _
  refine d_store (k := 0) (v := .agg #[.slice (ownA kk16) 176 kc17, .slice (ownA kb19) 256 cb20]) (cs' := #[.slice (ownA kk16) 176 kc17, .slice (ownA kb19) 256 cb20]) H29 rfl rfl rfl siz30 (by rfl) (by intro u hu; simp [Value.cells] at hu; first | (subst hu; rfl) | (rcases hu with rfl | rfl <;> rfl)) (by exact Nat.le_of_ble_eq_true rfl) (by rfl) ?_
  intro w30 H31 _
  have H31' := H31.as (L' := [(some b27, .cells #[.slice (ownA kk16) 176 kc17, .slice (ownA kb19) 256 cb20] 30 (0, 0)), (kb19, sob E8 5 bx spb21), (kk16, sob E8 5 ((expR key bx 40).1) spk18), (some b6, .cells (cel E8 (cipher key)).toArray 50 (0, 0)), (some b1, .cells (cel E8 key).toArray 22 (0, 0))]) rfl
  clear H31
  refine wend ?_
  refine seqAny ?_
  refine drawAny (K := [none, none, none, none, none, none, none, none, none, none, none, none, none, none, none, none, none, none, none]) [0, 0, 3, 0, 0, 31, 63, 127, 255, 255, 767, 2047, 255, 255, 8447, 32767, 65535, 131071, 262143] (fun w' => Ext w30 w') (fun w' w'' => Ext w' w'') mixed (by kernel_rfl) (Ext.drew _) (fun _ _ h h' => h.trans h') ?_ ?_
  · exact relNone (by decide)
  refine ⟨.pointer (some ⟨b6, 0, none⟩), fun _ uw32 hC33 _ => Gives.run rfl (r_move (v := .pointer (some ⟨b6, 0, none⟩)) rfl) ⟨rfl, Chg.refl _ _⟩, ?_⟩
  refine ⟨u64 (n), fun _ uw34 hC35 _ => Gives.run rfl (r_move (v := u64 (n)) rfl) ⟨rfl, Chg.refl _ _⟩, ?_⟩
  refine ⟨u64 (wordL (cipher key) n), fun _ uw36 hC37 _ => Gives.call rfl (Enters.callL (vs := [.pointer (some ⟨b6, 0, none⟩), u64 (n)]) call13 rfl) (word_ok b6 (cipher key) (cipher_len _ hk) n uw36 ((H31'.ext hC37).get (k := 3) rfl)), ?_⟩
  refine ⟨.agg #[.slice (ownA kk16) 176 kc17, .slice (ownA kb19) 256 cb20], fun _ uw38 hC39 _ => Gives.run rfl (r_loadA (cs' := #[.slice (ownA kk16) 176 kc17, .slice (ownA kb19) 256 cb20]) agg30 siz30 ((H31'.ext hC39).get (k := 0) rfl) (off := 0) rfl (by exact Nat.le_of_ble_eq_true rfl) (by rfl)) ⟨rfl, Chg.refl _ _⟩, ?_⟩
  refine ⟨u64 (n), fun _ uw40 hC41 _ => Gives.run rfl (r_move (v := u64 (n)) rfl) ⟨rfl, Chg.refl _ _⟩, ?_⟩
  refine ⟨u64 (wordR ((expR key bx 40).1) bx n), fun _ uw42 hC43 _ => Gives.call rfl (Enters.callL (vs := [.agg #[.slice (ownA kk16) 176 kc17, .slice (ownA kb19) 256 cb20], u64 (n)]) call14 rfl) (rword_ok ((expR key bx 40).1) bx (by omega) (by omega) n (ownA kk16) (ownA kb19) kc17 cb20 (by omega) uw42 ((H31'.ext hC43).rd (k := 2) rfl hSk22) ((H31'.ext hC43).rd (k := 1) rfl hSb23)), ?_⟩
  refine ⟨.bool (true), fun _ uw44 hC45 _ => Gives.run rfl ((r_eql64 (a := wordL (cipher key) n) (b := wordR ((expR key bx 40).1) bx n) rfl rfl).as (v' := .bool (true)) (by rw [hbx, word_eq key hk]; simp)) ⟨rfl, Chg.refl _ _⟩, ?_⟩
  refine ⟨.bool (true), fun _ uw46 hC47 _ => Gives.run rfl (r_move (v := .bool (true)) rfl) ⟨rfl, Chg.refl _ _⟩, ?_⟩
  refine ⟨.pointer (some ⟨b6, 0, none⟩), fun _ uw48 hC49 _ => Gives.runW (wantedSome (d' := 24) (b := true) rfl rfl rfl) (r_move (v := .pointer (some ⟨b6, 0, none⟩)) rfl) ⟨rfl, Chg.refl _ _⟩, ?_⟩
  refine ⟨u64 (n), fun _ uw50 hC51 _ => Gives.runW (wantedSome (d' := 24) (b := true) rfl rfl rfl) (r_move (v := u64 (n)) rfl) ⟨rfl, Chg.refl _ _⟩, ?_⟩
  refine ⟨u64 (n ^^^ (1#64)), fun _ uw52 hC53 _ => Gives.runW (wantedSome (d' := 24) (b := true) rfl rfl rfl) (r_xor64 (a := n) (b := 1#64) rfl rfl) ⟨rfl, Chg.refl _ _⟩, ?_⟩
  refine ⟨u64 (wordL (cipher key) (n ^^^ (1#64))), fun _ uw54 hC55 _ => Gives.callW (wantedSome (d' := 24) (b := true) rfl rfl rfl) (Enters.callL (vs := [.pointer (some ⟨b6, 0, none⟩), u64 (n ^^^ (1#64))]) call13 rfl) (word_ok b6 (cipher key) (cipher_len _ hk) (n ^^^ (1#64)) uw54 ((H31'.ext hC55).get (k := 3) rfl)), ?_⟩
  refine ⟨.agg #[.slice (ownA kk16) 176 kc17, .slice (ownA kb19) 256 cb20], fun _ uw56 hC57 _ => Gives.runW (wantedSome (d' := 24) (b := true) rfl rfl rfl) (r_loadA (cs' := #[.slice (ownA kk16) 176 kc17, .slice (ownA kb19) 256 cb20]) agg30 siz30 ((H31'.ext hC57).get (k := 0) rfl) (off := 0) rfl (by exact Nat.le_of_ble_eq_true rfl) (by rfl)) ⟨rfl, Chg.refl _ _⟩, ?_⟩
  refine ⟨u64 (n), fun _ uw58 hC59 _ => Gives.runW (wantedSome (d' := 24) (b := true) rfl rfl rfl) (r_move (v := u64 (n)) rfl) ⟨rfl, Chg.refl _ _⟩, ?_⟩
  refine ⟨u64 (n ^^^ (1#64)), fun _ uw60 hC61 _ => Gives.runW (wantedSome (d' := 24) (b := true) rfl rfl rfl) (r_xor64 (a := n) (b := 1#64) rfl rfl) ⟨rfl, Chg.refl _ _⟩, ?_⟩
  refine ⟨u64 (wordR ((expR key bx 40).1) bx (n ^^^ (1#64))), fun _ uw62 hC63 _ => Gives.callW (wantedSome (d' := 24) (b := true) rfl rfl rfl) (Enters.callL (vs := [.agg #[.slice (ownA kk16) 176 kc17, .slice (ownA kb19) 256 cb20], u64 (n ^^^ (1#64))]) call14 rfl) (rword_ok ((expR key bx 40).1) bx (by omega) (by omega) (n ^^^ (1#64)) (ownA kk16) (ownA kb19) kc17 cb20 (by omega) uw62 ((H31'.ext hC63).rd (k := 2) rfl hSk22) ((H31'.ext hC63).rd (k := 1) rfl hSb23)), ?_⟩
  refine ⟨.bool (true), fun _ uw64 hC65 _ => Gives.runW (wantedSome (d' := 24) (b := true) rfl rfl rfl) ((r_eql64 (a := wordL (cipher key) (n ^^^ (1#64))) (b := wordR ((expR key bx 40).1) bx (n ^^^ (1#64))) rfl rfl).as (v' := .bool (true)) (by rw [hbx, word_eq key hk]; simp)) ⟨rfl, Chg.refl _ _⟩, ?_⟩
  refine ⟨.bool (true), fun _ uw66 hC67 _ => Gives.run rfl (r_pickT (u := .bool (true)) rfl rfl) ⟨rfl, Chg.refl _ _⟩, ?_⟩
  refine ⟨.bool (true), fun _ uw68 hC69 _ => Gives.run rfl (r_assign (v := .bool (true)) rfl) ⟨rfl, Chg.refl _ _⟩, ?_⟩
  intro r73 w70 hE72 hF
  have H71 := H31'.ext hE72
  refine wnil ?_
  refine thenNormal ?_
  refine retAny ?_
  refine retG (rs := [.tmp 4]) (vs := [.bool (true)]) rfl ⟨⟨rfl, rfl⟩, trivial⟩ ?_
  exact ⟨_, rfl, rfl, H71.chg⟩

theorem hashes_ok (key : List By) (hk : key.length = 16) (a b tw : BitVec 64) (w : World) : Calls Try.prog 6 [.agg (cel E8 key).toArray, .agg (cel E64 [a, b]).toArray, u64 (tw)].toArray w (Ret fun v w' => v = .bool true ∧ Ext w w') := by
  obtain ⟨bx, hbx⟩ : ∃ bx, bx = boxR 256 := ⟨_, rfl⟩
  have H := Hp.start No w
  refine enter (n := 43) Try.func6 rfl rfl (Nat.le_of_ble_eq_true rfl) ?_
  refine seqRegion ?_
  refine q_box (v := .agg (cel E8 key).toArray) (o := .cells (cel E8 key).toArray 22 (0, 0)) H rfl (by rfl) ?_
  intro b1 w2 hb1 H3 _
  refine q_box (v := .agg (cel E64 [a, b]).toArray) (o := .cells (cel E64 ([a, b])).toArray 39 (0, 0)) H3 rfl (by rfl) ?_
  intro b4 w5 hb4 H6 _
  refine sq (r_assign (v := .bool (false)) rfl) ?_
  refine wend ?_
  refine seqRegion ?_
  refine sq (r_loadA (cs' := (cel E8 key).toArray) agg22 siz22 (H6.get (k := 1) rfl) (off := 0) rfl (by rw [List.size_toArray, cel_length]; show _ ≤ _ * 1; omega) (by exact ext_all (by rw [cel_length]; show _ * 1 = _; omega))) ?_
  refine c_call (vs := [.agg (cel E8 key).toArray]) call8 rfl (new_ok key (hk) w5) ?_
  rintro _ w7 ⟨⟨b9, rfl, hb10, ho11⟩, hE12⟩
  have H13 := H6.add1 hE12 hb10 ho11
  refine c_call (vs := []) call15 rfl (fixed_ok w7) ?_
  rintro _ w14 ⟨⟨b16, rfl, hb17, ho18⟩, hE19⟩
  have H20 := H13.add1 hE19 hb17 ho18
  refine sq (r_assign (v := .pointer (some ⟨b9, 0, none⟩)) rfl) ?_
  refine sq (r_assign (v := .pointer (some ⟨b16, 0, none⟩)) rfl) ?_
  refine wend ?_
  refine seqAny ?_
  refine seqRegion ?_
  refine c_call (vs := []) call9 rfl (awake_ok w14) ?_
  rintro _ w21 ⟨rfl, hE22⟩
  have H23 := H20.ext hE22
  refine sq (r_notT rfl) ?_
  refine sq (r_move (v := .bool (false)) rfl) ?_
  refine sqAny (v := .pointer (some ⟨b9, 0, none⟩)) (w' := w21) (wantedSome (d' := 14) (b := false) rfl rfl rfl) (r_move (v := .pointer (some ⟨b9, 0, none⟩)) rfl) ?_
  refine sqAny (v := .bool (false)) (w' := w21) (wantedSome (d' := 14) (b := false) rfl rfl rfl) (r_eqlPN und23 rfl rfl) ?_
  refine sq (r_pickF (v := .bool (false)) rfl rfl) ?_
  refine sq (r_move (v := .bool (false)) rfl) ?_
  refine sqAny (v := .pointer (some ⟨b16, 0, none⟩)) (w' := w21) (wantedSome (d' := 18) (b := false) rfl rfl rfl) (r_move (v := .pointer (some ⟨b16, 0, none⟩)) rfl) ?_
  refine sqAny (v := .bool (false)) (w' := w21) (wantedSome (d' := 18) (b := false) rfl rfl rfl) (r_eqlPN und23 rfl rfl) ?_
  refine sq (r_pickF (v := .bool (false)) rfl rfl) ?_
  refine wend ?_
  refine condFalse rfl ?_
  refine skipAny ?_
  refine thenNormal ?_
  refine seqAny ?_
  refine drawAny (K := [none, none, none, none, none, some (fun _ v w' => CiphR (expR key bx 40).1 bx w21 v w'), none, none, none, none, none, none, none, none, none, some (fun _ v w' => CiphR (expR fixK bx 40).1 bx w21 v w'), none, none, none, none, none, none]) [0, 0, 0, 7, 0, 31, 0, 0, 255, 511, 1023, 2047, 2047, 2047, 16383, 32767, 2047, 2047, 262143, 524287, 1048575, 2097151] (fun w' => Ext w21 w') (fun w' w'' => Ext w' w'') mixed (by kernel_rfl) (Ext.drew _) (fun _ _ h h' => h.trans h') ?_ ?_
  · exact relAll ⟨⟨fun _ _ _ _ _ hR h => CiphR.ext h hR, fun _ _ _ _ _ h => h⟩, ⟨fun _ _ _ _ _ hR h => CiphR.ext h hR, fun _ _ _ _ _ h => h⟩, trivial⟩
  refine ⟨.pointer (some ⟨b9, 0, none⟩), fun _ uw24 hC25 _ => Gives.run rfl (r_move (v := .pointer (some ⟨b9, 0, none⟩)) rfl) ⟨rfl, Chg.refl _ _⟩, ?_⟩
  refine ⟨.agg (cel E64 ([a, b])).toArray, fun _ uw26 hC27 _ => Gives.run rfl (r_loadA (cs' := (cel E64 ([a, b])).toArray) agg39 siz39 ((H23.ext hC27).get (k := 2) rfl) (off := 0) rfl (by exact Nat.le_of_ble_eq_true rfl) (by exact ext_all rfl)) ⟨rfl, Chg.refl _ _⟩, ?_⟩
  refine ⟨u64 (tw), fun _ uw28 hC29 _ => Gives.run rfl (r_move (v := u64 (tw)) rfl) ⟨rfl, Chg.refl _ _⟩, ?_⟩
  refine ⟨.agg (cel E64 [(hashL (cipher key) a b tw).1, (hashL (cipher key) a b tw).2]).toArray, fun _ uw30 hC31 _ => Gives.call rfl (Enters.callL (vs := [.pointer (some ⟨b9, 0, none⟩), .agg (cel E64 ([a, b])).toArray, u64 (tw)]) call16 rfl) (hash_ok b9 (cipher key) (cipher_len _ hk) a b tw uw30 ((H23.ext hC31).get (k := 1) rfl)), ?_⟩
  refine ⟨.slice (some ⟨b1, 0, none⟩) 16 16, fun _ uw32 hC33 _ => Gives.run rfl (r_sliceA0 arr22 (b := b1) (off := 0) rfl (Nat.le_of_ble_eq_true rfl)) ⟨rfl, Chg.refl _ _⟩, ?_⟩
  refine ⟨fun r uw34 hC35 hF => Gives.call rfl (Enters.callL (vs := [.slice (some ⟨b1, 0, none⟩) 16 16]) call12 rfl) ((rnew_ok bx key hbx (by exact hk) (some ⟨b1, 0, none⟩) 16 (by omega) uw34 (Rd.row ((H23.ext hC35).get (k := 3) rfl))).mono fun _ _ ⟨v, h1, h2, h3⟩ => ⟨v, h1, CiphR.old h2 hC35, h3⟩), ?_⟩
  refine ⟨.agg (cel E64 ([a, b])).toArray, fun _ uw36 hC37 _ => Gives.run rfl (r_loadA (cs' := (cel E64 ([a, b])).toArray) agg39 siz39 ((H23.ext hC37).get (k := 2) rfl) (off := 0) rfl (by exact Nat.le_of_ble_eq_true rfl) (by exact ext_all rfl)) ⟨rfl, Chg.refl _ _⟩, ?_⟩
  refine ⟨u64 (tw), fun _ uw38 hC39 _ => Gives.run rfl (r_move (v := u64 (tw)) rfl) ⟨rfl, Chg.refl _ _⟩, ?_⟩
  refine ⟨.agg (cel E64 [sR0 a b tw ^^^ wholeS (((hashE ((expR key bx 40).1) bx a b tw).drop 0).take 8) 8, (dblR a b).2 ^^^ wholeS (((hashE ((expR key bx 40).1) bx a b tw).drop 8).take 8) 8]).toArray, fun _ uw40 hC41 hF => ?_, ?_⟩
  · obtain ⟨xk44, ck45, xb46, cb47, e48, hc49, hK50, hB51⟩ := CiphR.rd (hF 5 _ rfl rfl) (expR_len key bx (by exact hk) 40)
    exact Gives.call rfl (Enters.callL (vs := [.agg #[.slice xk44 176 ck45, .slice xb46 256 cb47], .agg (cel E64 ([a, b])).toArray, u64 (tw)]) call17 (by simp only [List.map]; exact (congr (congrArg List.cons e48) (congr (congrArg List.cons rfl) (congr (congrArg List.cons rfl) rfl))))) (rhash_ok ((expR key bx 40).1) bx (by exact expR_len key bx (by exact hk) 40) (by rw [hbx]; exact boxR_len _) a b tw xk44 xb46 ck45 cb47 (by exact hc49) uw40 hK50 hB51)
  refine ⟨.bool (true), fun _ uw52 hC53 _ => Gives.run rfl ((r_eqlA (E := E64) (l := [(hashL (cipher key) a b tw).1, (hashL (cipher key) a b tw).2]) (l' := [sR0 a b tw ^^^ wholeS (((hashE ((expR key bx 40).1) bx a b tw).drop 0).take 8) 8, (dblR a b).2 ^^^ wholeS (((hashE ((expR key bx 40).1) bx a b tw).drop 8).take 8) 8]) gty39 und39 fits34 (eqAt64 und34) (rfl) (rfl) rfl rfl).as (v' := .bool (true)) (by have := hash_eq key hk a b tw; rw [Prod.ext_iff] at this; dsimp only at this; rw [hbx, this.1, this.2]; simp)) ⟨rfl, Chg.refl _ _⟩, ?_⟩
  refine ⟨.bool (true), fun _ uw54 hC55 _ => Gives.run rfl (r_move (v := .bool (true)) rfl) ⟨rfl, Chg.refl _ _⟩, ?_⟩
  refine ⟨.pointer (some ⟨b16, 0, none⟩), fun _ uw56 hC57 _ => Gives.runW (wantedSome (d' := 32) (b := true) rfl rfl rfl) (r_move (v := .pointer (some ⟨b16, 0, none⟩)) rfl) ⟨rfl, Chg.refl _ _⟩, ?_⟩
  refine ⟨.agg (cel E64 ([a, b])).toArray, fun _ uw58 hC59 _ => Gives.runW (wantedSome (d' := 32) (b := true) rfl rfl rfl) (r_loadA (cs' := (cel E64 ([a, b])).toArray) agg39 siz39 ((H23.ext hC59).get (k := 2) rfl) (off := 0) rfl (by exact Nat.le_of_ble_eq_true rfl) (by exact ext_all rfl)) ⟨rfl, Chg.refl _ _⟩, ?_⟩
  refine ⟨u64 (tw), fun _ uw60 hC61 _ => Gives.runW (wantedSome (d' := 32) (b := true) rfl rfl rfl) (r_move (v := u64 (tw)) rfl) ⟨rfl, Chg.refl _ _⟩, ?_⟩
  refine ⟨.agg (cel E64 [(hashL (cipher fixKey) a b tw).1, (hashL (cipher fixKey) a b tw).2]).toArray, fun _ uw62 hC63 _ => Gives.callW (wantedSome (d' := 32) (b := true) rfl rfl rfl) (Enters.callL (vs := [.pointer (some ⟨b16, 0, none⟩), .agg (cel E64 ([a, b])).toArray, u64 (tw)]) call16 rfl) (hash_ok b16 (cipher fixKey) (cipher_len _ (fixS_len 16)) a b tw uw62 ((H23.ext hC63).get (k := 0) rfl)), ?_⟩
  refine ⟨fun r uw64 hC65 hF => Gives.callW (wantedSome (d' := 32) (b := true) rfl rfl rfl) (Enters.callL (vs := []) call18 rfl) ((rfixed_ok bx hbx uw64).mono fun _ _ ⟨v, h1, h2, h3⟩ => ⟨v, h1, CiphR.old h2 hC65, h3⟩), ?_⟩
  refine ⟨.agg (cel E64 ([a, b])).toArray, fun _ uw66 hC67 _ => Gives.runW (wantedSome (d' := 32) (b := true) rfl rfl rfl) (r_loadA (cs' := (cel E64 ([a, b])).toArray) agg39 siz39 ((H23.ext hC67).get (k := 2) rfl) (off := 0) rfl (by exact Nat.le_of_ble_eq_true rfl) (by exact ext_all rfl)) ⟨rfl, Chg.refl _ _⟩, ?_⟩
  refine ⟨u64 (tw), fun _ uw68 hC69 _ => Gives.runW (wantedSome (d' := 32) (b := true) rfl rfl rfl) (r_move (v := u64 (tw)) rfl) ⟨rfl, Chg.refl _ _⟩, ?_⟩
  refine ⟨.agg (cel E64 [sR0 a b tw ^^^ wholeS (((hashE ((expR fixK bx 40).1) bx a b tw).drop 0).take 8) 8, (dblR a b).2 ^^^ wholeS (((hashE ((expR fixK bx 40).1) bx a b tw).drop 8).take 8) 8]).toArray, fun _ uw70 hC71 hF => ?_, ?_⟩
  · obtain ⟨xk74, ck75, xb76, cb77, e78, hc79, hK80, hB81⟩ := CiphR.rd (hF 15 _ rfl rfl) (expR_len fixK bx rfl 40)
    exact Gives.callW (wantedSome (d' := 32) (b := true) rfl rfl rfl) (Enters.callL (vs := [.agg #[.slice xk74 176 ck75, .slice xb76 256 cb77], .agg (cel E64 ([a, b])).toArray, u64 (tw)]) call17 (by simp only [List.map]; exact (congr (congrArg List.cons e78) (congr (congrArg List.cons rfl) (congr (congrArg List.cons rfl) rfl))))) (rhash_ok ((expR fixK bx 40).1) bx (by exact expR_len fixK bx rfl 40) (by rw [hbx]; exact boxR_len _) a b tw xk74 xb76 ck75 cb77 (by exact hc79) uw70 hK80 hB81)
  refine ⟨.bool (true), fun _ uw82 hC83 _ => Gives.runW (wantedSome (d' := 32) (b := true) rfl rfl rfl) ((r_eqlA (E := E64) (l := [(hashL (cipher fixKey) a b tw).1, (hashL (cipher fixKey) a b tw).2]) (l' := [sR0 a b tw ^^^ wholeS (((hashE ((expR fixK bx 40).1) bx a b tw).drop 0).take 8) 8, (dblR a b).2 ^^^ wholeS (((hashE ((expR fixK bx 40).1) bx a b tw).drop 8).take 8) 8]) gty39 und39 fits34 (eqAt64 und34) (rfl) (rfl) rfl rfl).as (v' := .bool (true)) (by rw [fix_eq]; have := hash_eq fixKey (fixS_len 16) a b tw; rw [Prod.ext_iff] at this; dsimp only at this; rw [hbx, this.1, this.2]; simp)) ⟨rfl, Chg.refl _ _⟩, ?_⟩
  refine ⟨.bool (true), fun _ uw84 hC85 _ => Gives.run rfl (r_pickT (u := .bool (true)) rfl rfl) ⟨rfl, Chg.refl _ _⟩, ?_⟩
  refine ⟨.bool (true), fun _ uw86 hC87 _ => Gives.run rfl (r_assign (v := .bool (true)) rfl) ⟨rfl, Chg.refl _ _⟩, ?_⟩
  intro r91 w88 hE90 hF
  have H89 := H23.ext hE90
  refine wnil ?_
  refine thenNormal ?_
  refine retAny ?_
  refine retG (rs := [.tmp 6]) (vs := [.bool (true)]) rfl ⟨⟨rfl, rfl⟩, trivial⟩ ?_
  exact ⟨_, rfl, rfl, H89.chg⟩
end Go.Proofs.Ytcnkllkieelahaa.Aes
