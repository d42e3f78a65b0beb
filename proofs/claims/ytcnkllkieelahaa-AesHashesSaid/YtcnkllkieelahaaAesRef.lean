/- The walks of the document's cipher. -/
import Derived.Test.YtcnkllkieelahaaVcEq
import Derived.Test.YtcnkllkieelahaaVcAppN
import Derived.Test.YtcnkllkieelahaaAes
import Derived.Test.YtcnkllkieelahaaAesRefSpec
import Derived.Test.YtcnkllkieelahaaProg
namespace Go.Proofs.Ytcnkllkieelahaa.Aes
open Go Go.Proofs.Ytcnkllkieelahaa.Vc Go.Proofs.Ytcnkllkieelahaa.AesSpec
theorem agg30 : isAgg' Try.prog 30 = true := by kernel_rfl
theorem byt5 : byt Try.prog 5 = some 1 := by kernel_rfl
theorem call11 : callable Try.prog 11 = true := by kernel_rfl
theorem call12 : callable Try.prog 12 = true := by kernel_rfl
theorem call23 : callable Try.prog 23 = true := by kernel_rfl
theorem call24 : callable Try.prog 24 = true := by kernel_rfl
theorem call25 : callable Try.prog 25 = true := by kernel_rfl
theorem call26 : callable Try.prog 26 = true := by kernel_rfl
theorem call29 : callable Try.prog 29 = true := by kernel_rfl
theorem call30 : callable Try.prog 30 = true := by kernel_rfl
theorem call32 : callable Try.prog 32 = true := by kernel_rfl
theorem call34 : callable Try.prog 34 = true := by kernel_rfl
theorem fld30_0 : fld Try.prog 30 0 = some (0, 1, 27) := by kernel_rfl
theorem fld30_1 : fld Try.prog 30 1 = some (1, 1, 27) := by kernel_rfl
theorem one27 : isOne Try.prog 27 = true := by kernel_rfl
theorem pls30 : pls Try.prog 30 = some #[(0, 1), (1, 1)] := by kernel_rfl
theorem siz27 : siz Try.prog 27 = some 1 := by kernel_rfl
theorem siz30 : siz Try.prog 30 = some 2 := by kernel_rfl
theorem sli27 : sli Try.prog 27 = some (5, 1) := by kernel_rfl
theorem zer30 : zer Try.prog 30 = some (.agg #[.slice none 0 0, .slice none 0 0]) := by kernel_rfl
theorem zer5 : zer Try.prog 5 = some (.int .u8 0) := by kernel_rfl
def CiphR (ks bx : List By) (w : World) (v : Value) (w' : World) : Prop := ∃ kk kc ksp kb cb spb, v = .agg #[.slice (ownA kk) 176 kc, .slice (ownA kb) 256 cb] ∧ Sl E8 kk ks kc ksp ∧ Sl E8 kb bx cb spb ∧ Hp No w w' [(kb, sob E8 5 bx spb), (kk, sob E8 5 ks ksp)]
theorem CiphR.ext {ks bx : List By} {w : World} {v : Value} {w1 w2 : World} (h : CiphR ks bx w v w1) (hE : Ext w1 w2) : CiphR ks bx w v w2 := by
  obtain ⟨kk, kc, ksp, kb, cb, spb, h1, h2, h3, h4⟩ := h
  exact ⟨kk, kc, ksp, kb, cb, spb, h1, h2, h3, h4.ext hE⟩
theorem CiphR.old {ks bx : List By} {w0 w : World} {v : Value} {w1 : World} (h : CiphR ks bx w v w1) (hE : Ext w0 w) : CiphR ks bx w0 v w1 := by
  obtain ⟨kk, kc, ksp, kb, cb, spb, h1, h2, h3, h4⟩ := h
  exact ⟨kk, kc, ksp, kb, cb, spb, h1, h2, h3, ((Hp.start No w0).ext hE).join h4⟩
theorem CiphR.rd {ks bx : List By} {w0 w : World} {v : Value} (h : CiphR ks bx w0 v w) (hk : ks.length = 176) : ∃ xk ck xb cb, v = .agg #[.slice xk 176 ck, .slice xb 256 cb] ∧ 176 ≤ ck ∧ Rd E8 w xk ks ∧ Rd E8 w xb bx := by
  obtain ⟨kk, kc, ksp, kb, cb, spb, h1, h2, h3, h4⟩ := h
  exact ⟨_, _, _, _, h1, hk ▸ h2.cap, h4.rd (k := 1) rfl h2, h4.rd (k := 0) rfl h3⟩
theorem inverse_ok (a : By) (w : World) : Calls Try.prog 34 [u8 (a)].toArray w (Ret fun v w' => v = u8 (invS a 254) ∧ Ext w w') := by
  have H := Hp.start No w
  refine enter (n := 13) Try.func34 rfl rfl (Nat.le_of_ble_eq_true rfl) ?_
  refine seqRegion ?_
  refine sq (r_assign (v := u8 (0#8)) rfl) ?_
  refine wend ?_
  refine seqRegion ?_
  refine sq (r_assign (v := u8 (1#8)) rfl) ?_
  refine wend ?_
  refine seqAny ?_
  refine seqRegion ?_
  refine sq (r_assign (v := i64 ((0 : Int))) rfl) ?_
  refine wend ?_
  refine blockAny ?_
  refine loopAny (σ := Nat) (fun k => [(0, u8 (a)), (3, u8 (invS a k)), (4, i64 ((k : Nat)))]) (fun k w' => k ≤ 254 ∧ Hp No w w' []) (fun k => 254 - k) (0) ?_ ?_ ?_
  · exact ⟨rfl, rfl, rfl, trivial⟩
  · exact ⟨by omega, H⟩
  rintro k ρ w1 ⟨hk, H2⟩
  refine seqAny ?_
  refine seqRegion ?_
  refine sq (r_move (v := i64 ((k : Nat))) rfl) ?_
  refine sq (r_lssI (a := (k : Nat)) (b := (254 : Int)) rfl rfl) ?_
  refine wend ?_
  refine condProp ((k : Nat) < (254 : Int)) rfl (fun hk6 => ?_) (fun hk6 => ?_)
  · skip
    refine skipAny ?_
    refine thenNormal ?_
    refine seqAny ?_
    refine blockAny ?_
    refine oneRegion ?_
    refine sq (r_move (v := u8 (invS a k)) rfl) ?_
    refine sq (r_move (v := u8 (a)) rfl) ?_
    refine c_call (vs := [u8 (invS a k), u8 (a)]) call26 rfl (times_ok (invS a k) a w1) ?_
    rintro _ w3 ⟨rfl, hE4⟩
    have H5 := H2.ext hE4
    refine sq (r_assign (v := u8 (gm (invS a k) a)) rfl) ?_
    refine wnil ?_
    refine blockNormal ?_
    refine thenNormal ?_
    refine oneRegion ?_
    refine sq (r_move (v := i64 ((k : Nat))) rfl) ?_
    refine sq (r_addI (a := (k : Nat)) (b := (1 : Int)) rfl rfl (by omega)) ?_
    refine sq (r_assign (v := i64 ((k : Nat) + (1 : Int))) rfl) ?_
    refine wnil ?_
    refine thenNormal ?_
    exact ⟨k + 1, _, rfl, ⟨rfl, rfl, rfl, trivial⟩, ⟨by omega, H5⟩, by show 254 - (k + 1) < 254 - k; omega⟩
  · skip
    obtain rfl : k = 254 := by omega
    refine exitAny ?_
    refine thenExit ?_
    refine thenExit ?_
    refine blockHere ?_
    refine thenNormal ?_
    refine seqRegion ?_
    refine sq (r_move (v := u8 (invS a 254)) rfl) ?_
    refine sq (r_assign (v := u8 (invS a 254)) rfl) ?_
    refine wend ?_
    refine retAny ?_
    refine retG (rs := [.tmp 2]) (vs := [u8 (invS a 254)]) rfl ⟨⟨rfl, rfl⟩, trivial⟩ ?_
    exact ⟨_, rfl, rfl, H2.chg⟩

theorem s_ok (a : By) (w : World) : Calls Try.prog 25 [u8 (a)].toArray w (Ret fun v w' => v = u8 (sR a) ∧ Ext w w') := by
  have H := Hp.start No w
  refine enter (n := 21) Try.func25 rfl rfl (Nat.le_of_ble_eq_true rfl) ?_
  refine seqRegion ?_
  refine sq (r_assign (v := u8 (0#8)) rfl) ?_
  refine wend ?_
  refine seqRegion ?_
  refine sq (r_move (v := u8 (a)) rfl) ?_
  refine c_call (vs := [u8 (a)]) call34 rfl (inverse_ok a w) ?_
  rintro _ w1 ⟨rfl, hE2⟩
  have H3 := H.ext hE2
  refine sq (r_assign (v := u8 (invS a 254)) rfl) ?_
  refine wend ?_
  refine seqRegion ?_
  refine sq (r_assign (v := u8 (99#8)) rfl) ?_
  refine wend ?_
  refine seqAny ?_
  refine seqRegion ?_
  refine sq (r_assign (v := i64 ((0 : Int))) rfl) ?_
  refine wend ?_
  refine blockAny ?_
  refine loopAny (σ := Nat) (fun k => [(3, u8 ((sS (invS a 254) k).2)), (4, u8 ((sS (invS a 254) k).1)), (5, i64 ((k : Nat)))]) (fun k w' => k ≤ 5 ∧ Hp No w w' []) (fun k => 5 - k) (0) ?_ ?_ ?_
  · exact ⟨rfl, rfl, rfl, trivial⟩
  · exact ⟨by omega, H3⟩
  rintro k ρ w4 ⟨hk, H5⟩
  refine seqAny ?_
  refine seqRegion ?_
  refine sq (r_move (v := i64 ((k : Nat))) rfl) ?_
  refine sq (r_lssI (a := (k : Nat)) (b := (5 : Int)) rfl rfl) ?_
  refine wend ?_
  refine condProp ((k : Nat) < (5 : Int)) rfl (fun hk9 => ?_) (fun hk9 => ?_)
  · skip
    refine skipAny ?_
    refine thenNormal ?_
    refine seqAny ?_
    refine blockAny ?_
    refine seqRegion ?_
    refine sq (r_move (v := u8 ((sS (invS a 254) k).1)) rfl) ?_
    refine sq (r_move (v := u8 ((sS (invS a 254) k).2)) rfl) ?_
    refine sq (r_xor8 (a := (sS (invS a 254) k).1) (b := (sS (invS a 254) k).2) rfl rfl) ?_
    refine sq (r_assign (v := u8 (((sS (invS a 254) k).1) ^^^ ((sS (invS a 254) k).2))) rfl) ?_
    refine wend ?_
    refine oneRegion ?_
    refine sq (r_move (v := u8 ((sS (invS a 254) k).2)) rfl) ?_
    refine sq (r_mul8 (a := (sS (invS a 254) k).2) (b := 2#8) rfl rfl) ?_
    refine sq (r_move (v := u8 ((sS (invS a 254) k).2)) rfl) ?_
    refine sq (r_quo8 (a := (sS (invS a 254) k).2) (b := 128#8) rfl rfl (by decide)) ?_
    refine sq (r_add8 (a := ((sS (invS a 254) k).2) * (2#8)) (b := ((sS (invS a 254) k).2) / (128#8)) rfl rfl) ?_
    refine sq (r_assign (v := u8 ((((sS (invS a 254) k).2) * (2#8)) + (((sS (invS a 254) k).2) / (128#8)))) rfl) ?_
    refine wnil ?_
    refine blockNormal ?_
    refine thenNormal ?_
    refine oneRegion ?_
    refine sq (r_move (v := i64 ((k : Nat))) rfl) ?_
    refine sq (r_addI (a := (k : Nat)) (b := (1 : Int)) rfl rfl (by omega)) ?_
    refine sq (r_assign (v := i64 ((k : Nat) + (1 : Int))) rfl) ?_
    refine wnil ?_
    refine thenNormal ?_
    exact ⟨k + 1, _, rfl, ⟨rfl, rfl, rfl, trivial⟩, ⟨by omega, H5⟩, by show 5 - (k + 1) < 5 - k; omega⟩
  · skip
    obtain rfl : k = 5 := by omega
    refine exitAny ?_
    refine thenExit ?_
    refine thenExit ?_
    refine blockHere ?_
    refine thenNormal ?_
    refine seqRegion ?_
    refine sq (r_move (v := u8 ((sS (invS a 254) 5).1)) rfl) ?_
    refine sq (r_assign (v := u8 ((sS (invS a 254) 5).1)) rfl) ?_
    refine wend ?_
    refine retAny ?_
    refine retG (rs := [.tmp 2]) (vs := [u8 ((sS (invS a 254) 5).1)]) rfl ⟨⟨rfl, rfl⟩, trivial⟩ ?_
    exact ⟨_, rfl, rfl, H5.chg⟩

theorem add_ok (a b : List By) (ha : a.length = 16) (hb : b.length = 16) (xa xb : Option Addr) (ca cb : Nat) (w : World) (hA : Rd E8 w xa a) (hB : Rd E8 w xb b) : Calls Try.prog 23 [.slice xa 16 ca, .slice xb 16 cb].toArray w (Ret fun v w' => SlRes E8 5 (addR a b 16) w v w' ∧ Ext w w') := by
  have H := Hp.start No w
  refine enter (n := 25) Try.func23 rfl rfl (Nat.le_of_ble_eq_true rfl) ?_
  refine seqRegion ?_
  refine sq (r_assign (v := .slice none 0 0) rfl) ?_
  refine wend ?_
  refine seqRegion ?_
  refine q_makeSlice (E := E8) (m := 16) (c := 16) (z0 := 0#8) H sli27 zer5 rfl byt5 rfl rfl (by first | rfl | omega | (simp; omega)) (by first | rfl | omega | (simp; omega)) (by omega) (by omega) ?_
  intro b1 w3 hS2 H4 _
  refine sq (r_assign (v := .slice (ownA (some b1)) 16 16) rfl) ?_
  refine wend ?_
  refine seqAny ?_
  refine seqRegion ?_
  refine sq (r_assign (v := i64 ((0 : Int))) rfl) ?_
  refine wend ?_
  refine blockAny ?_
  refine loopAny (σ := Nat) (fun i => [(0, .slice xa 16 ca), (1, .slice xb 16 cb), (5, .slice (ownA (some b1)) 16 16), (6, i64 ((i : Nat)))]) (fun i w' => i ≤ 16 ∧ Sl E8 (some b1) (addR a b i) 16 (cel E8 (List.replicate (16 - 16) 0#8)) ∧ Hp No w w' [((some b1), sob E8 5 (addR a b i) (cel E8 (List.replicate (16 - 16) 0#8)))]) (fun i => 16 - i) (0) ?_ ?_ ?_
  · exact ⟨rfl, rfl, rfl, rfl, trivial⟩
  · exact ⟨by omega, hS2, H4⟩
  rintro i ρ w5 ⟨hi, hS, HL⟩
  have hl := addR_len a b i
  refine seqAny ?_
  refine seqRegion ?_
  refine sq (r_move (v := i64 ((i : Nat))) rfl) ?_
  refine sq (r_lssI (a := (i : Nat)) (b := (16 : Int)) rfl rfl) ?_
  refine wend ?_
  refine condProp ((i : Nat) < (16 : Int)) rfl (fun hk9 => ?_) (fun hk9 => ?_)
  · skip
    refine skipAny ?_
    refine thenNormal ?_
    refine seqAny ?_
    refine blockAny ?_
    refine drawAny (K := [none, none, none, none, none, none, none, none, none, none, none, none]) [0, 0, 0, 0, 12, 28, 0, 0, 192, 448, 1020, 2047, 4095] (fun w' => Ext w5 w') (fun w' w'' => Ext w' w'') mixed (by kernel_rfl) (Ext.drew _) (fun _ _ h h' => h.trans h') ?_ ?_
    · exact relNone (by decide)
    refine ⟨.slice (ownA (some b1)) 16 16, fun _ uw7 hC8 _ => Gives.run rfl (r_move (v := .slice (ownA (some b1)) 16 16) rfl) ⟨rfl, Chg.refl _ _⟩, ?_⟩
    refine ⟨i64 ((i : Nat)), fun _ uw9 hC10 _ => Gives.run rfl (r_move (v := i64 ((i : Nat))) rfl) ⟨rfl, Chg.refl _ _⟩, ?_⟩
    refine ⟨.slice xa 16 ca, fun _ uw11 hC12 _ => Gives.run rfl (r_move (v := .slice xa 16 ca) rfl) ⟨rfl, Chg.refl _ _⟩, ?_⟩
    refine ⟨i64 ((i : Nat)), fun _ uw13 hC14 _ => Gives.run rfl (r_move (v := i64 ((i : Nat))) rfl) ⟨rfl, Chg.refl _ _⟩, ?_⟩
    refine ⟨.pointer (adr xa (i * 1)), fun _ uw15 hC16 _ => Gives.run rfl (r_idxS (E := E8) (l := a) (j := i) sli27 (hA.ext (HL.ext hC16).chg) rfl rfl (by first | rfl | omega | (simp; omega)) (by omega) (by omega)) ⟨rfl, Chg.refl _ _⟩, ?_⟩
    refine ⟨u8 ((a).getD i 0#8), fun _ uw17 hC18 _ => Gives.run rfl (r_ldS (E := E8) (l := a) (j := i) (v := (a).getD i 0#8) fits5 (hA.ext (HL.ext hC18).chg) rfl rfl (at_getD (by omega))) ⟨rfl, Chg.refl _ _⟩, ?_⟩
    refine ⟨.slice xb 16 cb, fun _ uw19 hC20 _ => Gives.run rfl (r_move (v := .slice xb 16 cb) rfl) ⟨rfl, Chg.refl _ _⟩, ?_⟩
    refine ⟨i64 ((i : Nat)), fun _ uw21 hC22 _ => Gives.run rfl (r_move (v := i64 ((i : Nat))) rfl) ⟨rfl, Chg.refl _ _⟩, ?_⟩
    refine ⟨.pointer (adr xb (i * 1)), fun _ uw23 hC24 _ => Gives.run rfl (r_idxS (E := E8) (l := b) (j := i) sli27 (hB.ext (HL.ext hC24).chg) rfl rfl (by first | rfl | omega | (simp; omega)) (by omega) (by omega)) ⟨rfl, Chg.refl _ _⟩, ?_⟩
    refine ⟨u8 ((b).getD i 0#8), fun _ uw25 hC26 _ => Gives.run rfl (r_ldS (E := E8) (l := b) (j := i) (v := (b).getD i 0#8) fits5 (hB.ext (HL.ext hC26).chg) rfl rfl (at_getD (by omega))) ⟨rfl, Chg.refl _ _⟩, ?_⟩
    refine ⟨u8 (((a).getD i 0#8) ^^^ ((b).getD i 0#8)), fun _ uw27 hC28 _ => Gives.run rfl (r_xor8 (a := (a).getD i 0#8) (b := (b).getD i 0#8) rfl rfl) ⟨rfl, Chg.refl _ _⟩, ?_⟩
    refine ⟨.pointer (adr (ownA (some b1)) (i * 1)), fun _ uw29 hC30 _ => Gives.run rfl (r_idxS (E := E8) (l := addR a b i) (j := i) sli27 ((HL.ext hC30).rd (k := 0) rfl hS) rfl rfl (by first | rfl | omega | (simp; omega)) (by omega) (by omega)) ⟨rfl, Chg.refl _ _⟩, ?_⟩
    intro r34 w31 hE33 hF
    have H32 := HL.ext hE33
    refine d_storeS (E := E8) (k := 0) (l := addR a b i) (j := i) (b := ((a).getD i 0#8) ^^^ ((b).getD i 0#8)) (a := (addR a b i).getD i 0#8) H32 rfl hS rfl rfl rfl rfl siz5 (at_getD (by omega)) ?_
    intro w36 hS35 H37
    have H37' := H37.as (L' := [((some b1), sob E8 5 ((addR a b i).set i (((a).getD i 0#8) ^^^ ((b).getD i 0#8))) (cel E8 (List.replicate (16 - 16) 0#8)))]) rfl
    clear H37
    refine wnil ?_
    refine blockNormal ?_
    refine thenNormal ?_
    refine oneRegion ?_
    refine sq (r_move (v := i64 ((i : Nat))) rfl) ?_
    refine sq (r_addI (a := (i : Nat)) (b := (1 : Int)) rfl rfl (by omega)) ?_
    refine sq (r_assign (v := i64 ((i : Nat) + (1 : Int))) rfl) ?_
    refine wnil ?_
    refine thenNormal ?_
    exact ⟨i + 1, _, rfl, ⟨rfl, rfl, rfl, rfl, trivial⟩, ⟨by omega, hS35, H37'⟩, by show 16 - (i + 1) < 16 - i; omega⟩
  · skip
    obtain rfl : i = 16 := by omega
    refine exitAny ?_
    refine thenExit ?_
    refine thenExit ?_
    refine blockHere ?_
    refine thenNormal ?_
    refine seqRegion ?_
    refine sq (r_move (v := .slice (ownA (some b1)) 16 16) rfl) ?_
    refine sq (r_assign (v := .slice (ownA (some b1)) 16 16) rfl) ?_
    refine wend ?_
    refine retAny ?_
    refine retG (rs := [.tmp 4]) (vs := [.slice (ownA (some b1)) 16 16]) rfl ⟨⟨rfl, rfl⟩, trivial⟩ ?_
    exact ⟨_, rfl, HL.resN (k := 0) rfl hS hl.symm, HL.chg⟩

theorem rmix_ok (t : List By) (ht : t.length = 16) (xt : Option Addr) (ct : Nat) (w : World) (hT : Rd E8 w xt t) : Calls Try.prog 24 [.slice xt 16 ct].toArray w (Ret fun v w' => SlRes E8 5 (mixRS t 4) w v w' ∧ Ext w w') := by
  have H := Hp.start No w
  refine enter (n := 69) Try.func24 rfl rfl (Nat.le_of_ble_eq_true rfl) ?_
  refine seqRegion ?_
  refine sq (r_assign (v := .slice none 0 0) rfl) ?_
  refine wend ?_
  refine seqRegion ?_
  refine q_makeSlice (E := E8) (m := 16) (c := 16) (z0 := 0#8) H sli27 zer5 rfl byt5 rfl rfl (by first | rfl | omega | (simp; omega)) (by first | rfl | omega | (simp; omega)) (by omega) (by omega) ?_
  intro b1 w3 hS2 H4 _
  refine sq (r_assign (v := .slice (ownA (some b1)) 16 16) rfl) ?_
  refine wend ?_
  refine seqAny ?_
  refine seqRegion ?_
  refine sq (r_assign (v := i64 ((0 : Int))) rfl) ?_
  refine wend ?_
  refine blockAny ?_
  refine loopAny (σ := Nat) (fun c => [(0, .slice xt 16 ct), (3, .slice (ownA (some b1)) 16 16), (4, i64 ((c : Nat)))]) (fun c w' => c ≤ 4 ∧ Sl E8 (some b1) (mixRS t c) 16 (cel E8 (List.replicate (16 - 16) 0#8)) ∧ Hp No w w' [((some b1), sob E8 5 (mixRS t c) (cel E8 (List.replicate (16 - 16) 0#8)))]) (fun c => 4 - c) (0) ?_ ?_ ?_
  · exact ⟨rfl, rfl, rfl, trivial⟩
  · exact ⟨by omega, hS2, H4⟩
  rintro c ρ w5 ⟨hc, hS, HL⟩
  have hl := mixRS_len t c
  refine seqAny ?_
  refine seqRegion ?_
  refine sq (r_move (v := i64 ((c : Nat))) rfl) ?_
  refine sq (r_lssI (a := (c : Nat)) (b := (4 : Int)) rfl rfl) ?_
  refine wend ?_
  refine condProp ((c : Nat) < (4 : Int)) rfl (fun hk12 => ?_) (fun hk12 => ?_)
  · skip
    refine skipAny ?_
    refine thenNormal ?_
    refine seqAny ?_
    refine blockAny ?_
    refine seqRegion ?_
    refine sq (r_assign (v := i64 ((0 : Int))) rfl) ?_
    refine wend ?_
    refine blockAny ?_
    refine loopAny (σ := Nat) (fun r => [(0, .slice xt 16 ct), (3, .slice (ownA (some b1)) 16 16), (4, i64 ((c : Nat))), (5, i64 ((r : Nat)))]) (fun r w' => r ≤ 4 ∧ Sl E8 (some b1) (mixRI t (mixRS t c) c r) 16 (cel E8 (List.replicate (16 - 16) 0#8)) ∧ Hp No w w' [((some b1), sob E8 5 (mixRI t (mixRS t c) c r) (cel E8 (List.replicate (16 - 16) 0#8)))]) (fun r => 4 - r) (0) ?_ ?_ ?_
    · exact ⟨rfl, rfl, rfl, rfl, trivial⟩
    · exact ⟨by omega, hS, HL⟩
    rintro r ρ w7 ⟨hr, hS, HL⟩
    have hl2 := mixRI_len t (mixRS t c) c r
    rw [hl] at hl2
    refine seqAny ?_
    refine seqRegion ?_
    refine sq (r_move (v := i64 ((r : Nat))) rfl) ?_
    refine sq (r_lssI (a := (r : Nat)) (b := (4 : Int)) rfl rfl) ?_
    refine wend ?_
    refine condProp ((r : Nat) < (4 : Int)) rfl (fun hk16 => ?_) (fun hk16 => ?_)
    · skip
      refine skipAny ?_
      refine thenNormal ?_
      refine seqAny ?_
      refine blockAny ?_
      refine seqAny ?_
      refine drawAny (K := [none, none, none, none, none, none, none, none, none, none, none, none, none, none, none, none, none, none, none, none, none, none, none, none, none, none, none, none, none, none, none, none, none, none, none, none, none, none]) [0, 0, 2, 0, 14, 31, 63, 0, 0, 256, 0, 1024, 3072, 7936, 16256, 32640, 0, 0, 131072, 0, 524288, 1572864, 4063232, 8323072, 16711680, 0, 0, 67108864, 0, 268435456, 805306368, 2080374784, 4261412864, 8556380160, 127, 17179934719, 51573161983, 137438953471] (fun w' => Ext w7 w') (fun w' w'' => Ext w' w'') mixed (by kernel_rfl) (Ext.drew _) (fun _ _ h h' => h.trans h') ?_ ?_
      · exact relNone (by decide)
      refine ⟨.slice xt 16 ct, fun _ uw9 hC10 _ => Gives.run rfl (r_move (v := .slice xt 16 ct) rfl) ⟨rfl, Chg.refl _ _⟩, ?_⟩
      refine ⟨i64 ((c : Nat)), fun _ uw11 hC12 _ => Gives.run rfl (r_move (v := i64 ((c : Nat))) rfl) ⟨rfl, Chg.refl _ _⟩, ?_⟩
      refine ⟨i64 ((4 : Int) * (c : Nat)), fun _ uw13 hC14 _ => Gives.run rfl (r_mulI (a := (4 : Int)) (b := (c : Nat)) rfl rfl (by omega)) ⟨rfl, Chg.refl _ _⟩, ?_⟩
      refine ⟨i64 ((r : Nat)), fun _ uw15 hC16 _ => Gives.run rfl (r_move (v := i64 ((r : Nat))) rfl) ⟨rfl, Chg.refl _ _⟩, ?_⟩
      refine ⟨i64 (((4 : Int) * (c : Nat)) + (r : Nat)), fun _ uw17 hC18 _ => Gives.run rfl (r_addI (a := (4 : Int) * (c : Nat)) (b := (r : Nat)) rfl rfl (by omega)) ⟨rfl, Chg.refl _ _⟩, ?_⟩
      refine ⟨.pointer (adr xt (((4 * c) + r) * 1)), fun _ uw19 hC20 _ => Gives.run rfl (r_idxS (E := E8) (l := t) (j := (4 * c) + r) sli27 (hT.ext (HL.ext hC20).chg) rfl rfl (by first | rfl | omega | (simp; omega)) (by omega) (by omega)) ⟨rfl, Chg.refl _ _⟩, ?_⟩
      refine ⟨u8 ((t).getD ((4 * c) + r) 0#8), fun _ uw21 hC22 _ => Gives.run rfl (r_ldS (E := E8) (l := t) (j := (4 * c) + r) (v := (t).getD ((4 * c) + r) 0#8) fits5 (hT.ext (HL.ext hC22).chg) rfl rfl (at_getD (by omega))) ⟨rfl, Chg.refl _ _⟩, ?_⟩
      refine ⟨.slice xt 16 ct, fun _ uw23 hC24 _ => Gives.run rfl (r_move (v := .slice xt 16 ct) rfl) ⟨rfl, Chg.refl _ _⟩, ?_⟩
      refine ⟨i64 ((c : Nat)), fun _ uw25 hC26 _ => Gives.run rfl (r_move (v := i64 ((c : Nat))) rfl) ⟨rfl, Chg.refl _ _⟩, ?_⟩
      refine ⟨i64 ((4 : Int) * (c : Nat)), fun _ uw27 hC28 _ => Gives.run rfl (r_mulI (a := (4 : Int)) (b := (c : Nat)) rfl rfl (by omega)) ⟨rfl, Chg.refl _ _⟩, ?_⟩
      refine ⟨i64 ((r : Nat)), fun _ uw29 hC30 _ => Gives.run rfl (r_move (v := i64 ((r : Nat))) rfl) ⟨rfl, Chg.refl _ _⟩, ?_⟩
      refine ⟨i64 ((r : Nat) + (1 : Int)), fun _ uw31 hC32 _ => Gives.run rfl (r_addI (a := (r : Nat)) (b := (1 : Int)) rfl rfl (by omega)) ⟨rfl, Chg.refl _ _⟩, ?_⟩
      refine ⟨i64 (((r : Nat) + (1 : Int)) % (4 : Int)), fun _ uw33 hC34 _ => Gives.run rfl (r_remI (a := (r : Nat) + (1 : Int)) (b := (4 : Int)) rfl rfl (by omega)) ⟨rfl, Chg.refl _ _⟩, ?_⟩
      refine ⟨i64 (((4 : Int) * (c : Nat)) + (((r : Nat) + (1 : Int)) % (4 : Int))), fun _ uw35 hC36 _ => Gives.run rfl (r_addI (a := (4 : Int) * (c : Nat)) (b := ((r : Nat) + (1 : Int)) % (4 : Int)) rfl rfl (by omega)) ⟨rfl, Chg.refl _ _⟩, ?_⟩
      refine ⟨.pointer (adr xt (((4 * c) + ((r + 1) % 4)) * 1)), fun _ uw37 hC38 _ => Gives.run rfl (r_idxS (E := E8) (l := t) (j := (4 * c) + ((r + 1) % 4)) sli27 (hT.ext (HL.ext hC38).chg) rfl rfl (by first | rfl | omega | (simp; omega)) (by omega) (by omega)) ⟨rfl, Chg.refl _ _⟩, ?_⟩
      refine ⟨u8 ((t).getD ((4 * c) + ((r + 1) % 4)) 0#8), fun _ uw39 hC40 _ => Gives.run rfl (r_ldS (E := E8) (l := t) (j := (4 * c) + ((r + 1) % 4)) (v := (t).getD ((4 * c) + ((r + 1) % 4)) 0#8) fits5 (hT.ext (HL.ext hC40).chg) rfl rfl (at_getD (by omega))) ⟨rfl, Chg.refl _ _⟩, ?_⟩
      refine ⟨.slice xt 16 ct, fun _ uw41 hC42 _ => Gives.run rfl (r_move (v := .slice xt 16 ct) rfl) ⟨rfl, Chg.refl _ _⟩, ?_⟩
      refine ⟨i64 ((c : Nat)), fun _ uw43 hC44 _ => Gives.run rfl (r_move (v := i64 ((c : Nat))) rfl) ⟨rfl, Chg.refl _ _⟩, ?_⟩
      refine ⟨i64 ((4 : Int) * (c : Nat)), fun _ uw45 hC46 _ => Gives.run rfl (r_mulI (a := (4 : Int)) (b := (c : Nat)) rfl rfl (by omega)) ⟨rfl, Chg.refl _ _⟩, ?_⟩
      refine ⟨i64 ((r : Nat)), fun _ uw47 hC48 _ => Gives.run rfl (r_move (v := i64 ((r : Nat))) rfl) ⟨rfl, Chg.refl _ _⟩, ?_⟩
      refine ⟨i64 ((r : Nat) + (2 : Int)), fun _ uw49 hC50 _ => Gives.run rfl (r_addI (a := (r : Nat)) (b := (2 : Int)) rfl rfl (by omega)) ⟨rfl, Chg.refl _ _⟩, ?_⟩
      refine ⟨i64 (((r : Nat) + (2 : Int)) % (4 : Int)), fun _ uw51 hC52 _ => Gives.run rfl (r_remI (a := (r : Nat) + (2 : Int)) (b := (4 : Int)) rfl rfl (by omega)) ⟨rfl, Chg.refl _ _⟩, ?_⟩
      refine ⟨i64 (((4 : Int) * (c : Nat)) + (((r : Nat) + (2 : Int)) % (4 : Int))), fun _ uw53 hC54 _ => Gives.run rfl (r_addI (a := (4 : Int) * (c : Nat)) (b := ((r : Nat) + (2 : Int)) % (4 : Int)) rfl rfl (by omega)) ⟨rfl, Chg.refl _ _⟩, ?_⟩
      refine ⟨.pointer (adr xt (((4 * c) + ((r + 2) % 4)) * 1)), fun _ uw55 hC56 _ => Gives.run rfl (r_idxS (E := E8) (l := t) (j := (4 * c) + ((r + 2) % 4)) sli27 (hT.ext (HL.ext hC56).chg) rfl rfl (by first | rfl | omega | (simp; omega)) (by omega) (by omega)) ⟨rfl, Chg.refl _ _⟩, ?_⟩
      refine ⟨u8 ((t).getD ((4 * c) + ((r + 2) % 4)) 0#8), fun _ uw57 hC58 _ => Gives.run rfl (r_ldS (E := E8) (l := t) (j := (4 * c) + ((r + 2) % 4)) (v := (t).getD ((4 * c) + ((r + 2) % 4)) 0#8) fits5 (hT.ext (HL.ext hC58).chg) rfl rfl (at_getD (by omega))) ⟨rfl, Chg.refl _ _⟩, ?_⟩
      refine ⟨.slice xt 16 ct, fun _ uw59 hC60 _ => Gives.run rfl (r_move (v := .slice xt 16 ct) rfl) ⟨rfl, Chg.refl _ _⟩, ?_⟩
      refine ⟨i64 ((c : Nat)), fun _ uw61 hC62 _ => Gives.run rfl (r_move (v := i64 ((c : Nat))) rfl) ⟨rfl, Chg.refl _ _⟩, ?_⟩
      refine ⟨i64 ((4 : Int) * (c : Nat)), fun _ uw63 hC64 _ => Gives.run rfl (r_mulI (a := (4 : Int)) (b := (c : Nat)) rfl rfl (by omega)) ⟨rfl, Chg.refl _ _⟩, ?_⟩
      refine ⟨i64 ((r : Nat)), fun _ uw65 hC66 _ => Gives.run rfl (r_move (v := i64 ((r : Nat))) rfl) ⟨rfl, Chg.refl _ _⟩, ?_⟩
      refine ⟨i64 ((r : Nat) + (3 : Int)), fun _ uw67 hC68 _ => Gives.run rfl (r_addI (a := (r : Nat)) (b := (3 : Int)) rfl rfl (by omega)) ⟨rfl, Chg.refl _ _⟩, ?_⟩
      refine ⟨i64 (((r : Nat) + (3 : Int)) % (4 : Int)), fun _ uw69 hC70 _ => Gives.run rfl (r_remI (a := (r : Nat) + (3 : Int)) (b := (4 : Int)) rfl rfl (by omega)) ⟨rfl, Chg.refl _ _⟩, ?_⟩
      refine ⟨i64 (((4 : Int) * (c : Nat)) + (((r : Nat) + (3 : Int)) % (4 : Int))), fun _ uw71 hC72 _ => Gives.run rfl (r_addI (a := (4 : Int) * (c : Nat)) (b := ((r : Nat) + (3 : Int)) % (4 : Int)) rfl rfl (by omega)) ⟨rfl, Chg.refl _ _⟩, ?_⟩
      refine ⟨.pointer (adr xt (((4 * c) + ((r + 3) % 4)) * 1)), fun _ uw73 hC74 _ => Gives.run rfl (r_idxS (E := E8) (l := t) (j := (4 * c) + ((r + 3) % 4)) sli27 (hT.ext (HL.ext hC74).chg) rfl rfl (by first | rfl | omega | (simp; omega)) (by omega) (by omega)) ⟨rfl, Chg.refl _ _⟩, ?_⟩
      refine ⟨u8 ((t).getD ((4 * c) + ((r + 3) % 4)) 0#8), fun _ uw75 hC76 _ => Gives.run rfl (r_ldS (E := E8) (l := t) (j := (4 * c) + ((r + 3) % 4)) (v := (t).getD ((4 * c) + ((r + 3) % 4)) 0#8) fits5 (hT.ext (HL.ext hC76).chg) rfl rfl (at_getD (by omega))) ⟨rfl, Chg.refl _ _⟩, ?_⟩
      refine ⟨u8 ((t).getD ((4 * c) + r) 0#8), fun _ uw77 hC78 _ => Gives.run rfl (r_assign (v := u8 ((t).getD ((4 * c) + r) 0#8)) rfl) ⟨rfl, Chg.refl _ _⟩, ?_⟩
      refine ⟨u8 ((t).getD ((4 * c) + ((r + 1) % 4)) 0#8), fun _ uw79 hC80 _ => Gives.run rfl (r_assign (v := u8 ((t).getD ((4 * c) + ((r + 1) % 4)) 0#8)) rfl) ⟨rfl, Chg.refl _ _⟩, ?_⟩
      refine ⟨u8 ((t).getD ((4 * c) + ((r + 2) % 4)) 0#8), fun _ uw81 hC82 _ => Gives.run rfl (r_assign (v := u8 ((t).getD ((4 * c) + ((r + 2) % 4)) 0#8)) rfl) ⟨rfl, Chg.refl _ _⟩, ?_⟩
      refine ⟨u8 ((t).getD ((4 * c) + ((r + 3) % 4)) 0#8), fun _ uw83 hC84 _ => Gives.run rfl (r_assign (v := u8 ((t).getD ((4 * c) + ((r + 3) % 4)) 0#8)) rfl) ⟨rfl, Chg.refl _ _⟩, ?_⟩
      intro r88 w85 hE87 hF
      have H86 := HL.ext hE87
      refine wnil ?_
      refine thenNormal ?_
      refine oneRegion ?_
      refine sq (r_move (v := .slice (ownA (some b1)) 16 16) rfl) ?_
      refine sq (r_move (v := i64 ((c : Nat))) rfl) ?_
      refine sq (r_mulI (a := (4 : Int)) (b := (c : Nat)) rfl rfl (by omega)) ?_
      refine sq (r_move (v := i64 ((r : Nat))) rfl) ?_
      refine sq (r_addI (a := (4 : Int) * (c : Nat)) (b := (r : Nat)) rfl rfl (by omega)) ?_
      refine sq (r_move (v := u8 ((t).getD ((4 * c) + r) 0#8)) rfl) ?_
      refine c_call (vs := [u8 ((t).getD ((4 * c) + r) 0#8), u8 (2#8)]) call26 rfl (times_ok ((t).getD ((4 * c) + r) 0#8) (2#8) w85) ?_
      rintro _ w89 ⟨rfl, hE90⟩
      have H91 := H86.ext hE90
      refine sq (r_move (v := u8 ((t).getD ((4 * c) + ((r + 1) % 4)) 0#8)) rfl) ?_
      refine c_call (vs := [u8 ((t).getD ((4 * c) + ((r + 1) % 4)) 0#8), u8 (3#8)]) call26 rfl (times_ok ((t).getD ((4 * c) + ((r + 1) % 4)) 0#8) (3#8) w89) ?_
      rintro _ w92 ⟨rfl, hE93⟩
      have H94 := H91.ext hE93
      refine sq (r_xor8 (a := gm ((t).getD ((4 * c) + r) 0#8) (2#8)) (b := gm ((t).getD ((4 * c) + ((r + 1) % 4)) 0#8) (3#8)) rfl rfl) ?_
      refine sq (r_move (v := u8 ((t).getD ((4 * c) + ((r + 2) % 4)) 0#8)) rfl) ?_
      refine sq (r_xor8 (a := (gm ((t).getD ((4 * c) + r) 0#8) (2#8)) ^^^ (gm ((t).getD ((4 * c) + ((r + 1) % 4)) 0#8) (3#8))) (b := (t).getD ((4 * c) + ((r + 2) % 4)) 0#8) rfl rfl) ?_
      refine sq (r_move (v := u8 ((t).getD ((4 * c) + ((r + 3) % 4)) 0#8)) rfl) ?_
      refine sq (r_xor8 (a := ((gm ((t).getD ((4 * c) + r) 0#8) (2#8)) ^^^ (gm ((t).getD ((4 * c) + ((r + 1) % 4)) 0#8) (3#8))) ^^^ ((t).getD ((4 * c) + ((r + 2) % 4)) 0#8)) (b := (t).getD ((4 * c) + ((r + 3) % 4)) 0#8) rfl rfl) ?_
      refine sq (r_idxS (E := E8) (l := mixRI t (mixRS t c) c r) (j := (4 * c) + r) sli27 (H94.rd (k := 0) rfl hS) rfl rfl (by first | rfl | omega | (simp; omega)) (by omega) (by omega)) ?_
      refine d_storeS (E := E8) (k := 0) (l := mixRI t (mixRS t c) c r) (j := (4 * c) + r) (b := (((gm ((t).getD ((4 * c) + r) 0#8) (2#8)) ^^^ (gm ((t).getD ((4 * c) + ((r + 1) % 4)) 0#8) (3#8))) ^^^ ((t).getD ((4 * c) + ((r + 2) % 4)) 0#8)) ^^^ ((t).getD ((4 * c) + ((r + 3) % 4)) 0#8)) (a := (mixRI t (mixRS t c) c r).getD ((4 * c) + r) 0#8) H94 rfl hS rfl rfl rfl rfl siz5 (at_getD (by omega)) ?_
      intro w96 hS95 H97
      have H97' := H97.as (L' := [((some b1), sob E8 5 ((mixRI t (mixRS t c) c r).set ((4 * c) + r) ((((gm ((t).getD ((4 * c) + r) 0#8) (2#8)) ^^^ (gm ((t).getD ((4 * c) + ((r + 1) % 4)) 0#8) (3#8))) ^^^ ((t).getD ((4 * c) + ((r + 2) % 4)) 0#8)) ^^^ ((t).getD ((4 * c) + ((r + 3) % 4)) 0#8))) (cel E8 (List.replicate (16 - 16) 0#8)))]) rfl
      clear H97
      refine wnil ?_
      refine blockNormal ?_
      refine thenNormal ?_
      refine oneRegion ?_
      refine sq (r_move (v := i64 ((r : Nat))) rfl) ?_
      refine sq (r_addI (a := (r : Nat)) (b := (1 : Int)) rfl rfl (by omega)) ?_
      refine sq (r_assign (v := i64 ((r : Nat) + (1 : Int))) rfl) ?_
      refine wnil ?_
      refine thenNormal ?_
      exact ⟨r + 1, _, rfl, ⟨rfl, rfl, rfl, rfl, trivial⟩, ⟨by omega, hS95, H97'⟩, by show 4 - (r + 1) < 4 - r; omega⟩
    · skip
      obtain rfl : r = 4 := by omega
      refine exitAny ?_
      refine thenExit ?_
      refine thenExit ?_
      refine blockHere ?_
      refine blockNormal ?_
      refine thenNormal ?_
      refine oneRegion ?_
      refine sq (r_move (v := i64 ((c : Nat))) rfl) ?_
      refine sq (r_addI (a := (c : Nat)) (b := (1 : Int)) rfl rfl (by omega)) ?_
      refine sq (r_assign (v := i64 ((c : Nat) + (1 : Int))) rfl) ?_
      refine wnil ?_
      refine thenNormal ?_
      exact ⟨c + 1, _, rfl, ⟨rfl, rfl, rfl, trivial⟩, ⟨by omega, hS, HL⟩, by show 4 - (c + 1) < 4 - c; omega⟩
  · skip
    obtain rfl : c = 4 := by omega
    refine exitAny ?_
    refine thenExit ?_
    refine thenExit ?_
    refine blockHere ?_
    refine thenNormal ?_
    refine seqRegion ?_
    refine sq (r_move (v := .slice (ownA (some b1)) 16 16) rfl) ?_
    refine sq (r_assign (v := .slice (ownA (some b1)) 16 16) rfl) ?_
    refine wend ?_
    refine retAny ?_
    refine retG (rs := [.tmp 2]) (vs := [.slice (ownA (some b1)) 16 16]) rfl ⟨⟨rfl, rfl⟩, trivial⟩ ?_
    exact ⟨_, rfl, HL.resN (k := 0) rfl hS hl.symm, HL.chg⟩

theorem eight_ok (x : BitVec 64) (w : World) : Calls Try.prog 29 [u64 (x)].toArray w (Ret fun v w' => SlRes E8 5 (eightS x 8).1 w v w' ∧ Ext w w') := by
  have H := Hp.start No w
  refine enter (n := 18) Try.func29 rfl rfl (Nat.le_of_ble_eq_true rfl) ?_
  refine seqRegion ?_
  refine sq (r_assign (v := .slice none 0 0) rfl) ?_
  refine wend ?_
  refine seqRegion ?_
  refine sq (r_assign (v := .slice none 0 0) rfl) ?_
  refine wend ?_
  refine seqAny ?_
  refine seqRegion ?_
  refine sq (r_assign (v := i64 ((0 : Int))) rfl) ?_
  refine wend ?_
  refine blockAny ?_
  refine loopAny (σ := Nat × Option Nat × Nat × List Value) (fun (i, key, c, sp) => [(0, u64 ((eightS x i).2)), (3, .slice (ownA key) i c), (4, i64 ((i : Nat)))]) (fun (i, key, c, sp) w' => i ≤ 8 ∧ Sl E8 key (eightS x i).1 c sp ∧ Hp No w w' [(key, sob E8 5 ((eightS x i).1) sp)]) (fun (i, key, c, sp) => 8 - i) ((0, none, 0, [])) ?_ ?_ ?_
  · exact ⟨rfl, rfl, rfl, trivial⟩
  · exact ⟨by omega, Sl.none, H.nil (sob E8 5 [] [])⟩
  rintro ⟨i, key, c, sp⟩ ρ w1 ⟨hi, hS, HL⟩
  have hl := eightS_len x i
  refine seqAny ?_
  refine seqRegion ?_
  refine sq (r_move (v := i64 ((i : Nat))) rfl) ?_
  refine sq (r_lssI (a := (i : Nat)) (b := (8 : Int)) rfl rfl) ?_
  refine wend ?_
  refine condProp ((i : Nat) < (8 : Int)) rfl (fun hk6 => ?_) (fun hk6 => ?_)
  · skip
    refine skipAny ?_
    refine thenNormal ?_
    refine seqAny ?_
    refine blockAny ?_
    refine seqRegion ?_
    refine sq (r_move (v := .slice (ownA key) i c) rfl) ?_
    refine sq (r_move (v := u64 ((eightS x i).2)) rfl) ?_
    refine sq (r_rem64 (a := (eightS x i).2) (b := 256#64) rfl rfl (by decide)) ?_
    refine sq (r_64to8 und34 und5 (a := ((eightS x i).2) % (256#64)) rfl) ?_
    refine q_buildSlice (E := E8) (l := [(((eightS x i).2) % (256#64)).setWidth 8]) HL sli27 zer5 (Nat.le_of_ble_eq_true rfl) (ps := [(0, u8 ((((eightS x i).2) % (256#64)).setWidth 8))]) rfl (by exact fillAll rfl rfl) rfl ?_
    intro b3 w5 hS4 H6 _
    refine q_append (E := E8) (k := 1) (l := (eightS x i).1) (l2 := [(((eightS x i).2) % (256#64)).setWidth 8]) H6 rfl hS sli27 zer5 rfl byt5 (H6.rd (k := 0) rfl hS4) rfl (by omega) rfl (by rfl) (by omega) ?_
    intro key7 c8 sp9 w11 hS10 hne13 H12
    have H12' := H12.as (L' := [((some b3), sob E8 5 ([(((eightS x i).2) % (256#64)).setWidth 8]) ([])), (key7, sob E8 5 (((eightS x i).1) ++ ([(((eightS x i).2) % (256#64)).setWidth 8])) sp9)]) rfl
    clear H12
    refine sq (r_assign (v := .slice (ownA key7) (i + 1) c8) rfl) ?_
    have H14 := H12'.dropk 0
    have H14' := H14.as (L' := [(key7, sob E8 5 (((eightS x i).1) ++ ([(((eightS x i).2) % (256#64)).setWidth 8])) sp9)]) rfl
    refine wend ?_
    refine oneRegion ?_
    refine sq (r_move (v := u64 ((eightS x i).2)) rfl) ?_
    refine sq (r_quo64 (a := (eightS x i).2) (b := 256#64) rfl rfl (by decide)) ?_
    refine sq (r_assign (v := u64 (((eightS x i).2) / (256#64))) rfl) ?_
    refine wnil ?_
    refine blockNormal ?_
    refine thenNormal ?_
    refine oneRegion ?_
    refine sq (r_move (v := i64 ((i : Nat))) rfl) ?_
    refine sq (r_addI (a := (i : Nat)) (b := (1 : Int)) rfl rfl (by omega)) ?_
    refine sq (r_assign (v := i64 ((i : Nat) + (1 : Int))) rfl) ?_
    refine wnil ?_
    refine thenNormal ?_
    exact ⟨(i + 1, key7, c8, sp9), _, rfl, ⟨rfl, rfl, rfl, trivial⟩, ⟨by omega, hS10, H14'⟩, by show 8 - (i + 1) < 8 - i; omega⟩
  · skip
    obtain rfl : i = 8 := by omega
    refine exitAny ?_
    refine thenExit ?_
    refine thenExit ?_
    refine blockHere ?_
    refine thenNormal ?_
    refine seqRegion ?_
    refine sq (r_move (v := .slice (ownA key) 8 c) rfl) ?_
    refine sq (r_assign (v := .slice (ownA key) 8 c) rfl) ?_
    refine wend ?_
    refine retAny ?_
    refine retG (rs := [.tmp 2]) (vs := [.slice (ownA key) 8 c]) rfl ⟨⟨rfl, rfl⟩, trivial⟩ ?_
    exact ⟨_, rfl, HL.resN (k := 0) rfl hS hl.symm, HL.chg⟩

theorem whole_ok (b : List By) (hb : b.length = 8) (xb : Option Addr) (cb : Nat) (w : World) (hB : Rd E8 w xb b) : Calls Try.prog 30 [.slice xb 8 cb].toArray w (Ret fun v w' => v = u64 (wholeS b 8) ∧ Ext w w') := by
  have H := Hp.start No w
  refine enter (n := 18) Try.func30 rfl rfl (Nat.le_of_ble_eq_true rfl) ?_
  refine seqRegion ?_
  refine sq (r_assign (v := u64 (0#64)) rfl) ?_
  refine wend ?_
  refine seqRegion ?_
  refine sq (r_assign (v := u64 (0#64)) rfl) ?_
  refine wend ?_
  refine seqAny ?_
  refine seqRegion ?_
  refine sq (r_assign (v := i64 ((7 : Int))) rfl) ?_
  refine wend ?_
  refine blockAny ?_
  refine loopAny (σ := Nat) (fun k => [(0, .slice xb 8 cb), (3, u64 (wholeS b k)), (4, i64 (7 - (k : Nat)))]) (fun k w' => k ≤ 8 ∧ Hp No w w' []) (fun k => 8 - k) (0) ?_ ?_ ?_
  · exact ⟨rfl, rfl, rfl, trivial⟩
  · exact ⟨by omega, H⟩
  rintro k ρ w1 ⟨hk, H2⟩
  refine seqAny ?_
  refine seqRegion ?_
  refine sq (r_move (v := i64 (7 - (k : Nat))) rfl) ?_
  refine sq (r_geqI (a := 7 - (k : Nat)) (b := (0 : Int)) rfl rfl) ?_
  refine wend ?_
  refine condProp ((0 : Int) ≤ (7 - (k : Nat))) rfl (fun hk6 => ?_) (fun hk6 => ?_)
  · skip
    refine skipAny ?_
    refine thenNormal ?_
    refine seqAny ?_
    refine blockAny ?_
    refine oneRegion ?_
    refine sq (r_move (v := u64 (wholeS b k)) rfl) ?_
    refine sq (r_mul64 (a := wholeS b k) (b := 256#64) rfl rfl) ?_
    refine sq (r_move (v := .slice xb 8 cb) rfl) ?_
    refine sq (r_move (v := i64 (7 - (k : Nat))) rfl) ?_
    refine sq (r_idxS (E := E8) (l := b) (j := 7 - k) sli27 (hB.ext H2.chg) rfl rfl (by omega) (by omega) (by omega)) ?_
    refine sq (r_ldS (E := E8) (l := b) (j := 7 - k) (v := (b).getD (7 - k) 0#8) fits5 (hB.ext H2.chg) rfl rfl (at_getD (by omega))) ?_
    refine sq (r_8to64 und5 und34 (a := (b).getD (7 - k) 0#8) rfl) ?_
    refine sq (r_add64 (a := (wholeS b k) * (256#64)) (b := ((b).getD (7 - k) 0#8).setWidth 64) rfl rfl) ?_
    refine sq (r_assign (v := u64 (((wholeS b k) * (256#64)) + (((b).getD (7 - k) 0#8).setWidth 64))) rfl) ?_
    refine wnil ?_
    refine blockNormal ?_
    refine thenNormal ?_
    refine oneRegion ?_
    refine sq (r_move (v := i64 (7 - (k : Nat))) rfl) ?_
    refine sq (r_subI (a := 7 - (k : Nat)) (b := (1 : Int)) rfl rfl (by omega)) ?_
    refine sq (r_assign (v := i64 ((7 - (k : Nat)) - (1 : Int))) rfl) ?_
    refine wnil ?_
    refine thenNormal ?_
    exact ⟨k + 1, _, rfl, ⟨rfl, rfl, congrArg i64 (by omega), trivial⟩, ⟨by omega, H2⟩, by show 8 - (k + 1) < 8 - k; omega⟩
  · skip
    obtain rfl : k = 8 := by omega
    refine exitAny ?_
    refine thenExit ?_
    refine thenExit ?_
    refine blockHere ?_
    refine thenNormal ?_
    refine seqRegion ?_
    refine sq (r_move (v := u64 (wholeS b 8)) rfl) ?_
    refine sq (r_assign (v := u64 (wholeS b 8)) rfl) ?_
    refine wend ?_
    refine retAny ?_
    refine retG (rs := [.tmp 2]) (vs := [u64 (wholeS b 8)]) rfl ⟨⟨rfl, rfl⟩, trivial⟩ ?_
    exact ⟨_, rfl, rfl, H2.chg⟩

theorem rdouble_ok (a b : BitVec 64) (w : World) : Calls Try.prog 32 [.agg (cel E64 [a, b]).toArray].toArray w (Ret fun v w' => v = .agg (cel E64 [(dblR a b).1, (dblR a b).2]).toArray ∧ Ext w w') := by
  have H := Hp.start No w
  refine enter (n := 23) Try.func32 rfl rfl (Nat.le_of_ble_eq_true rfl) ?_
  refine seqRegion ?_
  refine q_box (v := .agg (cel E64 [a, b]).toArray) (o := .cells (cel E64 ([a, b])).toArray 39 (0, 0)) H rfl (by rfl) ?_
  intro b1 w2 hb1 H3 _
  refine q_alloc (o := .cells (cel E64 ([0#64, 0#64])).toArray 39 (0, 0)) H3 zer39 (by kernel_rfl) ?_
  intro b4 w5 hb4 H6 _
  refine wend ?_
  refine seqRegion ?_
  refine sq (r_indexA (off' := 0) (j := 0) arr39 (b := b1) (off := 0) rfl rfl (by first | rfl | omega | (simp; omega)) (by omega) (by omega)) ?_
  refine sq (r_ld1 (E := E64) (l := [a, b]) (j := 0) (a := a) fits34 (H6.get (k := 1) rfl) (by rfl) rfl rfl) ?_
  refine sq (r_mul64 (a := a) (b := 2#64) rfl rfl) ?_
  refine sq (r_assign (v := u64 (a * (2#64))) rfl) ?_
  refine wend ?_
  refine seqRegion ?_
  refine sq (r_indexA (off' := 1) (j := 1) arr39 (b := b1) (off := 0) rfl rfl (by first | rfl | omega | (simp; omega)) (by omega) (by omega)) ?_
  refine sq (r_ld1 (E := E64) (l := [a, b]) (j := 1) (a := b) fits34 (H6.get (k := 1) rfl) (by rfl) rfl rfl) ?_
  refine sq (r_mul64 (a := b) (b := 2#64) rfl rfl) ?_
  refine sq (r_indexA (off' := 0) (j := 0) arr39 (b := b1) (off := 0) rfl rfl (by first | rfl | omega | (simp; omega)) (by omega) (by omega)) ?_
  refine sq (r_ld1 (E := E64) (l := [a, b]) (j := 0) (a := a) fits34 (H6.get (k := 1) rfl) (by rfl) rfl rfl) ?_
  refine sq (r_quo64 (a := a) (b := 9223372036854775808#64) rfl rfl (by decide)) ?_
  refine sq (r_add64 (a := b * (2#64)) (b := a / (9223372036854775808#64)) rfl rfl) ?_
  refine sq (r_assign (v := u64 ((b * (2#64)) + (a / (9223372036854775808#64)))) rfl) ?_
  refine wend ?_
  refine seqAny ?_
  refine seqRegion ?_
  refine sq (r_indexA (off' := 1) (j := 1) arr39 (b := b1) (off := 0) rfl rfl (by first | rfl | omega | (simp; omega)) (by omega) (by omega)) ?_
  refine sq (r_ld1 (E := E64) (l := [a, b]) (j := 1) (a := b) fits34 (H6.get (k := 1) rfl) (by rfl) rfl rfl) ?_
  refine sq (r_geq64 (a := b) (b := 9223372036854775808#64) rfl rfl) ?_
  refine wend ?_
  refine condProp ((9223372036854775808#64).toNat ≤ b.toNat) rfl (fun c => ?_) (fun c => ?_)
  · skip
    refine oneRegion ?_
    refine sq (r_move (v := u64 (a * (2#64))) rfl) ?_
    refine sq (r_xor64 (a := a * (2#64)) (b := 135#64) rfl rfl) ?_
    refine sq (r_assign (v := u64 ((a * (2#64)) ^^^ (135#64))) rfl) ?_
    refine wnil ?_
    refine thenNormal ?_
    refine seqRegion ?_
    refine sq (r_move (v := u64 ((a * (2#64)) ^^^ (135#64))) rfl) ?_
    refine sq (r_move (v := u64 ((b * (2#64)) + (a / (9223372036854775808#64)))) rfl) ?_
    refine sq (r_buildA (cs' := (cel E64 [(a * (2#64)) ^^^ (135#64), (b * (2#64)) + (a / (9223372036854775808#64))]).toArray) (ps := [(0, u64 ((a * (2#64)) ^^^ (135#64))), (1, u64 ((b * (2#64)) + (a / (9223372036854775808#64))))]) zer39 arr39 rfl (by rfl)) ?_
    refine d_store (k := 0) (v := .agg (cel E64 [(a * (2#64)) ^^^ (135#64), (b * (2#64)) + (a / (9223372036854775808#64))]).toArray) (cs' := (cel E64 ([(a * (2#64)) ^^^ (135#64), (b * (2#64)) + (a / (9223372036854775808#64))])).toArray) H6 rfl rfl rfl siz39 (by exact celSize (by first | rfl | (show _ * 1 = _; omega))) (by exact celOne _) (by rw [List.size_toArray, cel_length]; show _ ≤ _ * 1; first | omega | (simp only [List.length_set]; omega) | exact Nat.le_of_ble_eq_true rfl | (simp <;> omega)) (by exact putAll (by first | rfl | omega | (simp <;> omega))) ?_
    intro w7 H8 _
    have H8' := H8.as (L' := [(some b4, .cells (cel E64 ([(a * (2#64)) ^^^ (135#64), (b * (2#64)) + (a / (9223372036854775808#64))])).toArray 39 (0, 0)), (some b1, .cells (cel E64 ([a, b])).toArray 39 (0, 0))]) rfl
    clear H8
    refine wend ?_
    refine retAny ?_
    refine retG (rs := [.cell 2 39]) (vs := [.agg (cel E64 ([(a * (2#64)) ^^^ (135#64), (b * (2#64)) + (a / (9223372036854775808#64))])).toArray]) rfl ⟨r_loadA (cs' := (cel E64 ([(a * (2#64)) ^^^ (135#64), (b * (2#64)) + (a / (9223372036854775808#64))])).toArray) agg39 siz39 (H8'.get (k := 0) rfl) (off := 0) rfl (by exact Nat.le_of_ble_eq_true rfl) (by exact ext_all rfl), trivial⟩ ?_
    have e : dblR a b = ((a * (2#64)) ^^^ (135#64), (b * (2#64)) + (a / (9223372036854775808#64))) := by simp only [dblR]; first | rw [if_pos c] | rw [if_neg c]
    exact ⟨_, rfl, by rw [e]; rfl, H8'.chg⟩
  · skip
    refine skipAny ?_
    refine thenNormal ?_
    refine seqRegion ?_
    refine sq (r_move (v := u64 (a * (2#64))) rfl) ?_
    refine sq (r_move (v := u64 ((b * (2#64)) + (a / (9223372036854775808#64)))) rfl) ?_
    refine sq (r_buildA (cs' := (cel E64 [a * (2#64), (b * (2#64)) + (a / (9223372036854775808#64))]).toArray) (ps := [(0, u64 (a * (2#64))), (1, u64 ((b * (2#64)) + (a / (9223372036854775808#64))))]) zer39 arr39 rfl (by rfl)) ?_
    refine d_store (k := 0) (v := .agg (cel E64 [a * (2#64), (b * (2#64)) + (a / (9223372036854775808#64))]).toArray) (cs' := (cel E64 ([a * (2#64), (b * (2#64)) + (a / (9223372036854775808#64))])).toArray) H6 rfl rfl rfl siz39 (by exact celSize (by first | rfl | (show _ * 1 = _; omega))) (by exact celOne _) (by rw [List.size_toArray, cel_length]; show _ ≤ _ * 1; first | omega | (simp only [List.length_set]; omega) | exact Nat.le_of_ble_eq_true rfl | (simp <;> omega)) (by exact putAll (by first | rfl | omega | (simp <;> omega))) ?_
    intro w9 H10 _
    have H10' := H10.as (L' := [(some b4, .cells (cel E64 ([a * (2#64), (b * (2#64)) + (a / (9223372036854775808#64))])).toArray 39 (0, 0)), (some b1, .cells (cel E64 ([a, b])).toArray 39 (0, 0))]) rfl
    clear H10
    refine wend ?_
    refine retAny ?_
    refine retG (rs := [.cell 2 39]) (vs := [.agg (cel E64 ([a * (2#64), (b * (2#64)) + (a / (9223372036854775808#64))])).toArray]) rfl ⟨r_loadA (cs' := (cel E64 ([a * (2#64), (b * (2#64)) + (a / (9223372036854775808#64))])).toArray) agg39 siz39 (H10'.get (k := 0) rfl) (off := 0) rfl (by exact Nat.le_of_ble_eq_true rfl) (by exact ext_all rfl), trivial⟩ ?_
    have e : dblR a b = (a * (2#64), (b * (2#64)) + (a / (9223372036854775808#64))) := by simp only [dblR]; first | rw [if_pos c] | rw [if_neg c]
    exact ⟨_, rfl, by rw [e]; rfl, H10'.chg⟩

theorem renc_ok (ks bx b : List By) (hks : ks.length = 176) (hbx : bx.length = 256) (hbl : b.length = 16) (xk xb xl : Option Addr) (ck cb cl : Nat) (hck : 176 ≤ ck) (w : World) (hK : Rd E8 w xk ks) (hB : Rd E8 w xb bx) (hL : Rd E8 w xl b) : Calls Try.prog 11 [.agg #[.slice xk 176 ck, .slice xb 256 cb], .slice xl 16 cl].toArray w (Ret fun v w' => SlRes E8 5 (encR ks bx b 10) w v w' ∧ Ext w w') := by
  have H := Hp.start No w
  refine enter (n := 63) Try.func11 rfl rfl (Nat.le_of_ble_eq_true rfl) ?_
  refine seqRegion ?_
  refine q_box (v := .agg #[.slice xk 176 ck, .slice xb 256 cb]) (o := .cells #[.slice xk 176 ck, .slice xb 256 cb] 30 (0, 0)) H rfl (by rfl) ?_
  intro b1 w2 hb1 H3 _
  refine sq (r_assign (v := .slice none 0 0) rfl) ?_
  refine wend ?_
  refine seqRegion ?_
  refine sq (r_move (v := .slice xl 16 cl) rfl) ?_
  refine sq (r_fieldAddr (off' := 0) fld30_0 (by decide) (b := b1) (off := 0) rfl (by omega)) ?_
  refine sq (r_loadC (v := .slice xk 176 ck) one27 (H3.get (k := 0) rfl) (off := 0) rfl (by rfl)) ?_
  refine sq ((r_sliceS (l := 0) (h := 16) sli27 rfl (.inr ⟨rfl, rfl⟩) (.inl ⟨_, _, _, rfl, rfl, by first | rfl | omega | (simp; omega)⟩) (by omega) (by omega)).as (v' := .slice (if ck = 0 then xk else adr xk (0 * 1)) 16 (ck - 0)) (by rw [show 16 - 0 = 16 by omega])) ?_
  refine c_call (vs := [.slice xl 16 cl, .slice (if ck = 0 then xk else adr xk (0 * 1)) 16 (ck - 0)]) call23 rfl (add_ok b ((ks.drop 0).take (16)) (by first | omega | (rw [List.length_take, List.length_drop]; omega)) (by first | omega | (rw [List.length_take, List.length_drop]; omega)) xl (if ck = 0 then xk else adr xk (0 * 1)) cl (ck - 0) w2 (hL.ext H3.chg) (Rd.sub (hK.ext H3.chg) 0 (16) (m := ck) (fun e => by first | exact absurd e (by omega) | (rw [show 16 = 0 by omega]; rfl)))) ?_
  rintro _ w4 ⟨⟨key6, c7, sp8, rfl, hS9, hk10⟩, hE11⟩
  rw [show (addR b ((ks.drop 0).take (16)) 16).length = 16 from addR_len _ _ _]
  have H12 := H3.add hE11 hk10
  refine sq (r_assign (v := .slice (ownA key6) 16 c7) rfl) ?_
  have hb0 : (encR ks bx b 0).length = 16 := encR_len _ _ _ _
  have e13 : addR b ((ks.drop 0).take (16)) 16 = encR ks bx b 0 := by rw [encR]
  have hS14 := hS9
  rw [e13] at hS14
  have H15 := H12.as (L' := [(key6, sob E8 5 (encR ks bx b 0) sp8), (some b1, .cells #[.slice xk 176 ck, .slice xb 256 cb] 30 (0, 0))]) (by rw [e13])
  refine wend ?_
  refine seqAny ?_
  refine seqRegion ?_
  refine sq (r_assign (v := i64 ((1 : Int))) rfl) ?_
  refine wend ?_
  refine blockAny ?_
  refine loopAny (σ := Nat × Option Nat × Nat × List Value) (fun (k, key, cc, sp) => [(2, .pointer (some ⟨b1, 0, none⟩)), (5, .slice (ownA key) 16 cc), (6, i64 ((k + 1 : Nat)))]) (fun (k, key, cc, sp) w' => k ≤ 10 ∧ Sl E8 key (encR ks bx b k) cc sp ∧ Hp No w w' [(key, sob E8 5 (encR ks bx b k) sp), (some b1, .cells #[.slice xk 176 ck, .slice xb 256 cb] 30 (0, 0))]) (fun (k, key, cc, sp) => 10 - k) ((0, key6, c7, sp8)) ?_ ?_ ?_
  · exact ⟨rfl, rfl, rfl, trivial⟩
  · exact ⟨by omega, hS14, H15⟩
  rintro ⟨k, key, cc, sp⟩ ρ w16 ⟨hk, hS, HL⟩
  have hl := encR_len ks bx b k
  refine seqAny ?_
  refine seqRegion ?_
  refine sq (r_move (v := i64 ((k + 1 : Nat))) rfl) ?_
  refine sq (r_leqI (a := (k + 1 : Nat)) (b := (10 : Int)) rfl rfl) ?_
  refine wend ?_
  refine condProp ((k + 1 : Nat) ≤ (10 : Int)) rfl (fun hk16 => ?_) (fun hk16 => ?_)
  · skip
    refine skipAny ?_
    refine thenNormal ?_
    refine seqAny ?_
    refine blockAny ?_
    refine seqRegion ?_
    refine q_makeSlice (E := E8) (m := 16) (c := 16) (z0 := 0#8) HL sli27 zer5 rfl byt5 rfl rfl (by first | rfl | omega | (simp; omega)) (by first | rfl | omega | (simp; omega)) (by omega) (by omega) ?_
    intro b18 w20 hS19 H21 _
    refine sq (r_assign (v := .slice (ownA (some b18)) 16 16) rfl) ?_
    refine wend ?_
    refine seqAny ?_
    refine seqRegion ?_
    refine sq (r_assign (v := i64 ((0 : Int))) rfl) ?_
    refine wend ?_
    refine blockAny ?_
    refine loopAny (σ := Nat) (fun c => [(2, .pointer (some ⟨b1, 0, none⟩)), (5, .slice (ownA key) 16 cc), (6, i64 ((k + 1 : Nat))), (7, .slice (ownA (some b18)) 16 16), (8, i64 ((c : Nat)))]) (fun c w' => c ≤ 4 ∧ Sl E8 (some b18) (shRS bx (encR ks bx b k) c) 16 (cel E8 (List.replicate (16 - 16) 0#8)) ∧ Hp No w w' [((some b18), sob E8 5 (shRS bx (encR ks bx b k) c) (cel E8 (List.replicate (16 - 16) 0#8))), (key, sob E8 5 (encR ks bx b k) sp), (some b1, .cells #[.slice xk 176 ck, .slice xb 256 cb] 30 (0, 0))]) (fun c => 4 - c) (0) ?_ ?_ ?_
    · exact ⟨rfl, rfl, rfl, rfl, rfl, trivial⟩
    · exact ⟨by omega, hS19, H21⟩
    rintro c ρ w22 ⟨hc, hS2, HL2⟩
    have hl2 := shRS_len bx (encR ks bx b k) c
    refine seqAny ?_
    refine seqRegion ?_
    refine sq (r_move (v := i64 ((c : Nat))) rfl) ?_
    refine sq (r_lssI (a := (c : Nat)) (b := (4 : Int)) rfl rfl) ?_
    refine wend ?_
    refine condProp ((c : Nat) < (4 : Int)) rfl (fun hk21 => ?_) (fun hk21 => ?_)
    · skip
      refine skipAny ?_
      refine thenNormal ?_
      refine seqAny ?_
      refine blockAny ?_
      refine seqRegion ?_
      refine sq (r_assign (v := i64 ((0 : Int))) rfl) ?_
      refine wend ?_
      refine blockAny ?_
      refine loopAny (σ := Nat) (fun r => [(2, .pointer (some ⟨b1, 0, none⟩)), (5, .slice (ownA key) 16 cc), (6, i64 ((k + 1 : Nat))), (7, .slice (ownA (some b18)) 16 16), (8, i64 ((c : Nat))), (9, i64 ((r : Nat)))]) (fun r w' => r ≤ 4 ∧ Sl E8 (some b18) (shRI bx (encR ks bx b k) (shRS bx (encR ks bx b k) c) c r) 16 (cel E8 (List.replicate (16 - 16) 0#8)) ∧ Hp No w w' [((some b18), sob E8 5 (shRI bx (encR ks bx b k) (shRS bx (encR ks bx b k) c) c r) (cel E8 (List.replicate (16 - 16) 0#8))), (key, sob E8 5 (encR ks bx b k) sp), (some b1, .cells #[.slice xk 176 ck, .slice xb 256 cb] 30 (0, 0))]) (fun r => 4 - r) (0) ?_ ?_ ?_
      · exact ⟨rfl, rfl, rfl, rfl, rfl, rfl, trivial⟩
      · exact ⟨by omega, hS2, HL2⟩
      rintro r ρ w24 ⟨hr, hS3, HL3⟩
      have hl3 := shRI_len bx (encR ks bx b k) (shRS bx (encR ks bx b k) c) c r
      rw [hl2] at hl3
      refine seqAny ?_
      refine seqRegion ?_
      refine sq (r_move (v := i64 ((r : Nat))) rfl) ?_
      refine sq (r_lssI (a := (r : Nat)) (b := (4 : Int)) rfl rfl) ?_
      refine wend ?_
      refine condProp ((r : Nat) < (4 : Int)) rfl (fun hk25 => ?_) (fun hk25 => ?_)
      · skip
        refine skipAny ?_
        refine thenNormal ?_
        refine seqAny ?_
        refine blockAny ?_
        refine drawAny (K := [none, none, none, none, none, none, none, none, none, none, none, none, none, none, none, none, none, none, none, none]) [0, 0, 2, 0, 14, 0, 32, 0, 0, 0, 768, 1792, 3840, 0, 16128, 32640, 65408, 131040, 262112, 524287, 1048575] (fun w' => Ext w24 w') (fun w' w'' => Ext w' w'') mixed (by kernel_rfl) (Ext.drew _) (fun _ _ h h' => h.trans h') ?_ ?_
        · exact relNone (by decide)
        refine ⟨.slice (ownA (some b18)) 16 16, fun _ uw26 hC27 _ => Gives.run rfl (r_move (v := .slice (ownA (some b18)) 16 16) rfl) ⟨rfl, Chg.refl _ _⟩, ?_⟩
        refine ⟨i64 ((c : Nat)), fun _ uw28 hC29 _ => Gives.run rfl (r_move (v := i64 ((c : Nat))) rfl) ⟨rfl, Chg.refl _ _⟩, ?_⟩
        refine ⟨i64 ((4 : Int) * (c : Nat)), fun _ uw30 hC31 _ => Gives.run rfl (r_mulI (a := (4 : Int)) (b := (c : Nat)) rfl rfl (by omega)) ⟨rfl, Chg.refl _ _⟩, ?_⟩
        refine ⟨i64 ((r : Nat)), fun _ uw32 hC33 _ => Gives.run rfl (r_move (v := i64 ((r : Nat))) rfl) ⟨rfl, Chg.refl _ _⟩, ?_⟩
        refine ⟨i64 (((4 : Int) * (c : Nat)) + (r : Nat)), fun _ uw34 hC35 _ => Gives.run rfl (r_addI (a := (4 : Int) * (c : Nat)) (b := (r : Nat)) rfl rfl (by omega)) ⟨rfl, Chg.refl _ _⟩, ?_⟩
        refine ⟨.pointer (some ⟨b1, 1, none⟩), fun _ uw36 hC37 _ => Gives.run rfl (r_fieldAddr (off' := 1) fld30_1 (by decide) (b := b1) (off := 0) rfl (by omega)) ⟨rfl, Chg.refl _ _⟩, ?_⟩
        refine ⟨.slice xb 256 cb, fun _ uw38 hC39 _ => Gives.run rfl (r_loadC (v := .slice xb 256 cb) one27 ((HL3.ext hC39).get (k := 2) rfl) (off := 1) rfl (by rfl)) ⟨rfl, Chg.refl _ _⟩, ?_⟩
        refine ⟨.slice (ownA key) 16 cc, fun _ uw40 hC41 _ => Gives.run rfl (r_move (v := .slice (ownA key) 16 cc) rfl) ⟨rfl, Chg.refl _ _⟩, ?_⟩
        refine ⟨i64 ((c : Nat)), fun _ uw42 hC43 _ => Gives.run rfl (r_move (v := i64 ((c : Nat))) rfl) ⟨rfl, Chg.refl _ _⟩, ?_⟩
        refine ⟨i64 ((r : Nat)), fun _ uw44 hC45 _ => Gives.run rfl (r_move (v := i64 ((r : Nat))) rfl) ⟨rfl, Chg.refl _ _⟩, ?_⟩
        refine ⟨i64 ((c : Nat) + (r : Nat)), fun _ uw46 hC47 _ => Gives.run rfl (r_addI (a := (c : Nat)) (b := (r : Nat)) rfl rfl (by omega)) ⟨rfl, Chg.refl _ _⟩, ?_⟩
        refine ⟨i64 (((c : Nat) + (r : Nat)) % (4 : Int)), fun _ uw48 hC49 _ => Gives.run rfl (r_remI (a := (c : Nat) + (r : Nat)) (b := (4 : Int)) rfl rfl (by omega)) ⟨rfl, Chg.refl _ _⟩, ?_⟩
        refine ⟨i64 ((4 : Int) * (((c : Nat) + (r : Nat)) % (4 : Int))), fun _ uw50 hC51 _ => Gives.run rfl (r_mulI (a := (4 : Int)) (b := ((c : Nat) + (r : Nat)) % (4 : Int)) rfl rfl (by omega)) ⟨rfl, Chg.refl _ _⟩, ?_⟩
        refine ⟨i64 ((r : Nat)), fun _ uw52 hC53 _ => Gives.run rfl (r_move (v := i64 ((r : Nat))) rfl) ⟨rfl, Chg.refl _ _⟩, ?_⟩
        refine ⟨i64 (((4 : Int) * (((c : Nat) + (r : Nat)) % (4 : Int))) + (r : Nat)), fun _ uw54 hC55 _ => Gives.run rfl (r_addI (a := (4 : Int) * (((c : Nat) + (r : Nat)) % (4 : Int))) (b := (r : Nat)) rfl rfl (by omega)) ⟨rfl, Chg.refl _ _⟩, ?_⟩
        refine ⟨.pointer (adr (ownA key) (((4 * ((c + r) % 4)) + r) * 1)), fun _ uw56 hC57 _ => Gives.run rfl (r_idxS (E := E8) (l := encR ks bx b k) (j := (4 * ((c + r) % 4)) + r) sli27 ((HL3.ext hC57).rd (k := 1) rfl hS) rfl rfl (by first | rfl | omega | (simp; omega)) (by omega) (by omega)) ⟨rfl, Chg.refl _ _⟩, ?_⟩
        refine ⟨u8 ((encR ks bx b k).getD ((4 * ((c + r) % 4)) + r) 0#8), fun _ uw58 hC59 _ => Gives.run rfl (r_ldS (E := E8) (l := encR ks bx b k) (j := (4 * ((c + r) % 4)) + r) (v := (encR ks bx b k).getD ((4 * ((c + r) % 4)) + r) 0#8) fits5 ((HL3.ext hC59).rd (k := 1) rfl hS) rfl rfl (at_getD (by omega))) ⟨rfl, Chg.refl _ _⟩, ?_⟩
        refine ⟨.pointer (adr xb ((((encR ks bx b k).getD ((4 * ((c + r) % 4)) + r) 0#8).toNat) * 1)), fun _ uw60 hC61 _ => Gives.run rfl (r_idxS (E := E8) (l := bx) (j := ((encR ks bx b k).getD ((4 * ((c + r) % 4)) + r) 0#8).toNat) sli27 (hB.ext (HL3.ext hC61).chg) rfl rfl (by first | rfl | omega | (simp; omega)) (by omega) (by have := ((encR ks bx b k).getD (4 * ((c + r) % 4) + r) 0#8).isLt; omega)) ⟨rfl, Chg.refl _ _⟩, ?_⟩
        refine ⟨u8 ((bx).getD (((encR ks bx b k).getD ((4 * ((c + r) % 4)) + r) 0#8).toNat) 0#8), fun _ uw62 hC63 _ => Gives.run rfl (r_ldS (E := E8) (l := bx) (j := ((encR ks bx b k).getD ((4 * ((c + r) % 4)) + r) 0#8).toNat) (v := (bx).getD (((encR ks bx b k).getD ((4 * ((c + r) % 4)) + r) 0#8).toNat) 0#8) fits5 (hB.ext (HL3.ext hC63).chg) rfl rfl (at_getD (by have := ((encR ks bx b k).getD (4 * ((c + r) % 4) + r) 0#8).isLt; omega))) ⟨rfl, Chg.refl _ _⟩, ?_⟩
        refine ⟨.pointer (adr (ownA (some b18)) (((4 * c) + r) * 1)), fun _ uw64 hC65 _ => Gives.run rfl (r_idxS (E := E8) (l := shRI bx (encR ks bx b k) (shRS bx (encR ks bx b k) c) c r) (j := (4 * c) + r) sli27 ((HL3.ext hC65).rd (k := 0) rfl hS3) rfl rfl (by first | rfl | omega | (simp; omega)) (by omega) (by omega)) ⟨rfl, Chg.refl _ _⟩, ?_⟩
        intro r69 w66 hE68 hF
        have H67 := HL3.ext hE68
        refine d_storeS (E := E8) (k := 0) (l := shRI bx (encR ks bx b k) (shRS bx (encR ks bx b k) c) c r) (j := (4 * c) + r) (b := (bx).getD (((encR ks bx b k).getD ((4 * ((c + r) % 4)) + r) 0#8).toNat) 0#8) (a := (shRI bx (encR ks bx b k) (shRS bx (encR ks bx b k) c) c r).getD ((4 * c) + r) 0#8) H67 rfl hS3 rfl rfl rfl rfl siz5 (at_getD (by omega)) ?_
        intro w71 hS70 H72
        have H72' := H72.as (L' := [((some b18), sob E8 5 ((shRI bx (encR ks bx b k) (shRS bx (encR ks bx b k) c) c r).set ((4 * c) + r) ((bx).getD (((encR ks bx b k).getD ((4 * ((c + r) % 4)) + r) 0#8).toNat) 0#8)) (cel E8 (List.replicate (16 - 16) 0#8))), (key, sob E8 5 (encR ks bx b k) sp), (some b1, .cells #[.slice xk 176 ck, .slice xb 256 cb] 30 (0, 0))]) rfl
        clear H72
        refine wnil ?_
        refine blockNormal ?_
        refine thenNormal ?_
        refine oneRegion ?_
        refine sq (r_move (v := i64 ((r : Nat))) rfl) ?_
        refine sq (r_addI (a := (r : Nat)) (b := (1 : Int)) rfl rfl (by omega)) ?_
        refine sq (r_assign (v := i64 ((r : Nat) + (1 : Int))) rfl) ?_
        refine wnil ?_
        refine thenNormal ?_
        exact ⟨r + 1, _, rfl, ⟨rfl, rfl, rfl, rfl, rfl, rfl, trivial⟩, ⟨by omega, hS70, H72'⟩, by show 4 - (r + 1) < 4 - r; omega⟩
      · skip
        obtain rfl : r = 4 := by omega
        refine exitAny ?_
        refine thenExit ?_
        refine thenExit ?_
        refine blockHere ?_
        refine blockNormal ?_
        refine thenNormal ?_
        refine oneRegion ?_
        refine sq (r_move (v := i64 ((c : Nat))) rfl) ?_
        refine sq (r_addI (a := (c : Nat)) (b := (1 : Int)) rfl rfl (by omega)) ?_
        refine sq (r_assign (v := i64 ((c : Nat) + (1 : Int))) rfl) ?_
        refine wnil ?_
        refine thenNormal ?_
        exact ⟨c + 1, _, rfl, ⟨rfl, rfl, rfl, rfl, rfl, trivial⟩, ⟨by omega, hS3, HL3⟩, by show 4 - (c + 1) < 4 - c; omega⟩
    · skip
      obtain rfl : c = 4 := by omega
      refine exitAny ?_
      refine thenExit ?_
      refine thenExit ?_
      refine blockHere ?_
      refine thenNormal ?_
      refine seqAny ?_
      refine seqRegion ?_
      refine sq (r_move (v := i64 ((k + 1 : Nat))) rfl) ?_
      refine sq (r_lssI (a := (k + 1 : Nat)) (b := (10 : Int)) rfl rfl) ?_
      refine wend ?_
      refine condProp ((k + 1 : Nat) < (10 : Int)) rfl (fun hk49 => ?_) (fun hk49 => ?_)
      · skip
        refine oneRegion ?_
        refine sq (r_move (v := .slice (ownA (some b18)) 16 16) rfl) ?_
        refine c_call (vs := [.slice (ownA (some b18)) 16 16]) call24 rfl (rmix_ok (shRS bx (encR ks bx b k) 4) (by first | omega | (rw [List.length_take, List.length_drop]; omega)) (ownA (some b18)) 16 w22 (HL2.rd (k := 0) rfl hS2)) ?_
        rintro _ w73 ⟨⟨key75, c76, sp77, rfl, hS78, hk79⟩, hE80⟩
        rw [show (mixRS (shRS bx (encR ks bx b k) 4) 4).length = 16 from mixRS_len _ _]
        have H81 := HL2.add hE80 hk79
        refine sq (r_assign (v := .slice (ownA key75) 16 c76) rfl) ?_
        have e82 : mixRS (shRS bx (encR ks bx b k) 4) 4 = rndR bx (encR ks bx b k) (k + 1) := by rw [rndR, if_pos (by omega)]
        have hS83 := hS78
        rw [e82] at hS83
        have H84 := H81.as (L' := [(key75, sob E8 5 (rndR bx (encR ks bx b k) (k + 1)) sp77), ((some b18), sob E8 5 (shRS bx (encR ks bx b k) 4) (cel E8 (List.replicate (16 - 16) 0#8))), (key, sob E8 5 (encR ks bx b k) sp), (some b1, .cells #[.slice xk 176 ck, .slice xb 256 cb] 30 (0, 0))]) (by rw [e82])
        refine wnil ?_
        refine thenNormal ?_
        refine oneRegion ?_
        refine sq (r_move (v := .slice (ownA key75) 16 c76) rfl) ?_
        refine sq (r_fieldAddr (off' := 0) fld30_0 (by decide) (b := b1) (off := 0) rfl (by omega)) ?_
        refine sq (r_loadC (v := .slice xk 176 ck) one27 (H84.get (k := 3) rfl) (off := 0) rfl (by rfl)) ?_
        refine sq (r_move (v := i64 ((k + 1 : Nat))) rfl) ?_
        refine sq (r_mulI (a := (16 : Int)) (b := (k + 1 : Nat)) rfl rfl (by omega)) ?_
        refine sq (r_move (v := i64 ((k + 1 : Nat))) rfl) ?_
        refine sq (r_mulI (a := (16 : Int)) (b := (k + 1 : Nat)) rfl rfl (by omega)) ?_
        refine sq (r_addI (a := (16 : Int) * (k + 1 : Nat)) (b := (16 : Int)) rfl rfl (by omega)) ?_
        refine sq ((r_sliceS (l := 16 * (k + 1)) (h := 16 * (k + 1) + 16) sli27 rfl (.inl ⟨_, _, _, rfl, rfl, by first | rfl | omega | (simp; omega)⟩) (.inl ⟨_, _, _, rfl, rfl, by first | rfl | omega | (simp; omega)⟩) (by omega) (by omega)).as (v' := .slice (if ck = 16 * (k + 1) then xk else adr xk ((16 * (k + 1)) * 1)) 16 (ck - (16 * (k + 1)))) (by rw [show (16 * (k + 1) + 16) - (16 * (k + 1)) = 16 by omega])) ?_
        refine c_call (vs := [.slice (ownA key75) 16 c76, .slice (if ck = 16 * (k + 1) then xk else adr xk ((16 * (k + 1)) * 1)) 16 (ck - (16 * (k + 1)))]) call23 rfl (add_ok (rndR bx (encR ks bx b k) (k + 1)) ((ks.drop (16 * (k + 1))).take (16)) (by exact rndR_len _ _ _) (by first | omega | (rw [List.length_take, List.length_drop]; omega)) (ownA key75) (if ck = 16 * (k + 1) then xk else adr xk ((16 * (k + 1)) * 1)) c76 (ck - (16 * (k + 1))) w73 (H84.rd (k := 0) rfl hS83) (Rd.sub (hK.ext H84.chg) (16 * (k + 1)) (16) (m := ck) (fun e => by first | exact absurd e (by omega) | (rw [show 16 = 0 by omega]; rfl)))) ?_
        rintro _ w85 ⟨⟨key87, c88, sp89, rfl, hS90, hk91⟩, hE92⟩
        rw [show (addR (rndR bx (encR ks bx b k) (k + 1)) ((ks.drop (16 * (k + 1))).take (16)) 16).length = 16 from addR_len _ _ _]
        have H93 := H84.add hE92 hk91
        refine sq (r_assign (v := .slice (ownA key87) 16 c88) rfl) ?_
        have e94 : addR (rndR bx (encR ks bx b k) (k + 1)) ((ks.drop (16 * (k + 1))).take (16)) 16 = encR ks bx b (k + 1) := by rw [encR]
        have hS95 := hS90
        rw [e94] at hS95
        have H96 := H93.as (L' := [(key87, sob E8 5 (encR ks bx b (k + 1)) sp89), (key75, sob E8 5 (rndR bx (encR ks bx b k) (k + 1)) sp77), ((some b18), sob E8 5 (shRS bx (encR ks bx b k) 4) (cel E8 (List.replicate (16 - 16) 0#8))), (key, sob E8 5 (encR ks bx b k) sp), (some b1, .cells #[.slice xk 176 ck, .slice xb 256 cb] 30 (0, 0))]) (by rw [e94])
        refine wnil ?_
        refine blockNormal ?_
        refine thenNormal ?_
        refine oneRegion ?_
        refine sq (r_move (v := i64 ((k + 1 : Nat))) rfl) ?_
        refine sq (r_addI (a := (k + 1 : Nat)) (b := (1 : Int)) rfl rfl (by omega)) ?_
        refine sq (r_assign (v := i64 ((k + 1 : Nat) + (1 : Int))) rfl) ?_
        refine wnil ?_
        refine thenNormal ?_
        exact ⟨(k + 1, key87, c88, sp89), _, rfl, ⟨rfl, rfl, congrArg i64 (by omega), trivial⟩, ⟨by omega, hS95, (((H96.dropk 3).dropk 2).dropk 1).as rfl⟩, by show 10 - (k + 1) < 10 - k; omega⟩
      · skip
        have e97 : shRS bx (encR ks bx b k) 4 = rndR bx (encR ks bx b k) (k + 1) := by rw [rndR, if_neg (by omega)]
        have hS98 := hS2
        rw [e97] at hS98
        have H99 := HL2.as (L' := [((some b18), sob E8 5 (rndR bx (encR ks bx b k) (k + 1)) (cel E8 (List.replicate (16 - 16) 0#8))), (key, sob E8 5 (encR ks bx b k) sp), (some b1, .cells #[.slice xk 176 ck, .slice xb 256 cb] 30 (0, 0))]) (by rw [e97])
        refine skipAny ?_
        refine thenNormal ?_
        refine oneRegion ?_
        refine sq (r_move (v := .slice (ownA (some b18)) 16 16) rfl) ?_
        refine sq (r_fieldAddr (off' := 0) fld30_0 (by decide) (b := b1) (off := 0) rfl (by omega)) ?_
        refine sq (r_loadC (v := .slice xk 176 ck) one27 (H99.get (k := 2) rfl) (off := 0) rfl (by rfl)) ?_
        refine sq (r_move (v := i64 ((k + 1 : Nat))) rfl) ?_
        refine sq (r_mulI (a := (16 : Int)) (b := (k + 1 : Nat)) rfl rfl (by omega)) ?_
        refine sq (r_move (v := i64 ((k + 1 : Nat))) rfl) ?_
        refine sq (r_mulI (a := (16 : Int)) (b := (k + 1 : Nat)) rfl rfl (by omega)) ?_
        refine sq (r_addI (a := (16 : Int) * (k + 1 : Nat)) (b := (16 : Int)) rfl rfl (by omega)) ?_
        refine sq ((r_sliceS (l := 16 * (k + 1)) (h := 16 * (k + 1) + 16) sli27 rfl (.inl ⟨_, _, _, rfl, rfl, by first | rfl | omega | (simp; omega)⟩) (.inl ⟨_, _, _, rfl, rfl, by first | rfl | omega | (simp; omega)⟩) (by omega) (by omega)).as (v' := .slice (if ck = 16 * (k + 1) then xk else adr xk ((16 * (k + 1)) * 1)) 16 (ck - (16 * (k + 1)))) (by rw [show (16 * (k + 1) + 16) - (16 * (k + 1)) = 16 by omega])) ?_
        refine c_call (vs := [.slice (ownA (some b18)) 16 16, .slice (if ck = 16 * (k + 1) then xk else adr xk ((16 * (k + 1)) * 1)) 16 (ck - (16 * (k + 1)))]) call23 rfl (add_ok (rndR bx (encR ks bx b k) (k + 1)) ((ks.drop (16 * (k + 1))).take (16)) (by exact rndR_len _ _ _) (by first | omega | (rw [List.length_take, List.length_drop]; omega)) (ownA (some b18)) (if ck = 16 * (k + 1) then xk else adr xk ((16 * (k + 1)) * 1)) 16 (ck - (16 * (k + 1))) w22 (H99.rd (k := 0) rfl hS98) (Rd.sub (hK.ext H99.chg) (16 * (k + 1)) (16) (m := ck) (fun e => by first | exact absurd e (by omega) | (rw [show 16 = 0 by omega]; rfl)))) ?_
        rintro _ w100 ⟨⟨key102, c103, sp104, rfl, hS105, hk106⟩, hE107⟩
        rw [show (addR (rndR bx (encR ks bx b k) (k + 1)) ((ks.drop (16 * (k + 1))).take (16)) 16).length = 16 from addR_len _ _ _]
        have H108 := H99.add hE107 hk106
        refine sq (r_assign (v := .slice (ownA key102) 16 c103) rfl) ?_
        have e109 : addR (rndR bx (encR ks bx b k) (k + 1)) ((ks.drop (16 * (k + 1))).take (16)) 16 = encR ks bx b (k + 1) := by rw [encR]
        have hS110 := hS105
        rw [e109] at hS110
        have H111 := H108.as (L' := [(key102, sob E8 5 (encR ks bx b (k + 1)) sp104), ((some b18), sob E8 5 (rndR bx (encR ks bx b k) (k + 1)) (cel E8 (List.replicate (16 - 16) 0#8))), (key, sob E8 5 (encR ks bx b k) sp), (some b1, .cells #[.slice xk 176 ck, .slice xb 256 cb] 30 (0, 0))]) (by rw [e109])
        refine wnil ?_
        refine blockNormal ?_
        refine thenNormal ?_
        refine oneRegion ?_
        refine sq (r_move (v := i64 ((k + 1 : Nat))) rfl) ?_
        refine sq (r_addI (a := (k + 1 : Nat)) (b := (1 : Int)) rfl rfl (by omega)) ?_
        refine sq (r_assign (v := i64 ((k + 1 : Nat) + (1 : Int))) rfl) ?_
        refine wnil ?_
        refine thenNormal ?_
        exact ⟨(k + 1, key102, c103, sp104), _, rfl, ⟨rfl, rfl, congrArg i64 (by omega), trivial⟩, ⟨by omega, hS110, ((H111.dropk 2).dropk 1).as rfl⟩, by show 10 - (k + 1) < 10 - k; omega⟩
  · skip
    obtain rfl : k = 10 := by omega
    refine exitAny ?_
    refine thenExit ?_
    refine thenExit ?_
    refine blockHere ?_
    refine thenNormal ?_
    refine seqRegion ?_
    refine sq (r_move (v := .slice (ownA key) 16 cc) rfl) ?_
    refine sq (r_assign (v := .slice (ownA key) 16 cc) rfl) ?_
    refine wend ?_
    refine retAny ?_
    refine retG (rs := [.tmp 4]) (vs := [.slice (ownA key) 16 cc]) rfl ⟨⟨rfl, rfl⟩, trivial⟩ ?_
    exact ⟨_, rfl, HL.resN (k := 0) rfl hS hl.symm, HL.chg⟩

theorem rnew_ok (bx kl : List By) (hbx : bx = boxR 256) (hkl : kl.length = 16) (xq : Option Addr) (cq : Nat) (hcq : 16 ≤ cq) (w : World) (hQ : Rd E8 w xq kl) : Calls Try.prog 12 [.slice xq 16 cq].toArray w (Ret fun v w' => CiphR (expR kl bx 40).1 bx w v w' ∧ Ext w w') := by
  have H := Hp.start No w
  refine enter (n := 102) Try.func12 rfl rfl (Nat.le_of_ble_eq_true rfl) ?_
  refine seqRegion ?_
  refine q_alloc (o := .cells #[.slice none 0 0, .slice none 0 0] 30 (0, 0)) H zer30 (by kernel_rfl) ?_
  intro b1 w2 hb1 H3 _
  refine wend ?_
  refine seqRegion ?_
  refine sq (r_build (cs' := #[.slice none 0 0, .slice none 0 0]) (ps := []) zer30 pls30 rfl (by rfl)) ?_
  refine q_alloc (o := .cells #[.slice none 0 0, .slice none 0 0] 30 (0, 0)) H3 zer30 (by kernel_rfl) ?_
  intro b4 w5 hb4 H6 _
  refine d_store (k := 0) (v := .agg #[.slice none 0 0, .slice none 0 0]) (cs' := #[.slice none 0 0, .slice none 0 0]) H6 rfl rfl rfl siz30 (by rfl) (by intro u hu; simp [Value.cells] at hu; first | (subst hu; rfl) | (rcases hu with rfl | rfl <;> rfl)) (by exact Nat.le_of_ble_eq_true rfl) (by rfl) ?_
  intro w7 H8 _
  have H8' := H8.as (L' := [(some b4, .cells #[.slice none 0 0, .slice none 0 0] 30 (0, 0)), (some b1, .cells #[.slice none 0 0, .slice none 0 0] 30 (0, 0))]) rfl
  clear H8
  have H9 := H8'.nil (sob E8 5 [] [])
  have H10 := H9.nil (sob E8 5 [] [])
  have H11 := H10.as (L' := [(none, sob E8 5 ([]) ([])), (none, sob E8 5 ([]) ([])), (some b4, .cells #[.slice (ownA none) 0 0, .slice (ownA none) 0 0] 30 (0, 0)), (some b1, .cells #[.slice none 0 0, .slice none 0 0] 30 (0, 0))]) rfl
  refine wend ?_
  refine seqAny ?_
  refine seqRegion ?_
  refine sq (r_assign (v := i64 ((0 : Int))) rfl) ?_
  refine wend ?_
  refine blockAny ?_
  refine loopAny (σ := Nat × Option Nat × Nat × List Value) (fun (i, kb, cb, spb) => [(0, .slice xq 16 cq), (2, .pointer (some ⟨b1, 0, none⟩)), (3, .pointer (some ⟨b4, 0, none⟩)), (4, i64 ((i : Nat)))]) (fun (i, kb, cb, spb) w' => i ≤ 256 ∧ Sl E8 kb (boxR i) cb spb ∧ Hp No w w' [(kb, sob E8 5 (boxR i) spb), (none, sob E8 5 ([]) ([])), (some b4, .cells #[.slice (ownA none) 0 0, .slice (ownA kb) i cb] 30 (0, 0)), (some b1, .cells #[.slice none 0 0, .slice none 0 0] 30 (0, 0))]) (fun (i, kb, cb, spb) => 256 - i) ((0, none, 0, [])) ?_ ?_ ?_
  · exact ⟨rfl, rfl, rfl, rfl, trivial⟩
  · exact ⟨by omega, Sl.none, H11⟩
  rintro ⟨i, kb, cb, spb⟩ ρ w12 ⟨hi, hSb, HL⟩
  have hlb := boxR_len i
  refine seqAny ?_
  refine seqRegion ?_
  refine sq (r_move (v := i64 ((i : Nat))) rfl) ?_
  refine sq (r_lssI (a := (i : Nat)) (b := (256 : Int)) rfl rfl) ?_
  refine wend ?_
  refine condProp ((i : Nat) < (256 : Int)) rfl (fun hk11 => ?_) (fun hk11 => ?_)
  · skip
    refine skipAny ?_
    refine thenNormal ?_
    refine seqAny ?_
    refine blockAny ?_
    refine drawAny (K := [none, none, none, none, none, some (bsRel E8 5 [sR (BitVec.ofInt 8 (i : Nat))] 1 w12), some (appRel E8 5 kb (boxR i) ([sR (BitVec.ofInt 8 (i : Nat))]) (i + 1) w12), none]) [0, 1, 0, 4, 12, 28, 63, 127, 255] (AppC kb (sob E8 5 (boxR i) spb) (ob2 E8 5 (boxR i) ([sR (BitVec.ofInt 8 (i : Nat))]) cb spb) w12) (AppR kb (sob E8 5 (boxR i) spb) (ob2 E8 5 (boxR i) ([sR (BitVec.ofInt 8 (i : Nat))]) cb spb)) mixed (by kernel_rfl) (AppC.drew fun g hg => HL.has _ (List.mem_of_getElem? (i := 0) rfl) g hg) AppC.trans ?_ ?_
    · exact relAll ⟨⟨fun _ _ _ _ _ hR h => bsRel_app (fun g hg => HL.lt (List.mem_of_getElem? (i := 0) rfl) hg) hR h, fun _ _ _ _ _ h => h⟩, ⟨fun _ _ _ _ _ hR h => appRel_stable hR h, fun _ _ _ _ _ h => h⟩, trivial⟩
    refine ⟨.pointer (some ⟨b4, 1, none⟩), fun _ uw14 hC15 _ => Gives.run rfl (r_fieldAddr (off' := 1) fld30_1 (by decide) (b := b4) (off := 0) rfl (by omega)) ⟨rfl, AppR.refl⟩, ?_⟩
    refine ⟨.slice (ownA kb) i cb, fun _ uw19 hC20 _ => ?_, ?_⟩
    · obtain ⟨sp21, H22, hS23, _⟩ := hC20.hp HL (k := 0) rfl hSb
      exact Gives.run rfl (r_loadC (v := .slice (ownA kb) i cb) one27 (H22.get (k := 2) rfl) (off := 1) rfl (by rfl)) ⟨rfl, AppR.refl⟩
    refine ⟨i64 ((i : Nat)), fun _ uw24 hC25 _ => Gives.run rfl (r_move (v := i64 ((i : Nat))) rfl) ⟨rfl, AppR.refl⟩, ?_⟩
    refine ⟨u8 (BitVec.ofInt 8 (i : Nat)), fun _ uw29 hC30 _ => Gives.run rfl (r_Ito8 und3 und5 (a := (i : Nat)) rfl) ⟨rfl, AppR.refl⟩, ?_⟩
    refine ⟨u8 (sR (BitVec.ofInt 8 (i : Nat))), fun _ uw34 hC35 _ => ?_, ?_⟩
    · obtain ⟨sp36, H37, hS38, _⟩ := hC35.hp HL (k := 0) rfl hSb
      exact Gives.call rfl (Enters.callL (vs := [u8 (BitVec.ofInt 8 (i : Nat))]) call25 rfl) ((s_ok (BitVec.ofInt 8 (i : Nat)) uw34).mono fun _ _ ⟨v, h1, h2, h3⟩ => ⟨v, h1, h2, AppR.ext h3⟩)
    refine ⟨fun r uw39 hC40 hF => bsGives (E := E8) (l := [sR (BitVec.ofInt 8 (i : Nat))]) sli27 zer5 (Nat.le_of_ble_eq_true rfl) (ps := [(0, u8 (sR (BitVec.ofInt 8 (i : Nat))))]) rfl (by exact fillAll rfl rfl) hC40.1.size (fun _ h => AppR.ext h), ?_⟩
    refine ⟨fun r uw41 hC42 hF => ?_, ?_⟩
    · obtain ⟨sp46, H47, hS48, _⟩ := hC42.hp HL (k := 0) rfl hSb
      obtain ⟨b45, e43, _, h44⟩ := hF 5 _ rfl rfl
      exact appGives hC42 HL (k := 0) rfl hSb sli27 zer5 rfl byt5 (Rd.row h44) rfl (by omega) e43 (by rfl) (by omega)
    refine ⟨.pointer (some ⟨b4, 1, none⟩), fun _ uw49 hC50 _ => Gives.run rfl (r_fieldAddr (off' := 1) fld30_1 (by decide) (b := b4) (off := 0) rfl (by omega)) ⟨rfl, AppR.refl⟩, ?_⟩
    intro r57 w54 hE56 hF
    obtain ⟨key58, c59, sp60, e61, hS62, hne63, hk64⟩ := hF 6 _ rfl
    have H55 := (HL.turn (k := 0) rfl hE56.1 hk64).as (L' := [(key58, sob E8 5 ((boxR i) ++ ([sR (BitVec.ofInt 8 (i : Nat))])) sp60), (none, sob E8 5 ([]) ([])), (some b4, .cells #[.slice (ownA none) 0 0, .slice (ownA kb) i cb] 30 (0, 0)), (some b1, .cells #[.slice none 0 0, .slice none 0 0] 30 (0, 0))]) rfl
    dsimp only
    rw [e61]
    have e65 : (boxR i) ++ ([sR (BitVec.ofInt 8 (i : Nat))]) = boxR (i + 1) := by rw [boxR]
    have hS66 := hS62
    rw [e65] at hS66
    have H67 := H55.as (L' := [(key58, sob E8 5 (boxR (i + 1)) sp60), (none, sob E8 5 ([]) ([])), (some b4, .cells #[.slice (ownA none) 0 0, .slice (ownA kb) i cb] 30 (0, 0)), (some b1, .cells #[.slice none 0 0, .slice none 0 0] 30 (0, 0))]) (by rw [e65])
    refine d_store (k := 2) (v := .slice (ownA key58) (i + 1) c59) (cs' := #[.slice (ownA none) 0 0, .slice (ownA key58) (i + 1) c59]) H67 rfl rfl rfl siz27 (by rfl) (by intro u hu; simp [Value.cells] at hu; first | (subst hu; rfl) | (rcases hu with rfl <;> rfl)) (by exact Nat.le_of_ble_eq_true rfl) (by rfl) ?_
    intro w68 H69 _
    have H69' := H69.as (L' := [(key58, sob E8 5 (boxR (i + 1)) sp60), (none, sob E8 5 ([]) ([])), (some b4, .cells #[.slice (ownA none) 0 0, .slice (ownA key58) (i + 1) c59] 30 (0, 0)), (some b1, .cells #[.slice none 0 0, .slice none 0 0] 30 (0, 0))]) rfl
    clear H69
    refine wnil ?_
    refine blockNormal ?_
    refine thenNormal ?_
    refine oneRegion ?_
    refine sq (r_move (v := i64 ((i : Nat))) rfl) ?_
    refine sq (r_addI (a := (i : Nat)) (b := (1 : Int)) rfl rfl (by omega)) ?_
    refine sq (r_assign (v := i64 ((i : Nat) + (1 : Int))) rfl) ?_
    refine wnil ?_
    refine thenNormal ?_
    exact ⟨(i + 1, key58, c59, sp60), _, rfl, ⟨rfl, rfl, rfl, rfl, trivial⟩, ⟨by omega, hS66, H69'⟩, by show 256 - (i + 1) < 256 - i; omega⟩
  · skip
    obtain rfl : i = 256 := by omega
    rw [← hbx] at hSb hlb HL
    refine exitAny ?_
    refine thenExit ?_
    refine thenExit ?_
    refine blockHere ?_
    refine thenNormal ?_
    refine seqAny ?_
    refine drawAny (K := [none, none, none, none, some (appRel E8 5 none ([]) ((kl.drop 0).take (16)) (0 + 16) w12), none]) [0, 1, 0, 4, 15, 31, 63] (AppC none (sob E8 5 ([]) ([])) (ob2 E8 5 ([]) ((kl.drop 0).take (16)) 0 ([])) w12) (AppR none (sob E8 5 ([]) ([])) (ob2 E8 5 ([]) ((kl.drop 0).take (16)) 0 ([]))) mixed (by kernel_rfl) (AppC.drew fun g hg => HL.has _ (List.mem_of_getElem? (i := 1) rfl) g hg) AppC.trans ?_ ?_
    · exact relAll ⟨⟨fun _ _ _ _ _ hR h => appRel_stable hR h, fun _ _ _ _ _ h => h⟩, trivial⟩
    refine ⟨.pointer (some ⟨b4, 0, none⟩), fun _ uw70 hC71 _ => Gives.run rfl (r_fieldAddr (off' := 0) fld30_0 (by decide) (b := b4) (off := 0) rfl (by omega)) ⟨rfl, AppR.refl⟩, ?_⟩
    refine ⟨.slice (ownA none) 0 0, fun _ uw75 hC76 _ => ?_, ?_⟩
    · obtain ⟨sp77, H78, hS79, _⟩ := hC76.hp HL (k := 1) rfl Sl.none
      exact Gives.run rfl (r_loadC (v := .slice (ownA none) 0 0) one27 (H78.get (k := 2) rfl) (off := 0) rfl (by rfl)) ⟨rfl, AppR.refl⟩
    refine ⟨.slice xq 16 cq, fun _ uw80 hC81 _ => Gives.run rfl (r_move (v := .slice xq 16 cq) rfl) ⟨rfl, AppR.refl⟩, ?_⟩
    refine ⟨.slice (if cq = 0 then xq else adr xq (0 * 1)) 16 (cq - 0), fun _ uw85 hC86 _ => ?_, ?_⟩
    · obtain ⟨sp87, H88, hS89, _⟩ := hC86.hp HL (k := 1) rfl Sl.none
      exact Gives.run rfl ((r_sliceS (l := 0) (h := 16) sli27 rfl (.inr ⟨rfl, rfl⟩) (.inl ⟨_, _, _, rfl, rfl, by first | rfl | omega | (simp; omega)⟩) (by omega) (by omega)).as (v' := .slice (if cq = 0 then xq else adr xq (0 * 1)) 16 (cq - 0)) (by rw [show 16 - 0 = 16 by omega])) ⟨rfl, AppR.refl⟩
    refine ⟨fun r uw90 hC91 hF => ?_, ?_⟩
    · obtain ⟨sp92, H93, hS94, _⟩ := hC91.hp HL (k := 1) rfl Sl.none
      exact appGives hC91 HL (k := 1) rfl Sl.none sli27 zer5 rfl byt5 (Rd.sub (hQ.ext H93.chg) 0 (16) (m := cq) (fun e => by first | exact absurd e (by omega) | (rw [show 16 = 0 by omega]; rfl))) rfl (by rfl) rfl (by rw [List.length_take, List.length_drop]; omega) (by omega)
    refine ⟨.pointer (some ⟨b4, 0, none⟩), fun _ uw95 hC96 _ => Gives.run rfl (r_fieldAddr (off' := 0) fld30_0 (by decide) (b := b4) (off := 0) rfl (by omega)) ⟨rfl, AppR.refl⟩, ?_⟩
    intro r103 w100 hE102 hF
    obtain ⟨key104, c105, sp106, e107, hS108, hne109, hk110⟩ := hF 4 _ rfl
    have H101 := (HL.turn (k := 1) rfl hE102.1 hk110).as (L' := [(kb, sob E8 5 bx spb), (key104, sob E8 5 (([]) ++ ((kl.drop 0).take (16))) sp106), (some b4, .cells #[.slice (ownA none) 0 0, .slice (ownA kb) 256 cb] 30 (0, 0)), (some b1, .cells #[.slice none 0 0, .slice none 0 0] 30 (0, 0))]) rfl
    dsimp only
    rw [e107]
    have e111 : ([]) ++ ((kl.drop 0).take (16)) = (expR kl bx 0).1 := by rw [expR]; rfl
    have hS112 := hS108
    rw [e111] at hS112
    have H113 := H101.as (L' := [(kb, sob E8 5 bx spb), (key104, sob E8 5 ((expR kl bx 0).1) sp106), (some b4, .cells #[.slice (ownA none) 0 0, .slice (ownA kb) 256 cb] 30 (0, 0)), (some b1, .cells #[.slice none 0 0, .slice none 0 0] 30 (0, 0))]) (by rw [e111])
    refine d_store (k := 2) (v := .slice (ownA key104) (0 + 16) c105) (cs' := #[.slice (ownA key104) (0 + 16) c105, .slice (ownA kb) 256 cb]) H113 rfl rfl rfl siz27 (by rfl) (by intro u hu; simp [Value.cells] at hu; first | (subst hu; rfl) | (rcases hu with rfl <;> rfl)) (by exact Nat.le_of_ble_eq_true rfl) (by rfl) ?_
    intro w114 H115 _
    have H115' := H115.as (L' := [(kb, sob E8 5 bx spb), (key104, sob E8 5 ((expR kl bx 0).1) sp106), (some b4, .cells #[.slice (ownA key104) (0 + 16) c105, .slice (ownA kb) 256 cb] 30 (0, 0)), (some b1, .cells #[.slice none 0 0, .slice none 0 0] 30 (0, 0))]) rfl
    clear H115
    refine wnil ?_
    refine thenNormal ?_
    refine seqRegion ?_
    refine sq (r_assign (v := u8 (1#8)) rfl) ?_
    refine wend ?_
    refine seqAny ?_
    refine seqRegion ?_
    refine sq (r_assign (v := i64 ((4 : Int))) rfl) ?_
    refine wend ?_
    refine blockAny ?_
    refine loopAny (σ := Nat × Option Nat × Nat × List Value) (fun (k, kk, kc, ksp) => [(0, .slice xq 16 cq), (2, .pointer (some ⟨b1, 0, none⟩)), (3, .pointer (some ⟨b4, 0, none⟩)), (5, u8 ((expR kl bx k).2)), (6, i64 ((k + 4 : Nat)))]) (fun (k, kk, kc, ksp) w' => k ≤ 40 ∧ Sl E8 kk ((expR kl bx k).1) kc ksp ∧ Hp No w w' [(kb, sob E8 5 bx spb), (kk, sob E8 5 ((expR kl bx k).1) ksp), (some b4, .cells #[.slice (ownA kk) (16 + 4 * k) kc, .slice (ownA kb) 256 cb] 30 (0, 0)), (some b1, .cells #[.slice none 0 0, .slice none 0 0] 30 (0, 0))]) (fun (k, kk, kc, ksp) => 40 - k) ((0, key104, c105, sp106)) ?_ ?_ ?_
    · exact ⟨rfl, rfl, rfl, rfl, rfl, trivial⟩
    · exact ⟨by omega, hS112, H115'⟩
    rintro ⟨k, kk, kc, ksp⟩ ρ w116 ⟨hk, hSk, HL⟩
    have hl := expR_len kl bx hkl k
    have hls := expS_len _ k hl
    have hcap := hSk.cap
    refine seqAny ?_
    refine seqRegion ?_
    refine sq (r_move (v := i64 ((k + 4 : Nat))) rfl) ?_
    refine sq (r_lssI (a := (k + 4 : Nat)) (b := (44 : Int)) rfl rfl) ?_
    refine wend ?_
    refine condProp ((k + 4 : Nat) < (44 : Int)) rfl (fun hk29 => ?_) (fun hk29 => ?_)
    · skip
      refine skipAny ?_
      refine thenNormal ?_
      refine seqAny ?_
      refine blockAny ?_
      refine seqRegion ?_
      refine q_buildSlice (E := E8) (l := []) HL sli27 zer5 (Nat.le_of_ble_eq_true rfl) (ps := []) rfl (by exact fillAll rfl rfl) rfl ?_
      intro b118 w120 hS119 H121 _
      refine sq (r_fieldAddr (off' := 0) fld30_0 (by decide) (b := b4) (off := 0) rfl (by omega)) ?_
      refine sq (r_loadC (v := .slice (ownA kk) (16 + 4 * k) kc) one27 (H121.get (k := 3) rfl) (off := 0) rfl (by rfl)) ?_
      refine sq (r_move (v := i64 ((k + 4 : Nat))) rfl) ?_
      refine sq (r_mulI (a := (4 : Int)) (b := (k + 4 : Nat)) rfl rfl (by omega)) ?_
      refine sq (r_subI (a := (4 : Int) * (k + 4 : Nat)) (b := (4 : Int)) rfl rfl (by omega)) ?_
      refine sq (r_move (v := i64 ((k + 4 : Nat))) rfl) ?_
      refine sq (r_mulI (a := (4 : Int)) (b := (k + 4 : Nat)) rfl rfl (by omega)) ?_
      refine sq ((r_sliceS (l := 4 * k + 12) (h := 4 * (k + 4)) sli27 rfl (.inl ⟨_, _, _, rfl, rfl, by first | rfl | omega | (simp; omega)⟩) (.inl ⟨_, _, _, rfl, rfl, by first | rfl | omega | (simp; omega)⟩) (by omega) (by omega)).as (v' := .slice (if kc = 4 * k + 12 then ownA kk else adr (ownA kk) ((4 * k + 12) * 1)) 4 (kc - (4 * k + 12))) (by rw [show (4 * (k + 4)) - (4 * k + 12) = 4 by omega])) ?_
      refine q_append (E := E8) (k := 0) (l := []) (l2 := (((expR kl bx k).1).drop (4 * k + 12)).take (4)) H121 rfl hS119 sli27 zer5 rfl byt5 (Rd.sub (H121.rd (k := 2) rfl hSk) (4 * k + 12) (4) (m := kc) (fun e => by first | exact absurd e (by omega) | (rw [show 4 = 0 by omega]; rfl))) rfl (by rfl) rfl (by rw [List.length_take, List.length_drop]; omega) (by omega) ?_
      intro key122 c123 sp124 w126 hS125 hne128 H127
      have H127' := H127.as (L' := [(key122, sob E8 5 (([]) ++ ((((expR kl bx k).1).drop (4 * k + 12)).take (4))) sp124), (kb, sob E8 5 bx spb), (kk, sob E8 5 ((expR kl bx k).1) ksp), (some b4, .cells #[.slice (ownA kk) (16 + 4 * k) kc, .slice (ownA kb) 256 cb] 30 (0, 0)), (some b1, .cells #[.slice none 0 0, .slice none 0 0] 30 (0, 0))]) rfl
      clear H127
      have e129 : ([]) ++ ((((expR kl bx k).1).drop (4 * k + 12)).take (4)) = expS ((expR kl bx k).1) k := by rw [List.nil_append, expS]
      have hS130 := hS125
      rw [e129] at hS130
      have H131 := H127'.as (L' := [(key122, sob E8 5 (expS ((expR kl bx k).1) k) sp124), (kb, sob E8 5 bx spb), (kk, sob E8 5 ((expR kl bx k).1) ksp), (some b4, .cells #[.slice (ownA kk) (16 + 4 * k) kc, .slice (ownA kb) 256 cb] 30 (0, 0)), (some b1, .cells #[.slice none 0 0, .slice none 0 0] 30 (0, 0))]) (by rw [e129])
      refine sq (r_assign (v := .slice (ownA key122) (0 + 4) c123) rfl) ?_
      refine wend ?_
      refine seqAny ?_
      refine seqRegion ?_
      refine sq (r_move (v := i64 ((k + 4 : Nat))) rfl) ?_
      refine sq (r_remI (a := (k + 4 : Nat)) (b := (4 : Int)) rfl rfl (by omega)) ?_
      refine sq (r_eqlI (a := (k + 4 : Nat) % (4 : Int)) (b := (0 : Int)) rfl rfl) ?_
      refine wend ?_
      refine condProp (((k + 4 : Nat) % (4 : Int)) = (0 : Int)) rfl (fun h44 => ?_) (fun h44 => ?_)
      · skip
        refine seqAny ?_
        refine drawAny (K := [none, none, none, none, none, none, none, none, none, none, none, none, none, none, none, none, none, none, none, none, none, none, none, none, none, none, none, none, none, none, some (bsRel E8 5 [((bx).getD (((expS ((expR kl bx k).1) k).getD 1 0#8).toNat) 0#8) ^^^ ((expR kl bx k).2), (bx).getD (((expS ((expR kl bx k).1) k).getD 2 0#8).toNat) 0#8, (bx).getD (((expS ((expR kl bx k).1) k).getD 3 0#8).toNat) 0#8, (bx).getD (((expS ((expR kl bx k).1) k).getD 0 0#8).toNat) 0#8] 4 w126)]) [0, 1, 0, 4, 12, 31, 63, 0, 255, 0, 512, 0, 2048, 6144, 15872, 32256, 0, 65536, 0, 262144, 786432, 2031616, 4128768, 0, 8388608, 0, 33554432, 100663296, 260046848, 528482304, 1073741823, 2147483647] (fun w' => Ext w126 w') (fun w' w'' => Ext w' w'') mixed (by kernel_rfl) (Ext.drew _) (fun _ _ h h' => h.trans h') ?_ ?_
        · exact relAll ⟨⟨fun _ _ _ _ _ hR h => bsRel_ext hR h, fun _ _ _ _ _ h => h⟩, trivial⟩
        refine ⟨.pointer (some ⟨b4, 1, none⟩), fun _ uw132 hC133 _ => Gives.run rfl (r_fieldAddr (off' := 1) fld30_1 (by decide) (b := b4) (off := 0) rfl (by omega)) ⟨rfl, Chg.refl _ _⟩, ?_⟩
        refine ⟨.slice (ownA kb) 256 cb, fun _ uw134 hC135 _ => Gives.run rfl (r_loadC (v := .slice (ownA kb) 256 cb) one27 ((H131.ext hC135).get (k := 3) rfl) (off := 1) rfl (by rfl)) ⟨rfl, Chg.refl _ _⟩, ?_⟩
        refine ⟨.slice (ownA key122) (0 + 4) c123, fun _ uw136 hC137 _ => Gives.run rfl (r_move (v := .slice (ownA key122) (0 + 4) c123) rfl) ⟨rfl, Chg.refl _ _⟩, ?_⟩
        refine ⟨.pointer (adr (ownA key122) (1 * 1)), fun _ uw138 hC139 _ => Gives.run rfl (r_idxS (E := E8) (l := expS ((expR kl bx k).1) k) (j := 1) sli27 ((H131.ext hC139).rd (k := 0) rfl hS130) rfl rfl (by first | rfl | omega | (simp; omega)) (by exact hls.symm) (by omega)) ⟨rfl, Chg.refl _ _⟩, ?_⟩
        refine ⟨u8 ((expS ((expR kl bx k).1) k).getD 1 0#8), fun _ uw140 hC141 _ => Gives.run rfl (r_ldS (E := E8) (l := expS ((expR kl bx k).1) k) (j := 1) (v := (expS ((expR kl bx k).1) k).getD 1 0#8) fits5 ((H131.ext hC141).rd (k := 0) rfl hS130) rfl rfl (at_getD (by omega))) ⟨rfl, Chg.refl _ _⟩, ?_⟩
        refine ⟨.pointer (adr (ownA kb) ((((expS ((expR kl bx k).1) k).getD 1 0#8).toNat) * 1)), fun _ uw142 hC143 _ => Gives.run rfl (r_idxS (E := E8) (l := bx) (j := ((expS ((expR kl bx k).1) k).getD 1 0#8).toNat) sli27 ((H131.ext hC143).rd (k := 1) rfl hSb) rfl rfl (by first | rfl | omega | (simp; omega)) (by omega) (by have := ((expS ((expR kl bx k).1) k).getD 1 0#8).isLt; omega)) ⟨rfl, Chg.refl _ _⟩, ?_⟩
        refine ⟨u8 ((bx).getD (((expS ((expR kl bx k).1) k).getD 1 0#8).toNat) 0#8), fun _ uw144 hC145 _ => Gives.run rfl (r_ldS (E := E8) (l := bx) (j := ((expS ((expR kl bx k).1) k).getD 1 0#8).toNat) (v := (bx).getD (((expS ((expR kl bx k).1) k).getD 1 0#8).toNat) 0#8) fits5 ((H131.ext hC145).rd (k := 1) rfl hSb) rfl rfl (at_getD (by have := ((expS ((expR kl bx k).1) k).getD 1 0#8).isLt; omega))) ⟨rfl, Chg.refl _ _⟩, ?_⟩
        refine ⟨u8 ((expR kl bx k).2), fun _ uw146 hC147 _ => Gives.run rfl (r_move (v := u8 ((expR kl bx k).2)) rfl) ⟨rfl, Chg.refl _ _⟩, ?_⟩
        refine ⟨u8 (((bx).getD (((expS ((expR kl bx k).1) k).getD 1 0#8).toNat) 0#8) ^^^ ((expR kl bx k).2)), fun _ uw148 hC149 _ => Gives.run rfl (r_xor8 (a := (bx).getD (((expS ((expR kl bx k).1) k).getD 1 0#8).toNat) 0#8) (b := (expR kl bx k).2) rfl rfl) ⟨rfl, Chg.refl _ _⟩, ?_⟩
        refine ⟨.pointer (some ⟨b4, 1, none⟩), fun _ uw150 hC151 _ => Gives.run rfl (r_fieldAddr (off' := 1) fld30_1 (by decide) (b := b4) (off := 0) rfl (by omega)) ⟨rfl, Chg.refl _ _⟩, ?_⟩
        refine ⟨.slice (ownA kb) 256 cb, fun _ uw152 hC153 _ => Gives.run rfl (r_loadC (v := .slice (ownA kb) 256 cb) one27 ((H131.ext hC153).get (k := 3) rfl) (off := 1) rfl (by rfl)) ⟨rfl, Chg.refl _ _⟩, ?_⟩
        refine ⟨.slice (ownA key122) (0 + 4) c123, fun _ uw154 hC155 _ => Gives.run rfl (r_move (v := .slice (ownA key122) (0 + 4) c123) rfl) ⟨rfl, Chg.refl _ _⟩, ?_⟩
        refine ⟨.pointer (adr (ownA key122) (2 * 1)), fun _ uw156 hC157 _ => Gives.run rfl (r_idxS (E := E8) (l := expS ((expR kl bx k).1) k) (j := 2) sli27 ((H131.ext hC157).rd (k := 0) rfl hS130) rfl rfl (by first | rfl | omega | (simp; omega)) (by exact hls.symm) (by omega)) ⟨rfl, Chg.refl _ _⟩, ?_⟩
        refine ⟨u8 ((expS ((expR kl bx k).1) k).getD 2 0#8), fun _ uw158 hC159 _ => Gives.run rfl (r_ldS (E := E8) (l := expS ((expR kl bx k).1) k) (j := 2) (v := (expS ((expR kl bx k).1) k).getD 2 0#8) fits5 ((H131.ext hC159).rd (k := 0) rfl hS130) rfl rfl (at_getD (by omega))) ⟨rfl, Chg.refl _ _⟩, ?_⟩
        refine ⟨.pointer (adr (ownA kb) ((((expS ((expR kl bx k).1) k).getD 2 0#8).toNat) * 1)), fun _ uw160 hC161 _ => Gives.run rfl (r_idxS (E := E8) (l := bx) (j := ((expS ((expR kl bx k).1) k).getD 2 0#8).toNat) sli27 ((H131.ext hC161).rd (k := 1) rfl hSb) rfl rfl (by first | rfl | omega | (simp; omega)) (by omega) (by have := ((expS ((expR kl bx k).1) k).getD 2 0#8).isLt; omega)) ⟨rfl, Chg.refl _ _⟩, ?_⟩
        refine ⟨u8 ((bx).getD (((expS ((expR kl bx k).1) k).getD 2 0#8).toNat) 0#8), fun _ uw162 hC163 _ => Gives.run rfl (r_ldS (E := E8) (l := bx) (j := ((expS ((expR kl bx k).1) k).getD 2 0#8).toNat) (v := (bx).getD (((expS ((expR kl bx k).1) k).getD 2 0#8).toNat) 0#8) fits5 ((H131.ext hC163).rd (k := 1) rfl hSb) rfl rfl (at_getD (by have := ((expS ((expR kl bx k).1) k).getD 2 0#8).isLt; omega))) ⟨rfl, Chg.refl _ _⟩, ?_⟩
        refine ⟨.pointer (some ⟨b4, 1, none⟩), fun _ uw164 hC165 _ => Gives.run rfl (r_fieldAddr (off' := 1) fld30_1 (by decide) (b := b4) (off := 0) rfl (by omega)) ⟨rfl, Chg.refl _ _⟩, ?_⟩
        refine ⟨.slice (ownA kb) 256 cb, fun _ uw166 hC167 _ => Gives.run rfl (r_loadC (v := .slice (ownA kb) 256 cb) one27 ((H131.ext hC167).get (k := 3) rfl) (off := 1) rfl (by rfl)) ⟨rfl, Chg.refl _ _⟩, ?_⟩
        refine ⟨.slice (ownA key122) (0 + 4) c123, fun _ uw168 hC169 _ => Gives.run rfl (r_move (v := .slice (ownA key122) (0 + 4) c123) rfl) ⟨rfl, Chg.refl _ _⟩, ?_⟩
        refine ⟨.pointer (adr (ownA key122) (3 * 1)), fun _ uw170 hC171 _ => Gives.run rfl (r_idxS (E := E8) (l := expS ((expR kl bx k).1) k) (j := 3) sli27 ((H131.ext hC171).rd (k := 0) rfl hS130) rfl rfl (by first | rfl | omega | (simp; omega)) (by exact hls.symm) (by omega)) ⟨rfl, Chg.refl _ _⟩, ?_⟩
        refine ⟨u8 ((expS ((expR kl bx k).1) k).getD 3 0#8), fun _ uw172 hC173 _ => Gives.run rfl (r_ldS (E := E8) (l := expS ((expR kl bx k).1) k) (j := 3) (v := (expS ((expR kl bx k).1) k).getD 3 0#8) fits5 ((H131.ext hC173).rd (k := 0) rfl hS130) rfl rfl (at_getD (by omega))) ⟨rfl, Chg.refl _ _⟩, ?_⟩
        refine ⟨.pointer (adr (ownA kb) ((((expS ((expR kl bx k).1) k).getD 3 0#8).toNat) * 1)), fun _ uw174 hC175 _ => Gives.run rfl (r_idxS (E := E8) (l := bx) (j := ((expS ((expR kl bx k).1) k).getD 3 0#8).toNat) sli27 ((H131.ext hC175).rd (k := 1) rfl hSb) rfl rfl (by first | rfl | omega | (simp; omega)) (by omega) (by have := ((expS ((expR kl bx k).1) k).getD 3 0#8).isLt; omega)) ⟨rfl, Chg.refl _ _⟩, ?_⟩
        refine ⟨u8 ((bx).getD (((expS ((expR kl bx k).1) k).getD 3 0#8).toNat) 0#8), fun _ uw176 hC177 _ => Gives.run rfl (r_ldS (E := E8) (l := bx) (j := ((expS ((expR kl bx k).1) k).getD 3 0#8).toNat) (v := (bx).getD (((expS ((expR kl bx k).1) k).getD 3 0#8).toNat) 0#8) fits5 ((H131.ext hC177).rd (k := 1) rfl hSb) rfl rfl (at_getD (by have := ((expS ((expR kl bx k).1) k).getD 3 0#8).isLt; omega))) ⟨rfl, Chg.refl _ _⟩, ?_⟩
        refine ⟨.pointer (some ⟨b4, 1, none⟩), fun _ uw178 hC179 _ => Gives.run rfl (r_fieldAddr (off' := 1) fld30_1 (by decide) (b := b4) (off := 0) rfl (by omega)) ⟨rfl, Chg.refl _ _⟩, ?_⟩
        refine ⟨.slice (ownA kb) 256 cb, fun _ uw180 hC181 _ => Gives.run rfl (r_loadC (v := .slice (ownA kb) 256 cb) one27 ((H131.ext hC181).get (k := 3) rfl) (off := 1) rfl (by rfl)) ⟨rfl, Chg.refl _ _⟩, ?_⟩
        refine ⟨.slice (ownA key122) (0 + 4) c123, fun _ uw182 hC183 _ => Gives.run rfl (r_move (v := .slice (ownA key122) (0 + 4) c123) rfl) ⟨rfl, Chg.refl _ _⟩, ?_⟩
        refine ⟨.pointer (adr (ownA key122) (0 * 1)), fun _ uw184 hC185 _ => Gives.run rfl (r_idxS (E := E8) (l := expS ((expR kl bx k).1) k) (j := 0) sli27 ((H131.ext hC185).rd (k := 0) rfl hS130) rfl rfl (by first | rfl | omega | (simp; omega)) (by exact hls.symm) (by omega)) ⟨rfl, Chg.refl _ _⟩, ?_⟩
        refine ⟨u8 ((expS ((expR kl bx k).1) k).getD 0 0#8), fun _ uw186 hC187 _ => Gives.run rfl (r_ldS (E := E8) (l := expS ((expR kl bx k).1) k) (j := 0) (v := (expS ((expR kl bx k).1) k).getD 0 0#8) fits5 ((H131.ext hC187).rd (k := 0) rfl hS130) rfl rfl (at_getD (by omega))) ⟨rfl, Chg.refl _ _⟩, ?_⟩
        refine ⟨.pointer (adr (ownA kb) ((((expS ((expR kl bx k).1) k).getD 0 0#8).toNat) * 1)), fun _ uw188 hC189 _ => Gives.run rfl (r_idxS (E := E8) (l := bx) (j := ((expS ((expR kl bx k).1) k).getD 0 0#8).toNat) sli27 ((H131.ext hC189).rd (k := 1) rfl hSb) rfl rfl (by first | rfl | omega | (simp; omega)) (by omega) (by have := ((expS ((expR kl bx k).1) k).getD 0 0#8).isLt; omega)) ⟨rfl, Chg.refl _ _⟩, ?_⟩
        refine ⟨u8 ((bx).getD (((expS ((expR kl bx k).1) k).getD 0 0#8).toNat) 0#8), fun _ uw190 hC191 _ => Gives.run rfl (r_ldS (E := E8) (l := bx) (j := ((expS ((expR kl bx k).1) k).getD 0 0#8).toNat) (v := (bx).getD (((expS ((expR kl bx k).1) k).getD 0 0#8).toNat) 0#8) fits5 ((H131.ext hC191).rd (k := 1) rfl hSb) rfl rfl (at_getD (by have := ((expS ((expR kl bx k).1) k).getD 0 0#8).isLt; omega))) ⟨rfl, Chg.refl _ _⟩, ?_⟩
        refine ⟨fun r uw192 hC193 hF => bsGives (E := E8) (l := [((bx).getD (((expS ((expR kl bx k).1) k).getD 1 0#8).toNat) 0#8) ^^^ ((expR kl bx k).2), (bx).getD (((expS ((expR kl bx k).1) k).getD 2 0#8).toNat) 0#8, (bx).getD (((expS ((expR kl bx k).1) k).getD 3 0#8).toNat) 0#8, (bx).getD (((expS ((expR kl bx k).1) k).getD 0 0#8).toNat) 0#8]) sli27 zer5 (Nat.le_of_ble_eq_true rfl) (ps := [(0, u8 (((bx).getD (((expS ((expR kl bx k).1) k).getD 1 0#8).toNat) 0#8) ^^^ ((expR kl bx k).2))), (1, u8 ((bx).getD (((expS ((expR kl bx k).1) k).getD 2 0#8).toNat) 0#8)), (2, u8 ((bx).getD (((expS ((expR kl bx k).1) k).getD 3 0#8).toNat) 0#8)), (3, u8 ((bx).getD (((expS ((expR kl bx k).1) k).getD 0 0#8).toNat) 0#8))]) rfl (by exact fillAll rfl rfl) hC193.size (fun _ h => h), ?_⟩
        intro r197 w194 hE196 hF
        have H195 := H131.ext hE196
        obtain ⟨key201, e198, hS199, H200⟩ := Hp.ownBs H131 hE196 (by rfl) (Nat.le_of_ble_eq_true rfl) (hF 30 _ rfl)
        dsimp only
        rw [e198]
        refine sq (r_assign (v := .slice (ownA key201) 4 4) rfl) ?_
        have e204 : [((bx).getD (((expS ((expR kl bx k).1) k).getD 1 0#8).toNat) 0#8) ^^^ ((expR kl bx k).2), (bx).getD (((expS ((expR kl bx k).1) k).getD 2 0#8).toNat) 0#8, (bx).getD (((expS ((expR kl bx k).1) k).getD 3 0#8).toNat) 0#8, (bx).getD (((expS ((expR kl bx k).1) k).getD 0 0#8).toNat) 0#8] = expT bx (expR kl bx k).1 (expR kl bx k).2 k := by rw [expT, if_pos (by omega)]
        have hS205 := hS199
        rw [e204] at hS205
        have H206 := H200.as (L' := [(key201, sob E8 5 (expT bx (expR kl bx k).1 (expR kl bx k).2 k) ([])), (key122, sob E8 5 (expS ((expR kl bx k).1) k) sp124), (kb, sob E8 5 bx spb), (kk, sob E8 5 ((expR kl bx k).1) ksp), (some b4, .cells #[.slice (ownA kk) (16 + 4 * k) kc, .slice (ownA kb) 256 cb] 30 (0, 0)), (some b1, .cells #[.slice none 0 0, .slice none 0 0] 30 (0, 0))]) (by rw [e204])
        refine wnil ?_
        refine thenNormal ?_
        refine oneRegion ?_
        refine sq (r_move (v := u8 ((expR kl bx k).2)) rfl) ?_
        refine c_call (vs := [u8 ((expR kl bx k).2), u8 (2#8)]) call26 rfl (times_ok ((expR kl bx k).2) (2#8) w194) ?_
        rintro _ w207 ⟨rfl, hE208⟩
        have H209 := H206.ext hE208
        refine sq (r_assign (v := u8 (gm ((expR kl bx k).2) (2#8))) rfl) ?_
        refine wnil ?_
        refine thenNormal ?_
        refine seqRegion ?_
        refine sq (r_assign (v := i64 ((0 : Int))) rfl) ?_
        have hlt : (expT bx (expR kl bx k).1 (expR kl bx k).2 k).length = 4 := by rw [expT]; first | rw [if_pos (by omega)]; rfl | rw [if_neg (by omega)]; exact expS_len _ _ hl
        refine wend ?_
        refine blockAny ?_
        refine loopAny (σ := Nat × Option Nat × Nat × List Value) (fun (q, k2, c2, sp2) => [(0, .slice xq 16 cq), (2, .pointer (some ⟨b1, 0, none⟩)), (3, .pointer (some ⟨b4, 0, none⟩)), (5, u8 (gm ((expR kl bx k).2) (2#8))), (6, i64 ((k + 4 : Nat))), (7, .slice (ownA key201) 4 4), (8, i64 ((q : Nat)))]) (fun (q, k2, c2, sp2) w' => q ≤ 4 ∧ Sl E8 k2 (expI ((expR kl bx k).1) (expT bx (expR kl bx k).1 (expR kl bx k).2 k) k q) c2 sp2 ∧ Hp No w w' [(key201, sob E8 5 (expT bx (expR kl bx k).1 (expR kl bx k).2 k) ([])), (key122, sob E8 5 (expS ((expR kl bx k).1) k) sp124), (kb, sob E8 5 bx spb), (k2, sob E8 5 (expI ((expR kl bx k).1) (expT bx (expR kl bx k).1 (expR kl bx k).2 k) k q) sp2), (some b4, .cells #[.slice (ownA k2) (16 + 4 * k + q) c2, .slice (ownA kb) 256 cb] 30 (0, 0)), (some b1, .cells #[.slice none 0 0, .slice none 0 0] 30 (0, 0))]) (fun (q, k2, c2, sp2) => 4 - q) ((0, kk, kc, ksp)) ?_ ?_ ?_
        · exact ⟨rfl, rfl, rfl, rfl, rfl, rfl, rfl, trivial⟩
        · exact ⟨by omega, hSk, H209⟩
        rintro ⟨q, k2, c2, sp2⟩ ρ w210 ⟨hq, hS2, HL2⟩
        have hl2 := expI_len ((expR kl bx k).1) (expT bx (expR kl bx k).1 (expR kl bx k).2 k) k q
        rw [hl] at hl2
        refine seqAny ?_
        refine seqRegion ?_
        refine sq (r_move (v := i64 ((q : Nat))) rfl) ?_
        refine sq (r_lssI (a := (q : Nat)) (b := (4 : Int)) rfl rfl) ?_
        refine wend ?_
        refine condProp ((q : Nat) < (4 : Int)) rfl (fun hk79 => ?_) (fun hk79 => ?_)
        · skip
          refine skipAny ?_
          refine thenNormal ?_
          refine seqAny ?_
          refine blockAny ?_
          refine drawAny (K := [none, none, none, none, none, none, none, none, none, none, none, none, none, none, none, none, some (bsRel E8 5 [((expI ((expR kl bx k).1) (expT bx (expR kl bx k).1 (expR kl bx k).2 k) k q).getD (4 * k + q) 0#8) ^^^ ((expT bx (expR kl bx k).1 (expR kl bx k).2 k).getD q 0#8)] 1 w210), some (appRel E8 5 k2 (expI ((expR kl bx k).1) (expT bx (expR kl bx k).1 (expR kl bx k).2 k) k q) ([((expI ((expR kl bx k).1) (expT bx (expR kl bx k).1 (expR kl bx k).2 k) k q).getD (4 * k + q) 0#8) ^^^ ((expT bx (expR kl bx k).1 (expR kl bx k).2 k).getD q 0#8)]) ((16 + 4 * k + q) + 1) w210), none]) [0, 1, 0, 4, 0, 16, 48, 0, 240, 508, 1020, 0, 0, 6144, 14336, 32764, 65532, 131071, 262143, 524287] (AppC k2 (sob E8 5 (expI ((expR kl bx k).1) (expT bx (expR kl bx k).1 (expR kl bx k).2 k) k q) sp2) (ob2 E8 5 (expI ((expR kl bx k).1) (expT bx (expR kl bx k).1 (expR kl bx k).2 k) k q) ([((expI ((expR kl bx k).1) (expT bx (expR kl bx k).1 (expR kl bx k).2 k) k q).getD (4 * k + q) 0#8) ^^^ ((expT bx (expR kl bx k).1 (expR kl bx k).2 k).getD q 0#8)]) c2 sp2) w210) (AppR k2 (sob E8 5 (expI ((expR kl bx k).1) (expT bx (expR kl bx k).1 (expR kl bx k).2 k) k q) sp2) (ob2 E8 5 (expI ((expR kl bx k).1) (expT bx (expR kl bx k).1 (expR kl bx k).2 k) k q) ([((expI ((expR kl bx k).1) (expT bx (expR kl bx k).1 (expR kl bx k).2 k) k q).getD (4 * k + q) 0#8) ^^^ ((expT bx (expR kl bx k).1 (expR kl bx k).2 k).getD q 0#8)]) c2 sp2)) mixed (by kernel_rfl) (AppC.drew fun g hg => HL2.has _ (List.mem_of_getElem? (i := 3) rfl) g hg) AppC.trans ?_ ?_
          · exact relAll ⟨⟨fun _ _ _ _ _ hR h => bsRel_app (fun g hg => HL2.lt (List.mem_of_getElem? (i := 3) rfl) hg) hR h, fun _ _ _ _ _ h => h⟩, ⟨fun _ _ _ _ _ hR h => appRel_stable hR h, fun _ _ _ _ _ h => h⟩, trivial⟩
          refine ⟨.pointer (some ⟨b4, 0, none⟩), fun _ uw212 hC213 _ => Gives.run rfl (r_fieldAddr (off' := 0) fld30_0 (by decide) (b := b4) (off := 0) rfl (by omega)) ⟨rfl, AppR.refl⟩, ?_⟩
          refine ⟨.slice (ownA k2) (16 + 4 * k + q) c2, fun _ uw217 hC218 _ => ?_, ?_⟩
          · obtain ⟨sp219, H220, hS221, _⟩ := hC218.hp HL2 (k := 3) rfl hS2
            exact Gives.run rfl (r_loadC (v := .slice (ownA k2) (16 + 4 * k + q) c2) one27 (H220.get (k := 4) rfl) (off := 0) rfl (by rfl)) ⟨rfl, AppR.refl⟩
          refine ⟨.pointer (some ⟨b4, 0, none⟩), fun _ uw222 hC223 _ => Gives.run rfl (r_fieldAddr (off' := 0) fld30_0 (by decide) (b := b4) (off := 0) rfl (by omega)) ⟨rfl, AppR.refl⟩, ?_⟩
          refine ⟨.slice (ownA k2) (16 + 4 * k + q) c2, fun _ uw227 hC228 _ => ?_, ?_⟩
          · obtain ⟨sp229, H230, hS231, _⟩ := hC228.hp HL2 (k := 3) rfl hS2
            exact Gives.run rfl (r_loadC (v := .slice (ownA k2) (16 + 4 * k + q) c2) one27 (H230.get (k := 4) rfl) (off := 0) rfl (by rfl)) ⟨rfl, AppR.refl⟩
          refine ⟨i64 ((k + 4 : Nat)), fun _ uw232 hC233 _ => Gives.run rfl (r_move (v := i64 ((k + 4 : Nat))) rfl) ⟨rfl, AppR.refl⟩, ?_⟩
          refine ⟨i64 ((4 : Int) * (k + 4 : Nat)), fun _ uw237 hC238 _ => Gives.run rfl (r_mulI (a := (4 : Int)) (b := (k + 4 : Nat)) rfl rfl (by omega)) ⟨rfl, AppR.refl⟩, ?_⟩
          refine ⟨i64 (((4 : Int) * (k + 4 : Nat)) - (16 : Int)), fun _ uw242 hC243 _ => Gives.run rfl (r_subI (a := (4 : Int) * (k + 4 : Nat)) (b := (16 : Int)) rfl rfl (by omega)) ⟨rfl, AppR.refl⟩, ?_⟩
          refine ⟨i64 ((q : Nat)), fun _ uw247 hC248 _ => Gives.run rfl (r_move (v := i64 ((q : Nat))) rfl) ⟨rfl, AppR.refl⟩, ?_⟩
          refine ⟨i64 ((((4 : Int) * (k + 4 : Nat)) - (16 : Int)) + (q : Nat)), fun _ uw252 hC253 _ => Gives.run rfl (r_addI (a := ((4 : Int) * (k + 4 : Nat)) - (16 : Int)) (b := (q : Nat)) rfl rfl (by omega)) ⟨rfl, AppR.refl⟩, ?_⟩
          refine ⟨.pointer (adr (ownA k2) ((4 * k + q) * 1)), fun _ uw257 hC258 _ => ?_, ?_⟩
          · obtain ⟨sp259, H260, hS261, _⟩ := hC258.hp HL2 (k := 3) rfl hS2
            exact Gives.run rfl (r_idxS (E := E8) (l := expI ((expR kl bx k).1) (expT bx (expR kl bx k).1 (expR kl bx k).2 k) k q) (j := 4 * k + q) sli27 (H260.rd (k := 3) rfl hS261) rfl rfl (by first | rfl | omega | (simp; omega)) (by omega) (by omega)) ⟨rfl, AppR.refl⟩
          refine ⟨u8 ((expI ((expR kl bx k).1) (expT bx (expR kl bx k).1 (expR kl bx k).2 k) k q).getD (4 * k + q) 0#8), fun _ uw262 hC263 _ => ?_, ?_⟩
          · obtain ⟨sp264, H265, hS266, _⟩ := hC263.hp HL2 (k := 3) rfl hS2
            exact Gives.run rfl (r_ldS (E := E8) (l := expI ((expR kl bx k).1) (expT bx (expR kl bx k).1 (expR kl bx k).2 k) k q) (j := 4 * k + q) (v := (expI ((expR kl bx k).1) (expT bx (expR kl bx k).1 (expR kl bx k).2 k) k q).getD (4 * k + q) 0#8) fits5 (H265.rd (k := 3) rfl hS266) rfl rfl (at_getD (by omega))) ⟨rfl, AppR.refl⟩
          refine ⟨.slice (ownA key201) 4 4, fun _ uw267 hC268 _ => Gives.run rfl (r_move (v := .slice (ownA key201) 4 4) rfl) ⟨rfl, AppR.refl⟩, ?_⟩
          refine ⟨i64 ((q : Nat)), fun _ uw272 hC273 _ => Gives.run rfl (r_move (v := i64 ((q : Nat))) rfl) ⟨rfl, AppR.refl⟩, ?_⟩
          refine ⟨.pointer (adr (ownA key201) (q * 1)), fun _ uw277 hC278 _ => ?_, ?_⟩
          · obtain ⟨sp279, H280, hS281, _⟩ := hC278.hp HL2 (k := 3) rfl hS2
            exact Gives.run rfl (r_idxS (E := E8) (l := expT bx (expR kl bx k).1 (expR kl bx k).2 k) (j := q) sli27 (H280.rd (k := 0) rfl hS205) rfl rfl (by first | rfl | omega | (simp; omega)) (by exact hlt.symm) (by omega)) ⟨rfl, AppR.refl⟩
          refine ⟨u8 ((expT bx (expR kl bx k).1 (expR kl bx k).2 k).getD q 0#8), fun _ uw282 hC283 _ => ?_, ?_⟩
          · obtain ⟨sp284, H285, hS286, _⟩ := hC283.hp HL2 (k := 3) rfl hS2
            exact Gives.run rfl (r_ldS (E := E8) (l := expT bx (expR kl bx k).1 (expR kl bx k).2 k) (j := q) (v := (expT bx (expR kl bx k).1 (expR kl bx k).2 k).getD q 0#8) fits5 (H285.rd (k := 0) rfl hS205) rfl rfl (at_getD (by omega))) ⟨rfl, AppR.refl⟩
          refine ⟨u8 (((expI ((expR kl bx k).1) (expT bx (expR kl bx k).1 (expR kl bx k).2 k) k q).getD (4 * k + q) 0#8) ^^^ ((expT bx (expR kl bx k).1 (expR kl bx k).2 k).getD q 0#8)), fun _ uw287 hC288 _ => Gives.run rfl (r_xor8 (a := (expI ((expR kl bx k).1) (expT bx (expR kl bx k).1 (expR kl bx k).2 k) k q).getD (4 * k + q) 0#8) (b := (expT bx (expR kl bx k).1 (expR kl bx k).2 k).getD q 0#8) rfl rfl) ⟨rfl, AppR.refl⟩, ?_⟩
          refine ⟨fun r uw292 hC293 hF => bsGives (E := E8) (l := [((expI ((expR kl bx k).1) (expT bx (expR kl bx k).1 (expR kl bx k).2 k) k q).getD (4 * k + q) 0#8) ^^^ ((expT bx (expR kl bx k).1 (expR kl bx k).2 k).getD q 0#8)]) sli27 zer5 (Nat.le_of_ble_eq_true rfl) (ps := [(0, u8 (((expI ((expR kl bx k).1) (expT bx (expR kl bx k).1 (expR kl bx k).2 k) k q).getD (4 * k + q) 0#8) ^^^ ((expT bx (expR kl bx k).1 (expR kl bx k).2 k).getD q 0#8)))]) rfl (by exact fillAll rfl rfl) hC293.1.size (fun _ h => AppR.ext h), ?_⟩
          refine ⟨fun r uw294 hC295 hF => ?_, ?_⟩
          · obtain ⟨sp299, H300, hS301, _⟩ := hC295.hp HL2 (k := 3) rfl hS2
            obtain ⟨b298, e296, _, h297⟩ := hF 16 _ rfl rfl
            exact appGives hC295 HL2 (k := 3) rfl hS2 sli27 zer5 rfl byt5 (Rd.row h297) rfl (by omega) e296 (by rfl) (by omega)
          refine ⟨.pointer (some ⟨b4, 0, none⟩), fun _ uw302 hC303 _ => Gives.run rfl (r_fieldAddr (off' := 0) fld30_0 (by decide) (b := b4) (off := 0) rfl (by omega)) ⟨rfl, AppR.refl⟩, ?_⟩
          intro r310 w307 hE309 hF
          obtain ⟨key311, c312, sp313, e314, hS315, hne316, hk317⟩ := hF 17 _ rfl
          have H308 := (HL2.turn (k := 3) rfl hE309.1 hk317).as (L' := [(key201, sob E8 5 (expT bx (expR kl bx k).1 (expR kl bx k).2 k) ([])), (key122, sob E8 5 (expS ((expR kl bx k).1) k) sp124), (kb, sob E8 5 bx spb), (key311, sob E8 5 ((expI ((expR kl bx k).1) (expT bx (expR kl bx k).1 (expR kl bx k).2 k) k q) ++ ([((expI ((expR kl bx k).1) (expT bx (expR kl bx k).1 (expR kl bx k).2 k) k q).getD (4 * k + q) 0#8) ^^^ ((expT bx (expR kl bx k).1 (expR kl bx k).2 k).getD q 0#8)])) sp313), (some b4, .cells #[.slice (ownA k2) (16 + 4 * k + q) c2, .slice (ownA kb) 256 cb] 30 (0, 0)), (some b1, .cells #[.slice none 0 0, .slice none 0 0] 30 (0, 0))]) rfl
          dsimp only
          rw [e314]
          have e318 : (expI ((expR kl bx k).1) (expT bx (expR kl bx k).1 (expR kl bx k).2 k) k q) ++ ([((expI ((expR kl bx k).1) (expT bx (expR kl bx k).1 (expR kl bx k).2 k) k q).getD (4 * k + q) 0#8) ^^^ ((expT bx (expR kl bx k).1 (expR kl bx k).2 k).getD q 0#8)]) = expI ((expR kl bx k).1) (expT bx (expR kl bx k).1 (expR kl bx k).2 k) k (q + 1) := by rw [expI]
          have hS319 := hS315
          rw [e318] at hS319
          have H320 := H308.as (L' := [(key201, sob E8 5 (expT bx (expR kl bx k).1 (expR kl bx k).2 k) ([])), (key122, sob E8 5 (expS ((expR kl bx k).1) k) sp124), (kb, sob E8 5 bx spb), (key311, sob E8 5 (expI ((expR kl bx k).1) (expT bx (expR kl bx k).1 (expR kl bx k).2 k) k (q + 1)) sp313), (some b4, .cells #[.slice (ownA k2) (16 + 4 * k + q) c2, .slice (ownA kb) 256 cb] 30 (0, 0)), (some b1, .cells #[.slice none 0 0, .slice none 0 0] 30 (0, 0))]) (by rw [e318])
          refine d_store (k := 4) (v := .slice (ownA key311) ((16 + 4 * k + q) + 1) c312) (cs' := #[.slice (ownA key311) ((16 + 4 * k + q) + 1) c312, .slice (ownA kb) 256 cb]) H320 rfl rfl rfl siz27 (by rfl) (by intro u hu; simp [Value.cells] at hu; first | (subst hu; rfl) | (rcases hu with rfl <;> rfl)) (by exact Nat.le_of_ble_eq_true rfl) (by rfl) ?_
          intro w321 H322 _
          have H322' := H322.as (L' := [(key201, sob E8 5 (expT bx (expR kl bx k).1 (expR kl bx k).2 k) ([])), (key122, sob E8 5 (expS ((expR kl bx k).1) k) sp124), (kb, sob E8 5 bx spb), (key311, sob E8 5 (expI ((expR kl bx k).1) (expT bx (expR kl bx k).1 (expR kl bx k).2 k) k (q + 1)) sp313), (some b4, .cells #[.slice (ownA key311) ((16 + 4 * k + q) + 1) c312, .slice (ownA kb) 256 cb] 30 (0, 0)), (some b1, .cells #[.slice none 0 0, .slice none 0 0] 30 (0, 0))]) rfl
          clear H322
          refine wnil ?_
          refine blockNormal ?_
          refine thenNormal ?_
          refine oneRegion ?_
          refine sq (r_move (v := i64 ((q : Nat))) rfl) ?_
          refine sq (r_addI (a := (q : Nat)) (b := (1 : Int)) rfl rfl (by omega)) ?_
          refine sq (r_assign (v := i64 ((q : Nat) + (1 : Int))) rfl) ?_
          refine wnil ?_
          refine thenNormal ?_
          exact ⟨(q + 1, key311, c312, sp313), _, rfl, ⟨rfl, rfl, rfl, rfl, rfl, rfl, rfl, trivial⟩, ⟨by omega, hS319, H322'⟩, by show 4 - (q + 1) < 4 - q; omega⟩
        · skip
          obtain rfl : q = 4 := by omega
          refine exitAny ?_
          refine thenExit ?_
          refine thenExit ?_
          refine blockHere ?_
          refine blockNormal ?_
          refine thenNormal ?_
          refine oneRegion ?_
          refine sq (r_move (v := i64 ((k + 4 : Nat))) rfl) ?_
          refine sq (r_addI (a := (k + 4 : Nat)) (b := (1 : Int)) rfl rfl (by omega)) ?_
          refine sq (r_assign (v := i64 ((k + 4 : Nat) + (1 : Int))) rfl) ?_
          refine wnil ?_
          refine thenNormal ?_
          have e323 : expI ((expR kl bx k).1) (expT bx (expR kl bx k).1 (expR kl bx k).2 k) k 4 = (expR kl bx (k + 1)).1 := by rw [expR]
          have hS324 := hS2
          rw [e323] at hS324
          have H325 := HL2.as (L' := [(key201, sob E8 5 (expT bx (expR kl bx k).1 (expR kl bx k).2 k) ([])), (key122, sob E8 5 (expS ((expR kl bx k).1) k) sp124), (kb, sob E8 5 bx spb), (k2, sob E8 5 ((expR kl bx (k + 1)).1) sp2), (some b4, .cells #[.slice (ownA k2) (16 + 4 * k + 4) c2, .slice (ownA kb) 256 cb] 30 (0, 0)), (some b1, .cells #[.slice none 0 0, .slice none 0 0] 30 (0, 0))]) (by rw [e323])
          rw [show 16 + 4 * k + 4 = 16 + 4 * (k + 1) by omega] at H325
          exact ⟨(k + 1, k2, c2, sp2), _, rfl, ⟨rfl, rfl, rfl, congrArg u8 (by rw [expR]; dsimp only; rw [if_pos (by omega)]), congrArg i64 (by omega), trivial⟩, ⟨by omega, hS324, ((H325.dropk 1).dropk 0)⟩, by show 40 - (k + 1) < 40 - k; omega⟩
      · skip
        have e326 : expS ((expR kl bx k).1) k = expT bx (expR kl bx k).1 (expR kl bx k).2 k := by rw [expT, if_neg (by omega)]
        have hS327 := hS130
        rw [e326] at hS327
        have H328 := H131.as (L' := [(key122, sob E8 5 (expT bx (expR kl bx k).1 (expR kl bx k).2 k) sp124), (kb, sob E8 5 bx spb), (kk, sob E8 5 ((expR kl bx k).1) ksp), (some b4, .cells #[.slice (ownA kk) (16 + 4 * k) kc, .slice (ownA kb) 256 cb] 30 (0, 0)), (some b1, .cells #[.slice none 0 0, .slice none 0 0] 30 (0, 0))]) (by rw [e326])
        refine skipAny ?_
        refine thenNormal ?_
        refine seqRegion ?_
        refine sq (r_assign (v := i64 ((0 : Int))) rfl) ?_
        have hlt : (expT bx (expR kl bx k).1 (expR kl bx k).2 k).length = 4 := by rw [expT]; first | rw [if_pos (by omega)]; rfl | rw [if_neg (by omega)]; exact expS_len _ _ hl
        refine wend ?_
        refine blockAny ?_
        refine loopAny (σ := Nat × Option Nat × Nat × List Value) (fun (q, k2, c2, sp2) => [(0, .slice xq 16 cq), (2, .pointer (some ⟨b1, 0, none⟩)), (3, .pointer (some ⟨b4, 0, none⟩)), (5, u8 ((expR kl bx k).2)), (6, i64 ((k + 4 : Nat))), (7, .slice (ownA key122) (0 + 4) c123), (8, i64 ((q : Nat)))]) (fun (q, k2, c2, sp2) w' => q ≤ 4 ∧ Sl E8 k2 (expI ((expR kl bx k).1) (expT bx (expR kl bx k).1 (expR kl bx k).2 k) k q) c2 sp2 ∧ Hp No w w' [(key122, sob E8 5 (expT bx (expR kl bx k).1 (expR kl bx k).2 k) sp124), (kb, sob E8 5 bx spb), (k2, sob E8 5 (expI ((expR kl bx k).1) (expT bx (expR kl bx k).1 (expR kl bx k).2 k) k q) sp2), (some b4, .cells #[.slice (ownA k2) (16 + 4 * k + q) c2, .slice (ownA kb) 256 cb] 30 (0, 0)), (some b1, .cells #[.slice none 0 0, .slice none 0 0] 30 (0, 0))]) (fun (q, k2, c2, sp2) => 4 - q) ((0, kk, kc, ksp)) ?_ ?_ ?_
        · exact ⟨rfl, rfl, rfl, rfl, rfl, rfl, rfl, trivial⟩
        · exact ⟨by omega, hSk, H328⟩
        rintro ⟨q, k2, c2, sp2⟩ ρ w329 ⟨hq, hS2, HL2⟩
        have hl2 := expI_len ((expR kl bx k).1) (expT bx (expR kl bx k).1 (expR kl bx k).2 k) k q
        rw [hl] at hl2
        refine seqAny ?_
        refine seqRegion ?_
        refine sq (r_move (v := i64 ((q : Nat))) rfl) ?_
        refine sq (r_lssI (a := (q : Nat)) (b := (4 : Int)) rfl rfl) ?_
        refine wend ?_
        refine condProp ((q : Nat) < (4 : Int)) rfl (fun hk79 => ?_) (fun hk79 => ?_)
        · skip
          refine skipAny ?_
          refine thenNormal ?_
          refine seqAny ?_
          refine blockAny ?_
          refine drawAny (K := [none, none, none, none, none, none, none, none, none, none, none, none, none, none, none, none, some (bsRel E8 5 [((expI ((expR kl bx k).1) (expT bx (expR kl bx k).1 (expR kl bx k).2 k) k q).getD (4 * k + q) 0#8) ^^^ ((expT bx (expR kl bx k).1 (expR kl bx k).2 k).getD q 0#8)] 1 w329), some (appRel E8 5 k2 (expI ((expR kl bx k).1) (expT bx (expR kl bx k).1 (expR kl bx k).2 k) k q) ([((expI ((expR kl bx k).1) (expT bx (expR kl bx k).1 (expR kl bx k).2 k) k q).getD (4 * k + q) 0#8) ^^^ ((expT bx (expR kl bx k).1 (expR kl bx k).2 k).getD q 0#8)]) ((16 + 4 * k + q) + 1) w329), none]) [0, 1, 0, 4, 0, 16, 48, 0, 240, 508, 1020, 0, 0, 6144, 14336, 32764, 65532, 131071, 262143, 524287] (AppC k2 (sob E8 5 (expI ((expR kl bx k).1) (expT bx (expR kl bx k).1 (expR kl bx k).2 k) k q) sp2) (ob2 E8 5 (expI ((expR kl bx k).1) (expT bx (expR kl bx k).1 (expR kl bx k).2 k) k q) ([((expI ((expR kl bx k).1) (expT bx (expR kl bx k).1 (expR kl bx k).2 k) k q).getD (4 * k + q) 0#8) ^^^ ((expT bx (expR kl bx k).1 (expR kl bx k).2 k).getD q 0#8)]) c2 sp2) w329) (AppR k2 (sob E8 5 (expI ((expR kl bx k).1) (expT bx (expR kl bx k).1 (expR kl bx k).2 k) k q) sp2) (ob2 E8 5 (expI ((expR kl bx k).1) (expT bx (expR kl bx k).1 (expR kl bx k).2 k) k q) ([((expI ((expR kl bx k).1) (expT bx (expR kl bx k).1 (expR kl bx k).2 k) k q).getD (4 * k + q) 0#8) ^^^ ((expT bx (expR kl bx k).1 (expR kl bx k).2 k).getD q 0#8)]) c2 sp2)) mixed (by kernel_rfl) (AppC.drew fun g hg => HL2.has _ (List.mem_of_getElem? (i := 2) rfl) g hg) AppC.trans ?_ ?_
          · exact relAll ⟨⟨fun _ _ _ _ _ hR h => bsRel_app (fun g hg => HL2.lt (List.mem_of_getElem? (i := 2) rfl) hg) hR h, fun _ _ _ _ _ h => h⟩, ⟨fun _ _ _ _ _ hR h => appRel_stable hR h, fun _ _ _ _ _ h => h⟩, trivial⟩
          refine ⟨.pointer (some ⟨b4, 0, none⟩), fun _ uw331 hC332 _ => Gives.run rfl (r_fieldAddr (off' := 0) fld30_0 (by decide) (b := b4) (off := 0) rfl (by omega)) ⟨rfl, AppR.refl⟩, ?_⟩
          refine ⟨.slice (ownA k2) (16 + 4 * k + q) c2, fun _ uw336 hC337 _ => ?_, ?_⟩
          · obtain ⟨sp338, H339, hS340, _⟩ := hC337.hp HL2 (k := 2) rfl hS2
            exact Gives.run rfl (r_loadC (v := .slice (ownA k2) (16 + 4 * k + q) c2) one27 (H339.get (k := 3) rfl) (off := 0) rfl (by rfl)) ⟨rfl, AppR.refl⟩
          refine ⟨.pointer (some ⟨b4, 0, none⟩), fun _ uw341 hC342 _ => Gives.run rfl (r_fieldAddr (off' := 0) fld30_0 (by decide) (b := b4) (off := 0) rfl (by omega)) ⟨rfl, AppR.refl⟩, ?_⟩
          refine ⟨.slice (ownA k2) (16 + 4 * k + q) c2, fun _ uw346 hC347 _ => ?_, ?_⟩
          · obtain ⟨sp348, H349, hS350, _⟩ := hC347.hp HL2 (k := 2) rfl hS2
            exact Gives.run rfl (r_loadC (v := .slice (ownA k2) (16 + 4 * k + q) c2) one27 (H349.get (k := 3) rfl) (off := 0) rfl (by rfl)) ⟨rfl, AppR.refl⟩
          refine ⟨i64 ((k + 4 : Nat)), fun _ uw351 hC352 _ => Gives.run rfl (r_move (v := i64 ((k + 4 : Nat))) rfl) ⟨rfl, AppR.refl⟩, ?_⟩
          refine ⟨i64 ((4 : Int) * (k + 4 : Nat)), fun _ uw356 hC357 _ => Gives.run rfl (r_mulI (a := (4 : Int)) (b := (k + 4 : Nat)) rfl rfl (by omega)) ⟨rfl, AppR.refl⟩, ?_⟩
          refine ⟨i64 (((4 : Int) * (k + 4 : Nat)) - (16 : Int)), fun _ uw361 hC362 _ => Gives.run rfl (r_subI (a := (4 : Int) * (k + 4 : Nat)) (b := (16 : Int)) rfl rfl (by omega)) ⟨rfl, AppR.refl⟩, ?_⟩
          refine ⟨i64 ((q : Nat)), fun _ uw366 hC367 _ => Gives.run rfl (r_move (v := i64 ((q : Nat))) rfl) ⟨rfl, AppR.refl⟩, ?_⟩
          refine ⟨i64 ((((4 : Int) * (k + 4 : Nat)) - (16 : Int)) + (q : Nat)), fun _ uw371 hC372 _ => Gives.run rfl (r_addI (a := ((4 : Int) * (k + 4 : Nat)) - (16 : Int)) (b := (q : Nat)) rfl rfl (by omega)) ⟨rfl, AppR.refl⟩, ?_⟩
          refine ⟨.pointer (adr (ownA k2) ((4 * k + q) * 1)), fun _ uw376 hC377 _ => ?_, ?_⟩
          · obtain ⟨sp378, H379, hS380, _⟩ := hC377.hp HL2 (k := 2) rfl hS2
            exact Gives.run rfl (r_idxS (E := E8) (l := expI ((expR kl bx k).1) (expT bx (expR kl bx k).1 (expR kl bx k).2 k) k q) (j := 4 * k + q) sli27 (H379.rd (k := 2) rfl hS380) rfl rfl (by first | rfl | omega | (simp; omega)) (by omega) (by omega)) ⟨rfl, AppR.refl⟩
          refine ⟨u8 ((expI ((expR kl bx k).1) (expT bx (expR kl bx k).1 (expR kl bx k).2 k) k q).getD (4 * k + q) 0#8), fun _ uw381 hC382 _ => ?_, ?_⟩
          · obtain ⟨sp383, H384, hS385, _⟩ := hC382.hp HL2 (k := 2) rfl hS2
            exact Gives.run rfl (r_ldS (E := E8) (l := expI ((expR kl bx k).1) (expT bx (expR kl bx k).1 (expR kl bx k).2 k) k q) (j := 4 * k + q) (v := (expI ((expR kl bx k).1) (expT bx (expR kl bx k).1 (expR kl bx k).2 k) k q).getD (4 * k + q) 0#8) fits5 (H384.rd (k := 2) rfl hS385) rfl rfl (at_getD (by omega))) ⟨rfl, AppR.refl⟩
          refine ⟨.slice (ownA key122) (0 + 4) c123, fun _ uw386 hC387 _ => Gives.run rfl (r_move (v := .slice (ownA key122) (0 + 4) c123) rfl) ⟨rfl, AppR.refl⟩, ?_⟩
          refine ⟨i64 ((q : Nat)), fun _ uw391 hC392 _ => Gives.run rfl (r_move (v := i64 ((q : Nat))) rfl) ⟨rfl, AppR.refl⟩, ?_⟩
          refine ⟨.pointer (adr (ownA key122) (q * 1)), fun _ uw396 hC397 _ => ?_, ?_⟩
          · obtain ⟨sp398, H399, hS400, _⟩ := hC397.hp HL2 (k := 2) rfl hS2
            exact Gives.run rfl (r_idxS (E := E8) (l := expT bx (expR kl bx k).1 (expR kl bx k).2 k) (j := q) sli27 (H399.rd (k := 0) rfl hS327) rfl rfl (by first | rfl | omega | (simp; omega)) (by exact hlt.symm) (by omega)) ⟨rfl, AppR.refl⟩
          refine ⟨u8 ((expT bx (expR kl bx k).1 (expR kl bx k).2 k).getD q 0#8), fun _ uw401 hC402 _ => ?_, ?_⟩
          · obtain ⟨sp403, H404, hS405, _⟩ := hC402.hp HL2 (k := 2) rfl hS2
            exact Gives.run rfl (r_ldS (E := E8) (l := expT bx (expR kl bx k).1 (expR kl bx k).2 k) (j := q) (v := (expT bx (expR kl bx k).1 (expR kl bx k).2 k).getD q 0#8) fits5 (H404.rd (k := 0) rfl hS327) rfl rfl (at_getD (by omega))) ⟨rfl, AppR.refl⟩
          refine ⟨u8 (((expI ((expR kl bx k).1) (expT bx (expR kl bx k).1 (expR kl bx k).2 k) k q).getD (4 * k + q) 0#8) ^^^ ((expT bx (expR kl bx k).1 (expR kl bx k).2 k).getD q 0#8)), fun _ uw406 hC407 _ => Gives.run rfl (r_xor8 (a := (expI ((expR kl bx k).1) (expT bx (expR kl bx k).1 (expR kl bx k).2 k) k q).getD (4 * k + q) 0#8) (b := (expT bx (expR kl bx k).1 (expR kl bx k).2 k).getD q 0#8) rfl rfl) ⟨rfl, AppR.refl⟩, ?_⟩
          refine ⟨fun r uw411 hC412 hF => bsGives (E := E8) (l := [((expI ((expR kl bx k).1) (expT bx (expR kl bx k).1 (expR kl bx k).2 k) k q).getD (4 * k + q) 0#8) ^^^ ((expT bx (expR kl bx k).1 (expR kl bx k).2 k).getD q 0#8)]) sli27 zer5 (Nat.le_of_ble_eq_true rfl) (ps := [(0, u8 (((expI ((expR kl bx k).1) (expT bx (expR kl bx k).1 (expR kl bx k).2 k) k q).getD (4 * k + q) 0#8) ^^^ ((expT bx (expR kl bx k).1 (expR kl bx k).2 k).getD q 0#8)))]) rfl (by exact fillAll rfl rfl) hC412.1.size (fun _ h => AppR.ext h), ?_⟩
          refine ⟨fun r uw413 hC414 hF => ?_, ?_⟩
          · obtain ⟨sp418, H419, hS420, _⟩ := hC414.hp HL2 (k := 2) rfl hS2
            obtain ⟨b417, e415, _, h416⟩ := hF 16 _ rfl rfl
            exact appGives hC414 HL2 (k := 2) rfl hS2 sli27 zer5 rfl byt5 (Rd.row h416) rfl (by omega) e415 (by rfl) (by omega)
          refine ⟨.pointer (some ⟨b4, 0, none⟩), fun _ uw421 hC422 _ => Gives.run rfl (r_fieldAddr (off' := 0) fld30_0 (by decide) (b := b4) (off := 0) rfl (by omega)) ⟨rfl, AppR.refl⟩, ?_⟩
          intro r429 w426 hE428 hF
          obtain ⟨key430, c431, sp432, e433, hS434, hne435, hk436⟩ := hF 17 _ rfl
          have H427 := (HL2.turn (k := 2) rfl hE428.1 hk436).as (L' := [(key122, sob E8 5 (expT bx (expR kl bx k).1 (expR kl bx k).2 k) sp124), (kb, sob E8 5 bx spb), (key430, sob E8 5 ((expI ((expR kl bx k).1) (expT bx (expR kl bx k).1 (expR kl bx k).2 k) k q) ++ ([((expI ((expR kl bx k).1) (expT bx (expR kl bx k).1 (expR kl bx k).2 k) k q).getD (4 * k + q) 0#8) ^^^ ((expT bx (expR kl bx k).1 (expR kl bx k).2 k).getD q 0#8)])) sp432), (some b4, .cells #[.slice (ownA k2) (16 + 4 * k + q) c2, .slice (ownA kb) 256 cb] 30 (0, 0)), (some b1, .cells #[.slice none 0 0, .slice none 0 0] 30 (0, 0))]) rfl
          dsimp only
          rw [e433]
          have e437 : (expI ((expR kl bx k).1) (expT bx (expR kl bx k).1 (expR kl bx k).2 k) k q) ++ ([((expI ((expR kl bx k).1) (expT bx (expR kl bx k).1 (expR kl bx k).2 k) k q).getD (4 * k + q) 0#8) ^^^ ((expT bx (expR kl bx k).1 (expR kl bx k).2 k).getD q 0#8)]) = expI ((expR kl bx k).1) (expT bx (expR kl bx k).1 (expR kl bx k).2 k) k (q + 1) := by rw [expI]
          have hS438 := hS434
          rw [e437] at hS438
          have H439 := H427.as (L' := [(key122, sob E8 5 (expT bx (expR kl bx k).1 (expR kl bx k).2 k) sp124), (kb, sob E8 5 bx spb), (key430, sob E8 5 (expI ((expR kl bx k).1) (expT bx (expR kl bx k).1 (expR kl bx k).2 k) k (q + 1)) sp432), (some b4, .cells #[.slice (ownA k2) (16 + 4 * k + q) c2, .slice (ownA kb) 256 cb] 30 (0, 0)), (some b1, .cells #[.slice none 0 0, .slice none 0 0] 30 (0, 0))]) (by rw [e437])
          refine d_store (k := 3) (v := .slice (ownA key430) ((16 + 4 * k + q) + 1) c431) (cs' := #[.slice (ownA key430) ((16 + 4 * k + q) + 1) c431, .slice (ownA kb) 256 cb]) H439 rfl rfl rfl siz27 (by rfl) (by intro u hu; simp [Value.cells] at hu; first | (subst hu; rfl) | (rcases hu with rfl <;> rfl)) (by exact Nat.le_of_ble_eq_true rfl) (by rfl) ?_
          intro w440 H441 _
          have H441' := H441.as (L' := [(key122, sob E8 5 (expT bx (expR kl bx k).1 (expR kl bx k).2 k) sp124), (kb, sob E8 5 bx spb), (key430, sob E8 5 (expI ((expR kl bx k).1) (expT bx (expR kl bx k).1 (expR kl bx k).2 k) k (q + 1)) sp432), (some b4, .cells #[.slice (ownA key430) ((16 + 4 * k + q) + 1) c431, .slice (ownA kb) 256 cb] 30 (0, 0)), (some b1, .cells #[.slice none 0 0, .slice none 0 0] 30 (0, 0))]) rfl
          clear H441
          refine wnil ?_
          refine blockNormal ?_
          refine thenNormal ?_
          refine oneRegion ?_
          refine sq (r_move (v := i64 ((q : Nat))) rfl) ?_
          refine sq (r_addI (a := (q : Nat)) (b := (1 : Int)) rfl rfl (by omega)) ?_
          refine sq (r_assign (v := i64 ((q : Nat) + (1 : Int))) rfl) ?_
          refine wnil ?_
          refine thenNormal ?_
          exact ⟨(q + 1, key430, c431, sp432), _, rfl, ⟨rfl, rfl, rfl, rfl, rfl, rfl, rfl, trivial⟩, ⟨by omega, hS438, H441'⟩, by show 4 - (q + 1) < 4 - q; omega⟩
        · skip
          obtain rfl : q = 4 := by omega
          refine exitAny ?_
          refine thenExit ?_
          refine thenExit ?_
          refine blockHere ?_
          refine blockNormal ?_
          refine thenNormal ?_
          refine oneRegion ?_
          refine sq (r_move (v := i64 ((k + 4 : Nat))) rfl) ?_
          refine sq (r_addI (a := (k + 4 : Nat)) (b := (1 : Int)) rfl rfl (by omega)) ?_
          refine sq (r_assign (v := i64 ((k + 4 : Nat) + (1 : Int))) rfl) ?_
          refine wnil ?_
          refine thenNormal ?_
          have e442 : expI ((expR kl bx k).1) (expT bx (expR kl bx k).1 (expR kl bx k).2 k) k 4 = (expR kl bx (k + 1)).1 := by rw [expR]
          have hS443 := hS2
          rw [e442] at hS443
          have H444 := HL2.as (L' := [(key122, sob E8 5 (expT bx (expR kl bx k).1 (expR kl bx k).2 k) sp124), (kb, sob E8 5 bx spb), (k2, sob E8 5 ((expR kl bx (k + 1)).1) sp2), (some b4, .cells #[.slice (ownA k2) (16 + 4 * k + 4) c2, .slice (ownA kb) 256 cb] 30 (0, 0)), (some b1, .cells #[.slice none 0 0, .slice none 0 0] 30 (0, 0))]) (by rw [e442])
          rw [show 16 + 4 * k + 4 = 16 + 4 * (k + 1) by omega] at H444
          exact ⟨(k + 1, k2, c2, sp2), _, rfl, ⟨rfl, rfl, rfl, congrArg u8 (by rw [expR]; dsimp only; rw [if_neg (by omega)]), congrArg i64 (by omega), trivial⟩, ⟨by omega, hS443, (H444.dropk 0)⟩, by show 40 - (k + 1) < 40 - k; omega⟩
    · skip
      obtain rfl : k = 40 := by omega
      refine exitAny ?_
      refine thenExit ?_
      refine thenExit ?_
      refine blockHere ?_
      refine thenNormal ?_
      refine seqRegion ?_
      refine sq (r_loadA (cs' := #[.slice (ownA kk) (16 + 4 * 40) kc, .slice (ownA kb) 256 cb]) agg30 siz30 (HL.get (k := 2) rfl) (off := 0) rfl (by exact Nat.le_of_ble_eq_true rfl) (by rfl)) ?_
      refine d_store (k := 3) (v := .agg #[.slice (ownA kk) (16 + 4 * 40) kc, .slice (ownA kb) 256 cb]) (cs' := #[.slice (ownA kk) (16 + 4 * 40) kc, .slice (ownA kb) 256 cb]) HL rfl rfl rfl siz30 (by rfl) (by intro u hu; simp [Value.cells] at hu; first | (subst hu; rfl) | (rcases hu with rfl | rfl <;> rfl)) (by exact Nat.le_of_ble_eq_true rfl) (by rfl) ?_
      intro w445 H446 _
      have H446' := H446.as (L' := [(kb, sob E8 5 bx spb), (kk, sob E8 5 ((expR kl bx 40).1) ksp), (some b4, .cells #[.slice (ownA kk) (16 + 4 * 40) kc, .slice (ownA kb) 256 cb] 30 (0, 0)), (some b1, .cells #[.slice (ownA kk) (16 + 4 * 40) kc, .slice (ownA kb) 256 cb] 30 (0, 0))]) rfl
      clear H446
      refine wend ?_
      refine retAny ?_
      refine retG (rs := [.cell 2 30]) (vs := [.agg #[.slice (ownA kk) (16 + 4 * 40) kc, .slice (ownA kb) 256 cb]]) rfl ⟨r_loadA (cs' := #[.slice (ownA kk) (16 + 4 * 40) kc, .slice (ownA kb) 256 cb]) agg30 siz30 (H446'.get (k := 3) rfl) (off := 0) rfl (by exact Nat.le_of_ble_eq_true rfl) (by rfl), trivial⟩ ?_
      exact ⟨_, rfl, ⟨kk, kc, ksp, kb, cb, spb, rfl, hSk, hSb, ((H446'.dropk 3).dropk 2)⟩, H446'.chg⟩

theorem rfixed_ok (bx : List By) (hbx : bx = boxR 256) (w : World) : Calls Try.prog 18 [].toArray w (Ret fun v w' => CiphR (expR fixK bx 40).1 bx w v w' ∧ Ext w w') := by
  have H := Hp.start No w
  refine enter (n := 3) Try.func18 rfl rfl (Nat.le_of_ble_eq_true rfl) ?_
  refine seqRegion ?_
  refine q_alloc (o := .cells #[.slice none 0 0, .slice none 0 0] 30 (0, 0)) H zer30 (by kernel_rfl) ?_
  intro b1 w2 hb1 H3 _
  refine wend ?_
  refine seqRegion ?_
  refine q_buildSlice (E := E8) (l := [0#8, 1#8, 2#8, 3#8, 4#8, 5#8, 6#8, 7#8, 8#8, 9#8, 10#8, 11#8, 12#8, 13#8, 14#8, 15#8]) H3 sli27 zer5 (Nat.le_of_ble_eq_true rfl) (ps := [(0, u8 (0#8)), (1, u8 (1#8)), (2, u8 (2#8)), (3, u8 (3#8)), (4, u8 (4#8)), (5, u8 (5#8)), (6, u8 (6#8)), (7, u8 (7#8)), (8, u8 (8#8)), (9, u8 (9#8)), (10, u8 (10#8)), (11, u8 (11#8)), (12, u8 (12#8)), (13, u8 (13#8)), (14, u8 (14#8)), (15, u8 (15#8))]) rfl (by exact fillAll rfl rfl) rfl ?_
  intro b4 w6 hS5 H7 _
  refine c_call (vs := [.slice (ownA (some b4)) 16 16]) call12 rfl (rnew_ok bx ([0#8, 1#8, 2#8, 3#8, 4#8, 5#8, 6#8, 7#8, 8#8, 9#8, 10#8, 11#8, 12#8, 13#8, 14#8, 15#8]) hbx (by rfl) (ownA (some b4)) 16 (by omega) w6 (H7.rd (k := 0) rfl hS5)) ?_
  rintro _ w8 ⟨⟨kk10, kc11, spk12, kb13, cb14, spb15, rfl, hSk16, hSb17, HN19⟩, hE18⟩
  have H20 := (H7.join HN19).as (L' := [(kb13, sob E8 5 bx spb15), (kk10, sob E8 5 ((expR ([0#8, 1#8, 2#8, 3#8, 4#8, 5#8, 6#8, 7#8, 8#8, 9#8, 10#8, 11#8, 12#8, 13#8, 14#8, 15#8]) bx 40).1) spk12), ((some b4), sob E8 5 ([0#8, 1#8, 2#8, 3#8, 4#8, 5#8, 6#8, 7#8, 8#8, 9#8, 10#8, 11#8, 12#8, 13#8, 14#8, 15#8]) ([])), (some b1, .cells #[.slice none 0 0, .slice none 0 0] 30 (0, 0))]) rfl
  have hlk := expR_len ([0#8, 1#8, 2#8, 3#8, 4#8, 5#8, 6#8, 7#8, 8#8, 9#8, 10#8, 11#8, 12#8, 13#8, 14#8, 15#8]) bx (by rfl) 40
  have hcp := hSk16.cap
  have hlb : bx.length = 256 := by rw [hbx]; exact boxR_len _
  refine d_store (k := 3) (v := .agg #[.slice (ownA kk10) 176 kc11, .slice (ownA kb13) 256 cb14]) (cs' := #[.slice (ownA kk10) 176 kc11, .slice (ownA kb13) 256 cb14]) H20 rfl rfl rfl siz30 (by rfl) (by intro u hu; simp [Value.cells] at hu; first | (subst hu; rfl) | (rcases hu with rfl | rfl <;> rfl)) (by exact Nat.le_of_ble_eq_true rfl) (by rfl) ?_
  intro w21 H22 _
  have H22' := H22.as (L' := [(kb13, sob E8 5 bx spb15), (kk10, sob E8 5 ((expR ([0#8, 1#8, 2#8, 3#8, 4#8, 5#8, 6#8, 7#8, 8#8, 9#8, 10#8, 11#8, 12#8, 13#8, 14#8, 15#8]) bx 40).1) spk12), ((some b4), sob E8 5 ([0#8, 1#8, 2#8, 3#8, 4#8, 5#8, 6#8, 7#8, 8#8, 9#8, 10#8, 11#8, 12#8, 13#8, 14#8, 15#8]) ([])), (some b1, .cells #[.slice (ownA kk10) 176 kc11, .slice (ownA kb13) 256 cb14] 30 (0, 0))]) rfl
  clear H22
  refine wend ?_
  refine retAny ?_
  refine retG (rs := [.cell 0 30]) (vs := [.agg #[.slice (ownA kk10) 176 kc11, .slice (ownA kb13) 256 cb14]]) rfl ⟨r_loadA (cs' := #[.slice (ownA kk10) 176 kc11, .slice (ownA kb13) 256 cb14]) agg30 siz30 (H22'.get (k := 3) rfl) (off := 0) rfl (by exact Nat.le_of_ble_eq_true rfl) (by rfl), trivial⟩ ?_
  exact ⟨_, rfl, ⟨kk10, kc11, spk12, kb13, cb14, spb15, rfl, hSk16, hSb17, ((H22'.dropk 3).dropk 2)⟩, H22'.chg⟩

theorem rword_ok (ks bx : List By) (hks : ks.length = 176) (hbx : bx.length = 256) (x : BitVec 64) (xk xb : Option Addr) (ck cb : Nat) (hck : 176 ≤ ck) (w : World) (hK : Rd E8 w xk ks) (hB : Rd E8 w xb bx) : Calls Try.prog 14 [.agg #[.slice xk 176 ck, .slice xb 256 cb], u64 (x)].toArray w (Ret fun v w' => v = u64 (wordR ks bx x) ∧ Ext w w') := by
  have H := Hp.start No w
  refine enter (n := 22) Try.func14 rfl rfl (Nat.le_of_ble_eq_true rfl) ?_
  refine seqRegion ?_
  refine q_box (v := .agg #[.slice xk 176 ck, .slice xb 256 cb]) (o := .cells #[.slice xk 176 ck, .slice xb 256 cb] 30 (0, 0)) H rfl (by rfl) ?_
  intro b1 w2 hb1 H3 _
  refine sq (r_assign (v := u64 (0#64)) rfl) ?_
  refine wend ?_
  refine seqAny ?_
  refine drawAny (K := [none, none, none, some (slRel E8 5 ((eightS (x / (2#64)) 8).1) w2), some (bsRel E8 5 [0#8, 0#8, 0#8, 0#8, 0#8, 0#8, 0#8, 0#8] 8 w2), some (slRel E8 5 (((eightS (x / (2#64)) 8).1) ++ ([0#8, 0#8, 0#8, 0#8, 0#8, 0#8, 0#8, 0#8])) w2)]) [0, 0, 2, 6, 0, 30, 63, 127] (fun w' => Ext w2 w') (NewR E8 5 ((eightS (x / 2#64) 8).1) ([0#8, 0#8, 0#8, 0#8, 0#8, 0#8, 0#8, 0#8]) w2) mixed (by kernel_rfl) (Ext.drew _) NewR.trans ?_ ?_
  · exact relAll ⟨⟨fun _ _ _ _ _ hR h => NewR.sl (Nat.le_refl _) hR h, fun _ _ _ _ _ h => h⟩, ⟨fun _ _ _ _ _ hR h => NewR.bs hR h, fun _ _ _ _ _ h => h⟩, ⟨fun _ _ _ _ _ hR h => NewR.app hR h, fun _ _ _ _ _ h => h⟩, trivial⟩
  refine ⟨.agg #[.slice xk 176 ck, .slice xb 256 cb], fun _ uw4 hC5 _ => Gives.run rfl (r_loadA (cs' := #[.slice xk 176 ck, .slice xb 256 cb]) agg30 siz30 ((H3.ext hC5).get (k := 0) rfl) (off := 0) rfl (by exact Nat.le_of_ble_eq_true rfl) (by rfl)) ⟨rfl, NewR.ext (Chg.refl _ _)⟩, ?_⟩
  refine ⟨u64 (x), fun _ uw6 hC7 _ => Gives.run rfl (r_move (v := u64 (x)) rfl) ⟨rfl, NewR.ext (Chg.refl _ _)⟩, ?_⟩
  refine ⟨u64 (x / (2#64)), fun _ uw8 hC9 _ => Gives.run rfl (r_quo64 (a := x) (b := 2#64) rfl rfl (by decide)) ⟨rfl, NewR.ext (Chg.refl _ _)⟩, ?_⟩
  refine ⟨fun r uw10 hC11 hF => Gives.call rfl (Enters.callL (vs := [u64 (x / (2#64))]) call29 rfl) ((eight_ok (x / (2#64)) uw10).mono fun _ _ ⟨v, h1, h2, h3⟩ => ⟨v, h1, h2.old (hC11.size), NewR.ext h3⟩), ?_⟩
  refine ⟨fun r uw12 hC13 hF => bsGives (E := E8) (l := [0#8, 0#8, 0#8, 0#8, 0#8, 0#8, 0#8, 0#8]) sli27 zer5 (Nat.le_of_ble_eq_true rfl) (ps := [(0, u8 (0#8)), (1, u8 (0#8)), (2, u8 (0#8)), (3, u8 (0#8)), (4, u8 (0#8)), (5, u8 (0#8)), (6, u8 (0#8)), (7, u8 (0#8))]) rfl (by exact fillAll rfl rfl) hC13.size (fun _ h => NewR.ext h), ?_⟩
  refine ⟨fun r uw14 hC15 hF => ?_, ?_⟩
  · obtain ⟨b18, e16, _, h17⟩ := hF 4 _ rfl rfl
    exact newGives hC15 (hF 3 _ rfl rfl) sli27 zer5 rfl byt5 (Rd.row h17) rfl e16 (by rfl) (by rw [eightS_len]; omega)
  intro r22 w19 hE21 hF
  have H20 := H3.ext hE21
  obtain ⟨key26, c27, sp28, e23, hS24, H25⟩ := Hp.ownSl H3 hE21 (hF 5 _ rfl)
  rw [show (((eightS (x / (2#64)) 8).1) ++ ([0#8, 0#8, 0#8, 0#8, 0#8, 0#8, 0#8, 0#8])).length = 8 + 8 from by rw [List.length_append, eightS_len]; rfl] at e23
  dsimp only
  rw [e23]
  refine c_call (vs := [.agg #[.slice xk 176 ck, .slice xb 256 cb], .slice (ownA key26) (8 + 8) c27]) call11 rfl (renc_ok ks bx (((eightS (x / (2#64)) 8).1) ++ ([0#8, 0#8, 0#8, 0#8, 0#8, 0#8, 0#8, 0#8])) (by omega) (by omega) (by exact by rw [List.length_append, eightS_len]; rfl) xk xb (ownA key26) ck cb c27 (by omega) w19 (hK.ext H25.chg) (hB.ext H25.chg) (H25.rd (k := 0) rfl hS24)) ?_
  rintro _ w29 ⟨⟨key31, c32, sp33, rfl, hS34, hk35⟩, hE36⟩
  rw [show (encR ks bx (((eightS (x / (2#64)) 8).1) ++ ([0#8, 0#8, 0#8, 0#8, 0#8, 0#8, 0#8, 0#8])) 10).length = 16 from encR_len _ _ _ _]
  have H37 := H25.add hE36 hk35
  refine sq (r_assign (v := .slice (ownA key31) 16 c32) rfl) ?_
  have hle := encR_len ks bx ((eightS (x / 2#64) 8).1 ++ [0#8, 0#8, 0#8, 0#8, 0#8, 0#8, 0#8, 0#8]) 10
  have hce := hS34.cap
  refine wnil ?_
  refine thenNormal ?_
  refine seqAny ?_
  refine seqRegion ?_
  refine sq (r_move (v := u64 (x)) rfl) ?_
  refine sq (r_rem64 (a := x) (b := 2#64) rfl rfl (by decide)) ?_
  refine sq (r_eql64 (a := x % (2#64)) (b := 0#64) rfl rfl) ?_
  refine wend ?_
  refine condProp ((x % (2#64)) = (0#64)) rfl (fun c => ?_) (fun c => ?_)
  · skip
    refine seqRegion ?_
    refine sq (r_move (v := .slice (ownA key31) 16 c32) rfl) ?_
    refine sq ((r_sliceS (l := 0) (h := 8) sli27 rfl (.inr ⟨rfl, rfl⟩) (.inl ⟨_, _, _, rfl, rfl, by first | rfl | omega | (simp; omega)⟩) (by omega) (by omega)).as (v' := .slice (if c32 = 0 then ownA key31 else adr (ownA key31) (0 * 1)) 8 (c32 - 0)) (by rw [show 8 - 0 = 8 by omega])) ?_
    refine c_call (vs := [.slice (if c32 = 0 then ownA key31 else adr (ownA key31) (0 * 1)) 8 (c32 - 0)]) call30 rfl (whole_ok (((encR ks bx (((eightS (x / (2#64)) 8).1) ++ ([0#8, 0#8, 0#8, 0#8, 0#8, 0#8, 0#8, 0#8])) 10).drop 0).take (8)) (by first | omega | (rw [List.length_take, List.length_drop]; omega)) (if c32 = 0 then ownA key31 else adr (ownA key31) (0 * 1)) (c32 - 0) w29 (Rd.sub (H37.rd (k := 0) rfl hS34) 0 (8) (m := c32) (fun e => by first | exact absurd e (by omega) | (rw [show 8 = 0 by omega]; rfl)))) ?_
    rintro _ w38 ⟨rfl, hE39⟩
    have H40 := H37.ext hE39
    refine sq (r_assign (v := u64 (wholeS (((encR ks bx (((eightS (x / (2#64)) 8).1) ++ ([0#8, 0#8, 0#8, 0#8, 0#8, 0#8, 0#8, 0#8])) 10).drop 0).take (8)) 8)) rfl) ?_
    refine wend ?_
    refine retAny ?_
    refine thenRet ?_
    refine retG (rs := [.tmp 4]) (vs := [u64 (wholeS (((encR ks bx (((eightS (x / (2#64)) 8).1) ++ ([0#8, 0#8, 0#8, 0#8, 0#8, 0#8, 0#8, 0#8])) 10).drop 0).take (8)) 8)]) rfl ⟨⟨rfl, rfl⟩, trivial⟩ ?_
    exact ⟨_, rfl, by rw [wordR, if_pos c]; rfl, H40.chg⟩
  · skip
    refine skipAny ?_
    refine thenNormal ?_
    refine seqRegion ?_
    refine sq (r_move (v := .slice (ownA key31) 16 c32) rfl) ?_
    refine sq ((r_sliceS (l := 8) (h := 16) sli27 rfl (.inl ⟨_, _, _, rfl, rfl, by first | rfl | omega | (simp; omega)⟩) (.inr ⟨rfl, rfl⟩) (by omega) (by omega)).as (v' := .slice (if c32 = 8 then ownA key31 else adr (ownA key31) (8 * 1)) 8 (c32 - 8)) (by rw [show 16 - 8 = 8 by omega])) ?_
    refine c_call (vs := [.slice (if c32 = 8 then ownA key31 else adr (ownA key31) (8 * 1)) 8 (c32 - 8)]) call30 rfl (whole_ok (((encR ks bx (((eightS (x / (2#64)) 8).1) ++ ([0#8, 0#8, 0#8, 0#8, 0#8, 0#8, 0#8, 0#8])) 10).drop 8).take (8)) (by first | omega | (rw [List.length_take, List.length_drop]; omega)) (if c32 = 8 then ownA key31 else adr (ownA key31) (8 * 1)) (c32 - 8) w29 (Rd.sub (H37.rd (k := 0) rfl hS34) 8 (8) (m := c32) (fun e => by first | exact absurd e (by omega) | (rw [show 8 = 0 by omega]; rfl)))) ?_
    rintro _ w41 ⟨rfl, hE42⟩
    have H43 := H37.ext hE42
    refine sq (r_assign (v := u64 (wholeS (((encR ks bx (((eightS (x / (2#64)) 8).1) ++ ([0#8, 0#8, 0#8, 0#8, 0#8, 0#8, 0#8, 0#8])) 10).drop 8).take (8)) 8)) rfl) ?_
    refine wend ?_
    refine retAny ?_
    refine retG (rs := [.tmp 4]) (vs := [u64 (wholeS (((encR ks bx (((eightS (x / (2#64)) 8).1) ++ ([0#8, 0#8, 0#8, 0#8, 0#8, 0#8, 0#8, 0#8])) 10).drop 8).take (8)) 8)]) rfl ⟨⟨rfl, rfl⟩, trivial⟩ ?_
    exact ⟨_, rfl, by rw [wordR, if_neg c]; rfl, H43.chg⟩

theorem rhash_ok (ks bx : List By) (hks : ks.length = 176) (hbx : bx.length = 256) (a b tw : BitVec 64) (xk xb : Option Addr) (ck cb : Nat) (hck : 176 ≤ ck) (w : World) (hK : Rd E8 w xk ks) (hB : Rd E8 w xb bx) : Calls Try.prog 17 [.agg #[.slice xk 176 ck, .slice xb 256 cb], .agg (cel E64 [a, b]).toArray, u64 (tw)].toArray w (Ret fun v w' => v = .agg (cel E64 [sR0 a b tw ^^^ wholeS (((hashE ks bx a b tw).drop 0).take 8) 8, (dblR a b).2 ^^^ wholeS (((hashE ks bx a b tw).drop 8).take 8) 8]).toArray ∧ Ext w w') := by
  have H := Hp.start No w
  refine enter (n := 38) Try.func17 rfl rfl (Nat.le_of_ble_eq_true rfl) ?_
  refine seqRegion ?_
  refine q_box (v := .agg #[.slice xk 176 ck, .slice xb 256 cb]) (o := .cells #[.slice xk 176 ck, .slice xb 256 cb] 30 (0, 0)) H rfl (by rfl) ?_
  intro b1 w2 hb1 H3 _
  refine q_box (v := .agg (cel E64 [a, b]).toArray) (o := .cells (cel E64 ([a, b])).toArray 39 (0, 0)) H3 rfl (by rfl) ?_
  intro b4 w5 hb4 H6 _
  refine q_alloc (o := .cells (cel E64 ([0#64, 0#64])).toArray 39 (0, 0)) H6 zer39 (by kernel_rfl) ?_
  intro b7 w8 hb7 H9 _
  refine wend ?_
  refine seqRegion ?_
  refine sq (r_loadA (cs' := (cel E64 ([a, b])).toArray) agg39 siz39 (H9.get (k := 1) rfl) (off := 0) rfl (by exact Nat.le_of_ble_eq_true rfl) (by exact ext_all rfl)) ?_
  refine c_call (vs := [.agg (cel E64 ([a, b])).toArray]) call32 rfl (rdouble_ok a b w8) ?_
  rintro _ w10 ⟨rfl, hE11⟩
  have H12 := H9.ext hE11
  refine q_alloc (o := .cells (cel E64 ([0#64, 0#64])).toArray 39 (0, 0)) H12 zer39 (by kernel_rfl) ?_
  intro b13 w14 hb13 H15 _
  refine d_store (k := 0) (v := .agg (cel E64 [(dblR a b).1, (dblR a b).2]).toArray) (cs' := (cel E64 ([(dblR a b).1, (dblR a b).2])).toArray) H15 rfl rfl rfl siz39 (by exact celSize (by first | rfl | (show _ * 1 = _; omega))) (by exact celOne _) (by rw [List.size_toArray, cel_length]; show _ ≤ _ * 1; first | omega | (simp only [List.length_set]; omega) | exact Nat.le_of_ble_eq_true rfl | (simp <;> omega)) (by exact putAll (by first | rfl | omega | (simp <;> omega))) ?_
  intro w16 H17 _
  have H17' := H17.as (L' := [(some b13, .cells (cel E64 ([(dblR a b).1, (dblR a b).2])).toArray 39 (0, 0)), (some b7, .cells (cel E64 ([0#64, 0#64])).toArray 39 (0, 0)), (some b4, .cells (cel E64 ([a, b])).toArray 39 (0, 0)), (some b1, .cells #[.slice xk 176 ck, .slice xb 256 cb] 30 (0, 0))]) rfl
  clear H17
  refine wend ?_
  refine seqRegion ?_
  refine sq (r_indexA (off' := 0) (j := 0) arr39 (b := b13) (off := 0) rfl rfl (by first | rfl | omega | (simp; omega)) (by omega) (by omega)) ?_
  refine sq (r_ld1 (E := E64) (l := [(dblR a b).1, (dblR a b).2]) (j := 0) (a := (dblR a b).1) fits34 (H17'.get (k := 0) rfl) (by rfl) rfl rfl) ?_
  refine sq (r_move (v := u64 (tw)) rfl) ?_
  refine sq ((r_xor64 (a := (dblR a b).1) (b := tw) rfl rfl).as (v' := u64 (sR0 a b tw)) (by rfl)) ?_
  refine sq (r_indexA (off' := 0) (j := 0) arr39 (b := b13) (off := 0) rfl rfl (by first | rfl | omega | (simp; omega)) (by omega) (by omega)) ?_
  refine d_store (k := 0) (v := u64 (sR0 a b tw)) (cs' := (cel E64 ([sR0 a b tw, (dblR a b).2])).toArray) H17' rfl rfl rfl siz34 (by rfl) (by exact E64.one _) (by rw [List.size_toArray, cel_length]; show _ ≤ _ * 1; first | omega | (simp only [List.length_set]; omega) | exact Nat.le_of_ble_eq_true rfl | (simp <;> omega)) (by exact put1 (E := E64) rfl _ _ _) ?_
  intro w18 H19 _
  have H19' := H19.as (L' := [(some b13, .cells (cel E64 ([sR0 a b tw, (dblR a b).2])).toArray 39 (0, 0)), (some b7, .cells (cel E64 ([0#64, 0#64])).toArray 39 (0, 0)), (some b4, .cells (cel E64 ([a, b])).toArray 39 (0, 0)), (some b1, .cells #[.slice xk 176 ck, .slice xb 256 cb] 30 (0, 0))]) rfl
  clear H19
  refine wend ?_
  refine seqAny ?_
  refine drawAny (K := [none, none, none, some (slRel E8 5 ((eightS (sR0 a b tw) 8).1) w18), none, none, some (slRel E8 5 ((eightS ((dblR a b).2) 8).1) w18), some (slRel E8 5 (((eightS (sR0 a b tw) 8).1) ++ ((eightS ((dblR a b).2) 8).1)) w18)]) [0, 0, 2, 6, 0, 16, 62, 126, 255, 511] (fun w' => Ext w18 w') (NewR E8 5 ((eightS (sR0 a b tw) 8).1) ((eightS (dblR a b).2 8).1) w18) mixed (by kernel_rfl) (Ext.drew _) NewR.trans ?_ ?_
  · exact relAll ⟨⟨fun _ _ _ _ _ hR h => NewR.sl (Nat.le_refl _) hR h, fun _ _ _ _ _ h => h⟩, ⟨fun _ _ _ _ _ hR h => NewR.sl (Nat.le_of_eq (by rw [eightS_len, eightS_len])) hR h, fun _ _ _ _ _ h => h⟩, ⟨fun _ _ _ _ _ hR h => NewR.app hR h, fun _ _ _ _ _ h => h⟩, trivial⟩
  refine ⟨.agg #[.slice xk 176 ck, .slice xb 256 cb], fun _ uw20 hC21 _ => Gives.run rfl (r_loadA (cs' := #[.slice xk 176 ck, .slice xb 256 cb]) agg30 siz30 ((H19'.ext hC21).get (k := 3) rfl) (off := 0) rfl (by exact Nat.le_of_ble_eq_true rfl) (by rfl)) ⟨rfl, NewR.ext (Chg.refl _ _)⟩, ?_⟩
  refine ⟨.pointer (some ⟨b13, 0, none⟩), fun _ uw22 hC23 _ => Gives.run rfl (r_indexA (off' := 0) (j := 0) arr39 (b := b13) (off := 0) rfl rfl (by first | rfl | omega | (simp; omega)) (by omega) (by omega)) ⟨rfl, NewR.ext (Chg.refl _ _)⟩, ?_⟩
  refine ⟨u64 (sR0 a b tw), fun _ uw24 hC25 _ => Gives.run rfl (r_ld1 (E := E64) (l := [sR0 a b tw, (dblR a b).2]) (j := 0) (a := sR0 a b tw) fits34 ((H19'.ext hC25).get (k := 0) rfl) (by rfl) rfl rfl) ⟨rfl, NewR.ext (Chg.refl _ _)⟩, ?_⟩
  refine ⟨fun r uw26 hC27 hF => Gives.call rfl (Enters.callL (vs := [u64 (sR0 a b tw)]) call29 rfl) ((eight_ok (sR0 a b tw) uw26).mono fun _ _ ⟨v, h1, h2, h3⟩ => ⟨v, h1, h2.old (hC27.size), NewR.ext h3⟩), ?_⟩
  refine ⟨.pointer (some ⟨b13, 1, none⟩), fun _ uw28 hC29 _ => Gives.run rfl (r_indexA (off' := 1) (j := 1) arr39 (b := b13) (off := 0) rfl rfl (by first | rfl | omega | (simp; omega)) (by omega) (by omega)) ⟨rfl, NewR.ext (Chg.refl _ _)⟩, ?_⟩
  refine ⟨u64 ((dblR a b).2), fun _ uw30 hC31 _ => Gives.run rfl (r_ld1 (E := E64) (l := [sR0 a b tw, (dblR a b).2]) (j := 1) (a := (dblR a b).2) fits34 ((H19'.ext hC31).get (k := 0) rfl) (by rfl) rfl rfl) ⟨rfl, NewR.ext (Chg.refl _ _)⟩, ?_⟩
  refine ⟨fun r uw32 hC33 hF => Gives.call rfl (Enters.callL (vs := [u64 ((dblR a b).2)]) call29 rfl) ((eight_ok ((dblR a b).2) uw32).mono fun _ _ ⟨v, h1, h2, h3⟩ => ⟨v, h1, h2.old (hC33.size), NewR.ext h3⟩), ?_⟩
  refine ⟨fun r uw34 hC35 hF => ?_, ?_⟩
  · obtain ⟨x38, c39, e36, h37⟩ := SlRes.rd (hF 6 _ rfl rfl)
    rw [show ((eightS ((dblR a b).2) 8).1).length = 8 from eightS_len _ _] at e36
    exact newGives hC35 (hF 3 _ rfl rfl) sli27 zer5 rfl byt5 h37 rfl e36 (by exact (eightS_len _ _).symm) (by rw [eightS_len]; omega)
  intro r43 w40 hE42 hF
  have H41 := H19'.ext hE42
  obtain ⟨key47, c48, sp49, e44, hS45, H46⟩ := Hp.ownSl H19' hE42 (hF 7 _ rfl)
  rw [show (((eightS (sR0 a b tw) 8).1) ++ ((eightS ((dblR a b).2) 8).1)).length = 8 + 8 from by rw [List.length_append, eightS_len, eightS_len]] at e44
  dsimp only
  rw [e44]
  refine c_call (vs := [.agg #[.slice xk 176 ck, .slice xb 256 cb], .slice (ownA key47) (8 + 8) c48]) call11 rfl (renc_ok ks bx (((eightS (sR0 a b tw) 8).1) ++ ((eightS ((dblR a b).2) 8).1)) (by omega) (by omega) (by exact by rw [List.length_append, eightS_len, eightS_len]) xk xb (ownA key47) ck cb c48 (by omega) w40 (hK.ext H46.chg) (hB.ext H46.chg) (H46.rd (k := 0) rfl hS45)) ?_
  rintro _ w50 ⟨⟨key52, c53, sp54, rfl, hS55, hk56⟩, hE57⟩
  rw [show (encR ks bx (((eightS (sR0 a b tw) 8).1) ++ ((eightS ((dblR a b).2) 8).1)) 10).length = 16 from encR_len _ _ _ _]
  have H58 := H46.add hE57 hk56
  refine sq (r_assign (v := .slice (ownA key52) 16 c53) rfl) ?_
  have e59 : encR ks bx (((eightS (sR0 a b tw) 8).1) ++ ((eightS ((dblR a b).2) 8).1)) 10 = hashE ks bx a b tw := by rfl
  have hS60 := hS55
  rw [e59] at hS60
  have H61 := H58.as (L' := [(key52, sob E8 5 (hashE ks bx a b tw) sp54), (key47, sob E8 5 (((eightS (sR0 a b tw) 8).1) ++ ((eightS ((dblR a b).2) 8).1)) sp49), (some b13, .cells (cel E64 ([sR0 a b tw, (dblR a b).2])).toArray 39 (0, 0)), (some b7, .cells (cel E64 ([0#64, 0#64])).toArray 39 (0, 0)), (some b4, .cells (cel E64 ([a, b])).toArray 39 (0, 0)), (some b1, .cells #[.slice xk 176 ck, .slice xb 256 cb] 30 (0, 0))]) (by rw [e59])
  have hle : (hashE ks bx a b tw).length = 16 := encR_len _ _ _ _
  have hce := hS60.cap
  refine wnil ?_
  refine thenNormal ?_
  refine seqAny ?_
  refine drawAny (K := [none, none, none, none, none, none, none, none, none, none, none, none, none]) [0, 1, 0, 4, 12, 31, 0, 64, 0, 256, 796, 2012, 4095, 8191] (fun w' => Ext w50 w') (fun w' w'' => Ext w' w'') mixed (by kernel_rfl) (Ext.drew _) (fun _ _ h h' => h.trans h') ?_ ?_
  · exact relNone (by decide)
  refine ⟨.pointer (some ⟨b13, 0, none⟩), fun _ uw62 hC63 _ => Gives.run rfl (r_indexA (off' := 0) (j := 0) arr39 (b := b13) (off := 0) rfl rfl (by first | rfl | omega | (simp; omega)) (by omega) (by omega)) ⟨rfl, Chg.refl _ _⟩, ?_⟩
  refine ⟨u64 (sR0 a b tw), fun _ uw64 hC65 _ => Gives.run rfl (r_ld1 (E := E64) (l := [sR0 a b tw, (dblR a b).2]) (j := 0) (a := sR0 a b tw) fits34 ((H61.ext hC65).get (k := 2) rfl) (by rfl) rfl rfl) ⟨rfl, Chg.refl _ _⟩, ?_⟩
  refine ⟨.slice (ownA key52) 16 c53, fun _ uw66 hC67 _ => Gives.run rfl (r_move (v := .slice (ownA key52) 16 c53) rfl) ⟨rfl, Chg.refl _ _⟩, ?_⟩
  refine ⟨.slice (if c53 = 0 then ownA key52 else adr (ownA key52) (0 * 1)) 8 (c53 - 0), fun _ uw68 hC69 _ => Gives.run rfl ((r_sliceS (l := 0) (h := 8) sli27 rfl (.inr ⟨rfl, rfl⟩) (.inl ⟨_, _, _, rfl, rfl, by first | rfl | omega | (simp; omega)⟩) (by omega) (by omega)).as (v' := .slice (if c53 = 0 then ownA key52 else adr (ownA key52) (0 * 1)) 8 (c53 - 0)) (by rw [show 8 - 0 = 8 by omega])) ⟨rfl, Chg.refl _ _⟩, ?_⟩
  refine ⟨u64 (wholeS (((hashE ks bx a b tw).drop 0).take (8)) 8), fun _ uw70 hC71 _ => Gives.call rfl (Enters.callL (vs := [.slice (if c53 = 0 then ownA key52 else adr (ownA key52) (0 * 1)) 8 (c53 - 0)]) call30 rfl) (whole_ok (((hashE ks bx a b tw).drop 0).take (8)) (by first | omega | (rw [List.length_take, List.length_drop]; omega)) (if c53 = 0 then ownA key52 else adr (ownA key52) (0 * 1)) (c53 - 0) uw70 (Rd.sub ((H61.ext hC71).rd (k := 0) rfl hS60) 0 (8) (m := c53) (fun e => by first | exact absurd e (by omega) | (rw [show 8 = 0 by omega]; rfl)))), ?_⟩
  refine ⟨u64 ((sR0 a b tw) ^^^ (wholeS (((hashE ks bx a b tw).drop 0).take (8)) 8)), fun _ uw72 hC73 _ => Gives.run rfl (r_xor64 (a := sR0 a b tw) (b := wholeS (((hashE ks bx a b tw).drop 0).take (8)) 8) rfl rfl) ⟨rfl, Chg.refl _ _⟩, ?_⟩
  refine ⟨.pointer (some ⟨b13, 1, none⟩), fun _ uw74 hC75 _ => Gives.run rfl (r_indexA (off' := 1) (j := 1) arr39 (b := b13) (off := 0) rfl rfl (by first | rfl | omega | (simp; omega)) (by omega) (by omega)) ⟨rfl, Chg.refl _ _⟩, ?_⟩
  refine ⟨u64 ((dblR a b).2), fun _ uw76 hC77 _ => Gives.run rfl (r_ld1 (E := E64) (l := [sR0 a b tw, (dblR a b).2]) (j := 1) (a := (dblR a b).2) fits34 ((H61.ext hC77).get (k := 2) rfl) (by rfl) rfl rfl) ⟨rfl, Chg.refl _ _⟩, ?_⟩
  refine ⟨.slice (ownA key52) 16 c53, fun _ uw78 hC79 _ => Gives.run rfl (r_move (v := .slice (ownA key52) 16 c53) rfl) ⟨rfl, Chg.refl _ _⟩, ?_⟩
  refine ⟨.slice (if c53 = 8 then ownA key52 else adr (ownA key52) (8 * 1)) 8 (c53 - 8), fun _ uw80 hC81 _ => Gives.run rfl ((r_sliceS (l := 8) (h := 16) sli27 rfl (.inl ⟨_, _, _, rfl, rfl, by first | rfl | omega | (simp; omega)⟩) (.inr ⟨rfl, rfl⟩) (by omega) (by omega)).as (v' := .slice (if c53 = 8 then ownA key52 else adr (ownA key52) (8 * 1)) 8 (c53 - 8)) (by rw [show 16 - 8 = 8 by omega])) ⟨rfl, Chg.refl _ _⟩, ?_⟩
  refine ⟨u64 (wholeS (((hashE ks bx a b tw).drop 8).take (8)) 8), fun _ uw82 hC83 _ => Gives.call rfl (Enters.callL (vs := [.slice (if c53 = 8 then ownA key52 else adr (ownA key52) (8 * 1)) 8 (c53 - 8)]) call30 rfl) (whole_ok (((hashE ks bx a b tw).drop 8).take (8)) (by first | omega | (rw [List.length_take, List.length_drop]; omega)) (if c53 = 8 then ownA key52 else adr (ownA key52) (8 * 1)) (c53 - 8) uw82 (Rd.sub ((H61.ext hC83).rd (k := 0) rfl hS60) 8 (8) (m := c53) (fun e => by first | exact absurd e (by omega) | (rw [show 8 = 0 by omega]; rfl)))), ?_⟩
  refine ⟨u64 (((dblR a b).2) ^^^ (wholeS (((hashE ks bx a b tw).drop 8).take (8)) 8)), fun _ uw84 hC85 _ => Gives.run rfl (r_xor64 (a := (dblR a b).2) (b := wholeS (((hashE ks bx a b tw).drop 8).take (8)) 8) rfl rfl) ⟨rfl, Chg.refl _ _⟩, ?_⟩
  refine ⟨.agg (cel E64 [(sR0 a b tw) ^^^ (wholeS (((hashE ks bx a b tw).drop 0).take (8)) 8), ((dblR a b).2) ^^^ (wholeS (((hashE ks bx a b tw).drop 8).take (8)) 8)]).toArray, fun _ uw86 hC87 _ => Gives.run rfl (r_buildA (cs' := (cel E64 [(sR0 a b tw) ^^^ (wholeS (((hashE ks bx a b tw).drop 0).take (8)) 8), ((dblR a b).2) ^^^ (wholeS (((hashE ks bx a b tw).drop 8).take (8)) 8)]).toArray) (ps := [(0, u64 ((sR0 a b tw) ^^^ (wholeS (((hashE ks bx a b tw).drop 0).take (8)) 8))), (1, u64 (((dblR a b).2) ^^^ (wholeS (((hashE ks bx a b tw).drop 8).take (8)) 8)))]) zer39 arr39 rfl (by rfl)) ⟨rfl, Chg.refl _ _⟩, ?_⟩
  intro r91 w88 hE90 hF
  have H89 := H61.ext hE90
  refine d_store (k := 3) (v := .agg (cel E64 [(sR0 a b tw) ^^^ (wholeS (((hashE ks bx a b tw).drop 0).take (8)) 8), ((dblR a b).2) ^^^ (wholeS (((hashE ks bx a b tw).drop 8).take (8)) 8)]).toArray) (cs' := (cel E64 ([(sR0 a b tw) ^^^ (wholeS (((hashE ks bx a b tw).drop 0).take (8)) 8), ((dblR a b).2) ^^^ (wholeS (((hashE ks bx a b tw).drop 8).take (8)) 8)])).toArray) H89 rfl rfl rfl siz39 (by exact celSize (by first | rfl | (show _ * 1 = _; omega))) (by exact celOne _) (by rw [List.size_toArray, cel_length]; show _ ≤ _ * 1; first | omega | (simp only [List.length_set]; omega) | exact Nat.le_of_ble_eq_true rfl | (simp <;> omega)) (by exact putAll (by first | rfl | omega | (simp <;> omega))) ?_
  intro w92 H93 _
  have H93' := H93.as (L' := [(key52, sob E8 5 (hashE ks bx a b tw) sp54), (key47, sob E8 5 (((eightS (sR0 a b tw) 8).1) ++ ((eightS ((dblR a b).2) 8).1)) sp49), (some b13, .cells (cel E64 ([sR0 a b tw, (dblR a b).2])).toArray 39 (0, 0)), (some b7, .cells (cel E64 ([(sR0 a b tw) ^^^ (wholeS (((hashE ks bx a b tw).drop 0).take (8)) 8), ((dblR a b).2) ^^^ (wholeS (((hashE ks bx a b tw).drop 8).take (8)) 8)])).toArray 39 (0, 0)), (some b4, .cells (cel E64 ([a, b])).toArray 39 (0, 0)), (some b1, .cells #[.slice xk 176 ck, .slice xb 256 cb] 30 (0, 0))]) rfl
  clear H93
  refine wnil ?_
  refine thenNormal ?_
  refine retAny ?_
  refine retG (rs := [.cell 6 39]) (vs := [.agg (cel E64 ([(sR0 a b tw) ^^^ (wholeS (((hashE ks bx a b tw).drop 0).take (8)) 8), ((dblR a b).2) ^^^ (wholeS (((hashE ks bx a b tw).drop 8).take (8)) 8)])).toArray]) rfl ⟨r_loadA (cs' := (cel E64 ([(sR0 a b tw) ^^^ (wholeS (((hashE ks bx a b tw).drop 0).take (8)) 8), ((dblR a b).2) ^^^ (wholeS (((hashE ks bx a b tw).drop 8).take (8)) 8)])).toArray) agg39 siz39 (H93'.get (k := 3) rfl) (off := 0) rfl (by exact Nat.le_of_ble_eq_true rfl) (by exact ext_all rfl), trivial⟩ ?_
  exact ⟨_, rfl, rfl, H93'.chg⟩
end Go.Proofs.Ytcnkllkieelahaa.Aes
