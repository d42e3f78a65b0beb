/- The walks of the document's cipher. -/
import Derived.Test.YtkclklnfohaheaaDoorVcEq
import Derived.Test.YtkclklnfohaheaaDoorVcAppN
import Derived.Test.YtkclklnfohaheaaDoorAes
import Derived.Test.YtkclklnfohaheaaDoorAesRefSpec
import Derived.Test.YtkclklnfohaheaaDoorProg
namespace Go.Proofs.YtkclklnfohaheaaDoor.Aes
open Go Go.Proofs.YtkclklnfohaheaaDoor.Vc Go.Proofs.YtkclklnfohaheaaDoor.AesSpec
theorem agg108 : isAgg' Tryd.prog 108 = true := by kernel_rfl
theorem byt5 : byt Tryd.prog 5 = some 1 := by kernel_rfl
theorem call100 : callable Tryd.prog 100 = true := by kernel_rfl
theorem call80 : callable Tryd.prog 80 = true := by kernel_rfl
theorem call81 : callable Tryd.prog 81 = true := by kernel_rfl
theorem call82 : callable Tryd.prog 82 = true := by kernel_rfl
theorem call83 : callable Tryd.prog 83 = true := by kernel_rfl
theorem call84 : callable Tryd.prog 84 = true := by kernel_rfl
theorem call98 : callable Tryd.prog 98 = true := by kernel_rfl
theorem call99 : callable Tryd.prog 99 = true := by kernel_rfl
theorem fld108_0 : fld Tryd.prog 108 0 = some (0, 1, 27) := by kernel_rfl
theorem fld108_1 : fld Tryd.prog 108 1 = some (1, 1, 27) := by kernel_rfl
theorem one27 : isOne Tryd.prog 27 = true := by kernel_rfl
theorem pls108 : pls Tryd.prog 108 = some #[(0, 1), (1, 1)] := by kernel_rfl
theorem siz108 : siz Tryd.prog 108 = some 2 := by kernel_rfl
theorem siz27 : siz Tryd.prog 27 = some 1 := by kernel_rfl
theorem sli27 : sli Tryd.prog 27 = some (5, 1) := by kernel_rfl
theorem zer108 : zer Tryd.prog 108 = some (.agg #[.slice none 0 0, .slice none 0 0]) := by kernel_rfl
theorem zer5 : zer Tryd.prog 5 = some (.int .u8 0) := by kernel_rfl
def CiphR (ks bx : List By) (w : World) (v : Value) (w' : World) : Prop := ∃ kk kc ksp kb cb spb, v = .agg #[.slice (ownA kk) 176 kc, .slice (ownA kb) 256 cb] ∧ Sl E8 kk ks kc ksp ∧ Sl E8 kb bx cb spb ∧ Hp No w w' [(kb, sob E8 5 bx spb), (kk, sob E8 5 ks ksp)]
theorem CiphR.ext {ks bx : List By} {w : World} {v : Value} {w1 w2 : World} (h : CiphR ks bx w v w1) (hE : Ext w1 w2) : CiphR ks bx w v w2 := by
  obtain ⟨kk, kc, ksp, kb, cb, spb, h1, h2, h3, h4⟩ := h
  exact ⟨kk, kc, ksp, kb, cb, spb, h1, h2, h3, h4.ext hE⟩
theorem CiphR.old {ks bx : List By} {w0 w : World} {v : Value} {w1 : World} (h : CiphR ks bx w v w1) (hE : Ext w0 w) : CiphR ks bx w0 v w1 := by
  obtain ⟨kk, kc, ksp, kb, cb, spb, h1, h2, h3, h4⟩ := h
  exact ⟨kk, kc, ksp, kb, cb, spb, h1, h2, h3, ((Hp.start No w0).ext hE).join h4⟩
theorem CiphR.rd {ks bx : List By} {w0 w : World} {v : Value} (h : CiphR ks bx w0 v w) (hk : ks.length = 176) : ∃ xk ck xb cb, v = .agg #[.slice xk 176 ck, .slice xb 256 cb] ∧ 176 ≤ ck ∧ Rd E8 w xk ks ∧ Rd E8 w xb bx := by
  obtain ⟨kk, kc, ksp, kb, cb, spb, h1, h2, h3, h4⟩ := h
  exact ⟨_, _, _, _, h1, hk ▸ h2.cap, h4.rd (k := 1) rfl h2, h4.rd (k := 0) rfl h3⟩
theorem inverse_ok (a : By) (w : World) : Calls Tryd.prog 98 [u8 (a)].toArray w (Ret fun v w' => v = u8 (invS a 254) ∧ Ext w w') := by
  have H := Hp.start No w
  refine enter (n := 13) Tryd.func98 rfl rfl (Nat.le_of_ble_eq_true rfl) ?_
  refine seqRegion ?_
  refine sq (r_assign (v := u8 (0#8)) rfl) ?_
  refine wend ?_
  refine seqRegion ?_
  refine sq (r_assign (v := u8 (1#8)) rfl) ?_
  refine wend ?_
  refine seqAny ?_
  refine seqRegion ?_
  refine sq (r_assign (v := i64 ((0 : Int))) rfl) ?_
  refine wend ?_
  refine blockAny ?_
  refine loopAny (σ := Nat) (fun k => [(0, u8 (a)), (3, u8 (invS a k)), (4, i64 ((k : Nat)))]) (fun k w' => k ≤ 254 ∧ Hp No w w' []) (fun k => 254 - k) (0) ?_ ?_ ?_
  · exact ⟨rfl, rfl, rfl, trivial⟩
  · exact ⟨by omega, H⟩
  rintro k ρ w1 ⟨hk, H2⟩
  refine seqAny ?_
  refine seqRegion ?_
  refine sq (r_move (v := i64 ((k : Nat))) rfl) ?_
  refine sq (r_lssI (a := (k : Nat)) (b := (254 : Int)) rfl rfl) ?_
  refine wend ?_
  refine condProp (((k : Nat) : Int) < (254 : Int)) rfl (fun hk6 => ?_) (fun hk6 => ?_)
  · skip
    refine skipAny ?_
    refine thenNormal ?_
    refine seqAny ?_
    refine blockAny ?_
    refine oneRegion ?_
    refine sq (r_move (v := u8 (invS a k)) rfl) ?_
    refine sq (r_move (v := u8 (a)) rfl) ?_
    refine c_call (vs := [u8 (invS a k), u8 (a)]) call81 rfl (times_ok (invS a k) a w1) ?_
    rintro _ w3 ⟨rfl, hE4⟩
    have H5 := H2.ext hE4
    refine sq (r_assign (v := u8 (gm (invS a k) a)) rfl) ?_
    refine wnil ?_
    refine blockNormal ?_
    refine thenNormal ?_
    refine oneRegion ?_
    refine sq (r_move (v := i64 ((k : Nat))) rfl) ?_
    refine sq (r_addI (a := (k : Nat)) (b := (1 : Int)) rfl rfl (by omega)) ?_
    refine sq (r_assign (v := i64 ((k : Nat) + (1 : Int))) rfl) ?_
    refine wnil ?_
    refine thenNormal ?_
    exact ⟨k + 1, _, rfl, ⟨rfl, rfl, rfl, trivial⟩, ⟨by omega, H5⟩, by show 254 - (k + 1) < 254 - k; omega⟩
  · skip
    obtain rfl : k = 254 := by omega
    refine exitAny ?_
    refine thenExit ?_
    refine thenExit ?_
    refine blockHere ?_
    refine thenNormal ?_
    refine seqRegion ?_
    refine sq (r_move (v := u8 (invS a 254)) rfl) ?_
    refine sq (r_assign (v := u8 (invS a 254)) rfl) ?_
    refine wend ?_
    refine retAny ?_
    refine retG (rs := [.tmp 2]) (vs := [u8 (invS a 254)]) rfl ⟨⟨rfl, rfl⟩, trivial⟩ ?_
    exact ⟨_, rfl, rfl, H2.chg⟩

theorem s_ok (a : By) (w : World) : Calls Tryd.prog 80 [u8 (a)].toArray w (Ret fun v w' => v = u8 (sR a) ∧ Ext w w') := by
  have H := Hp.start No w
  refine enter (n := 21) Tryd.func80 rfl rfl (Nat.le_of_ble_eq_true rfl) ?_
  refine seqRegion ?_
  refine sq (r_assign (v := u8 (0#8)) rfl) ?_
  refine wend ?_
  refine seqRegion ?_
  refine sq (r_move (v := u8 (a)) rfl) ?_
  refine c_call (vs := [u8 (a)]) call98 rfl (inverse_ok a w) ?_
  rintro _ w1 ⟨rfl, hE2⟩
  have H3 := H.ext hE2
  refine sq (r_assign (v := u8 (invS a 254)) rfl) ?_
  refine wend ?_
  refine seqRegion ?_
  refine sq (r_assign (v := u8 (99#8)) rfl) ?_
  refine wend ?_
  refine seqAny ?_
  refine seqRegion ?_
  refine sq (r_assign (v := i64 ((0 : Int))) rfl) ?_
  refine wend ?_
  refine blockAny ?_
  refine loopAny (σ := Nat) (fun k => [(3, u8 ((sS (invS a 254) k).2)), (4, u8 ((sS (invS a 254) k).1)), (5, i64 ((k : Nat)))]) (fun k w' => k ≤ 5 ∧ Hp No w w' []) (fun k => 5 - k) (0) ?_ ?_ ?_
  · exact ⟨rfl, rfl, rfl, trivial⟩
  · exact ⟨by omega, H3⟩
  rintro k ρ w4 ⟨hk, H5⟩
  refine seqAny ?_
  refine seqRegion ?_
  refine sq (r_move (v := i64 ((k : Nat))) rfl) ?_
  refine sq (r_lssI (a := (k : Nat)) (b := (5 : Int)) rfl rfl) ?_
  refine wend ?_
  refine condProp (((k : Nat) : Int) < (5 : Int)) rfl (fun hk9 => ?_) (fun hk9 => ?_)
  · skip
    refine skipAny ?_
    refine thenNormal ?_
    refine seqAny ?_
    refine blockAny ?_
    refine seqRegion ?_
    refine sq (r_move (v := u8 ((sS (invS a 254) k).1)) rfl) ?_
    refine sq (r_move (v := u8 ((sS (invS a 254) k).2)) rfl) ?_
    refine sq (r_xor8 (a := (sS (invS a 254) k).1) (b := (sS (invS a 254) k).2) rfl rfl) ?_
    refine sq (r_assign (v := u8 (((sS (invS a 254) k).1) ^^^ ((sS (invS a 254) k).2))) rfl) ?_
    refine wend ?_
    refine oneRegion ?_
    refine sq (r_move (v := u8 ((sS (invS a 254) k).2)) rfl) ?_
    refine sq (r_mul8 (a := (sS (invS a 254) k).2) (b := 2#8) rfl rfl) ?_
    refine sq (r_move (v := u8 ((sS (invS a 254) k).2)) rfl) ?_
    refine sq (r_quo8 (a := (sS (invS a 254) k).2) (b := 128#8) rfl rfl (by decide)) ?_
    refine sq (r_add8 (a := ((sS (invS a 254) k).2) * (2#8)) (b := ((sS (invS a 254) k).2) / (128#8)) rfl rfl) ?_
    refine sq (r_assign (v := u8 ((((sS (invS a 254) k).2) * (2#8)) + (((sS (invS a 254) k).2) / (128#8)))) rfl) ?_
    refine wnil ?_
    refine blockNormal ?_
    refine thenNormal ?_
    refine oneRegion ?_
    refine sq (r_move (v := i64 ((k : Nat))) rfl) ?_
    refine sq (r_addI (a := (k : Nat)) (b := (1 : Int)) rfl rfl (by omega)) ?_
    refine sq (r_assign (v := i64 ((k : Nat) + (1 : Int))) rfl) ?_
    refine wnil ?_
    refine thenNormal ?_
    exact ⟨k + 1, _, rfl, ⟨rfl, rfl, rfl, trivial⟩, ⟨by omega, H5⟩, by show 5 - (k + 1) < 5 - k; omega⟩
  · skip
    obtain rfl : k = 5 := by omega
    refine exitAny ?_
    refine thenExit ?_
    refine thenExit ?_
    refine blockHere ?_
    refine thenNormal ?_
    refine seqRegion ?_
    refine sq (r_move (v := u8 ((sS (invS a 254) 5).1)) rfl) ?_
    refine sq (r_assign (v := u8 ((sS (invS a 254) 5).1)) rfl) ?_
    refine wend ?_
    refine retAny ?_
    refine retG (rs := [.tmp 2]) (vs := [u8 ((sS (invS a 254) 5).1)]) rfl ⟨⟨rfl, rfl⟩, trivial⟩ ?_
    exact ⟨_, rfl, rfl, H5.chg⟩

theorem add_ok (a b : List By) (ha : a.length = 16) (hb : b.length = 16) (xa xb : Option Addr) (ca cb : Nat) (w : World) (hA : Rd E8 w xa a) (hB : Rd E8 w xb b) : Calls Tryd.prog 99 [.slice xa 16 ca, .slice xb 16 cb].toArray w (Ret fun v w' => SlRes E8 5 (addR a b 16) w v w' ∧ Ext w w') := by
  have H := Hp.start No w
  refine enter (n := 25) Tryd.func99 rfl rfl (Nat.le_of_ble_eq_true rfl) ?_
  refine seqRegion ?_
  refine sq (r_assign (v := .slice none 0 0) rfl) ?_
  refine wend ?_
  refine seqRegion ?_
  refine q_makeSlice (E := E8) (m := 16) (c := 16) (z0 := 0#8) H sli27 zer5 rfl byt5 rfl rfl (by first | rfl | omega | (simp; omega)) (by first | rfl | omega | (simp; omega)) (by omega) (by omega) ?_
  intro b1 w3 hS2 H4 _
  refine sq (r_assign (v := .slice (ownA (some b1)) 16 16) rfl) ?_
  refine wend ?_
  refine seqAny ?_
  refine seqRegion ?_
  refine sq (r_assign (v := i64 ((0 : Int))) rfl) ?_
  refine wend ?_
  refine blockAny ?_
  refine loopAny (σ := Nat) (fun i => [(0, .slice xa 16 ca), (1, .slice xb 16 cb), (5, .slice (ownA (some b1)) 16 16), (6, i64 ((i : Nat)))]) (fun i w' => i ≤ 16 ∧ Sl E8 (some b1) (addR a b i) 16 (cel E8 (List.replicate (16 - 16) 0#8)) ∧ Hp No w w' [((some b1), sob E8 5 (addR a b i) (cel E8 (List.replicate (16 - 16) 0#8)))]) (fun i => 16 - i) (0) ?_ ?_ ?_
  · exact ⟨rfl, rfl, rfl, rfl, trivial⟩
  · exact ⟨by omega, hS2, H4⟩
  rintro i ρ w5 ⟨hi, hS, HL⟩
  have hl := addR_len a b i
  refine seqAny ?_
  refine seqRegion ?_
  refine sq (r_move (v := i64 ((i : Nat))) rfl) ?_
  refine sq (r_lssI (a := (i : Nat)) (b := (16 : Int)) rfl rfl) ?_
  refine wend ?_
  refine condProp (((i : Nat) : Int) < (16 : Int)) rfl (fun hk9 => ?_) (fun hk9 => ?_)
  · skip
    refine skipAny ?_
    refine thenNormal ?_
    refine seqAny ?_
    refine blockAny ?_
    refine drawAny (K := [none, none, none, none, none, none, none, none, none, none, none, none]) [0, 0, 0, 0, 12, 28, 0, 0, 192, 448, 1020, 2047, 4095] (fun w' => Ext w5 w') (fun w' w'' => Ext w' w'') mixed (by kernel_rfl) (Ext.drew _) (fun _ _ h h' => h.trans h') ?_ ?_
    · exact relNone (by decide)
    refine ⟨.slice (ownA (some b1)) 16 16, fun _ uw7 hC8 _ => Gives.run rfl (r_move (v := .slice (ownA (some b1)) 16 16) rfl) ⟨rfl, Chg.refl _ _⟩, ?_⟩
    refine ⟨i64 ((i : Nat)), fun _ uw9 hC10 _ => Gives.run rfl (r_move (v := i64 ((i : Nat))) rfl) ⟨rfl, Chg.refl _ _⟩, ?_⟩
    refine ⟨.slice xa 16 ca, fun _ uw11 hC12 _ => Gives.run rfl (r_move (v := .slice xa 16 ca) rfl) ⟨rfl, Chg.refl _ _⟩, ?_⟩
    refine ⟨i64 ((i : Nat)), fun _ uw13 hC14 _ => Gives.run rfl (r_move (v := i64 ((i : Nat))) rfl) ⟨rfl, Chg.refl _ _⟩, ?_⟩
    refine ⟨.pointer (adr xa (i * 1)), fun _ uw15 hC16 _ => Gives.run rfl (r_idxS (E := E8) (l := a) (j := i) sli27 (hA.ext (HL.ext hC16).chg) rfl rfl (by first | rfl | omega | (simp; omega)) (by omega) (by omega)) ⟨rfl, Chg.refl _ _⟩, ?_⟩
    refine ⟨u8 ((a).getD i 0#8), fun _ uw17 hC18 _ => Gives.run rfl (r_ldS (E := E8) (l := a) (j := i) (v := (a).getD i 0#8) fits5 (hA.ext (HL.ext hC18).chg) rfl rfl (at_getD (by omega))) ⟨rfl, Chg.refl _ _⟩, ?_⟩
    refine ⟨.slice xb 16 cb, fun _ uw19 hC20 _ => Gives.run rfl (r_move (v := .slice xb 16 cb) rfl) ⟨rfl, Chg.refl _ _⟩, ?_⟩
    refine ⟨i64 ((i : Nat)), fun _ uw21 hC22 _ => Gives.run rfl (r_move (v := i64 ((i : Nat))) rfl) ⟨rfl, Chg.refl _ _⟩, ?_⟩
    refine ⟨.pointer (adr xb (i * 1)), fun _ uw23 hC24 _ => Gives.run rfl (r_idxS (E := E8) (l := b) (j := i) sli27 (hB.ext (HL.ext hC24).chg) rfl rfl (by first | rfl | omega | (simp; omega)) (by omega) (by omega)) ⟨rfl, Chg.refl _ _⟩, ?_⟩
    refine ⟨u8 ((b).getD i 0#8), fun _ uw25 hC26 _ => Gives.run rfl (r_ldS (E := E8) (l := b) (j := i) (v := (b).getD i 0#8) fits5 (hB.ext (HL.ext hC26).chg) rfl rfl (at_getD (by omega))) ⟨rfl, Chg.refl _ _⟩, ?_⟩
    refine ⟨u8 (((a).getD i 0#8) ^^^ ((b).getD i 0#8)), fun _ uw27 hC28 _ => Gives.run rfl (r_xor8 (a := (a).getD i 0#8) (b := (b).getD i 0#8) rfl rfl) ⟨rfl, Chg.refl _ _⟩, ?_⟩
    refine ⟨.pointer (adr (ownA (some b1)) (i * 1)), fun _ uw29 hC30 _ => Gives.run rfl (r_idxS (E := E8) (l := addR a b i) (j := i) sli27 ((HL.ext hC30).rd (k := 0) rfl hS) rfl rfl (by first | rfl | omega | (simp; omega)) (by omega) (by omega)) ⟨rfl, Chg.refl _ _⟩, ?_⟩
    intro r34 w31 hE33 hF
    have H32 := HL.ext hE33
    refine d_storeS (E := E8) (k := 0) (l := addR a b i) (j := i) (b := ((a).getD i 0#8) ^^^ ((b).getD i 0#8)) (a := (addR a b i).getD i 0#8) H32 rfl hS rfl rfl rfl rfl siz5 (at_getD (by omega)) ?_
    intro w36 hS35 H37
    have H37' := H37.as (L' := [((some b1), sob E8 5 ((addR a b i).set i (((a).getD i 0#8) ^^^ ((b).getD i 0#8))) (cel E8 (List.replicate (16 - 16) 0#8)))]) rfl
    clear H37
    refine wnil ?_
    refine blockNormal ?_
    refine thenNormal ?_
    refine oneRegion ?_
    refine sq (r_move (v := i64 ((i : Nat))) rfl) ?_
    refine sq (r_addI (a := (i : Nat)) (b := (1 : Int)) rfl rfl (by omega)) ?_
    refine sq (r_assign (v := i64 ((i : Nat) + (1 : Int))) rfl) ?_
    refine wnil ?_
    refine thenNormal ?_
    exact ⟨i + 1, _, rfl, ⟨rfl, rfl, rfl, rfl, trivial⟩, ⟨by omega, hS35, H37'⟩, by show 16 - (i + 1) < 16 - i; omega⟩
  · skip
    obtain rfl : i = 16 := by omega
    refine exitAny ?_
    refine thenExit ?_
    refine thenExit ?_
    refine blockHere ?_
    refine thenNormal ?_
    refine seqRegion ?_
    refine sq (r_move (v := .slice (ownA (some b1)) 16 16) rfl) ?_
    refine sq (r_assign (v := .slice (ownA (some b1)) 16 16) rfl) ?_
    refine wend ?_
    refine retAny ?_
    refine retG (rs := [.tmp 4]) (vs := [.slice (ownA (some b1)) 16 16]) rfl ⟨⟨rfl, rfl⟩, trivial⟩ ?_
    exact ⟨_, rfl, HL.resN (k := 0) rfl hS hl.symm, HL.chg⟩

theorem rmix_ok (t : List By) (ht : t.length = 16) (xt : Option Addr) (ct : Nat) (w : World) (hT : Rd E8 w xt t) : Calls Tryd.prog 100 [.slice xt 16 ct].toArray w (Ret fun v w' => SlRes E8 5 (mixRS t 4) w v w' ∧ Ext w w') := by
  have H := Hp.start No w
  refine enter (n := 69) Tryd.func100 rfl rfl (Nat.le_of_ble_eq_true rfl) ?_
  refine seqRegion ?_
  refine sq (r_assign (v := .slice none 0 0) rfl) ?_
  refine wend ?_
  refine seqRegion ?_
  refine q_makeSlice (E := E8) (m := 16) (c := 16) (z0 := 0#8) H sli27 zer5 rfl byt5 rfl rfl (by first | rfl | omega | (simp; omega)) (by first | rfl | omega | (simp; omega)) (by omega) (by omega) ?_
  intro b1 w3 hS2 H4 _
  refine sq (r_assign (v := .slice (ownA (some b1)) 16 16) rfl) ?_
  refine wend ?_
  refine seqAny ?_
  refine seqRegion ?_
  refine sq (r_assign (v := i64 ((0 : Int))) rfl) ?_
  refine wend ?_
  refine blockAny ?_
  refine loopAny (σ := Nat) (fun c => [(0, .slice xt 16 ct), (3, .slice (ownA (some b1)) 16 16), (4, i64 ((c : Nat)))]) (fun c w' => c ≤ 4 ∧ Sl E8 (some b1) (mixRS t c) 16 (cel E8 (List.replicate (16 - 16) 0#8)) ∧ Hp No w w' [((some b1), sob E8 5 (mixRS t c) (cel E8 (List.replicate (16 - 16) 0#8)))]) (fun c => 4 - c) (0) ?_ ?_ ?_
  · exact ⟨rfl, rfl, rfl, trivial⟩
  · exact ⟨by omega, hS2, H4⟩
  rintro c ρ w5 ⟨hc, hS, HL⟩
  have hl := mixRS_len t c
  refine seqAny ?_
  refine seqRegion ?_
  refine sq (r_move (v := i64 ((c : Nat))) rfl) ?_
  refine sq (r_lssI (a := (c : Nat)) (b := (4 : Int)) rfl rfl) ?_
  refine wend ?_
  refine condProp (((c : Nat) : Int) < (4 : Int)) rfl (fun hk12 => ?_) (fun hk12 => ?_)
  · skip
    refine skipAny ?_
    refine thenNormal ?_
    refine seqAny ?_
    refine blockAny ?_
    refine seqRegion ?_
    refine sq (r_assign (v := i64 ((0 : Int))) rfl) ?_
    refine wend ?_
    refine blockAny ?_
    refine loopAny (σ := Nat) (fun r => [(0, .slice xt 16 ct), (3, .slice (ownA (some b1)) 16 16), (4, i64 ((c : Nat))), (5, i64 ((r : Nat)))]) (fun r w' => r ≤ 4 ∧ Sl E8 (some b1) (mixRI t (mixRS t c) c r) 16 (cel E8 (List.replicate (16 - 16) 0#8)) ∧ Hp No w w' [((some b1), sob E8 5 (mixRI t (mixRS t c) c r) (cel E8 (List.replicate (16 - 16) 0#8)))]) (fun r => 4 - r) (0) ?_ ?_ ?_
    · exact ⟨rfl, rfl, rfl, rfl, trivial⟩
    · exact ⟨by omega, hS, HL⟩
    rintro r ρ w7 ⟨hr, hS, HL⟩
    have hl2 := mixRI_len t (mixRS t c) c r
    rw [hl] at hl2
    refine seqAny ?_
    refine seqRegion ?_
    refine sq (r_move (v := i64 ((r : Nat))) rfl) ?_
    refine sq (r_lssI (a := (r : Nat)) (b := (4 : Int)) rfl rfl) ?_
    refine wend ?_
    refine condProp (((r : Nat) : Int) < (4 : Int)) rfl (fun hk16 => ?_) (fun hk16 => ?_)
    · skip
      refine skipAny ?_
      refine thenNormal ?_
      refine seqAny ?_
      refine blockAny ?_
      refine seqAny ?_
      refine drawAny (K := [none, none, none, none, none, none, none, none, none, none, none, none, none, none, none, none, none, none, none, none, none, none, none, none, none, none, none, none, none, none, none, none, none, none, none, none, none, none]) [0, 0, 2, 0, 14, 31, 63, 0, 0, 256, 0, 1024, 3072, 7936, 16256, 32640, 0, 0, 131072, 0, 524288, 1572864, 4063232, 8323072, 16711680, 0, 0, 67108864, 0, 268435456, 805306368, 2080374784, 4261412864, 8556380160, 127, 17179934719, 51573161983, 137438953471] (fun w' => Ext w7 w') (fun w' w'' => Ext w' w'') mixed (by kernel_rfl) (Ext.drew _) (fun _ _ h h' => h.trans h') ?_ ?_
      · exact relNone (by decide)
      refine ⟨.slice xt 16 ct, fun _ uw9 hC10 _ => Gives.run rfl (r_move (v := .slice xt 16 ct) rfl) ⟨rfl, Chg.refl _ _⟩, ?_⟩
      refine ⟨i64 ((c : Nat)), fun _ uw11 hC12 _ => Gives.run rfl (r_move (v := i64 ((c : Nat))) rfl) ⟨rfl, Chg.refl _ _⟩, ?_⟩
      refine ⟨i64 ((4 : Int) * (c : Nat)), fun _ uw13 hC14 _ => Gives.run rfl (r_mulI (a := (4 : Int)) (b := (c : Nat)) rfl rfl (by omega)) ⟨rfl, Chg.refl _ _⟩, ?_⟩
      refine ⟨i64 ((r : Nat)), fun _ uw15 hC16 _ => Gives.run rfl (r_move (v := i64 ((r : Nat))) rfl) ⟨rfl, Chg.refl _ _⟩, ?_⟩
      refine ⟨i64 (((4 : Int) * (c : Nat)) + (r : Nat)), fun _ uw17 hC18 _ => Gives.run rfl (r_addI (a := (4 : Int) * (c : Nat)) (b := (r : Nat)) rfl rfl (by omega)) ⟨rfl, Chg.refl _ _⟩, ?_⟩
      refine ⟨.pointer (adr xt (((4 * c) + r) * 1)), fun _ uw19 hC20 _ => Gives.run rfl (r_idxS (E := E8) (l := t) (j := (4 * c) + r) sli27 (hT.ext (HL.ext hC20).chg) rfl rfl (by first | rfl | omega | (simp; omega)) (by omega) (by omega)) ⟨rfl, Chg.refl _ _⟩, ?_⟩
      refine ⟨u8 ((t).getD ((4 * c) + r) 0#8), fun _ uw21 hC22 _ => Gives.run rfl (r_ldS (E := E8) (l := t) (j := (4 * c) + r) (v := (t).getD ((4 * c) + r) 0#8) fits5 (hT.ext (HL.ext hC22).chg) rfl rfl (at_getD (by omega))) ⟨rfl, Chg.refl _ _⟩, ?_⟩
      refine ⟨.slice xt 16 ct, fun _ uw23 hC24 _ => Gives.run rfl (r_move (v := .slice xt 16 ct) rfl) ⟨rfl, Chg.refl _ _⟩, ?_⟩
      refine ⟨i64 ((c : Nat)), fun _ uw25 hC26 _ => Gives.run rfl (r_move (v := i64 ((c : Nat))) rfl) ⟨rfl, Chg.refl _ _⟩, ?_⟩
      refine ⟨i64 ((4 : Int) * (c : Nat)), fun _ uw27 hC28 _ => Gives.run rfl (r_mulI (a := (4 : Int)) (b := (c : Nat)) rfl rfl (by omega)) ⟨rfl, Chg.refl _ _⟩, ?_⟩
      refine ⟨i64 ((r : Nat)), fun _ uw29 hC30 _ => Gives.run rfl (r_move (v := i64 ((r : Nat))) rfl) ⟨rfl, Chg.refl _ _⟩, ?_⟩
      refine ⟨i64 ((r : Nat) + (1 : Int)), fun _ uw31 hC32 _ => Gives.run rfl (r_addI (a := (r : Nat)) (b := (1 : Int)) rfl rfl (by omega)) ⟨rfl, Chg.refl _ _⟩, ?_⟩
      refine ⟨i64 (((r : Nat) + (1 : Int)) % (4 : Int)), fun _ uw33 hC34 _ => Gives.run rfl (r_remI (a := (r : Nat) + (1 : Int)) (b := (4 : Int)) rfl rfl (by omega)) ⟨rfl, Chg.refl _ _⟩, ?_⟩
      refine ⟨i64 (((4 : Int) * (c : Nat)) + (((r : Nat) + (1 : Int)) % (4 : Int))), fun _ uw35 hC36 _ => Gives.run rfl (r_addI (a := (4 : Int) * (c : Nat)) (b := ((r : Nat) + (1 : Int)) % (4 : Int)) rfl rfl (by omega)) ⟨rfl, Chg.refl _ _⟩, ?_⟩
      refine ⟨.pointer (adr xt (((4 * c) + ((r + 1) % 4)) * 1)), fun _ uw37 hC38 _ => Gives.run rfl (r_idxS (E := E8) (l := t) (j := (4 * c) + ((r + 1) % 4)) sli27 (hT.ext (HL.ext hC38).chg) rfl rfl (by first | rfl | omega | (simp; omega)) (by omega) (by omega)) ⟨rfl, Chg.refl _ _⟩, ?_⟩
      refine ⟨u8 ((t).getD ((4 * c) + ((r + 1) % 4)) 0#8), fun _ uw39 hC40 _ => Gives.run rfl (r_ldS (E := E8) (l := t) (j := (4 * c) + ((r + 1) % 4)) (v := (t).getD ((4 * c) + ((r + 1) % 4)) 0#8) fits5 (hT.ext (HL.ext hC40).chg) rfl rfl (at_getD (by omega))) ⟨rfl, Chg.refl _ _⟩, ?_⟩
      refine ⟨.slice xt 16 ct, fun _ uw41 hC42 _ => Gives.run rfl (r_move (v := .slice xt 16 ct) rfl) ⟨rfl, Chg.refl _ _⟩, ?_⟩
      refine ⟨i64 ((c : Nat)), fun _ uw43 hC44 _ => Gives.run rfl (r_move (v := i64 ((c : Nat))) rfl) ⟨rfl, Chg.refl _ _⟩, ?_⟩
      refine ⟨i64 ((4 : Int) * (c : Nat)), fun _ uw45 hC46 _ => Gives.run rfl (r_mulI (a := (4 : Int)) (b := (c : Nat)) rfl rfl (by omega)) ⟨rfl, Chg.refl _ _⟩, ?_⟩
      refine ⟨i64 ((r : Nat)), fun _ uw47 hC48 _ => Gives.run rfl (r_move (v := i64 ((r : Nat))) rfl) ⟨rfl, Chg.refl _ _⟩, ?_⟩
      refine ⟨i64 ((r : Nat) + (2 : Int)), fun _ uw49 hC50 _ => Gives.run rfl (r_addI (a := (r : Nat)) (b := (2 : Int)) rfl rfl (by omega)) ⟨rfl, Chg.refl _ _⟩, ?_⟩
      refine ⟨i64 (((r : Nat) + (2 : Int)) % (4 : Int)), fun _ uw51 hC52 _ => Gives.run rfl (r_remI (a := (r : Nat) + (2 : Int)) (b := (4 : Int)) rfl rfl (by omega)) ⟨rfl, Chg.refl _ _⟩, ?_⟩
      refine ⟨i64 (((4 : Int) * (c : Nat)) + (((r : Nat) + (2 : Int)) % (4 : Int))), fun _ uw53 hC54 _ => Gives.run rfl (r_addI (a := (4 : Int) * (c : Nat)) (b := ((r : Nat) + (2 : Int)) % (4 : Int)) rfl rfl (by omega)) ⟨rfl, Chg.refl _ _⟩, ?_⟩
      refine ⟨.pointer (adr xt (((4 * c) + ((r + 2) % 4)) * 1)), fun _ uw55 hC56 _ => Gives.run rfl (r_idxS (E := E8) (l := t) (j := (4 * c) + ((r + 2) % 4)) sli27 (hT.ext (HL.ext hC56).chg) rfl rfl (by first | rfl | omega | (simp; omega)) (by omega) (by omega)) ⟨rfl, Chg.refl _ _⟩, ?_⟩
      refine ⟨u8 ((t).getD ((4 * c) + ((r + 2) % 4)) 0#8), fun _ uw57 hC58 _ => Gives.run rfl (r_ldS (E := E8) (l := t) (j := (4 * c) + ((r + 2) % 4)) (v := (t).getD ((4 * c) + ((r + 2) % 4)) 0#8) fits5 (hT.ext (HL.ext hC58).chg) rfl rfl (at_getD (by omega))) ⟨rfl, Chg.refl _ _⟩, ?_⟩
      refine ⟨.slice xt 16 ct, fun _ uw59 hC60 _ => Gives.run rfl (r_move (v := .slice xt 16 ct) rfl) ⟨rfl, Chg.refl _ _⟩, ?_⟩
      refine ⟨i64 ((c : Nat)), fun _ uw61 hC62 _ => Gives.run rfl (r_move (v := i64 ((c : Nat))) rfl) ⟨rfl, Chg.refl _ _⟩, ?_⟩
      refine ⟨i64 ((4 : Int) * (c : Nat)), fun _ uw63 hC64 _ => Gives.run rfl (r_mulI (a := (4 : Int)) (b := (c : Nat)) rfl rfl (by omega)) ⟨rfl, Chg.refl _ _⟩, ?_⟩
      refine ⟨i64 ((r : Nat)), fun _ uw65 hC66 _ => Gives.run rfl (r_move (v := i64 ((r : Nat))) rfl) ⟨rfl, Chg.refl _ _⟩, ?_⟩
      refine ⟨i64 ((r : Nat) + (3 : Int)), fun _ uw67 hC68 _ => Gives.run rfl (r_addI (a := (r : Nat)) (b := (3 : Int)) rfl rfl (by omega)) ⟨rfl, Chg.refl _ _⟩, ?_⟩
      refine ⟨i64 (((r : Nat) + (3 : Int)) % (4 : Int)), fun _ uw69 hC70 _ => Gives.run rfl (r_remI (a := (r : Nat) + (3 : Int)) (b := (4 : Int)) rfl rfl (by omega)) ⟨rfl, Chg.refl _ _⟩, ?_⟩
      refine ⟨i64 (((4 : Int) * (c : Nat)) + (((r : Nat) + (3 : Int)) % (4 : Int))), fun _ uw71 hC72 _ => Gives.run rfl (r_addI (a := (4 : Int) * (c : Nat)) (b := ((r : Nat) + (3 : Int)) % (4 : Int)) rfl rfl (by omega)) ⟨rfl, Chg.refl _ _⟩, ?_⟩
      refine ⟨.pointer (adr xt (((4 * c) + ((r + 3) % 4)) * 1)), fun _ uw73 hC74 _ => Gives.run rfl (r_idxS (E := E8) (l := t) (j := (4 * c) + ((r + 3) % 4)) sli27 (hT.ext (HL.ext hC74).chg) rfl rfl (by first | rfl | omega | (simp; omega)) (by omega) (by omega)) ⟨rfl, Chg.refl _ _⟩, ?_⟩
      refine ⟨u8 ((t).getD ((4 * c) + ((r + 3) % 4)) 0#8), fun _ uw75 hC76 _ => Gives.run rfl (r_ldS (E := E8) (l := t) (j := (4 * c) + ((r + 3) % 4)) (v := (t).getD ((4 * c) + ((r + 3) % 4)) 0#8) fits5 (hT.ext (HL.ext hC76).chg) rfl rfl (at_getD (by omega))) ⟨rfl, Chg.refl _ _⟩, ?_⟩
      refine ⟨u8 ((t).getD ((4 * c) + r) 0#8), fun _ uw77 hC78 _ => Gives.run rfl (r_assign (v := u8 ((t).getD ((4 * c) + r) 0#8)) rfl) ⟨rfl, Chg.refl _ _⟩, ?_⟩
      refine ⟨u8 ((t).getD ((4 * c) + ((r + 1) % 4)) 0#8), fun _ uw79 hC80 _ => Gives.run rfl (r_assign (v := u8 ((t).getD ((4 * c) + ((r + 1) % 4)) 0#8)) rfl) ⟨rfl, Chg.refl _ _⟩, ?_⟩
      refine ⟨u8 ((t).getD ((4 * c) + ((r + 2) % 4)) 0#8), fun _ uw81 hC82 _ => Gives.run rfl (r_assign (v := u8 ((t).getD ((4 * c) + ((r + 2) % 4)) 0#8)) rfl) ⟨rfl, Chg.refl _ _⟩, ?_⟩
      refine ⟨u8 ((t).getD ((4 * c) + ((r + 3) % 4)) 0#8), fun _ uw83 hC84 _ => Gives.run rfl (r_assign (v := u8 ((t).getD ((4 * c) + ((r + 3) % 4)) 0#8)) rfl) ⟨rfl, Chg.refl _ _⟩, ?_⟩
      intro r88 w85 hE87 hF
      have H86 := HL.ext hE87
      refine wnil ?_
      refine thenNormal ?_
      refine oneRegion ?_
      refine sq (r_move (v := .slice (ownA (some b1)) 16 16) rfl) ?_
      refine sq (r_move (v := i64 ((c : Nat))) rfl) ?_
      refine sq (r_mulI (a := (4 : Int)) (b := (c : Nat)) rfl rfl (by omega)) ?_
      refine sq (r_move (v := i64 ((r : Nat))) rfl) ?_
      refine sq (r_addI (a := (4 : Int) * (c : Nat)) (b := (r : Nat)) rfl rfl (by omega)) ?_
      refine sq (r_move (v := u8 ((t).getD ((4 * c) + r) 0#8)) rfl) ?_
      refine c_call (vs := [u8 ((t).getD ((4 * c) + r) 0#8), u8 (2#8)]) call81 rfl (times_ok ((t).getD ((4 * c) + r) 0#8) (2#8) w85) ?_
      rintro _ w89 ⟨rfl, hE90⟩
      have H91 := H86.ext hE90
      refine sq (r_move (v := u8 ((t).getD ((4 * c) + ((r + 1) % 4)) 0#8)) rfl) ?_
      refine c_call (vs := [u8 ((t).getD ((4 * c) + ((r + 1) % 4)) 0#8), u8 (3#8)]) call81 rfl (times_ok ((t).getD ((4 * c) + ((r + 1) % 4)) 0#8) (3#8) w89) ?_
      rintro _ w92 ⟨rfl, hE93⟩
      have H94 := H91.ext hE93
      refine sq (r_xor8 (a := gm ((t).getD ((4 * c) + r) 0#8) (2#8)) (b := gm ((t).getD ((4 * c) + ((r + 1) % 4)) 0#8) (3#8)) rfl rfl) ?_
      refine sq (r_move (v := u8 ((t).getD ((4 * c) + ((r + 2) % 4)) 0#8)) rfl) ?_
      refine sq (r_xor8 (a := (gm ((t).getD ((4 * c) + r) 0#8) (2#8)) ^^^ (gm ((t).getD ((4 * c) + ((r + 1) % 4)) 0#8) (3#8))) (b := (t).getD ((4 * c) + ((r + 2) % 4)) 0#8) rfl rfl) ?_
      refine sq (r_move (v := u8 ((t).getD ((4 * c) + ((r + 3) % 4)) 0#8)) rfl) ?_
      refine sq (r_xor8 (a := ((gm ((t).getD ((4 * c) + r) 0#8) (2#8)) ^^^ (gm ((t).getD ((4 * c) + ((r + 1) % 4)) 0#8) (3#8))) ^^^ ((t).getD ((4 * c) + ((r + 2) % 4)) 0#8)) (b := (t).getD ((4 * c) + ((r + 3) % 4)) 0#8) rfl rfl) ?_
      refine sq (r_idxS (E := E8) (l := mixRI t (mixRS t c) c r) (j := (4 * c) + r) sli27 (H94.rd (k := 0) rfl hS) rfl rfl (by first | rfl | omega | (simp; omega)) (by omega) (by omega)) ?_
      refine d_storeS (E := E8) (k := 0) (l := mixRI t (mixRS t c) c r) (j := (4 * c) + r) (b := (((gm ((t).getD ((4 * c) + r) 0#8) (2#8)) ^^^ (gm ((t).getD ((4 * c) + ((r + 1) % 4)) 0#8) (3#8))) ^^^ ((t).getD ((4 * c) + ((r + 2) % 4)) 0#8)) ^^^ ((t).getD ((4 * c) + ((r + 3) % 4)) 0#8)) (a := (mixRI t (mixRS t c) c r).getD ((4 * c) + r) 0#8) H94 rfl hS rfl rfl rfl rfl siz5 (at_getD (by omega)) ?_
      intro w96 hS95 H97
      have H97' := H97.as (L' := [((some b1), sob E8 5 ((mixRI t (mixRS t c) c r).set ((4 * c) + r) ((((gm ((t).getD ((4 * c) + r) 0#8) (2#8)) ^^^ (gm ((t).getD ((4 * c) + ((r + 1) % 4)) 0#8) (3#8))) ^^^ ((t).getD ((4 * c) + ((r + 2) % 4)) 0#8)) ^^^ ((t).getD ((4 * c) + ((r + 3) % 4)) 0#8))) (cel E8 (List.replicate (16 - 16) 0#8)))]) rfl
      clear H97
      refine wnil ?_
      refine blockNormal ?_
      refine thenNormal ?_
      refine oneRegion ?_
      refine sq (r_move (v := i64 ((r : Nat))) rfl) ?_
      refine sq (r_addI (a := (r : Nat)) (b := (1 : Int)) rfl rfl (by omega)) ?_
      refine sq (r_assign (v := i64 ((r : Nat) + (1 : Int))) rfl) ?_
      refine wnil ?_
      refine thenNormal ?_
      exact ⟨r + 1, _, rfl, ⟨rfl, rfl, rfl, rfl, trivial⟩, ⟨by omega, hS95, H97'⟩, by show 4 - (r + 1) < 4 - r; omega⟩
    · skip
      obtain rfl : r = 4 := by omega
      refine exitAny ?_
      refine thenExit ?_
      refine thenExit ?_
      refine blockHere ?_
      refine blockNormal ?_
      refine thenNormal ?_
      refine oneRegion ?_
      refine sq (r_move (v := i64 ((c : Nat))) rfl) ?_
      refine sq (r_addI (a := (c : Nat)) (b := (1 : Int)) rfl rfl (by omega)) ?_
      refine sq (r_assign (v := i64 ((c : Nat) + (1 : Int))) rfl) ?_
      refine wnil ?_
      refine thenNormal ?_
      exact ⟨c + 1, _, rfl, ⟨rfl, rfl, rfl, trivial⟩, ⟨by omega, hS, HL⟩, by show 4 - (c + 1) < 4 - c; omega⟩
  · skip
    obtain rfl : c = 4 := by omega
    refine exitAny ?_
    refine thenExit ?_
    refine thenExit ?_
    refine blockHere ?_
    refine thenNormal ?_
    refine seqRegion ?_
    refine sq (r_move (v := .slice (ownA (some b1)) 16 16) rfl) ?_
    refine sq (r_assign (v := .slice (ownA (some b1)) 16 16) rfl) ?_
    refine wend ?_
    refine retAny ?_
    refine retG (rs := [.tmp 2]) (vs := [.slice (ownA (some b1)) 16 16]) rfl ⟨⟨rfl, rfl⟩, trivial⟩ ?_
    exact ⟨_, rfl, HL.resN (k := 0) rfl hS hl.symm, HL.chg⟩

theorem eight_ok (x : BitVec 64) (w : World) : Calls Tryd.prog 83 [u64 (x)].toArray w (Ret fun v w' => SlRes E8 5 (eightS x 8).1 w v w' ∧ Ext w w') := by
  have H := Hp.start No w
  refine enter (n := 18) Tryd.func83 rfl rfl (Nat.le_of_ble_eq_true rfl) ?_
  refine seqRegion ?_
  refine sq (r_assign (v := .slice none 0 0) rfl) ?_
  refine wend ?_
  refine seqRegion ?_
  refine sq (r_assign (v := .slice none 0 0) rfl) ?_
  refine wend ?_
  refine seqAny ?_
  refine seqRegion ?_
  refine sq (r_assign (v := i64 ((0 : Int))) rfl) ?_
  refine wend ?_
  refine blockAny ?_
  refine loopAny (σ := Nat × Option Nat × Nat × List Value) (fun (i, key, c, sp) => [(0, u64 ((eightS x i).2)), (3, .slice (ownA key) i c), (4, i64 ((i : Nat)))]) (fun (i, key, c, sp) w' => i ≤ 8 ∧ Sl E8 key (eightS x i).1 c sp ∧ Hp No w w' [(key, sob E8 5 ((eightS x i).1) sp)]) (fun (i, key, c, sp) => 8 - i) ((0, none, 0, [])) ?_ ?_ ?_
  · exact ⟨rfl, rfl, rfl, trivial⟩
  · exact ⟨by omega, Sl.none, H.nil (sob E8 5 [] [])⟩
  rintro ⟨i, key, c, sp⟩ ρ w1 ⟨hi, hS, HL⟩
  have hl := eightS_len x i
  refine seqAny ?_
  refine seqRegion ?_
  refine sq (r_move (v := i64 ((i : Nat))) rfl) ?_
  refine sq (r_lssI (a := (i : Nat)) (b := (8 : Int)) rfl rfl) ?_
  refine wend ?_
  refine condProp (((i : Nat) : Int) < (8 : Int)) rfl (fun hk6 => ?_) (fun hk6 => ?_)
  · skip
    refine skipAny ?_
    refine thenNormal ?_
    refine seqAny ?_
    refine blockAny ?_
    refine seqRegion ?_
    refine sq (r_move (v := .slice (ownA key) i c) rfl) ?_
    refine sq (r_move (v := u64 ((eightS x i).2)) rfl) ?_
    refine sq (r_rem64 (a := (eightS x i).2) (b := 256#64) rfl rfl (by decide)) ?_
    refine sq (r_64to8 und36 und5 (a := ((eightS x i).2) % (256#64)) rfl) ?_
    refine q_buildSlice (E := E8) (l := [(((eightS x i).2) % (256#64)).setWidth 8]) HL sli27 zer5 (Nat.le_of_ble_eq_true rfl) (ps := [(0, u8 ((((eightS x i).2) % (256#64)).setWidth 8))]) rfl (by exact fillAll rfl rfl) rfl ?_
    intro b3 w5 hS4 H6 _
    refine q_append (E := E8) (k := 1) (l := (eightS x i).1) (l2 := [(((eightS x i).2) % (256#64)).setWidth 8]) H6 rfl hS sli27 zer5 rfl byt5 (H6.rd (k := 0) rfl hS4) rfl (by omega) rfl (by rfl) (by omega) ?_
    intro key7 c8 sp9 w11 hS10 hne13 H12
    have H12' := H12.as (L' := [((some b3), sob E8 5 ([(((eightS x i).2) % (256#64)).setWidth 8]) ([])), (key7, sob E8 5 (((eightS x i).1) ++ ([(((eightS x i).2) % (256#64)).setWidth 8])) sp9)]) rfl
    clear H12
    refine sq (r_assign (v := .slice (ownA key7) (i + 1) c8) rfl) ?_
    have H14 := H12'.dropk 0
    have H14' := H14.as (L' := [(key7, sob E8 5 (((eightS x i).1) ++ ([(((eightS x i).2) % (256#64)).setWidth 8])) sp9)]) rfl
    refine wend ?_
    refine oneRegion ?_
    refine sq (r_move (v := u64 ((eightS x i).2)) rfl) ?_
    refine sq (r_quo64 (a := (eightS x i).2) (b := 256#64) rfl rfl (by decide)) ?_
    refine sq (r_assign (v := u64 (((eightS x i).2) / (256#64))) rfl) ?_
    refine wnil ?_
    refine blockNormal ?_
    refine thenNormal ?_
    refine oneRegion ?_
    refine sq (r_move (v := i64 ((i : Nat))) rfl) ?_
    refine sq (r_addI (a := (i : Nat)) (b := (1 : Int)) rfl rfl (by omega)) ?_
    refine sq (r_assign (v := i64 ((i : Nat) + (1 : Int))) rfl) ?_
    refine wnil ?_
    refine thenNormal ?_
    exact ⟨(i + 1, key7, c8, sp9), _, rfl, ⟨rfl, rfl, rfl, trivial⟩, ⟨by omega, hS10, H14'⟩, by show 8 - (i + 1) < 8 - i; omega⟩
  · skip
    obtain rfl : i = 8 := by omega
    refine exitAny ?_
    refine thenExit ?_
    refine thenExit ?_
    refine blockHere ?_
    refine thenNormal ?_
    refine seqRegion ?_
    refine sq (r_move (v := .slice (ownA key) 8 c) rfl) ?_
    refine sq (r_assign (v := .slice (ownA key) 8 c) rfl) ?_
    refine wend ?_
    refine retAny ?_
    refine retG (rs := [.tmp 2]) (vs := [.slice (ownA key) 8 c]) rfl ⟨⟨rfl, rfl⟩, trivial⟩ ?_
    exact ⟨_, rfl, HL.resN (k := 0) rfl hS hl.symm, HL.chg⟩

theorem whole_ok (b : List By) (hb : b.length = 8) (xb : Option Addr) (cb : Nat) (w : World) (hB : Rd E8 w xb b) : Calls Tryd.prog 84 [.slice xb 8 cb].toArray w (Ret fun v w' => v = u64 (wholeS b 8) ∧ Ext w w') := by
  have H := Hp.start No w
  refine enter (n := 18) Tryd.func84 rfl rfl (Nat.le_of_ble_eq_true rfl) ?_
  refine seqRegion ?_
  refine sq (r_assign (v := u64 (0#64)) rfl) ?_
  refine wend ?_
  refine seqRegion ?_
  refine sq (r_assign (v := u64 (0#64)) rfl) ?_
  refine wend ?_
  refine seqAny ?_
  refine seqRegion ?_
  refine sq (r_assign (v := i64 ((7 : Int))) rfl) ?_
  refine wend ?_
  refine blockAny ?_
  refine loopAny (σ := Nat) (fun k => [(0, .slice xb 8 cb), (3, u64 (wholeS b k)), (4, i64 (7 - (k : Nat)))]) (fun k w' => k ≤ 8 ∧ Hp No w w' []) (fun k => 8 - k) (0) ?_ ?_ ?_
  · exact ⟨rfl, rfl, rfl, trivial⟩
  · exact ⟨by omega, H⟩
  rintro k ρ w1 ⟨hk, H2⟩
  refine seqAny ?_
  refine seqRegion ?_
  refine sq (r_move (v := i64 (7 - (k : Nat))) rfl) ?_
  refine sq (r_geqI (a := 7 - (k : Nat)) (b := (0 : Int)) rfl rfl) ?_
  refine wend ?_
  refine condProp (((0 : Int) : Int) ≤ (7 - (k : Nat))) rfl (fun hk6 => ?_) (fun hk6 => ?_)
  · skip
    refine skipAny ?_
    refine thenNormal ?_
    refine seqAny ?_
    refine blockAny ?_
    refine oneRegion ?_
    refine sq (r_move (v := u64 (wholeS b k)) rfl) ?_
    refine sq (r_mul64 (a := wholeS b k) (b := 256#64) rfl rfl) ?_
    refine sq (r_move (v := .slice xb 8 cb) rfl) ?_
    refine sq (r_move (v := i64 (7 - (k : Nat))) rfl) ?_
    refine sq (r_idxS (E := E8) (l := b) (j := 7 - k) sli27 (hB.ext H2.chg) rfl rfl (by omega) (by omega) (by omega)) ?_
    refine sq (r_ldS (E := E8) (l := b) (j := 7 - k) (v := (b).getD (7 - k) 0#8) fits5 (hB.ext H2.chg) rfl rfl (at_getD (by omega))) ?_
    refine sq (r_8to64 und5 und36 (a := (b).getD (7 - k) 0#8) rfl) ?_
    refine sq (r_add64 (a := (wholeS b k) * (256#64)) (b := ((b).getD (7 - k) 0#8).setWidth 64) rfl rfl) ?_
    refine sq (r_assign (v := u64 (((wholeS b k) * (256#64)) + (((b).getD (7 - k) 0#8).setWidth 64))) rfl) ?_
    refine wnil ?_
    refine blockNormal ?_
    refine thenNormal ?_
    refine oneRegion ?_
    refine sq (r_move (v := i64 (7 - (k : Nat))) rfl) ?_
    refine sq (r_subI (a := 7 - (k : Nat)) (b := (1 : Int)) rfl rfl (by omega)) ?_
    refine sq (r_assign (v := i64 ((7 - (k : Nat)) - (1 : Int))) rfl) ?_
    refine wnil ?_
    refine thenNormal ?_
    exact ⟨k + 1, _, rfl, ⟨rfl, rfl, congrArg i64 (by omega), trivial⟩, ⟨by omega, H2⟩, by show 8 - (k + 1) < 8 - k; omega⟩
  · skip
    obtain rfl : k = 8 := by omega
    refine exitAny ?_
    refine thenExit ?_
    refine thenExit ?_
    refine blockHere ?_
    refine thenNormal ?_
    refine seqRegion ?_
    refine sq (r_move (v := u64 (wholeS b 8)) rfl) ?_
    refine sq (r_assign (v := u64 (wholeS b 8)) rfl) ?_
    refine wend ?_
    refine retAny ?_
    refine retG (rs := [.tmp 2]) (vs := [u64 (wholeS b 8)]) rfl ⟨⟨rfl, rfl⟩, trivial⟩ ?_
    exact ⟨_, rfl, rfl, H2.chg⟩


theorem renc_ok (ks bx b : List By) (hks : ks.length = 176) (hbx : bx.length = 256) (hbl : b.length = 16) (xk xb xl : Option Addr) (ck cb cl : Nat) (hck : 176 ≤ ck) (w : World) (hK : Rd E8 w xk ks) (hB : Rd E8 w xb bx) (hL : Rd E8 w xl b) : Calls Tryd.prog 82 [.agg #[.slice xk 176 ck, .slice xb 256 cb], .slice xl 16 cl].toArray w (Ret fun v w' => SlRes E8 5 (encR ks bx b 10) w v w' ∧ Ext w w') := by
  have H := Hp.start No w
  refine enter (n := 63) Tryd.func82 rfl rfl (Nat.le_of_ble_eq_true rfl) ?_
  refine seqRegion ?_
  refine q_box (v := .agg #[.slice xk 176 ck, .slice xb 256 cb]) (o := .cells #[.slice xk 176 ck, .slice xb 256 cb] 108 (0, 0)) H rfl (by rfl) ?_
  intro b1 w2 hb1 H3 hE4
  refine sq (r_assign (v := .slice none 0 0) rfl) ?_
  refine wend ?_
  refine seqRegion ?_
  refine sq (r_move (v := .slice xl 16 cl) rfl) ?_
  refine sq (r_fieldAddr (off' := 0) fld108_0 (by decide) (b := b1) (off := 0) rfl (by omega)) ?_
  refine sq (r_loadC (v := .slice xk 176 ck) one27 (H3.get (k := 0) rfl) (off := 0) rfl (by rfl)) ?_
  refine sq ((r_sliceS (l := 0) (h := 16) sli27 rfl (.inr ⟨rfl, rfl⟩) (.inl ⟨_, _, _, rfl, rfl, by first | rfl | omega | (simp; omega)⟩) (by omega) (by omega)).as (v' := .slice (if ck = 0 then xk else adr xk (0 * 1)) 16 (ck - 0)) (by rw [show 16 - 0 = 16 by omega])) ?_
  refine c_call (vs := [.slice xl 16 cl, .slice (if ck = 0 then xk else adr xk (0 * 1)) 16 (ck - 0)]) call99 rfl (add_ok b ((ks.drop 0).take (16)) (by first | omega | (rw [List.length_take, List.length_drop]; omega)) (by first | omega | (rw [List.length_take, List.length_drop]; omega)) xl (if ck = 0 then xk else adr xk (0 * 1)) cl (ck - 0) w2 (hL.ext H3.chg) (Rd.sub (hK.ext H3.chg) 0 (16) (m := ck) (fun e => by first | exact absurd e (by omega) | (rw [show 16 = 0 by omega]; rfl)))) ?_
  rintro _ w5 ⟨⟨key7, c8, sp9, rfl, hS10, hk11⟩, hE12⟩
  rw [show (addR b ((ks.drop 0).take (16)) 16).length = 16 from addR_len _ _ _]
  have H13 := H3.add hE12 hk11
  refine sq (r_assign (v := .slice (ownA key7) 16 c8) rfl) ?_
  have hb0 : (encR ks bx b 0).length = 16 := encR_len _ _ _ _
  have e14 : addR b ((ks.drop 0).take (16)) 16 = encR ks bx b 0 := by rw [encR]
  have hS15 := hS10
  rw [e14] at hS15
  have H16 := H13.as (L' := [(key7, sob E8 5 (encR ks bx b 0) sp9), (some b1, .cells #[.slice xk 176 ck, .slice xb 256 cb] 108 (0, 0))]) (by rw [e14])
  refine wend ?_
  refine seqAny ?_
  refine seqRegion ?_
  refine sq (r_assign (v := i64 ((1 : Int))) rfl) ?_
  refine wend ?_
  refine blockAny ?_
  refine loopAny (σ := Nat × Option Nat × Nat × List Value) (fun (k, key, cc, sp) => [(2, .pointer (some ⟨b1, 0, none⟩)), (5, .slice (ownA key) 16 cc), (6, i64 ((k + 1 : Nat)))]) (fun (k, key, cc, sp) w' => k ≤ 10 ∧ Sl E8 key (encR ks bx b k) cc sp ∧ Hp No w w' [(key, sob E8 5 (encR ks bx b k) sp), (some b1, .cells #[.slice xk 176 ck, .slice xb 256 cb] 108 (0, 0))]) (fun (k, key, cc, sp) => 10 - k) ((0, key7, c8, sp9)) ?_ ?_ ?_
  · exact ⟨rfl, rfl, rfl, trivial⟩
  · exact ⟨by omega, hS15, H16⟩
  rintro ⟨k, key, cc, sp⟩ ρ w17 ⟨hk, hS, HL⟩
  have hl := encR_len ks bx b k
  refine seqAny ?_
  refine seqRegion ?_
  refine sq (r_move (v := i64 ((k + 1 : Nat))) rfl) ?_
  refine sq (r_leqI (a := (k + 1 : Nat)) (b := (10 : Int)) rfl rfl) ?_
  refine wend ?_
  refine condProp (((k + 1 : Nat) : Int) ≤ (10 : Int)) rfl (fun hk16 => ?_) (fun hk16 => ?_)
  · skip
    refine skipAny ?_
    refine thenNormal ?_
    refine seqAny ?_
    refine blockAny ?_
    refine seqRegion ?_
    refine q_makeSlice (E := E8) (m := 16) (c := 16) (z0 := 0#8) HL sli27 zer5 rfl byt5 rfl rfl (by first | rfl | omega | (simp; omega)) (by first | rfl | omega | (simp; omega)) (by omega) (by omega) ?_
    intro b19 w21 hS20 H22 _
    refine sq (r_assign (v := .slice (ownA (some b19)) 16 16) rfl) ?_
    refine wend ?_
    refine seqAny ?_
    refine seqRegion ?_
    refine sq (r_assign (v := i64 ((0 : Int))) rfl) ?_
    refine wend ?_
    refine blockAny ?_
    refine loopAny (σ := Nat) (fun c => [(2, .pointer (some ⟨b1, 0, none⟩)), (5, .slice (ownA key) 16 cc), (6, i64 ((k + 1 : Nat))), (7, .slice (ownA (some b19)) 16 16), (8, i64 ((c : Nat)))]) (fun c w' => c ≤ 4 ∧ Sl E8 (some b19) (shRS bx (encR ks bx b k) c) 16 (cel E8 (List.replicate (16 - 16) 0#8)) ∧ Hp No w w' [((some b19), sob E8 5 (shRS bx (encR ks bx b k) c) (cel E8 (List.replicate (16 - 16) 0#8))), (key, sob E8 5 (encR ks bx b k) sp), (some b1, .cells #[.slice xk 176 ck, .slice xb 256 cb] 108 (0, 0))]) (fun c => 4 - c) (0) ?_ ?_ ?_
    · exact ⟨rfl, rfl, rfl, rfl, rfl, trivial⟩
    · exact ⟨by omega, hS20, H22⟩
    rintro c ρ w23 ⟨hc, hS2, HL2⟩
    have hl2 := shRS_len bx (encR ks bx b k) c
    refine seqAny ?_
    refine seqRegion ?_
    refine sq (r_move (v := i64 ((c : Nat))) rfl) ?_
    refine sq (r_lssI (a := (c : Nat)) (b := (4 : Int)) rfl rfl) ?_
    refine wend ?_
    refine condProp (((c : Nat) : Int) < (4 : Int)) rfl (fun hk21 => ?_) (fun hk21 => ?_)
    · skip
      refine skipAny ?_
      refine thenNormal ?_
      refine seqAny ?_
      refine blockAny ?_
      refine seqRegion ?_
      refine sq (r_assign (v := i64 ((0 : Int))) rfl) ?_
      refine wend ?_
      refine blockAny ?_
      refine loopAny (σ := Nat) (fun r => [(2, .pointer (some ⟨b1, 0, none⟩)), (5, .slice (ownA key) 16 cc), (6, i64 ((k + 1 : Nat))), (7, .slice (ownA (some b19)) 16 16), (8, i64 ((c : Nat))), (9, i64 ((r : Nat)))]) (fun r w' => r ≤ 4 ∧ Sl E8 (some b19) (shRI bx (encR ks bx b k) (shRS bx (encR ks bx b k) c) c r) 16 (cel E8 (List.replicate (16 - 16) 0#8)) ∧ Hp No w w' [((some b19), sob E8 5 (shRI bx (encR ks bx b k) (shRS bx (encR ks bx b k) c) c r) (cel E8 (List.replicate (16 - 16) 0#8))), (key, sob E8 5 (encR ks bx b k) sp), (some b1, .cells #[.slice xk 176 ck, .slice xb 256 cb] 108 (0, 0))]) (fun r => 4 - r) (0) ?_ ?_ ?_
      · exact ⟨rfl, rfl, rfl, rfl, rfl, rfl, trivial⟩
      · exact ⟨by omega, hS2, HL2⟩
      rintro r ρ w25 ⟨hr, hS3, HL3⟩
      have hl3 := shRI_len bx (encR ks bx b k) (shRS bx (encR ks bx b k) c) c r
      rw [hl2] at hl3
      refine seqAny ?_
      refine seqRegion ?_
      refine sq (r_move (v := i64 ((r : Nat))) rfl) ?_
      refine sq (r_lssI (a := (r : Nat)) (b := (4 : Int)) rfl rfl) ?_
      refine wend ?_
      refine condProp (((r : Nat) : Int) < (4 : Int)) rfl (fun hk25 => ?_) (fun hk25 => ?_)
      · skip
        refine skipAny ?_
        refine thenNormal ?_
        refine seqAny ?_
        refine blockAny ?_
        refine drawAny (K := [none, none, none, none, none, none, none, none, none, none, none, none, none, none, none, none, none, none, none, none]) [0, 0, 2, 0, 14, 0, 32, 0, 0, 0, 768, 1792, 3840, 0, 16128, 32640, 65408, 131040, 262112, 524287, 1048575] (fun w' => Ext w25 w') (fun w' w'' => Ext w' w'') mixed (by kernel_rfl) (Ext.drew _) (fun _ _ h h' => h.trans h') ?_ ?_
        · exact relNone (by decide)
        refine ⟨.slice (ownA (some b19)) 16 16, fun _ uw27 hC28 _ => Gives.run rfl (r_move (v := .slice (ownA (some b19)) 16 16) rfl) ⟨rfl, Chg.refl _ _⟩, ?_⟩
        refine ⟨i64 ((c : Nat)), fun _ uw29 hC30 _ => Gives.run rfl (r_move (v := i64 ((c : Nat))) rfl) ⟨rfl, Chg.refl _ _⟩, ?_⟩
        refine ⟨i64 ((4 : Int) * (c : Nat)), fun _ uw31 hC32 _ => Gives.run rfl (r_mulI (a := (4 : Int)) (b := (c : Nat)) rfl rfl (by omega)) ⟨rfl, Chg.refl _ _⟩, ?_⟩
        refine ⟨i64 ((r : Nat)), fun _ uw33 hC34 _ => Gives.run rfl (r_move (v := i64 ((r : Nat))) rfl) ⟨rfl, Chg.refl _ _⟩, ?_⟩
        refine ⟨i64 (((4 : Int) * (c : Nat)) + (r : Nat)), fun _ uw35 hC36 _ => Gives.run rfl (r_addI (a := (4 : Int) * (c : Nat)) (b := (r : Nat)) rfl rfl (by omega)) ⟨rfl, Chg.refl _ _⟩, ?_⟩
        refine ⟨.pointer (some ⟨b1, 1, none⟩), fun _ uw37 hC38 _ => Gives.run rfl (r_fieldAddr (off' := 1) fld108_1 (by decide) (b := b1) (off := 0) rfl (by omega)) ⟨rfl, Chg.refl _ _⟩, ?_⟩
        refine ⟨.slice xb 256 cb, fun _ uw39 hC40 _ => Gives.run rfl (r_loadC (v := .slice xb 256 cb) one27 ((HL3.ext hC40).get (k := 2) rfl) (off := 1) rfl (by rfl)) ⟨rfl, Chg.refl _ _⟩, ?_⟩
        refine ⟨.slice (ownA key) 16 cc, fun _ uw41 hC42 _ => Gives.run rfl (r_move (v := .slice (ownA key) 16 cc) rfl) ⟨rfl, Chg.refl _ _⟩, ?_⟩
        refine ⟨i64 ((c : Nat)), fun _ uw43 hC44 _ => Gives.run rfl (r_move (v := i64 ((c : Nat))) rfl) ⟨rfl, Chg.refl _ _⟩, ?_⟩
        refine ⟨i64 ((r : Nat)), fun _ uw45 hC46 _ => Gives.run rfl (r_move (v := i64 ((r : Nat))) rfl) ⟨rfl, Chg.refl _ _⟩, ?_⟩
        refine ⟨i64 ((c : Nat) + (r : Nat)), fun _ uw47 hC48 _ => Gives.run rfl (r_addI (a := (c : Nat)) (b := (r : Nat)) rfl rfl (by omega)) ⟨rfl, Chg.refl _ _⟩, ?_⟩
        refine ⟨i64 (((c : Nat) + (r : Nat)) % (4 : Int)), fun _ uw49 hC50 _ => Gives.run rfl (r_remI (a := (c : Nat) + (r : Nat)) (b := (4 : Int)) rfl rfl (by omega)) ⟨rfl, Chg.refl _ _⟩, ?_⟩
        refine ⟨i64 ((4 : Int) * (((c : Nat) + (r : Nat)) % (4 : Int))), fun _ uw51 hC52 _ => Gives.run rfl (r_mulI (a := (4 : Int)) (b := ((c : Nat) + (r : Nat)) % (4 : Int)) rfl rfl (by omega)) ⟨rfl, Chg.refl _ _⟩, ?_⟩
        refine ⟨i64 ((r : Nat)), fun _ uw53 hC54 _ => Gives.run rfl (r_move (v := i64 ((r : Nat))) rfl) ⟨rfl, Chg.refl _ _⟩, ?_⟩
        refine ⟨i64 (((4 : Int) * (((c : Nat) + (r : Nat)) % (4 : Int))) + (r : Nat)), fun _ uw55 hC56 _ => Gives.run rfl (r_addI (a := (4 : Int) * (((c : Nat) + (r : Nat)) % (4 : Int))) (b := (r : Nat)) rfl rfl (by omega)) ⟨rfl, Chg.refl _ _⟩, ?_⟩
        refine ⟨.pointer (adr (ownA key) (((4 * ((c + r) % 4)) + r) * 1)), fun _ uw57 hC58 _ => Gives.run rfl (r_idxS (E := E8) (l := encR ks bx b k) (j := (4 * ((c + r) % 4)) + r) sli27 ((HL3.ext hC58).rd (k := 1) rfl hS) rfl rfl (by first | rfl | omega | (simp; omega)) (by omega) (by omega)) ⟨rfl, Chg.refl _ _⟩, ?_⟩
        refine ⟨u8 ((encR ks bx b k).getD ((4 * ((c + r) % 4)) + r) 0#8), fun _ uw59 hC60 _ => Gives.run rfl (r_ldS (E := E8) (l := encR ks bx b k) (j := (4 * ((c + r) % 4)) + r) (v := (encR ks bx b k).getD ((4 * ((c + r) % 4)) + r) 0#8) fits5 ((HL3.ext hC60).rd (k := 1) rfl hS) rfl rfl (at_getD (by omega))) ⟨rfl, Chg.refl _ _⟩, ?_⟩
        refine ⟨.pointer (adr xb ((((encR ks bx b k).getD ((4 * ((c + r) % 4)) + r) 0#8).toNat) * 1)), fun _ uw61 hC62 _ => Gives.run rfl (r_idxS (E := E8) (l := bx) (j := ((encR ks bx b k).getD ((4 * ((c + r) % 4)) + r) 0#8).toNat) sli27 (hB.ext (HL3.ext hC62).chg) rfl rfl (by first | rfl | omega | (simp; omega)) (by omega) (by have := ((encR ks bx b k).getD (4 * ((c + r) % 4) + r) 0#8).isLt; omega)) ⟨rfl, Chg.refl _ _⟩, ?_⟩
        refine ⟨u8 ((bx).getD (((encR ks bx b k).getD ((4 * ((c + r) % 4)) + r) 0#8).toNat) 0#8), fun _ uw63 hC64 _ => Gives.run rfl (r_ldS (E := E8) (l := bx) (j := ((encR ks bx b k).getD ((4 * ((c + r) % 4)) + r) 0#8).toNat) (v := (bx).getD (((encR ks bx b k).getD ((4 * ((c + r) % 4)) + r) 0#8).toNat) 0#8) fits5 (hB.ext (HL3.ext hC64).chg) rfl rfl (at_getD (by have := ((encR ks bx b k).getD (4 * ((c + r) % 4) + r) 0#8).isLt; omega))) ⟨rfl, Chg.refl _ _⟩, ?_⟩
        refine ⟨.pointer (adr (ownA (some b19)) (((4 * c) + r) * 1)), fun _ uw65 hC66 _ => Gives.run rfl (r_idxS (E := E8) (l := shRI bx (encR ks bx b k) (shRS bx (encR ks bx b k) c) c r) (j := (4 * c) + r) sli27 ((HL3.ext hC66).rd (k := 0) rfl hS3) rfl rfl (by first | rfl | omega | (simp; omega)) (by omega) (by omega)) ⟨rfl, Chg.refl _ _⟩, ?_⟩
        intro r70 w67 hE69 hF
        have H68 := HL3.ext hE69
        refine d_storeS (E := E8) (k := 0) (l := shRI bx (encR ks bx b k) (shRS bx (encR ks bx b k) c) c r) (j := (4 * c) + r) (b := (bx).getD (((encR ks bx b k).getD ((4 * ((c + r) % 4)) + r) 0#8).toNat) 0#8) (a := (shRI bx (encR ks bx b k) (shRS bx (encR ks bx b k) c) c r).getD ((4 * c) + r) 0#8) H68 rfl hS3 rfl rfl rfl rfl siz5 (at_getD (by omega)) ?_
        intro w72 hS71 H73
        have H73' := H73.as (L' := [((some b19), sob E8 5 ((shRI bx (encR ks bx b k) (shRS bx (encR ks bx b k) c) c r).set ((4 * c) + r) ((bx).getD (((encR ks bx b k).getD ((4 * ((c + r) % 4)) + r) 0#8).toNat) 0#8)) (cel E8 (List.replicate (16 - 16) 0#8))), (key, sob E8 5 (encR ks bx b k) sp), (some b1, .cells #[.slice xk 176 ck, .slice xb 256 cb] 108 (0, 0))]) rfl
        clear H73
        refine wnil ?_
        refine blockNormal ?_
        refine thenNormal ?_
        refine oneRegion ?_
        refine sq (r_move (v := i64 ((r : Nat))) rfl) ?_
        refine sq (r_addI (a := (r : Nat)) (b := (1 : Int)) rfl rfl (by omega)) ?_
        refine sq (r_assign (v := i64 ((r : Nat) + (1 : Int))) rfl) ?_
        refine wnil ?_
        refine thenNormal ?_
        exact ⟨r + 1, _, rfl, ⟨rfl, rfl, rfl, rfl, rfl, rfl, trivial⟩, ⟨by omega, hS71, H73'⟩, by show 4 - (r + 1) < 4 - r; omega⟩
      · skip
        obtain rfl : r = 4 := by omega
        refine exitAny ?_
        refine thenExit ?_
        refine thenExit ?_
        refine blockHere ?_
        refine blockNormal ?_
        refine thenNormal ?_
        refine oneRegion ?_
        refine sq (r_move (v := i64 ((c : Nat))) rfl) ?_
        refine sq (r_addI (a := (c : Nat)) (b := (1 : Int)) rfl rfl (by omega)) ?_
        refine sq (r_assign (v := i64 ((c : Nat) + (1 : Int))) rfl) ?_
        refine wnil ?_
        refine thenNormal ?_
        exact ⟨c + 1, _, rfl, ⟨rfl, rfl, rfl, rfl, rfl, trivial⟩, ⟨by omega, hS3, HL3⟩, by show 4 - (c + 1) < 4 - c; omega⟩
    · skip
      obtain rfl : c = 4 := by omega
      refine exitAny ?_
      refine thenExit ?_
      refine thenExit ?_
      refine blockHere ?_
      refine thenNormal ?_
      refine seqAny ?_
      refine seqRegion ?_
      refine sq (r_move (v := i64 ((k + 1 : Nat))) rfl) ?_
      refine sq (r_lssI (a := (k + 1 : Nat)) (b := (10 : Int)) rfl rfl) ?_
      refine wend ?_
      refine condProp (((k + 1 : Nat) : Int) < (10 : Int)) rfl (fun hk49 => ?_) (fun hk49 => ?_)
      · skip
        refine oneRegion ?_
        refine sq (r_move (v := .slice (ownA (some b19)) 16 16) rfl) ?_
        refine c_call (vs := [.slice (ownA (some b19)) 16 16]) call100 rfl (rmix_ok (shRS bx (encR ks bx b k) 4) (by first | omega | (rw [List.length_take, List.length_drop]; omega)) (ownA (some b19)) 16 w23 (HL2.rd (k := 0) rfl hS2)) ?_
        rintro _ w74 ⟨⟨key76, c77, sp78, rfl, hS79, hk80⟩, hE81⟩
        rw [show (mixRS (shRS bx (encR ks bx b k) 4) 4).length = 16 from mixRS_len _ _]
        have H82 := HL2.add hE81 hk80
        refine sq (r_assign (v := .slice (ownA key76) 16 c77) rfl) ?_
        have e83 : mixRS (shRS bx (encR ks bx b k) 4) 4 = rndR bx (encR ks bx b k) (k + 1) := by rw [rndR, if_pos (by omega)]
        have hS84 := hS79
        rw [e83] at hS84
        have H85 := H82.as (L' := [(key76, sob E8 5 (rndR bx (encR ks bx b k) (k + 1)) sp78), ((some b19), sob E8 5 (shRS bx (encR ks bx b k) 4) (cel E8 (List.replicate (16 - 16) 0#8))), (key, sob E8 5 (encR ks bx b k) sp), (some b1, .cells #[.slice xk 176 ck, .slice xb 256 cb] 108 (0, 0))]) (by rw [e83])
        refine wnil ?_
        refine thenNormal ?_
        refine oneRegion ?_
        refine sq (r_move (v := .slice (ownA key76) 16 c77) rfl) ?_
        refine sq (r_fieldAddr (off' := 0) fld108_0 (by decide) (b := b1) (off := 0) rfl (by omega)) ?_
        refine sq (r_loadC (v := .slice xk 176 ck) one27 (H85.get (k := 3) rfl) (off := 0) rfl (by rfl)) ?_
        refine sq (r_move (v := i64 ((k + 1 : Nat))) rfl) ?_
        refine sq (r_mulI (a := (16 : Int)) (b := (k + 1 : Nat)) rfl rfl (by omega)) ?_
        refine sq (r_move (v := i64 ((k + 1 : Nat))) rfl) ?_
        refine sq (r_mulI (a := (16 : Int)) (b := (k + 1 : Nat)) rfl rfl (by omega)) ?_
        refine sq (r_addI (a := (16 : Int) * (k + 1 : Nat)) (b := (16 : Int)) rfl rfl (by omega)) ?_
        refine sq ((r_sliceS (l := 16 * (k + 1)) (h := 16 * (k + 1) + 16) sli27 rfl (.inl ⟨_, _, _, rfl, rfl, by first | rfl | omega | (simp; omega)⟩) (.inl ⟨_, _, _, rfl, rfl, by first | rfl | omega | (simp; omega)⟩) (by omega) (by omega)).as (v' := .slice (if ck = 16 * (k + 1) then xk else adr xk ((16 * (k + 1)) * 1)) 16 (ck - (16 * (k + 1)))) (by rw [show (16 * (k + 1) + 16) - (16 * (k + 1)) = 16 by omega])) ?_
        refine c_call (vs := [.slice (ownA key76) 16 c77, .slice (if ck = 16 * (k + 1) then xk else adr xk ((16 * (k + 1)) * 1)) 16 (ck - (16 * (k + 1)))]) call99 rfl (add_ok (rndR bx (encR ks bx b k) (k + 1)) ((ks.drop (16 * (k + 1))).take (16)) (by exact rndR_len _ _ _) (by first | omega | (rw [List.length_take, List.length_drop]; omega)) (ownA key76) (if ck = 16 * (k + 1) then xk else adr xk ((16 * (k + 1)) * 1)) c77 (ck - (16 * (k + 1))) w74 (H85.rd (k := 0) rfl hS84) (Rd.sub (hK.ext H85.chg) (16 * (k + 1)) (16) (m := ck) (fun e => by first | exact absurd e (by omega) | (rw [show 16 = 0 by omega]; rfl)))) ?_
        rintro _ w86 ⟨⟨key88, c89, sp90, rfl, hS91, hk92⟩, hE93⟩
        rw [show (addR (rndR bx (encR ks bx b k) (k + 1)) ((ks.drop (16 * (k + 1))).take (16)) 16).length = 16 from addR_len _ _ _]
        have H94 := H85.add hE93 hk92
        refine sq (r_assign (v := .slice (ownA key88) 16 c89) rfl) ?_
        have e95 : addR (rndR bx (encR ks bx b k) (k + 1)) ((ks.drop (16 * (k + 1))).take (16)) 16 = encR ks bx b (k + 1) := by rw [encR]
        have hS96 := hS91
        rw [e95] at hS96
        have H97 := H94.as (L' := [(key88, sob E8 5 (encR ks bx b (k + 1)) sp90), (key76, sob E8 5 (rndR bx (encR ks bx b k) (k + 1)) sp78), ((some b19), sob E8 5 (shRS bx (encR ks bx b k) 4) (cel E8 (List.replicate (16 - 16) 0#8))), (key, sob E8 5 (encR ks bx b k) sp), (some b1, .cells #[.slice xk 176 ck, .slice xb 256 cb] 108 (0, 0))]) (by rw [e95])
        refine wnil ?_
        refine blockNormal ?_
        refine thenNormal ?_
        refine oneRegion ?_
        refine sq (r_move (v := i64 ((k + 1 : Nat))) rfl) ?_
        refine sq (r_addI (a := (k + 1 : Nat)) (b := (1 : Int)) rfl rfl (by omega)) ?_
        refine sq (r_assign (v := i64 ((k + 1 : Nat) + (1 : Int))) rfl) ?_
        refine wnil ?_
        refine thenNormal ?_
        exact ⟨(k + 1, key88, c89, sp90), _, rfl, ⟨rfl, rfl, congrArg i64 (by omega), trivial⟩, ⟨by omega, hS96, (((H97.dropk 3).dropk 2).dropk 1).as rfl⟩, by show 10 - (k + 1) < 10 - k; omega⟩
      · skip
        have e98 : shRS bx (encR ks bx b k) 4 = rndR bx (encR ks bx b k) (k + 1) := by rw [rndR, if_neg (by omega)]
        have hS99 := hS2
        rw [e98] at hS99
        have H100 := HL2.as (L' := [((some b19), sob E8 5 (rndR bx (encR ks bx b k) (k + 1)) (cel E8 (List.replicate (16 - 16) 0#8))), (key, sob E8 5 (encR ks bx b k) sp), (some b1, .cells #[.slice xk 176 ck, .slice xb 256 cb] 108 (0, 0))]) (by rw [e98])
        refine skipAny ?_
        refine thenNormal ?_
        refine oneRegion ?_
        refine sq (r_move (v := .slice (ownA (some b19)) 16 16) rfl) ?_
        refine sq (r_fieldAddr (off' := 0) fld108_0 (by decide) (b := b1) (off := 0) rfl (by omega)) ?_
        refine sq (r_loadC (v := .slice xk 176 ck) one27 (H100.get (k := 2) rfl) (off := 0) rfl (by rfl)) ?_
        refine sq (r_move (v := i64 ((k + 1 : Nat))) rfl) ?_
        refine sq (r_mulI (a := (16 : Int)) (b := (k + 1 : Nat)) rfl rfl (by omega)) ?_
        refine sq (r_move (v := i64 ((k + 1 : Nat))) rfl) ?_
        refine sq (r_mulI (a := (16 : Int)) (b := (k + 1 : Nat)) rfl rfl (by omega)) ?_
        refine sq (r_addI (a := (16 : Int) * (k + 1 : Nat)) (b := (16 : Int)) rfl rfl (by omega)) ?_
        refine sq ((r_sliceS (l := 16 * (k + 1)) (h := 16 * (k + 1) + 16) sli27 rfl (.inl ⟨_, _, _, rfl, rfl, by first | rfl | omega | (simp; omega)⟩) (.inl ⟨_, _, _, rfl, rfl, by first | rfl | omega | (simp; omega)⟩) (by omega) (by omega)).as (v' := .slice (if ck = 16 * (k + 1) then xk else adr xk ((16 * (k + 1)) * 1)) 16 (ck - (16 * (k + 1)))) (by rw [show (16 * (k + 1) + 16) - (16 * (k + 1)) = 16 by omega])) ?_
        refine c_call (vs := [.slice (ownA (some b19)) 16 16, .slice (if ck = 16 * (k + 1) then xk else adr xk ((16 * (k + 1)) * 1)) 16 (ck - (16 * (k + 1)))]) call99 rfl (add_ok (rndR bx (encR ks bx b k) (k + 1)) ((ks.drop (16 * (k + 1))).take (16)) (by exact rndR_len _ _ _) (by first | omega | (rw [List.length_take, List.length_drop]; omega)) (ownA (some b19)) (if ck = 16 * (k + 1) then xk else adr xk ((16 * (k + 1)) * 1)) 16 (ck - (16 * (k + 1))) w23 (H100.rd (k := 0) rfl hS99) (Rd.sub (hK.ext H100.chg) (16 * (k + 1)) (16) (m := ck) (fun e => by first | exact absurd e (by omega) | (rw [show 16 = 0 by omega]; rfl)))) ?_
        rintro _ w101 ⟨⟨key103, c104, sp105, rfl, hS106, hk107⟩, hE108⟩
        rw [show (addR (rndR bx (encR ks bx b k) (k + 1)) ((ks.drop (16 * (k + 1))).take (16)) 16).length = 16 from addR_len _ _ _]
        have H109 := H100.add hE108 hk107
        refine sq (r_assign (v := .slice (ownA key103) 16 c104) rfl) ?_
        have e110 : addR (rndR bx (encR ks bx b k) (k + 1)) ((ks.drop (16 * (k + 1))).take (16)) 16 = encR ks bx b (k + 1) := by rw [encR]
        have hS111 := hS106
        rw [e110] at hS111
        have H112 := H109.as (L' := [(key103, sob E8 5 (encR ks bx b (k + 1)) sp105), ((some b19), sob E8 5 (rndR bx (encR ks bx b k) (k + 1)) (cel E8 (List.replicate (16 - 16) 0#8))), (key, sob E8 5 (encR ks bx b k) sp), (some b1, .cells #[.slice xk 176 ck, .slice xb 256 cb] 108 (0, 0))]) (by rw [e110])
        refine wnil ?_
        refine blockNormal ?_
        refine thenNormal ?_
        refine oneRegion ?_
        refine sq (r_move (v := i64 ((k + 1 : Nat))) rfl) ?_
        refine sq (r_addI (a := (k + 1 : Nat)) (b := (1 : Int)) rfl rfl (by omega)) ?_
        refine sq (r_assign (v := i64 ((k + 1 : Nat) + (1 : Int))) rfl) ?_
        refine wnil ?_
        refine thenNormal ?_
        exact ⟨(k + 1, key103, c104, sp105), _, rfl, ⟨rfl, rfl, congrArg i64 (by omega), trivial⟩, ⟨by omega, hS111, ((H112.dropk 2).dropk 1).as rfl⟩, by show 10 - (k + 1) < 10 - k; omega⟩
  · skip
    obtain rfl : k = 10 := by omega
    refine exitAny ?_
    refine thenExit ?_
    refine thenExit ?_
    refine blockHere ?_
    refine thenNormal ?_
    refine seqRegion ?_
    refine sq (r_move (v := .slice (ownA key) 16 cc) rfl) ?_
    refine sq (r_assign (v := .slice (ownA key) 16 cc) rfl) ?_
    refine wend ?_
    refine retAny ?_
    refine retG (rs := [.tmp 4]) (vs := [.slice (ownA key) 16 cc]) rfl ⟨⟨rfl, rfl⟩, trivial⟩ ?_
    exact ⟨_, rfl, HL.resN (k := 0) rfl hS hl.symm, HL.chg⟩

theorem rnew_ok (bx kl : List By) (hbx : bx = boxR 256) (hkl : kl.length = 16) (xq : Option Addr) (cq : Nat) (hcq : 16 ≤ cq) (w : World) (hQ : Rd E8 w xq kl) : Calls Tryd.prog 53 [.slice xq 16 cq].toArray w (Ret fun v w' => CiphR (expR kl bx 40).1 bx w v w' ∧ Ext w w') := by
  have H := Hp.start No w
  refine enter (n := 102) Tryd.func53 rfl rfl (Nat.le_of_ble_eq_true rfl) ?_
  refine seqRegion ?_
  refine q_alloc (o := .cells #[.slice none 0 0, .slice none 0 0] 108 (0, 0)) H zer108 (by kernel_rfl) ?_
  intro b1 w2 hb1 H3 hE4
  refine wend ?_
  refine seqRegion ?_
  refine sq (r_build (cs' := #[.slice none 0 0, .slice none 0 0]) (ps := []) zer108 pls108 rfl (by rfl)) ?_
  refine q_alloc (o := .cells #[.slice none 0 0, .slice none 0 0] 108 (0, 0)) H3 zer108 (by kernel_rfl) ?_
  intro b5 w6 hb5 H7 hE8
  refine d_store (k := 0) (v := .agg #[.slice none 0 0, .slice none 0 0]) (cs' := #[.slice none 0 0, .slice none 0 0]) H7 rfl rfl rfl siz108 (by rfl) (by intro u hu; simp [Value.cells] at hu; first | (subst hu; rfl) | (rcases hu with rfl | rfl <;> rfl)) (by exact Nat.le_of_ble_eq_true rfl) (by rfl) ?_
  intro w9 H10 hC11
  have H10' := H10.as (L' := [(some b5, .cells #[.slice none 0 0, .slice none 0 0] 108 (0, 0)), (some b1, .cells #[.slice none 0 0, .slice none 0 0] 108 (0, 0))]) rfl
  clear H10
  have H12 := H10'.nil (sob E8 5 [] [])
  have H13 := H12.nil (sob E8 5 [] [])
  have H14 := H13.as (L' := [(none, sob E8 5 ([]) ([])), (none, sob E8 5 ([]) ([])), (some b5, .cells #[.slice (ownA none) 0 0, .slice (ownA none) 0 0] 108 (0, 0)), (some b1, .cells #[.slice none 0 0, .slice none 0 0] 108 (0, 0))]) rfl
  refine wend ?_
  refine seqAny ?_
  refine seqRegion ?_
  refine sq (r_assign (v := i64 ((0 : Int))) rfl) ?_
  refine wend ?_
  refine blockAny ?_
  refine loopAny (σ := Nat × Option Nat × Nat × List Value) (fun (i, kb, cb, spb) => [(0, .slice xq 16 cq), (2, .pointer (some ⟨b1, 0, none⟩)), (3, .pointer (some ⟨b5, 0, none⟩)), (4, i64 ((i : Nat)))]) (fun (i, kb, cb, spb) w' => i ≤ 256 ∧ Sl E8 kb (boxR i) cb spb ∧ Hp No w w' [(kb, sob E8 5 (boxR i) spb), (none, sob E8 5 ([]) ([])), (some b5, .cells #[.slice (ownA none) 0 0, .slice (ownA kb) i cb] 108 (0, 0)), (some b1, .cells #[.slice none 0 0, .slice none 0 0] 108 (0, 0))]) (fun (i, kb, cb, spb) => 256 - i) ((0, none, 0, [])) ?_ ?_ ?_
  · exact ⟨rfl, rfl, rfl, rfl, trivial⟩
  · exact ⟨by omega, Sl.none, H14⟩
  rintro ⟨i, kb, cb, spb⟩ ρ w15 ⟨hi, hSb, HL⟩
  have hlb := boxR_len i
  refine seqAny ?_
  refine seqRegion ?_
  refine sq (r_move (v := i64 ((i : Nat))) rfl) ?_
  refine sq (r_lssI (a := (i : Nat)) (b := (256 : Int)) rfl rfl) ?_
  refine wend ?_
  refine condProp (((i : Nat) : Int) < (256 : Int)) rfl (fun hk11 => ?_) (fun hk11 => ?_)
  · skip
    refine skipAny ?_
    refine thenNormal ?_
    refine seqAny ?_
    refine blockAny ?_
    refine drawAny (K := [none, none, none, none, none, some (bsRel E8 5 [sR (BitVec.ofInt 8 (i : Nat))] 1 w15), some (appRel E8 5 kb (boxR i) ([sR (BitVec.ofInt 8 (i : Nat))]) (i + 1) w15), none]) [0, 1, 0, 4, 12, 28, 63, 127, 255] (AppC kb (sob E8 5 (boxR i) spb) (ob2 E8 5 (boxR i) ([sR (BitVec.ofInt 8 (i : Nat))]) cb spb) w15) (AppR kb (sob E8 5 (boxR i) spb) (ob2 E8 5 (boxR i) ([sR (BitVec.ofInt 8 (i : Nat))]) cb spb)) mixed (by kernel_rfl) (AppC.drew fun g hg => HL.has _ (List.mem_of_getElem? (i := 0) rfl) g hg) AppC.trans ?_ ?_
    · exact relAll ⟨⟨fun _ _ _ _ _ hR h => bsRel_app (fun g hg => HL.lt (List.mem_of_getElem? (i := 0) rfl) hg) hR h, fun _ _ _ _ _ h => h⟩, ⟨fun _ _ _ _ _ hR h => appRel_stable hR h, fun _ _ _ _ _ h => h⟩, trivial⟩
    refine ⟨.pointer (some ⟨b5, 1, none⟩), fun _ uw17 hC18 _ => Gives.run rfl (r_fieldAddr (off' := 1) fld108_1 (by decide) (b := b5) (off := 0) rfl (by omega)) ⟨rfl, AppR.refl⟩, ?_⟩
    refine ⟨.slice (ownA kb) i cb, fun _ uw22 hC23 _ => ?_, ?_⟩
    · obtain ⟨sp24, H25, hS26, _⟩ := hC23.hp HL (k := 0) rfl hSb
      exact Gives.run rfl (r_loadC (v := .slice (ownA kb) i cb) one27 (H25.get (k := 2) rfl) (off := 1) rfl (by rfl)) ⟨rfl, AppR.refl⟩
    refine ⟨i64 ((i : Nat)), fun _ uw27 hC28 _ => Gives.run rfl (r_move (v := i64 ((i : Nat))) rfl) ⟨rfl, AppR.refl⟩, ?_⟩
    refine ⟨u8 (BitVec.ofInt 8 (i : Nat)), fun _ uw32 hC33 _ => Gives.run rfl (r_Ito8 und3 und5 (a := (i : Nat)) rfl) ⟨rfl, AppR.refl⟩, ?_⟩
    refine ⟨u8 (sR (BitVec.ofInt 8 (i : Nat))), fun _ uw37 hC38 _ => ?_, ?_⟩
    · obtain ⟨sp39, H40, hS41, _⟩ := hC38.hp HL (k := 0) rfl hSb
      exact Gives.call rfl (Enters.callL (vs := [u8 (BitVec.ofInt 8 (i : Nat))]) call80 rfl) ((s_ok (BitVec.ofInt 8 (i : Nat)) uw37).mono fun _ _ ⟨v, h1, h2, h3⟩ => ⟨v, h1, h2, AppR.ext h3⟩)
    refine ⟨fun r uw42 hC43 hF => bsGives (E := E8) (l := [sR (BitVec.ofInt 8 (i : Nat))]) sli27 zer5 (Nat.le_of_ble_eq_true rfl) (ps := [(0, u8 (sR (BitVec.ofInt 8 (i : Nat))))]) rfl (by exact fillAll rfl rfl) hC43.1.size (fun _ h => AppR.ext h), ?_⟩
    refine ⟨fun r uw44 hC45 hF => ?_, ?_⟩
    · obtain ⟨sp49, H50, hS51, _⟩ := hC45.hp HL (k := 0) rfl hSb
      obtain ⟨b48, e46, _, h47⟩ := hF 5 _ rfl rfl
      exact appGives hC45 HL (k := 0) rfl hSb sli27 zer5 rfl byt5 (Rd.row h47) rfl (by omega) e46 (by rfl) (by omega)
    refine ⟨.pointer (some ⟨b5, 1, none⟩), fun _ uw52 hC53 _ => Gives.run rfl (r_fieldAddr (off' := 1) fld108_1 (by decide) (b := b5) (off := 0) rfl (by omega)) ⟨rfl, AppR.refl⟩, ?_⟩
    intro r60 w57 hE59 hF
    obtain ⟨key61, c62, sp63, e64, hS65, hne66, hk67⟩ := hF 6 _ rfl
    have H58 := (HL.turn (k := 0) rfl hE59.1 hk67).as (L' := [(key61, sob E8 5 ((boxR i) ++ ([sR (BitVec.ofInt 8 (i : Nat))])) sp63), (none, sob E8 5 ([]) ([])), (some b5, .cells #[.slice (ownA none) 0 0, .slice (ownA kb) i cb] 108 (0, 0)), (some b1, .cells #[.slice none 0 0, .slice none 0 0] 108 (0, 0))]) rfl
    dsimp only
    rw [e64]
    have e68 : (boxR i) ++ ([sR (BitVec.ofInt 8 (i : Nat))]) = boxR (i + 1) := by rw [boxR]
    have hS69 := hS65
    rw [e68] at hS69
    have H70 := H58.as (L' := [(key61, sob E8 5 (boxR (i + 1)) sp63), (none, sob E8 5 ([]) ([])), (some b5, .cells #[.slice (ownA none) 0 0, .slice (ownA kb) i cb] 108 (0, 0)), (some b1, .cells #[.slice none 0 0, .slice none 0 0] 108 (0, 0))]) (by rw [e68])
    refine d_store (k := 2) (v := .slice (ownA key61) (i + 1) c62) (cs' := #[.slice (ownA none) 0 0, .slice (ownA key61) (i + 1) c62]) H70 rfl rfl rfl siz27 (by rfl) (by intro u hu; simp [Value.cells] at hu; first | (subst hu; rfl) | (rcases hu with rfl <;> rfl)) (by exact Nat.le_of_ble_eq_true rfl) (by rfl) ?_
    intro w71 H72 hC73
    have H72' := H72.as (L' := [(key61, sob E8 5 (boxR (i + 1)) sp63), (none, sob E8 5 ([]) ([])), (some b5, .cells #[.slice (ownA none) 0 0, .slice (ownA key61) (i + 1) c62] 108 (0, 0)), (some b1, .cells #[.slice none 0 0, .slice none 0 0] 108 (0, 0))]) rfl
    clear H72
    refine wnil ?_
    refine blockNormal ?_
    refine thenNormal ?_
    refine oneRegion ?_
    refine sq (r_move (v := i64 ((i : Nat))) rfl) ?_
    refine sq (r_addI (a := (i : Nat)) (b := (1 : Int)) rfl rfl (by omega)) ?_
    refine sq (r_assign (v := i64 ((i : Nat) + (1 : Int))) rfl) ?_
    refine wnil ?_
    refine thenNormal ?_
    exact ⟨(i + 1, key61, c62, sp63), _, rfl, ⟨rfl, rfl, rfl, rfl, trivial⟩, ⟨by omega, hS69, H72'⟩, by show 256 - (i + 1) < 256 - i; omega⟩
  · skip
    obtain rfl : i = 256 := by omega
    rw [← hbx] at hSb hlb HL
    refine exitAny ?_
    refine thenExit ?_
    refine thenExit ?_
    refine blockHere ?_
    refine thenNormal ?_
    refine seqAny ?_
    refine drawAny (K := [none, none, none, none, some (appRel E8 5 none ([]) ((kl.drop 0).take (16)) (0 + 16) w15), none]) [0, 1, 0, 4, 15, 31, 63] (AppC none (sob E8 5 ([]) ([])) (ob2 E8 5 ([]) ((kl.drop 0).take (16)) 0 ([])) w15) (AppR none (sob E8 5 ([]) ([])) (ob2 E8 5 ([]) ((kl.drop 0).take (16)) 0 ([]))) mixed (by kernel_rfl) (AppC.drew fun g hg => HL.has _ (List.mem_of_getElem? (i := 1) rfl) g hg) AppC.trans ?_ ?_
    · exact relAll ⟨⟨fun _ _ _ _ _ hR h => appRel_stable hR h, fun _ _ _ _ _ h => h⟩, trivial⟩
    refine ⟨.pointer (some ⟨b5, 0, none⟩), fun _ uw74 hC75 _ => Gives.run rfl (r_fieldAddr (off' := 0) fld108_0 (by decide) (b := b5) (off := 0) rfl (by omega)) ⟨rfl, AppR.refl⟩, ?_⟩
    refine ⟨.slice (ownA none) 0 0, fun _ uw79 hC80 _ => ?_, ?_⟩
    · obtain ⟨sp81, H82, hS83, _⟩ := hC80.hp HL (k := 1) rfl Sl.none
      exact Gives.run rfl (r_loadC (v := .slice (ownA none) 0 0) one27 (H82.get (k := 2) rfl) (off := 0) rfl (by rfl)) ⟨rfl, AppR.refl⟩
    refine ⟨.slice xq 16 cq, fun _ uw84 hC85 _ => Gives.run rfl (r_move (v := .slice xq 16 cq) rfl) ⟨rfl, AppR.refl⟩, ?_⟩
    refine ⟨.slice (if cq = 0 then xq else adr xq (0 * 1)) 16 (cq - 0), fun _ uw89 hC90 _ => ?_, ?_⟩
    · obtain ⟨sp91, H92, hS93, _⟩ := hC90.hp HL (k := 1) rfl Sl.none
      exact Gives.run rfl ((r_sliceS (l := 0) (h := 16) sli27 rfl (.inr ⟨rfl, rfl⟩) (.inl ⟨_, _, _, rfl, rfl, by first | rfl | omega | (simp; omega)⟩) (by omega) (by omega)).as (v' := .slice (if cq = 0 then xq else adr xq (0 * 1)) 16 (cq - 0)) (by rw [show 16 - 0 = 16 by omega])) ⟨rfl, AppR.refl⟩
    refine ⟨fun r uw94 hC95 hF => ?_, ?_⟩
    · obtain ⟨sp96, H97, hS98, _⟩ := hC95.hp HL (k := 1) rfl Sl.none
      exact appGives hC95 HL (k := 1) rfl Sl.none sli27 zer5 rfl byt5 (Rd.sub (hQ.ext H97.chg) 0 (16) (m := cq) (fun e => by first | exact absurd e (by omega) | (rw [show 16 = 0 by omega]; rfl))) rfl (by rfl) rfl (by rw [List.length_take, List.length_drop]; omega) (by omega)
    refine ⟨.pointer (some ⟨b5, 0, none⟩), fun _ uw99 hC100 _ => Gives.run rfl (r_fieldAddr (off' := 0) fld108_0 (by decide) (b := b5) (off := 0) rfl (by omega)) ⟨rfl, AppR.refl⟩, ?_⟩
    intro r107 w104 hE106 hF
    obtain ⟨key108, c109, sp110, e111, hS112, hne113, hk114⟩ := hF 4 _ rfl
    have H105 := (HL.turn (k := 1) rfl hE106.1 hk114).as (L' := [(kb, sob E8 5 bx spb), (key108, sob E8 5 (([]) ++ ((kl.drop 0).take (16))) sp110), (some b5, .cells #[.slice (ownA none) 0 0, .slice (ownA kb) 256 cb] 108 (0, 0)), (some b1, .cells #[.slice none 0 0, .slice none 0 0] 108 (0, 0))]) rfl
    dsimp only
    rw [e111]
    have e115 : ([]) ++ ((kl.drop 0).take (16)) = (expR kl bx 0).1 := by rw [expR]; rfl
    have hS116 := hS112
    rw [e115] at hS116
    have H117 := H105.as (L' := [(kb, sob E8 5 bx spb), (key108, sob E8 5 ((expR kl bx 0).1) sp110), (some b5, .cells #[.slice (ownA none) 0 0, .slice (ownA kb) 256 cb] 108 (0, 0)), (some b1, .cells #[.slice none 0 0, .slice none 0 0] 108 (0, 0))]) (by rw [e115])
    refine d_store (k := 2) (v := .slice (ownA key108) (0 + 16) c109) (cs' := #[.slice (ownA key108) (0 + 16) c109, .slice (ownA kb) 256 cb]) H117 rfl rfl rfl siz27 (by rfl) (by intro u hu; simp [Value.cells] at hu; first | (subst hu; rfl) | (rcases hu with rfl <;> rfl)) (by exact Nat.le_of_ble_eq_true rfl) (by rfl) ?_
    intro w118 H119 hC120
    have H119' := H119.as (L' := [(kb, sob E8 5 bx spb), (key108, sob E8 5 ((expR kl bx 0).1) sp110), (some b5, .cells #[.slice (ownA key108) (0 + 16) c109, .slice (ownA kb) 256 cb] 108 (0, 0)), (some b1, .cells #[.slice none 0 0, .slice none 0 0] 108 (0, 0))]) rfl
    clear H119
    refine wnil ?_
    refine thenNormal ?_
    refine seqRegion ?_
    refine sq (r_assign (v := u8 (1#8)) rfl) ?_
    refine wend ?_
    refine seqAny ?_
    refine seqRegion ?_
    refine sq (r_assign (v := i64 ((4 : Int))) rfl) ?_
    refine wend ?_
    refine blockAny ?_
    refine loopAny (σ := Nat × Option Nat × Nat × List Value) (fun (k, kk, kc, ksp) => [(0, .slice xq 16 cq), (2, .pointer (some ⟨b1, 0, none⟩)), (3, .pointer (some ⟨b5, 0, none⟩)), (5, u8 ((expR kl bx k).2)), (6, i64 ((k + 4 : Nat)))]) (fun (k, kk, kc, ksp) w' => k ≤ 40 ∧ Sl E8 kk ((expR kl bx k).1) kc ksp ∧ Hp No w w' [(kb, sob E8 5 bx spb), (kk, sob E8 5 ((expR kl bx k).1) ksp), (some b5, .cells #[.slice (ownA kk) (16 + 4 * k) kc, .slice (ownA kb) 256 cb] 108 (0, 0)), (some b1, .cells #[.slice none 0 0, .slice none 0 0] 108 (0, 0))]) (fun (k, kk, kc, ksp) => 40 - k) ((0, key108, c109, sp110)) ?_ ?_ ?_
    · exact ⟨rfl, rfl, rfl, rfl, rfl, trivial⟩
    · exact ⟨by omega, hS116, H119'⟩
    rintro ⟨k, kk, kc, ksp⟩ ρ w121 ⟨hk, hSk, HL⟩
    have hl := expR_len kl bx hkl k
    have hls := expS_len _ k hl
    have hcap := hSk.cap
    refine seqAny ?_
    refine seqRegion ?_
    refine sq (r_move (v := i64 ((k + 4 : Nat))) rfl) ?_
    refine sq (r_lssI (a := (k + 4 : Nat)) (b := (44 : Int)) rfl rfl) ?_
    refine wend ?_
    refine condProp (((k + 4 : Nat) : Int) < (44 : Int)) rfl (fun hk29 => ?_) (fun hk29 => ?_)
    · skip
      refine skipAny ?_
      refine thenNormal ?_
      refine seqAny ?_
      refine blockAny ?_
      refine seqRegion ?_
      refine q_buildSlice (E := E8) (l := []) HL sli27 zer5 (Nat.le_of_ble_eq_true rfl) (ps := []) rfl (by exact fillAll rfl rfl) rfl ?_
      intro b123 w125 hS124 H126 _
      refine sq (r_fieldAddr (off' := 0) fld108_0 (by decide) (b := b5) (off := 0) rfl (by omega)) ?_
      refine sq (r_loadC (v := .slice (ownA kk) (16 + 4 * k) kc) one27 (H126.get (k := 3) rfl) (off := 0) rfl (by rfl)) ?_
      refine sq (r_move (v := i64 ((k + 4 : Nat))) rfl) ?_
      refine sq (r_mulI (a := (4 : Int)) (b := (k + 4 : Nat)) rfl rfl (by omega)) ?_
      refine sq (r_subI (a := (4 : Int) * (k + 4 : Nat)) (b := (4 : Int)) rfl rfl (by omega)) ?_
      refine sq (r_move (v := i64 ((k + 4 : Nat))) rfl) ?_
      refine sq (r_mulI (a := (4 : Int)) (b := (k + 4 : Nat)) rfl rfl (by omega)) ?_
      refine sq ((r_sliceS (l := 4 * k + 12) (h := 4 * (k + 4)) sli27 rfl (.inl ⟨_, _, _, rfl, rfl, by first | rfl | omega | (simp; omega)⟩) (.inl ⟨_, _, _, rfl, rfl, by first | rfl | omega | (simp; omega)⟩) (by omega) (by omega)).as (v' := .slice (if kc = 4 * k + 12 then ownA kk else adr (ownA kk) ((4 * k + 12) * 1)) 4 (kc - (4 * k + 12))) (by rw [show (4 * (k + 4)) - (4 * k + 12) = 4 by omega])) ?_
      refine q_append (E := E8) (k := 0) (l := []) (l2 := (((expR kl bx k).1).drop (4 * k + 12)).take (4)) H126 rfl hS124 sli27 zer5 rfl byt5 (Rd.sub (H126.rd (k := 2) rfl hSk) (4 * k + 12) (4) (m := kc) (fun e => by first | exact absurd e (by omega) | (rw [show 4 = 0 by omega]; rfl))) rfl (by rfl) rfl (by rw [List.length_take, List.length_drop]; omega) (by omega) ?_
      intro key127 c128 sp129 w131 hS130 hne133 H132
      have H132' := H132.as (L' := [(key127, sob E8 5 (([]) ++ ((((expR kl bx k).1).drop (4 * k + 12)).take (4))) sp129), (kb, sob E8 5 bx spb), (kk, sob E8 5 ((expR kl bx k).1) ksp), (some b5, .cells #[.slice (ownA kk) (16 + 4 * k) kc, .slice (ownA kb) 256 cb] 108 (0, 0)), (some b1, .cells #[.slice none 0 0, .slice none 0 0] 108 (0, 0))]) rfl
      clear H132
      have e134 : ([]) ++ ((((expR kl bx k).1).drop (4 * k + 12)).take (4)) = expS ((expR kl bx k).1) k := by rw [List.nil_append, expS]
      have hS135 := hS130
      rw [e134] at hS135
      have H136 := H132'.as (L' := [(key127, sob E8 5 (expS ((expR kl bx k).1) k) sp129), (kb, sob E8 5 bx spb), (kk, sob E8 5 ((expR kl bx k).1) ksp), (some b5, .cells #[.slice (ownA kk) (16 + 4 * k) kc, .slice (ownA kb) 256 cb] 108 (0, 0)), (some b1, .cells #[.slice none 0 0, .slice none 0 0] 108 (0, 0))]) (by rw [e134])
      refine sq (r_assign (v := .slice (ownA key127) (0 + 4) c128) rfl) ?_
      refine wend ?_
      refine seqAny ?_
      refine seqRegion ?_
      refine sq (r_move (v := i64 ((k + 4 : Nat))) rfl) ?_
      refine sq (r_remI (a := (k + 4 : Nat)) (b := (4 : Int)) rfl rfl (by omega)) ?_
      refine sq (r_eqlI (a := (k + 4 : Nat) % (4 : Int)) (b := (0 : Int)) rfl rfl) ?_
      refine wend ?_
      refine condProp (((k + 4 : Nat) % (4 : Int) : Int) = (0 : Int)) rfl (fun h44 => ?_) (fun h44 => ?_)
      · skip
        refine seqAny ?_
        refine drawAny (K := [none, none, none, none, none, none, none, none, none, none, none, none, none, none, none, none, none, none, none, none, none, none, none, none, none, none, none, none, none, none, some (bsRel E8 5 [((bx).getD (((expS ((expR kl bx k).1) k).getD 1 0#8).toNat) 0#8) ^^^ ((expR kl bx k).2), (bx).getD (((expS ((expR kl bx k).1) k).getD 2 0#8).toNat) 0#8, (bx).getD (((expS ((expR kl bx k).1) k).getD 3 0#8).toNat) 0#8, (bx).getD (((expS ((expR kl bx k).1) k).getD 0 0#8).toNat) 0#8] 4 w131)]) [0, 1, 0, 4, 12, 31, 63, 0, 255, 0, 512, 0, 2048, 6144, 15872, 32256, 0, 65536, 0, 262144, 786432, 2031616, 4128768, 0, 8388608, 0, 33554432, 100663296, 260046848, 528482304, 1073741823, 2147483647] (fun w' => Ext w131 w') (fun w' w'' => Ext w' w'') mixed (by kernel_rfl) (Ext.drew _) (fun _ _ h h' => h.trans h') ?_ ?_
        · exact relAll ⟨⟨fun _ _ _ _ _ hR h => bsRel_ext hR h, fun _ _ _ _ _ h => h⟩, trivial⟩
        refine ⟨.pointer (some ⟨b5, 1, none⟩), fun _ uw137 hC138 _ => Gives.run rfl (r_fieldAddr (off' := 1) fld108_1 (by decide) (b := b5) (off := 0) rfl (by omega)) ⟨rfl, Chg.refl _ _⟩, ?_⟩
        refine ⟨.slice (ownA kb) 256 cb, fun _ uw139 hC140 _ => Gives.run rfl (r_loadC (v := .slice (ownA kb) 256 cb) one27 ((H136.ext hC140).get (k := 3) rfl) (off := 1) rfl (by rfl)) ⟨rfl, Chg.refl _ _⟩, ?_⟩
        refine ⟨.slice (ownA key127) (0 + 4) c128, fun _ uw141 hC142 _ => Gives.run rfl (r_move (v := .slice (ownA key127) (0 + 4) c128) rfl) ⟨rfl, Chg.refl _ _⟩, ?_⟩
        refine ⟨.pointer (adr (ownA key127) (1 * 1)), fun _ uw143 hC144 _ => Gives.run rfl (r_idxS (E := E8) (l := expS ((expR kl bx k).1) k) (j := 1) sli27 ((H136.ext hC144).rd (k := 0) rfl hS135) rfl rfl (by first | rfl | omega | (simp; omega)) (by exact hls.symm) (by omega)) ⟨rfl, Chg.refl _ _⟩, ?_⟩
        refine ⟨u8 ((expS ((expR kl bx k).1) k).getD 1 0#8), fun _ uw145 hC146 _ => Gives.run rfl (r_ldS (E := E8) (l := expS ((expR kl bx k).1) k) (j := 1) (v := (expS ((expR kl bx k).1) k).getD 1 0#8) fits5 ((H136.ext hC146).rd (k := 0) rfl hS135) rfl rfl (at_getD (by omega))) ⟨rfl, Chg.refl _ _⟩, ?_⟩
        refine ⟨.pointer (adr (ownA kb) ((((expS ((expR kl bx k).1) k).getD 1 0#8).toNat) * 1)), fun _ uw147 hC148 _ => Gives.run rfl (r_idxS (E := E8) (l := bx) (j := ((expS ((expR kl bx k).1) k).getD 1 0#8).toNat) sli27 ((H136.ext hC148).rd (k := 1) rfl hSb) rfl rfl (by first | rfl | omega | (simp; omega)) (by omega) (by have := ((expS ((expR kl bx k).1) k).getD 1 0#8).isLt; omega)) ⟨rfl, Chg.refl _ _⟩, ?_⟩
        refine ⟨u8 ((bx).getD (((expS ((expR kl bx k).1) k).getD 1 0#8).toNat) 0#8), fun _ uw149 hC150 _ => Gives.run rfl (r_ldS (E := E8) (l := bx) (j := ((expS ((expR kl bx k).1) k).getD 1 0#8).toNat) (v := (bx).getD (((expS ((expR kl bx k).1) k).getD 1 0#8).toNat) 0#8) fits5 ((H136.ext hC150).rd (k := 1) rfl hSb) rfl rfl (at_getD (by have := ((expS ((expR kl bx k).1) k).getD 1 0#8).isLt; omega))) ⟨rfl, Chg.refl _ _⟩, ?_⟩
        refine ⟨u8 ((expR kl bx k).2), fun _ uw151 hC152 _ => Gives.run rfl (r_move (v := u8 ((expR kl bx k).2)) rfl) ⟨rfl, Chg.refl _ _⟩, ?_⟩
        refine ⟨u8 (((bx).getD (((expS ((expR kl bx k).1) k).getD 1 0#8).toNat) 0#8) ^^^ ((expR kl bx k).2)), fun _ uw153 hC154 _ => Gives.run rfl (r_xor8 (a := (bx).getD (((expS ((expR kl bx k).1) k).getD 1 0#8).toNat) 0#8) (b := (expR kl bx k).2) rfl rfl) ⟨rfl, Chg.refl _ _⟩, ?_⟩
        refine ⟨.pointer (some ⟨b5, 1, none⟩), fun _ uw155 hC156 _ => Gives.run rfl (r_fieldAddr (off' := 1) fld108_1 (by decide) (b := b5) (off := 0) rfl (by omega)) ⟨rfl, Chg.refl _ _⟩, ?_⟩
        refine ⟨.slice (ownA kb) 256 cb, fun _ uw157 hC158 _ => Gives.run rfl (r_loadC (v := .slice (ownA kb) 256 cb) one27 ((H136.ext hC158).get (k := 3) rfl) (off := 1) rfl (by rfl)) ⟨rfl, Chg.refl _ _⟩, ?_⟩
        refine ⟨.slice (ownA key127) (0 + 4) c128, fun _ uw159 hC160 _ => Gives.run rfl (r_move (v := .slice (ownA key127) (0 + 4) c128) rfl) ⟨rfl, Chg.refl _ _⟩, ?_⟩
        refine ⟨.pointer (adr (ownA key127) (2 * 1)), fun _ uw161 hC162 _ => Gives.run rfl (r_idxS (E := E8) (l := expS ((expR kl bx k).1) k) (j := 2) sli27 ((H136.ext hC162).rd (k := 0) rfl hS135) rfl rfl (by first | rfl | omega | (simp; omega)) (by exact hls.symm) (by omega)) ⟨rfl, Chg.refl _ _⟩, ?_⟩
        refine ⟨u8 ((expS ((expR kl bx k).1) k).getD 2 0#8), fun _ uw163 hC164 _ => Gives.run rfl (r_ldS (E := E8) (l := expS ((expR kl bx k).1) k) (j := 2) (v := (expS ((expR kl bx k).1) k).getD 2 0#8) fits5 ((H136.ext hC164).rd (k := 0) rfl hS135) rfl rfl (at_getD (by omega))) ⟨rfl, Chg.refl _ _⟩, ?_⟩
        refine ⟨.pointer (adr (ownA kb) ((((expS ((expR kl bx k).1) k).getD 2 0#8).toNat) * 1)), fun _ uw165 hC166 _ => Gives.run rfl (r_idxS (E := E8) (l := bx) (j := ((expS ((expR kl bx k).1) k).getD 2 0#8).toNat) sli27 ((H136.ext hC166).rd (k := 1) rfl hSb) rfl rfl (by first | rfl | omega | (simp; omega)) (by omega) (by have := ((expS ((expR kl bx k).1) k).getD 2 0#8).isLt; omega)) ⟨rfl, Chg.refl _ _⟩, ?_⟩
        refine ⟨u8 ((bx).getD (((expS ((expR kl bx k).1) k).getD 2 0#8).toNat) 0#8), fun _ uw167 hC168 _ => Gives.run rfl (r_ldS (E := E8) (l := bx) (j := ((expS ((expR kl bx k).1) k).getD 2 0#8).toNat) (v := (bx).getD (((expS ((expR kl bx k).1) k).getD 2 0#8).toNat) 0#8) fits5 ((H136.ext hC168).rd (k := 1) rfl hSb) rfl rfl (at_getD (by have := ((expS ((expR kl bx k).1) k).getD 2 0#8).isLt; omega))) ⟨rfl, Chg.refl _ _⟩, ?_⟩
        refine ⟨.pointer (some ⟨b5, 1, none⟩), fun _ uw169 hC170 _ => Gives.run rfl (r_fieldAddr (off' := 1) fld108_1 (by decide) (b := b5) (off := 0) rfl (by omega)) ⟨rfl, Chg.refl _ _⟩, ?_⟩
        refine ⟨.slice (ownA kb) 256 cb, fun _ uw171 hC172 _ => Gives.run rfl (r_loadC (v := .slice (ownA kb) 256 cb) one27 ((H136.ext hC172).get (k := 3) rfl) (off := 1) rfl (by rfl)) ⟨rfl, Chg.refl _ _⟩, ?_⟩
        refine ⟨.slice (ownA key127) (0 + 4) c128, fun _ uw173 hC174 _ => Gives.run rfl (r_move (v := .slice (ownA key127) (0 + 4) c128) rfl) ⟨rfl, Chg.refl _ _⟩, ?_⟩
        refine ⟨.pointer (adr (ownA key127) (3 * 1)), fun _ uw175 hC176 _ => Gives.run rfl (r_idxS (E := E8) (l := expS ((expR kl bx k).1) k) (j := 3) sli27 ((H136.ext hC176).rd (k := 0) rfl hS135) rfl rfl (by first | rfl | omega | (simp; omega)) (by exact hls.symm) (by omega)) ⟨rfl, Chg.refl _ _⟩, ?_⟩
        refine ⟨u8 ((expS ((expR kl bx k).1) k).getD 3 0#8), fun _ uw177 hC178 _ => Gives.run rfl (r_ldS (E := E8) (l := expS ((expR kl bx k).1) k) (j := 3) (v := (expS ((expR kl bx k).1) k).getD 3 0#8) fits5 ((H136.ext hC178).rd (k := 0) rfl hS135) rfl rfl (at_getD (by omega))) ⟨rfl, Chg.refl _ _⟩, ?_⟩
        refine ⟨.pointer (adr (ownA kb) ((((expS ((expR kl bx k).1) k).getD 3 0#8).toNat) * 1)), fun _ uw179 hC180 _ => Gives.run rfl (r_idxS (E := E8) (l := bx) (j := ((expS ((expR kl bx k).1) k).getD 3 0#8).toNat) sli27 ((H136.ext hC180).rd (k := 1) rfl hSb) rfl rfl (by first | rfl | omega | (simp; omega)) (by omega) (by have := ((expS ((expR kl bx k).1) k).getD 3 0#8).isLt; omega)) ⟨rfl, Chg.refl _ _⟩, ?_⟩
        refine ⟨u8 ((bx).getD (((expS ((expR kl bx k).1) k).getD 3 0#8).toNat) 0#8), fun _ uw181 hC182 _ => Gives.run rfl (r_ldS (E := E8) (l := bx) (j := ((expS ((expR kl bx k).1) k).getD 3 0#8).toNat) (v := (bx).getD (((expS ((expR kl bx k).1) k).getD 3 0#8).toNat) 0#8) fits5 ((H136.ext hC182).rd (k := 1) rfl hSb) rfl rfl (at_getD (by have := ((expS ((expR kl bx k).1) k).getD 3 0#8).isLt; omega))) ⟨rfl, Chg.refl _ _⟩, ?_⟩
        refine ⟨.pointer (some ⟨b5, 1, none⟩), fun _ uw183 hC184 _ => Gives.run rfl (r_fieldAddr (off' := 1) fld108_1 (by decide) (b := b5) (off := 0) rfl (by omega)) ⟨rfl, Chg.refl _ _⟩, ?_⟩
        refine ⟨.slice (ownA kb) 256 cb, fun _ uw185 hC186 _ => Gives.run rfl (r_loadC (v := .slice (ownA kb) 256 cb) one27 ((H136.ext hC186).get (k := 3) rfl) (off := 1) rfl (by rfl)) ⟨rfl, Chg.refl _ _⟩, ?_⟩
        refine ⟨.slice (ownA key127) (0 + 4) c128, fun _ uw187 hC188 _ => Gives.run rfl (r_move (v := .slice (ownA key127) (0 + 4) c128) rfl) ⟨rfl, Chg.refl _ _⟩, ?_⟩
        refine ⟨.pointer (adr (ownA key127) (0 * 1)), fun _ uw189 hC190 _ => Gives.run rfl (r_idxS (E := E8) (l := expS ((expR kl bx k).1) k) (j := 0) sli27 ((H136.ext hC190).rd (k := 0) rfl hS135) rfl rfl (by first | rfl | omega | (simp; omega)) (by exact hls.symm) (by omega)) ⟨rfl, Chg.refl _ _⟩, ?_⟩
        refine ⟨u8 ((expS ((expR kl bx k).1) k).getD 0 0#8), fun _ uw191 hC192 _ => Gives.run rfl (r_ldS (E := E8) (l := expS ((expR kl bx k).1) k) (j := 0) (v := (expS ((expR kl bx k).1) k).getD 0 0#8) fits5 ((H136.ext hC192).rd (k := 0) rfl hS135) rfl rfl (at_getD (by omega))) ⟨rfl, Chg.refl _ _⟩, ?_⟩
        refine ⟨.pointer (adr (ownA kb) ((((expS ((expR kl bx k).1) k).getD 0 0#8).toNat) * 1)), fun _ uw193 hC194 _ => Gives.run rfl (r_idxS (E := E8) (l := bx) (j := ((expS ((expR kl bx k).1) k).getD 0 0#8).toNat) sli27 ((H136.ext hC194).rd (k := 1) rfl hSb) rfl rfl (by first | rfl | omega | (simp; omega)) (by omega) (by have := ((expS ((expR kl bx k).1) k).getD 0 0#8).isLt; omega)) ⟨rfl, Chg.refl _ _⟩, ?_⟩
        refine ⟨u8 ((bx).getD (((expS ((expR kl bx k).1) k).getD 0 0#8).toNat) 0#8), fun _ uw195 hC196 _ => Gives.run rfl (r_ldS (E := E8) (l := bx) (j := ((expS ((expR kl bx k).1) k).getD 0 0#8).toNat) (v := (bx).getD (((expS ((expR kl bx k).1) k).getD 0 0#8).toNat) 0#8) fits5 ((H136.ext hC196).rd (k := 1) rfl hSb) rfl rfl (at_getD (by have := ((expS ((expR kl bx k).1) k).getD 0 0#8).isLt; omega))) ⟨rfl, Chg.refl _ _⟩, ?_⟩
        refine ⟨fun r uw197 hC198 hF => bsGives (E := E8) (l := [((bx).getD (((expS ((expR kl bx k).1) k).getD 1 0#8).toNat) 0#8) ^^^ ((expR kl bx k).2), (bx).getD (((expS ((expR kl bx k).1) k).getD 2 0#8).toNat) 0#8, (bx).getD (((expS ((expR kl bx k).1) k).getD 3 0#8).toNat) 0#8, (bx).getD (((expS ((expR kl bx k).1) k).getD 0 0#8).toNat) 0#8]) sli27 zer5 (Nat.le_of_ble_eq_true rfl) (ps := [(0, u8 (((bx).getD (((expS ((expR kl bx k).1) k).getD 1 0#8).toNat) 0#8) ^^^ ((expR kl bx k).2))), (1, u8 ((bx).getD (((expS ((expR kl bx k).1) k).getD 2 0#8).toNat) 0#8)), (2, u8 ((bx).getD (((expS ((expR kl bx k).1) k).getD 3 0#8).toNat) 0#8)), (3, u8 ((bx).getD (((expS ((expR kl bx k).1) k).getD 0 0#8).toNat) 0#8))]) rfl (by exact fillAll rfl rfl) hC198.size (fun _ h => h), ?_⟩
        intro r202 w199 hE201 hF
        have H200 := H136.ext hE201
        obtain ⟨key206, e203, hS204, H205⟩ := Hp.ownBs H136 hE201 (by rfl) (Nat.le_of_ble_eq_true rfl) (hF 30 _ rfl)
        dsimp only
        rw [e203]
        refine sq (r_assign (v := .slice (ownA key206) 4 4) rfl) ?_
        have e209 : [((bx).getD (((expS ((expR kl bx k).1) k).getD 1 0#8).toNat) 0#8) ^^^ ((expR kl bx k).2), (bx).getD (((expS ((expR kl bx k).1) k).getD 2 0#8).toNat) 0#8, (bx).getD (((expS ((expR kl bx k).1) k).getD 3 0#8).toNat) 0#8, (bx).getD (((expS ((expR kl bx k).1) k).getD 0 0#8).toNat) 0#8] = expT bx (expR kl bx k).1 (expR kl bx k).2 k := by rw [expT, if_pos (by omega)]
        have hS210 := hS204
        rw [e209] at hS210
        have H211 := H205.as (L' := [(key206, sob E8 5 (expT bx (expR kl bx k).1 (expR kl bx k).2 k) ([])), (key127, sob E8 5 (expS ((expR kl bx k).1) k) sp129), (kb, sob E8 5 bx spb), (kk, sob E8 5 ((expR kl bx k).1) ksp), (some b5, .cells #[.slice (ownA kk) (16 + 4 * k) kc, .slice (ownA kb) 256 cb] 108 (0, 0)), (some b1, .cells #[.slice none 0 0, .slice none 0 0] 108 (0, 0))]) (by rw [e209])
        refine wnil ?_
        refine thenNormal ?_
        refine oneRegion ?_
        refine sq (r_move (v := u8 ((expR kl bx k).2)) rfl) ?_
        refine c_call (vs := [u8 ((expR kl bx k).2), u8 (2#8)]) call81 rfl (times_ok ((expR kl bx k).2) (2#8) w199) ?_
        rintro _ w212 ⟨rfl, hE213⟩
        have H214 := H211.ext hE213
        refine sq (r_assign (v := u8 (gm ((expR kl bx k).2) (2#8))) rfl) ?_
        refine wnil ?_
        refine thenNormal ?_
        refine seqRegion ?_
        refine sq (r_assign (v := i64 ((0 : Int))) rfl) ?_
        have hlt : (expT bx (expR kl bx k).1 (expR kl bx k).2 k).length = 4 := by rw [expT]; first | rw [if_pos (by omega)]; rfl | rw [if_neg (by omega)]; exact expS_len _ _ hl
        refine wend ?_
        refine blockAny ?_
        refine loopAny (σ := Nat × Option Nat × Nat × List Value) (fun (q, k2, c2, sp2) => [(0, .slice xq 16 cq), (2, .pointer (some ⟨b1, 0, none⟩)), (3, .pointer (some ⟨b5, 0, none⟩)), (5, u8 (gm ((expR kl bx k).2) (2#8))), (6, i64 ((k + 4 : Nat))), (7, .slice (ownA key206) 4 4), (8, i64 ((q : Nat)))]) (fun (q, k2, c2, sp2) w' => q ≤ 4 ∧ Sl E8 k2 (expI ((expR kl bx k).1) (expT bx (expR kl bx k).1 (expR kl bx k).2 k) k q) c2 sp2 ∧ Hp No w w' [(key206, sob E8 5 (expT bx (expR kl bx k).1 (expR kl bx k).2 k) ([])), (key127, sob E8 5 (expS ((expR kl bx k).1) k) sp129), (kb, sob E8 5 bx spb), (k2, sob E8 5 (expI ((expR kl bx k).1) (expT bx (expR kl bx k).1 (expR kl bx k).2 k) k q) sp2), (some b5, .cells #[.slice (ownA k2) (16 + 4 * k + q) c2, .slice (ownA kb) 256 cb] 108 (0, 0)), (some b1, .cells #[.slice none 0 0, .slice none 0 0] 108 (0, 0))]) (fun (q, k2, c2, sp2) => 4 - q) ((0, kk, kc, ksp)) ?_ ?_ ?_
        · exact ⟨rfl, rfl, rfl, rfl, rfl, rfl, rfl, trivial⟩
        · exact ⟨by omega, hSk, H214⟩
        rintro ⟨q, k2, c2, sp2⟩ ρ w215 ⟨hq, hS2, HL2⟩
        have hl2 := expI_len ((expR kl bx k).1) (expT bx (expR kl bx k).1 (expR kl bx k).2 k) k q
        rw [hl] at hl2
        refine seqAny ?_
        refine seqRegion ?_
        refine sq (r_move (v := i64 ((q : Nat))) rfl) ?_
        refine sq (r_lssI (a := (q : Nat)) (b := (4 : Int)) rfl rfl) ?_
        refine wend ?_
        refine condProp (((q : Nat) : Int) < (4 : Int)) rfl (fun hk79 => ?_) (fun hk79 => ?_)
        · skip
          refine skipAny ?_
          refine thenNormal ?_
          refine seqAny ?_
          refine blockAny ?_
          refine drawAny (K := [none, none, none, none, none, none, none, none, none, none, none, none, none, none, none, none, some (bsRel E8 5 [((expI ((expR kl bx k).1) (expT bx (expR kl bx k).1 (expR kl bx k).2 k) k q).getD (4 * k + q) 0#8) ^^^ ((expT bx (expR kl bx k).1 (expR kl bx k).2 k).getD q 0#8)] 1 w215), some (appRel E8 5 k2 (expI ((expR kl bx k).1) (expT bx (expR kl bx k).1 (expR kl bx k).2 k) k q) ([((expI ((expR kl bx k).1) (expT bx (expR kl bx k).1 (expR kl bx k).2 k) k q).getD (4 * k + q) 0#8) ^^^ ((expT bx (expR kl bx k).1 (expR kl bx k).2 k).getD q 0#8)]) ((16 + 4 * k + q) + 1) w215), none]) [0, 1, 0, 4, 0, 16, 48, 0, 240, 508, 1020, 0, 0, 6144, 14336, 32764, 65532, 131071, 262143, 524287] (AppC k2 (sob E8 5 (expI ((expR kl bx k).1) (expT bx (expR kl bx k).1 (expR kl bx k).2 k) k q) sp2) (ob2 E8 5 (expI ((expR kl bx k).1) (expT bx (expR kl bx k).1 (expR kl bx k).2 k) k q) ([((expI ((expR kl bx k).1) (expT bx (expR kl bx k).1 (expR kl bx k).2 k) k q).getD (4 * k + q) 0#8) ^^^ ((expT bx (expR kl bx k).1 (expR kl bx k).2 k).getD q 0#8)]) c2 sp2) w215) (AppR k2 (sob E8 5 (expI ((expR kl bx k).1) (expT bx (expR kl bx k).1 (expR kl bx k).2 k) k q) sp2) (ob2 E8 5 (expI ((expR kl bx k).1) (expT bx (expR kl bx k).1 (expR kl bx k).2 k) k q) ([((expI ((expR kl bx k).1) (expT bx (expR kl bx k).1 (expR kl bx k).2 k) k q).getD (4 * k + q) 0#8) ^^^ ((expT bx (expR kl bx k).1 (expR kl bx k).2 k).getD q 0#8)]) c2 sp2)) mixed (by kernel_rfl) (AppC.drew fun g hg => HL2.has _ (List.mem_of_getElem? (i := 3) rfl) g hg) AppC.trans ?_ ?_
          · exact relAll ⟨⟨fun _ _ _ _ _ hR h => bsRel_app (fun g hg => HL2.lt (List.mem_of_getElem? (i := 3) rfl) hg) hR h, fun _ _ _ _ _ h => h⟩, ⟨fun _ _ _ _ _ hR h => appRel_stable hR h, fun _ _ _ _ _ h => h⟩, trivial⟩
          refine ⟨.pointer (some ⟨b5, 0, none⟩), fun _ uw217 hC218 _ => Gives.run rfl (r_fieldAddr (off' := 0) fld108_0 (by decide) (b := b5) (off := 0) rfl (by omega)) ⟨rfl, AppR.refl⟩, ?_⟩
          refine ⟨.slice (ownA k2) (16 + 4 * k + q) c2, fun _ uw222 hC223 _ => ?_, ?_⟩
          · obtain ⟨sp224, H225, hS226, _⟩ := hC223.hp HL2 (k := 3) rfl hS2
            exact Gives.run rfl (r_loadC (v := .slice (ownA k2) (16 + 4 * k + q) c2) one27 (H225.get (k := 4) rfl) (off := 0) rfl (by rfl)) ⟨rfl, AppR.refl⟩
          refine ⟨.pointer (some ⟨b5, 0, none⟩), fun _ uw227 hC228 _ => Gives.run rfl (r_fieldAddr (off' := 0) fld108_0 (by decide) (b := b5) (off := 0) rfl (by omega)) ⟨rfl, AppR.refl⟩, ?_⟩
          refine ⟨.slice (ownA k2) (16 + 4 * k + q) c2, fun _ uw232 hC233 _ => ?_, ?_⟩
          · obtain ⟨sp234, H235, hS236, _⟩ := hC233.hp HL2 (k := 3) rfl hS2
            exact Gives.run rfl (r_loadC (v := .slice (ownA k2) (16 + 4 * k + q) c2) one27 (H235.get (k := 4) rfl) (off := 0) rfl (by rfl)) ⟨rfl, AppR.refl⟩
          refine ⟨i64 ((k + 4 : Nat)), fun _ uw237 hC238 _ => Gives.run rfl (r_move (v := i64 ((k + 4 : Nat))) rfl) ⟨rfl, AppR.refl⟩, ?_⟩
          refine ⟨i64 ((4 : Int) * (k + 4 : Nat)), fun _ uw242 hC243 _ => Gives.run rfl (r_mulI (a := (4 : Int)) (b := (k + 4 : Nat)) rfl rfl (by omega)) ⟨rfl, AppR.refl⟩, ?_⟩
          refine ⟨i64 (((4 : Int) * (k + 4 : Nat)) - (16 : Int)), fun _ uw247 hC248 _ => Gives.run rfl (r_subI (a := (4 : Int) * (k + 4 : Nat)) (b := (16 : Int)) rfl rfl (by omega)) ⟨rfl, AppR.refl⟩, ?_⟩
          refine ⟨i64 ((q : Nat)), fun _ uw252 hC253 _ => Gives.run rfl (r_move (v := i64 ((q : Nat))) rfl) ⟨rfl, AppR.refl⟩, ?_⟩
          refine ⟨i64 ((((4 : Int) * (k + 4 : Nat)) - (16 : Int)) + (q : Nat)), fun _ uw257 hC258 _ => Gives.run rfl (r_addI (a := ((4 : Int) * (k + 4 : Nat)) - (16 : Int)) (b := (q : Nat)) rfl rfl (by omega)) ⟨rfl, AppR.refl⟩, ?_⟩
          refine ⟨.pointer (adr (ownA k2) ((4 * k + q) * 1)), fun _ uw262 hC263 _ => ?_, ?_⟩
          · obtain ⟨sp264, H265, hS266, _⟩ := hC263.hp HL2 (k := 3) rfl hS2
            exact Gives.run rfl (r_idxS (E := E8) (l := expI ((expR kl bx k).1) (expT bx (expR kl bx k).1 (expR kl bx k).2 k) k q) (j := 4 * k + q) sli27 (H265.rd (k := 3) rfl hS266) rfl rfl (by first | rfl | omega | (simp; omega)) (by omega) (by omega)) ⟨rfl, AppR.refl⟩
          refine ⟨u8 ((expI ((expR kl bx k).1) (expT bx (expR kl bx k).1 (expR kl bx k).2 k) k q).getD (4 * k + q) 0#8), fun _ uw267 hC268 _ => ?_, ?_⟩
          · obtain ⟨sp269, H270, hS271, _⟩ := hC268.hp HL2 (k := 3) rfl hS2
            exact Gives.run rfl (r_ldS (E := E8) (l := expI ((expR kl bx k).1) (expT bx (expR kl bx k).1 (expR kl bx k).2 k) k q) (j := 4 * k + q) (v := (expI ((expR kl bx k).1) (expT bx (expR kl bx k).1 (expR kl bx k).2 k) k q).getD (4 * k + q) 0#8) fits5 (H270.rd (k := 3) rfl hS271) rfl rfl (at_getD (by omega))) ⟨rfl, AppR.refl⟩
          refine ⟨.slice (ownA key206) 4 4, fun _ uw272 hC273 _ => Gives.run rfl (r_move (v := .slice (ownA key206) 4 4) rfl) ⟨rfl, AppR.refl⟩, ?_⟩
          refine ⟨i64 ((q : Nat)), fun _ uw277 hC278 _ => Gives.run rfl (r_move (v := i64 ((q : Nat))) rfl) ⟨rfl, AppR.refl⟩, ?_⟩
          refine ⟨.pointer (adr (ownA key206) (q * 1)), fun _ uw282 hC283 _ => ?_, ?_⟩
          · obtain ⟨sp284, H285, hS286, _⟩ := hC283.hp HL2 (k := 3) rfl hS2
            exact Gives.run rfl (r_idxS (E := E8) (l := expT bx (expR kl bx k).1 (expR kl bx k).2 k) (j := q) sli27 (H285.rd (k := 0) rfl hS210) rfl rfl (by first | rfl | omega | (simp; omega)) (by exact hlt.symm) (by omega)) ⟨rfl, AppR.refl⟩
          refine ⟨u8 ((expT bx (expR kl bx k).1 (expR kl bx k).2 k).getD q 0#8), fun _ uw287 hC288 _ => ?_, ?_⟩
          · obtain ⟨sp289, H290, hS291, _⟩ := hC288.hp HL2 (k := 3) rfl hS2
            exact Gives.run rfl (r_ldS (E := E8) (l := expT bx (expR kl bx k).1 (expR kl bx k).2 k) (j := q) (v := (expT bx (expR kl bx k).1 (expR kl bx k).2 k).getD q 0#8) fits5 (H290.rd (k := 0) rfl hS210) rfl rfl (at_getD (by omega))) ⟨rfl, AppR.refl⟩
          refine ⟨u8 (((expI ((expR kl bx k).1) (expT bx (expR kl bx k).1 (expR kl bx k).2 k) k q).getD (4 * k + q) 0#8) ^^^ ((expT bx (expR kl bx k).1 (expR kl bx k).2 k).getD q 0#8)), fun _ uw292 hC293 _ => Gives.run rfl (r_xor8 (a := (expI ((expR kl bx k).1) (expT bx (expR kl bx k).1 (expR kl bx k).2 k) k q).getD (4 * k + q) 0#8) (b := (expT bx (expR kl bx k).1 (expR kl bx k).2 k).getD q 0#8) rfl rfl) ⟨rfl, AppR.refl⟩, ?_⟩
          refine ⟨fun r uw297 hC298 hF => bsGives (E := E8) (l := [((expI ((expR kl bx k).1) (expT bx (expR kl bx k).1 (expR kl bx k).2 k) k q).getD (4 * k + q) 0#8) ^^^ ((expT bx (expR kl bx k).1 (expR kl bx k).2 k).getD q 0#8)]) sli27 zer5 (Nat.le_of_ble_eq_true rfl) (ps := [(0, u8 (((expI ((expR kl bx k).1) (expT bx (expR kl bx k).1 (expR kl bx k).2 k) k q).getD (4 * k + q) 0#8) ^^^ ((expT bx (expR kl bx k).1 (expR kl bx k).2 k).getD q 0#8)))]) rfl (by exact fillAll rfl rfl) hC298.1.size (fun _ h => AppR.ext h), ?_⟩
          refine ⟨fun r uw299 hC300 hF => ?_, ?_⟩
          · obtain ⟨sp304, H305, hS306, _⟩ := hC300.hp HL2 (k := 3) rfl hS2
            obtain ⟨b303, e301, _, h302⟩ := hF 16 _ rfl rfl
            exact appGives hC300 HL2 (k := 3) rfl hS2 sli27 zer5 rfl byt5 (Rd.row h302) rfl (by omega) e301 (by rfl) (by omega)
          refine ⟨.pointer (some ⟨b5, 0, none⟩), fun _ uw307 hC308 _ => Gives.run rfl (r_fieldAddr (off' := 0) fld108_0 (by decide) (b := b5) (off := 0) rfl (by omega)) ⟨rfl, AppR.refl⟩, ?_⟩
          intro r315 w312 hE314 hF
          obtain ⟨key316, c317, sp318, e319, hS320, hne321, hk322⟩ := hF 17 _ rfl
          have H313 := (HL2.turn (k := 3) rfl hE314.1 hk322).as (L' := [(key206, sob E8 5 (expT bx (expR kl bx k).1 (expR kl bx k).2 k) ([])), (key127, sob E8 5 (expS ((expR kl bx k).1) k) sp129), (kb, sob E8 5 bx spb), (key316, sob E8 5 ((expI ((expR kl bx k).1) (expT bx (expR kl bx k).1 (expR kl bx k).2 k) k q) ++ ([((expI ((expR kl bx k).1) (expT bx (expR kl bx k).1 (expR kl bx k).2 k) k q).getD (4 * k + q) 0#8) ^^^ ((expT bx (expR kl bx k).1 (expR kl bx k).2 k).getD q 0#8)])) sp318), (some b5, .cells #[.slice (ownA k2) (16 + 4 * k + q) c2, .slice (ownA kb) 256 cb] 108 (0, 0)), (some b1, .cells #[.slice none 0 0, .slice none 0 0] 108 (0, 0))]) rfl
          dsimp only
          rw [e319]
          have e323 : (expI ((expR kl bx k).1) (expT bx (expR kl bx k).1 (expR kl bx k).2 k) k q) ++ ([((expI ((expR kl bx k).1) (expT bx (expR kl bx k).1 (expR kl bx k).2 k) k q).getD (4 * k + q) 0#8) ^^^ ((expT bx (expR kl bx k).1 (expR kl bx k).2 k).getD q 0#8)]) = expI ((expR kl bx k).1) (expT bx (expR kl bx k).1 (expR kl bx k).2 k) k (q + 1) := by rw [expI]
          have hS324 := hS320
          rw [e323] at hS324
          have H325 := H313.as (L' := [(key206, sob E8 5 (expT bx (expR kl bx k).1 (expR kl bx k).2 k) ([])), (key127, sob E8 5 (expS ((expR kl bx k).1) k) sp129), (kb, sob E8 5 bx spb), (key316, sob E8 5 (expI ((expR kl bx k).1) (expT bx (expR kl bx k).1 (expR kl bx k).2 k) k (q + 1)) sp318), (some b5, .cells #[.slice (ownA k2) (16 + 4 * k + q) c2, .slice (ownA kb) 256 cb] 108 (0, 0)), (some b1, .cells #[.slice none 0 0, .slice none 0 0] 108 (0, 0))]) (by rw [e323])
          refine d_store (k := 4) (v := .slice (ownA key316) ((16 + 4 * k + q) + 1) c317) (cs' := #[.slice (ownA key316) ((16 + 4 * k + q) + 1) c317, .slice (ownA kb) 256 cb]) H325 rfl rfl rfl siz27 (by rfl) (by intro u hu; simp [Value.cells] at hu; first | (subst hu; rfl) | (rcases hu with rfl <;> rfl)) (by exact Nat.le_of_ble_eq_true rfl) (by rfl) ?_
          intro w326 H327 hC328
          have H327' := H327.as (L' := [(key206, sob E8 5 (expT bx (expR kl bx k).1 (expR kl bx k).2 k) ([])), (key127, sob E8 5 (expS ((expR kl bx k).1) k) sp129), (kb, sob E8 5 bx spb), (key316, sob E8 5 (expI ((expR kl bx k).1) (expT bx (expR kl bx k).1 (expR kl bx k).2 k) k (q + 1)) sp318), (some b5, .cells #[.slice (ownA key316) ((16 + 4 * k + q) + 1) c317, .slice (ownA kb) 256 cb] 108 (0, 0)), (some b1, .cells #[.slice none 0 0, .slice none 0 0] 108 (0, 0))]) rfl
          clear H327
          refine wnil ?_
          refine blockNormal ?_
          refine thenNormal ?_
          refine oneRegion ?_
          refine sq (r_move (v := i64 ((q : Nat))) rfl) ?_
          refine sq (r_addI (a := (q : Nat)) (b := (1 : Int)) rfl rfl (by omega)) ?_
          refine sq (r_assign (v := i64 ((q : Nat) + (1 : Int))) rfl) ?_
          refine wnil ?_
          refine thenNormal ?_
          exact ⟨(q + 1, key316, c317, sp318), _, rfl, ⟨rfl, rfl, rfl, rfl, rfl, rfl, rfl, trivial⟩, ⟨by omega, hS324, H327'⟩, by show 4 - (q + 1) < 4 - q; omega⟩
        · skip
          obtain rfl : q = 4 := by omega
          refine exitAny ?_
          refine thenExit ?_
          refine thenExit ?_
          refine blockHere ?_
          refine blockNormal ?_
          refine thenNormal ?_
          refine oneRegion ?_
          refine sq (r_move (v := i64 ((k + 4 : Nat))) rfl) ?_
          refine sq (r_addI (a := (k + 4 : Nat)) (b := (1 : Int)) rfl rfl (by omega)) ?_
          refine sq (r_assign (v := i64 ((k + 4 : Nat) + (1 : Int))) rfl) ?_
          refine wnil ?_
          refine thenNormal ?_
          have e329 : expI ((expR kl bx k).1) (expT bx (expR kl bx k).1 (expR kl bx k).2 k) k 4 = (expR kl bx (k + 1)).1 := by rw [expR]
          have hS330 := hS2
          rw [e329] at hS330
          have H331 := HL2.as (L' := [(key206, sob E8 5 (expT bx (expR kl bx k).1 (expR kl bx k).2 k) ([])), (key127, sob E8 5 (expS ((expR kl bx k).1) k) sp129), (kb, sob E8 5 bx spb), (k2, sob E8 5 ((expR kl bx (k + 1)).1) sp2), (some b5, .cells #[.slice (ownA k2) (16 + 4 * k + 4) c2, .slice (ownA kb) 256 cb] 108 (0, 0)), (some b1, .cells #[.slice none 0 0, .slice none 0 0] 108 (0, 0))]) (by rw [e329])
          rw [show 16 + 4 * k + 4 = 16 + 4 * (k + 1) by omega] at H331
          exact ⟨(k + 1, k2, c2, sp2), _, rfl, ⟨rfl, rfl, rfl, congrArg u8 (by rw [expR]; dsimp only; rw [if_pos (by omega)]), congrArg i64 (by omega), trivial⟩, ⟨by omega, hS330, ((H331.dropk 1).dropk 0)⟩, by show 40 - (k + 1) < 40 - k; omega⟩
      · skip
        have e332 : expS ((expR kl bx k).1) k = expT bx (expR kl bx k).1 (expR kl bx k).2 k := by rw [expT, if_neg (by omega)]
        have hS333 := hS135
        rw [e332] at hS333
        have H334 := H136.as (L' := [(key127, sob E8 5 (expT bx (expR kl bx k).1 (expR kl bx k).2 k) sp129), (kb, sob E8 5 bx spb), (kk, sob E8 5 ((expR kl bx k).1) ksp), (some b5, .cells #[.slice (ownA kk) (16 + 4 * k) kc, .slice (ownA kb) 256 cb] 108 (0, 0)), (some b1, .cells #[.slice none 0 0, .slice none 0 0] 108 (0, 0))]) (by rw [e332])
        refine skipAny ?_
        refine thenNormal ?_
        refine seqRegion ?_
        refine sq (r_assign (v := i64 ((0 : Int))) rfl) ?_
        have hlt : (expT bx (expR kl bx k).1 (expR kl bx k).2 k).length = 4 := by rw [expT]; first | rw [if_pos (by omega)]; rfl | rw [if_neg (by omega)]; exact expS_len _ _ hl
        refine wend ?_
        refine blockAny ?_
        refine loopAny (σ := Nat × Option Nat × Nat × List Value) (fun (q, k2, c2, sp2) => [(0, .slice xq 16 cq), (2, .pointer (some ⟨b1, 0, none⟩)), (3, .pointer (some ⟨b5, 0, none⟩)), (5, u8 ((expR kl bx k).2)), (6, i64 ((k + 4 : Nat))), (7, .slice (ownA key127) (0 + 4) c128), (8, i64 ((q : Nat)))]) (fun (q, k2, c2, sp2) w' => q ≤ 4 ∧ Sl E8 k2 (expI ((expR kl bx k).1) (expT bx (expR kl bx k).1 (expR kl bx k).2 k) k q) c2 sp2 ∧ Hp No w w' [(key127, sob E8 5 (expT bx (expR kl bx k).1 (expR kl bx k).2 k) sp129), (kb, sob E8 5 bx spb), (k2, sob E8 5 (expI ((expR kl bx k).1) (expT bx (expR kl bx k).1 (expR kl bx k).2 k) k q) sp2), (some b5, .cells #[.slice (ownA k2) (16 + 4 * k + q) c2, .slice (ownA kb) 256 cb] 108 (0, 0)), (some b1, .cells #[.slice none 0 0, .slice none 0 0] 108 (0, 0))]) (fun (q, k2, c2, sp2) => 4 - q) ((0, kk, kc, ksp)) ?_ ?_ ?_
        · exact ⟨rfl, rfl, rfl, rfl, rfl, rfl, rfl, trivial⟩
        · exact ⟨by omega, hSk, H334⟩
        rintro ⟨q, k2, c2, sp2⟩ ρ w335 ⟨hq, hS2, HL2⟩
        have hl2 := expI_len ((expR kl bx k).1) (expT bx (expR kl bx k).1 (expR kl bx k).2 k) k q
        rw [hl] at hl2
        refine seqAny ?_
        refine seqRegion ?_
        refine sq (r_move (v := i64 ((q : Nat))) rfl) ?_
        refine sq (r_lssI (a := (q : Nat)) (b := (4 : Int)) rfl rfl) ?_
        refine wend ?_
        refine condProp (((q : Nat) : Int) < (4 : Int)) rfl (fun hk79 => ?_) (fun hk79 => ?_)
        · skip
          refine skipAny ?_
          refine thenNormal ?_
          refine seqAny ?_
          refine blockAny ?_
          refine drawAny (K := [none, none, none, none, none, none, none, none, none, none, none, none, none, none, none, none, some (bsRel E8 5 [((expI ((expR kl bx k).1) (expT bx (expR kl bx k).1 (expR kl bx k).2 k) k q).getD (4 * k + q) 0#8) ^^^ ((expT bx (expR kl bx k).1 (expR kl bx k).2 k).getD q 0#8)] 1 w335), some (appRel E8 5 k2 (expI ((expR kl bx k).1) (expT bx (expR kl bx k).1 (expR kl bx k).2 k) k q) ([((expI ((expR kl bx k).1) (expT bx (expR kl bx k).1 (expR kl bx k).2 k) k q).getD (4 * k + q) 0#8) ^^^ ((expT bx (expR kl bx k).1 (expR kl bx k).2 k).getD q 0#8)]) ((16 + 4 * k + q) + 1) w335), none]) [0, 1, 0, 4, 0, 16, 48, 0, 240, 508, 1020, 0, 0, 6144, 14336, 32764, 65532, 131071, 262143, 524287] (AppC k2 (sob E8 5 (expI ((expR kl bx k).1) (expT bx (expR kl bx k).1 (expR kl bx k).2 k) k q) sp2) (ob2 E8 5 (expI ((expR kl bx k).1) (expT bx (expR kl bx k).1 (expR kl bx k).2 k) k q) ([((expI ((expR kl bx k).1) (expT bx (expR kl bx k).1 (expR kl bx k).2 k) k q).getD (4 * k + q) 0#8) ^^^ ((expT bx (expR kl bx k).1 (expR kl bx k).2 k).getD q 0#8)]) c2 sp2) w335) (AppR k2 (sob E8 5 (expI ((expR kl bx k).1) (expT bx (expR kl bx k).1 (expR kl bx k).2 k) k q) sp2) (ob2 E8 5 (expI ((expR kl bx k).1) (expT bx (expR kl bx k).1 (expR kl bx k).2 k) k q) ([((expI ((expR kl bx k).1) (expT bx (expR kl bx k).1 (expR kl bx k).2 k) k q).getD (4 * k + q) 0#8) ^^^ ((expT bx (expR kl bx k).1 (expR kl bx k).2 k).getD q 0#8)]) c2 sp2)) mixed (by kernel_rfl) (AppC.drew fun g hg => HL2.has _ (List.mem_of_getElem? (i := 2) rfl) g hg) AppC.trans ?_ ?_
          · exact relAll ⟨⟨fun _ _ _ _ _ hR h => bsRel_app (fun g hg => HL2.lt (List.mem_of_getElem? (i := 2) rfl) hg) hR h, fun _ _ _ _ _ h => h⟩, ⟨fun _ _ _ _ _ hR h => appRel_stable hR h, fun _ _ _ _ _ h => h⟩, trivial⟩
          refine ⟨.pointer (some ⟨b5, 0, none⟩), fun _ uw337 hC338 _ => Gives.run rfl (r_fieldAddr (off' := 0) fld108_0 (by decide) (b := b5) (off := 0) rfl (by omega)) ⟨rfl, AppR.refl⟩, ?_⟩
          refine ⟨.slice (ownA k2) (16 + 4 * k + q) c2, fun _ uw342 hC343 _ => ?_, ?_⟩
          · obtain ⟨sp344, H345, hS346, _⟩ := hC343.hp HL2 (k := 2) rfl hS2
            exact Gives.run rfl (r_loadC (v := .slice (ownA k2) (16 + 4 * k + q) c2) one27 (H345.get (k := 3) rfl) (off := 0) rfl (by rfl)) ⟨rfl, AppR.refl⟩
          refine ⟨.pointer (some ⟨b5, 0, none⟩), fun _ uw347 hC348 _ => Gives.run rfl (r_fieldAddr (off' := 0) fld108_0 (by decide) (b := b5) (off := 0) rfl (by omega)) ⟨rfl, AppR.refl⟩, ?_⟩
          refine ⟨.slice (ownA k2) (16 + 4 * k + q) c2, fun _ uw352 hC353 _ => ?_, ?_⟩
          · obtain ⟨sp354, H355, hS356, _⟩ := hC353.hp HL2 (k := 2) rfl hS2
            exact Gives.run rfl (r_loadC (v := .slice (ownA k2) (16 + 4 * k + q) c2) one27 (H355.get (k := 3) rfl) (off := 0) rfl (by rfl)) ⟨rfl, AppR.refl⟩
          refine ⟨i64 ((k + 4 : Nat)), fun _ uw357 hC358 _ => Gives.run rfl (r_move (v := i64 ((k + 4 : Nat))) rfl) ⟨rfl, AppR.refl⟩, ?_⟩
          refine ⟨i64 ((4 : Int) * (k + 4 : Nat)), fun _ uw362 hC363 _ => Gives.run rfl (r_mulI (a := (4 : Int)) (b := (k + 4 : Nat)) rfl rfl (by omega)) ⟨rfl, AppR.refl⟩, ?_⟩
          refine ⟨i64 (((4 : Int) * (k + 4 : Nat)) - (16 : Int)), fun _ uw367 hC368 _ => Gives.run rfl (r_subI (a := (4 : Int) * (k + 4 : Nat)) (b := (16 : Int)) rfl rfl (by omega)) ⟨rfl, AppR.refl⟩, ?_⟩
          refine ⟨i64 ((q : Nat)), fun _ uw372 hC373 _ => Gives.run rfl (r_move (v := i64 ((q : Nat))) rfl) ⟨rfl, AppR.refl⟩, ?_⟩
          refine ⟨i64 ((((4 : Int) * (k + 4 : Nat)) - (16 : Int)) + (q : Nat)), fun _ uw377 hC378 _ => Gives.run rfl (r_addI (a := ((4 : Int) * (k + 4 : Nat)) - (16 : Int)) (b := (q : Nat)) rfl rfl (by omega)) ⟨rfl, AppR.refl⟩, ?_⟩
          refine ⟨.pointer (adr (ownA k2) ((4 * k + q) * 1)), fun _ uw382 hC383 _ => ?_, ?_⟩
          · obtain ⟨sp384, H385, hS386, _⟩ := hC383.hp HL2 (k := 2) rfl hS2
            exact Gives.run rfl (r_idxS (E := E8) (l := expI ((expR kl bx k).1) (expT bx (expR kl bx k).1 (expR kl bx k).2 k) k q) (j := 4 * k + q) sli27 (H385.rd (k := 2) rfl hS386) rfl rfl (by first | rfl | omega | (simp; omega)) (by omega) (by omega)) ⟨rfl, AppR.refl⟩
          refine ⟨u8 ((expI ((expR kl bx k).1) (expT bx (expR kl bx k).1 (expR kl bx k).2 k) k q).getD (4 * k + q) 0#8), fun _ uw387 hC388 _ => ?_, ?_⟩
          · obtain ⟨sp389, H390, hS391, _⟩ := hC388.hp HL2 (k := 2) rfl hS2
            exact Gives.run rfl (r_ldS (E := E8) (l := expI ((expR kl bx k).1) (expT bx (expR kl bx k).1 (expR kl bx k).2 k) k q) (j := 4 * k + q) (v := (expI ((expR kl bx k).1) (expT bx (expR kl bx k).1 (expR kl bx k).2 k) k q).getD (4 * k + q) 0#8) fits5 (H390.rd (k := 2) rfl hS391) rfl rfl (at_getD (by omega))) ⟨rfl, AppR.refl⟩
          refine ⟨.slice (ownA key127) (0 + 4) c128, fun _ uw392 hC393 _ => Gives.run rfl (r_move (v := .slice (ownA key127) (0 + 4) c128) rfl) ⟨rfl, AppR.refl⟩, ?_⟩
          refine ⟨i64 ((q : Nat)), fun _ uw397 hC398 _ => Gives.run rfl (r_move (v := i64 ((q : Nat))) rfl) ⟨rfl, AppR.refl⟩, ?_⟩
          refine ⟨.pointer (adr (ownA key127) (q * 1)), fun _ uw402 hC403 _ => ?_, ?_⟩
          · obtain ⟨sp404, H405, hS406, _⟩ := hC403.hp HL2 (k := 2) rfl hS2
            exact Gives.run rfl (r_idxS (E := E8) (l := expT bx (expR kl bx k).1 (expR kl bx k).2 k) (j := q) sli27 (H405.rd (k := 0) rfl hS333) rfl rfl (by first | rfl | omega | (simp; omega)) (by exact hlt.symm) (by omega)) ⟨rfl, AppR.refl⟩
          refine ⟨u8 ((expT bx (expR kl bx k).1 (expR kl bx k).2 k).getD q 0#8), fun _ uw407 hC408 _ => ?_, ?_⟩
          · obtain ⟨sp409, H410, hS411, _⟩ := hC408.hp HL2 (k := 2) rfl hS2
            exact Gives.run rfl (r_ldS (E := E8) (l := expT bx (expR kl bx k).1 (expR kl bx k).2 k) (j := q) (v := (expT bx (expR kl bx k).1 (expR kl bx k).2 k).getD q 0#8) fits5 (H410.rd (k := 0) rfl hS333) rfl rfl (at_getD (by omega))) ⟨rfl, AppR.refl⟩
          refine ⟨u8 (((expI ((expR kl bx k).1) (expT bx (expR kl bx k).1 (expR kl bx k).2 k) k q).getD (4 * k + q) 0#8) ^^^ ((expT bx (expR kl bx k).1 (expR kl bx k).2 k).getD q 0#8)), fun _ uw412 hC413 _ => Gives.run rfl (r_xor8 (a := (expI ((expR kl bx k).1) (expT bx (expR kl bx k).1 (expR kl bx k).2 k) k q).getD (4 * k + q) 0#8) (b := (expT bx (expR kl bx k).1 (expR kl bx k).2 k).getD q 0#8) rfl rfl) ⟨rfl, AppR.refl⟩, ?_⟩
          refine ⟨fun r uw417 hC418 hF => bsGives (E := E8) (l := [((expI ((expR kl bx k).1) (expT bx (expR kl bx k).1 (expR kl bx k).2 k) k q).getD (4 * k + q) 0#8) ^^^ ((expT bx (expR kl bx k).1 (expR kl bx k).2 k).getD q 0#8)]) sli27 zer5 (Nat.le_of_ble_eq_true rfl) (ps := [(0, u8 (((expI ((expR kl bx k).1) (expT bx (expR kl bx k).1 (expR kl bx k).2 k) k q).getD (4 * k + q) 0#8) ^^^ ((expT bx (expR kl bx k).1 (expR kl bx k).2 k).getD q 0#8)))]) rfl (by exact fillAll rfl rfl) hC418.1.size (fun _ h => AppR.ext h), ?_⟩
          refine ⟨fun r uw419 hC420 hF => ?_, ?_⟩
          · obtain ⟨sp424, H425, hS426, _⟩ := hC420.hp HL2 (k := 2) rfl hS2
            obtain ⟨b423, e421, _, h422⟩ := hF 16 _ rfl rfl
            exact appGives hC420 HL2 (k := 2) rfl hS2 sli27 zer5 rfl byt5 (Rd.row h422) rfl (by omega) e421 (by rfl) (by omega)
          refine ⟨.pointer (some ⟨b5, 0, none⟩), fun _ uw427 hC428 _ => Gives.run rfl (r_fieldAddr (off' := 0) fld108_0 (by decide) (b := b5) (off := 0) rfl (by omega)) ⟨rfl, AppR.refl⟩, ?_⟩
          intro r435 w432 hE434 hF
          obtain ⟨key436, c437, sp438, e439, hS440, hne441, hk442⟩ := hF 17 _ rfl
          have H433 := (HL2.turn (k := 2) rfl hE434.1 hk442).as (L' := [(key127, sob E8 5 (expT bx (expR kl bx k).1 (expR kl bx k).2 k) sp129), (kb, sob E8 5 bx spb), (key436, sob E8 5 ((expI ((expR kl bx k).1) (expT bx (expR kl bx k).1 (expR kl bx k).2 k) k q) ++ ([((expI ((expR kl bx k).1) (expT bx (expR kl bx k).1 (expR kl bx k).2 k) k q).getD (4 * k + q) 0#8) ^^^ ((expT bx (expR kl bx k).1 (expR kl bx k).2 k).getD q 0#8)])) sp438), (some b5, .cells #[.slice (ownA k2) (16 + 4 * k + q) c2, .slice (ownA kb) 256 cb] 108 (0, 0)), (some b1, .cells #[.slice none 0 0, .slice none 0 0] 108 (0, 0))]) rfl
          dsimp only
          rw [e439]
          have e443 : (expI ((expR kl bx k).1) (expT bx (expR kl bx k).1 (expR kl bx k).2 k) k q) ++ ([((expI ((expR kl bx k).1) (expT bx (expR kl bx k).1 (expR kl bx k).2 k) k q).getD (4 * k + q) 0#8) ^^^ ((expT bx (expR kl bx k).1 (expR kl bx k).2 k).getD q 0#8)]) = expI ((expR kl bx k).1) (expT bx (expR kl bx k).1 (expR kl bx k).2 k) k (q + 1) := by rw [expI]
          have hS444 := hS440
          rw [e443] at hS444
          have H445 := H433.as (L' := [(key127, sob E8 5 (expT bx (expR kl bx k).1 (expR kl bx k).2 k) sp129), (kb, sob E8 5 bx spb), (key436, sob E8 5 (expI ((expR kl bx k).1) (expT bx (expR kl bx k).1 (expR kl bx k).2 k) k (q + 1)) sp438), (some b5, .cells #[.slice (ownA k2) (16 + 4 * k + q) c2, .slice (ownA kb) 256 cb] 108 (0, 0)), (some b1, .cells #[.slice none 0 0, .slice none 0 0] 108 (0, 0))]) (by rw [e443])
          refine d_store (k := 3) (v := .slice (ownA key436) ((16 + 4 * k + q) + 1) c437) (cs' := #[.slice (ownA key436) ((16 + 4 * k + q) + 1) c437, .slice (ownA kb) 256 cb]) H445 rfl rfl rfl siz27 (by rfl) (by intro u hu; simp [Value.cells] at hu; first | (subst hu; rfl) | (rcases hu with rfl <;> rfl)) (by exact Nat.le_of_ble_eq_true rfl) (by rfl) ?_
          intro w446 H447 hC448
          have H447' := H447.as (L' := [(key127, sob E8 5 (expT bx (expR kl bx k).1 (expR kl bx k).2 k) sp129), (kb, sob E8 5 bx spb), (key436, sob E8 5 (expI ((expR kl bx k).1) (expT bx (expR kl bx k).1 (expR kl bx k).2 k) k (q + 1)) sp438), (some b5, .cells #[.slice (ownA key436) ((16 + 4 * k + q) + 1) c437, .slice (ownA kb) 256 cb] 108 (0, 0)), (some b1, .cells #[.slice none 0 0, .slice none 0 0] 108 (0, 0))]) rfl
          clear H447
          refine wnil ?_
          refine blockNormal ?_
          refine thenNormal ?_
          refine oneRegion ?_
          refine sq (r_move (v := i64 ((q : Nat))) rfl) ?_
          refine sq (r_addI (a := (q : Nat)) (b := (1 : Int)) rfl rfl (by omega)) ?_
          refine sq (r_assign (v := i64 ((q : Nat) + (1 : Int))) rfl) ?_
          refine wnil ?_
          refine thenNormal ?_
          exact ⟨(q + 1, key436, c437, sp438), _, rfl, ⟨rfl, rfl, rfl, rfl, rfl, rfl, rfl, trivial⟩, ⟨by omega, hS444, H447'⟩, by show 4 - (q + 1) < 4 - q; omega⟩
        · skip
          obtain rfl : q = 4 := by omega
          refine exitAny ?_
          refine thenExit ?_
          refine thenExit ?_
          refine blockHere ?_
          refine blockNormal ?_
          refine thenNormal ?_
          refine oneRegion ?_
          refine sq (r_move (v := i64 ((k + 4 : Nat))) rfl) ?_
          refine sq (r_addI (a := (k + 4 : Nat)) (b := (1 : Int)) rfl rfl (by omega)) ?_
          refine sq (r_assign (v := i64 ((k + 4 : Nat) + (1 : Int))) rfl) ?_
          refine wnil ?_
          refine thenNormal ?_
          have e449 : expI ((expR kl bx k).1) (expT bx (expR kl bx k).1 (expR kl bx k).2 k) k 4 = (expR kl bx (k + 1)).1 := by rw [expR]
          have hS450 := hS2
          rw [e449] at hS450
          have H451 := HL2.as (L' := [(key127, sob E8 5 (expT bx (expR kl bx k).1 (expR kl bx k).2 k) sp129), (kb, sob E8 5 bx spb), (k2, sob E8 5 ((expR kl bx (k + 1)).1) sp2), (some b5, .cells #[.slice (ownA k2) (16 + 4 * k + 4) c2, .slice (ownA kb) 256 cb] 108 (0, 0)), (some b1, .cells #[.slice none 0 0, .slice none 0 0] 108 (0, 0))]) (by rw [e449])
          rw [show 16 + 4 * k + 4 = 16 + 4 * (k + 1) by omega] at H451
          exact ⟨(k + 1, k2, c2, sp2), _, rfl, ⟨rfl, rfl, rfl, congrArg u8 (by rw [expR]; dsimp only; rw [if_neg (by omega)]), congrArg i64 (by omega), trivial⟩, ⟨by omega, hS450, (H451.dropk 0)⟩, by show 40 - (k + 1) < 40 - k; omega⟩
    · skip
      obtain rfl : k = 40 := by omega
      refine exitAny ?_
      refine thenExit ?_
      refine thenExit ?_
      refine blockHere ?_
      refine thenNormal ?_
      refine seqRegion ?_
      refine sq (r_loadA (cs' := #[.slice (ownA kk) (16 + 4 * 40) kc, .slice (ownA kb) 256 cb]) agg108 siz108 (HL.get (k := 2) rfl) (off := 0) rfl (by exact Nat.le_of_ble_eq_true rfl) (by rfl)) ?_
      refine d_store (k := 3) (v := .agg #[.slice (ownA kk) (16 + 4 * 40) kc, .slice (ownA kb) 256 cb]) (cs' := #[.slice (ownA kk) (16 + 4 * 40) kc, .slice (ownA kb) 256 cb]) HL rfl rfl rfl siz108 (by rfl) (by intro u hu; simp [Value.cells] at hu; first | (subst hu; rfl) | (rcases hu with rfl | rfl <;> rfl)) (by exact Nat.le_of_ble_eq_true rfl) (by rfl) ?_
      intro w452 H453 hC454
      have H453' := H453.as (L' := [(kb, sob E8 5 bx spb), (kk, sob E8 5 ((expR kl bx 40).1) ksp), (some b5, .cells #[.slice (ownA kk) (16 + 4 * 40) kc, .slice (ownA kb) 256 cb] 108 (0, 0)), (some b1, .cells #[.slice (ownA kk) (16 + 4 * 40) kc, .slice (ownA kb) 256 cb] 108 (0, 0))]) rfl
      clear H453
      refine wend ?_
      refine retAny ?_
      refine retG (rs := [.cell 2 108]) (vs := [.agg #[.slice (ownA kk) (16 + 4 * 40) kc, .slice (ownA kb) 256 cb]]) rfl ⟨r_loadA (cs' := #[.slice (ownA kk) (16 + 4 * 40) kc, .slice (ownA kb) 256 cb]) agg108 siz108 (H453'.get (k := 3) rfl) (off := 0) rfl (by exact Nat.le_of_ble_eq_true rfl) (by rfl), trivial⟩ ?_
      exact ⟨_, rfl, ⟨kk, kc, ksp, kb, cb, spb, rfl, hSk, hSb, ((H453'.dropk 3).dropk 2)⟩, H453'.chg⟩


theorem rword_ok (ks bx : List By) (hks : ks.length = 176) (hbx : bx.length = 256) (x : BitVec 64) (xk xb : Option Addr) (ck cb : Nat) (hck : 176 ≤ ck) (w : World) (hK : Rd E8 w xk ks) (hB : Rd E8 w xb bx) : Calls Tryd.prog 54 [.agg #[.slice xk 176 ck, .slice xb 256 cb], u64 (x)].toArray w (Ret fun v w' => v = u64 (wordR ks bx x) ∧ Ext w w') := by
  have H := Hp.start No w
  refine enter (n := 22) Tryd.func54 rfl rfl (Nat.le_of_ble_eq_true rfl) ?_
  refine seqRegion ?_
  refine q_box (v := .agg #[.slice xk 176 ck, .slice xb 256 cb]) (o := .cells #[.slice xk 176 ck, .slice xb 256 cb] 108 (0, 0)) H rfl (by rfl) ?_
  intro b1 w2 hb1 H3 hE4
  refine sq (r_assign (v := u64 (0#64)) rfl) ?_
  refine wend ?_
  refine seqAny ?_
  refine drawAny (K := [none, none, none, some (slRel E8 5 ((eightS (x / (2#64)) 8).1) w2), some (bsRel E8 5 [0#8, 0#8, 0#8, 0#8, 0#8, 0#8, 0#8, 0#8] 8 w2), some (slRel E8 5 (((eightS (x / (2#64)) 8).1) ++ ([0#8, 0#8, 0#8, 0#8, 0#8, 0#8, 0#8, 0#8])) w2)]) [0, 0, 2, 6, 0, 30, 63, 127] (fun w' => Ext w2 w') (NewR E8 5 ((eightS (x / 2#64) 8).1) ([0#8, 0#8, 0#8, 0#8, 0#8, 0#8, 0#8, 0#8]) w2) mixed (by kernel_rfl) (Ext.drew _) NewR.trans ?_ ?_
  · exact relAll ⟨⟨fun _ _ _ _ _ hR h => NewR.sl (Nat.le_refl _) hR h, fun _ _ _ _ _ h => h⟩, ⟨fun _ _ _ _ _ hR h => NewR.bs hR h, fun _ _ _ _ _ h => h⟩, ⟨fun _ _ _ _ _ hR h => NewR.app hR h, fun _ _ _ _ _ h => h⟩, trivial⟩
  refine ⟨.agg #[.slice xk 176 ck, .slice xb 256 cb], fun _ uw5 hC6 _ => Gives.run rfl (r_loadA (cs' := #[.slice xk 176 ck, .slice xb 256 cb]) agg108 siz108 ((H3.ext hC6).get (k := 0) rfl) (off := 0) rfl (by exact Nat.le_of_ble_eq_true rfl) (by rfl)) ⟨rfl, NewR.ext (Chg.refl _ _)⟩, ?_⟩
  refine ⟨u64 (x), fun _ uw7 hC8 _ => Gives.run rfl (r_move (v := u64 (x)) rfl) ⟨rfl, NewR.ext (Chg.refl _ _)⟩, ?_⟩
  refine ⟨u64 (x / (2#64)), fun _ uw9 hC10 _ => Gives.run rfl (r_quo64 (a := x) (b := 2#64) rfl rfl (by decide)) ⟨rfl, NewR.ext (Chg.refl _ _)⟩, ?_⟩
  refine ⟨fun r uw11 hC12 hF => Gives.call rfl (Enters.callL (vs := [u64 (x / (2#64))]) call83 rfl) ((eight_ok (x / (2#64)) uw11).mono fun _ _ ⟨v, h1, h2, h3⟩ => ⟨v, h1, h2.old (hC12.size), NewR.ext h3⟩), ?_⟩
  refine ⟨fun r uw13 hC14 hF => bsGives (E := E8) (l := [0#8, 0#8, 0#8, 0#8, 0#8, 0#8, 0#8, 0#8]) sli27 zer5 (Nat.le_of_ble_eq_true rfl) (ps := [(0, u8 (0#8)), (1, u8 (0#8)), (2, u8 (0#8)), (3, u8 (0#8)), (4, u8 (0#8)), (5, u8 (0#8)), (6, u8 (0#8)), (7, u8 (0#8))]) rfl (by exact fillAll rfl rfl) hC14.size (fun _ h => NewR.ext h), ?_⟩
  refine ⟨fun r uw15 hC16 hF => ?_, ?_⟩
  · obtain ⟨b19, e17, _, h18⟩ := hF 4 _ rfl rfl
    exact newGives hC16 (hF 3 _ rfl rfl) sli27 zer5 rfl byt5 (Rd.row h18) rfl e17 (by rfl) (by rw [eightS_len]; omega)
  intro r23 w20 hE22 hF
  have H21 := H3.ext hE22
  obtain ⟨key27, c28, sp29, e24, hS25, H26⟩ := Hp.ownSl H3 hE22 (hF 5 _ rfl)
  rw [show (((eightS (x / (2#64)) 8).1) ++ ([0#8, 0#8, 0#8, 0#8, 0#8, 0#8, 0#8, 0#8])).length = 8 + 8 from by rw [List.length_append, eightS_len]; rfl] at e24
  dsimp only
  rw [e24]
  refine c_call (vs := [.agg #[.slice xk 176 ck, .slice xb 256 cb], .slice (ownA key27) (8 + 8) c28]) call82 rfl (renc_ok ks bx (((eightS (x / (2#64)) 8).1) ++ ([0#8, 0#8, 0#8, 0#8, 0#8, 0#8, 0#8, 0#8])) (by omega) (by omega) (by exact by rw [List.length_append, eightS_len]; rfl) xk xb (ownA key27) ck cb c28 (by omega) w20 (hK.ext H26.chg) (hB.ext H26.chg) (H26.rd (k := 0) rfl hS25)) ?_
  rintro _ w30 ⟨⟨key32, c33, sp34, rfl, hS35, hk36⟩, hE37⟩
  rw [show (encR ks bx (((eightS (x / (2#64)) 8).1) ++ ([0#8, 0#8, 0#8, 0#8, 0#8, 0#8, 0#8, 0#8])) 10).length = 16 from encR_len _ _ _ _]
  have H38 := H26.add hE37 hk36
  refine sq (r_assign (v := .slice (ownA key32) 16 c33) rfl) ?_
  have hle := encR_len ks bx ((eightS (x / 2#64) 8).1 ++ [0#8, 0#8, 0#8, 0#8, 0#8, 0#8, 0#8, 0#8]) 10
  have hce := hS35.cap
  refine wnil ?_
  refine thenNormal ?_
  refine seqAny ?_
  refine seqRegion ?_
  refine sq (r_move (v := u64 (x)) rfl) ?_
  refine sq (r_rem64 (a := x) (b := 2#64) rfl rfl (by decide)) ?_
  refine sq (r_eql64 (a := x % (2#64)) (b := 0#64) rfl rfl) ?_
  refine wend ?_
  refine condProp ((x % (2#64)) = (0#64)) rfl (fun c => ?_) (fun c => ?_)
  · skip
    refine seqRegion ?_
    refine sq (r_move (v := .slice (ownA key32) 16 c33) rfl) ?_
    refine sq ((r_sliceS (l := 0) (h := 8) sli27 rfl (.inr ⟨rfl, rfl⟩) (.inl ⟨_, _, _, rfl, rfl, by first | rfl | omega | (simp; omega)⟩) (by omega) (by omega)).as (v' := .slice (if c33 = 0 then ownA key32 else adr (ownA key32) (0 * 1)) 8 (c33 - 0)) (by rw [show 8 - 0 = 8 by omega])) ?_
    refine c_call (vs := [.slice (if c33 = 0 then ownA key32 else adr (ownA key32) (0 * 1)) 8 (c33 - 0)]) call84 rfl (whole_ok (((encR ks bx (((eightS (x / (2#64)) 8).1) ++ ([0#8, 0#8, 0#8, 0#8, 0#8, 0#8, 0#8, 0#8])) 10).drop 0).take (8)) (by first | omega | (rw [List.length_take, List.length_drop]; omega)) (if c33 = 0 then ownA key32 else adr (ownA key32) (0 * 1)) (c33 - 0) w30 (Rd.sub (H38.rd (k := 0) rfl hS35) 0 (8) (m := c33) (fun e => by first | exact absurd e (by omega) | (rw [show 8 = 0 by omega]; rfl)))) ?_
    rintro _ w39 ⟨rfl, hE40⟩
    have H41 := H38.ext hE40
    refine sq (r_assign (v := u64 (wholeS (((encR ks bx (((eightS (x / (2#64)) 8).1) ++ ([0#8, 0#8, 0#8, 0#8, 0#8, 0#8, 0#8, 0#8])) 10).drop 0).take (8)) 8)) rfl) ?_
    refine wend ?_
    refine retAny ?_
    refine thenRet ?_
    refine retG (rs := [.tmp 4]) (vs := [u64 (wholeS (((encR ks bx (((eightS (x / (2#64)) 8).1) ++ ([0#8, 0#8, 0#8, 0#8, 0#8, 0#8, 0#8, 0#8])) 10).drop 0).take (8)) 8)]) rfl ⟨⟨rfl, rfl⟩, trivial⟩ ?_
    exact ⟨_, rfl, by rw [wordR, if_pos c]; rfl, H41.chg⟩
  · skip
    refine skipAny ?_
    refine thenNormal ?_
    refine seqRegion ?_
    refine sq (r_move (v := .slice (ownA key32) 16 c33) rfl) ?_
    refine sq ((r_sliceS (l := 8) (h := 16) sli27 rfl (.inl ⟨_, _, _, rfl, rfl, by first | rfl | omega | (simp; omega)⟩) (.inr ⟨rfl, rfl⟩) (by omega) (by omega)).as (v' := .slice (if c33 = 8 then ownA key32 else adr (ownA key32) (8 * 1)) 8 (c33 - 8)) (by rw [show 16 - 8 = 8 by omega])) ?_
    refine c_call (vs := [.slice (if c33 = 8 then ownA key32 else adr (ownA key32) (8 * 1)) 8 (c33 - 8)]) call84 rfl (whole_ok (((encR ks bx (((eightS (x / (2#64)) 8).1) ++ ([0#8, 0#8, 0#8, 0#8, 0#8, 0#8, 0#8, 0#8])) 10).drop 8).take (8)) (by first | omega | (rw [List.length_take, List.length_drop]; omega)) (if c33 = 8 then ownA key32 else adr (ownA key32) (8 * 1)) (c33 - 8) w30 (Rd.sub (H38.rd (k := 0) rfl hS35) 8 (8) (m := c33) (fun e => by first | exact absurd e (by omega) | (rw [show 8 = 0 by omega]; rfl)))) ?_
    rintro _ w42 ⟨rfl, hE43⟩
    have H44 := H38.ext hE43
    refine sq (r_assign (v := u64 (wholeS (((encR ks bx (((eightS (x / (2#64)) 8).1) ++ ([0#8, 0#8, 0#8, 0#8, 0#8, 0#8, 0#8, 0#8])) 10).drop 8).take (8)) 8)) rfl) ?_
    refine wend ?_
    refine retAny ?_
    refine retG (rs := [.tmp 4]) (vs := [u64 (wholeS (((encR ks bx (((eightS (x / (2#64)) 8).1) ++ ([0#8, 0#8, 0#8, 0#8, 0#8, 0#8, 0#8, 0#8])) 10).drop 8).take (8)) 8)]) rfl ⟨⟨rfl, rfl⟩, trivial⟩ ?_
    exact ⟨_, rfl, by rw [wordR, if_neg c]; rfl, H44.chg⟩

end Go.Proofs.YtkclklnfohaheaaDoor.Aes
