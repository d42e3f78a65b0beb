/- What the claim has need of: AesRef, Garb11. -/
import Derived.Test.YteofdmdpaejgaaaDoorGt5
namespace Go.Proofs.YteofdmdpaejgaaaDoor.Aes
open Go Go.Proofs.YteofdmdpaejgaaaDoor.Vc Go.Proofs.YteofdmdpaejgaaaDoor.AesSpec
theorem agg176 : isAgg' Tryd.prog 176 = true := by kernel_rfl
theorem byt5 : byt Tryd.prog 5 = some 1 := by kernel_rfl
theorem call110 : callable Tryd.prog 110 = true := by kernel_rfl
theorem call111 : callable Tryd.prog 111 = true := by kernel_rfl
theorem call112 : callable Tryd.prog 112 = true := by kernel_rfl
theorem call113 : callable Tryd.prog 113 = true := by kernel_rfl
theorem call114 : callable Tryd.prog 114 = true := by kernel_rfl
theorem call121 : callable Tryd.prog 121 = true := by kernel_rfl
theorem call122 : callable Tryd.prog 122 = true := by kernel_rfl
theorem call123 : callable Tryd.prog 123 = true := by kernel_rfl
theorem call124 : callable Tryd.prog 124 = true := by kernel_rfl
theorem call126 : callable Tryd.prog 126 = true := by kernel_rfl
theorem fld176_0 : fld Tryd.prog 176 0 = some (0, 1, 174) := by kernel_rfl
theorem fld176_1 : fld Tryd.prog 176 1 = some (1, 1, 174) := by kernel_rfl
theorem one174 : isOne Tryd.prog 174 = true := by kernel_rfl
theorem pls176 : pls Tryd.prog 176 = some #[(0, 1), (1, 1)] := by kernel_rfl
theorem siz174 : siz Tryd.prog 174 = some 1 := by kernel_rfl
theorem siz176 : siz Tryd.prog 176 = some 2 := by kernel_rfl
theorem sli174 : sli Tryd.prog 174 = some (5, 1) := by kernel_rfl
theorem zer176 : zer Tryd.prog 176 = some (.agg #[.slice none 0 0, .slice none 0 0]) := by kernel_rfl
theorem zer5 : zer Tryd.prog 5 = some (.int .u8 0) := by kernel_rfl
def CiphR (ks bx : List By) (w : World) (v : Value) (w' : World) : Prop := ∃ kk kc ksp kb cb spb, v = .agg #[.slice (ownA kk) 176 kc, .slice (ownA kb) 256 cb] ∧ Sl E8 kk ks kc ksp ∧ Sl E8 kb bx cb spb ∧ Hp No w w' [(kb, sob E8 5 bx spb), (kk, sob E8 5 ks ksp)]
theorem CiphR.ext {ks bx : List By} {w : World} {v : Value} {w1 w2 : World} (h : CiphR ks bx w v w1) (hE : Ext w1 w2) : CiphR ks bx w v w2 := by
 obtain ⟨kk, kc, ksp, kb, cb, spb, h1, h2, h3, h4⟩ := h
 exact ⟨kk, kc, ksp, kb, cb, spb, h1, h2, h3, h4.ext hE⟩
theorem CiphR.old {ks bx : List By} {w0 w : World} {v : Value} {w1 : World} (h : CiphR ks bx w v w1) (hE : Ext w0 w) : CiphR ks bx w0 v w1 := by
 obtain ⟨kk, kc, ksp, kb, cb, spb, h1, h2, h3, h4⟩ := h
 exact ⟨kk, kc, ksp, kb, cb, spb, h1, h2, h3, ((Hp.start No w0).ext hE).join h4⟩
theorem CiphR.rd {ks bx : List By} {w0 w : World} {v : Value} (h : CiphR ks bx w0 v w) (hk : ks.length = 176) : ∃ xk ck xb cb, v = .agg #[.slice xk 176 ck, .slice xb 256 cb] ∧ 176 ≤ ck ∧ Rd E8 w xk ks ∧ Rd E8 w xb bx := by
 obtain ⟨kk, kc, ksp, kb, cb, spb, h1, h2, h3, h4⟩ := h
 exact ⟨_, _, _, _, h1, hk ▸ h2.cap, h4.rd (k := 1) rfl h2, h4.rd (k := 0) rfl h3⟩
theorem inverse_ok (a : By) (w : World) : Calls Tryd.prog 126 [u8 (a)].toArray w (Ret fun v w' => v = u8 (invS a 254) ∧ Ext w w') := by
 have H := Hp.start No w
 refine enter (n := 13) Tryd.func126 rfl rfl (bLe rfl) ?_
 refine sR ?_
 refine sA (u8 (0#8)) rfl ?_
 refine wend ?_
 refine sR ?_
 refine sA (u8 (1#8)) rfl ?_
 refine wend ?_
 refine seqAny ?_
 refine sR ?_
 refine sA (i64 ((0 : Int))) rfl ?_
 refine wend ?_
 refine blockAny ?_
 refine loopAny (σ := Nat) (fun k => [(0, u8 (a)), (3, u8 (invS a k)), (4, i64 (k : Nat))]) (fun k w' => k ≤ 254 ∧ Hp No w w' []) (fun k => 254 - k) (0) ?_ ?_ ?_
 ·exact ⟨rfl, rfl, rfl, trivial⟩
 ·exact ⟨by omega, H⟩
 rintro k ρ w1 ⟨hk, H2⟩
 refine seqAny ?_
 refine sR ?_
 refine sM (i64 (k : Nat)) rfl ?_
 refine sq (r_lssI (a := (k : Nat)) (b := (254 : Int)) rfl rfl) ?_
 refine wend ?_
 refine condProp (((k : Nat) : Int) < (254 : Int)) rfl (fun hk6 => ?_) (fun hk6 => ?_)
 ·skip
  refine skipAny ?_
  refine thenNormal ?_
  refine seqAny ?_
  refine blockAny ?_
  refine oneRegion ?_
  refine sM (u8 (invS a k)) rfl ?_
  refine sM (u8 (a)) rfl ?_
  refine c_call (vs := [u8 (invS a k), u8 (a)]) call122 rfl (times_ok (invS a k) a w1) ?_
  rintro _ w3 ⟨rfl, hE4⟩
  have H5 := H2.ext hE4
  refine sA (u8 (gm (invS a k) a)) rfl ?_
  refine wnil ?_
  refine blockNormal ?_
  refine thenNormal ?_
  refine oneRegion ?_
  refine sM (i64 (k : Nat)) rfl ?_
  refine sq (r_addI (a := (k : Nat)) (b := (1 : Int)) rfl rfl (by omega)) ?_
  refine sA (i64 ((k : Nat) + (1 : Int))) rfl ?_
  refine wnil ?_
  refine thenNormal ?_
  exact ⟨k + 1, _, rfl, ⟨rfl, rfl, rfl, trivial⟩, ⟨by omega, H5⟩, by show 254 - (k + 1) < 254 - k; omega⟩
 ·skip
  obtain rfl : k = 254 := by omega
  refine exitAny ?_
  refine thenExit ?_
  refine thenExit ?_
  refine blockHere ?_
  refine thenNormal ?_
  refine sR ?_
  refine sM (u8 (invS a 254)) rfl ?_
  refine sA (u8 (invS a 254)) rfl ?_
  refine wend ?_
  refine retAny ?_
  refine retG (rs := [.tmp 2]) (vs := [u8 (invS a 254)]) rfl ⟨⟨rfl, rfl⟩, trivial⟩ ?_
  exact ⟨_, rfl, rfl, H2.chg⟩
theorem s_ok (a : By) (w : World) : Calls Tryd.prog 121 [u8 (a)].toArray w (Ret fun v w' => v = u8 (sR a) ∧ Ext w w') := by
 have H := Hp.start No w
 refine enter (n := 21) Tryd.func121 rfl rfl (bLe rfl) ?_
 refine sR ?_
 refine sA (u8 (0#8)) rfl ?_
 refine wend ?_
 refine sR ?_
 refine sM (u8 (a)) rfl ?_
 refine c_call (vs := [u8 (a)]) call126 rfl (inverse_ok a w) ?_
 rintro _ w1 ⟨rfl, hE2⟩
 have H3 := H.ext hE2
 refine sA (u8 (invS a 254)) rfl ?_
 refine wend ?_
 refine sR ?_
 refine sA (u8 (99#8)) rfl ?_
 refine wend ?_
 refine seqAny ?_
 refine sR ?_
 refine sA (i64 ((0 : Int))) rfl ?_
 refine wend ?_
 refine blockAny ?_
 refine loopAny (σ := Nat) (fun k => [(3, u8 ((sS (invS a 254) k).2)), (4, u8 ((sS (invS a 254) k).1)), (5, i64 (k : Nat))]) (fun k w' => k ≤ 5 ∧ Hp No w w' []) (fun k => 5 - k) (0) ?_ ?_ ?_
 ·exact ⟨rfl, rfl, rfl, trivial⟩
 ·exact ⟨by omega, H3⟩
 rintro k ρ w4 ⟨hk, H5⟩
 refine seqAny ?_
 refine sR ?_
 refine sM (i64 (k : Nat)) rfl ?_
 refine sq (r_lssI (a := (k : Nat)) (b := (5 : Int)) rfl rfl) ?_
 refine wend ?_
 refine condProp (((k : Nat) : Int) < (5 : Int)) rfl (fun hk9 => ?_) (fun hk9 => ?_)
 ·skip
  refine skipAny ?_
  refine thenNormal ?_
  refine seqAny ?_
  refine blockAny ?_
  refine sR ?_
  refine sM (u8 ((sS (invS a 254) k).1)) rfl ?_
  refine sM (u8 ((sS (invS a 254) k).2)) rfl ?_
  refine sq (r_xor8 (a := (sS (invS a 254) k).1) (b := (sS (invS a 254) k).2) rfl rfl) ?_
  refine sA (u8 (((sS (invS a 254) k).1) ^^^ ((sS (invS a 254) k).2))) rfl ?_
  refine wend ?_
  refine oneRegion ?_
  refine sM (u8 ((sS (invS a 254) k).2)) rfl ?_
  refine sq (r_mul8 (a := (sS (invS a 254) k).2) (b := 2#8) rfl rfl) ?_
  refine sM (u8 ((sS (invS a 254) k).2)) rfl ?_
  refine sq (r_quo8 (a := (sS (invS a 254) k).2) (b := 128#8) rfl rfl (by decide)) ?_
  refine sq (r_add8 (a := ((sS (invS a 254) k).2) * (2#8)) (b := ((sS (invS a 254) k).2) / (128#8)) rfl rfl) ?_
  refine sA (u8 ((((sS (invS a 254) k).2) * (2#8)) + (((sS (invS a 254) k).2) / (128#8)))) rfl ?_
  refine wnil ?_
  refine blockNormal ?_
  refine thenNormal ?_
  refine oneRegion ?_
  refine sM (i64 (k : Nat)) rfl ?_
  refine sq (r_addI (a := (k : Nat)) (b := (1 : Int)) rfl rfl (by omega)) ?_
  refine sA (i64 ((k : Nat) + (1 : Int))) rfl ?_
  refine wnil ?_
  refine thenNormal ?_
  exact ⟨k + 1, _, rfl, ⟨rfl, rfl, rfl, trivial⟩, ⟨by omega, H5⟩, by show 5 - (k + 1) < 5 - k; omega⟩
 ·skip
  obtain rfl : k = 5 := by omega
  refine exitAny ?_
  refine thenExit ?_
  refine thenExit ?_
  refine blockHere ?_
  refine thenNormal ?_
  refine sR ?_
  refine sM (u8 ((sS (invS a 254) 5).1)) rfl ?_
  refine sA (u8 ((sS (invS a 254) 5).1)) rfl ?_
  refine wend ?_
  refine retAny ?_
  refine retG (rs := [.tmp 2]) (vs := [u8 ((sS (invS a 254) 5).1)]) rfl ⟨⟨rfl, rfl⟩, trivial⟩ ?_
  exact ⟨_, rfl, rfl, H5.chg⟩
theorem add_ok (a b : List By) (ha : a.length = 16) (hb : b.length = 16) (xa xb : Option Addr) (ca cb : Nat) (w : World) (hA : Rd E8 w xa a) (hB : Rd E8 w xb b) : Calls Tryd.prog 123 [.slice xa 16 ca, .slice xb 16 cb].toArray w (Ret fun v w' => SlRes E8 5 (addR a b 16) w v w' ∧ Ext w w') := by
 have H := Hp.start No w
 refine enter (n := 25) Tryd.func123 rfl rfl (bLe rfl) ?_
 refine sR ?_
 refine sA (.slice none 0 0) rfl ?_
 refine wend ?_
 refine sR ?_
 refine q_makeSlice (E := E8) (m := 16) (c := 16) (z0 := 0#8) H sli174 zer5 rfl byt5 rfl rfl (by first | rfl | omega | (simp; omega)) (by first | rfl | omega | (simp; omega)) (by omega) (by omega) ?_
 intro b1 w3 hS2 H4 hE5
 refine sA (.slice (ownA (some b1)) 16 16) rfl ?_
 refine wend ?_
 refine seqAny ?_
 refine sR ?_
 refine sA (i64 ((0 : Int))) rfl ?_
 refine wend ?_
 refine blockAny ?_
 refine loopAny (σ := Nat) (fun i => [(0, .slice xa 16 ca), (1, .slice xb 16 cb), (5, .slice (ownA (some b1)) 16 16), (6, i64 (i : Nat))]) (fun i w' => i ≤ 16 ∧ Sl E8 (some b1) (addR a b i) 16 (cel E8 (List.replicate (16 - 16) 0#8)) ∧ Hp No w w' [((some b1), sob E8 5 (addR a b i) (cel E8 (List.replicate (16 - 16) 0#8)))]) (fun i => 16 - i) (0) ?_ ?_ ?_
 ·exact ⟨rfl, rfl, rfl, rfl, trivial⟩
 ·exact ⟨by omega, hS2, H4⟩
 rintro i ρ w6 ⟨hi, hS, HL⟩
 have hl := addR_len a b i
 refine seqAny ?_
 refine sR ?_
 refine sM (i64 (i : Nat)) rfl ?_
 refine sq (r_lssI (a := (i : Nat)) (b := (16 : Int)) rfl rfl) ?_
 refine wend ?_
 refine condProp (((i : Nat) : Int) < (16 : Int)) rfl (fun hk9 => ?_) (fun hk9 => ?_)
 ·skip
  refine skipAny ?_
  refine thenNormal ?_
  refine seqAny ?_
  refine blockAny ?_
  refine drawAny (K := [none, none, none, none, none, none, none, none, none, none, none, none]) [0, 0, 0, 0, 12, 28, 0, 0, 192, 448, 1020, 2047, 4095] (fun w' => Ext w6 w') (fun w' w'' => Ext w' w'') mixed (by kernel_rfl) (Ext.drew _) (fun _ _ h h' => h.trans h') ?_ ?_
  ·exact relNone (by decide)
  refine ⟨.slice (ownA (some b1)) 16 16, fun _ uw8 hC9 _ => Gives.run rfl (r_move (v := .slice (ownA (some b1)) 16 16) rfl) ⟨rfl, Chg.refl _ _⟩, ?_⟩
  refine ⟨i64 (i : Nat), fun _ uw10 hC11 _ => Gives.run rfl (r_move (v := i64 (i : Nat)) rfl) ⟨rfl, Chg.refl _ _⟩, ?_⟩
  refine ⟨.slice xa 16 ca, fun _ uw12 hC13 _ => Gives.run rfl (r_move (v := .slice xa 16 ca) rfl) ⟨rfl, Chg.refl _ _⟩, ?_⟩
  refine ⟨i64 (i : Nat), fun _ uw14 hC15 _ => Gives.run rfl (r_move (v := i64 (i : Nat)) rfl) ⟨rfl, Chg.refl _ _⟩, ?_⟩
  refine ⟨.pointer (adr xa (i * 1)), fun _ uw16 hC17 _ => Gives.run rfl (r_idxS (E := E8) (l := a) (j := i) sli174 (hA.ext (HL.ext hC17).chg) rfl rfl (by first | rfl | omega | (simp; omega)) (by omega) (by omega)) ⟨rfl, Chg.refl _ _⟩, ?_⟩
  refine ⟨u8 ((a).getD i 0#8), fun _ uw18 hC19 _ => Gives.run rfl (r_ldS (E := E8) (l := a) (j := i) (v := (a).getD i 0#8) fits5 (hA.ext (HL.ext hC19).chg) rfl rfl (at_getD (by omega))) ⟨rfl, Chg.refl _ _⟩, ?_⟩
  refine ⟨.slice xb 16 cb, fun _ uw20 hC21 _ => Gives.run rfl (r_move (v := .slice xb 16 cb) rfl) ⟨rfl, Chg.refl _ _⟩, ?_⟩
  refine ⟨i64 (i : Nat), fun _ uw22 hC23 _ => Gives.run rfl (r_move (v := i64 (i : Nat)) rfl) ⟨rfl, Chg.refl _ _⟩, ?_⟩
  refine ⟨.pointer (adr xb (i * 1)), fun _ uw24 hC25 _ => Gives.run rfl (r_idxS (E := E8) (l := b) (j := i) sli174 (hB.ext (HL.ext hC25).chg) rfl rfl (by first | rfl | omega | (simp; omega)) (by omega) (by omega)) ⟨rfl, Chg.refl _ _⟩, ?_⟩
  refine ⟨u8 ((b).getD i 0#8), fun _ uw26 hC27 _ => Gives.run rfl (r_ldS (E := E8) (l := b) (j := i) (v := (b).getD i 0#8) fits5 (hB.ext (HL.ext hC27).chg) rfl rfl (at_getD (by omega))) ⟨rfl, Chg.refl _ _⟩, ?_⟩
  refine ⟨u8 (((a).getD i 0#8) ^^^ ((b).getD i 0#8)), fun _ uw28 hC29 _ => Gives.run rfl (r_xor8 (a := (a).getD i 0#8) (b := (b).getD i 0#8) rfl rfl) ⟨rfl, Chg.refl _ _⟩, ?_⟩
  refine ⟨.pointer (adr (ownA (some b1)) (i * 1)), fun _ uw30 hC31 _ => Gives.run rfl (r_idxS (E := E8) (l := addR a b i) (j := i) sli174 ((HL.ext hC31).rd (k := 0) rfl hS) rfl rfl (by first | rfl | omega | (simp; omega)) (by omega) (by omega)) ⟨rfl, Chg.refl _ _⟩, ?_⟩
  intro r35 w32 hE34 hF
  have H33 := HL.ext hE34
  refine d_storeS (E := E8) (k := 0) (l := addR a b i) (j := i) (b := ((a).getD i 0#8) ^^^ ((b).getD i 0#8)) (a := (addR a b i).getD i 0#8) H33 rfl hS rfl rfl rfl rfl siz5 (at_getD (by omega)) ?_
  intro w37 hS36 H38
  have H38' := H38.as (L' := [((some b1), sob E8 5 ((addR a b i).set i (((a).getD i 0#8) ^^^ ((b).getD i 0#8))) (cel E8 (List.replicate (16 - 16) 0#8)))]) rfl
  clear H38
  refine wnil ?_
  refine blockNormal ?_
  refine thenNormal ?_
  refine oneRegion ?_
  refine sM (i64 (i : Nat)) rfl ?_
  refine sq (r_addI (a := (i : Nat)) (b := (1 : Int)) rfl rfl (by omega)) ?_
  refine sA (i64 ((i : Nat) + (1 : Int))) rfl ?_
  refine wnil ?_
  refine thenNormal ?_
  exact ⟨i + 1, _, rfl, ⟨rfl, rfl, rfl, rfl, trivial⟩, ⟨by omega, hS36, H38'⟩, by show 16 - (i + 1) < 16 - i; omega⟩
 ·skip
  obtain rfl : i = 16 := by omega
  refine exitAny ?_
  refine thenExit ?_
  refine thenExit ?_
  refine blockHere ?_
  refine thenNormal ?_
  refine sR ?_
  refine sM (.slice (ownA (some b1)) 16 16) rfl ?_
  refine sA (.slice (ownA (some b1)) 16 16) rfl ?_
  refine wend ?_
  refine retAny ?_
  refine retG (rs := [.tmp 4]) (vs := [.slice (ownA (some b1)) 16 16]) rfl ⟨⟨rfl, rfl⟩, trivial⟩ ?_
  exact ⟨_, rfl, HL.resN (k := 0) rfl hS hl.symm, HL.chg⟩
theorem rmix_ok (t : List By) (ht : t.length = 16) (xt : Option Addr) (ct : Nat) (w : World) (hT : Rd E8 w xt t) : Calls Tryd.prog 124 [.slice xt 16 ct].toArray w (Ret fun v w' => SlRes E8 5 (mixRS t 4) w v w' ∧ Ext w w') := by
 have H := Hp.start No w
 refine enter (n := 69) Tryd.func124 rfl rfl (bLe rfl) ?_
 refine sR ?_
 refine sA (.slice none 0 0) rfl ?_
 refine wend ?_
 refine sR ?_
 refine q_makeSlice (E := E8) (m := 16) (c := 16) (z0 := 0#8) H sli174 zer5 rfl byt5 rfl rfl (by first | rfl | omega | (simp; omega)) (by first | rfl | omega | (simp; omega)) (by omega) (by omega) ?_
 intro b1 w3 hS2 H4 hE5
 refine sA (.slice (ownA (some b1)) 16 16) rfl ?_
 refine wend ?_
 refine seqAny ?_
 refine sR ?_
 refine sA (i64 ((0 : Int))) rfl ?_
 refine wend ?_
 refine blockAny ?_
 refine loopAny (σ := Nat) (fun c => [(0, .slice xt 16 ct), (3, .slice (ownA (some b1)) 16 16), (4, i64 (c : Nat))]) (fun c w' => c ≤ 4 ∧ Sl E8 (some b1) (mixRS t c) 16 (cel E8 (List.replicate (16 - 16) 0#8)) ∧ Hp No w w' [((some b1), sob E8 5 (mixRS t c) (cel E8 (List.replicate (16 - 16) 0#8)))]) (fun c => 4 - c) (0) ?_ ?_ ?_
 ·exact ⟨rfl, rfl, rfl, trivial⟩
 ·exact ⟨by omega, hS2, H4⟩
 rintro c ρ w6 ⟨hc, hS, HL⟩
 have hl := mixRS_len t c
 refine seqAny ?_
 refine sR ?_
 refine sM (i64 (c : Nat)) rfl ?_
 refine sq (r_lssI (a := (c : Nat)) (b := (4 : Int)) rfl rfl) ?_
 refine wend ?_
 refine condProp (((c : Nat) : Int) < (4 : Int)) rfl (fun hk12 => ?_) (fun hk12 => ?_)
 ·skip
  refine skipAny ?_
  refine thenNormal ?_
  refine seqAny ?_
  refine blockAny ?_
  refine sR ?_
  refine sA (i64 ((0 : Int))) rfl ?_
  refine wend ?_
  refine blockAny ?_
  refine loopAny (σ := Nat) (fun r => [(0, .slice xt 16 ct), (3, .slice (ownA (some b1)) 16 16), (4, i64 (c : Nat)), (5, i64 (r : Nat))]) (fun r w' => r ≤ 4 ∧ Sl E8 (some b1) (mixRI t (mixRS t c) c r) 16 (cel E8 (List.replicate (16 - 16) 0#8)) ∧ Hp No w w' [((some b1), sob E8 5 (mixRI t (mixRS t c) c r) (cel E8 (List.replicate (16 - 16) 0#8)))]) (fun r => 4 - r) (0) ?_ ?_ ?_
  ·exact ⟨rfl, rfl, rfl, rfl, trivial⟩
  ·exact ⟨by omega, hS, HL⟩
  rintro r ρ w8 ⟨hr, hS, HL⟩
  have hl2 := mixRI_len t (mixRS t c) c r
  rw [hl] at hl2
  refine seqAny ?_
  refine sR ?_
  refine sM (i64 (r : Nat)) rfl ?_
  refine sq (r_lssI (a := (r : Nat)) (b := (4 : Int)) rfl rfl) ?_
  refine wend ?_
  refine condProp (((r : Nat) : Int) < (4 : Int)) rfl (fun hk16 => ?_) (fun hk16 => ?_)
  ·skip
   refine skipAny ?_
   refine thenNormal ?_
   refine seqAny ?_
   refine blockAny ?_
   refine seqAny ?_
   refine drawAny (K := [none, none, none, none, none, none, none, none, none, none, none, none, none, none, none, none, none, none, none, none, none, none, none, none, none, none, none, none, none, none, none, none, none, none, none, none, none, none]) [0, 0, 2, 0, 14, 31, 63, 0, 0, 256, 0, 1024, 3072, 7936, 16256, 32640, 0, 0, 131072, 0, 524288, 1572864, 4063232, 8323072, 16711680, 0, 0, 67108864, 0, 268435456, 805306368, 2080374784, 4261412864, 8556380160, 127, 17179934719, 51573161983, 137438953471] (fun w' => Ext w8 w') (fun w' w'' => Ext w' w'') mixed (by kernel_rfl) (Ext.drew _) (fun _ _ h h' => h.trans h') ?_ ?_
   ·exact relNone (by decide)
   refine ⟨.slice xt 16 ct, fun _ uw10 hC11 _ => Gives.run rfl (r_move (v := .slice xt 16 ct) rfl) ⟨rfl, Chg.refl _ _⟩, ?_⟩
   refine ⟨i64 (c : Nat), fun _ uw12 hC13 _ => Gives.run rfl (r_move (v := i64 (c : Nat)) rfl) ⟨rfl, Chg.refl _ _⟩, ?_⟩
   refine ⟨i64 ((4 : Int) * (c : Nat)), fun _ uw14 hC15 _ => Gives.run rfl (r_mulI (a := (4 : Int)) (b := (c : Nat)) rfl rfl (by omega)) ⟨rfl, Chg.refl _ _⟩, ?_⟩
   refine ⟨i64 (r : Nat), fun _ uw16 hC17 _ => Gives.run rfl (r_move (v := i64 (r : Nat)) rfl) ⟨rfl, Chg.refl _ _⟩, ?_⟩
   refine ⟨i64 (((4 : Int) * (c : Nat)) + (r : Nat)), fun _ uw18 hC19 _ => Gives.run rfl (r_addI (a := (4 : Int) * (c : Nat)) (b := (r : Nat)) rfl rfl (by omega)) ⟨rfl, Chg.refl _ _⟩, ?_⟩
   refine ⟨.pointer (adr xt (((4 * c) + r) * 1)), fun _ uw20 hC21 _ => Gives.run rfl (r_idxS (E := E8) (l := t) (j := (4 * c) + r) sli174 (hT.ext (HL.ext hC21).chg) rfl rfl (by first | rfl | omega | (simp; omega)) (by omega) (by omega)) ⟨rfl, Chg.refl _ _⟩, ?_⟩
   refine ⟨u8 ((t).getD ((4 * c) + r) 0#8), fun _ uw22 hC23 _ => Gives.run rfl (r_ldS (E := E8) (l := t) (j := (4 * c) + r) (v := (t).getD ((4 * c) + r) 0#8) fits5 (hT.ext (HL.ext hC23).chg) rfl rfl (at_getD (by omega))) ⟨rfl, Chg.refl _ _⟩, ?_⟩
   refine ⟨.slice xt 16 ct, fun _ uw24 hC25 _ => Gives.run rfl (r_move (v := .slice xt 16 ct) rfl) ⟨rfl, Chg.refl _ _⟩, ?_⟩
   refine ⟨i64 (c : Nat), fun _ uw26 hC27 _ => Gives.run rfl (r_move (v := i64 (c : Nat)) rfl) ⟨rfl, Chg.refl _ _⟩, ?_⟩
   refine ⟨i64 ((4 : Int) * (c : Nat)), fun _ uw28 hC29 _ => Gives.run rfl (r_mulI (a := (4 : Int)) (b := (c : Nat)) rfl rfl (by omega)) ⟨rfl, Chg.refl _ _⟩, ?_⟩
   refine ⟨i64 (r : Nat), fun _ uw30 hC31 _ => Gives.run rfl (r_move (v := i64 (r : Nat)) rfl) ⟨rfl, Chg.refl _ _⟩, ?_⟩
   refine ⟨i64 ((r : Nat) + (1 : Int)), fun _ uw32 hC33 _ => Gives.run rfl (r_addI (a := (r : Nat)) (b := (1 : Int)) rfl rfl (by omega)) ⟨rfl, Chg.refl _ _⟩, ?_⟩
   refine ⟨i64 (((r : Nat) + (1 : Int)) % (4 : Int)), fun _ uw34 hC35 _ => Gives.run rfl (r_remI (a := (r : Nat) + (1 : Int)) (b := (4 : Int)) rfl rfl (by omega)) ⟨rfl, Chg.refl _ _⟩, ?_⟩
   refine ⟨i64 (((4 : Int) * (c : Nat)) + (((r : Nat) + (1 : Int)) % (4 : Int))), fun _ uw36 hC37 _ => Gives.run rfl (r_addI (a := (4 : Int) * (c : Nat)) (b := ((r : Nat) + (1 : Int)) % (4 : Int)) rfl rfl (by omega)) ⟨rfl, Chg.refl _ _⟩, ?_⟩
   refine ⟨.pointer (adr xt (((4 * c) + ((r + 1) % 4)) * 1)), fun _ uw38 hC39 _ => Gives.run rfl (r_idxS (E := E8) (l := t) (j := (4 * c) + ((r + 1) % 4)) sli174 (hT.ext (HL.ext hC39).chg) rfl rfl (by first | rfl | omega | (simp; omega)) (by omega) (by omega)) ⟨rfl, Chg.refl _ _⟩, ?_⟩
   refine ⟨u8 ((t).getD ((4 * c) + ((r + 1) % 4)) 0#8), fun _ uw40 hC41 _ => Gives.run rfl (r_ldS (E := E8) (l := t) (j := (4 * c) + ((r + 1) % 4)) (v := (t).getD ((4 * c) + ((r + 1) % 4)) 0#8) fits5 (hT.ext (HL.ext hC41).chg) rfl rfl (at_getD (by omega))) ⟨rfl, Chg.refl _ _⟩, ?_⟩
   refine ⟨.slice xt 16 ct, fun _ uw42 hC43 _ => Gives.run rfl (r_move (v := .slice xt 16 ct) rfl) ⟨rfl, Chg.refl _ _⟩, ?_⟩
   refine ⟨i64 (c : Nat), fun _ uw44 hC45 _ => Gives.run rfl (r_move (v := i64 (c : Nat)) rfl) ⟨rfl, Chg.refl _ _⟩, ?_⟩
   refine ⟨i64 ((4 : Int) * (c : Nat)), fun _ uw46 hC47 _ => Gives.run rfl (r_mulI (a := (4 : Int)) (b := (c : Nat)) rfl rfl (by omega)) ⟨rfl, Chg.refl _ _⟩, ?_⟩
   refine ⟨i64 (r : Nat), fun _ uw48 hC49 _ => Gives.run rfl (r_move (v := i64 (r : Nat)) rfl) ⟨rfl, Chg.refl _ _⟩, ?_⟩
   refine ⟨i64 ((r : Nat) + (2 : Int)), fun _ uw50 hC51 _ => Gives.run rfl (r_addI (a := (r : Nat)) (b := (2 : Int)) rfl rfl (by omega)) ⟨rfl, Chg.refl _ _⟩, ?_⟩
   refine ⟨i64 (((r : Nat) + (2 : Int)) % (4 : Int)), fun _ uw52 hC53 _ => Gives.run rfl (r_remI (a := (r : Nat) + (2 : Int)) (b := (4 : Int)) rfl rfl (by omega)) ⟨rfl, Chg.refl _ _⟩, ?_⟩
   refine ⟨i64 (((4 : Int) * (c : Nat)) + (((r : Nat) + (2 : Int)) % (4 : Int))), fun _ uw54 hC55 _ => Gives.run rfl (r_addI (a := (4 : Int) * (c : Nat)) (b := ((r : Nat) + (2 : Int)) % (4 : Int)) rfl rfl (by omega)) ⟨rfl, Chg.refl _ _⟩, ?_⟩
   refine ⟨.pointer (adr xt (((4 * c) + ((r + 2) % 4)) * 1)), fun _ uw56 hC57 _ => Gives.run rfl (r_idxS (E := E8) (l := t) (j := (4 * c) + ((r + 2) % 4)) sli174 (hT.ext (HL.ext hC57).chg) rfl rfl (by first | rfl | omega | (simp; omega)) (by omega) (by omega)) ⟨rfl, Chg.refl _ _⟩, ?_⟩
   refine ⟨u8 ((t).getD ((4 * c) + ((r + 2) % 4)) 0#8), fun _ uw58 hC59 _ => Gives.run rfl (r_ldS (E := E8) (l := t) (j := (4 * c) + ((r + 2) % 4)) (v := (t).getD ((4 * c) + ((r + 2) % 4)) 0#8) fits5 (hT.ext (HL.ext hC59).chg) rfl rfl (at_getD (by omega))) ⟨rfl, Chg.refl _ _⟩, ?_⟩
   refine ⟨.slice xt 16 ct, fun _ uw60 hC61 _ => Gives.run rfl (r_move (v := .slice xt 16 ct) rfl) ⟨rfl, Chg.refl _ _⟩, ?_⟩
   refine ⟨i64 (c : Nat), fun _ uw62 hC63 _ => Gives.run rfl (r_move (v := i64 (c : Nat)) rfl) ⟨rfl, Chg.refl _ _⟩, ?_⟩
   refine ⟨i64 ((4 : Int) * (c : Nat)), fun _ uw64 hC65 _ => Gives.run rfl (r_mulI (a := (4 : Int)) (b := (c : Nat)) rfl rfl (by omega)) ⟨rfl, Chg.refl _ _⟩, ?_⟩
   refine ⟨i64 (r : Nat), fun _ uw66 hC67 _ => Gives.run rfl (r_move (v := i64 (r : Nat)) rfl) ⟨rfl, Chg.refl _ _⟩, ?_⟩
   refine ⟨i64 ((r : Nat) + (3 : Int)), fun _ uw68 hC69 _ => Gives.run rfl (r_addI (a := (r : Nat)) (b := (3 : Int)) rfl rfl (by omega)) ⟨rfl, Chg.refl _ _⟩, ?_⟩
   refine ⟨i64 (((r : Nat) + (3 : Int)) % (4 : Int)), fun _ uw70 hC71 _ => Gives.run rfl (r_remI (a := (r : Nat) + (3 : Int)) (b := (4 : Int)) rfl rfl (by omega)) ⟨rfl, Chg.refl _ _⟩, ?_⟩
   refine ⟨i64 (((4 : Int) * (c : Nat)) + (((r : Nat) + (3 : Int)) % (4 : Int))), fun _ uw72 hC73 _ => Gives.run rfl (r_addI (a := (4 : Int) * (c : Nat)) (b := ((r : Nat) + (3 : Int)) % (4 : Int)) rfl rfl (by omega)) ⟨rfl, Chg.refl _ _⟩, ?_⟩
   refine ⟨.pointer (adr xt (((4 * c) + ((r + 3) % 4)) * 1)), fun _ uw74 hC75 _ => Gives.run rfl (r_idxS (E := E8) (l := t) (j := (4 * c) + ((r + 3) % 4)) sli174 (hT.ext (HL.ext hC75).chg) rfl rfl (by first | rfl | omega | (simp; omega)) (by omega) (by omega)) ⟨rfl, Chg.refl _ _⟩, ?_⟩
   refine ⟨u8 ((t).getD ((4 * c) + ((r + 3) % 4)) 0#8), fun _ uw76 hC77 _ => Gives.run rfl (r_ldS (E := E8) (l := t) (j := (4 * c) + ((r + 3) % 4)) (v := (t).getD ((4 * c) + ((r + 3) % 4)) 0#8) fits5 (hT.ext (HL.ext hC77).chg) rfl rfl (at_getD (by omega))) ⟨rfl, Chg.refl _ _⟩, ?_⟩
   refine ⟨u8 ((t).getD ((4 * c) + r) 0#8), fun _ uw78 hC79 _ => Gives.run rfl (r_assign (v := u8 ((t).getD ((4 * c) + r) 0#8)) rfl) ⟨rfl, Chg.refl _ _⟩, ?_⟩
   refine ⟨u8 ((t).getD ((4 * c) + ((r + 1) % 4)) 0#8), fun _ uw80 hC81 _ => Gives.run rfl (r_assign (v := u8 ((t).getD ((4 * c) + ((r + 1) % 4)) 0#8)) rfl) ⟨rfl, Chg.refl _ _⟩, ?_⟩
   refine ⟨u8 ((t).getD ((4 * c) + ((r + 2) % 4)) 0#8), fun _ uw82 hC83 _ => Gives.run rfl (r_assign (v := u8 ((t).getD ((4 * c) + ((r + 2) % 4)) 0#8)) rfl) ⟨rfl, Chg.refl _ _⟩, ?_⟩
   refine ⟨u8 ((t).getD ((4 * c) + ((r + 3) % 4)) 0#8), fun _ uw84 hC85 _ => Gives.run rfl (r_assign (v := u8 ((t).getD ((4 * c) + ((r + 3) % 4)) 0#8)) rfl) ⟨rfl, Chg.refl _ _⟩, ?_⟩
   intro r89 w86 hE88 hF
   have H87 := HL.ext hE88
   refine wnil ?_
   refine thenNormal ?_
   refine oneRegion ?_
   refine sM (.slice (ownA (some b1)) 16 16) rfl ?_
   refine sM (i64 (c : Nat)) rfl ?_
   refine sq (r_mulI (a := (4 : Int)) (b := (c : Nat)) rfl rfl (by omega)) ?_
   refine sM (i64 (r : Nat)) rfl ?_
   refine sq (r_addI (a := (4 : Int) * (c : Nat)) (b := (r : Nat)) rfl rfl (by omega)) ?_
   refine sM (u8 ((t).getD ((4 * c) + r) 0#8)) rfl ?_
   refine c_call (vs := [u8 ((t).getD ((4 * c) + r) 0#8), u8 (2#8)]) call122 rfl (times_ok ((t).getD ((4 * c) + r) 0#8) (2#8) w86) ?_
   rintro _ w90 ⟨rfl, hE91⟩
   have H92 := H87.ext hE91
   refine sM (u8 ((t).getD ((4 * c) + ((r + 1) % 4)) 0#8)) rfl ?_
   refine c_call (vs := [u8 ((t).getD ((4 * c) + ((r + 1) % 4)) 0#8), u8 (3#8)]) call122 rfl (times_ok ((t).getD ((4 * c) + ((r + 1) % 4)) 0#8) (3#8) w90) ?_
   rintro _ w93 ⟨rfl, hE94⟩
   have H95 := H92.ext hE94
   refine sq (r_xor8 (a := gm ((t).getD ((4 * c) + r) 0#8) (2#8)) (b := gm ((t).getD ((4 * c) + ((r + 1) % 4)) 0#8) (3#8)) rfl rfl) ?_
   refine sM (u8 ((t).getD ((4 * c) + ((r + 2) % 4)) 0#8)) rfl ?_
   refine sq (r_xor8 (a := (gm ((t).getD ((4 * c) + r) 0#8) (2#8)) ^^^ (gm ((t).getD ((4 * c) + ((r + 1) % 4)) 0#8) (3#8))) (b := (t).getD ((4 * c) + ((r + 2) % 4)) 0#8) rfl rfl) ?_
   refine sM (u8 ((t).getD ((4 * c) + ((r + 3) % 4)) 0#8)) rfl ?_
   refine sq (r_xor8 (a := ((gm ((t).getD ((4 * c) + r) 0#8) (2#8)) ^^^ (gm ((t).getD ((4 * c) + ((r + 1) % 4)) 0#8) (3#8))) ^^^ ((t).getD ((4 * c) + ((r + 2) % 4)) 0#8)) (b := (t).getD ((4 * c) + ((r + 3) % 4)) 0#8) rfl rfl) ?_
   refine sq (r_idxS (E := E8) (l := mixRI t (mixRS t c) c r) (j := (4 * c) + r) sli174 (H95.rd (k := 0) rfl hS) rfl rfl (by first | rfl | omega | (simp; omega)) (by omega) (by omega)) ?_
   refine d_storeS (E := E8) (k := 0) (l := mixRI t (mixRS t c) c r) (j := (4 * c) + r) (b := (((gm ((t).getD ((4 * c) + r) 0#8) (2#8)) ^^^ (gm ((t).getD ((4 * c) + ((r + 1) % 4)) 0#8) (3#8))) ^^^ ((t).getD ((4 * c) + ((r + 2) % 4)) 0#8)) ^^^ ((t).getD ((4 * c) + ((r + 3) % 4)) 0#8)) (a := (mixRI t (mixRS t c) c r).getD ((4 * c) + r) 0#8) H95 rfl hS rfl rfl rfl rfl siz5 (at_getD (by omega)) ?_
   intro w97 hS96 H98
   have H98' := H98.as (L' := [((some b1), sob E8 5 ((mixRI t (mixRS t c) c r).set ((4 * c) + r) ((((gm ((t).getD ((4 * c) + r) 0#8) (2#8)) ^^^ (gm ((t).getD ((4 * c) + ((r + 1) % 4)) 0#8) (3#8))) ^^^ ((t).getD ((4 * c) + ((r + 2) % 4)) 0#8)) ^^^ ((t).getD ((4 * c) + ((r + 3) % 4)) 0#8))) (cel E8 (List.replicate (16 - 16) 0#8)))]) rfl
   clear H98
   refine wnil ?_
   refine blockNormal ?_
   refine thenNormal ?_
   refine oneRegion ?_
   refine sM (i64 (r : Nat)) rfl ?_
   refine sq (r_addI (a := (r : Nat)) (b := (1 : Int)) rfl rfl (by omega)) ?_
   refine sA (i64 ((r : Nat) + (1 : Int))) rfl ?_
   refine wnil ?_
   refine thenNormal ?_
   exact ⟨r + 1, _, rfl, ⟨rfl, rfl, rfl, rfl, trivial⟩, ⟨by omega, hS96, H98'⟩, by show 4 - (r + 1) < 4 - r; omega⟩
  ·skip
   obtain rfl : r = 4 := by omega
   refine exitAny ?_
   refine thenExit ?_
   refine thenExit ?_
   refine blockHere ?_
   refine blockNormal ?_
   refine thenNormal ?_
   refine oneRegion ?_
   refine sM (i64 (c : Nat)) rfl ?_
   refine sq (r_addI (a := (c : Nat)) (b := (1 : Int)) rfl rfl (by omega)) ?_
   refine sA (i64 ((c : Nat) + (1 : Int))) rfl ?_
   refine wnil ?_
   refine thenNormal ?_
   exact ⟨c + 1, _, rfl, ⟨rfl, rfl, rfl, trivial⟩, ⟨by omega, hS, HL⟩, by show 4 - (c + 1) < 4 - c; omega⟩
 ·skip
  obtain rfl : c = 4 := by omega
  refine exitAny ?_
  refine thenExit ?_
  refine thenExit ?_
  refine blockHere ?_
  refine thenNormal ?_
  refine sR ?_
  refine sM (.slice (ownA (some b1)) 16 16) rfl ?_
  refine sA (.slice (ownA (some b1)) 16 16) rfl ?_
  refine wend ?_
  refine retAny ?_
  refine retG (rs := [.tmp 2]) (vs := [.slice (ownA (some b1)) 16 16]) rfl ⟨⟨rfl, rfl⟩, trivial⟩ ?_
  exact ⟨_, rfl, HL.resN (k := 0) rfl hS hl.symm, HL.chg⟩
theorem eight_ok (x : BitVec 64) (w : World) : Calls Tryd.prog 113 [u64 (x)].toArray w (Ret fun v w' => SlRes E8 5 (eightS x 8).1 w v w' ∧ Ext w w') := by
 have H := Hp.start No w
 refine enter (n := 18) Tryd.func113 rfl rfl (bLe rfl) ?_
 refine sR ?_
 refine sA (.slice none 0 0) rfl ?_
 refine wend ?_
 refine sR ?_
 refine sA (.slice none 0 0) rfl ?_
 refine wend ?_
 refine seqAny ?_
 refine sR ?_
 refine sA (i64 ((0 : Int))) rfl ?_
 refine wend ?_
 refine blockAny ?_
 refine loopAny (σ := Nat × Option Nat × Nat × List Value) (fun (i, key, c, sp) => [(0, u64 ((eightS x i).2)), (3, .slice (ownA key) i c), (4, i64 (i : Nat))]) (fun (i, key, c, sp) w' => i ≤ 8 ∧ Sl E8 key (eightS x i).1 c sp ∧ Hp No w w' [(key, sob E8 5 ((eightS x i).1) sp)]) (fun (i, key, c, sp) => 8 - i) ((0, none, 0, [])) ?_ ?_ ?_
 ·exact ⟨rfl, rfl, rfl, trivial⟩
 ·exact ⟨by omega, Sl.none, H.nil (sob E8 5 [] [])⟩
 rintro ⟨i, key, c, sp⟩ ρ w1 ⟨hi, hS, HL⟩
 have hl := eightS_len x i
 refine seqAny ?_
 refine sR ?_
 refine sM (i64 (i : Nat)) rfl ?_
 refine sq (r_lssI (a := (i : Nat)) (b := (8 : Int)) rfl rfl) ?_
 refine wend ?_
 refine condProp (((i : Nat) : Int) < (8 : Int)) rfl (fun hk6 => ?_) (fun hk6 => ?_)
 ·skip
  refine skipAny ?_
  refine thenNormal ?_
  refine seqAny ?_
  refine blockAny ?_
  refine sR ?_
  refine sM (.slice (ownA key) i c) rfl ?_
  refine sM (u64 ((eightS x i).2)) rfl ?_
  refine sq (r_rem64 (a := (eightS x i).2) (b := 256#64) rfl rfl (by decide)) ?_
  refine sq (r_64to8 und32 und5 (a := ((eightS x i).2) % (256#64)) rfl) ?_
  refine q_buildSlice (E := E8) (l := [(((eightS x i).2) % (256#64)).setWidth 8]) HL sli174 zer5 (bLe rfl) (ps := [(0, u8 ((((eightS x i).2) % (256#64)).setWidth 8))]) rfl (by exact fillAll rfl rfl) rfl ?_
  intro b3 w5 hS4 H6 hE7
  refine q_append (E := E8) (k := 1) (l := (eightS x i).1) (l2 := [(((eightS x i).2) % (256#64)).setWidth 8]) H6 rfl hS sli174 zer5 rfl byt5 (H6.rd (k := 0) rfl hS4) rfl (by omega) rfl (by rfl) (by omega) ?_
  intro key8 c9 sp10 w12 hS11 hne14 H13
  have H13' := H13.as (L' := [((some b3), sob E8 5 ([(((eightS x i).2) % (256#64)).setWidth 8]) ([])), (key8, sob E8 5 (((eightS x i).1) ++ ([(((eightS x i).2) % (256#64)).setWidth 8])) sp10)]) rfl
  clear H13
  refine sA (.slice (ownA key8) (i + 1) c9) rfl ?_
  have H15 := H13'.dropk 0
  have H15' := H15.as (L' := [(key8, sob E8 5 (((eightS x i).1) ++ ([(((eightS x i).2) % (256#64)).setWidth 8])) sp10)]) rfl
  refine wend ?_
  refine oneRegion ?_
  refine sM (u64 ((eightS x i).2)) rfl ?_
  refine sq (r_quo64 (a := (eightS x i).2) (b := 256#64) rfl rfl (by decide)) ?_
  refine sA (u64 (((eightS x i).2) / (256#64))) rfl ?_
  refine wnil ?_
  refine blockNormal ?_
  refine thenNormal ?_
  refine oneRegion ?_
  refine sM (i64 (i : Nat)) rfl ?_
  refine sq (r_addI (a := (i : Nat)) (b := (1 : Int)) rfl rfl (by omega)) ?_
  refine sA (i64 ((i : Nat) + (1 : Int))) rfl ?_
  refine wnil ?_
  refine thenNormal ?_
  exact ⟨(i + 1, key8, c9, sp10), _, rfl, ⟨rfl, rfl, rfl, trivial⟩, ⟨by omega, hS11, H15'⟩, by show 8 - (i + 1) < 8 - i; omega⟩
 ·skip
  obtain rfl : i = 8 := by omega
  refine exitAny ?_
  refine thenExit ?_
  refine thenExit ?_
  refine blockHere ?_
  refine thenNormal ?_
  refine sR ?_
  refine sM (.slice (ownA key) 8 c) rfl ?_
  refine sA (.slice (ownA key) 8 c) rfl ?_
  refine wend ?_
  refine retAny ?_
  refine retG (rs := [.tmp 2]) (vs := [.slice (ownA key) 8 c]) rfl ⟨⟨rfl, rfl⟩, trivial⟩ ?_
  exact ⟨_, rfl, HL.resN (k := 0) rfl hS hl.symm, HL.chg⟩
theorem whole_ok (b : List By) (hb : b.length = 8) (xb : Option Addr) (cb : Nat) (w : World) (hB : Rd E8 w xb b) : Calls Tryd.prog 114 [.slice xb 8 cb].toArray w (Ret fun v w' => v = u64 (wholeS b 8) ∧ Ext w w') := by
 have H := Hp.start No w
 refine enter (n := 18) Tryd.func114 rfl rfl (bLe rfl) ?_
 refine sR ?_
 refine sA (u64 (0#64)) rfl ?_
 refine wend ?_
 refine sR ?_
 refine sA (u64 (0#64)) rfl ?_
 refine wend ?_
 refine seqAny ?_
 refine sR ?_
 refine sA (i64 ((7 : Int))) rfl ?_
 refine wend ?_
 refine blockAny ?_
 refine loopAny (σ := Nat) (fun k => [(0, .slice xb 8 cb), (3, u64 (wholeS b k)), (4, i64 (7 - (k : Nat)))]) (fun k w' => k ≤ 8 ∧ Hp No w w' []) (fun k => 8 - k) (0) ?_ ?_ ?_
 ·exact ⟨rfl, rfl, rfl, trivial⟩
 ·exact ⟨by omega, H⟩
 rintro k ρ w1 ⟨hk, H2⟩
 refine seqAny ?_
 refine sR ?_
 refine sM (i64 (7 - (k : Nat))) rfl ?_
 refine sq (r_geqI (a := 7 - (k : Nat)) (b := (0 : Int)) rfl rfl) ?_
 refine wend ?_
 refine condProp (((0 : Int) : Int) ≤ (7 - (k : Nat))) rfl (fun hk6 => ?_) (fun hk6 => ?_)
 ·skip
  refine skipAny ?_
  refine thenNormal ?_
  refine seqAny ?_
  refine blockAny ?_
  refine oneRegion ?_
  refine sM (u64 (wholeS b k)) rfl ?_
  refine sq (r_mul64 (a := wholeS b k) (b := 256#64) rfl rfl) ?_
  refine sM (.slice xb 8 cb) rfl ?_
  refine sM (i64 (7 - (k : Nat))) rfl ?_
  refine sq (r_idxS (E := E8) (l := b) (j := 7 - k) sli174 (hB.ext H2.chg) rfl rfl (by omega) (by omega) (by omega)) ?_
  refine sq (r_ldS (E := E8) (l := b) (j := 7 - k) (v := (b).getD (7 - k) 0#8) fits5 (hB.ext H2.chg) rfl rfl (at_getD (by omega))) ?_
  refine sq (r_8to64 und5 und32 (a := (b).getD (7 - k) 0#8) rfl) ?_
  refine sq (r_add64 (a := (wholeS b k) * (256#64)) (b := ((b).getD (7 - k) 0#8).setWidth 64) rfl rfl) ?_
  refine sA (u64 (((wholeS b k) * (256#64)) + (((b).getD (7 - k) 0#8).setWidth 64))) rfl ?_
  refine wnil ?_
  refine blockNormal ?_
  refine thenNormal ?_
  refine oneRegion ?_
  refine sM (i64 (7 - (k : Nat))) rfl ?_
  refine sq (r_subI (a := 7 - (k : Nat)) (b := (1 : Int)) rfl rfl (by omega)) ?_
  refine sA (i64 ((7 - (k : Nat)) - (1 : Int))) rfl ?_
  refine wnil ?_
  refine thenNormal ?_
  exact ⟨k + 1, _, rfl, ⟨rfl, rfl, congrArg i64 (by omega), trivial⟩, ⟨by omega, H2⟩, by show 8 - (k + 1) < 8 - k; omega⟩
 ·skip
  obtain rfl : k = 8 := by omega
  refine exitAny ?_
  refine thenExit ?_
  refine thenExit ?_
  refine blockHere ?_
  refine thenNormal ?_
  refine sR ?_
  refine sM (u64 (wholeS b 8)) rfl ?_
  refine sA (u64 (wholeS b 8)) rfl ?_
  refine wend ?_
  refine retAny ?_
  refine retG (rs := [.tmp 2]) (vs := [u64 (wholeS b 8)]) rfl ⟨⟨rfl, rfl⟩, trivial⟩ ?_
  exact ⟨_, rfl, rfl, H2.chg⟩
theorem rdouble_ok (a b : BitVec 64) (w : World) : Calls Tryd.prog 111 [.agg (cel E64 [a, b]).toArray].toArray w (Ret fun v w' => v = .agg (cel E64 [(dblR a b).1, (dblR a b).2]).toArray ∧ Ext w w') := by
 have H := Hp.start No w
 refine enter (n := 23) Tryd.func111 rfl rfl (bLe rfl) ?_
 refine sR ?_
 refine q_box (v := .agg (cel E64 [a, b]).toArray) (o := .cells (cel E64 ([a, b])).toArray 38 (0, 0)) H rfl (by rfl) ?_
 intro b1 w2 hb1 H3 hE4
 refine q_alloc (o := .cells (cel E64 ([0#64, 0#64])).toArray 38 (0, 0)) H3 zer38 (by kernel_rfl) ?_
 intro b5 w6 hb5 H7 hE8
 refine wend ?_
 refine sR ?_
 refine sq (r_indexA (off' := 0) (j := 0) arr38 (b := b1) (off := 0) rfl rfl (by first | rfl | omega | (simp; omega)) (by omega) (by omega)) ?_
 refine sq (r_ld1 (E := E64) (l := [a, b]) (j := 0) (a := a) fits32 (H7.get (k := 1) rfl) (by rfl) rfl rfl) ?_
 refine sq (r_mul64 (a := a) (b := 2#64) rfl rfl) ?_
 refine sA (u64 (a * (2#64))) rfl ?_
 refine wend ?_
 refine sR ?_
 refine sq (r_indexA (off' := 1) (j := 1) arr38 (b := b1) (off := 0) rfl rfl (by first | rfl | omega | (simp; omega)) (by omega) (by omega)) ?_
 refine sq (r_ld1 (E := E64) (l := [a, b]) (j := 1) (a := b) fits32 (H7.get (k := 1) rfl) (by rfl) rfl rfl) ?_
 refine sq (r_mul64 (a := b) (b := 2#64) rfl rfl) ?_
 refine sq (r_indexA (off' := 0) (j := 0) arr38 (b := b1) (off := 0) rfl rfl (by first | rfl | omega | (simp; omega)) (by omega) (by omega)) ?_
 refine sq (r_ld1 (E := E64) (l := [a, b]) (j := 0) (a := a) fits32 (H7.get (k := 1) rfl) (by rfl) rfl rfl) ?_
 refine sq (r_quo64 (a := a) (b := 9223372036854775808#64) rfl rfl (by decide)) ?_
 refine sq (r_add64 (a := b * (2#64)) (b := a / (9223372036854775808#64)) rfl rfl) ?_
 refine sA (u64 ((b * (2#64)) + (a / (9223372036854775808#64)))) rfl ?_
 refine wend ?_
 refine seqAny ?_
 refine sR ?_
 refine sq (r_indexA (off' := 1) (j := 1) arr38 (b := b1) (off := 0) rfl rfl (by first | rfl | omega | (simp; omega)) (by omega) (by omega)) ?_
 refine sq (r_ld1 (E := E64) (l := [a, b]) (j := 1) (a := b) fits32 (H7.get (k := 1) rfl) (by rfl) rfl rfl) ?_
 refine sq (r_geq64 (a := b) (b := 9223372036854775808#64) rfl rfl) ?_
 refine wend ?_
 refine condProp ((9223372036854775808#64).toNat ≤ b.toNat) rfl (fun c => ?_) (fun c => ?_)
 ·skip
  refine oneRegion ?_
  refine sM (u64 (a * (2#64))) rfl ?_
  refine sq (r_xor64 (a := a * (2#64)) (b := 135#64) rfl rfl) ?_
  refine sA (u64 ((a * (2#64)) ^^^ (135#64))) rfl ?_
  refine wnil ?_
  refine thenNormal ?_
  refine sR ?_
  refine sM (u64 ((a * (2#64)) ^^^ (135#64))) rfl ?_
  refine sM (u64 ((b * (2#64)) + (a / (9223372036854775808#64)))) rfl ?_
  refine sq (r_buildA (cs' := (cel E64 [(a * (2#64)) ^^^ (135#64), (b * (2#64)) + (a / (9223372036854775808#64))]).toArray) (ps := [(0, u64 ((a * (2#64)) ^^^ (135#64))), (1, u64 ((b * (2#64)) + (a / (9223372036854775808#64))))]) zer38 arr38 rfl (by rfl)) ?_
  refine d_store (k := 0) (v := .agg (cel E64 [(a * (2#64)) ^^^ (135#64), (b * (2#64)) + (a / (9223372036854775808#64))]).toArray) (cs' := (cel E64 ([(a * (2#64)) ^^^ (135#64), (b * (2#64)) + (a / (9223372036854775808#64))])).toArray) H7 rfl rfl rfl siz38 (by exact celSize (by first | rfl | (show _ * 1 = _; omega))) (by exact celOne _) (by rw [List.size_toArray, cel_length]; show _ ≤ _ * 1; first | omega | (simp only [List.length_set]; omega) | exact bLe rfl | (simp <;> omega)) (by exact putAll (by first | rfl | omega | (simp <;> omega))) ?_
  intro w9 H10 hC11
  have H10' := H10.as (L' := [(some b5, .cells (cel E64 ([(a * (2#64)) ^^^ (135#64), (b * (2#64)) + (a / (9223372036854775808#64))])).toArray 38 (0, 0)), (some b1, .cells (cel E64 ([a, b])).toArray 38 (0, 0))]) rfl
  clear H10
  refine wend ?_
  refine retAny ?_
  refine retG (rs := [.cell 2 38]) (vs := [.agg (cel E64 ([(a * (2#64)) ^^^ (135#64), (b * (2#64)) + (a / (9223372036854775808#64))])).toArray]) rfl ⟨r_loadA (cs' := (cel E64 ([(a * (2#64)) ^^^ (135#64), (b * (2#64)) + (a / (9223372036854775808#64))])).toArray) agg38 siz38 (H10'.get (k := 0) rfl) (off := 0) rfl (by exact bLe rfl) (by exact ext_all rfl), trivial⟩ ?_
  have e : dblR a b = ((a * (2#64)) ^^^ (135#64), (b * (2#64)) + (a / (9223372036854775808#64))) := by simp only [dblR]; first | rw [if_pos c] | rw [if_neg c]
  exact ⟨_, rfl, by rw [e]; rfl, H10'.chg⟩
 ·skip
  refine skipAny ?_
  refine thenNormal ?_
  refine sR ?_
  refine sM (u64 (a * (2#64))) rfl ?_
  refine sM (u64 ((b * (2#64)) + (a / (9223372036854775808#64)))) rfl ?_
  refine sq (r_buildA (cs' := (cel E64 [a * (2#64), (b * (2#64)) + (a / (9223372036854775808#64))]).toArray) (ps := [(0, u64 (a * (2#64))), (1, u64 ((b * (2#64)) + (a / (9223372036854775808#64))))]) zer38 arr38 rfl (by rfl)) ?_
  refine d_store (k := 0) (v := .agg (cel E64 [a * (2#64), (b * (2#64)) + (a / (9223372036854775808#64))]).toArray) (cs' := (cel E64 ([a * (2#64), (b * (2#64)) + (a / (9223372036854775808#64))])).toArray) H7 rfl rfl rfl siz38 (by exact celSize (by first | rfl | (show _ * 1 = _; omega))) (by exact celOne _) (by rw [List.size_toArray, cel_length]; show _ ≤ _ * 1; first | omega | (simp only [List.length_set]; omega) | exact bLe rfl | (simp <;> omega)) (by exact putAll (by first | rfl | omega | (simp <;> omega))) ?_
  intro w12 H13 hC14
  have H13' := H13.as (L' := [(some b5, .cells (cel E64 ([a * (2#64), (b * (2#64)) + (a / (9223372036854775808#64))])).toArray 38 (0, 0)), (some b1, .cells (cel E64 ([a, b])).toArray 38 (0, 0))]) rfl
  clear H13
  refine wend ?_
  refine retAny ?_
  refine retG (rs := [.cell 2 38]) (vs := [.agg (cel E64 ([a * (2#64), (b * (2#64)) + (a / (9223372036854775808#64))])).toArray]) rfl ⟨r_loadA (cs' := (cel E64 ([a * (2#64), (b * (2#64)) + (a / (9223372036854775808#64))])).toArray) agg38 siz38 (H13'.get (k := 0) rfl) (off := 0) rfl (by exact bLe rfl) (by exact ext_all rfl), trivial⟩ ?_
  have e : dblR a b = (a * (2#64), (b * (2#64)) + (a / (9223372036854775808#64))) := by simp only [dblR]; first | rw [if_pos c] | rw [if_neg c]
  exact ⟨_, rfl, by rw [e]; rfl, H13'.chg⟩
theorem renc_ok (ks bx b : List By) (hks : ks.length = 176) (hbx : bx.length = 256) (hbl : b.length = 16) (xk xb xl : Option Addr) (ck cb cl : Nat) (hck : 176 ≤ ck) (w : World) (hK : Rd E8 w xk ks) (hB : Rd E8 w xb bx) (hL : Rd E8 w xl b) : Calls Tryd.prog 112 [.agg #[.slice xk 176 ck, .slice xb 256 cb], .slice xl 16 cl].toArray w (Ret fun v w' => SlRes E8 5 (encR ks bx b 10) w v w' ∧ Ext w w') := by
 have H := Hp.start No w
 refine enter (n := 63) Tryd.func112 rfl rfl (bLe rfl) ?_
 refine sR ?_
 refine q_box (v := .agg #[.slice xk 176 ck, .slice xb 256 cb]) (o := .cells #[.slice xk 176 ck, .slice xb 256 cb] 176 (0, 0)) H rfl (by rfl) ?_
 intro b1 w2 hb1 H3 hE4
 refine sA (.slice none 0 0) rfl ?_
 refine wend ?_
 refine sR ?_
 refine sM (.slice xl 16 cl) rfl ?_
 refine sq (r_fieldAddr (off' := 0) fld176_0 (by decide) (b := b1) (off := 0) rfl (by omega)) ?_
 refine sq (r_loadC (v := .slice xk 176 ck) one174 (H3.get (k := 0) rfl) (off := 0) rfl (by rfl)) ?_
 refine sq ((r_sliceS (l := 0) (h := 16) sli174 rfl (.inr ⟨rfl, rfl⟩) (.inl ⟨_, _, _, rfl, rfl, by first | rfl | omega | (simp; omega)⟩) (by omega) (by omega)).as (v' := .slice (if ck = 0 then xk else adr xk (0 * 1)) 16 (ck - 0)) (by rw [show 16 - 0 = 16 by omega])) ?_
 refine c_call (vs := [.slice xl 16 cl, .slice (if ck = 0 then xk else adr xk (0 * 1)) 16 (ck - 0)]) call123 rfl (add_ok b ((ks.drop 0).take (16)) (by first | omega | (rw [List.length_take, List.length_drop]; omega)) (by first | omega | (rw [List.length_take, List.length_drop]; omega)) xl (if ck = 0 then xk else adr xk (0 * 1)) cl (ck - 0) w2 (hL.ext H3.chg) (Rd.sub (hK.ext H3.chg) 0 (16) (m := ck) (fun e => by first | exact absurd e (by omega) | (rw [show 16 = 0 by omega]; rfl)))) ?_
 rintro _ w5 ⟨⟨key7, c8, sp9, rfl, hS10, hk11⟩, hE12⟩
 rw [show (addR b ((ks.drop 0).take (16)) 16).length = 16 from addR_len _ _ _]
 have H13 := H3.add hE12 hk11
 refine sA (.slice (ownA key7) 16 c8) rfl ?_
 have hb0 : (encR ks bx b 0).length = 16 := encR_len _ _ _ _
 have e14 : addR b ((ks.drop 0).take (16)) 16 = encR ks bx b 0 := by rw [encR]
 have hS15 := hS10
 rw [e14] at hS15
 have H16 := H13.as (L' := [(key7, sob E8 5 (encR ks bx b 0) sp9), (some b1, .cells #[.slice xk 176 ck, .slice xb 256 cb] 176 (0, 0))]) (by rw [e14])
 refine wend ?_
 refine seqAny ?_
 refine sR ?_
 refine sA (i64 ((1 : Int))) rfl ?_
 refine wend ?_
 refine blockAny ?_
 refine loopAny (σ := Nat × Option Nat × Nat × List Value) (fun (k, key, cc, sp) => [(2, pT b1), (5, .slice (ownA key) 16 cc), (6, i64 ((k + 1 : Nat)))]) (fun (k, key, cc, sp) w' => k ≤ 10 ∧ Sl E8 key (encR ks bx b k) cc sp ∧ Hp No w w' [(key, sob E8 5 (encR ks bx b k) sp), (some b1, .cells #[.slice xk 176 ck, .slice xb 256 cb] 176 (0, 0))]) (fun (k, key, cc, sp) => 10 - k) ((0, key7, c8, sp9)) ?_ ?_ ?_
 ·exact ⟨rfl, rfl, rfl, trivial⟩
 ·exact ⟨by omega, hS15, H16⟩
 rintro ⟨k, key, cc, sp⟩ ρ w17 ⟨hk, hS, HL⟩
 have hl := encR_len ks bx b k
 refine seqAny ?_
 refine sR ?_
 refine sM (i64 ((k + 1 : Nat))) rfl ?_
 refine sq (r_leqI (a := (k + 1 : Nat)) (b := (10 : Int)) rfl rfl) ?_
 refine wend ?_
 refine condProp (((k + 1 : Nat) : Int) ≤ (10 : Int)) rfl (fun hk16 => ?_) (fun hk16 => ?_)
 ·skip
  refine skipAny ?_
  refine thenNormal ?_
  refine seqAny ?_
  refine blockAny ?_
  refine sR ?_
  refine q_makeSlice (E := E8) (m := 16) (c := 16) (z0 := 0#8) HL sli174 zer5 rfl byt5 rfl rfl (by first | rfl | omega | (simp; omega)) (by first | rfl | omega | (simp; omega)) (by omega) (by omega) ?_
  intro b19 w21 hS20 H22 hE23
  refine sA (.slice (ownA (some b19)) 16 16) rfl ?_
  refine wend ?_
  refine seqAny ?_
  refine sR ?_
  refine sA (i64 ((0 : Int))) rfl ?_
  refine wend ?_
  refine blockAny ?_
  refine loopAny (σ := Nat) (fun c => [(2, pT b1), (5, .slice (ownA key) 16 cc), (6, i64 ((k + 1 : Nat))), (7, .slice (ownA (some b19)) 16 16), (8, i64 (c : Nat))]) (fun c w' => c ≤ 4 ∧ Sl E8 (some b19) (shRS bx (encR ks bx b k) c) 16 (cel E8 (List.replicate (16 - 16) 0#8)) ∧ Hp No w w' [((some b19), sob E8 5 (shRS bx (encR ks bx b k) c) (cel E8 (List.replicate (16 - 16) 0#8))), (key, sob E8 5 (encR ks bx b k) sp), (some b1, .cells #[.slice xk 176 ck, .slice xb 256 cb] 176 (0, 0))]) (fun c => 4 - c) (0) ?_ ?_ ?_
  ·exact ⟨rfl, rfl, rfl, rfl, rfl, trivial⟩
  ·exact ⟨by omega, hS20, H22⟩
  rintro c ρ w24 ⟨hc, hS2, HL2⟩
  have hl2 := shRS_len bx (encR ks bx b k) c
  refine seqAny ?_
  refine sR ?_
  refine sM (i64 (c : Nat)) rfl ?_
  refine sq (r_lssI (a := (c : Nat)) (b := (4 : Int)) rfl rfl) ?_
  refine wend ?_
  refine condProp (((c : Nat) : Int) < (4 : Int)) rfl (fun hk21 => ?_) (fun hk21 => ?_)
  ·skip
   refine skipAny ?_
   refine thenNormal ?_
   refine seqAny ?_
   refine blockAny ?_
   refine sR ?_
   refine sA (i64 ((0 : Int))) rfl ?_
   refine wend ?_
   refine blockAny ?_
   refine loopAny (σ := Nat) (fun r => [(2, pT b1), (5, .slice (ownA key) 16 cc), (6, i64 ((k + 1 : Nat))), (7, .slice (ownA (some b19)) 16 16), (8, i64 (c : Nat)), (9, i64 (r : Nat))]) (fun r w' => r ≤ 4 ∧ Sl E8 (some b19) (shRI bx (encR ks bx b k) (shRS bx (encR ks bx b k) c) c r) 16 (cel E8 (List.replicate (16 - 16) 0#8)) ∧ Hp No w w' [((some b19), sob E8 5 (shRI bx (encR ks bx b k) (shRS bx (encR ks bx b k) c) c r) (cel E8 (List.replicate (16 - 16) 0#8))), (key, sob E8 5 (encR ks bx b k) sp), (some b1, .cells #[.slice xk 176 ck, .slice xb 256 cb] 176 (0, 0))]) (fun r => 4 - r) (0) ?_ ?_ ?_
   ·exact ⟨rfl, rfl, rfl, rfl, rfl, rfl, trivial⟩
   ·exact ⟨by omega, hS2, HL2⟩
   rintro r ρ w26 ⟨hr, hS3, HL3⟩
   have hl3 := shRI_len bx (encR ks bx b k) (shRS bx (encR ks bx b k) c) c r
   rw [hl2] at hl3
   refine seqAny ?_
   refine sR ?_
   refine sM (i64 (r : Nat)) rfl ?_
   refine sq (r_lssI (a := (r : Nat)) (b := (4 : Int)) rfl rfl) ?_
   refine wend ?_
   refine condProp (((r : Nat) : Int) < (4 : Int)) rfl (fun hk25 => ?_) (fun hk25 => ?_)
   ·skip
    refine skipAny ?_
    refine thenNormal ?_
    refine seqAny ?_
    refine blockAny ?_
    refine drawAny (K := [none, none, none, none, none, none, none, none, none, none, none, none, none, none, none, none, none, none, none, none]) [0, 0, 2, 0, 14, 0, 32, 0, 0, 0, 768, 1792, 3840, 0, 16128, 32640, 65408, 131040, 262112, 524287, 1048575] (fun w' => Ext w26 w') (fun w' w'' => Ext w' w'') mixed (by kernel_rfl) (Ext.drew _) (fun _ _ h h' => h.trans h') ?_ ?_
    ·exact relNone (by decide)
    refine ⟨.slice (ownA (some b19)) 16 16, fun _ uw28 hC29 _ => Gives.run rfl (r_move (v := .slice (ownA (some b19)) 16 16) rfl) ⟨rfl, Chg.refl _ _⟩, ?_⟩
    refine ⟨i64 (c : Nat), fun _ uw30 hC31 _ => Gives.run rfl (r_move (v := i64 (c : Nat)) rfl) ⟨rfl, Chg.refl _ _⟩, ?_⟩
    refine ⟨i64 ((4 : Int) * (c : Nat)), fun _ uw32 hC33 _ => Gives.run rfl (r_mulI (a := (4 : Int)) (b := (c : Nat)) rfl rfl (by omega)) ⟨rfl, Chg.refl _ _⟩, ?_⟩
    refine ⟨i64 (r : Nat), fun _ uw34 hC35 _ => Gives.run rfl (r_move (v := i64 (r : Nat)) rfl) ⟨rfl, Chg.refl _ _⟩, ?_⟩
    refine ⟨i64 (((4 : Int) * (c : Nat)) + (r : Nat)), fun _ uw36 hC37 _ => Gives.run rfl (r_addI (a := (4 : Int) * (c : Nat)) (b := (r : Nat)) rfl rfl (by omega)) ⟨rfl, Chg.refl _ _⟩, ?_⟩
    refine ⟨.pointer (some ⟨b1, 1, none⟩), fun _ uw38 hC39 _ => Gives.run rfl (r_fieldAddr (off' := 1) fld176_1 (by decide) (b := b1) (off := 0) rfl (by omega)) ⟨rfl, Chg.refl _ _⟩, ?_⟩
    refine ⟨.slice xb 256 cb, fun _ uw40 hC41 _ => Gives.run rfl (r_loadC (v := .slice xb 256 cb) one174 ((HL3.ext hC41).get (k := 2) rfl) (off := 1) rfl (by rfl)) ⟨rfl, Chg.refl _ _⟩, ?_⟩
    refine ⟨.slice (ownA key) 16 cc, fun _ uw42 hC43 _ => Gives.run rfl (r_move (v := .slice (ownA key) 16 cc) rfl) ⟨rfl, Chg.refl _ _⟩, ?_⟩
    refine ⟨i64 (c : Nat), fun _ uw44 hC45 _ => Gives.run rfl (r_move (v := i64 (c : Nat)) rfl) ⟨rfl, Chg.refl _ _⟩, ?_⟩
    refine ⟨i64 (r : Nat), fun _ uw46 hC47 _ => Gives.run rfl (r_move (v := i64 (r : Nat)) rfl) ⟨rfl, Chg.refl _ _⟩, ?_⟩
    refine ⟨i64 ((c : Nat) + (r : Nat)), fun _ uw48 hC49 _ => Gives.run rfl (r_addI (a := (c : Nat)) (b := (r : Nat)) rfl rfl (by omega)) ⟨rfl, Chg.refl _ _⟩, ?_⟩
    refine ⟨i64 (((c : Nat) + (r : Nat)) % (4 : Int)), fun _ uw50 hC51 _ => Gives.run rfl (r_remI (a := (c : Nat) + (r : Nat)) (b := (4 : Int)) rfl rfl (by omega)) ⟨rfl, Chg.refl _ _⟩, ?_⟩
    refine ⟨i64 ((4 : Int) * (((c : Nat) + (r : Nat)) % (4 : Int))), fun _ uw52 hC53 _ => Gives.run rfl (r_mulI (a := (4 : Int)) (b := ((c : Nat) + (r : Nat)) % (4 : Int)) rfl rfl (by omega)) ⟨rfl, Chg.refl _ _⟩, ?_⟩
    refine ⟨i64 (r : Nat), fun _ uw54 hC55 _ => Gives.run rfl (r_move (v := i64 (r : Nat)) rfl) ⟨rfl, Chg.refl _ _⟩, ?_⟩
    refine ⟨i64 (((4 : Int) * (((c : Nat) + (r : Nat)) % (4 : Int))) + (r : Nat)), fun _ uw56 hC57 _ => Gives.run rfl (r_addI (a := (4 : Int) * (((c : Nat) + (r : Nat)) % (4 : Int))) (b := (r : Nat)) rfl rfl (by omega)) ⟨rfl, Chg.refl _ _⟩, ?_⟩
    refine ⟨.pointer (adr (ownA key) (((4 * ((c + r) % 4)) + r) * 1)), fun _ uw58 hC59 _ => Gives.run rfl (r_idxS (E := E8) (l := encR ks bx b k) (j := (4 * ((c + r) % 4)) + r) sli174 ((HL3.ext hC59).rd (k := 1) rfl hS) rfl rfl (by first | rfl | omega | (simp; omega)) (by omega) (by omega)) ⟨rfl, Chg.refl _ _⟩, ?_⟩
    refine ⟨u8 ((encR ks bx b k).getD ((4 * ((c + r) % 4)) + r) 0#8), fun _ uw60 hC61 _ => Gives.run rfl (r_ldS (E := E8) (l := encR ks bx b k) (j := (4 * ((c + r) % 4)) + r) (v := (encR ks bx b k).getD ((4 * ((c + r) % 4)) + r) 0#8) fits5 ((HL3.ext hC61).rd (k := 1) rfl hS) rfl rfl (at_getD (by omega))) ⟨rfl, Chg.refl _ _⟩, ?_⟩
    refine ⟨.pointer (adr xb ((((encR ks bx b k).getD ((4 * ((c + r) % 4)) + r) 0#8).toNat) * 1)), fun _ uw62 hC63 _ => Gives.run rfl (r_idxS (E := E8) (l := bx) (j := ((encR ks bx b k).getD ((4 * ((c + r) % 4)) + r) 0#8).toNat) sli174 (hB.ext (HL3.ext hC63).chg) rfl rfl (by first | rfl | omega | (simp; omega)) (by omega) (by have := ((encR ks bx b k).getD (4 * ((c + r) % 4) + r) 0#8).isLt; omega)) ⟨rfl, Chg.refl _ _⟩, ?_⟩
    refine ⟨u8 ((bx).getD (((encR ks bx b k).getD ((4 * ((c + r) % 4)) + r) 0#8).toNat) 0#8), fun _ uw64 hC65 _ => Gives.run rfl (r_ldS (E := E8) (l := bx) (j := ((encR ks bx b k).getD ((4 * ((c + r) % 4)) + r) 0#8).toNat) (v := (bx).getD (((encR ks bx b k).getD ((4 * ((c + r) % 4)) + r) 0#8).toNat) 0#8) fits5 (hB.ext (HL3.ext hC65).chg) rfl rfl (at_getD (by have := ((encR ks bx b k).getD (4 * ((c + r) % 4) + r) 0#8).isLt; omega))) ⟨rfl, Chg.refl _ _⟩, ?_⟩
    refine ⟨.pointer (adr (ownA (some b19)) (((4 * c) + r) * 1)), fun _ uw66 hC67 _ => Gives.run rfl (r_idxS (E := E8) (l := shRI bx (encR ks bx b k) (shRS bx (encR ks bx b k) c) c r) (j := (4 * c) + r) sli174 ((HL3.ext hC67).rd (k := 0) rfl hS3) rfl rfl (by first | rfl | omega | (simp; omega)) (by omega) (by omega)) ⟨rfl, Chg.refl _ _⟩, ?_⟩
    intro r71 w68 hE70 hF
    have H69 := HL3.ext hE70
    refine d_storeS (E := E8) (k := 0) (l := shRI bx (encR ks bx b k) (shRS bx (encR ks bx b k) c) c r) (j := (4 * c) + r) (b := (bx).getD (((encR ks bx b k).getD ((4 * ((c + r) % 4)) + r) 0#8).toNat) 0#8) (a := (shRI bx (encR ks bx b k) (shRS bx (encR ks bx b k) c) c r).getD ((4 * c) + r) 0#8) H69 rfl hS3 rfl rfl rfl rfl siz5 (at_getD (by omega)) ?_
    intro w73 hS72 H74
    have H74' := H74.as (L' := [((some b19), sob E8 5 ((shRI bx (encR ks bx b k) (shRS bx (encR ks bx b k) c) c r).set ((4 * c) + r) ((bx).getD (((encR ks bx b k).getD ((4 * ((c + r) % 4)) + r) 0#8).toNat) 0#8)) (cel E8 (List.replicate (16 - 16) 0#8))), (key, sob E8 5 (encR ks bx b k) sp), (some b1, .cells #[.slice xk 176 ck, .slice xb 256 cb] 176 (0, 0))]) rfl
    clear H74
    refine wnil ?_
    refine blockNormal ?_
    refine thenNormal ?_
    refine oneRegion ?_
    refine sM (i64 (r : Nat)) rfl ?_
    refine sq (r_addI (a := (r : Nat)) (b := (1 : Int)) rfl rfl (by omega)) ?_
    refine sA (i64 ((r : Nat) + (1 : Int))) rfl ?_
    refine wnil ?_
    refine thenNormal ?_
    exact ⟨r + 1, _, rfl, ⟨rfl, rfl, rfl, rfl, rfl, rfl, trivial⟩, ⟨by omega, hS72, H74'⟩, by show 4 - (r + 1) < 4 - r; omega⟩
   ·skip
    obtain rfl : r = 4 := by omega
    refine exitAny ?_
    refine thenExit ?_
    refine thenExit ?_
    refine blockHere ?_
    refine blockNormal ?_
    refine thenNormal ?_
    refine oneRegion ?_
    refine sM (i64 (c : Nat)) rfl ?_
    refine sq (r_addI (a := (c : Nat)) (b := (1 : Int)) rfl rfl (by omega)) ?_
    refine sA (i64 ((c : Nat) + (1 : Int))) rfl ?_
    refine wnil ?_
    refine thenNormal ?_
    exact ⟨c + 1, _, rfl, ⟨rfl, rfl, rfl, rfl, rfl, trivial⟩, ⟨by omega, hS3, HL3⟩, by show 4 - (c + 1) < 4 - c; omega⟩
  ·skip
   obtain rfl : c = 4 := by omega
   refine exitAny ?_
   refine thenExit ?_
   refine thenExit ?_
   refine blockHere ?_
   refine thenNormal ?_
   refine seqAny ?_
   refine sR ?_
   refine sM (i64 ((k + 1 : Nat))) rfl ?_
   refine sq (r_lssI (a := (k + 1 : Nat)) (b := (10 : Int)) rfl rfl) ?_
   refine wend ?_
   refine condProp (((k + 1 : Nat) : Int) < (10 : Int)) rfl (fun hk49 => ?_) (fun hk49 => ?_)
   ·skip
    refine oneRegion ?_
    refine sM (.slice (ownA (some b19)) 16 16) rfl ?_
    refine c_call (vs := [.slice (ownA (some b19)) 16 16]) call124 rfl (rmix_ok (shRS bx (encR ks bx b k) 4) (by first | omega | (rw [List.length_take, List.length_drop]; omega)) (ownA (some b19)) 16 w24 (HL2.rd (k := 0) rfl hS2)) ?_
    rintro _ w75 ⟨⟨key77, c78, sp79, rfl, hS80, hk81⟩, hE82⟩
    rw [show (mixRS (shRS bx (encR ks bx b k) 4) 4).length = 16 from mixRS_len _ _]
    have H83 := HL2.add hE82 hk81
    refine sA (.slice (ownA key77) 16 c78) rfl ?_
    have e84 : mixRS (shRS bx (encR ks bx b k) 4) 4 = rndR bx (encR ks bx b k) (k + 1) := by rw [rndR, if_pos (by omega)]
    have hS85 := hS80
    rw [e84] at hS85
    have H86 := H83.as (L' := [(key77, sob E8 5 (rndR bx (encR ks bx b k) (k + 1)) sp79), ((some b19), sob E8 5 (shRS bx (encR ks bx b k) 4) (cel E8 (List.replicate (16 - 16) 0#8))), (key, sob E8 5 (encR ks bx b k) sp), (some b1, .cells #[.slice xk 176 ck, .slice xb 256 cb] 176 (0, 0))]) (by rw [e84])
    refine wnil ?_
    refine thenNormal ?_
    refine oneRegion ?_
    refine sM (.slice (ownA key77) 16 c78) rfl ?_
    refine sq (r_fieldAddr (off' := 0) fld176_0 (by decide) (b := b1) (off := 0) rfl (by omega)) ?_
    refine sq (r_loadC (v := .slice xk 176 ck) one174 (H86.get (k := 3) rfl) (off := 0) rfl (by rfl)) ?_
    refine sM (i64 ((k + 1 : Nat))) rfl ?_
    refine sq (r_mulI (a := (16 : Int)) (b := (k + 1 : Nat)) rfl rfl (by omega)) ?_
    refine sM (i64 ((k + 1 : Nat))) rfl ?_
    refine sq (r_mulI (a := (16 : Int)) (b := (k + 1 : Nat)) rfl rfl (by omega)) ?_
    refine sq (r_addI (a := (16 : Int) * (k + 1 : Nat)) (b := (16 : Int)) rfl rfl (by omega)) ?_
    refine sq ((r_sliceS (l := 16 * (k + 1)) (h := 16 * (k + 1) + 16) sli174 rfl (.inl ⟨_, _, _, rfl, rfl, by first | rfl | omega | (simp; omega)⟩) (.inl ⟨_, _, _, rfl, rfl, by first | rfl | omega | (simp; omega)⟩) (by omega) (by omega)).as (v' := .slice (if ck = 16 * (k + 1) then xk else adr xk ((16 * (k + 1)) * 1)) 16 (ck - (16 * (k + 1)))) (by rw [show (16 * (k + 1) + 16) - (16 * (k + 1)) = 16 by omega])) ?_
    refine c_call (vs := [.slice (ownA key77) 16 c78, .slice (if ck = 16 * (k + 1) then xk else adr xk ((16 * (k + 1)) * 1)) 16 (ck - (16 * (k + 1)))]) call123 rfl (add_ok (rndR bx (encR ks bx b k) (k + 1)) ((ks.drop (16 * (k + 1))).take (16)) (by exact rndR_len _ _ _) (by first | omega | (rw [List.length_take, List.length_drop]; omega)) (ownA key77) (if ck = 16 * (k + 1) then xk else adr xk ((16 * (k + 1)) * 1)) c78 (ck - (16 * (k + 1))) w75 (H86.rd (k := 0) rfl hS85) (Rd.sub (hK.ext H86.chg) (16 * (k + 1)) (16) (m := ck) (fun e => by first | exact absurd e (by omega) | (rw [show 16 = 0 by omega]; rfl)))) ?_
    rintro _ w87 ⟨⟨key89, c90, sp91, rfl, hS92, hk93⟩, hE94⟩
    rw [show (addR (rndR bx (encR ks bx b k) (k + 1)) ((ks.drop (16 * (k + 1))).take (16)) 16).length = 16 from addR_len _ _ _]
    have H95 := H86.add hE94 hk93
    refine sA (.slice (ownA key89) 16 c90) rfl ?_
    have e96 : addR (rndR bx (encR ks bx b k) (k + 1)) ((ks.drop (16 * (k + 1))).take (16)) 16 = encR ks bx b (k + 1) := by rw [encR]
    have hS97 := hS92
    rw [e96] at hS97
    have H98 := H95.as (L' := [(key89, sob E8 5 (encR ks bx b (k + 1)) sp91), (key77, sob E8 5 (rndR bx (encR ks bx b k) (k + 1)) sp79), ((some b19), sob E8 5 (shRS bx (encR ks bx b k) 4) (cel E8 (List.replicate (16 - 16) 0#8))), (key, sob E8 5 (encR ks bx b k) sp), (some b1, .cells #[.slice xk 176 ck, .slice xb 256 cb] 176 (0, 0))]) (by rw [e96])
    refine wnil ?_
    refine blockNormal ?_
    refine thenNormal ?_
    refine oneRegion ?_
    refine sM (i64 ((k + 1 : Nat))) rfl ?_
    refine sq (r_addI (a := (k + 1 : Nat)) (b := (1 : Int)) rfl rfl (by omega)) ?_
    refine sA (i64 ((k + 1 : Nat) + (1 : Int))) rfl ?_
    refine wnil ?_
    refine thenNormal ?_
    exact ⟨(k + 1, key89, c90, sp91), _, rfl, ⟨rfl, rfl, congrArg i64 (by omega), trivial⟩, ⟨by omega, hS97, (((H98.dropk 3).dropk 2).dropk 1).as rfl⟩, by show 10 - (k + 1) < 10 - k; omega⟩
   ·skip
    have e99 : shRS bx (encR ks bx b k) 4 = rndR bx (encR ks bx b k) (k + 1) := by rw [rndR, if_neg (by omega)]
    have hS100 := hS2
    rw [e99] at hS100
    have H101 := HL2.as (L' := [((some b19), sob E8 5 (rndR bx (encR ks bx b k) (k + 1)) (cel E8 (List.replicate (16 - 16) 0#8))), (key, sob E8 5 (encR ks bx b k) sp), (some b1, .cells #[.slice xk 176 ck, .slice xb 256 cb] 176 (0, 0))]) (by rw [e99])
    refine skipAny ?_
    refine thenNormal ?_
    refine oneRegion ?_
    refine sM (.slice (ownA (some b19)) 16 16) rfl ?_
    refine sq (r_fieldAddr (off' := 0) fld176_0 (by decide) (b := b1) (off := 0) rfl (by omega)) ?_
    refine sq (r_loadC (v := .slice xk 176 ck) one174 (H101.get (k := 2) rfl) (off := 0) rfl (by rfl)) ?_
    refine sM (i64 ((k + 1 : Nat))) rfl ?_
    refine sq (r_mulI (a := (16 : Int)) (b := (k + 1 : Nat)) rfl rfl (by omega)) ?_
    refine sM (i64 ((k + 1 : Nat))) rfl ?_
    refine sq (r_mulI (a := (16 : Int)) (b := (k + 1 : Nat)) rfl rfl (by omega)) ?_
    refine sq (r_addI (a := (16 : Int) * (k + 1 : Nat)) (b := (16 : Int)) rfl rfl (by omega)) ?_
    refine sq ((r_sliceS (l := 16 * (k + 1)) (h := 16 * (k + 1) + 16) sli174 rfl (.inl ⟨_, _, _, rfl, rfl, by first | rfl | omega | (simp; omega)⟩) (.inl ⟨_, _, _, rfl, rfl, by first | rfl | omega | (simp; omega)⟩) (by omega) (by omega)).as (v' := .slice (if ck = 16 * (k + 1) then xk else adr xk ((16 * (k + 1)) * 1)) 16 (ck - (16 * (k + 1)))) (by rw [show (16 * (k + 1) + 16) - (16 * (k + 1)) = 16 by omega])) ?_
    refine c_call (vs := [.slice (ownA (some b19)) 16 16, .slice (if ck = 16 * (k + 1) then xk else adr xk ((16 * (k + 1)) * 1)) 16 (ck - (16 * (k + 1)))]) call123 rfl (add_ok (rndR bx (encR ks bx b k) (k + 1)) ((ks.drop (16 * (k + 1))).take (16)) (by exact rndR_len _ _ _) (by first | omega | (rw [List.length_take, List.length_drop]; omega)) (ownA (some b19)) (if ck = 16 * (k + 1) then xk else adr xk ((16 * (k + 1)) * 1)) 16 (ck - (16 * (k + 1))) w24 (H101.rd (k := 0) rfl hS100) (Rd.sub (hK.ext H101.chg) (16 * (k + 1)) (16) (m := ck) (fun e => by first | exact absurd e (by omega) | (rw [show 16 = 0 by omega]; rfl)))) ?_
    rintro _ w102 ⟨⟨key104, c105, sp106, rfl, hS107, hk108⟩, hE109⟩
    rw [show (addR (rndR bx (encR ks bx b k) (k + 1)) ((ks.drop (16 * (k + 1))).take (16)) 16).length = 16 from addR_len _ _ _]
    have H110 := H101.add hE109 hk108
    refine sA (.slice (ownA key104) 16 c105) rfl ?_
    have e111 : addR (rndR bx (encR ks bx b k) (k + 1)) ((ks.drop (16 * (k + 1))).take (16)) 16 = encR ks bx b (k + 1) := by rw [encR]
    have hS112 := hS107
    rw [e111] at hS112
    have H113 := H110.as (L' := [(key104, sob E8 5 (encR ks bx b (k + 1)) sp106), ((some b19), sob E8 5 (rndR bx (encR ks bx b k) (k + 1)) (cel E8 (List.replicate (16 - 16) 0#8))), (key, sob E8 5 (encR ks bx b k) sp), (some b1, .cells #[.slice xk 176 ck, .slice xb 256 cb] 176 (0, 0))]) (by rw [e111])
    refine wnil ?_
    refine blockNormal ?_
    refine thenNormal ?_
    refine oneRegion ?_
    refine sM (i64 ((k + 1 : Nat))) rfl ?_
    refine sq (r_addI (a := (k + 1 : Nat)) (b := (1 : Int)) rfl rfl (by omega)) ?_
    refine sA (i64 ((k + 1 : Nat) + (1 : Int))) rfl ?_
    refine wnil ?_
    refine thenNormal ?_
    exact ⟨(k + 1, key104, c105, sp106), _, rfl, ⟨rfl, rfl, congrArg i64 (by omega), trivial⟩, ⟨by omega, hS112, ((H113.dropk 2).dropk 1).as rfl⟩, by show 10 - (k + 1) < 10 - k; omega⟩
 ·skip
  obtain rfl : k = 10 := by omega
  refine exitAny ?_
  refine thenExit ?_
  refine thenExit ?_
  refine blockHere ?_
  refine thenNormal ?_
  refine sR ?_
  refine sM (.slice (ownA key) 16 cc) rfl ?_
  refine sA (.slice (ownA key) 16 cc) rfl ?_
  refine wend ?_
  refine retAny ?_
  refine retG (rs := [.tmp 4]) (vs := [.slice (ownA key) 16 cc]) rfl ⟨⟨rfl, rfl⟩, trivial⟩ ?_
  exact ⟨_, rfl, HL.resN (k := 0) rfl hS hl.symm, HL.chg⟩
theorem rnew_ok (bx kl : List By) (hbx : bx = boxR 256) (hkl : kl.length = 16) (xq : Option Addr) (cq : Nat) (hcq : 16 ≤ cq) (w : World) (hQ : Rd E8 w xq kl) : Calls Tryd.prog 110 [.slice xq 16 cq].toArray w (Ret fun v w' => CiphR (expR kl bx 40).1 bx w v w' ∧ Ext w w') := by
 have H := Hp.start No w
 refine enter (n := 102) Tryd.func110 rfl rfl (bLe rfl) ?_
 refine sR ?_
 refine q_alloc (o := .cells #[.slice none 0 0, .slice none 0 0] 176 (0, 0)) H zer176 (by kernel_rfl) ?_
 intro b1 w2 hb1 H3 hE4
 refine wend ?_
 refine sR ?_
 refine sq (r_build (cs' := #[.slice none 0 0, .slice none 0 0]) (ps := []) zer176 pls176 rfl (by rfl)) ?_
 refine q_alloc (o := .cells #[.slice none 0 0, .slice none 0 0] 176 (0, 0)) H3 zer176 (by kernel_rfl) ?_
 intro b5 w6 hb5 H7 hE8
 refine d_store (k := 0) (v := .agg #[.slice none 0 0, .slice none 0 0]) (cs' := #[.slice none 0 0, .slice none 0 0]) H7 rfl rfl rfl siz176 (by rfl) (by intro u hu; simp [Value.cells] at hu; first | (subst hu; rfl) | (rcases hu with rfl | rfl <;> rfl)) (by exact bLe rfl) (by rfl) ?_
 intro w9 H10 hC11
 have H10' := H10.as (L' := [(some b5, .cells #[.slice none 0 0, .slice none 0 0] 176 (0, 0)), (some b1, .cells #[.slice none 0 0, .slice none 0 0] 176 (0, 0))]) rfl
 clear H10
 have H12 := H10'.nil (sob E8 5 [] [])
 have H13 := H12.nil (sob E8 5 [] [])
 have H14 := H13.as (L' := [(none, sob E8 5 ([]) ([])), (none, sob E8 5 ([]) ([])), (some b5, .cells #[.slice (ownA none) 0 0, .slice (ownA none) 0 0] 176 (0, 0)), (some b1, .cells #[.slice none 0 0, .slice none 0 0] 176 (0, 0))]) rfl
 refine wend ?_
 refine seqAny ?_
 refine sR ?_
 refine sA (i64 ((0 : Int))) rfl ?_
 refine wend ?_
 refine blockAny ?_
 refine loopAny (σ := Nat × Option Nat × Nat × List Value) (fun (i, kb, cb, spb) => [(0, .slice xq 16 cq), (2, pT b1), (3, pT b5), (4, i64 (i : Nat))]) (fun (i, kb, cb, spb) w' => i ≤ 256 ∧ Sl E8 kb (boxR i) cb spb ∧ Hp No w w' [(kb, sob E8 5 (boxR i) spb), (none, sob E8 5 ([]) ([])), (some b5, .cells #[.slice (ownA none) 0 0, .slice (ownA kb) i cb] 176 (0, 0)), (some b1, .cells #[.slice none 0 0, .slice none 0 0] 176 (0, 0))]) (fun (i, kb, cb, spb) => 256 - i) ((0, none, 0, [])) ?_ ?_ ?_
 ·exact ⟨rfl, rfl, rfl, rfl, trivial⟩
 ·exact ⟨by omega, Sl.none, H14⟩
 rintro ⟨i, kb, cb, spb⟩ ρ w15 ⟨hi, hSb, HL⟩
 have hlb := boxR_len i
 refine seqAny ?_
 refine sR ?_
 refine sM (i64 (i : Nat)) rfl ?_
 refine sq (r_lssI (a := (i : Nat)) (b := (256 : Int)) rfl rfl) ?_
 refine wend ?_
 refine condProp (((i : Nat) : Int) < (256 : Int)) rfl (fun hk11 => ?_) (fun hk11 => ?_)
 ·skip
  refine skipAny ?_
  refine thenNormal ?_
  refine seqAny ?_
  refine blockAny ?_
  refine drawAny (K := [none, none, none, none, none, some (bsRel E8 5 [sR (BitVec.ofInt 8 (i : Nat))] 1 w15), some (appRel E8 5 kb (boxR i) ([sR (BitVec.ofInt 8 (i : Nat))]) (i + 1) w15), none]) [0, 1, 0, 4, 12, 28, 63, 127, 255] (AppC kb (sob E8 5 (boxR i) spb) (ob2 E8 5 (boxR i) ([sR (BitVec.ofInt 8 (i : Nat))]) cb spb) w15) (AppR kb (sob E8 5 (boxR i) spb) (ob2 E8 5 (boxR i) ([sR (BitVec.ofInt 8 (i : Nat))]) cb spb)) mixed (by kernel_rfl) (AppC.drew fun g hg => HL.has _ (List.mem_of_getElem? (i := 0) rfl) g hg) AppC.trans ?_ ?_
  ·exact relAll ⟨⟨fun _ _ _ _ _ hR h => bsRel_app (fun g hg => HL.lt (List.mem_of_getElem? (i := 0) rfl) hg) hR h, fun _ _ _ _ _ h => h⟩, ⟨fun _ _ _ _ _ hR h => appRel_stable hR h, fun _ _ _ _ _ h => h⟩, trivial⟩
  refine ⟨.pointer (some ⟨b5, 1, none⟩), fun _ uw17 hC18 _ => Gives.run rfl (r_fieldAddr (off' := 1) fld176_1 (by decide) (b := b5) (off := 0) rfl (by omega)) ⟨rfl, AppR.refl⟩, ?_⟩
  refine ⟨.slice (ownA kb) i cb, fun _ uw22 hC23 _ => ?_, ?_⟩
  ·obtain ⟨sp24, H25, hS26, _⟩ := hC23.hp HL (k := 0) rfl hSb
   exact Gives.run rfl (r_loadC (v := .slice (ownA kb) i cb) one174 (H25.get (k := 2) rfl) (off := 1) rfl (by rfl)) ⟨rfl, AppR.refl⟩
  refine ⟨i64 (i : Nat), fun _ uw27 hC28 _ => Gives.run rfl (r_move (v := i64 (i : Nat)) rfl) ⟨rfl, AppR.refl⟩, ?_⟩
  refine ⟨u8 (BitVec.ofInt 8 (i : Nat)), fun _ uw32 hC33 _ => Gives.run rfl (r_Ito8 und3 und5 (a := (i : Nat)) rfl) ⟨rfl, AppR.refl⟩, ?_⟩
  refine ⟨u8 (sR (BitVec.ofInt 8 (i : Nat))), fun _ uw37 hC38 _ => ?_, ?_⟩
  ·obtain ⟨sp39, H40, hS41, _⟩ := hC38.hp HL (k := 0) rfl hSb
   exact Gives.call rfl (Enters.callL (vs := [u8 (BitVec.ofInt 8 (i : Nat))]) call121 rfl) ((s_ok (BitVec.ofInt 8 (i : Nat)) uw37).mono fun _ _ ⟨v, h1, h2, h3⟩ => ⟨v, h1, h2, AppR.ext h3⟩)
  refine ⟨fun r uw42 hC43 hF => bsGives (E := E8) (l := [sR (BitVec.ofInt 8 (i : Nat))]) sli174 zer5 (bLe rfl) (ps := [(0, u8 (sR (BitVec.ofInt 8 (i : Nat))))]) rfl (by exact fillAll rfl rfl) hC43.1.size (fun _ h => AppR.ext h), ?_⟩
  refine ⟨fun r uw44 hC45 hF => ?_, ?_⟩
  ·obtain ⟨sp49, H50, hS51, _⟩ := hC45.hp HL (k := 0) rfl hSb
   obtain ⟨b48, e46, _, h47⟩ := hF 5 _ rfl rfl
   exact appGives hC45 HL (k := 0) rfl hSb sli174 zer5 rfl byt5 (Rd.row h47) rfl (by omega) e46 (by rfl) (by omega)
  refine ⟨.pointer (some ⟨b5, 1, none⟩), fun _ uw52 hC53 _ => Gives.run rfl (r_fieldAddr (off' := 1) fld176_1 (by decide) (b := b5) (off := 0) rfl (by omega)) ⟨rfl, AppR.refl⟩, ?_⟩
  intro r60 w57 hE59 hF
  obtain ⟨key61, c62, sp63, e64, hS65, hne66, hk67⟩ := hF 6 _ rfl
  have H58 := (HL.turn (k := 0) rfl hE59.1 hk67).as (L' := [(key61, sob E8 5 ((boxR i) ++ ([sR (BitVec.ofInt 8 (i : Nat))])) sp63), (none, sob E8 5 ([]) ([])), (some b5, .cells #[.slice (ownA none) 0 0, .slice (ownA kb) i cb] 176 (0, 0)), (some b1, .cells #[.slice none 0 0, .slice none 0 0] 176 (0, 0))]) rfl
  dsimp only
  rw [e64]
  have e68 : (boxR i) ++ ([sR (BitVec.ofInt 8 (i : Nat))]) = boxR (i + 1) := by rw [boxR]
  have hS69 := hS65
  rw [e68] at hS69
  have H70 := H58.as (L' := [(key61, sob E8 5 (boxR (i + 1)) sp63), (none, sob E8 5 ([]) ([])), (some b5, .cells #[.slice (ownA none) 0 0, .slice (ownA kb) i cb] 176 (0, 0)), (some b1, .cells #[.slice none 0 0, .slice none 0 0] 176 (0, 0))]) (by rw [e68])
  refine d_store (k := 2) (v := .slice (ownA key61) (i + 1) c62) (cs' := #[.slice (ownA none) 0 0, .slice (ownA key61) (i + 1) c62]) H70 rfl rfl rfl siz174 (by rfl) (by intro u hu; simp [Value.cells] at hu; first | (subst hu; rfl) | (rcases hu with rfl <;> rfl)) (by exact bLe rfl) (by rfl) ?_
  intro w71 H72 hC73
  have H72' := H72.as (L' := [(key61, sob E8 5 (boxR (i + 1)) sp63), (none, sob E8 5 ([]) ([])), (some b5, .cells #[.slice (ownA none) 0 0, .slice (ownA key61) (i + 1) c62] 176 (0, 0)), (some b1, .cells #[.slice none 0 0, .slice none 0 0] 176 (0, 0))]) rfl
  clear H72
  refine wnil ?_
  refine blockNormal ?_
  refine thenNormal ?_
  refine oneRegion ?_
  refine sM (i64 (i : Nat)) rfl ?_
  refine sq (r_addI (a := (i : Nat)) (b := (1 : Int)) rfl rfl (by omega)) ?_
  refine sA (i64 ((i : Nat) + (1 : Int))) rfl ?_
  refine wnil ?_
  refine thenNormal ?_
  exact ⟨(i + 1, key61, c62, sp63), _, rfl, ⟨rfl, rfl, rfl, rfl, trivial⟩, ⟨by omega, hS69, H72'⟩, by show 256 - (i + 1) < 256 - i; omega⟩
 ·skip
  obtain rfl : i = 256 := by omega
  rw [← hbx] at hSb hlb HL
  refine exitAny ?_
  refine thenExit ?_
  refine thenExit ?_
  refine blockHere ?_
  refine thenNormal ?_
  refine seqAny ?_
  refine drawAny (K := [none, none, none, none, some (appRel E8 5 none ([]) ((kl.drop 0).take (16)) (0 + 16) w15), none]) [0, 1, 0, 4, 15, 31, 63] (AppC none (sob E8 5 ([]) ([])) (ob2 E8 5 ([]) ((kl.drop 0).take (16)) 0 ([])) w15) (AppR none (sob E8 5 ([]) ([])) (ob2 E8 5 ([]) ((kl.drop 0).take (16)) 0 ([]))) mixed (by kernel_rfl) (AppC.drew fun g hg => HL.has _ (List.mem_of_getElem? (i := 1) rfl) g hg) AppC.trans ?_ ?_
  ·exact relAll ⟨⟨fun _ _ _ _ _ hR h => appRel_stable hR h, fun _ _ _ _ _ h => h⟩, trivial⟩
  refine ⟨pT b5, fun _ uw74 hC75 _ => Gives.run rfl (r_fieldAddr (off' := 0) fld176_0 (by decide) (b := b5) (off := 0) rfl (by omega)) ⟨rfl, AppR.refl⟩, ?_⟩
  refine ⟨.slice (ownA none) 0 0, fun _ uw79 hC80 _ => ?_, ?_⟩
  ·obtain ⟨sp81, H82, hS83, _⟩ := hC80.hp HL (k := 1) rfl Sl.none
   exact Gives.run rfl (r_loadC (v := .slice (ownA none) 0 0) one174 (H82.get (k := 2) rfl) (off := 0) rfl (by rfl)) ⟨rfl, AppR.refl⟩
  refine ⟨.slice xq 16 cq, fun _ uw84 hC85 _ => Gives.run rfl (r_move (v := .slice xq 16 cq) rfl) ⟨rfl, AppR.refl⟩, ?_⟩
  refine ⟨.slice (if cq = 0 then xq else adr xq (0 * 1)) 16 (cq - 0), fun _ uw89 hC90 _ => ?_, ?_⟩
  ·obtain ⟨sp91, H92, hS93, _⟩ := hC90.hp HL (k := 1) rfl Sl.none
   exact Gives.run rfl ((r_sliceS (l := 0) (h := 16) sli174 rfl (.inr ⟨rfl, rfl⟩) (.inl ⟨_, _, _, rfl, rfl, by first | rfl | omega | (simp; omega)⟩) (by omega) (by omega)).as (v' := .slice (if cq = 0 then xq else adr xq (0 * 1)) 16 (cq - 0)) (by rw [show 16 - 0 = 16 by omega])) ⟨rfl, AppR.refl⟩
  refine ⟨fun r uw94 hC95 hF => ?_, ?_⟩
  ·obtain ⟨sp96, H97, hS98, _⟩ := hC95.hp HL (k := 1) rfl Sl.none
   exact appGives hC95 HL (k := 1) rfl Sl.none sli174 zer5 rfl byt5 (Rd.sub (hQ.ext H97.chg) 0 (16) (m := cq) (fun e => by first | exact absurd e (by omega) | (rw [show 16 = 0 by omega]; rfl))) rfl (by rfl) rfl (by rw [List.length_take, List.length_drop]; omega) (by omega)
  refine ⟨pT b5, fun _ uw99 hC100 _ => Gives.run rfl (r_fieldAddr (off' := 0) fld176_0 (by decide) (b := b5) (off := 0) rfl (by omega)) ⟨rfl, AppR.refl⟩, ?_⟩
  intro r107 w104 hE106 hF
  obtain ⟨key108, c109, sp110, e111, hS112, hne113, hk114⟩ := hF 4 _ rfl
  have H105 := (HL.turn (k := 1) rfl hE106.1 hk114).as (L' := [(kb, sob E8 5 bx spb), (key108, sob E8 5 (([]) ++ ((kl.drop 0).take (16))) sp110), (some b5, .cells #[.slice (ownA none) 0 0, .slice (ownA kb) 256 cb] 176 (0, 0)), (some b1, .cells #[.slice none 0 0, .slice none 0 0] 176 (0, 0))]) rfl
  dsimp only
  rw [e111]
  have e115 : ([]) ++ ((kl.drop 0).take (16)) = (expR kl bx 0).1 := by rw [expR]; rfl
  have hS116 := hS112
  rw [e115] at hS116
  have H117 := H105.as (L' := [(kb, sob E8 5 bx spb), (key108, sob E8 5 ((expR kl bx 0).1) sp110), (some b5, .cells #[.slice (ownA none) 0 0, .slice (ownA kb) 256 cb] 176 (0, 0)), (some b1, .cells #[.slice none 0 0, .slice none 0 0] 176 (0, 0))]) (by rw [e115])
  refine d_store (k := 2) (v := .slice (ownA key108) (0 + 16) c109) (cs' := #[.slice (ownA key108) (0 + 16) c109, .slice (ownA kb) 256 cb]) H117 rfl rfl rfl siz174 (by rfl) (by intro u hu; simp [Value.cells] at hu; first | (subst hu; rfl) | (rcases hu with rfl <;> rfl)) (by exact bLe rfl) (by rfl) ?_
  intro w118 H119 hC120
  have H119' := H119.as (L' := [(kb, sob E8 5 bx spb), (key108, sob E8 5 ((expR kl bx 0).1) sp110), (some b5, .cells #[.slice (ownA key108) (0 + 16) c109, .slice (ownA kb) 256 cb] 176 (0, 0)), (some b1, .cells #[.slice none 0 0, .slice none 0 0] 176 (0, 0))]) rfl
  clear H119
  refine wnil ?_
  refine thenNormal ?_
  refine sR ?_
  refine sA (u8 (1#8)) rfl ?_
  refine wend ?_
  refine seqAny ?_
  refine sR ?_
  refine sA (i64 ((4 : Int))) rfl ?_
  refine wend ?_
  refine blockAny ?_
  refine loopAny (σ := Nat × Option Nat × Nat × List Value) (fun (k, kk, kc, ksp) => [(0, .slice xq 16 cq), (2, pT b1), (3, pT b5), (5, u8 ((expR kl bx k).2)), (6, i64 ((k + 4 : Nat)))]) (fun (k, kk, kc, ksp) w' => k ≤ 40 ∧ Sl E8 kk ((expR kl bx k).1) kc ksp ∧ Hp No w w' [(kb, sob E8 5 bx spb), (kk, sob E8 5 ((expR kl bx k).1) ksp), (some b5, .cells #[.slice (ownA kk) (16 + 4 * k) kc, .slice (ownA kb) 256 cb] 176 (0, 0)), (some b1, .cells #[.slice none 0 0, .slice none 0 0] 176 (0, 0))]) (fun (k, kk, kc, ksp) => 40 - k) ((0, key108, c109, sp110)) ?_ ?_ ?_
  ·exact ⟨rfl, rfl, rfl, rfl, rfl, trivial⟩
  ·exact ⟨by omega, hS116, H119'⟩
  rintro ⟨k, kk, kc, ksp⟩ ρ w121 ⟨hk, hSk, HL⟩
  have hl := expR_len kl bx hkl k
  have hls := expS_len _ k hl
  have hcap := hSk.cap
  refine seqAny ?_
  refine sR ?_
  refine sM (i64 ((k + 4 : Nat))) rfl ?_
  refine sq (r_lssI (a := (k + 4 : Nat)) (b := (44 : Int)) rfl rfl) ?_
  refine wend ?_
  refine condProp (((k + 4 : Nat) : Int) < (44 : Int)) rfl (fun hk29 => ?_) (fun hk29 => ?_)
  ·skip
   refine skipAny ?_
   refine thenNormal ?_
   refine seqAny ?_
   refine blockAny ?_
   refine sR ?_
   refine q_buildSlice (E := E8) (l := []) HL sli174 zer5 (bLe rfl) (ps := []) rfl (by exact fillAll rfl rfl) rfl ?_
   intro b123 w125 hS124 H126 hE127
   refine sq (r_fieldAddr (off' := 0) fld176_0 (by decide) (b := b5) (off := 0) rfl (by omega)) ?_
   refine sq (r_loadC (v := .slice (ownA kk) (16 + 4 * k) kc) one174 (H126.get (k := 3) rfl) (off := 0) rfl (by rfl)) ?_
   refine sM (i64 ((k + 4 : Nat))) rfl ?_
   refine sq (r_mulI (a := (4 : Int)) (b := (k + 4 : Nat)) rfl rfl (by omega)) ?_
   refine sq (r_subI (a := (4 : Int) * (k + 4 : Nat)) (b := (4 : Int)) rfl rfl (by omega)) ?_
   refine sM (i64 ((k + 4 : Nat))) rfl ?_
   refine sq (r_mulI (a := (4 : Int)) (b := (k + 4 : Nat)) rfl rfl (by omega)) ?_
   refine sq ((r_sliceS (l := 4 * k + 12) (h := 4 * (k + 4)) sli174 rfl (.inl ⟨_, _, _, rfl, rfl, by first | rfl | omega | (simp; omega)⟩) (.inl ⟨_, _, _, rfl, rfl, by first | rfl | omega | (simp; omega)⟩) (by omega) (by omega)).as (v' := .slice (if kc = 4 * k + 12 then ownA kk else adr (ownA kk) ((4 * k + 12) * 1)) 4 (kc - (4 * k + 12))) (by rw [show (4 * (k + 4)) - (4 * k + 12) = 4 by omega])) ?_
   refine q_append (E := E8) (k := 0) (l := []) (l2 := (((expR kl bx k).1).drop (4 * k + 12)).take (4)) H126 rfl hS124 sli174 zer5 rfl byt5 (Rd.sub (H126.rd (k := 2) rfl hSk) (4 * k + 12) (4) (m := kc) (fun e => by first | exact absurd e (by omega) | (rw [show 4 = 0 by omega]; rfl))) rfl (by rfl) rfl (by rw [List.length_take, List.length_drop]; omega) (by omega) ?_
   intro key128 c129 sp130 w132 hS131 hne134 H133
   have H133' := H133.as (L' := [(key128, sob E8 5 (([]) ++ ((((expR kl bx k).1).drop (4 * k + 12)).take (4))) sp130), (kb, sob E8 5 bx spb), (kk, sob E8 5 ((expR kl bx k).1) ksp), (some b5, .cells #[.slice (ownA kk) (16 + 4 * k) kc, .slice (ownA kb) 256 cb] 176 (0, 0)), (some b1, .cells #[.slice none 0 0, .slice none 0 0] 176 (0, 0))]) rfl
   clear H133
   have e135 : ([]) ++ ((((expR kl bx k).1).drop (4 * k + 12)).take (4)) = expS ((expR kl bx k).1) k := by rw [List.nil_append, expS]
   have hS136 := hS131
   rw [e135] at hS136
   have H137 := H133'.as (L' := [(key128, sob E8 5 (expS ((expR kl bx k).1) k) sp130), (kb, sob E8 5 bx spb), (kk, sob E8 5 ((expR kl bx k).1) ksp), (some b5, .cells #[.slice (ownA kk) (16 + 4 * k) kc, .slice (ownA kb) 256 cb] 176 (0, 0)), (some b1, .cells #[.slice none 0 0, .slice none 0 0] 176 (0, 0))]) (by rw [e135])
   refine sA (.slice (ownA key128) (0 + 4) c129) rfl ?_
   refine wend ?_
   refine seqAny ?_
   refine sR ?_
   refine sM (i64 ((k + 4 : Nat))) rfl ?_
   refine sq (r_remI (a := (k + 4 : Nat)) (b := (4 : Int)) rfl rfl (by omega)) ?_
   refine sq (r_eqlI (a := (k + 4 : Nat) % (4 : Int)) (b := (0 : Int)) rfl rfl) ?_
   refine wend ?_
   refine condProp (((k + 4 : Nat) % (4 : Int) : Int) = (0 : Int)) rfl (fun h44 => ?_) (fun h44 => ?_)
   ·skip
    refine seqAny ?_
    refine drawAny (K := [none, none, none, none, none, none, none, none, none, none, none, none, none, none, none, none, none, none, none, none, none, none, none, none, none, none, none, none, none, none, some (bsRel E8 5 [((bx).getD (((expS ((expR kl bx k).1) k).getD 1 0#8).toNat) 0#8) ^^^ ((expR kl bx k).2), (bx).getD (((expS ((expR kl bx k).1) k).getD 2 0#8).toNat) 0#8, (bx).getD (((expS ((expR kl bx k).1) k).getD 3 0#8).toNat) 0#8, (bx).getD (((expS ((expR kl bx k).1) k).getD 0 0#8).toNat) 0#8] 4 w132)]) [0, 1, 0, 4, 12, 31, 63, 0, 255, 0, 512, 0, 2048, 6144, 15872, 32256, 0, 65536, 0, 262144, 786432, 2031616, 4128768, 0, 8388608, 0, 33554432, 100663296, 260046848, 528482304, 1073741823, 2147483647] (fun w' => Ext w132 w') (fun w' w'' => Ext w' w'') mixed (by kernel_rfl) (Ext.drew _) (fun _ _ h h' => h.trans h') ?_ ?_
    ·exact relAll ⟨⟨fun _ _ _ _ _ hR h => bsRel_ext hR h, fun _ _ _ _ _ h => h⟩, trivial⟩
    refine ⟨.pointer (some ⟨b5, 1, none⟩), fun _ uw138 hC139 _ => Gives.run rfl (r_fieldAddr (off' := 1) fld176_1 (by decide) (b := b5) (off := 0) rfl (by omega)) ⟨rfl, Chg.refl _ _⟩, ?_⟩
    refine ⟨.slice (ownA kb) 256 cb, fun _ uw140 hC141 _ => Gives.run rfl (r_loadC (v := .slice (ownA kb) 256 cb) one174 ((H137.ext hC141).get (k := 3) rfl) (off := 1) rfl (by rfl)) ⟨rfl, Chg.refl _ _⟩, ?_⟩
    refine ⟨.slice (ownA key128) (0 + 4) c129, fun _ uw142 hC143 _ => Gives.run rfl (r_move (v := .slice (ownA key128) (0 + 4) c129) rfl) ⟨rfl, Chg.refl _ _⟩, ?_⟩
    refine ⟨.pointer (adr (ownA key128) (1 * 1)), fun _ uw144 hC145 _ => Gives.run rfl (r_idxS (E := E8) (l := expS ((expR kl bx k).1) k) (j := 1) sli174 ((H137.ext hC145).rd (k := 0) rfl hS136) rfl rfl (by first | rfl | omega | (simp; omega)) (by exact hls.symm) (by omega)) ⟨rfl, Chg.refl _ _⟩, ?_⟩
    refine ⟨u8 ((expS ((expR kl bx k).1) k).getD 1 0#8), fun _ uw146 hC147 _ => Gives.run rfl (r_ldS (E := E8) (l := expS ((expR kl bx k).1) k) (j := 1) (v := (expS ((expR kl bx k).1) k).getD 1 0#8) fits5 ((H137.ext hC147).rd (k := 0) rfl hS136) rfl rfl (at_getD (by omega))) ⟨rfl, Chg.refl _ _⟩, ?_⟩
    refine ⟨.pointer (adr (ownA kb) ((((expS ((expR kl bx k).1) k).getD 1 0#8).toNat) * 1)), fun _ uw148 hC149 _ => Gives.run rfl (r_idxS (E := E8) (l := bx) (j := ((expS ((expR kl bx k).1) k).getD 1 0#8).toNat) sli174 ((H137.ext hC149).rd (k := 1) rfl hSb) rfl rfl (by first | rfl | omega | (simp; omega)) (by omega) (by have := ((expS ((expR kl bx k).1) k).getD 1 0#8).isLt; omega)) ⟨rfl, Chg.refl _ _⟩, ?_⟩
    refine ⟨u8 ((bx).getD (((expS ((expR kl bx k).1) k).getD 1 0#8).toNat) 0#8), fun _ uw150 hC151 _ => Gives.run rfl (r_ldS (E := E8) (l := bx) (j := ((expS ((expR kl bx k).1) k).getD 1 0#8).toNat) (v := (bx).getD (((expS ((expR kl bx k).1) k).getD 1 0#8).toNat) 0#8) fits5 ((H137.ext hC151).rd (k := 1) rfl hSb) rfl rfl (at_getD (by have := ((expS ((expR kl bx k).1) k).getD 1 0#8).isLt; omega))) ⟨rfl, Chg.refl _ _⟩, ?_⟩
    refine ⟨u8 ((expR kl bx k).2), fun _ uw152 hC153 _ => Gives.run rfl (r_move (v := u8 ((expR kl bx k).2)) rfl) ⟨rfl, Chg.refl _ _⟩, ?_⟩
    refine ⟨u8 (((bx).getD (((expS ((expR kl bx k).1) k).getD 1 0#8).toNat) 0#8) ^^^ ((expR kl bx k).2)), fun _ uw154 hC155 _ => Gives.run rfl (r_xor8 (a := (bx).getD (((expS ((expR kl bx k).1) k).getD 1 0#8).toNat) 0#8) (b := (expR kl bx k).2) rfl rfl) ⟨rfl, Chg.refl _ _⟩, ?_⟩
    refine ⟨.pointer (some ⟨b5, 1, none⟩), fun _ uw156 hC157 _ => Gives.run rfl (r_fieldAddr (off' := 1) fld176_1 (by decide) (b := b5) (off := 0) rfl (by omega)) ⟨rfl, Chg.refl _ _⟩, ?_⟩
    refine ⟨.slice (ownA kb) 256 cb, fun _ uw158 hC159 _ => Gives.run rfl (r_loadC (v := .slice (ownA kb) 256 cb) one174 ((H137.ext hC159).get (k := 3) rfl) (off := 1) rfl (by rfl)) ⟨rfl, Chg.refl _ _⟩, ?_⟩
    refine ⟨.slice (ownA key128) (0 + 4) c129, fun _ uw160 hC161 _ => Gives.run rfl (r_move (v := .slice (ownA key128) (0 + 4) c129) rfl) ⟨rfl, Chg.refl _ _⟩, ?_⟩
    refine ⟨.pointer (adr (ownA key128) (2 * 1)), fun _ uw162 hC163 _ => Gives.run rfl (r_idxS (E := E8) (l := expS ((expR kl bx k).1) k) (j := 2) sli174 ((H137.ext hC163).rd (k := 0) rfl hS136) rfl rfl (by first | rfl | omega | (simp; omega)) (by exact hls.symm) (by omega)) ⟨rfl, Chg.refl _ _⟩, ?_⟩
    refine ⟨u8 ((expS ((expR kl bx k).1) k).getD 2 0#8), fun _ uw164 hC165 _ => Gives.run rfl (r_ldS (E := E8) (l := expS ((expR kl bx k).1) k) (j := 2) (v := (expS ((expR kl bx k).1) k).getD 2 0#8) fits5 ((H137.ext hC165).rd (k := 0) rfl hS136) rfl rfl (at_getD (by omega))) ⟨rfl, Chg.refl _ _⟩, ?_⟩
    refine ⟨.pointer (adr (ownA kb) ((((expS ((expR kl bx k).1) k).getD 2 0#8).toNat) * 1)), fun _ uw166 hC167 _ => Gives.run rfl (r_idxS (E := E8) (l := bx) (j := ((expS ((expR kl bx k).1) k).getD 2 0#8).toNat) sli174 ((H137.ext hC167).rd (k := 1) rfl hSb) rfl rfl (by first | rfl | omega | (simp; omega)) (by omega) (by have := ((expS ((expR kl bx k).1) k).getD 2 0#8).isLt; omega)) ⟨rfl, Chg.refl _ _⟩, ?_⟩
    refine ⟨u8 ((bx).getD (((expS ((expR kl bx k).1) k).getD 2 0#8).toNat) 0#8), fun _ uw168 hC169 _ => Gives.run rfl (r_ldS (E := E8) (l := bx) (j := ((expS ((expR kl bx k).1) k).getD 2 0#8).toNat) (v := (bx).getD (((expS ((expR kl bx k).1) k).getD 2 0#8).toNat) 0#8) fits5 ((H137.ext hC169).rd (k := 1) rfl hSb) rfl rfl (at_getD (by have := ((expS ((expR kl bx k).1) k).getD 2 0#8).isLt; omega))) ⟨rfl, Chg.refl _ _⟩, ?_⟩
    refine ⟨.pointer (some ⟨b5, 1, none⟩), fun _ uw170 hC171 _ => Gives.run rfl (r_fieldAddr (off' := 1) fld176_1 (by decide) (b := b5) (off := 0) rfl (by omega)) ⟨rfl, Chg.refl _ _⟩, ?_⟩
    refine ⟨.slice (ownA kb) 256 cb, fun _ uw172 hC173 _ => Gives.run rfl (r_loadC (v := .slice (ownA kb) 256 cb) one174 ((H137.ext hC173).get (k := 3) rfl) (off := 1) rfl (by rfl)) ⟨rfl, Chg.refl _ _⟩, ?_⟩
    refine ⟨.slice (ownA key128) (0 + 4) c129, fun _ uw174 hC175 _ => Gives.run rfl (r_move (v := .slice (ownA key128) (0 + 4) c129) rfl) ⟨rfl, Chg.refl _ _⟩, ?_⟩
    refine ⟨.pointer (adr (ownA key128) (3 * 1)), fun _ uw176 hC177 _ => Gives.run rfl (r_idxS (E := E8) (l := expS ((expR kl bx k).1) k) (j := 3) sli174 ((H137.ext hC177).rd (k := 0) rfl hS136) rfl rfl (by first | rfl | omega | (simp; omega)) (by exact hls.symm) (by omega)) ⟨rfl, Chg.refl _ _⟩, ?_⟩
    refine ⟨u8 ((expS ((expR kl bx k).1) k).getD 3 0#8), fun _ uw178 hC179 _ => Gives.run rfl (r_ldS (E := E8) (l := expS ((expR kl bx k).1) k) (j := 3) (v := (expS ((expR kl bx k).1) k).getD 3 0#8) fits5 ((H137.ext hC179).rd (k := 0) rfl hS136) rfl rfl (at_getD (by omega))) ⟨rfl, Chg.refl _ _⟩, ?_⟩
    refine ⟨.pointer (adr (ownA kb) ((((expS ((expR kl bx k).1) k).getD 3 0#8).toNat) * 1)), fun _ uw180 hC181 _ => Gives.run rfl (r_idxS (E := E8) (l := bx) (j := ((expS ((expR kl bx k).1) k).getD 3 0#8).toNat) sli174 ((H137.ext hC181).rd (k := 1) rfl hSb) rfl rfl (by first | rfl | omega | (simp; omega)) (by omega) (by have := ((expS ((expR kl bx k).1) k).getD 3 0#8).isLt; omega)) ⟨rfl, Chg.refl _ _⟩, ?_⟩
    refine ⟨u8 ((bx).getD (((expS ((expR kl bx k).1) k).getD 3 0#8).toNat) 0#8), fun _ uw182 hC183 _ => Gives.run rfl (r_ldS (E := E8) (l := bx) (j := ((expS ((expR kl bx k).1) k).getD 3 0#8).toNat) (v := (bx).getD (((expS ((expR kl bx k).1) k).getD 3 0#8).toNat) 0#8) fits5 ((H137.ext hC183).rd (k := 1) rfl hSb) rfl rfl (at_getD (by have := ((expS ((expR kl bx k).1) k).getD 3 0#8).isLt; omega))) ⟨rfl, Chg.refl _ _⟩, ?_⟩
    refine ⟨.pointer (some ⟨b5, 1, none⟩), fun _ uw184 hC185 _ => Gives.run rfl (r_fieldAddr (off' := 1) fld176_1 (by decide) (b := b5) (off := 0) rfl (by omega)) ⟨rfl, Chg.refl _ _⟩, ?_⟩
    refine ⟨.slice (ownA kb) 256 cb, fun _ uw186 hC187 _ => Gives.run rfl (r_loadC (v := .slice (ownA kb) 256 cb) one174 ((H137.ext hC187).get (k := 3) rfl) (off := 1) rfl (by rfl)) ⟨rfl, Chg.refl _ _⟩, ?_⟩
    refine ⟨.slice (ownA key128) (0 + 4) c129, fun _ uw188 hC189 _ => Gives.run rfl (r_move (v := .slice (ownA key128) (0 + 4) c129) rfl) ⟨rfl, Chg.refl _ _⟩, ?_⟩
    refine ⟨.pointer (adr (ownA key128) (0 * 1)), fun _ uw190 hC191 _ => Gives.run rfl (r_idxS (E := E8) (l := expS ((expR kl bx k).1) k) (j := 0) sli174 ((H137.ext hC191).rd (k := 0) rfl hS136) rfl rfl (by first | rfl | omega | (simp; omega)) (by exact hls.symm) (by omega)) ⟨rfl, Chg.refl _ _⟩, ?_⟩
    refine ⟨u8 ((expS ((expR kl bx k).1) k).getD 0 0#8), fun _ uw192 hC193 _ => Gives.run rfl (r_ldS (E := E8) (l := expS ((expR kl bx k).1) k) (j := 0) (v := (expS ((expR kl bx k).1) k).getD 0 0#8) fits5 ((H137.ext hC193).rd (k := 0) rfl hS136) rfl rfl (at_getD (by omega))) ⟨rfl, Chg.refl _ _⟩, ?_⟩
    refine ⟨.pointer (adr (ownA kb) ((((expS ((expR kl bx k).1) k).getD 0 0#8).toNat) * 1)), fun _ uw194 hC195 _ => Gives.run rfl (r_idxS (E := E8) (l := bx) (j := ((expS ((expR kl bx k).1) k).getD 0 0#8).toNat) sli174 ((H137.ext hC195).rd (k := 1) rfl hSb) rfl rfl (by first | rfl | omega | (simp; omega)) (by omega) (by have := ((expS ((expR kl bx k).1) k).getD 0 0#8).isLt; omega)) ⟨rfl, Chg.refl _ _⟩, ?_⟩
    refine ⟨u8 ((bx).getD (((expS ((expR kl bx k).1) k).getD 0 0#8).toNat) 0#8), fun _ uw196 hC197 _ => Gives.run rfl (r_ldS (E := E8) (l := bx) (j := ((expS ((expR kl bx k).1) k).getD 0 0#8).toNat) (v := (bx).getD (((expS ((expR kl bx k).1) k).getD 0 0#8).toNat) 0#8) fits5 ((H137.ext hC197).rd (k := 1) rfl hSb) rfl rfl (at_getD (by have := ((expS ((expR kl bx k).1) k).getD 0 0#8).isLt; omega))) ⟨rfl, Chg.refl _ _⟩, ?_⟩
    refine ⟨fun r uw198 hC199 hF => bsGives (E := E8) (l := [((bx).getD (((expS ((expR kl bx k).1) k).getD 1 0#8).toNat) 0#8) ^^^ ((expR kl bx k).2), (bx).getD (((expS ((expR kl bx k).1) k).getD 2 0#8).toNat) 0#8, (bx).getD (((expS ((expR kl bx k).1) k).getD 3 0#8).toNat) 0#8, (bx).getD (((expS ((expR kl bx k).1) k).getD 0 0#8).toNat) 0#8]) sli174 zer5 (bLe rfl) (ps := [(0, u8 (((bx).getD (((expS ((expR kl bx k).1) k).getD 1 0#8).toNat) 0#8) ^^^ ((expR kl bx k).2))), (1, u8 ((bx).getD (((expS ((expR kl bx k).1) k).getD 2 0#8).toNat) 0#8)), (2, u8 ((bx).getD (((expS ((expR kl bx k).1) k).getD 3 0#8).toNat) 0#8)), (3, u8 ((bx).getD (((expS ((expR kl bx k).1) k).getD 0 0#8).toNat) 0#8))]) rfl (by exact fillAll rfl rfl) hC199.size (fun _ h => h), ?_⟩
    intro r203 w200 hE202 hF
    have H201 := H137.ext hE202
    obtain ⟨key207, e204, hS205, H206⟩ := Hp.ownBs H137 hE202 (by rfl) (bLe rfl) (hF 30 _ rfl)
    dsimp only
    rw [e204]
    refine sA (.slice (ownA key207) 4 4) rfl ?_
    have e210 : [((bx).getD (((expS ((expR kl bx k).1) k).getD 1 0#8).toNat) 0#8) ^^^ ((expR kl bx k).2), (bx).getD (((expS ((expR kl bx k).1) k).getD 2 0#8).toNat) 0#8, (bx).getD (((expS ((expR kl bx k).1) k).getD 3 0#8).toNat) 0#8, (bx).getD (((expS ((expR kl bx k).1) k).getD 0 0#8).toNat) 0#8] = expT bx (expR kl bx k).1 (expR kl bx k).2 k := by rw [expT, if_pos (by omega)]
    have hS211 := hS205
    rw [e210] at hS211
    have H212 := H206.as (L' := [(key207, sob E8 5 (expT bx (expR kl bx k).1 (expR kl bx k).2 k) ([])), (key128, sob E8 5 (expS ((expR kl bx k).1) k) sp130), (kb, sob E8 5 bx spb), (kk, sob E8 5 ((expR kl bx k).1) ksp), (some b5, .cells #[.slice (ownA kk) (16 + 4 * k) kc, .slice (ownA kb) 256 cb] 176 (0, 0)), (some b1, .cells #[.slice none 0 0, .slice none 0 0] 176 (0, 0))]) (by rw [e210])
    refine wnil ?_
    refine thenNormal ?_
    refine oneRegion ?_
    refine sM (u8 ((expR kl bx k).2)) rfl ?_
    refine c_call (vs := [u8 ((expR kl bx k).2), u8 (2#8)]) call122 rfl (times_ok ((expR kl bx k).2) (2#8) w200) ?_
    rintro _ w213 ⟨rfl, hE214⟩
    have H215 := H212.ext hE214
    refine sA (u8 (gm ((expR kl bx k).2) (2#8))) rfl ?_
    refine wnil ?_
    refine thenNormal ?_
    refine sR ?_
    refine sA (i64 ((0 : Int))) rfl ?_
    have hlt : (expT bx (expR kl bx k).1 (expR kl bx k).2 k).length = 4 := by rw [expT]; first | rw [if_pos (by omega)]; rfl | rw [if_neg (by omega)]; exact expS_len _ _ hl
    refine wend ?_
    refine blockAny ?_
    refine loopAny (σ := Nat × Option Nat × Nat × List Value) (fun (q, k2, c2, sp2) => [(0, .slice xq 16 cq), (2, pT b1), (3, pT b5), (5, u8 (gm ((expR kl bx k).2) (2#8))), (6, i64 ((k + 4 : Nat))), (7, .slice (ownA key207) 4 4), (8, i64 (q : Nat))]) (fun (q, k2, c2, sp2) w' => q ≤ 4 ∧ Sl E8 k2 (expI ((expR kl bx k).1) (expT bx (expR kl bx k).1 (expR kl bx k).2 k) k q) c2 sp2 ∧ Hp No w w' [(key207, sob E8 5 (expT bx (expR kl bx k).1 (expR kl bx k).2 k) ([])), (key128, sob E8 5 (expS ((expR kl bx k).1) k) sp130), (kb, sob E8 5 bx spb), (k2, sob E8 5 (expI ((expR kl bx k).1) (expT bx (expR kl bx k).1 (expR kl bx k).2 k) k q) sp2), (some b5, .cells #[.slice (ownA k2) (16 + 4 * k + q) c2, .slice (ownA kb) 256 cb] 176 (0, 0)), (some b1, .cells #[.slice none 0 0, .slice none 0 0] 176 (0, 0))]) (fun (q, k2, c2, sp2) => 4 - q) ((0, kk, kc, ksp)) ?_ ?_ ?_
    ·exact ⟨rfl, rfl, rfl, rfl, rfl, rfl, rfl, trivial⟩
    ·exact ⟨by omega, hSk, H215⟩
    rintro ⟨q, k2, c2, sp2⟩ ρ w216 ⟨hq, hS2, HL2⟩
    have hl2 := expI_len ((expR kl bx k).1) (expT bx (expR kl bx k).1 (expR kl bx k).2 k) k q
    rw [hl] at hl2
    refine seqAny ?_
    refine sR ?_
    refine sM (i64 (q : Nat)) rfl ?_
    refine sq (r_lssI (a := (q : Nat)) (b := (4 : Int)) rfl rfl) ?_
    refine wend ?_
    refine condProp (((q : Nat) : Int) < (4 : Int)) rfl (fun hk79 => ?_) (fun hk79 => ?_)
    ·skip
     refine skipAny ?_
     refine thenNormal ?_
     refine seqAny ?_
     refine blockAny ?_
     refine drawAny (K := [none, none, none, none, none, none, none, none, none, none, none, none, none, none, none, none, some (bsRel E8 5 [((expI ((expR kl bx k).1) (expT bx (expR kl bx k).1 (expR kl bx k).2 k) k q).getD (4 * k + q) 0#8) ^^^ ((expT bx (expR kl bx k).1 (expR kl bx k).2 k).getD q 0#8)] 1 w216), some (appRel E8 5 k2 (expI ((expR kl bx k).1) (expT bx (expR kl bx k).1 (expR kl bx k).2 k) k q) ([((expI ((expR kl bx k).1) (expT bx (expR kl bx k).1 (expR kl bx k).2 k) k q).getD (4 * k + q) 0#8) ^^^ ((expT bx (expR kl bx k).1 (expR kl bx k).2 k).getD q 0#8)]) ((16 + 4 * k + q) + 1) w216), none]) [0, 1, 0, 4, 0, 16, 48, 0, 240, 508, 1020, 0, 0, 6144, 14336, 32764, 65532, 131071, 262143, 524287] (AppC k2 (sob E8 5 (expI ((expR kl bx k).1) (expT bx (expR kl bx k).1 (expR kl bx k).2 k) k q) sp2) (ob2 E8 5 (expI ((expR kl bx k).1) (expT bx (expR kl bx k).1 (expR kl bx k).2 k) k q) ([((expI ((expR kl bx k).1) (expT bx (expR kl bx k).1 (expR kl bx k).2 k) k q).getD (4 * k + q) 0#8) ^^^ ((expT bx (expR kl bx k).1 (expR kl bx k).2 k).getD q 0#8)]) c2 sp2) w216) (AppR k2 (sob E8 5 (expI ((expR kl bx k).1) (expT bx (expR kl bx k).1 (expR kl bx k).2 k) k q) sp2) (ob2 E8 5 (expI ((expR kl bx k).1) (expT bx (expR kl bx k).1 (expR kl bx k).2 k) k q) ([((expI ((expR kl bx k).1) (expT bx (expR kl bx k).1 (expR kl bx k).2 k) k q).getD (4 * k + q) 0#8) ^^^ ((expT bx (expR kl bx k).1 (expR kl bx k).2 k).getD q 0#8)]) c2 sp2)) mixed (by kernel_rfl) (AppC.drew fun g hg => HL2.has _ (List.mem_of_getElem? (i := 3) rfl) g hg) AppC.trans ?_ ?_
     ·exact relAll ⟨⟨fun _ _ _ _ _ hR h => bsRel_app (fun g hg => HL2.lt (List.mem_of_getElem? (i := 3) rfl) hg) hR h, fun _ _ _ _ _ h => h⟩, ⟨fun _ _ _ _ _ hR h => appRel_stable hR h, fun _ _ _ _ _ h => h⟩, trivial⟩
     refine ⟨pT b5, fun _ uw218 hC219 _ => Gives.run rfl (r_fieldAddr (off' := 0) fld176_0 (by decide) (b := b5) (off := 0) rfl (by omega)) ⟨rfl, AppR.refl⟩, ?_⟩
     refine ⟨.slice (ownA k2) (16 + 4 * k + q) c2, fun _ uw223 hC224 _ => ?_, ?_⟩
     ·obtain ⟨sp225, H226, hS227, _⟩ := hC224.hp HL2 (k := 3) rfl hS2
      exact Gives.run rfl (r_loadC (v := .slice (ownA k2) (16 + 4 * k + q) c2) one174 (H226.get (k := 4) rfl) (off := 0) rfl (by rfl)) ⟨rfl, AppR.refl⟩
     refine ⟨pT b5, fun _ uw228 hC229 _ => Gives.run rfl (r_fieldAddr (off' := 0) fld176_0 (by decide) (b := b5) (off := 0) rfl (by omega)) ⟨rfl, AppR.refl⟩, ?_⟩
     refine ⟨.slice (ownA k2) (16 + 4 * k + q) c2, fun _ uw233 hC234 _ => ?_, ?_⟩
     ·obtain ⟨sp235, H236, hS237, _⟩ := hC234.hp HL2 (k := 3) rfl hS2
      exact Gives.run rfl (r_loadC (v := .slice (ownA k2) (16 + 4 * k + q) c2) one174 (H236.get (k := 4) rfl) (off := 0) rfl (by rfl)) ⟨rfl, AppR.refl⟩
     refine ⟨i64 ((k + 4 : Nat)), fun _ uw238 hC239 _ => Gives.run rfl (r_move (v := i64 ((k + 4 : Nat))) rfl) ⟨rfl, AppR.refl⟩, ?_⟩
     refine ⟨i64 ((4 : Int) * (k + 4 : Nat)), fun _ uw243 hC244 _ => Gives.run rfl (r_mulI (a := (4 : Int)) (b := (k + 4 : Nat)) rfl rfl (by omega)) ⟨rfl, AppR.refl⟩, ?_⟩
     refine ⟨i64 (((4 : Int) * (k + 4 : Nat)) - (16 : Int)), fun _ uw248 hC249 _ => Gives.run rfl (r_subI (a := (4 : Int) * (k + 4 : Nat)) (b := (16 : Int)) rfl rfl (by omega)) ⟨rfl, AppR.refl⟩, ?_⟩
     refine ⟨i64 (q : Nat), fun _ uw253 hC254 _ => Gives.run rfl (r_move (v := i64 (q : Nat)) rfl) ⟨rfl, AppR.refl⟩, ?_⟩
     refine ⟨i64 ((((4 : Int) * (k + 4 : Nat)) - (16 : Int)) + (q : Nat)), fun _ uw258 hC259 _ => Gives.run rfl (r_addI (a := ((4 : Int) * (k + 4 : Nat)) - (16 : Int)) (b := (q : Nat)) rfl rfl (by omega)) ⟨rfl, AppR.refl⟩, ?_⟩
     refine ⟨.pointer (adr (ownA k2) ((4 * k + q) * 1)), fun _ uw263 hC264 _ => ?_, ?_⟩
     ·obtain ⟨sp265, H266, hS267, _⟩ := hC264.hp HL2 (k := 3) rfl hS2
      exact Gives.run rfl (r_idxS (E := E8) (l := expI ((expR kl bx k).1) (expT bx (expR kl bx k).1 (expR kl bx k).2 k) k q) (j := 4 * k + q) sli174 (H266.rd (k := 3) rfl hS267) rfl rfl (by first | rfl | omega | (simp; omega)) (by omega) (by omega)) ⟨rfl, AppR.refl⟩
     refine ⟨u8 ((expI ((expR kl bx k).1) (expT bx (expR kl bx k).1 (expR kl bx k).2 k) k q).getD (4 * k + q) 0#8), fun _ uw268 hC269 _ => ?_, ?_⟩
     ·obtain ⟨sp270, H271, hS272, _⟩ := hC269.hp HL2 (k := 3) rfl hS2
      exact Gives.run rfl (r_ldS (E := E8) (l := expI ((expR kl bx k).1) (expT bx (expR kl bx k).1 (expR kl bx k).2 k) k q) (j := 4 * k + q) (v := (expI ((expR kl bx k).1) (expT bx (expR kl bx k).1 (expR kl bx k).2 k) k q).getD (4 * k + q) 0#8) fits5 (H271.rd (k := 3) rfl hS272) rfl rfl (at_getD (by omega))) ⟨rfl, AppR.refl⟩
     refine ⟨.slice (ownA key207) 4 4, fun _ uw273 hC274 _ => Gives.run rfl (r_move (v := .slice (ownA key207) 4 4) rfl) ⟨rfl, AppR.refl⟩, ?_⟩
     refine ⟨i64 (q : Nat), fun _ uw278 hC279 _ => Gives.run rfl (r_move (v := i64 (q : Nat)) rfl) ⟨rfl, AppR.refl⟩, ?_⟩
     refine ⟨.pointer (adr (ownA key207) (q * 1)), fun _ uw283 hC284 _ => ?_, ?_⟩
     ·obtain ⟨sp285, H286, hS287, _⟩ := hC284.hp HL2 (k := 3) rfl hS2
      exact Gives.run rfl (r_idxS (E := E8) (l := expT bx (expR kl bx k).1 (expR kl bx k).2 k) (j := q) sli174 (H286.rd (k := 0) rfl hS211) rfl rfl (by first | rfl | omega | (simp; omega)) (by exact hlt.symm) (by omega)) ⟨rfl, AppR.refl⟩
     refine ⟨u8 ((expT bx (expR kl bx k).1 (expR kl bx k).2 k).getD q 0#8), fun _ uw288 hC289 _ => ?_, ?_⟩
     ·obtain ⟨sp290, H291, hS292, _⟩ := hC289.hp HL2 (k := 3) rfl hS2
      exact Gives.run rfl (r_ldS (E := E8) (l := expT bx (expR kl bx k).1 (expR kl bx k).2 k) (j := q) (v := (expT bx (expR kl bx k).1 (expR kl bx k).2 k).getD q 0#8) fits5 (H291.rd (k := 0) rfl hS211) rfl rfl (at_getD (by omega))) ⟨rfl, AppR.refl⟩
     refine ⟨u8 (((expI ((expR kl bx k).1) (expT bx (expR kl bx k).1 (expR kl bx k).2 k) k q).getD (4 * k + q) 0#8) ^^^ ((expT bx (expR kl bx k).1 (expR kl bx k).2 k).getD q 0#8)), fun _ uw293 hC294 _ => Gives.run rfl (r_xor8 (a := (expI ((expR kl bx k).1) (expT bx (expR kl bx k).1 (expR kl bx k).2 k) k q).getD (4 * k + q) 0#8) (b := (expT bx (expR kl bx k).1 (expR kl bx k).2 k).getD q 0#8) rfl rfl) ⟨rfl, AppR.refl⟩, ?_⟩
     refine ⟨fun r uw298 hC299 hF => bsGives (E := E8) (l := [((expI ((expR kl bx k).1) (expT bx (expR kl bx k).1 (expR kl bx k).2 k) k q).getD (4 * k + q) 0#8) ^^^ ((expT bx (expR kl bx k).1 (expR kl bx k).2 k).getD q 0#8)]) sli174 zer5 (bLe rfl) (ps := [(0, u8 (((expI ((expR kl bx k).1) (expT bx (expR kl bx k).1 (expR kl bx k).2 k) k q).getD (4 * k + q) 0#8) ^^^ ((expT bx (expR kl bx k).1 (expR kl bx k).2 k).getD q 0#8)))]) rfl (by exact fillAll rfl rfl) hC299.1.size (fun _ h => AppR.ext h), ?_⟩
     refine ⟨fun r uw300 hC301 hF => ?_, ?_⟩
     ·obtain ⟨sp305, H306, hS307, _⟩ := hC301.hp HL2 (k := 3) rfl hS2
      obtain ⟨b304, e302, _, h303⟩ := hF 16 _ rfl rfl
      exact appGives hC301 HL2 (k := 3) rfl hS2 sli174 zer5 rfl byt5 (Rd.row h303) rfl (by omega) e302 (by rfl) (by omega)
     refine ⟨pT b5, fun _ uw308 hC309 _ => Gives.run rfl (r_fieldAddr (off' := 0) fld176_0 (by decide) (b := b5) (off := 0) rfl (by omega)) ⟨rfl, AppR.refl⟩, ?_⟩
     intro r316 w313 hE315 hF
     obtain ⟨key317, c318, sp319, e320, hS321, hne322, hk323⟩ := hF 17 _ rfl
     have H314 := (HL2.turn (k := 3) rfl hE315.1 hk323).as (L' := [(key207, sob E8 5 (expT bx (expR kl bx k).1 (expR kl bx k).2 k) ([])), (key128, sob E8 5 (expS ((expR kl bx k).1) k) sp130), (kb, sob E8 5 bx spb), (key317, sob E8 5 ((expI ((expR kl bx k).1) (expT bx (expR kl bx k).1 (expR kl bx k).2 k) k q) ++ ([((expI ((expR kl bx k).1) (expT bx (expR kl bx k).1 (expR kl bx k).2 k) k q).getD (4 * k + q) 0#8) ^^^ ((expT bx (expR kl bx k).1 (expR kl bx k).2 k).getD q 0#8)])) sp319), (some b5, .cells #[.slice (ownA k2) (16 + 4 * k + q) c2, .slice (ownA kb) 256 cb] 176 (0, 0)), (some b1, .cells #[.slice none 0 0, .slice none 0 0] 176 (0, 0))]) rfl
     dsimp only
     rw [e320]
     have e324 : (expI ((expR kl bx k).1) (expT bx (expR kl bx k).1 (expR kl bx k).2 k) k q) ++ ([((expI ((expR kl bx k).1) (expT bx (expR kl bx k).1 (expR kl bx k).2 k) k q).getD (4 * k + q) 0#8) ^^^ ((expT bx (expR kl bx k).1 (expR kl bx k).2 k).getD q 0#8)]) = expI ((expR kl bx k).1) (expT bx (expR kl bx k).1 (expR kl bx k).2 k) k (q + 1) := by rw [expI]
     have hS325 := hS321
     rw [e324] at hS325
     have H326 := H314.as (L' := [(key207, sob E8 5 (expT bx (expR kl bx k).1 (expR kl bx k).2 k) ([])), (key128, sob E8 5 (expS ((expR kl bx k).1) k) sp130), (kb, sob E8 5 bx spb), (key317, sob E8 5 (expI ((expR kl bx k).1) (expT bx (expR kl bx k).1 (expR kl bx k).2 k) k (q + 1)) sp319), (some b5, .cells #[.slice (ownA k2) (16 + 4 * k + q) c2, .slice (ownA kb) 256 cb] 176 (0, 0)), (some b1, .cells #[.slice none 0 0, .slice none 0 0] 176 (0, 0))]) (by rw [e324])
     refine d_store (k := 4) (v := .slice (ownA key317) ((16 + 4 * k + q) + 1) c318) (cs' := #[.slice (ownA key317) ((16 + 4 * k + q) + 1) c318, .slice (ownA kb) 256 cb]) H326 rfl rfl rfl siz174 (by rfl) (by intro u hu; simp [Value.cells] at hu; first | (subst hu; rfl) | (rcases hu with rfl <;> rfl)) (by exact bLe rfl) (by rfl) ?_
     intro w327 H328 hC329
     have H328' := H328.as (L' := [(key207, sob E8 5 (expT bx (expR kl bx k).1 (expR kl bx k).2 k) ([])), (key128, sob E8 5 (expS ((expR kl bx k).1) k) sp130), (kb, sob E8 5 bx spb), (key317, sob E8 5 (expI ((expR kl bx k).1) (expT bx (expR kl bx k).1 (expR kl bx k).2 k) k (q + 1)) sp319), (some b5, .cells #[.slice (ownA key317) ((16 + 4 * k + q) + 1) c318, .slice (ownA kb) 256 cb] 176 (0, 0)), (some b1, .cells #[.slice none 0 0, .slice none 0 0] 176 (0, 0))]) rfl
     clear H328
     refine wnil ?_
     refine blockNormal ?_
     refine thenNormal ?_
     refine oneRegion ?_
     refine sM (i64 (q : Nat)) rfl ?_
     refine sq (r_addI (a := (q : Nat)) (b := (1 : Int)) rfl rfl (by omega)) ?_
     refine sA (i64 ((q : Nat) + (1 : Int))) rfl ?_
     refine wnil ?_
     refine thenNormal ?_
     exact ⟨(q + 1, key317, c318, sp319), _, rfl, ⟨rfl, rfl, rfl, rfl, rfl, rfl, rfl, trivial⟩, ⟨by omega, hS325, H328'⟩, by show 4 - (q + 1) < 4 - q; omega⟩
    ·skip
     obtain rfl : q = 4 := by omega
     refine exitAny ?_
     refine thenExit ?_
     refine thenExit ?_
     refine blockHere ?_
     refine blockNormal ?_
     refine thenNormal ?_
     refine oneRegion ?_
     refine sM (i64 ((k + 4 : Nat))) rfl ?_
     refine sq (r_addI (a := (k + 4 : Nat)) (b := (1 : Int)) rfl rfl (by omega)) ?_
     refine sA (i64 ((k + 4 : Nat) + (1 : Int))) rfl ?_
     refine wnil ?_
     refine thenNormal ?_
     have e330 : expI ((expR kl bx k).1) (expT bx (expR kl bx k).1 (expR kl bx k).2 k) k 4 = (expR kl bx (k + 1)).1 := by rw [expR]
     have hS331 := hS2
     rw [e330] at hS331
     have H332 := HL2.as (L' := [(key207, sob E8 5 (expT bx (expR kl bx k).1 (expR kl bx k).2 k) ([])), (key128, sob E8 5 (expS ((expR kl bx k).1) k) sp130), (kb, sob E8 5 bx spb), (k2, sob E8 5 ((expR kl bx (k + 1)).1) sp2), (some b5, .cells #[.slice (ownA k2) (16 + 4 * k + 4) c2, .slice (ownA kb) 256 cb] 176 (0, 0)), (some b1, .cells #[.slice none 0 0, .slice none 0 0] 176 (0, 0))]) (by rw [e330])
     rw [show 16 + 4 * k + 4 = 16 + 4 * (k + 1) by omega] at H332
     exact ⟨(k + 1, k2, c2, sp2), _, rfl, ⟨rfl, rfl, rfl, congrArg u8 (by rw [expR]; dsimp only; rw [if_pos (by omega)]), congrArg i64 (by omega), trivial⟩, ⟨by omega, hS331, ((H332.dropk 1).dropk 0)⟩, by show 40 - (k + 1) < 40 - k; omega⟩
   ·skip
    have e333 : expS ((expR kl bx k).1) k = expT bx (expR kl bx k).1 (expR kl bx k).2 k := by rw [expT, if_neg (by omega)]
    have hS334 := hS136
    rw [e333] at hS334
    have H335 := H137.as (L' := [(key128, sob E8 5 (expT bx (expR kl bx k).1 (expR kl bx k).2 k) sp130), (kb, sob E8 5 bx spb), (kk, sob E8 5 ((expR kl bx k).1) ksp), (some b5, .cells #[.slice (ownA kk) (16 + 4 * k) kc, .slice (ownA kb) 256 cb] 176 (0, 0)), (some b1, .cells #[.slice none 0 0, .slice none 0 0] 176 (0, 0))]) (by rw [e333])
    refine skipAny ?_
    refine thenNormal ?_
    refine sR ?_
    refine sA (i64 ((0 : Int))) rfl ?_
    have hlt : (expT bx (expR kl bx k).1 (expR kl bx k).2 k).length = 4 := by rw [expT]; first | rw [if_pos (by omega)]; rfl | rw [if_neg (by omega)]; exact expS_len _ _ hl
    refine wend ?_
    refine blockAny ?_
    refine loopAny (σ := Nat × Option Nat × Nat × List Value) (fun (q, k2, c2, sp2) => [(0, .slice xq 16 cq), (2, pT b1), (3, pT b5), (5, u8 ((expR kl bx k).2)), (6, i64 ((k + 4 : Nat))), (7, .slice (ownA key128) (0 + 4) c129), (8, i64 (q : Nat))]) (fun (q, k2, c2, sp2) w' => q ≤ 4 ∧ Sl E8 k2 (expI ((expR kl bx k).1) (expT bx (expR kl bx k).1 (expR kl bx k).2 k) k q) c2 sp2 ∧ Hp No w w' [(key128, sob E8 5 (expT bx (expR kl bx k).1 (expR kl bx k).2 k) sp130), (kb, sob E8 5 bx spb), (k2, sob E8 5 (expI ((expR kl bx k).1) (expT bx (expR kl bx k).1 (expR kl bx k).2 k) k q) sp2), (some b5, .cells #[.slice (ownA k2) (16 + 4 * k + q) c2, .slice (ownA kb) 256 cb] 176 (0, 0)), (some b1, .cells #[.slice none 0 0, .slice none 0 0] 176 (0, 0))]) (fun (q, k2, c2, sp2) => 4 - q) ((0, kk, kc, ksp)) ?_ ?_ ?_
    ·exact ⟨rfl, rfl, rfl, rfl, rfl, rfl, rfl, trivial⟩
    ·exact ⟨by omega, hSk, H335⟩
    rintro ⟨q, k2, c2, sp2⟩ ρ w336 ⟨hq, hS2, HL2⟩
    have hl2 := expI_len ((expR kl bx k).1) (expT bx (expR kl bx k).1 (expR kl bx k).2 k) k q
    rw [hl] at hl2
    refine seqAny ?_
    refine sR ?_
    refine sM (i64 (q : Nat)) rfl ?_
    refine sq (r_lssI (a := (q : Nat)) (b := (4 : Int)) rfl rfl) ?_
    refine wend ?_
    refine condProp (((q : Nat) : Int) < (4 : Int)) rfl (fun hk79 => ?_) (fun hk79 => ?_)
    ·skip
     refine skipAny ?_
     refine thenNormal ?_
     refine seqAny ?_
     refine blockAny ?_
     refine drawAny (K := [none, none, none, none, none, none, none, none, none, none, none, none, none, none, none, none, some (bsRel E8 5 [((expI ((expR kl bx k).1) (expT bx (expR kl bx k).1 (expR kl bx k).2 k) k q).getD (4 * k + q) 0#8) ^^^ ((expT bx (expR kl bx k).1 (expR kl bx k).2 k).getD q 0#8)] 1 w336), some (appRel E8 5 k2 (expI ((expR kl bx k).1) (expT bx (expR kl bx k).1 (expR kl bx k).2 k) k q) ([((expI ((expR kl bx k).1) (expT bx (expR kl bx k).1 (expR kl bx k).2 k) k q).getD (4 * k + q) 0#8) ^^^ ((expT bx (expR kl bx k).1 (expR kl bx k).2 k).getD q 0#8)]) ((16 + 4 * k + q) + 1) w336), none]) [0, 1, 0, 4, 0, 16, 48, 0, 240, 508, 1020, 0, 0, 6144, 14336, 32764, 65532, 131071, 262143, 524287] (AppC k2 (sob E8 5 (expI ((expR kl bx k).1) (expT bx (expR kl bx k).1 (expR kl bx k).2 k) k q) sp2) (ob2 E8 5 (expI ((expR kl bx k).1) (expT bx (expR kl bx k).1 (expR kl bx k).2 k) k q) ([((expI ((expR kl bx k).1) (expT bx (expR kl bx k).1 (expR kl bx k).2 k) k q).getD (4 * k + q) 0#8) ^^^ ((expT bx (expR kl bx k).1 (expR kl bx k).2 k).getD q 0#8)]) c2 sp2) w336) (AppR k2 (sob E8 5 (expI ((expR kl bx k).1) (expT bx (expR kl bx k).1 (expR kl bx k).2 k) k q) sp2) (ob2 E8 5 (expI ((expR kl bx k).1) (expT bx (expR kl bx k).1 (expR kl bx k).2 k) k q) ([((expI ((expR kl bx k).1) (expT bx (expR kl bx k).1 (expR kl bx k).2 k) k q).getD (4 * k + q) 0#8) ^^^ ((expT bx (expR kl bx k).1 (expR kl bx k).2 k).getD q 0#8)]) c2 sp2)) mixed (by kernel_rfl) (AppC.drew fun g hg => HL2.has _ (List.mem_of_getElem? (i := 2) rfl) g hg) AppC.trans ?_ ?_
     ·exact relAll ⟨⟨fun _ _ _ _ _ hR h => bsRel_app (fun g hg => HL2.lt (List.mem_of_getElem? (i := 2) rfl) hg) hR h, fun _ _ _ _ _ h => h⟩, ⟨fun _ _ _ _ _ hR h => appRel_stable hR h, fun _ _ _ _ _ h => h⟩, trivial⟩
     refine ⟨pT b5, fun _ uw338 hC339 _ => Gives.run rfl (r_fieldAddr (off' := 0) fld176_0 (by decide) (b := b5) (off := 0) rfl (by omega)) ⟨rfl, AppR.refl⟩, ?_⟩
     refine ⟨.slice (ownA k2) (16 + 4 * k + q) c2, fun _ uw343 hC344 _ => ?_, ?_⟩
     ·obtain ⟨sp345, H346, hS347, _⟩ := hC344.hp HL2 (k := 2) rfl hS2
      exact Gives.run rfl (r_loadC (v := .slice (ownA k2) (16 + 4 * k + q) c2) one174 (H346.get (k := 3) rfl) (off := 0) rfl (by rfl)) ⟨rfl, AppR.refl⟩
     refine ⟨pT b5, fun _ uw348 hC349 _ => Gives.run rfl (r_fieldAddr (off' := 0) fld176_0 (by decide) (b := b5) (off := 0) rfl (by omega)) ⟨rfl, AppR.refl⟩, ?_⟩
     refine ⟨.slice (ownA k2) (16 + 4 * k + q) c2, fun _ uw353 hC354 _ => ?_, ?_⟩
     ·obtain ⟨sp355, H356, hS357, _⟩ := hC354.hp HL2 (k := 2) rfl hS2
      exact Gives.run rfl (r_loadC (v := .slice (ownA k2) (16 + 4 * k + q) c2) one174 (H356.get (k := 3) rfl) (off := 0) rfl (by rfl)) ⟨rfl, AppR.refl⟩
     refine ⟨i64 ((k + 4 : Nat)), fun _ uw358 hC359 _ => Gives.run rfl (r_move (v := i64 ((k + 4 : Nat))) rfl) ⟨rfl, AppR.refl⟩, ?_⟩
     refine ⟨i64 ((4 : Int) * (k + 4 : Nat)), fun _ uw363 hC364 _ => Gives.run rfl (r_mulI (a := (4 : Int)) (b := (k + 4 : Nat)) rfl rfl (by omega)) ⟨rfl, AppR.refl⟩, ?_⟩
     refine ⟨i64 (((4 : Int) * (k + 4 : Nat)) - (16 : Int)), fun _ uw368 hC369 _ => Gives.run rfl (r_subI (a := (4 : Int) * (k + 4 : Nat)) (b := (16 : Int)) rfl rfl (by omega)) ⟨rfl, AppR.refl⟩, ?_⟩
     refine ⟨i64 (q : Nat), fun _ uw373 hC374 _ => Gives.run rfl (r_move (v := i64 (q : Nat)) rfl) ⟨rfl, AppR.refl⟩, ?_⟩
     refine ⟨i64 ((((4 : Int) * (k + 4 : Nat)) - (16 : Int)) + (q : Nat)), fun _ uw378 hC379 _ => Gives.run rfl (r_addI (a := ((4 : Int) * (k + 4 : Nat)) - (16 : Int)) (b := (q : Nat)) rfl rfl (by omega)) ⟨rfl, AppR.refl⟩, ?_⟩
     refine ⟨.pointer (adr (ownA k2) ((4 * k + q) * 1)), fun _ uw383 hC384 _ => ?_, ?_⟩
     ·obtain ⟨sp385, H386, hS387, _⟩ := hC384.hp HL2 (k := 2) rfl hS2
      exact Gives.run rfl (r_idxS (E := E8) (l := expI ((expR kl bx k).1) (expT bx (expR kl bx k).1 (expR kl bx k).2 k) k q) (j := 4 * k + q) sli174 (H386.rd (k := 2) rfl hS387) rfl rfl (by first | rfl | omega | (simp; omega)) (by omega) (by omega)) ⟨rfl, AppR.refl⟩
     refine ⟨u8 ((expI ((expR kl bx k).1) (expT bx (expR kl bx k).1 (expR kl bx k).2 k) k q).getD (4 * k + q) 0#8), fun _ uw388 hC389 _ => ?_, ?_⟩
     ·obtain ⟨sp390, H391, hS392, _⟩ := hC389.hp HL2 (k := 2) rfl hS2
      exact Gives.run rfl (r_ldS (E := E8) (l := expI ((expR kl bx k).1) (expT bx (expR kl bx k).1 (expR kl bx k).2 k) k q) (j := 4 * k + q) (v := (expI ((expR kl bx k).1) (expT bx (expR kl bx k).1 (expR kl bx k).2 k) k q).getD (4 * k + q) 0#8) fits5 (H391.rd (k := 2) rfl hS392) rfl rfl (at_getD (by omega))) ⟨rfl, AppR.refl⟩
     refine ⟨.slice (ownA key128) (0 + 4) c129, fun _ uw393 hC394 _ => Gives.run rfl (r_move (v := .slice (ownA key128) (0 + 4) c129) rfl) ⟨rfl, AppR.refl⟩, ?_⟩
     refine ⟨i64 (q : Nat), fun _ uw398 hC399 _ => Gives.run rfl (r_move (v := i64 (q : Nat)) rfl) ⟨rfl, AppR.refl⟩, ?_⟩
     refine ⟨.pointer (adr (ownA key128) (q * 1)), fun _ uw403 hC404 _ => ?_, ?_⟩
     ·obtain ⟨sp405, H406, hS407, _⟩ := hC404.hp HL2 (k := 2) rfl hS2
      exact Gives.run rfl (r_idxS (E := E8) (l := expT bx (expR kl bx k).1 (expR kl bx k).2 k) (j := q) sli174 (H406.rd (k := 0) rfl hS334) rfl rfl (by first | rfl | omega | (simp; omega)) (by exact hlt.symm) (by omega)) ⟨rfl, AppR.refl⟩
     refine ⟨u8 ((expT bx (expR kl bx k).1 (expR kl bx k).2 k).getD q 0#8), fun _ uw408 hC409 _ => ?_, ?_⟩
     ·obtain ⟨sp410, H411, hS412, _⟩ := hC409.hp HL2 (k := 2) rfl hS2
      exact Gives.run rfl (r_ldS (E := E8) (l := expT bx (expR kl bx k).1 (expR kl bx k).2 k) (j := q) (v := (expT bx (expR kl bx k).1 (expR kl bx k).2 k).getD q 0#8) fits5 (H411.rd (k := 0) rfl hS334) rfl rfl (at_getD (by omega))) ⟨rfl, AppR.refl⟩
     refine ⟨u8 (((expI ((expR kl bx k).1) (expT bx (expR kl bx k).1 (expR kl bx k).2 k) k q).getD (4 * k + q) 0#8) ^^^ ((expT bx (expR kl bx k).1 (expR kl bx k).2 k).getD q 0#8)), fun _ uw413 hC414 _ => Gives.run rfl (r_xor8 (a := (expI ((expR kl bx k).1) (expT bx (expR kl bx k).1 (expR kl bx k).2 k) k q).getD (4 * k + q) 0#8) (b := (expT bx (expR kl bx k).1 (expR kl bx k).2 k).getD q 0#8) rfl rfl) ⟨rfl, AppR.refl⟩, ?_⟩
     refine ⟨fun r uw418 hC419 hF => bsGives (E := E8) (l := [((expI ((expR kl bx k).1) (expT bx (expR kl bx k).1 (expR kl bx k).2 k) k q).getD (4 * k + q) 0#8) ^^^ ((expT bx (expR kl bx k).1 (expR kl bx k).2 k).getD q 0#8)]) sli174 zer5 (bLe rfl) (ps := [(0, u8 (((expI ((expR kl bx k).1) (expT bx (expR kl bx k).1 (expR kl bx k).2 k) k q).getD (4 * k + q) 0#8) ^^^ ((expT bx (expR kl bx k).1 (expR kl bx k).2 k).getD q 0#8)))]) rfl (by exact fillAll rfl rfl) hC419.1.size (fun _ h => AppR.ext h), ?_⟩
     refine ⟨fun r uw420 hC421 hF => ?_, ?_⟩
     ·obtain ⟨sp425, H426, hS427, _⟩ := hC421.hp HL2 (k := 2) rfl hS2
      obtain ⟨b424, e422, _, h423⟩ := hF 16 _ rfl rfl
      exact appGives hC421 HL2 (k := 2) rfl hS2 sli174 zer5 rfl byt5 (Rd.row h423) rfl (by omega) e422 (by rfl) (by omega)
     refine ⟨pT b5, fun _ uw428 hC429 _ => Gives.run rfl (r_fieldAddr (off' := 0) fld176_0 (by decide) (b := b5) (off := 0) rfl (by omega)) ⟨rfl, AppR.refl⟩, ?_⟩
     intro r436 w433 hE435 hF
     obtain ⟨key437, c438, sp439, e440, hS441, hne442, hk443⟩ := hF 17 _ rfl
     have H434 := (HL2.turn (k := 2) rfl hE435.1 hk443).as (L' := [(key128, sob E8 5 (expT bx (expR kl bx k).1 (expR kl bx k).2 k) sp130), (kb, sob E8 5 bx spb), (key437, sob E8 5 ((expI ((expR kl bx k).1) (expT bx (expR kl bx k).1 (expR kl bx k).2 k) k q) ++ ([((expI ((expR kl bx k).1) (expT bx (expR kl bx k).1 (expR kl bx k).2 k) k q).getD (4 * k + q) 0#8) ^^^ ((expT bx (expR kl bx k).1 (expR kl bx k).2 k).getD q 0#8)])) sp439), (some b5, .cells #[.slice (ownA k2) (16 + 4 * k + q) c2, .slice (ownA kb) 256 cb] 176 (0, 0)), (some b1, .cells #[.slice none 0 0, .slice none 0 0] 176 (0, 0))]) rfl
     dsimp only
     rw [e440]
     have e444 : (expI ((expR kl bx k).1) (expT bx (expR kl bx k).1 (expR kl bx k).2 k) k q) ++ ([((expI ((expR kl bx k).1) (expT bx (expR kl bx k).1 (expR kl bx k).2 k) k q).getD (4 * k + q) 0#8) ^^^ ((expT bx (expR kl bx k).1 (expR kl bx k).2 k).getD q 0#8)]) = expI ((expR kl bx k).1) (expT bx (expR kl bx k).1 (expR kl bx k).2 k) k (q + 1) := by rw [expI]
     have hS445 := hS441
     rw [e444] at hS445
     have H446 := H434.as (L' := [(key128, sob E8 5 (expT bx (expR kl bx k).1 (expR kl bx k).2 k) sp130), (kb, sob E8 5 bx spb), (key437, sob E8 5 (expI ((expR kl bx k).1) (expT bx (expR kl bx k).1 (expR kl bx k).2 k) k (q + 1)) sp439), (some b5, .cells #[.slice (ownA k2) (16 + 4 * k + q) c2, .slice (ownA kb) 256 cb] 176 (0, 0)), (some b1, .cells #[.slice none 0 0, .slice none 0 0] 176 (0, 0))]) (by rw [e444])
     refine d_store (k := 3) (v := .slice (ownA key437) ((16 + 4 * k + q) + 1) c438) (cs' := #[.slice (ownA key437) ((16 + 4 * k + q) + 1) c438, .slice (ownA kb) 256 cb]) H446 rfl rfl rfl siz174 (by rfl) (by intro u hu; simp [Value.cells] at hu; first | (subst hu; rfl) | (rcases hu with rfl <;> rfl)) (by exact bLe rfl) (by rfl) ?_
     intro w447 H448 hC449
     have H448' := H448.as (L' := [(key128, sob E8 5 (expT bx (expR kl bx k).1 (expR kl bx k).2 k) sp130), (kb, sob E8 5 bx spb), (key437, sob E8 5 (expI ((expR kl bx k).1) (expT bx (expR kl bx k).1 (expR kl bx k).2 k) k (q + 1)) sp439), (some b5, .cells #[.slice (ownA key437) ((16 + 4 * k + q) + 1) c438, .slice (ownA kb) 256 cb] 176 (0, 0)), (some b1, .cells #[.slice none 0 0, .slice none 0 0] 176 (0, 0))]) rfl
     clear H448
     refine wnil ?_
     refine blockNormal ?_
     refine thenNormal ?_
     refine oneRegion ?_
     refine sM (i64 (q : Nat)) rfl ?_
     refine sq (r_addI (a := (q : Nat)) (b := (1 : Int)) rfl rfl (by omega)) ?_
     refine sA (i64 ((q : Nat) + (1 : Int))) rfl ?_
     refine wnil ?_
     refine thenNormal ?_
     exact ⟨(q + 1, key437, c438, sp439), _, rfl, ⟨rfl, rfl, rfl, rfl, rfl, rfl, rfl, trivial⟩, ⟨by omega, hS445, H448'⟩, by show 4 - (q + 1) < 4 - q; omega⟩
    ·skip
     obtain rfl : q = 4 := by omega
     refine exitAny ?_
     refine thenExit ?_
     refine thenExit ?_
     refine blockHere ?_
     refine blockNormal ?_
     refine thenNormal ?_
     refine oneRegion ?_
     refine sM (i64 ((k + 4 : Nat))) rfl ?_
     refine sq (r_addI (a := (k + 4 : Nat)) (b := (1 : Int)) rfl rfl (by omega)) ?_
     refine sA (i64 ((k + 4 : Nat) + (1 : Int))) rfl ?_
     refine wnil ?_
     refine thenNormal ?_
     have e450 : expI ((expR kl bx k).1) (expT bx (expR kl bx k).1 (expR kl bx k).2 k) k 4 = (expR kl bx (k + 1)).1 := by rw [expR]
     have hS451 := hS2
     rw [e450] at hS451
     have H452 := HL2.as (L' := [(key128, sob E8 5 (expT bx (expR kl bx k).1 (expR kl bx k).2 k) sp130), (kb, sob E8 5 bx spb), (k2, sob E8 5 ((expR kl bx (k + 1)).1) sp2), (some b5, .cells #[.slice (ownA k2) (16 + 4 * k + 4) c2, .slice (ownA kb) 256 cb] 176 (0, 0)), (some b1, .cells #[.slice none 0 0, .slice none 0 0] 176 (0, 0))]) (by rw [e450])
     rw [show 16 + 4 * k + 4 = 16 + 4 * (k + 1) by omega] at H452
     exact ⟨(k + 1, k2, c2, sp2), _, rfl, ⟨rfl, rfl, rfl, congrArg u8 (by rw [expR]; dsimp only; rw [if_neg (by omega)]), congrArg i64 (by omega), trivial⟩, ⟨by omega, hS451, (H452.dropk 0)⟩, by show 40 - (k + 1) < 40 - k; omega⟩
  ·skip
   obtain rfl : k = 40 := by omega
   refine exitAny ?_
   refine thenExit ?_
   refine thenExit ?_
   refine blockHere ?_
   refine thenNormal ?_
   refine sR ?_
   refine sq (r_loadA (cs' := #[.slice (ownA kk) (16 + 4 * 40) kc, .slice (ownA kb) 256 cb]) agg176 siz176 (HL.get (k := 2) rfl) (off := 0) rfl (by exact bLe rfl) (by rfl)) ?_
   refine d_store (k := 3) (v := .agg #[.slice (ownA kk) (16 + 4 * 40) kc, .slice (ownA kb) 256 cb]) (cs' := #[.slice (ownA kk) (16 + 4 * 40) kc, .slice (ownA kb) 256 cb]) HL rfl rfl rfl siz176 (by rfl) (by intro u hu; simp [Value.cells] at hu; first | (subst hu; rfl) | (rcases hu with rfl | rfl <;> rfl)) (by exact bLe rfl) (by rfl) ?_
   intro w453 H454 hC455
   have H454' := H454.as (L' := [(kb, sob E8 5 bx spb), (kk, sob E8 5 ((expR kl bx 40).1) ksp), (some b5, .cells #[.slice (ownA kk) (16 + 4 * 40) kc, .slice (ownA kb) 256 cb] 176 (0, 0)), (some b1, .cells #[.slice (ownA kk) (16 + 4 * 40) kc, .slice (ownA kb) 256 cb] 176 (0, 0))]) rfl
   clear H454
   refine wend ?_
   refine retAny ?_
   refine retG (rs := [.cell 2 176]) (vs := [.agg #[.slice (ownA kk) (16 + 4 * 40) kc, .slice (ownA kb) 256 cb]]) rfl ⟨r_loadA (cs' := #[.slice (ownA kk) (16 + 4 * 40) kc, .slice (ownA kb) 256 cb]) agg176 siz176 (H454'.get (k := 3) rfl) (off := 0) rfl (by exact bLe rfl) (by rfl), trivial⟩ ?_
   exact ⟨_, rfl, ⟨kk, kc, ksp, kb, cb, spb, rfl, hSk, hSb, ((H454'.dropk 3).dropk 2)⟩, H454'.chg⟩
theorem rfixed_ok (bx : List By) (hbx : bx = boxR 256) (w : World) : Calls Tryd.prog 92 [].toArray w (Ret fun v w' => CiphR (expR fixK bx 40).1 bx w v w' ∧ Ext w w') := by
 have H := Hp.start No w
 refine enter (n := 3) Tryd.func92 rfl rfl (bLe rfl) ?_
 refine sR ?_
 refine q_alloc (o := .cells #[.slice none 0 0, .slice none 0 0] 176 (0, 0)) H zer176 (by kernel_rfl) ?_
 intro b1 w2 hb1 H3 hE4
 refine wend ?_
 refine sR ?_
 refine q_buildSlice (E := E8) (l := [0#8, 1#8, 2#8, 3#8, 4#8, 5#8, 6#8, 7#8, 8#8, 9#8, 10#8, 11#8, 12#8, 13#8, 14#8, 15#8]) H3 sli174 zer5 (bLe rfl) (ps := [(0, u8 (0#8)), (1, u8 (1#8)), (2, u8 (2#8)), (3, u8 (3#8)), (4, u8 (4#8)), (5, u8 (5#8)), (6, u8 (6#8)), (7, u8 (7#8)), (8, u8 (8#8)), (9, u8 (9#8)), (10, u8 (10#8)), (11, u8 (11#8)), (12, u8 (12#8)), (13, u8 (13#8)), (14, u8 (14#8)), (15, u8 (15#8))]) rfl (by exact fillAll rfl rfl) rfl ?_
 intro b5 w7 hS6 H8 hE9
 refine c_call (vs := [.slice (ownA (some b5)) 16 16]) call110 rfl (rnew_ok bx ([0#8, 1#8, 2#8, 3#8, 4#8, 5#8, 6#8, 7#8, 8#8, 9#8, 10#8, 11#8, 12#8, 13#8, 14#8, 15#8]) hbx (by rfl) (ownA (some b5)) 16 (by omega) w7 (H8.rd (k := 0) rfl hS6)) ?_
 rintro _ w10 ⟨⟨kk12, kc13, spk14, kb15, cb16, spb17, rfl, hSk18, hSb19, HN21⟩, hE20⟩
 have H22 := (H8.join HN21).as (L' := [(kb15, sob E8 5 bx spb17), (kk12, sob E8 5 ((expR ([0#8, 1#8, 2#8, 3#8, 4#8, 5#8, 6#8, 7#8, 8#8, 9#8, 10#8, 11#8, 12#8, 13#8, 14#8, 15#8]) bx 40).1) spk14), ((some b5), sob E8 5 ([0#8, 1#8, 2#8, 3#8, 4#8, 5#8, 6#8, 7#8, 8#8, 9#8, 10#8, 11#8, 12#8, 13#8, 14#8, 15#8]) ([])), (some b1, .cells #[.slice none 0 0, .slice none 0 0] 176 (0, 0))]) rfl
 have hlk := expR_len ([0#8, 1#8, 2#8, 3#8, 4#8, 5#8, 6#8, 7#8, 8#8, 9#8, 10#8, 11#8, 12#8, 13#8, 14#8, 15#8]) bx (by rfl) 40
 have hcp := hSk18.cap
 have hlb : bx.length = 256 := by rw [hbx]; exact boxR_len _
 refine d_store (k := 3) (v := .agg #[.slice (ownA kk12) 176 kc13, .slice (ownA kb15) 256 cb16]) (cs' := #[.slice (ownA kk12) 176 kc13, .slice (ownA kb15) 256 cb16]) H22 rfl rfl rfl siz176 (by rfl) (by intro u hu; simp [Value.cells] at hu; first | (subst hu; rfl) | (rcases hu with rfl | rfl <;> rfl)) (by exact bLe rfl) (by rfl) ?_
 intro w23 H24 hC25
 have H24' := H24.as (L' := [(kb15, sob E8 5 bx spb17), (kk12, sob E8 5 ((expR ([0#8, 1#8, 2#8, 3#8, 4#8, 5#8, 6#8, 7#8, 8#8, 9#8, 10#8, 11#8, 12#8, 13#8, 14#8, 15#8]) bx 40).1) spk14), ((some b5), sob E8 5 ([0#8, 1#8, 2#8, 3#8, 4#8, 5#8, 6#8, 7#8, 8#8, 9#8, 10#8, 11#8, 12#8, 13#8, 14#8, 15#8]) ([])), (some b1, .cells #[.slice (ownA kk12) 176 kc13, .slice (ownA kb15) 256 cb16] 176 (0, 0))]) rfl
 clear H24
 refine wend ?_
 refine retAny ?_
 refine retG (rs := [.cell 0 176]) (vs := [.agg #[.slice (ownA kk12) 176 kc13, .slice (ownA kb15) 256 cb16]]) rfl ⟨r_loadA (cs' := #[.slice (ownA kk12) 176 kc13, .slice (ownA kb15) 256 cb16]) agg176 siz176 (H24'.get (k := 3) rfl) (off := 0) rfl (by exact bLe rfl) (by rfl), trivial⟩ ?_
 exact ⟨_, rfl, ⟨kk12, kc13, spk14, kb15, cb16, spb17, rfl, hSk18, hSb19, ((H24'.dropk 3).dropk 2)⟩, H24'.chg⟩
theorem rhash_ok (ks bx : List By) (hks : ks.length = 176) (hbx : bx.length = 256) (a b tw : BitVec 64) (xk xb : Option Addr) (ck cb : Nat) (hck : 176 ≤ ck) (w : World) (hK : Rd E8 w xk ks) (hB : Rd E8 w xb bx) : Calls Tryd.prog 93 [.agg #[.slice xk 176 ck, .slice xb 256 cb], .agg (cel E64 [a, b]).toArray, u64 (tw)].toArray w (Ret fun v w' => v = .agg (cel E64 [sR0 a b tw ^^^ wholeS (((hashE ks bx a b tw).drop 0).take 8) 8, (dblR a b).2 ^^^ wholeS (((hashE ks bx a b tw).drop 8).take 8) 8]).toArray ∧ Ext w w') := by
 have H := Hp.start No w
 refine enter (n := 38) Tryd.func93 rfl rfl (bLe rfl) ?_
 refine sR ?_
 refine q_box (v := .agg #[.slice xk 176 ck, .slice xb 256 cb]) (o := .cells #[.slice xk 176 ck, .slice xb 256 cb] 176 (0, 0)) H rfl (by rfl) ?_
 intro b1 w2 hb1 H3 hE4
 refine q_box (v := .agg (cel E64 [a, b]).toArray) (o := .cells (cel E64 ([a, b])).toArray 38 (0, 0)) H3 rfl (by rfl) ?_
 intro b5 w6 hb5 H7 hE8
 refine q_alloc (o := .cells (cel E64 ([0#64, 0#64])).toArray 38 (0, 0)) H7 zer38 (by kernel_rfl) ?_
 intro b9 w10 hb9 H11 hE12
 refine wend ?_
 refine sR ?_
 refine sq (r_loadA (cs' := (cel E64 ([a, b])).toArray) agg38 siz38 (H11.get (k := 1) rfl) (off := 0) rfl (by exact bLe rfl) (by exact ext_all rfl)) ?_
 refine c_call (vs := [.agg (cel E64 ([a, b])).toArray]) call111 rfl (rdouble_ok a b w10) ?_
 rintro _ w13 ⟨rfl, hE14⟩
 have H15 := H11.ext hE14
 refine q_alloc (o := .cells (cel E64 ([0#64, 0#64])).toArray 38 (0, 0)) H15 zer38 (by kernel_rfl) ?_
 intro b16 w17 hb16 H18 hE19
 refine d_store (k := 0) (v := .agg (cel E64 [(dblR a b).1, (dblR a b).2]).toArray) (cs' := (cel E64 ([(dblR a b).1, (dblR a b).2])).toArray) H18 rfl rfl rfl siz38 (by exact celSize (by first | rfl | (show _ * 1 = _; omega))) (by exact celOne _) (by rw [List.size_toArray, cel_length]; show _ ≤ _ * 1; first | omega | (simp only [List.length_set]; omega) | exact bLe rfl | (simp <;> omega)) (by exact putAll (by first | rfl | omega | (simp <;> omega))) ?_
 intro w20 H21 hC22
 have H21' := H21.as (L' := [(some b16, lO (dblR a b)), (some b9, .cells (cel E64 ([0#64, 0#64])).toArray 38 (0, 0)), (some b5, .cells (cel E64 ([a, b])).toArray 38 (0, 0)), (some b1, .cells #[.slice xk 176 ck, .slice xb 256 cb] 176 (0, 0))]) rfl
 clear H21
 refine wend ?_
 refine sR ?_
 refine sq (r_indexA (off' := 0) (j := 0) arr38 (b := b16) (off := 0) rfl rfl (by first | rfl | omega | (simp; omega)) (by omega) (by omega)) ?_
 refine sq (r_ld1 (E := E64) (l := [(dblR a b).1, (dblR a b).2]) (j := 0) (a := (dblR a b).1) fits32 (H21'.get (k := 0) rfl) (by rfl) rfl rfl) ?_
 refine sM (u64 (tw)) rfl ?_
 refine sq ((r_xor64 (a := (dblR a b).1) (b := tw) rfl rfl).as (v' := u64 (sR0 a b tw)) (by rfl)) ?_
 refine sq (r_indexA (off' := 0) (j := 0) arr38 (b := b16) (off := 0) rfl rfl (by first | rfl | omega | (simp; omega)) (by omega) (by omega)) ?_
 refine d_store (k := 0) (v := u64 (sR0 a b tw)) (cs' := (cel E64 ([sR0 a b tw, (dblR a b).2])).toArray) H21' rfl rfl rfl siz32 (by rfl) (by exact E64.one _) (by rw [List.size_toArray, cel_length]; show _ ≤ _ * 1; first | omega | (simp only [List.length_set]; omega) | exact bLe rfl | (simp <;> omega)) (by exact put1 (E := E64) rfl _ _ _) ?_
 intro w23 H24 hC25
 have H24' := H24.as (L' := [(some b16, .cells (cel E64 ([sR0 a b tw, (dblR a b).2])).toArray 38 (0, 0)), (some b9, .cells (cel E64 ([0#64, 0#64])).toArray 38 (0, 0)), (some b5, .cells (cel E64 ([a, b])).toArray 38 (0, 0)), (some b1, .cells #[.slice xk 176 ck, .slice xb 256 cb] 176 (0, 0))]) rfl
 clear H24
 refine wend ?_
 refine seqAny ?_
 refine drawAny (K := [none, none, none, some (slRel E8 5 ((eightS (sR0 a b tw) 8).1) w23), none, none, some (slRel E8 5 ((eightS ((dblR a b).2) 8).1) w23), some (slRel E8 5 (((eightS (sR0 a b tw) 8).1) ++ ((eightS ((dblR a b).2) 8).1)) w23)]) [0, 0, 2, 6, 0, 16, 62, 126, 255, 511] (fun w' => Ext w23 w') (NewR E8 5 ((eightS (sR0 a b tw) 8).1) ((eightS (dblR a b).2 8).1) w23) mixed (by kernel_rfl) (Ext.drew _) NewR.trans ?_ ?_
 ·exact relAll ⟨⟨fun _ _ _ _ _ hR h => NewR.sl (Nat.le_refl _) hR h, fun _ _ _ _ _ h => h⟩, ⟨fun _ _ _ _ _ hR h => NewR.sl (Nat.le_of_eq (by rw [eightS_len, eightS_len])) hR h, fun _ _ _ _ _ h => h⟩, ⟨fun _ _ _ _ _ hR h => NewR.app hR h, fun _ _ _ _ _ h => h⟩, trivial⟩
 refine ⟨.agg #[.slice xk 176 ck, .slice xb 256 cb], fun _ uw26 hC27 _ => Gives.run rfl (r_loadA (cs' := #[.slice xk 176 ck, .slice xb 256 cb]) agg176 siz176 ((H24'.ext hC27).get (k := 3) rfl) (off := 0) rfl (by exact bLe rfl) (by rfl)) ⟨rfl, NewR.ext (Chg.refl _ _)⟩, ?_⟩
 refine ⟨pT b16, fun _ uw28 hC29 _ => Gives.run rfl (r_indexA (off' := 0) (j := 0) arr38 (b := b16) (off := 0) rfl rfl (by first | rfl | omega | (simp; omega)) (by omega) (by omega)) ⟨rfl, NewR.ext (Chg.refl _ _)⟩, ?_⟩
 refine ⟨u64 (sR0 a b tw), fun _ uw30 hC31 _ => Gives.run rfl (r_ld1 (E := E64) (l := [sR0 a b tw, (dblR a b).2]) (j := 0) (a := sR0 a b tw) fits32 ((H24'.ext hC31).get (k := 0) rfl) (by rfl) rfl rfl) ⟨rfl, NewR.ext (Chg.refl _ _)⟩, ?_⟩
 refine ⟨fun r uw32 hC33 hF => Gives.call rfl (Enters.callL (vs := [u64 (sR0 a b tw)]) call113 rfl) ((eight_ok (sR0 a b tw) uw32).mono fun _ _ ⟨v, h1, h2, h3⟩ => ⟨v, h1, h2.old (hC33.size), NewR.ext h3⟩), ?_⟩
 refine ⟨.pointer (some ⟨b16, 1, none⟩), fun _ uw34 hC35 _ => Gives.run rfl (r_indexA (off' := 1) (j := 1) arr38 (b := b16) (off := 0) rfl rfl (by first | rfl | omega | (simp; omega)) (by omega) (by omega)) ⟨rfl, NewR.ext (Chg.refl _ _)⟩, ?_⟩
 refine ⟨u64 ((dblR a b).2), fun _ uw36 hC37 _ => Gives.run rfl (r_ld1 (E := E64) (l := [sR0 a b tw, (dblR a b).2]) (j := 1) (a := (dblR a b).2) fits32 ((H24'.ext hC37).get (k := 0) rfl) (by rfl) rfl rfl) ⟨rfl, NewR.ext (Chg.refl _ _)⟩, ?_⟩
 refine ⟨fun r uw38 hC39 hF => Gives.call rfl (Enters.callL (vs := [u64 ((dblR a b).2)]) call113 rfl) ((eight_ok ((dblR a b).2) uw38).mono fun _ _ ⟨v, h1, h2, h3⟩ => ⟨v, h1, h2.old (hC39.size), NewR.ext h3⟩), ?_⟩
 refine ⟨fun r uw40 hC41 hF => ?_, ?_⟩
 ·obtain ⟨x44, c45, e42, h43⟩ := SlRes.rd (hF 6 _ rfl rfl)
  rw [show ((eightS ((dblR a b).2) 8).1).length = 8 from eightS_len _ _] at e42
  exact newGives hC41 (hF 3 _ rfl rfl) sli174 zer5 rfl byt5 h43 rfl e42 (by exact (eightS_len _ _).symm) (by rw [eightS_len]; omega)
 intro r49 w46 hE48 hF
 have H47 := H24'.ext hE48
 obtain ⟨key53, c54, sp55, e50, hS51, H52⟩ := Hp.ownSl H24' hE48 (hF 7 _ rfl)
 rw [show (((eightS (sR0 a b tw) 8).1) ++ ((eightS ((dblR a b).2) 8).1)).length = 8 + 8 from by rw [List.length_append, eightS_len, eightS_len]] at e50
 dsimp only
 rw [e50]
 refine c_call (vs := [.agg #[.slice xk 176 ck, .slice xb 256 cb], .slice (ownA key53) (8 + 8) c54]) call112 rfl (renc_ok ks bx (((eightS (sR0 a b tw) 8).1) ++ ((eightS ((dblR a b).2) 8).1)) (by omega) (by omega) (by exact by rw [List.length_append, eightS_len, eightS_len]) xk xb (ownA key53) ck cb c54 (by omega) w46 (hK.ext H52.chg) (hB.ext H52.chg) (H52.rd (k := 0) rfl hS51)) ?_
 rintro _ w56 ⟨⟨key58, c59, sp60, rfl, hS61, hk62⟩, hE63⟩
 rw [show (encR ks bx (((eightS (sR0 a b tw) 8).1) ++ ((eightS ((dblR a b).2) 8).1)) 10).length = 16 from encR_len _ _ _ _]
 have H64 := H52.add hE63 hk62
 refine sA (.slice (ownA key58) 16 c59) rfl ?_
 have e65 : encR ks bx (((eightS (sR0 a b tw) 8).1) ++ ((eightS ((dblR a b).2) 8).1)) 10 = hashE ks bx a b tw := by rfl
 have hS66 := hS61
 rw [e65] at hS66
 have H67 := H64.as (L' := [(key58, sob E8 5 (hashE ks bx a b tw) sp60), (key53, sob E8 5 (((eightS (sR0 a b tw) 8).1) ++ ((eightS ((dblR a b).2) 8).1)) sp55), (some b16, .cells (cel E64 ([sR0 a b tw, (dblR a b).2])).toArray 38 (0, 0)), (some b9, .cells (cel E64 ([0#64, 0#64])).toArray 38 (0, 0)), (some b5, .cells (cel E64 ([a, b])).toArray 38 (0, 0)), (some b1, .cells #[.slice xk 176 ck, .slice xb 256 cb] 176 (0, 0))]) (by rw [e65])
 have hle : (hashE ks bx a b tw).length = 16 := encR_len _ _ _ _
 have hce := hS66.cap
 refine wnil ?_
 refine thenNormal ?_
 refine seqAny ?_
 refine drawAny (K := [none, none, none, none, none, none, none, none, none, none, none, none, none]) [0, 1, 0, 4, 12, 31, 0, 64, 0, 256, 796, 2012, 4095, 8191] (fun w' => Ext w56 w') (fun w' w'' => Ext w' w'') mixed (by kernel_rfl) (Ext.drew _) (fun _ _ h h' => h.trans h') ?_ ?_
 ·exact relNone (by decide)
 refine ⟨pT b16, fun _ uw68 hC69 _ => Gives.run rfl (r_indexA (off' := 0) (j := 0) arr38 (b := b16) (off := 0) rfl rfl (by first | rfl | omega | (simp; omega)) (by omega) (by omega)) ⟨rfl, Chg.refl _ _⟩, ?_⟩
 refine ⟨u64 (sR0 a b tw), fun _ uw70 hC71 _ => Gives.run rfl (r_ld1 (E := E64) (l := [sR0 a b tw, (dblR a b).2]) (j := 0) (a := sR0 a b tw) fits32 ((H67.ext hC71).get (k := 2) rfl) (by rfl) rfl rfl) ⟨rfl, Chg.refl _ _⟩, ?_⟩
 refine ⟨.slice (ownA key58) 16 c59, fun _ uw72 hC73 _ => Gives.run rfl (r_move (v := .slice (ownA key58) 16 c59) rfl) ⟨rfl, Chg.refl _ _⟩, ?_⟩
 refine ⟨.slice (if c59 = 0 then ownA key58 else adr (ownA key58) (0 * 1)) 8 (c59 - 0), fun _ uw74 hC75 _ => Gives.run rfl ((r_sliceS (l := 0) (h := 8) sli174 rfl (.inr ⟨rfl, rfl⟩) (.inl ⟨_, _, _, rfl, rfl, by first | rfl | omega | (simp; omega)⟩) (by omega) (by omega)).as (v' := .slice (if c59 = 0 then ownA key58 else adr (ownA key58) (0 * 1)) 8 (c59 - 0)) (by rw [show 8 - 0 = 8 by omega])) ⟨rfl, Chg.refl _ _⟩, ?_⟩
 refine ⟨u64 (wholeS (((hashE ks bx a b tw).drop 0).take (8)) 8), fun _ uw76 hC77 _ => Gives.call rfl (Enters.callL (vs := [.slice (if c59 = 0 then ownA key58 else adr (ownA key58) (0 * 1)) 8 (c59 - 0)]) call114 rfl) (whole_ok (((hashE ks bx a b tw).drop 0).take (8)) (by first | omega | (rw [List.length_take, List.length_drop]; omega)) (if c59 = 0 then ownA key58 else adr (ownA key58) (0 * 1)) (c59 - 0) uw76 (Rd.sub ((H67.ext hC77).rd (k := 0) rfl hS66) 0 (8) (m := c59) (fun e => by first | exact absurd e (by omega) | (rw [show 8 = 0 by omega]; rfl)))), ?_⟩
 refine ⟨u64 ((sR0 a b tw) ^^^ (wholeS (((hashE ks bx a b tw).drop 0).take (8)) 8)), fun _ uw78 hC79 _ => Gives.run rfl (r_xor64 (a := sR0 a b tw) (b := wholeS (((hashE ks bx a b tw).drop 0).take (8)) 8) rfl rfl) ⟨rfl, Chg.refl _ _⟩, ?_⟩
 refine ⟨.pointer (some ⟨b16, 1, none⟩), fun _ uw80 hC81 _ => Gives.run rfl (r_indexA (off' := 1) (j := 1) arr38 (b := b16) (off := 0) rfl rfl (by first | rfl | omega | (simp; omega)) (by omega) (by omega)) ⟨rfl, Chg.refl _ _⟩, ?_⟩
 refine ⟨u64 ((dblR a b).2), fun _ uw82 hC83 _ => Gives.run rfl (r_ld1 (E := E64) (l := [sR0 a b tw, (dblR a b).2]) (j := 1) (a := (dblR a b).2) fits32 ((H67.ext hC83).get (k := 2) rfl) (by rfl) rfl rfl) ⟨rfl, Chg.refl _ _⟩, ?_⟩
 refine ⟨.slice (ownA key58) 16 c59, fun _ uw84 hC85 _ => Gives.run rfl (r_move (v := .slice (ownA key58) 16 c59) rfl) ⟨rfl, Chg.refl _ _⟩, ?_⟩
 refine ⟨.slice (if c59 = 8 then ownA key58 else adr (ownA key58) (8 * 1)) 8 (c59 - 8), fun _ uw86 hC87 _ => Gives.run rfl ((r_sliceS (l := 8) (h := 16) sli174 rfl (.inl ⟨_, _, _, rfl, rfl, by first | rfl | omega | (simp; omega)⟩) (.inr ⟨rfl, rfl⟩) (by omega) (by omega)).as (v' := .slice (if c59 = 8 then ownA key58 else adr (ownA key58) (8 * 1)) 8 (c59 - 8)) (by rw [show 16 - 8 = 8 by omega])) ⟨rfl, Chg.refl _ _⟩, ?_⟩
 refine ⟨u64 (wholeS (((hashE ks bx a b tw).drop 8).take (8)) 8), fun _ uw88 hC89 _ => Gives.call rfl (Enters.callL (vs := [.slice (if c59 = 8 then ownA key58 else adr (ownA key58) (8 * 1)) 8 (c59 - 8)]) call114 rfl) (whole_ok (((hashE ks bx a b tw).drop 8).take (8)) (by first | omega | (rw [List.length_take, List.length_drop]; omega)) (if c59 = 8 then ownA key58 else adr (ownA key58) (8 * 1)) (c59 - 8) uw88 (Rd.sub ((H67.ext hC89).rd (k := 0) rfl hS66) 8 (8) (m := c59) (fun e => by first | exact absurd e (by omega) | (rw [show 8 = 0 by omega]; rfl)))), ?_⟩
 refine ⟨u64 (((dblR a b).2) ^^^ (wholeS (((hashE ks bx a b tw).drop 8).take (8)) 8)), fun _ uw90 hC91 _ => Gives.run rfl (r_xor64 (a := (dblR a b).2) (b := wholeS (((hashE ks bx a b tw).drop 8).take (8)) 8) rfl rfl) ⟨rfl, Chg.refl _ _⟩, ?_⟩
 refine ⟨.agg (cel E64 [(sR0 a b tw) ^^^ (wholeS (((hashE ks bx a b tw).drop 0).take (8)) 8), ((dblR a b).2) ^^^ (wholeS (((hashE ks bx a b tw).drop 8).take (8)) 8)]).toArray, fun _ uw92 hC93 _ => Gives.run rfl (r_buildA (cs' := (cel E64 [(sR0 a b tw) ^^^ (wholeS (((hashE ks bx a b tw).drop 0).take (8)) 8), ((dblR a b).2) ^^^ (wholeS (((hashE ks bx a b tw).drop 8).take (8)) 8)]).toArray) (ps := [(0, u64 ((sR0 a b tw) ^^^ (wholeS (((hashE ks bx a b tw).drop 0).take (8)) 8))), (1, u64 (((dblR a b).2) ^^^ (wholeS (((hashE ks bx a b tw).drop 8).take (8)) 8)))]) zer38 arr38 rfl (by rfl)) ⟨rfl, Chg.refl _ _⟩, ?_⟩
 intro r97 w94 hE96 hF
 have H95 := H67.ext hE96
 refine d_store (k := 3) (v := .agg (cel E64 [(sR0 a b tw) ^^^ (wholeS (((hashE ks bx a b tw).drop 0).take (8)) 8), ((dblR a b).2) ^^^ (wholeS (((hashE ks bx a b tw).drop 8).take (8)) 8)]).toArray) (cs' := (cel E64 ([(sR0 a b tw) ^^^ (wholeS (((hashE ks bx a b tw).drop 0).take (8)) 8), ((dblR a b).2) ^^^ (wholeS (((hashE ks bx a b tw).drop 8).take (8)) 8)])).toArray) H95 rfl rfl rfl siz38 (by exact celSize (by first | rfl | (show _ * 1 = _; omega))) (by exact celOne _) (by rw [List.size_toArray, cel_length]; show _ ≤ _ * 1; first | omega | (simp only [List.length_set]; omega) | exact bLe rfl | (simp <;> omega)) (by exact putAll (by first | rfl | omega | (simp <;> omega))) ?_
 intro w98 H99 hC100
 have H99' := H99.as (L' := [(key58, sob E8 5 (hashE ks bx a b tw) sp60), (key53, sob E8 5 (((eightS (sR0 a b tw) 8).1) ++ ((eightS ((dblR a b).2) 8).1)) sp55), (some b16, .cells (cel E64 ([sR0 a b tw, (dblR a b).2])).toArray 38 (0, 0)), (some b9, .cells (cel E64 ([(sR0 a b tw) ^^^ (wholeS (((hashE ks bx a b tw).drop 0).take (8)) 8), ((dblR a b).2) ^^^ (wholeS (((hashE ks bx a b tw).drop 8).take (8)) 8)])).toArray 38 (0, 0)), (some b5, .cells (cel E64 ([a, b])).toArray 38 (0, 0)), (some b1, .cells #[.slice xk 176 ck, .slice xb 256 cb] 176 (0, 0))]) rfl
 clear H99
 refine wnil ?_
 refine thenNormal ?_
 refine retAny ?_
 refine retG (rs := [.cell 6 38]) (vs := [.agg (cel E64 ([(sR0 a b tw) ^^^ (wholeS (((hashE ks bx a b tw).drop 0).take (8)) 8), ((dblR a b).2) ^^^ (wholeS (((hashE ks bx a b tw).drop 8).take (8)) 8)])).toArray]) rfl ⟨r_loadA (cs' := (cel E64 ([(sR0 a b tw) ^^^ (wholeS (((hashE ks bx a b tw).drop 0).take (8)) 8), ((dblR a b).2) ^^^ (wholeS (((hashE ks bx a b tw).drop 8).take (8)) 8)])).toArray) agg38 siz38 (H99'.get (k := 3) rfl) (off := 0) rfl (by exact bLe rfl) (by exact ext_all rfl), trivial⟩ ?_
 exact ⟨_, rfl, rfl, H99'.chg⟩
end Go.Proofs.YteofdmdpaejgaaaDoor.Aes
namespace Go.Proofs.YteofdmdpaejgaaaDoor.Gb
open Go Go.Proofs.YteofdmdpaejgaaaDoor.Vc Go.Proofs.YteofdmdpaejgaaaDoor.Er Go.Proofs.YteofdmdpaejgaaaDoor.Circ
set_option linter.unusedVariables false
theorem agg176 : isAgg' Tryd.prog 176 = true := by kernel_rfl
theorem call92 : callable Tryd.prog 92 = true := by kernel_rfl
theorem call93 : callable Tryd.prog 93 = true := by kernel_rfl
theorem call94 : callable Tryd.prog 94 = true := by kernel_rfl
theorem fld85_0 : fld Tryd.prog 85 0 = some (0, 1, 3) := by kernel_rfl
theorem fld85_1 : fld Tryd.prog 85 1 = some (1, 1, 3) := by kernel_rfl
theorem fld85_2 : fld Tryd.prog 85 2 = some (2, 1, 3) := by kernel_rfl
theorem siz176 : siz Tryd.prog 176 = some 2 := by kernel_rfl
theorem sli78 : sli Tryd.prog 78 = some (85, 3) := by kernel_rfl
theorem zer176 : zer Tryd.prog 176 = some (.agg #[.slice none 0 0, .slice none 0 0]) := by kernel_rfl
def rB : List (BitVec 8) := AesSpec.boxR 256
def rK : List (BitVec 8) := (AesSpec.expR AesSpec.fixK rB 40).1
theorem rB_len : rB.length = 256 := AesSpec.boxR_len _
theorem rK_len : rK.length = 176 := AesSpec.expR_len AesSpec.fixK rB rfl 40
theorem rlfix_ok (w : World) : Calls Tryd.prog 92 [].toArray w (Ret fun v w' => Aes.CiphR rK rB w v w' ∧ Ext w w') := Aes.rfixed_ok rB rfl w
theorem rlhash_ok (a : Lb) (tw : BitVec 64) (xk xb : Option Addr) (ck cb : Nat) (hck : 176 ≤ ck) (w : World) (hK : Rd E8 w xk rK) (hB : Rd E8 w xb rB) : Calls Tryd.prog 93 [.agg #[.slice xk 176 ck, .slice xb 256 cb], .agg (cel E64 [(a).1, (a).2]).toArray, u64 tw].toArray w (Ret fun v w' => v = .agg (cel E64 [(lhash a tw).1, (lhash a tw).2]).toArray ∧ Ext w w') := by
 have h := Aes.rhash_ok rK rB rK_len rB_len a.1 a.2 tw xk xb ck cb hck w hK hB
 have e := AesSpec.hash_eq AesSpec.fixK rfl a.1 a.2 tw
 rw [← show rB = AesSpec.boxR 256 from rfl, ← show rK = (AesSpec.expR AesSpec.fixK rB 40).1 from rfl, AesSpec.fix_eq, Prod.ext_iff] at e
 dsimp only at e
 rw [e.1, e.2] at h
 exact h
theorem plus_ok (a b x : Lb) (c : BitVec 64) (hc : c = x.1 % 2#64) (w : World) : Calls Tryd.prog 94 [.agg (cel E64 [(a).1, (a).2]).toArray, u64 (c), .agg (cel E64 [(b).1, (b).2]).toArray].toArray w (Ret fun v w' => v = .agg (cel E64 [(lx a (lw (col x) b)).1, (lx a (lw (col x) b)).2]).toArray ∧ Ext w w') := by
 have H := Hp.start No w
 refine enter (n := 13) Tryd.func94 rfl rfl (bLe rfl) ?_
 refine sR ?_
 refine q_box (v := .agg (cel E64 [(a).1, (a).2]).toArray) (o := lO (a)) H rfl (by rfl) ?_
 intro b31 w32 hb31 H33 hE34
 refine q_box (v := .agg (cel E64 [(b).1, (b).2]).toArray) (o := lO (b)) H33 rfl (by rfl) ?_
 intro b35 w36 hb35 H37 hE38
 refine q_alloc (o := .cells (cel E64 ([0#64, 0#64])).toArray 38 (0, 0)) H37 zer38 (by kernel_rfl) ?_
 intro b39 w40 hb39 H41 hE42
 refine wend ?_
 refine seqAny ?_
 refine sR ?_
 refine sM (u64 (c)) rfl ?_
 refine sq (r_eql64 (a := c) (b := 1#64) rfl rfl) ?_
 refine wend ?_
 refine condProp (c = (1#64)) rfl (fun c8 => ?_) (fun c8 => ?_)
 ·skip
  refine sR ?_
  refine sq (r_loadA (cs' := (cel E64 ([(a).1, (a).2])).toArray) agg38 siz38 (H41.get (k := 2) rfl) (off := 0) rfl (by exact bLe rfl) (by exact ext_all rfl)) ?_
  refine sq (r_loadA (cs' := (cel E64 ([(b).1, (b).2])).toArray) agg38 siz38 (H41.get (k := 1) rfl) (off := 0) rfl (by exact bLe rfl) (by exact ext_all rfl)) ?_
  refine c_call (vs := [lV (a), lV (b)]) call50 rfl (rlx_ok a b w40) ?_
  rintro _ w43 ⟨rfl, hE44⟩
  have H45 := H41.ext hE44
  refine d_store (k := 0) (v := .agg (cel E64 [(lx a b).1, (lx a b).2]).toArray) (cs' := (cel E64 ([(lx a b).1, (lx a b).2])).toArray) H45 rfl rfl rfl siz38 (by exact celSize (by first | rfl | (show _ * 1 = _; omega))) (by exact celOne _) (by rw [List.size_toArray, cel_length]; show _ ≤ _ * 1; first | omega | (simp only [List.length_set]; omega) | exact bLe rfl | (simp <;> omega)) (by exact putAll (by first | rfl | omega | (simp <;> omega))) ?_
  intro w46 H47 hC48
  have H47' := H47.as (L' := [(some b39, lO (lx a b)), (some b35, lO (b)), (some b31, lO (a))]) rfl
  clear H47
  refine wend ?_
  refine retAny ?_
  refine thenRet ?_
  refine retG (rs := [.cell 6 38]) (vs := [lV (lx a b)]) rfl ⟨r_loadA (cs' := (cel E64 ([(lx a b).1, (lx a b).2])).toArray) agg38 siz38 (H47'.get (k := 0) rfl) (off := 0) rfl (by exact bLe rfl) (by exact ext_all rfl), trivial⟩ ?_
  exact ⟨_, rfl, by rw [plus_yes hc c8]; rfl, H47'.chg⟩
 ·skip
  refine skipAny ?_
  refine thenNormal ?_
  refine sR ?_
  refine sq (r_loadA (cs' := (cel E64 ([(a).1, (a).2])).toArray) agg38 siz38 (H41.get (k := 2) rfl) (off := 0) rfl (by exact bLe rfl) (by exact ext_all rfl)) ?_
  refine d_store (k := 0) (v := lV (a)) (cs' := (cel E64 ([(a).1, (a).2])).toArray) H41 rfl rfl rfl siz38 (by exact celSize (by first | rfl | (show _ * 1 = _; omega))) (by exact celOne _) (by rw [List.size_toArray, cel_length]; show _ ≤ _ * 1; first | omega | (simp only [List.length_set]; omega) | exact bLe rfl | (simp <;> omega)) (by exact putAll (by first | rfl | omega | (simp <;> omega))) ?_
  intro w49 H50 hC51
  have H50' := H50.as (L' := [(some b39, lO (a)), (some b35, lO (b)), (some b31, lO (a))]) rfl
  clear H50
  refine wend ?_
  refine retAny ?_
  refine retG (rs := [.cell 6 38]) (vs := [lV (a)]) rfl ⟨r_loadA (cs' := (cel E64 ([(a).1, (a).2])).toArray) agg38 siz38 (H50'.get (k := 0) rfl) (off := 0) rfl (by exact bLe rfl) (by exact ext_all rfl), trivial⟩ ?_
  exact ⟨_, rfl, by rw [plus_no hc c8, lx_zero_r]; rfl, H50'.chg⟩
theorem routs_ok (ol : List Int) (oa : Option Addr) (m0 oc : Nat) (hm0 : m0 = ol.length) (ws : List Lb) (wa : Option Addr) (n0 wc : Nat) (hn0 : n0 = ws.length) (w : World) (hOl : Rd EI w oa ol) (hWs : Rd ELb w wa ws) (hol : ol.length ≤ 64) (hok : ∀ i, i < ol.length → 0 ≤ ol.getD i 0 ∧ ol.getD i 0 < (ws.length : Int)) : Calls Tryd.prog 55 [.slice oa m0 oc, .slice wa n0 wc].toArray w (Ret fun v w' => SlRes ELb 38 (oL ws ol ol.length) w v w' ∧ Ext w w') := by
 subst hn0 hm0
 have H := Hp.start No w
 refine enter (n := 24) Tryd.func55 rfl rfl (bLe rfl) ?_
 refine sR ?_
 refine sA (.slice none 0 0) rfl ?_
 refine wend ?_
 refine sR ?_
 refine sA (.slice none 0 0) rfl ?_
 have H1 := H.nil (sob ELb 38 [] [])
 refine wend ?_
 refine seqAny ?_
 refine sR ?_
 refine sA (i64 ((0 : Int))) rfl ?_
 refine wend ?_
 refine blockAny ?_
 refine loopAny (σ := Nat × Option Nat × Nat × List Value) (fun (q, key, c, sp) => [(0, .slice oa ol.length oc), (1, .slice wa ws.length wc), (5, .slice (ownA key) q c), (6, i64 (q : Nat))]) (fun (q, key, c, sp) w' => (q ≤ ol.length ∧ Sl ELb key (oL ws ol q) c sp) ∧ Hp No w w' [(key, sob ELb 38 (oL ws ol q) sp)]) (fun (q, key, c, sp) => ol.length - q) ((0, none, 0, [])) ?_ ?_ ?_
 ·exact ⟨rfl, rfl, rfl, rfl, trivial⟩
 ·exact ⟨⟨Nat.zero_le _, Sl.none⟩, H1⟩
 rintro ⟨q, key, c, sp⟩ ρ w2 ⟨⟨hq, hS⟩, HL⟩
 refine seqAny ?_
 refine sR ?_
 refine sM (i64 (q : Nat)) rfl ?_
 refine sM (.slice oa ol.length oc) rfl ?_
 refine sq (r_lenS sli60 (a := oa) (m := ol.length) (c := oc) rfl) ?_
 refine sq (r_lssI (a := (q : Nat)) (b := (ol.length : Nat)) rfl rfl) ?_
 refine wend ?_
 refine condProp (((q : Nat) : Int) < (ol.length : Nat)) rfl (fun c10 => ?_) (fun c10 => ?_)
 ·skip
  have hoq := hok q (by omega)
  refine skipAny ?_
  refine thenNormal ?_
  refine seqAny ?_
  refine blockAny ?_
  refine oneRegion ?_
  refine sM (.slice (ownA key) q c) rfl ?_
  refine sM (.slice wa ws.length wc) rfl ?_
  refine sM (.slice oa ol.length oc) rfl ?_
  refine sM (i64 (q : Nat)) rfl ?_
  refine sq (r_idxS (E := EI) (l := ol) (j := q) sli60 (hOl.ext HL.chg) rfl rfl (by first | rfl | omega | (simp; omega)) (by rfl) (by omega)) ?_
  refine sq (r_ldS (E := EI) (l := ol) (j := q) (v := (ol).getD q 0) fits3 (hOl.ext HL.chg) rfl rfl (at_getD (by omega))) ?_
  refine sq (r_idxS (E := ELb) (l := ws) (j := (ol.getD q 0).toNat) sli92 (hWs.ext HL.chg) rfl rfl (by omega) (by rfl) (by omega)) ?_
  refine sq ((r_ldS (E := ELb) (l := ws) (j := (ol.getD q 0).toNat) (v := (ws).getD ((ol.getD q 0).toNat) lb0) fits38 (hWs.ext HL.chg) rfl rfl (at_getD (by omega))).as (v' := .agg (cel E64 [((ws).getD ((ol.getD q 0).toNat) lb0).1, ((ws).getD ((ol.getD q 0).toNat) lb0).2]).toArray) rfl) ?_
  refine q_buildSlice (E := ELb) (l := ([(ws).getD ((ol.getD q 0).toNat) lb0] : List LbT)) HL sli92 zer38 (bLe rfl) (ps := [(0, .agg (cel E64 [((ws).getD ((ol.getD q 0).toNat) lb0).1, ((ws).getD ((ol.getD q 0).toNat) lb0).2]).toArray)]) rfl (by exact fillAll rfl rfl) rfl ?_
  intro b4 w6 hS5 H7 hE8
  refine q_append (E := ELb) (k := 1) (l := oL ws ol q) (l2 := ([(ws).getD ((ol.getD q 0).toNat) lb0] : List LbT)) H7 rfl hS sli92 zer38 rfl byt38 (H7.rd (k := 0) rfl hS5) rfl (by rw [oL_len]) rfl (by rfl) (by omega) ?_
  intro key9 c10 sp11 w13 hS12 hne15 H14
  have H14' := H14.as (L' := [((some b4), sob ELb 38 ([(ws).getD ((ol.getD q 0).toNat) lb0] : List LbT) ([])), (key9, sob ELb 38 ((oL ws ol q) ++ ([(ws).getD ((ol.getD q 0).toNat) lb0] : List LbT)) sp11)]) rfl
  clear H14
  have e16 : (oL ws ol q) ++ ([(ws).getD ((ol.getD q 0).toNat) lb0] : List LbT) = oL ws ol (q + 1) := by rw [oL]
  have hS17 := hS12
  rw [e16] at hS17
  have H18 := H14'.as (L' := [((some b4), sob ELb 38 ([(ws).getD ((ol.getD q 0).toNat) lb0] : List LbT) ([])), (key9, sob ELb 38 (oL ws ol (q + 1)) sp11)]) (by rw [e16])
  refine sA (.slice (ownA key9) (q + 1) c10) rfl ?_
  refine wnil ?_
  refine blockNormal ?_
  refine thenNormal ?_
  refine oneRegion ?_
  refine sM (i64 (q : Nat)) rfl ?_
  refine sq (r_addI (a := (q : Nat)) (b := (1 : Int)) rfl rfl (by omega)) ?_
  refine sA (i64 ((q : Nat) + (1 : Int))) rfl ?_
  refine wnil ?_
  refine thenNormal ?_
  exact ⟨(q + 1, key9, c10, sp11), _, rfl, ⟨rfl, rfl, rfl, rfl, trivial⟩, ⟨⟨by omega, hS17⟩, (H18.dropk 0)⟩, by show ol.length - (q + 1) < ol.length - q; omega⟩
 ·skip
  obtain rfl : q = ol.length := by omega
  refine exitAny ?_
  refine thenExit ?_
  refine thenExit ?_
  refine blockHere ?_
  refine thenNormal ?_
  refine sR ?_
  refine sM (.slice (ownA key) ol.length c) rfl ?_
  refine sA (.slice (ownA key) ol.length c) rfl ?_
  refine wend ?_
  refine retAny ?_
  refine retG (rs := [.tmp 4]) (vs := [.slice (ownA key) ol.length c]) rfl ⟨⟨rfl, rfl⟩, trivial⟩ ?_
  exact ⟨_, rfl, HL.resN (k := 0) rfl hS (by rw [oL_len]), HL.chg⟩
set_option maxRecDepth 20000 in
set_option maxHeartbeats 4000000 in
theorem rgarble_ok (gs : List Gt) (ol : List Int) (ga : Option Addr) (n0 gc : Nat) (hn0 : n0 = gs.length) (δ : Lb) (zs : List Lb) (za : Option Addr) (zc : Nat) (first : BitVec 64) (w : World) (hGs : Rd EG w ga gs) (hZ : Rd ELb w za zs) (hg : IsC (zs.length : Nat) gs ol) : Calls Tryd.prog 54 [.slice ga n0 gc, .agg (cel E64 [(δ).1, (δ).2]).toArray, .slice za zs.length zc, u64 first].toArray w (Ret fun v w' => ∃ (k1 : Option Nat) (c1 : Nat) (z1 : List Value) (k2 : Option Nat) (c2 : Nat) (z2 : List Value), v = .tuple #[.slice (ownA k1) (gS lhash δ first gs zs gs.length).2.length c1, .slice (ownA k2) (gS lhash δ first gs zs gs.length).1.length c2] ∧ Sl ELb k1 (gS lhash δ first gs zs gs.length).2 c1 z1 ∧ Sl ELb k2 (gS lhash δ first gs zs gs.length).1 c2 z2 ∧ Hp No w w' [(k1, sob ELb 38 (gS lhash δ first gs zs gs.length).2 z1), (k2, sob ELb 38 (gS lhash δ first gs zs gs.length).1 z2)]) := by
 subst hn0
 have hgt := hg.gates
 have hhi := hg.hi
 have hka : ∀ i, i < gs.length → (gs.getD i g0).k = 1 ∨ (gs.getD i g0).k = 2 ∨ (gs.getD i g0).k = 3 := fun i hi => by have := hg.gok i hi; unfold gokP at this; omega
 have H := Hp.start No w
 refine enter (n := 133) Tryd.func54 rfl rfl (bLe rfl) ?_
 refine sR ?_
 refine q_box (v := .agg (cel E64 [(δ).1, (δ).2]).toArray) (o := lO (δ)) H rfl (by rfl) ?_
 intro b1 w2 hb1 H3 hE4
 refine sA (.slice none 0 0) rfl ?_
 refine sA (.slice none 0 0) rfl ?_
 refine wend ?_
 refine sR ?_
 refine c_call (vs := []) call92 rfl (rlfix_ok w2) ?_
 rintro _ w5 ⟨⟨kk7, kc8, spk9, kb10, cb11, spb12, rfl, hSk13, hSb14, HN16⟩, hE15⟩
 have H17 := (H3.join HN16).as (L' := [(kb10, sob E8 5 rB spb12), (kk7, sob E8 5 rK spk9), (some b1, lO (δ))]) rfl
 have hcap : 176 ≤ kc8 := by have := hSk13.cap; rwa [rK_len] at this
 refine q_alloc (o := .cells #[.slice none 0 0, .slice none 0 0] 176 (0, 0)) H17 zer176 (by kernel_rfl) ?_
 intro b18 w19 hb18 H20 hE21
 refine d_store (k := 0) (v := .agg #[.slice (ownA kk7) 176 kc8, .slice (ownA kb10) 256 cb11]) (cs' := #[.slice (ownA kk7) 176 kc8, .slice (ownA kb10) 256 cb11]) H20 rfl rfl rfl siz176 (by rfl) (by intro u hu; simp [Value.cells] at hu; first | (subst hu; rfl) | (rcases hu with rfl | rfl <;> rfl)) (by exact bLe rfl) (by rfl) ?_
 intro w22 H23 hC24
 have H23' := H23.as (L' := [(some b18, .cells #[.slice (ownA kk7) 176 kc8, .slice (ownA kb10) 256 cb11] 176 (0, 0)), (kb10, sob E8 5 rB spb12), (kk7, sob E8 5 rK spk9), (some b1, lO (δ))]) rfl
 clear H23
 refine wend ?_
 refine sR ?_
 refine q_buildSlice (E := ELb) (l := ([] : List LbT)) H23' sli92 zer38 (bLe rfl) (ps := []) rfl (by exact fillAll rfl rfl) rfl ?_
 intro b25 w27 hS26 H28 hE29
 refine sM (.slice za zs.length zc) rfl ?_
 refine q_append (E := ELb) (k := 0) (l := ([] : List LbT)) (l2 := zs) H28 rfl hS26 sli92 zer38 rfl byt38 (hZ.ext H28.chg) rfl (by rfl) rfl (by rfl) (by omega) ?_
 intro key30 c31 sp32 w34 hS33 hne36 H35
 have H35' := H35.as (L' := [(key30, sob ELb 38 (([] : List LbT) ++ zs) sp32), (some b18, .cells #[.slice (ownA kk7) 176 kc8, .slice (ownA kb10) 256 cb11] 176 (0, 0)), (kb10, sob E8 5 rB spb12), (kk7, sob E8 5 rK spk9), (some b1, lO (δ))]) rfl
 clear H35
 have e37 : ([] : List LbT) ++ zs = zs := by rw [List.nil_append]
 have hS38 := hS33
 rw [e37] at hS38
 have H39 := H35'.as (L' := [(key30, sob ELb 38 zs sp32), (some b18, .cells #[.slice (ownA kk7) 176 kc8, .slice (ownA kb10) 256 cb11] 176 (0, 0)), (kb10, sob E8 5 rB spb12), (kk7, sob E8 5 rK spk9), (some b1, lO (δ))]) (by rw [e37])
 refine sA (.slice (ownA key30) (0 + zs.length) c31) rfl ?_
 refine wend ?_
 refine sR ?_
 refine sA (.slice none 0 0) rfl ?_
 refine wend ?_
 refine sR ?_
 refine sA (u64 (0#64)) rfl ?_
 refine wend ?_
 refine seqAny ?_
 refine sR ?_
 refine sA (i64 ((0 : Int))) rfl ?_
 refine wend ?_
 refine blockAny ?_
 refine loopAny (σ := Nat × Option Nat × Nat × List Value × Option Nat × Nat × List Value × Nat) (fun (i, k1, c1, z1, k2, c2, z2, m) => [(0, .slice ga gs.length gc), (3, u64 (first)), (5, pT b1), (10, pT b18), (11, .slice (ownA k1) (zs.length + i) c1), (12, .slice (ownA k2) m c2), (13, u64 (BitVec.ofInt 64 ((andsS gs i : Nat) : Int))), (14, i64 (i : Nat))]) (fun (i, k1, c1, z1, k2, c2, z2, m) w' => (i ≤ gs.length ∧ Sl ELb k1 (gS lhash δ first gs zs i).1 c1 z1 ∧ Sl ELb k2 (gS lhash δ first gs zs i).2 c2 z2 ∧ m = (gS lhash δ first gs zs i).2.length) ∧ Hp No w w' [(k1, sob ELb 38 ((gS lhash δ first gs zs i).1) z1), (k2, sob ELb 38 ((gS lhash δ first gs zs i).2) z2), (some b1, lO (δ)), (some b18, .cells #[.slice (ownA kk7) 176 kc8, .slice (ownA kb10) 256 cb11] 176 (0, 0)), (kb10, sob E8 5 rB spb12), (kk7, sob E8 5 rK spk9)]) (fun (i, k1, c1, z1, k2, c2, z2, m) => gs.length - i) ((0, key30, c31, sp32, none, 0, [], 0)) ?_ ?_ ?_
 ·exact ⟨rfl, rfl, rfl, rfl, congrArg (fun q => Value.slice _ q _) (by omega), rfl, congrArg u64 kw_zero, rfl, trivial⟩
 ·exact ⟨⟨Nat.zero_le _, hS38, Sl.none, rfl⟩, ((H39.nil (sob ELb 38 [] [])).pick 6 [1, 0, 5, 2, 3, 4] (by decide) (by decide))⟩
 rintro ⟨i, k1, c1, z1, k2, c2, z2, m⟩ ρ w40 ⟨⟨hi, h1, h2, rfl⟩, HL⟩
 have hwl := gS_len (h := lhash) (δ := δ) (first := first) (gs := gs) (zs := zs) i
 have htl := gS_tab (h := lhash) (δ := δ) (first := first) (gs := gs) (zs := zs) i
 have htn := gS_ands (h := lhash) (δ := δ) (first := first) (gs := gs) (zs := zs) hka i hi
 refine seqAny ?_
 refine sR ?_
 refine sM (i64 (i : Nat)) rfl ?_
 refine sM (.slice ga gs.length gc) rfl ?_
 refine sq (r_lenS sli78 (a := ga) (m := gs.length) (c := gc) rfl) ?_
 refine sq (r_lssI (a := (i : Nat)) (b := (gs.length : Nat)) rfl rfl) ?_
 refine wend ?_
 refine condProp (((i : Nat) : Int) < (gs.length : Nat)) rfl (fun c29 => ?_) (fun c29 => ?_)
 ·skip
  have hgi := hg.gok i (by omega)
  unfold gokP at hgi
  refine skipAny ?_
  refine thenNormal ?_
  refine seqAny ?_
  refine blockAny ?_
  refine sR ?_
  refine sM (.slice (ownA k1) (zs.length + i) c1) rfl ?_
  refine sM (.slice ga gs.length gc) rfl ?_
  refine sM (i64 (i : Nat)) rfl ?_
  refine sq (r_idxS (E := EG) (l := gs) (j := i) sli78 (hGs.ext HL.chg) rfl rfl (by first | rfl | omega | (simp; omega)) (by rfl) (by omega)) ?_
  refine sq (r_fieldS (E := EG) (l := gs) fld85_1 (by decide) (hGs.ext HL.chg) (by omega) rfl rfl) ?_
  refine sq (r_ldP (E := EG) (l := gs) (j := i) (o := 1) (v := (gs.getD i g0)) (u := i64 ((gs.getD i g0).a)) one3 (hGs.ext HL.chg) (at_getD (by omega)) rfl rfl rfl) ?_
  refine sq (r_idxS (E := ELb) (l := (gS lhash δ first gs zs i).1) (j := (gs.getD i g0).a.toNat) sli92 (HL.rd (k := 0) rfl h1) rfl rfl (by omega) (by rw [gS_len]) (by omega)) ?_
  refine sq ((r_ldS (E := ELb) (l := (gS lhash δ first gs zs i).1) (j := (gs.getD i g0).a.toNat) (v := ((gS lhash δ first gs zs i).1).getD ((gs.getD i g0).a.toNat) lb0) fits38 (HL.rd (k := 0) rfl h1) rfl rfl (at_getD (by omega))).as (v' := .agg (cel E64 [(((gS lhash δ first gs zs i).1).getD ((gs.getD i g0).a.toNat) lb0).1, (((gS lhash δ first gs zs i).1).getD ((gs.getD i g0).a.toNat) lb0).2]).toArray) rfl) ?_
  refine q_alloc (o := .cells (cel E64 ([0#64, 0#64])).toArray 38 (0, 0)) HL zer38 (by kernel_rfl) ?_
  intro b42 w43 hb42 H44 hE45
  refine d_store (k := 0) (v := .agg (cel E64 [(((gS lhash δ first gs zs i).1).getD ((gs.getD i g0).a.toNat) lb0).1, (((gS lhash δ first gs zs i).1).getD ((gs.getD i g0).a.toNat) lb0).2]).toArray) (cs' := (cel E64 ([(((gS lhash δ first gs zs i).1).getD ((gs.getD i g0).a.toNat) lb0).1, (((gS lhash δ first gs zs i).1).getD ((gs.getD i g0).a.toNat) lb0).2])).toArray) H44 rfl rfl rfl siz38 (by exact celSize (by first | rfl | (show _ * 1 = _; omega))) (by exact celOne _) (by rw [List.size_toArray, cel_length]; show _ ≤ _ * 1; first | omega | (simp only [List.length_set]; omega) | exact bLe rfl | (simp <;> omega)) (by exact putAll (by first | rfl | omega | (simp <;> omega))) ?_
  intro w46 H47 hC48
  have H47' := H47.as (L' := [(some b42, lO (((gS lhash δ first gs zs i).1).getD ((gs.getD i g0).a.toNat) lb0)), (k1, sob ELb 38 ((gS lhash δ first gs zs i).1) z1), (k2, sob ELb 38 ((gS lhash δ first gs zs i).2) z2), (some b1, lO (δ)), (some b18, .cells #[.slice (ownA kk7) 176 kc8, .slice (ownA kb10) 256 cb11] 176 (0, 0)), (kb10, sob E8 5 rB spb12), (kk7, sob E8 5 rK spk9)]) rfl
  clear H47
  obtain ⟨la, hla⟩ : ∃ x : Lb, x = (((gS lhash δ first gs zs i).1).getD (gs.getD i g0).a.toNat lb0) := ⟨_, rfl⟩
  rw [← hla] at H47' ⊢
  refine wend ?_
  refine seqAny ?_
  refine sR ?_
  refine sM (.slice ga gs.length gc) rfl ?_
  refine sM (i64 (i : Nat)) rfl ?_
  refine sq (r_idxS (E := EG) (l := gs) (j := i) sli78 (hGs.ext H47'.chg) rfl rfl (by first | rfl | omega | (simp; omega)) (by rfl) (by omega)) ?_
  refine sq (r_fieldS (E := EG) (l := gs) fld85_0 (by decide) (hGs.ext H47'.chg) (by omega) rfl rfl) ?_
  refine sq (r_ldP (E := EG) (l := gs) (j := i) (o := 0) (v := (gs.getD i g0)) (u := i64 ((gs.getD i g0).k)) one3 (hGs.ext H47'.chg) (at_getD (by omega)) rfl rfl rfl) ?_
  refine sq (r_eqlI (a := (gs.getD i g0).k) (b := (3 : Int)) rfl rfl) ?_
  refine wend ?_
  refine condProp (((gs.getD i g0).k : Int) = (3 : Int)) rfl (fun hk => ?_) (fun hk => ?_)
  ·skip
   have hk2 : ¬ (gs.getD i g0).k = 2 := by omega
   refine sR ?_
   refine sM (.slice (ownA k1) (zs.length + i) c1) rfl ?_
   refine sq (r_loadA (cs' := (cel E64 ([(la).1, (la).2])).toArray) agg38 siz38 (H47'.get (k := 0) rfl) (off := 0) rfl (by exact bLe rfl) (by exact ext_all rfl)) ?_
   refine sq (r_loadA (cs' := (cel E64 ([(δ).1, (δ).2])).toArray) agg38 siz38 (H47'.get (k := 3) rfl) (off := 0) rfl (by exact bLe rfl) (by exact ext_all rfl)) ?_
   refine c_call (vs := [lV (la), lV (δ)]) call50 rfl (rlx_ok la δ w46) ?_
   rintro _ w49 ⟨rfl, hE50⟩
   have H51 := H47'.ext hE50
   refine q_buildSlice (E := ELb) (l := ([lx la δ] : List LbT)) H51 sli92 zer38 (bLe rfl) (ps := [(0, .agg (cel E64 [(lx la δ).1, (lx la δ).2]).toArray)]) rfl (by exact fillAll rfl rfl) rfl ?_
   intro b52 w54 hS53 H55 hE56
   refine q_append (E := ELb) (k := 2) (l := (gS lhash δ first gs zs i).1) (l2 := ([lx la δ] : List LbT)) H55 rfl h1 sli92 zer38 rfl byt38 (H55.rd (k := 0) rfl hS53) rfl (by rw [gS_len]) rfl (by rfl) (by omega) ?_
   intro key57 c58 sp59 w61 hS60 hne63 H62
   have H62' := H62.as (L' := [((some b52), sob ELb 38 ([lx la δ] : List LbT) ([])), (some b42, lO (la)), (key57, sob ELb 38 (((gS lhash δ first gs zs i).1) ++ ([lx la δ] : List LbT)) sp59), (k2, sob ELb 38 ((gS lhash δ first gs zs i).2) z2), (some b1, lO (δ)), (some b18, .cells #[.slice (ownA kk7) 176 kc8, .slice (ownA kb10) 256 cb11] 176 (0, 0)), (kb10, sob E8 5 rB spb12), (kk7, sob E8 5 rK spk9)]) rfl
   clear H62
   have e64 : ((gS lhash δ first gs zs i).1) ++ ([lx la δ] : List LbT) = (gS lhash δ first gs zs (i + 1)).1 := by rw [gS, gstep, if_pos hk, hla]
   have hS65 := hS60
   rw [e64] at hS65
   have H66 := H62'.as (L' := [((some b52), sob ELb 38 ([lx la δ] : List LbT) ([])), (some b42, lO (la)), (key57, sob ELb 38 ((gS lhash δ first gs zs (i + 1)).1) sp59), (k2, sob ELb 38 ((gS lhash δ first gs zs i).2) z2), (some b1, lO (δ)), (some b18, .cells #[.slice (ownA kk7) 176 kc8, .slice (ownA kb10) 256 cb11] 176 (0, 0)), (kb10, sob E8 5 rB spb12), (kk7, sob E8 5 rK spk9)]) (by rw [e64])
   refine sA (.slice (ownA key57) ((zs.length + i) + 1) c58) rfl ?_
   refine wend ?_
   refine exitAny ?_
   refine thenExit ?_
   refine blockHere ?_
   refine thenNormal ?_
   refine oneRegion ?_
   refine sM (i64 (i : Nat)) rfl ?_
   refine sq (r_addI (a := (i : Nat)) (b := (1 : Int)) rfl rfl (by omega)) ?_
   refine sA (i64 ((i : Nat) + (1 : Int))) rfl ?_
   refine wnil ?_
   refine thenNormal ?_
   have e67 : (gS lhash δ first gs zs i).2 = (gS lhash δ first gs zs (i + 1)).2 := by rw [gS, gstep, if_pos hk]
   have hS68 := h2
   rw [e67] at hS68
   have H69 := H66.as (L' := [((some b52), sob ELb 38 ([lx la δ] : List LbT) ([])), (some b42, lO (la)), (key57, sob ELb 38 ((gS lhash δ first gs zs (i + 1)).1) sp59), (k2, sob ELb 38 ((gS lhash δ first gs zs (i + 1)).2) z2), (some b1, lO (δ)), (some b18, .cells #[.slice (ownA kk7) 176 kc8, .slice (ownA kb10) 256 cb11] 176 (0, 0)), (kb10, sob E8 5 rB spb12), (kk7, sob E8 5 rK spk9)]) (by rw [e67])
   exact ⟨(i + 1, key57, c58, sp59, k2, c2, z2, (gS lhash δ first gs zs i).2.length), _, rfl, ⟨rfl, rfl, rfl, rfl, rfl, rfl, congrArg u64 (by rw [andsS, if_neg hk2]), rfl, trivial⟩, ⟨⟨by omega, hS65, hS68, by rw [gS, gstep, if_pos hk]⟩, ((H69.dropk 1).dropk 0)⟩, by show gs.length - (i + 1) < gs.length - i; omega⟩
  ·skip
   have hn3 := hk
   refine skipAny ?_
   refine thenNormal ?_
   refine sR ?_
   refine sM (.slice (ownA k1) (zs.length + i) c1) rfl ?_
   refine sM (.slice ga gs.length gc) rfl ?_
   refine sM (i64 (i : Nat)) rfl ?_
   refine sq (r_idxS (E := EG) (l := gs) (j := i) sli78 (hGs.ext H47'.chg) rfl rfl (by first | rfl | omega | (simp; omega)) (by rfl) (by omega)) ?_
   refine sq (r_fieldS (E := EG) (l := gs) fld85_2 (by decide) (hGs.ext H47'.chg) (by omega) rfl rfl) ?_
   refine sq (r_ldP (E := EG) (l := gs) (j := i) (o := 2) (v := (gs.getD i g0)) (u := i64 ((gs.getD i g0).b)) one3 (hGs.ext H47'.chg) (at_getD (by omega)) rfl rfl rfl) ?_
   refine sq (r_idxS (E := ELb) (l := (gS lhash δ first gs zs i).1) (j := (gs.getD i g0).b.toNat) sli92 (H47'.rd (k := 1) rfl h1) rfl rfl (by omega) (by rw [gS_len]) (by omega)) ?_
   refine sq ((r_ldS (E := ELb) (l := (gS lhash δ first gs zs i).1) (j := (gs.getD i g0).b.toNat) (v := ((gS lhash δ first gs zs i).1).getD ((gs.getD i g0).b.toNat) lb0) fits38 (H47'.rd (k := 1) rfl h1) rfl rfl (at_getD (by omega))).as (v' := .agg (cel E64 [(((gS lhash δ first gs zs i).1).getD ((gs.getD i g0).b.toNat) lb0).1, (((gS lhash δ first gs zs i).1).getD ((gs.getD i g0).b.toNat) lb0).2]).toArray) rfl) ?_
   refine q_alloc (o := .cells (cel E64 ([0#64, 0#64])).toArray 38 (0, 0)) H47' zer38 (by kernel_rfl) ?_
   intro b70 w71 hb70 H72 hE73
   refine d_store (k := 0) (v := .agg (cel E64 [(((gS lhash δ first gs zs i).1).getD ((gs.getD i g0).b.toNat) lb0).1, (((gS lhash δ first gs zs i).1).getD ((gs.getD i g0).b.toNat) lb0).2]).toArray) (cs' := (cel E64 ([(((gS lhash δ first gs zs i).1).getD ((gs.getD i g0).b.toNat) lb0).1, (((gS lhash δ first gs zs i).1).getD ((gs.getD i g0).b.toNat) lb0).2])).toArray) H72 rfl rfl rfl siz38 (by exact celSize (by first | rfl | (show _ * 1 = _; omega))) (by exact celOne _) (by rw [List.size_toArray, cel_length]; show _ ≤ _ * 1; first | omega | (simp only [List.length_set]; omega) | exact bLe rfl | (simp <;> omega)) (by exact putAll (by first | rfl | omega | (simp <;> omega))) ?_
   intro w74 H75 hC76
   have H75' := H75.as (L' := [(some b70, lO (((gS lhash δ first gs zs i).1).getD ((gs.getD i g0).b.toNat) lb0)), (some b42, lO (la)), (k1, sob ELb 38 ((gS lhash δ first gs zs i).1) z1), (k2, sob ELb 38 ((gS lhash δ first gs zs i).2) z2), (some b1, lO (δ)), (some b18, .cells #[.slice (ownA kk7) 176 kc8, .slice (ownA kb10) 256 cb11] 176 (0, 0)), (kb10, sob E8 5 rB spb12), (kk7, sob E8 5 rK spk9)]) rfl
   clear H75
   obtain ⟨lb, hlb⟩ : ∃ x : Lb, x = (((gS lhash δ first gs zs i).1).getD (gs.getD i g0).b.toNat lb0) := ⟨_, rfl⟩
   rw [← hlb] at H75' ⊢
   refine wend ?_
   refine seqAny ?_
   refine sR ?_
   refine sM (.slice ga gs.length gc) rfl ?_
   refine sM (i64 (i : Nat)) rfl ?_
   refine sq (r_idxS (E := EG) (l := gs) (j := i) sli78 (hGs.ext H75'.chg) rfl rfl (by first | rfl | omega | (simp; omega)) (by rfl) (by omega)) ?_
   refine sq (r_fieldS (E := EG) (l := gs) fld85_0 (by decide) (hGs.ext H75'.chg) (by omega) rfl rfl) ?_
   refine sq (r_ldP (E := EG) (l := gs) (j := i) (o := 0) (v := (gs.getD i g0)) (u := i64 ((gs.getD i g0).k)) one3 (hGs.ext H75'.chg) (at_getD (by omega)) rfl rfl rfl) ?_
   refine sq (r_eqlI (a := (gs.getD i g0).k) (b := (1 : Int)) rfl rfl) ?_
   refine wend ?_
   refine condProp (((gs.getD i g0).k : Int) = (1 : Int)) rfl (fun hk1 => ?_) (fun hk1 => ?_)
   ·skip
    have hk := hk1
    have hk2 : ¬ (gs.getD i g0).k = 2 := by omega
    refine sR ?_
    refine sM (.slice (ownA k1) (zs.length + i) c1) rfl ?_
    refine sq (r_loadA (cs' := (cel E64 ([(la).1, (la).2])).toArray) agg38 siz38 (H75'.get (k := 1) rfl) (off := 0) rfl (by exact bLe rfl) (by exact ext_all rfl)) ?_
    refine sq (r_loadA (cs' := (cel E64 ([(lb).1, (lb).2])).toArray) agg38 siz38 (H75'.get (k := 0) rfl) (off := 0) rfl (by exact bLe rfl) (by exact ext_all rfl)) ?_
    refine c_call (vs := [lV (la), lV (lb)]) call50 rfl (rlx_ok la lb w74) ?_
    rintro _ w77 ⟨rfl, hE78⟩
    have H79 := H75'.ext hE78
    refine q_buildSlice (E := ELb) (l := ([lx la lb] : List LbT)) H79 sli92 zer38 (bLe rfl) (ps := [(0, .agg (cel E64 [(lx la lb).1, (lx la lb).2]).toArray)]) rfl (by exact fillAll rfl rfl) rfl ?_
    intro b80 w82 hS81 H83 hE84
    refine q_append (E := ELb) (k := 3) (l := (gS lhash δ first gs zs i).1) (l2 := ([lx la lb] : List LbT)) H83 rfl h1 sli92 zer38 rfl byt38 (H83.rd (k := 0) rfl hS81) rfl (by rw [gS_len]) rfl (by rfl) (by omega) ?_
    intro key85 c86 sp87 w89 hS88 hne91 H90
    have H90' := H90.as (L' := [((some b80), sob ELb 38 ([lx la lb] : List LbT) ([])), (some b70, lO (lb)), (some b42, lO (la)), (key85, sob ELb 38 (((gS lhash δ first gs zs i).1) ++ ([lx la lb] : List LbT)) sp87), (k2, sob ELb 38 ((gS lhash δ first gs zs i).2) z2), (some b1, lO (δ)), (some b18, .cells #[.slice (ownA kk7) 176 kc8, .slice (ownA kb10) 256 cb11] 176 (0, 0)), (kb10, sob E8 5 rB spb12), (kk7, sob E8 5 rK spk9)]) rfl
    clear H90
    have e92 : ((gS lhash δ first gs zs i).1) ++ ([lx la lb] : List LbT) = (gS lhash δ first gs zs (i + 1)).1 := by rw [gS, gstep, if_neg hn3, if_pos hk, hla, hlb]
    have hS93 := hS88
    rw [e92] at hS93
    have H94 := H90'.as (L' := [((some b80), sob ELb 38 ([lx la lb] : List LbT) ([])), (some b70, lO (lb)), (some b42, lO (la)), (key85, sob ELb 38 ((gS lhash δ first gs zs (i + 1)).1) sp87), (k2, sob ELb 38 ((gS lhash δ first gs zs i).2) z2), (some b1, lO (δ)), (some b18, .cells #[.slice (ownA kk7) 176 kc8, .slice (ownA kb10) 256 cb11] 176 (0, 0)), (kb10, sob E8 5 rB spb12), (kk7, sob E8 5 rK spk9)]) (by rw [e92])
    refine sA (.slice (ownA key85) ((zs.length + i) + 1) c86) rfl ?_
    refine wend ?_
    refine exitAny ?_
    refine thenExit ?_
    refine blockHere ?_
    refine thenNormal ?_
    refine oneRegion ?_
    refine sM (i64 (i : Nat)) rfl ?_
    refine sq (r_addI (a := (i : Nat)) (b := (1 : Int)) rfl rfl (by omega)) ?_
    refine sA (i64 ((i : Nat) + (1 : Int))) rfl ?_
    refine wnil ?_
    refine thenNormal ?_
    have e95 : (gS lhash δ first gs zs i).2 = (gS lhash δ first gs zs (i + 1)).2 := by rw [gS, gstep, if_neg hn3, if_pos hk]
    have hS96 := h2
    rw [e95] at hS96
    have H97 := H94.as (L' := [((some b80), sob ELb 38 ([lx la lb] : List LbT) ([])), (some b70, lO (lb)), (some b42, lO (la)), (key85, sob ELb 38 ((gS lhash δ first gs zs (i + 1)).1) sp87), (k2, sob ELb 38 ((gS lhash δ first gs zs (i + 1)).2) z2), (some b1, lO (δ)), (some b18, .cells #[.slice (ownA kk7) 176 kc8, .slice (ownA kb10) 256 cb11] 176 (0, 0)), (kb10, sob E8 5 rB spb12), (kk7, sob E8 5 rK spk9)]) (by rw [e95])
    exact ⟨(i + 1, key85, c86, sp87, k2, c2, z2, (gS lhash δ first gs zs i).2.length), _, rfl, ⟨rfl, rfl, rfl, rfl, rfl, rfl, congrArg u64 (by rw [andsS, if_neg hk2]), rfl, trivial⟩, ⟨⟨by omega, hS93, hS96, by rw [gS, gstep, if_neg hn3, if_pos hk]⟩, (((H97.dropk 2).dropk 1).dropk 0)⟩, by show gs.length - (i + 1) < gs.length - i; omega⟩
   ·skip
    have hn1 := hk1
    have hk2 : (gs.getD i g0).k = 2 := by omega
    refine skipAny ?_
    refine thenNormal ?_
    refine sR ?_
    refine sM (u64 (first)) rfl ?_
    refine sM (u64 (BitVec.ofInt 64 ((andsS gs i : Nat) : Int))) rfl ?_
    refine sq (r_mul64 (a := 2#64) (b := BitVec.ofInt 64 ((andsS gs i : Nat) : Int)) rfl rfl) ?_
    refine sq (r_add64 (a := first) (b := (2#64) * (BitVec.ofInt 64 ((andsS gs i : Nat) : Int))) rfl rfl) ?_
    refine sA (u64 (first + ((2#64) * (BitVec.ofInt 64 ((andsS gs i : Nat) : Int))))) rfl ?_
    obtain ⟨sv, hsv⟩ : ∃ x : BitVec 64, x = first + BitVec.ofInt 64 (((gS lhash δ first gs zs i).2.length : Nat) : Int) := ⟨_, rfl⟩
    rw [show first + ((2#64) * (BitVec.ofInt 64 ((andsS gs i : Nat) : Int))) = sv from by rw [hsv, kw_two, htn]]
    refine wend ?_
    refine sR ?_
    refine sM (u64 (BitVec.ofInt 64 ((andsS gs i : Nat) : Int))) rfl ?_
    refine sq ((r_add64 (a := BitVec.ofInt 64 ((andsS gs i : Nat) : Int)) (b := 1#64) rfl rfl).as (v' := u64 (BitVec.ofInt 64 ((andsS gs i + 1 : Nat) : Int))) (by exact congrArg u64 (kw_next _))) ?_
    refine sA (u64 (BitVec.ofInt 64 ((andsS gs i + 1 : Nat) : Int))) rfl ?_
    refine wend ?_
    refine seqAny ?_
    refine drawE (m := 13) [0, 0, 0, 7, 0, 0, 0, 64, 255, 0, 0, 2047, 4095] [9, 10, 11, 12] (fun bs vs w' => match bs, vs with | [false, false, false, false], [_, _, _, _] => Hp No w w' [(some b70, lO (lb)), (some b42, lO (la)), (k1, sob ELb 38 ((gS lhash δ first gs zs i).1) z1), (k2, sob ELb 38 ((gS lhash δ first gs zs i).2) z2), (some b1, lO (δ)), (some b18, .cells #[.slice (ownA kk7) 176 kc8, .slice (ownA kb10) 256 cb11] 176 (0, 0)), (kb10, sob E8 5 rB spb12), (kk7, sob E8 5 rK spk9)] | [true, false, false, false], [v9, _, _, _] => ∃ (b99 : Nat), v9 = pT b99 ∧ Hp No w w' [(some b99, .cells (cel E64 ([0#64, 0#64])).toArray 38 (0, 0)), (some b70, lO (lb)), (some b42, lO (la)), (k1, sob ELb 38 ((gS lhash δ first gs zs i).1) z1), (k2, sob ELb 38 ((gS lhash δ first gs zs i).2) z2), (some b1, lO (δ)), (some b18, .cells #[.slice (ownA kk7) 176 kc8, .slice (ownA kb10) 256 cb11] 176 (0, 0)), (kb10, sob E8 5 rB spb12), (kk7, sob E8 5 rK spk9)] | [false, true, false, false], [_, v10, _, _] => ∃ (b104 : Nat), v10 = pT b104 ∧ Hp No w w' [(some b104, .cells (cel E64 ([0#64, 0#64])).toArray 38 (0, 0)), (some b70, lO (lb)), (some b42, lO (la)), (k1, sob ELb 38 ((gS lhash δ first gs zs i).1) z1), (k2, sob ELb 38 ((gS lhash δ first gs zs i).2) z2), (some b1, lO (δ)), (some b18, .cells #[.slice (ownA kk7) 176 kc8, .slice (ownA kb10) 256 cb11] 176 (0, 0)), (kb10, sob E8 5 rB spb12), (kk7, sob E8 5 rK spk9)] | [true, true, false, false], [v9, v10, _, _] => ∃ (b99 : Nat) (b109 : Nat), v9 = pT b99 ∧ v10 = pT b109 ∧ Hp No w w' [(some b109, .cells (cel E64 ([0#64, 0#64])).toArray 38 (0, 0)), (some b99, .cells (cel E64 ([0#64, 0#64])).toArray 38 (0, 0)), (some b70, lO (lb)), (some b42, lO (la)), (k1, sob ELb 38 ((gS lhash δ first gs zs i).1) z1), (k2, sob ELb 38 ((gS lhash δ first gs zs i).2) z2), (some b1, lO (δ)), (some b18, .cells #[.slice (ownA kk7) 176 kc8, .slice (ownA kb10) 256 cb11] 176 (0, 0)), (kb10, sob E8 5 rB spb12), (kk7, sob E8 5 rK spk9)] | [true, true, true, false], [v9, v10, _, _] => ∃ (b99 : Nat) (b109 : Nat), v9 = pT b99 ∧ v10 = pT b109 ∧ Hp No w w' [(some b109, .cells (cel E64 ([0#64, 0#64])).toArray 38 (0, 0)), (some b99, lO (lhash la sv)), (some b70, lO (lb)), (some b42, lO (la)), (k1, sob ELb 38 ((gS lhash δ first gs zs i).1) z1), (k2, sob ELb 38 ((gS lhash δ first gs zs i).2) z2), (some b1, lO (δ)), (some b18, .cells #[.slice (ownA kk7) 176 kc8, .slice (ownA kb10) 256 cb11] 176 (0, 0)), (kb10, sob E8 5 rB spb12), (kk7, sob E8 5 rK spk9)] | [true, true, true, true], [v9, v10, _, _] => ∃ (b99 : Nat) (b109 : Nat), v9 = pT b99 ∧ v10 = pT b109 ∧ Hp No w w' [(some b109, lO (lhash lb (sv + (1#64)))), (some b99, lO (lhash la sv)), (some b70, lO (lb)), (some b42, lO (la)), (k1, sob ELb 38 ((gS lhash δ first gs zs i).1) z1), (k2, sob ELb 38 ((gS lhash δ first gs zs i).2) z2), (some b1, lO (δ)), (some b18, .cells #[.slice (ownA kk7) 176 kc8, .slice (ownA kb10) 256 cb11] 176 (0, 0)), (kb10, sob E8 5 rB spb12), (kk7, sob E8 5 rK spk9)] | _, _ => False) mixed (by kernel_rfl) (by kernel_rfl) H75'.drew ?_
    refine WalkE.look rfl (fun _ => .agg #[.slice (ownA kk7) 176 kc8, .slice (ownA kb10) 256 cb11]) (fun _ _ _ => rfl) (fun L r uw0 uw hAn hDn hF hEx => ?_) ?_
    ·skip
     have b11 := hDn 11 (by decide) rfl
     have b12 := hDn 12 (by decide) rfl
     rcases bTF (L 9) with b9 | b9
     ·skip
      rcases bTF (L 10) with b10 | b10
      ·skip
       have hb := mp4 b9 b10 b11 b12
       rw [hb] at hF
       obtain ⟨b99, b109, e9, e10, HH⟩ := hF
       replace HH := HH.ext hEx
       exact Gives.run rfl (r_loadA (cs' := #[.slice (ownA kk7) 176 kc8, .slice (ownA kb10) 256 cb11]) agg176 siz176 (HH.get (k := 7) rfl) (off := 0) rfl (by exact bLe rfl) (by rfl)) ⟨rfl, rfl⟩
      ·skip
       have hb := mp4 b9 b10 b11 b12
       rw [hb] at hF
       obtain ⟨b99, e9, HH⟩ := hF
       replace HH := HH.ext hEx
       exact Gives.run rfl (r_loadA (cs' := #[.slice (ownA kk7) 176 kc8, .slice (ownA kb10) 256 cb11]) agg176 siz176 (HH.get (k := 6) rfl) (off := 0) rfl (by exact bLe rfl) (by rfl)) ⟨rfl, rfl⟩
     ·skip
      rcases bTF (L 10) with b10 | b10
      ·skip
       have hb := mp4 b9 b10 b11 b12
       rw [hb] at hF
       obtain ⟨b104, e10, HH⟩ := hF
       replace HH := HH.ext hEx
       exact Gives.run rfl (r_loadA (cs' := #[.slice (ownA kk7) 176 kc8, .slice (ownA kb10) 256 cb11]) agg176 siz176 (HH.get (k := 6) rfl) (off := 0) rfl (by exact bLe rfl) (by rfl)) ⟨rfl, rfl⟩
      ·skip
       have hb := mp4 b9 b10 b11 b12
       rw [hb] at hF
       have HH := hF
       replace HH := HH.ext hEx
       exact Gives.run rfl (r_loadA (cs' := #[.slice (ownA kk7) 176 kc8, .slice (ownA kb10) 256 cb11]) agg176 siz176 (HH.get (k := 5) rfl) (off := 0) rfl (by exact bLe rfl) (by rfl)) ⟨rfl, rfl⟩
    refine WalkE.look rfl (fun _ => lV (la)) (fun _ _ _ => rfl) (fun L r uw0 uw hAn hDn hF hEx => ?_) ?_
    ·skip
     have b11 := hDn 11 (by decide) rfl
     have b12 := hDn 12 (by decide) rfl
     rcases bTF (L 9) with b9 | b9
     ·skip
      rcases bTF (L 10) with b10 | b10
      ·skip
       have hb := mp4 b9 b10 b11 b12
       rw [hb] at hF
       obtain ⟨b99, b109, e9, e10, HH⟩ := hF
       replace HH := HH.ext hEx
       exact Gives.run rfl (r_loadA (cs' := (cel E64 ([(la).1, (la).2])).toArray) agg38 siz38 (HH.get (k := 3) rfl) (off := 0) rfl (by exact bLe rfl) (by exact ext_all rfl)) ⟨rfl, rfl⟩
      ·skip
       have hb := mp4 b9 b10 b11 b12
       rw [hb] at hF
       obtain ⟨b99, e9, HH⟩ := hF
       replace HH := HH.ext hEx
       exact Gives.run rfl (r_loadA (cs' := (cel E64 ([(la).1, (la).2])).toArray) agg38 siz38 (HH.get (k := 2) rfl) (off := 0) rfl (by exact bLe rfl) (by exact ext_all rfl)) ⟨rfl, rfl⟩
     ·skip
      rcases bTF (L 10) with b10 | b10
      ·skip
       have hb := mp4 b9 b10 b11 b12
       rw [hb] at hF
       obtain ⟨b104, e10, HH⟩ := hF
       replace HH := HH.ext hEx
       exact Gives.run rfl (r_loadA (cs' := (cel E64 ([(la).1, (la).2])).toArray) agg38 siz38 (HH.get (k := 2) rfl) (off := 0) rfl (by exact bLe rfl) (by exact ext_all rfl)) ⟨rfl, rfl⟩
      ·skip
       have hb := mp4 b9 b10 b11 b12
       rw [hb] at hF
       have HH := hF
       replace HH := HH.ext hEx
       exact Gives.run rfl (r_loadA (cs' := (cel E64 ([(la).1, (la).2])).toArray) agg38 siz38 (HH.get (k := 1) rfl) (off := 0) rfl (by exact bLe rfl) (by exact ext_all rfl)) ⟨rfl, rfl⟩
    refine WalkE.look rfl (fun _ => u64 (sv)) (fun _ _ _ => rfl) (fun L r _ uw _ _ _ _ => Gives.run rfl (r_move (v := u64 (sv)) rfl) ⟨rfl, rfl⟩) ?_
    refine WalkE.call rfl (fun _ => .agg (cel E64 [(lhash la sv).1, (lhash la sv).2]).toArray) (fun _ _ _ => rfl) (fun L r uw0 uw hAn hDn hF hEx => ?_) ?_
    ·skip
     have b11 := hDn 11 (by decide) rfl
     have b12 := hDn 12 (by decide) rfl
     rcases bTF (L 9) with b9 | b9
     ·skip
      rcases bTF (L 10) with b10 | b10
      ·skip
       have hb := mp4 b9 b10 b11 b12
       rw [hb] at hF
       obtain ⟨b99, b109, e9, e10, HH⟩ := hF
       replace HH := HH.ext hEx
       exact Gives.call rfl (Enters.callL (vs := [.agg #[.slice (ownA kk7) 176 kc8, .slice (ownA kb10) 256 cb11], lV (la), u64 (sv)]) call93 rfl) (rlhash_ok la sv (ownA kk7) (ownA kb10) kc8 cb11 hcap uw (HH.rd (k := 9) rfl hSk13) (HH.rd (k := 8) rfl hSb14))
      ·skip
       have hb := mp4 b9 b10 b11 b12
       rw [hb] at hF
       obtain ⟨b99, e9, HH⟩ := hF
       replace HH := HH.ext hEx
       exact Gives.call rfl (Enters.callL (vs := [.agg #[.slice (ownA kk7) 176 kc8, .slice (ownA kb10) 256 cb11], lV (la), u64 (sv)]) call93 rfl) (rlhash_ok la sv (ownA kk7) (ownA kb10) kc8 cb11 hcap uw (HH.rd (k := 8) rfl hSk13) (HH.rd (k := 7) rfl hSb14))
     ·skip
      rcases bTF (L 10) with b10 | b10
      ·skip
       have hb := mp4 b9 b10 b11 b12
       rw [hb] at hF
       obtain ⟨b104, e10, HH⟩ := hF
       replace HH := HH.ext hEx
       exact Gives.call rfl (Enters.callL (vs := [.agg #[.slice (ownA kk7) 176 kc8, .slice (ownA kb10) 256 cb11], lV (la), u64 (sv)]) call93 rfl) (rlhash_ok la sv (ownA kk7) (ownA kb10) kc8 cb11 hcap uw (HH.rd (k := 8) rfl hSk13) (HH.rd (k := 7) rfl hSb14))
      ·skip
       have hb := mp4 b9 b10 b11 b12
       rw [hb] at hF
       have HH := hF
       replace HH := HH.ext hEx
       exact Gives.call rfl (Enters.callL (vs := [.agg #[.slice (ownA kk7) 176 kc8, .slice (ownA kb10) 256 cb11], lV (la), u64 (sv)]) call93 rfl) (rlhash_ok la sv (ownA kk7) (ownA kb10) kc8 cb11 hcap uw (HH.rd (k := 7) rfl hSk13) (HH.rd (k := 6) rfl hSb14))
    refine WalkE.look rfl (fun _ => .agg #[.slice (ownA kk7) 176 kc8, .slice (ownA kb10) 256 cb11]) (fun _ _ _ => rfl) (fun L r uw0 uw hAn hDn hF hEx => ?_) ?_
    ·skip
     have b11 := hDn 11 (by decide) rfl
     have b12 := hDn 12 (by decide) rfl
     rcases bTF (L 9) with b9 | b9
     ·skip
      rcases bTF (L 10) with b10 | b10
      ·skip
       have hb := mp4 b9 b10 b11 b12
       rw [hb] at hF
       obtain ⟨b99, b109, e9, e10, HH⟩ := hF
       replace HH := HH.ext hEx
       exact Gives.run rfl (r_loadA (cs' := #[.slice (ownA kk7) 176 kc8, .slice (ownA kb10) 256 cb11]) agg176 siz176 (HH.get (k := 7) rfl) (off := 0) rfl (by exact bLe rfl) (by rfl)) ⟨rfl, rfl⟩
      ·skip
       have hb := mp4 b9 b10 b11 b12
       rw [hb] at hF
       obtain ⟨b99, e9, HH⟩ := hF
       replace HH := HH.ext hEx
       exact Gives.run rfl (r_loadA (cs' := #[.slice (ownA kk7) 176 kc8, .slice (ownA kb10) 256 cb11]) agg176 siz176 (HH.get (k := 6) rfl) (off := 0) rfl (by exact bLe rfl) (by rfl)) ⟨rfl, rfl⟩
     ·skip
      rcases bTF (L 10) with b10 | b10
      ·skip
       have hb := mp4 b9 b10 b11 b12
       rw [hb] at hF
       obtain ⟨b104, e10, HH⟩ := hF
       replace HH := HH.ext hEx
       exact Gives.run rfl (r_loadA (cs' := #[.slice (ownA kk7) 176 kc8, .slice (ownA kb10) 256 cb11]) agg176 siz176 (HH.get (k := 6) rfl) (off := 0) rfl (by exact bLe rfl) (by rfl)) ⟨rfl, rfl⟩
      ·skip
       have hb := mp4 b9 b10 b11 b12
       rw [hb] at hF
       have HH := hF
       replace HH := HH.ext hEx
       exact Gives.run rfl (r_loadA (cs' := #[.slice (ownA kk7) 176 kc8, .slice (ownA kb10) 256 cb11]) agg176 siz176 (HH.get (k := 5) rfl) (off := 0) rfl (by exact bLe rfl) (by rfl)) ⟨rfl, rfl⟩
    refine WalkE.look rfl (fun _ => lV (lb)) (fun _ _ _ => rfl) (fun L r uw0 uw hAn hDn hF hEx => ?_) ?_
    ·skip
     have b11 := hDn 11 (by decide) rfl
     have b12 := hDn 12 (by decide) rfl
     rcases bTF (L 9) with b9 | b9
     ·skip
      rcases bTF (L 10) with b10 | b10
      ·skip
       have hb := mp4 b9 b10 b11 b12
       rw [hb] at hF
       obtain ⟨b99, b109, e9, e10, HH⟩ := hF
       replace HH := HH.ext hEx
       exact Gives.run rfl (r_loadA (cs' := (cel E64 ([(lb).1, (lb).2])).toArray) agg38 siz38 (HH.get (k := 2) rfl) (off := 0) rfl (by exact bLe rfl) (by exact ext_all rfl)) ⟨rfl, rfl⟩
      ·skip
       have hb := mp4 b9 b10 b11 b12
       rw [hb] at hF
       obtain ⟨b99, e9, HH⟩ := hF
       replace HH := HH.ext hEx
       exact Gives.run rfl (r_loadA (cs' := (cel E64 ([(lb).1, (lb).2])).toArray) agg38 siz38 (HH.get (k := 1) rfl) (off := 0) rfl (by exact bLe rfl) (by exact ext_all rfl)) ⟨rfl, rfl⟩
     ·skip
      rcases bTF (L 10) with b10 | b10
      ·skip
       have hb := mp4 b9 b10 b11 b12
       rw [hb] at hF
       obtain ⟨b104, e10, HH⟩ := hF
       replace HH := HH.ext hEx
       exact Gives.run rfl (r_loadA (cs' := (cel E64 ([(lb).1, (lb).2])).toArray) agg38 siz38 (HH.get (k := 1) rfl) (off := 0) rfl (by exact bLe rfl) (by exact ext_all rfl)) ⟨rfl, rfl⟩
      ·skip
       have hb := mp4 b9 b10 b11 b12
       rw [hb] at hF
       have HH := hF
       replace HH := HH.ext hEx
       exact Gives.run rfl (r_loadA (cs' := (cel E64 ([(lb).1, (lb).2])).toArray) agg38 siz38 (HH.get (k := 0) rfl) (off := 0) rfl (by exact bLe rfl) (by exact ext_all rfl)) ⟨rfl, rfl⟩
    refine WalkE.look rfl (fun _ => u64 (sv)) (fun _ _ _ => rfl) (fun L r _ uw _ _ _ _ => Gives.run rfl (r_move (v := u64 (sv)) rfl) ⟨rfl, rfl⟩) ?_
    refine WalkE.look rfl (fun _ => u64 (sv + (1#64))) (fun _ _ _ => rfl) (fun L r _ uw _ _ _ _ => Gives.run rfl (r_add64 (a := sv) (b := 1#64) rfl rfl) ⟨rfl, rfl⟩) ?_
    refine WalkE.call rfl (fun _ => .agg (cel E64 [(lhash lb (sv + (1#64))).1, (lhash lb (sv + (1#64))).2]).toArray) (fun _ _ _ => rfl) (fun L r uw0 uw hAn hDn hF hEx => ?_) ?_
    ·skip
     have b11 := hDn 11 (by decide) rfl
     have b12 := hDn 12 (by decide) rfl
     rcases bTF (L 9) with b9 | b9
     ·skip
      rcases bTF (L 10) with b10 | b10
      ·skip
       have hb := mp4 b9 b10 b11 b12
       rw [hb] at hF
       obtain ⟨b99, b109, e9, e10, HH⟩ := hF
       replace HH := HH.ext hEx
       exact Gives.call rfl (Enters.callL (vs := [.agg #[.slice (ownA kk7) 176 kc8, .slice (ownA kb10) 256 cb11], lV (lb), u64 (sv + (1#64))]) call93 rfl) (rlhash_ok lb (sv + (1#64)) (ownA kk7) (ownA kb10) kc8 cb11 hcap uw (HH.rd (k := 9) rfl hSk13) (HH.rd (k := 8) rfl hSb14))
      ·skip
       have hb := mp4 b9 b10 b11 b12
       rw [hb] at hF
       obtain ⟨b99, e9, HH⟩ := hF
       replace HH := HH.ext hEx
       exact Gives.call rfl (Enters.callL (vs := [.agg #[.slice (ownA kk7) 176 kc8, .slice (ownA kb10) 256 cb11], lV (lb), u64 (sv + (1#64))]) call93 rfl) (rlhash_ok lb (sv + (1#64)) (ownA kk7) (ownA kb10) kc8 cb11 hcap uw (HH.rd (k := 8) rfl hSk13) (HH.rd (k := 7) rfl hSb14))
     ·skip
      rcases bTF (L 10) with b10 | b10
      ·skip
       have hb := mp4 b9 b10 b11 b12
       rw [hb] at hF
       obtain ⟨b104, e10, HH⟩ := hF
       replace HH := HH.ext hEx
       exact Gives.call rfl (Enters.callL (vs := [.agg #[.slice (ownA kk7) 176 kc8, .slice (ownA kb10) 256 cb11], lV (lb), u64 (sv + (1#64))]) call93 rfl) (rlhash_ok lb (sv + (1#64)) (ownA kk7) (ownA kb10) kc8 cb11 hcap uw (HH.rd (k := 8) rfl hSk13) (HH.rd (k := 7) rfl hSb14))
      ·skip
       have hb := mp4 b9 b10 b11 b12
       rw [hb] at hF
       have HH := hF
       replace HH := HH.ext hEx
       exact Gives.call rfl (Enters.callL (vs := [.agg #[.slice (ownA kk7) 176 kc8, .slice (ownA kb10) 256 cb11], lV (lb), u64 (sv + (1#64))]) call93 rfl) (rlhash_ok lb (sv + (1#64)) (ownA kk7) (ownA kb10) kc8 cb11 hcap uw (HH.rd (k := 7) rfl hSk13) (HH.rd (k := 6) rfl hSb14))
    refine WalkE.eff 0 rfl (fun L r uw0 uw hLn hAn hDn hF hEx => ?_) ?_
    ·skip
     have b9 : L 9 = false := hLn
     have b11 := hDn 11 (by decide) rfl
     have b12 := hDn 12 (by decide) rfl
     rcases bTF (L 10) with b10 | b10
     ·skip
      have hb := mp4 b9 b10 b11 b12
      rw [hb] at hF ⊢
      obtain ⟨b104, e10, H121⟩ := hF
      replace H121 := H121.ext hEx
      dsimp only
      refine Gives.ofW (d := 18) rfl rfl (fun Q' hK => ?_)
      refine q_alloc (o := .cells (cel E64 ([0#64, 0#64])).toArray 38 (0, 0)) H121 zer38 (by kernel_rfl) ?_
      intro b122 w123 hb122 H124 hE125
      exact hK _ _ (show ∃ (b99 : Nat) (b109 : Nat), (_ : Value) = pT b99 ∧ r 10 = pT b109 ∧ Hp No w w123 [(some b109, .cells (cel E64 ([0#64, 0#64])).toArray 38 (0, 0)), (some b99, .cells (cel E64 ([0#64, 0#64])).toArray 38 (0, 0)), (some b70, lO (lb)), (some b42, lO (la)), (k1, sob ELb 38 ((gS lhash δ first gs zs i).1) z1), (k2, sob ELb 38 ((gS lhash δ first gs zs i).2) z2), (some b1, lO (δ)), (some b18, .cells #[.slice (ownA kk7) 176 kc8, .slice (ownA kb10) 256 cb11] 176 (0, 0)), (kb10, sob E8 5 rB spb12), (kk7, sob E8 5 rK spk9)] from ⟨b122, b104, rfl, e10, ((((((((((H124.pull (k := 9) rfl).pull (k := 9) rfl).pull (k := 9) rfl).pull (k := 9) rfl).pull (k := 9) rfl).pull (k := 9) rfl).pull (k := 9) rfl).pull (k := 9) rfl).pull (k := 8) rfl).pull (k := 9) rfl)⟩)
     ·skip
      have hb := mp4 b9 b10 b11 b12
      rw [hb] at hF ⊢
      have H126 := hF
      replace H126 := H126.ext hEx
      dsimp only
      refine Gives.ofW (d := 18) rfl rfl (fun Q' hK => ?_)
      refine q_alloc (o := .cells (cel E64 ([0#64, 0#64])).toArray 38 (0, 0)) H126 zer38 (by kernel_rfl) ?_
      intro b127 w128 hb127 H129 hE130
      exact hK _ _ (show ∃ (b99 : Nat), (_ : Value) = pT b99 ∧ Hp No w w128 [(some b99, .cells (cel E64 ([0#64, 0#64])).toArray 38 (0, 0)), (some b70, lO (lb)), (some b42, lO (la)), (k1, sob ELb 38 ((gS lhash δ first gs zs i).1) z1), (k2, sob ELb 38 ((gS lhash δ first gs zs i).2) z2), (some b1, lO (δ)), (some b18, .cells #[.slice (ownA kk7) 176 kc8, .slice (ownA kb10) 256 cb11] 176 (0, 0)), (kb10, sob E8 5 rB spb12), (kk7, sob E8 5 rK spk9)] from ⟨b127, rfl, (((((((((H129.pull (k := 8) rfl).pull (k := 8) rfl).pull (k := 8) rfl).pull (k := 8) rfl).pull (k := 8) rfl).pull (k := 8) rfl).pull (k := 8) rfl).pull (k := 8) rfl).pull (k := 8) rfl)⟩)
    refine WalkE.eff 1 rfl (fun L r uw0 uw hLn hAn hDn hF hEx => ?_) ?_
    ·skip
     have b10 : L 10 = false := hLn
     have b11 := hDn 11 (by decide) rfl
     have b12 := hDn 12 (by decide) rfl
     rcases bTF (L 9) with b9 | b9
     ·skip
      have hb := mp4 b9 b10 b11 b12
      rw [hb] at hF ⊢
      obtain ⟨b99, e9, H131⟩ := hF
      replace H131 := H131.ext hEx
      dsimp only
      rw [e9]
      refine Gives.ofW (d := 19) rfl rfl (fun Q' hK => ?_)
      refine q_alloc (o := .cells (cel E64 ([0#64, 0#64])).toArray 38 (0, 0)) H131 zer38 (by kernel_rfl) ?_
      intro b132 w133 hb132 H134 hE135
      exact hK _ _ (show ∃ (b99 : Nat) (b109 : Nat), r 9 = pT b99 ∧ (_ : Value) = pT b109 ∧ Hp No w w133 [(some b109, .cells (cel E64 ([0#64, 0#64])).toArray 38 (0, 0)), (some b99, .cells (cel E64 ([0#64, 0#64])).toArray 38 (0, 0)), (some b70, lO (lb)), (some b42, lO (la)), (k1, sob ELb 38 ((gS lhash δ first gs zs i).1) z1), (k2, sob ELb 38 ((gS lhash δ first gs zs i).2) z2), (some b1, lO (δ)), (some b18, .cells #[.slice (ownA kk7) 176 kc8, .slice (ownA kb10) 256 cb11] 176 (0, 0)), (kb10, sob E8 5 rB spb12), (kk7, sob E8 5 rK spk9)] from ⟨b99, b132, e9, rfl, ((((((((((H134.pull (k := 9) rfl).pull (k := 9) rfl).pull (k := 9) rfl).pull (k := 9) rfl).pull (k := 9) rfl).pull (k := 9) rfl).pull (k := 9) rfl).pull (k := 9) rfl).pull (k := 9) rfl).pull (k := 9) rfl)⟩)
     ·skip
      have hb := mp4 b9 b10 b11 b12
      rw [hb] at hF ⊢
      have H136 := hF
      replace H136 := H136.ext hEx
      dsimp only
      refine Gives.ofW (d := 19) rfl rfl (fun Q' hK => ?_)
      refine q_alloc (o := .cells (cel E64 ([0#64, 0#64])).toArray 38 (0, 0)) H136 zer38 (by kernel_rfl) ?_
      intro b137 w138 hb137 H139 hE140
      exact hK _ _ (show ∃ (b104 : Nat), (_ : Value) = pT b104 ∧ Hp No w w138 [(some b104, .cells (cel E64 ([0#64, 0#64])).toArray 38 (0, 0)), (some b70, lO (lb)), (some b42, lO (la)), (k1, sob ELb 38 ((gS lhash δ first gs zs i).1) z1), (k2, sob ELb 38 ((gS lhash δ first gs zs i).2) z2), (some b1, lO (δ)), (some b18, .cells #[.slice (ownA kk7) 176 kc8, .slice (ownA kb10) 256 cb11] 176 (0, 0)), (kb10, sob E8 5 rB spb12), (kk7, sob E8 5 rK spk9)] from ⟨b137, rfl, (((((((((H139.pull (k := 8) rfl).pull (k := 8) rfl).pull (k := 8) rfl).pull (k := 8) rfl).pull (k := 8) rfl).pull (k := 8) rfl).pull (k := 8) rfl).pull (k := 8) rfl).pull (k := 8) rfl)⟩)
    refine WalkE.eff 2 rfl (fun L r uw0 uw hLn hAn hDn hF hEx => ?_) ?_
    ·skip
     have b9 := hAn 9 (by decide) rfl
     have b10 := hAn 10 (by decide) rfl
     have b11 : L 11 = false := hLn
     have b12 := hDn 12 (by decide) rfl
     have hb := mp4 b9 b10 b11 b12
     rw [hb] at hF ⊢
     obtain ⟨b99, b109, e9, e10, H141⟩ := hF
     replace H141 := H141.ext hEx
     dsimp only
     rw [e9, e10]
     refine Gives.ofW0 rfl (fun Q' hK => ?_)
     refine d_store (k := 1) (v := .agg (cel E64 [(lhash la sv).1, (lhash la sv).2]).toArray) (cs' := (cel E64 ([(lhash la sv).1, (lhash la sv).2])).toArray) H141 rfl rfl rfl siz38 (by exact celSize (by first | rfl | (show _ * 1 = _; omega))) (by exact celOne _) (by rw [List.size_toArray, cel_length]; show _ ≤ _ * 1; first | omega | (simp only [List.length_set]; omega) | exact bLe rfl | (simp <;> omega)) (by exact putAll (by first | rfl | omega | (simp <;> omega))) ?_
     intro w142 H143 hC144
     have H143' := H143.as (L' := [(some b109, .cells (cel E64 ([0#64, 0#64])).toArray 38 (0, 0)), (some b99, lO (lhash la sv)), (some b70, lO (lb)), (some b42, lO (la)), (k1, sob ELb 38 ((gS lhash δ first gs zs i).1) z1), (k2, sob ELb 38 ((gS lhash δ first gs zs i).2) z2), (some b1, lO (δ)), (some b18, .cells #[.slice (ownA kk7) 176 kc8, .slice (ownA kb10) 256 cb11] 176 (0, 0)), (kb10, sob E8 5 rB spb12), (kk7, sob E8 5 rK spk9)]) rfl
     clear H143
     exact hK _ (fun _ => (show ∃ (b99 : Nat) (b109 : Nat), r 9 = pT b99 ∧ r 10 = pT b109 ∧ Hp No w w142 [(some b109, .cells (cel E64 ([0#64, 0#64])).toArray 38 (0, 0)), (some b99, lO (lhash la sv)), (some b70, lO (lb)), (some b42, lO (la)), (k1, sob ELb 38 ((gS lhash δ first gs zs i).1) z1), (k2, sob ELb 38 ((gS lhash δ first gs zs i).2) z2), (some b1, lO (δ)), (some b18, .cells #[.slice (ownA kk7) 176 kc8, .slice (ownA kb10) 256 cb11] 176 (0, 0)), (kb10, sob E8 5 rB spb12), (kk7, sob E8 5 rK spk9)] from ⟨b99, b109, e9, e10, ((((((((((H143'.pull (k := 9) rfl).pull (k := 9) rfl).pull (k := 9) rfl).pull (k := 9) rfl).pull (k := 9) rfl).pull (k := 9) rfl).pull (k := 9) rfl).pull (k := 9) rfl).pull (k := 9) rfl).pull (k := 9) rfl)⟩))
    refine WalkE.eff 3 rfl (fun L r uw0 uw hLn hAn hDn hF hEx => ?_) ?_
    ·skip
     have b9 := hAn 9 (by decide) rfl
     have b10 := hAn 10 (by decide) rfl
     have b11 := hAn 11 (by decide) rfl
     have b12 : L 12 = false := hLn
     have hb := mp4 b9 b10 b11 b12
     rw [hb] at hF ⊢
     obtain ⟨b99, b109, e9, e10, H145⟩ := hF
     replace H145 := H145.ext hEx
     dsimp only
     rw [e9, e10]
     refine Gives.ofW0 rfl (fun Q' hK => ?_)
     refine d_store (k := 0) (v := .agg (cel E64 [(lhash lb (sv + (1#64))).1, (lhash lb (sv + (1#64))).2]).toArray) (cs' := (cel E64 ([(lhash lb (sv + (1#64))).1, (lhash lb (sv + (1#64))).2])).toArray) H145 rfl rfl rfl siz38 (by exact celSize (by first | rfl | (show _ * 1 = _; omega))) (by exact celOne _) (by rw [List.size_toArray, cel_length]; show _ ≤ _ * 1; first | omega | (simp only [List.length_set]; omega) | exact bLe rfl | (simp <;> omega)) (by exact putAll (by first | rfl | omega | (simp <;> omega))) ?_
     intro w146 H147 hC148
     have H147' := H147.as (L' := [(some b109, lO (lhash lb (sv + (1#64)))), (some b99, lO (lhash la sv)), (some b70, lO (lb)), (some b42, lO (la)), (k1, sob ELb 38 ((gS lhash δ first gs zs i).1) z1), (k2, sob ELb 38 ((gS lhash δ first gs zs i).2) z2), (some b1, lO (δ)), (some b18, .cells #[.slice (ownA kk7) 176 kc8, .slice (ownA kb10) 256 cb11] 176 (0, 0)), (kb10, sob E8 5 rB spb12), (kk7, sob E8 5 rK spk9)]) rfl
     clear H147
     exact hK _ (fun _ => (show ∃ (b99 : Nat) (b109 : Nat), r 9 = pT b99 ∧ r 10 = pT b109 ∧ Hp No w w146 [(some b109, lO (lhash lb (sv + (1#64)))), (some b99, lO (lhash la sv)), (some b70, lO (lb)), (some b42, lO (la)), (k1, sob ELb 38 ((gS lhash δ first gs zs i).1) z1), (k2, sob ELb 38 ((gS lhash δ first gs zs i).2) z2), (some b1, lO (δ)), (some b18, .cells #[.slice (ownA kk7) 176 kc8, .slice (ownA kb10) 256 cb11] 176 (0, 0)), (kb10, sob E8 5 rB spb12), (kk7, sob E8 5 rK spk9)] from ⟨b99, b109, e9, e10, ((((((((((H147'.pull (k := 9) rfl).pull (k := 9) rfl).pull (k := 9) rfl).pull (k := 9) rfl).pull (k := 9) rfl).pull (k := 9) rfl).pull (k := 9) rfl).pull (k := 9) rfl).pull (k := 9) rfl).pull (k := 9) rfl)⟩))
    refine WalkE.nil ?_
    intro r149 uw0 w150 hF hEx
    obtain ⟨b99, b109, e9, e10, H151⟩ := hF
    replace H151 := H151.ext hEx
    dsimp only
    rw [e9, e10]
    refine wnil ?_
    refine thenNormal ?_
    refine seqAny ?_
    refine drawE (m := 14) [0, 0, 0, 0, 12, 0, 62, 127, 0, 511, 0, 2047, 0, 8191] [12, 13] (fun bs vs w' => match bs, vs with | [false, false], [_, _] => Hp No w w' [(some b109, lO (lhash lb (sv + (1#64)))), (some b99, lO (lhash la sv)), (some b70, lO (lb)), (some b42, lO (la)), (k1, sob ELb 38 ((gS lhash δ first gs zs i).1) z1), (k2, sob ELb 38 ((gS lhash δ first gs zs i).2) z2), (some b1, lO (δ)), (some b18, .cells #[.slice (ownA kk7) 176 kc8, .slice (ownA kb10) 256 cb11] 176 (0, 0)), (kb10, sob E8 5 rB spb12), (kk7, sob E8 5 rK spk9)] | [true, false], [v12, _] => ∃ (b153 : Nat), v12 = pT b153 ∧ Hp No w w' [(some b153, .cells (cel E64 ([0#64, 0#64])).toArray 38 (0, 0)), (some b109, lO (lhash lb (sv + (1#64)))), (some b99, lO (lhash la sv)), (some b70, lO (lb)), (some b42, lO (la)), (k1, sob ELb 38 ((gS lhash δ first gs zs i).1) z1), (k2, sob ELb 38 ((gS lhash δ first gs zs i).2) z2), (some b1, lO (δ)), (some b18, .cells #[.slice (ownA kk7) 176 kc8, .slice (ownA kb10) 256 cb11] 176 (0, 0)), (kb10, sob E8 5 rB spb12), (kk7, sob E8 5 rK spk9)] | [true, true], [v12, _] => ∃ (b153 : Nat), v12 = pT b153 ∧ Hp No w w' [(some b153, lO (lx (lx (lhash la sv) (lhash (lx la δ) sv)) (lw (col lb) δ))), (some b109, lO (lhash lb (sv + (1#64)))), (some b99, lO (lhash la sv)), (some b70, lO (lb)), (some b42, lO (la)), (k1, sob ELb 38 ((gS lhash δ first gs zs i).1) z1), (k2, sob ELb 38 ((gS lhash δ first gs zs i).2) z2), (some b1, lO (δ)), (some b18, .cells #[.slice (ownA kk7) 176 kc8, .slice (ownA kb10) 256 cb11] 176 (0, 0)), (kb10, sob E8 5 rB spb12), (kk7, sob E8 5 rK spk9)] | _, _ => False) mixed (by kernel_rfl) (by kernel_rfl) H151.drew ?_
    refine WalkE.look rfl (fun _ => lV (lhash la sv)) (fun _ _ _ => rfl) (fun L r uw0 uw hAn hDn hF hEx => ?_) ?_
    ·skip
     have b13 := hDn 13 (by decide) rfl
     rcases bTF (L 12) with b12 | b12
     ·skip
      have hb := mp2 b12 b13
      rw [hb] at hF
      obtain ⟨b153, e12, HH⟩ := hF
      replace HH := HH.ext hEx
      exact Gives.run rfl (r_loadA (cs' := (cel E64 ([(lhash la sv).1, (lhash la sv).2])).toArray) agg38 siz38 (HH.get (k := 2) rfl) (off := 0) rfl (by exact bLe rfl) (by exact ext_all rfl)) ⟨rfl, rfl⟩
     ·skip
      have hb := mp2 b12 b13
      rw [hb] at hF
      have HH := hF
      replace HH := HH.ext hEx
      exact Gives.run rfl (r_loadA (cs' := (cel E64 ([(lhash la sv).1, (lhash la sv).2])).toArray) agg38 siz38 (HH.get (k := 1) rfl) (off := 0) rfl (by exact bLe rfl) (by exact ext_all rfl)) ⟨rfl, rfl⟩
    refine WalkE.look rfl (fun _ => .agg #[.slice (ownA kk7) 176 kc8, .slice (ownA kb10) 256 cb11]) (fun _ _ _ => rfl) (fun L r uw0 uw hAn hDn hF hEx => ?_) ?_
    ·skip
     have b13 := hDn 13 (by decide) rfl
     rcases bTF (L 12) with b12 | b12
     ·skip
      have hb := mp2 b12 b13
      rw [hb] at hF
      obtain ⟨b153, e12, HH⟩ := hF
      replace HH := HH.ext hEx
      exact Gives.run rfl (r_loadA (cs' := #[.slice (ownA kk7) 176 kc8, .slice (ownA kb10) 256 cb11]) agg176 siz176 (HH.get (k := 8) rfl) (off := 0) rfl (by exact bLe rfl) (by rfl)) ⟨rfl, rfl⟩
     ·skip
      have hb := mp2 b12 b13
      rw [hb] at hF
      have HH := hF
      replace HH := HH.ext hEx
      exact Gives.run rfl (r_loadA (cs' := #[.slice (ownA kk7) 176 kc8, .slice (ownA kb10) 256 cb11]) agg176 siz176 (HH.get (k := 7) rfl) (off := 0) rfl (by exact bLe rfl) (by rfl)) ⟨rfl, rfl⟩
    refine WalkE.look rfl (fun _ => lV (la)) (fun _ _ _ => rfl) (fun L r uw0 uw hAn hDn hF hEx => ?_) ?_
    ·skip
     have b13 := hDn 13 (by decide) rfl
     rcases bTF (L 12) with b12 | b12
     ·skip
      have hb := mp2 b12 b13
      rw [hb] at hF
      obtain ⟨b153, e12, HH⟩ := hF
      replace HH := HH.ext hEx
      exact Gives.run rfl (r_loadA (cs' := (cel E64 ([(la).1, (la).2])).toArray) agg38 siz38 (HH.get (k := 4) rfl) (off := 0) rfl (by exact bLe rfl) (by exact ext_all rfl)) ⟨rfl, rfl⟩
     ·skip
      have hb := mp2 b12 b13
      rw [hb] at hF
      have HH := hF
      replace HH := HH.ext hEx
      exact Gives.run rfl (r_loadA (cs' := (cel E64 ([(la).1, (la).2])).toArray) agg38 siz38 (HH.get (k := 3) rfl) (off := 0) rfl (by exact bLe rfl) (by exact ext_all rfl)) ⟨rfl, rfl⟩
    refine WalkE.look rfl (fun _ => lV (δ)) (fun _ _ _ => rfl) (fun L r uw0 uw hAn hDn hF hEx => ?_) ?_
    ·skip
     have b13 := hDn 13 (by decide) rfl
     rcases bTF (L 12) with b12 | b12
     ·skip
      have hb := mp2 b12 b13
      rw [hb] at hF
      obtain ⟨b153, e12, HH⟩ := hF
      replace HH := HH.ext hEx
      exact Gives.run rfl (r_loadA (cs' := (cel E64 ([(δ).1, (δ).2])).toArray) agg38 siz38 (HH.get (k := 7) rfl) (off := 0) rfl (by exact bLe rfl) (by exact ext_all rfl)) ⟨rfl, rfl⟩
     ·skip
      have hb := mp2 b12 b13
      rw [hb] at hF
      have HH := hF
      replace HH := HH.ext hEx
      exact Gives.run rfl (r_loadA (cs' := (cel E64 ([(δ).1, (δ).2])).toArray) agg38 siz38 (HH.get (k := 6) rfl) (off := 0) rfl (by exact bLe rfl) (by exact ext_all rfl)) ⟨rfl, rfl⟩
    refine WalkE.call rfl (fun _ => .agg (cel E64 [(lx la δ).1, (lx la δ).2]).toArray) (fun _ _ _ => rfl) (fun L r uw0 uw hAn hDn hF hEx => ?_) ?_
    ·skip
     have b13 := hDn 13 (by decide) rfl
     rcases bTF (L 12) with b12 | b12
     ·skip
      have hb := mp2 b12 b13
      rw [hb] at hF
      obtain ⟨b153, e12, HH⟩ := hF
      replace HH := HH.ext hEx
      exact Gives.call rfl (Enters.callL (vs := [lV (la), lV (δ)]) call50 rfl) (rlx_ok la δ uw)
     ·skip
      have hb := mp2 b12 b13
      rw [hb] at hF
      have HH := hF
      replace HH := HH.ext hEx
      exact Gives.call rfl (Enters.callL (vs := [lV (la), lV (δ)]) call50 rfl) (rlx_ok la δ uw)
    refine WalkE.look rfl (fun _ => u64 (sv)) (fun _ _ _ => rfl) (fun L r _ uw _ _ _ _ => Gives.run rfl (r_move (v := u64 (sv)) rfl) ⟨rfl, rfl⟩) ?_
    refine WalkE.call rfl (fun _ => .agg (cel E64 [(lhash (lx la δ) sv).1, (lhash (lx la δ) sv).2]).toArray) (fun _ _ _ => rfl) (fun L r uw0 uw hAn hDn hF hEx => ?_) ?_
    ·skip
     have b13 := hDn 13 (by decide) rfl
     rcases bTF (L 12) with b12 | b12
     ·skip
      have hb := mp2 b12 b13
      rw [hb] at hF
      obtain ⟨b153, e12, HH⟩ := hF
      replace HH := HH.ext hEx
      exact Gives.call rfl (Enters.callL (vs := [.agg #[.slice (ownA kk7) 176 kc8, .slice (ownA kb10) 256 cb11], .agg (cel E64 [(lx la δ).1, (lx la δ).2]).toArray, u64 (sv)]) call93 rfl) (rlhash_ok (lx la δ) sv (ownA kk7) (ownA kb10) kc8 cb11 hcap uw (HH.rd (k := 10) rfl hSk13) (HH.rd (k := 9) rfl hSb14))
     ·skip
      have hb := mp2 b12 b13
      rw [hb] at hF
      have HH := hF
      replace HH := HH.ext hEx
      exact Gives.call rfl (Enters.callL (vs := [.agg #[.slice (ownA kk7) 176 kc8, .slice (ownA kb10) 256 cb11], .agg (cel E64 [(lx la δ).1, (lx la δ).2]).toArray, u64 (sv)]) call93 rfl) (rlhash_ok (lx la δ) sv (ownA kk7) (ownA kb10) kc8 cb11 hcap uw (HH.rd (k := 9) rfl hSk13) (HH.rd (k := 8) rfl hSb14))
    refine WalkE.call rfl (fun _ => .agg (cel E64 [(lx (lhash la sv) (lhash (lx la δ) sv)).1, (lx (lhash la sv) (lhash (lx la δ) sv)).2]).toArray) (fun _ _ _ => rfl) (fun L r uw0 uw hAn hDn hF hEx => ?_) ?_
    ·skip
     have b13 := hDn 13 (by decide) rfl
     rcases bTF (L 12) with b12 | b12
     ·skip
      have hb := mp2 b12 b13
      rw [hb] at hF
      obtain ⟨b153, e12, HH⟩ := hF
      replace HH := HH.ext hEx
      exact Gives.call rfl (Enters.callL (vs := [lV (lhash la sv), .agg (cel E64 [(lhash (lx la δ) sv).1, (lhash (lx la δ) sv).2]).toArray]) call50 rfl) (rlx_ok (lhash la sv) (lhash (lx la δ) sv) uw)
     ·skip
      have hb := mp2 b12 b13
      rw [hb] at hF
      have HH := hF
      replace HH := HH.ext hEx
      exact Gives.call rfl (Enters.callL (vs := [lV (lhash la sv), .agg (cel E64 [(lhash (lx la δ) sv).1, (lhash (lx la δ) sv).2]).toArray]) call50 rfl) (rlx_ok (lhash la sv) (lhash (lx la δ) sv) uw)
    refine WalkE.look rfl (fun _ => lV (lb)) (fun _ _ _ => rfl) (fun L r uw0 uw hAn hDn hF hEx => ?_) ?_
    ·skip
     have b13 := hDn 13 (by decide) rfl
     rcases bTF (L 12) with b12 | b12
     ·skip
      have hb := mp2 b12 b13
      rw [hb] at hF
      obtain ⟨b153, e12, HH⟩ := hF
      replace HH := HH.ext hEx
      exact Gives.run rfl (r_loadA (cs' := (cel E64 ([(lb).1, (lb).2])).toArray) agg38 siz38 (HH.get (k := 3) rfl) (off := 0) rfl (by exact bLe rfl) (by exact ext_all rfl)) ⟨rfl, rfl⟩
     ·skip
      have hb := mp2 b12 b13
      rw [hb] at hF
      have HH := hF
      replace HH := HH.ext hEx
      exact Gives.run rfl (r_loadA (cs' := (cel E64 ([(lb).1, (lb).2])).toArray) agg38 siz38 (HH.get (k := 2) rfl) (off := 0) rfl (by exact bLe rfl) (by exact ext_all rfl)) ⟨rfl, rfl⟩
    refine WalkE.call rfl (fun _ => u64 (lb.1 % 2#64)) (fun _ _ _ => rfl) (fun L r uw0 uw hAn hDn hF hEx => ?_) ?_
    ·skip
     have b13 := hDn 13 (by decide) rfl
     rcases bTF (L 12) with b12 | b12
     ·skip
      have hb := mp2 b12 b13
      rw [hb] at hF
      obtain ⟨b153, e12, HH⟩ := hF
      replace HH := HH.ext hEx
      exact Gives.call rfl (Enters.callL (vs := [lV (lb)]) call91 rfl) (rcolour_ok lb uw)
     ·skip
      have hb := mp2 b12 b13
      rw [hb] at hF
      have HH := hF
      replace HH := HH.ext hEx
      exact Gives.call rfl (Enters.callL (vs := [lV (lb)]) call91 rfl) (rcolour_ok lb uw)
    refine WalkE.look rfl (fun _ => lV (δ)) (fun _ _ _ => rfl) (fun L r uw0 uw hAn hDn hF hEx => ?_) ?_
    ·skip
     have b13 := hDn 13 (by decide) rfl
     rcases bTF (L 12) with b12 | b12
     ·skip
      have hb := mp2 b12 b13
      rw [hb] at hF
      obtain ⟨b153, e12, HH⟩ := hF
      replace HH := HH.ext hEx
      exact Gives.run rfl (r_loadA (cs' := (cel E64 ([(δ).1, (δ).2])).toArray) agg38 siz38 (HH.get (k := 7) rfl) (off := 0) rfl (by exact bLe rfl) (by exact ext_all rfl)) ⟨rfl, rfl⟩
     ·skip
      have hb := mp2 b12 b13
      rw [hb] at hF
      have HH := hF
      replace HH := HH.ext hEx
      exact Gives.run rfl (r_loadA (cs' := (cel E64 ([(δ).1, (δ).2])).toArray) agg38 siz38 (HH.get (k := 6) rfl) (off := 0) rfl (by exact bLe rfl) (by exact ext_all rfl)) ⟨rfl, rfl⟩
    refine WalkE.call rfl (fun _ => .agg (cel E64 [(lx (lx (lhash la sv) (lhash (lx la δ) sv)) (lw (col lb) δ)).1, (lx (lx (lhash la sv) (lhash (lx la δ) sv)) (lw (col lb) δ)).2]).toArray) (fun _ _ _ => rfl) (fun L r uw0 uw hAn hDn hF hEx => ?_) ?_
    ·skip
     have b13 := hDn 13 (by decide) rfl
     rcases bTF (L 12) with b12 | b12
     ·skip
      have hb := mp2 b12 b13
      rw [hb] at hF
      obtain ⟨b153, e12, HH⟩ := hF
      replace HH := HH.ext hEx
      exact Gives.call rfl (Enters.callL (vs := [.agg (cel E64 [(lx (lhash la sv) (lhash (lx la δ) sv)).1, (lx (lhash la sv) (lhash (lx la δ) sv)).2]).toArray, u64 (lb.1 % 2#64), lV (δ)]) call94 rfl) (plus_ok (lx (lhash la sv) (lhash (lx la δ) sv)) δ lb (lb.1 % 2#64) rfl uw)
     ·skip
      have hb := mp2 b12 b13
      rw [hb] at hF
      have HH := hF
      replace HH := HH.ext hEx
      exact Gives.call rfl (Enters.callL (vs := [.agg (cel E64 [(lx (lhash la sv) (lhash (lx la δ) sv)).1, (lx (lhash la sv) (lhash (lx la δ) sv)).2]).toArray, u64 (lb.1 % 2#64), lV (δ)]) call94 rfl) (plus_ok (lx (lhash la sv) (lhash (lx la δ) sv)) δ lb (lb.1 % 2#64) rfl uw)
    refine WalkE.eff 0 rfl (fun L r uw0 uw hLn hAn hDn hF hEx => ?_) ?_
    ·skip
     have b12 : L 12 = false := hLn
     have b13 := hDn 13 (by decide) rfl
     have hb := mp2 b12 b13
     rw [hb] at hF ⊢
     have H161 := hF
     replace H161 := H161.ext hEx
     dsimp only
     refine Gives.ofW (d := 20) rfl rfl (fun Q' hK => ?_)
     refine q_alloc (o := .cells (cel E64 ([0#64, 0#64])).toArray 38 (0, 0)) H161 zer38 (by kernel_rfl) ?_
     intro b162 w163 hb162 H164 hE165
     exact hK _ _ (show ∃ (b153 : Nat), (_ : Value) = pT b153 ∧ Hp No w w163 [(some b153, .cells (cel E64 ([0#64, 0#64])).toArray 38 (0, 0)), (some b109, lO (lhash lb (sv + (1#64)))), (some b99, lO (lhash la sv)), (some b70, lO (lb)), (some b42, lO (la)), (k1, sob ELb 38 ((gS lhash δ first gs zs i).1) z1), (k2, sob ELb 38 ((gS lhash δ first gs zs i).2) z2), (some b1, lO (δ)), (some b18, .cells #[.slice (ownA kk7) 176 kc8, .slice (ownA kb10) 256 cb11] 176 (0, 0)), (kb10, sob E8 5 rB spb12), (kk7, sob E8 5 rK spk9)] from ⟨b162, rfl, (((((((((((H164.pull (k := 10) rfl).pull (k := 10) rfl).pull (k := 10) rfl).pull (k := 10) rfl).pull (k := 10) rfl).pull (k := 10) rfl).pull (k := 10) rfl).pull (k := 10) rfl).pull (k := 10) rfl).pull (k := 10) rfl).pull (k := 10) rfl)⟩)
    refine WalkE.eff 1 rfl (fun L r uw0 uw hLn hAn hDn hF hEx => ?_) ?_
    ·skip
     have b12 := hAn 12 (by decide) rfl
     have b13 : L 13 = false := hLn
     have hb := mp2 b12 b13
     rw [hb] at hF ⊢
     obtain ⟨b153, e12, H166⟩ := hF
     replace H166 := H166.ext hEx
     dsimp only
     rw [e12]
     refine Gives.ofW0 rfl (fun Q' hK => ?_)
     refine d_store (k := 0) (v := .agg (cel E64 [(lx (lx (lhash la sv) (lhash (lx la δ) sv)) (lw (col lb) δ)).1, (lx (lx (lhash la sv) (lhash (lx la δ) sv)) (lw (col lb) δ)).2]).toArray) (cs' := (cel E64 ([(lx (lx (lhash la sv) (lhash (lx la δ) sv)) (lw (col lb) δ)).1, (lx (lx (lhash la sv) (lhash (lx la δ) sv)) (lw (col lb) δ)).2])).toArray) H166 rfl rfl rfl siz38 (by exact celSize (by first | rfl | (show _ * 1 = _; omega))) (by exact celOne _) (by rw [List.size_toArray, cel_length]; show _ ≤ _ * 1; first | omega | (simp only [List.length_set]; omega) | exact bLe rfl | (simp <;> omega)) (by exact putAll (by first | rfl | omega | (simp <;> omega))) ?_
     intro w167 H168 hC169
     have H168' := H168.as (L' := [(some b153, lO (lx (lx (lhash la sv) (lhash (lx la δ) sv)) (lw (col lb) δ))), (some b109, lO (lhash lb (sv + (1#64)))), (some b99, lO (lhash la sv)), (some b70, lO (lb)), (some b42, lO (la)), (k1, sob ELb 38 ((gS lhash δ first gs zs i).1) z1), (k2, sob ELb 38 ((gS lhash δ first gs zs i).2) z2), (some b1, lO (δ)), (some b18, .cells #[.slice (ownA kk7) 176 kc8, .slice (ownA kb10) 256 cb11] 176 (0, 0)), (kb10, sob E8 5 rB spb12), (kk7, sob E8 5 rK spk9)]) rfl
     clear H168
     exact hK _ (fun _ => (show ∃ (b153 : Nat), r 12 = pT b153 ∧ Hp No w w167 [(some b153, lO (lx (lx (lhash la sv) (lhash (lx la δ) sv)) (lw (col lb) δ))), (some b109, lO (lhash lb (sv + (1#64)))), (some b99, lO (lhash la sv)), (some b70, lO (lb)), (some b42, lO (la)), (k1, sob ELb 38 ((gS lhash δ first gs zs i).1) z1), (k2, sob ELb 38 ((gS lhash δ first gs zs i).2) z2), (some b1, lO (δ)), (some b18, .cells #[.slice (ownA kk7) 176 kc8, .slice (ownA kb10) 256 cb11] 176 (0, 0)), (kb10, sob E8 5 rB spb12), (kk7, sob E8 5 rK spk9)] from ⟨b153, e12, (((((((((((H168'.pull (k := 10) rfl).pull (k := 10) rfl).pull (k := 10) rfl).pull (k := 10) rfl).pull (k := 10) rfl).pull (k := 10) rfl).pull (k := 10) rfl).pull (k := 10) rfl).pull (k := 10) rfl).pull (k := 10) rfl).pull (k := 10) rfl)⟩))
    refine WalkE.nil ?_
    intro r170 uw0 w171 hF hEx
    obtain ⟨b153, e12, H172⟩ := hF
    replace H172 := H172.ext hEx
    dsimp only
    rw [e12]
    obtain ⟨tx, htx⟩ : ∃ x : Lb, x = tabX lhash δ la lb sv := ⟨_, rfl⟩
    rw [show (lx (lx (lhash la sv) (lhash (lx la δ) sv)) (lw (col lb) δ) : Lb) = tx from by rw [htx, tabX_doc]] at H172
    refine wnil ?_
    refine thenNormal ?_
    refine seqAny ?_
    refine drawE (m := 13) [0, 0, 0, 0, 12, 0, 32, 126, 255, 0, 1023, 0, 4095] [11, 12] (fun bs vs w' => match bs, vs with | [false, false], [_, _] => Hp No w w' [(some b153, lO (tx)), (some b109, lO (lhash lb (sv + (1#64)))), (some b99, lO (lhash la sv)), (some b70, lO (lb)), (some b42, lO (la)), (k1, sob ELb 38 ((gS lhash δ first gs zs i).1) z1), (k2, sob ELb 38 ((gS lhash δ first gs zs i).2) z2), (some b1, lO (δ)), (some b18, .cells #[.slice (ownA kk7) 176 kc8, .slice (ownA kb10) 256 cb11] 176 (0, 0)), (kb10, sob E8 5 rB spb12), (kk7, sob E8 5 rK spk9)] | [true, false], [v11, _] => ∃ (b174 : Nat), v11 = pT b174 ∧ Hp No w w' [(some b174, .cells (cel E64 ([0#64, 0#64])).toArray 38 (0, 0)), (some b153, lO (tx)), (some b109, lO (lhash lb (sv + (1#64)))), (some b99, lO (lhash la sv)), (some b70, lO (lb)), (some b42, lO (la)), (k1, sob ELb 38 ((gS lhash δ first gs zs i).1) z1), (k2, sob ELb 38 ((gS lhash δ first gs zs i).2) z2), (some b1, lO (δ)), (some b18, .cells #[.slice (ownA kk7) 176 kc8, .slice (ownA kb10) 256 cb11] 176 (0, 0)), (kb10, sob E8 5 rB spb12), (kk7, sob E8 5 rK spk9)] | [true, true], [v11, _] => ∃ (b174 : Nat), v11 = pT b174 ∧ Hp No w w' [(some b174, lO (lx (lx (lhash lb (sv + (1#64))) (lhash (lx lb δ) (sv + (1#64)))) la)), (some b153, lO (tx)), (some b109, lO (lhash lb (sv + (1#64)))), (some b99, lO (lhash la sv)), (some b70, lO (lb)), (some b42, lO (la)), (k1, sob ELb 38 ((gS lhash δ first gs zs i).1) z1), (k2, sob ELb 38 ((gS lhash δ first gs zs i).2) z2), (some b1, lO (δ)), (some b18, .cells #[.slice (ownA kk7) 176 kc8, .slice (ownA kb10) 256 cb11] 176 (0, 0)), (kb10, sob E8 5 rB spb12), (kk7, sob E8 5 rK spk9)] | _, _ => False) mixed (by kernel_rfl) (by kernel_rfl) H172.drew ?_
    refine WalkE.look rfl (fun _ => lV (lhash lb (sv + (1#64)))) (fun _ _ _ => rfl) (fun L r uw0 uw hAn hDn hF hEx => ?_) ?_
    ·skip
     have b12 := hDn 12 (by decide) rfl
     rcases bTF (L 11) with b11 | b11
     ·skip
      have hb := mp2 b11 b12
      rw [hb] at hF
      obtain ⟨b174, e11, HH⟩ := hF
      replace HH := HH.ext hEx
      exact Gives.run rfl (r_loadA (cs' := (cel E64 ([(lhash lb (sv + (1#64))).1, (lhash lb (sv + (1#64))).2])).toArray) agg38 siz38 (HH.get (k := 2) rfl) (off := 0) rfl (by exact bLe rfl) (by exact ext_all rfl)) ⟨rfl, rfl⟩
     ·skip
      have hb := mp2 b11 b12
      rw [hb] at hF
      have HH := hF
      replace HH := HH.ext hEx
      exact Gives.run rfl (r_loadA (cs' := (cel E64 ([(lhash lb (sv + (1#64))).1, (lhash lb (sv + (1#64))).2])).toArray) agg38 siz38 (HH.get (k := 1) rfl) (off := 0) rfl (by exact bLe rfl) (by exact ext_all rfl)) ⟨rfl, rfl⟩
    refine WalkE.look rfl (fun _ => .agg #[.slice (ownA kk7) 176 kc8, .slice (ownA kb10) 256 cb11]) (fun _ _ _ => rfl) (fun L r uw0 uw hAn hDn hF hEx => ?_) ?_
    ·skip
     have b12 := hDn 12 (by decide) rfl
     rcases bTF (L 11) with b11 | b11
     ·skip
      have hb := mp2 b11 b12
      rw [hb] at hF
      obtain ⟨b174, e11, HH⟩ := hF
      replace HH := HH.ext hEx
      exact Gives.run rfl (r_loadA (cs' := #[.slice (ownA kk7) 176 kc8, .slice (ownA kb10) 256 cb11]) agg176 siz176 (HH.get (k := 9) rfl) (off := 0) rfl (by exact bLe rfl) (by rfl)) ⟨rfl, rfl⟩
     ·skip
      have hb := mp2 b11 b12
      rw [hb] at hF
      have HH := hF
      replace HH := HH.ext hEx
      exact Gives.run rfl (r_loadA (cs' := #[.slice (ownA kk7) 176 kc8, .slice (ownA kb10) 256 cb11]) agg176 siz176 (HH.get (k := 8) rfl) (off := 0) rfl (by exact bLe rfl) (by rfl)) ⟨rfl, rfl⟩
    refine WalkE.look rfl (fun _ => lV (lb)) (fun _ _ _ => rfl) (fun L r uw0 uw hAn hDn hF hEx => ?_) ?_
    ·skip
     have b12 := hDn 12 (by decide) rfl
     rcases bTF (L 11) with b11 | b11
     ·skip
      have hb := mp2 b11 b12
      rw [hb] at hF
      obtain ⟨b174, e11, HH⟩ := hF
      replace HH := HH.ext hEx
      exact Gives.run rfl (r_loadA (cs' := (cel E64 ([(lb).1, (lb).2])).toArray) agg38 siz38 (HH.get (k := 4) rfl) (off := 0) rfl (by exact bLe rfl) (by exact ext_all rfl)) ⟨rfl, rfl⟩
     ·skip
      have hb := mp2 b11 b12
      rw [hb] at hF
      have HH := hF
      replace HH := HH.ext hEx
      exact Gives.run rfl (r_loadA (cs' := (cel E64 ([(lb).1, (lb).2])).toArray) agg38 siz38 (HH.get (k := 3) rfl) (off := 0) rfl (by exact bLe rfl) (by exact ext_all rfl)) ⟨rfl, rfl⟩
    refine WalkE.look rfl (fun _ => lV (δ)) (fun _ _ _ => rfl) (fun L r uw0 uw hAn hDn hF hEx => ?_) ?_
    ·skip
     have b12 := hDn 12 (by decide) rfl
     rcases bTF (L 11) with b11 | b11
     ·skip
      have hb := mp2 b11 b12
      rw [hb] at hF
      obtain ⟨b174, e11, HH⟩ := hF
      replace HH := HH.ext hEx
      exact Gives.run rfl (r_loadA (cs' := (cel E64 ([(δ).1, (δ).2])).toArray) agg38 siz38 (HH.get (k := 8) rfl) (off := 0) rfl (by exact bLe rfl) (by exact ext_all rfl)) ⟨rfl, rfl⟩
     ·skip
      have hb := mp2 b11 b12
      rw [hb] at hF
      have HH := hF
      replace HH := HH.ext hEx
      exact Gives.run rfl (r_loadA (cs' := (cel E64 ([(δ).1, (δ).2])).toArray) agg38 siz38 (HH.get (k := 7) rfl) (off := 0) rfl (by exact bLe rfl) (by exact ext_all rfl)) ⟨rfl, rfl⟩
    refine WalkE.call rfl (fun _ => .agg (cel E64 [(lx lb δ).1, (lx lb δ).2]).toArray) (fun _ _ _ => rfl) (fun L r uw0 uw hAn hDn hF hEx => ?_) ?_
    ·skip
     have b12 := hDn 12 (by decide) rfl
     rcases bTF (L 11) with b11 | b11
     ·skip
      have hb := mp2 b11 b12
      rw [hb] at hF
      obtain ⟨b174, e11, HH⟩ := hF
      replace HH := HH.ext hEx
      exact Gives.call rfl (Enters.callL (vs := [lV (lb), lV (δ)]) call50 rfl) (rlx_ok lb δ uw)
     ·skip
      have hb := mp2 b11 b12
      rw [hb] at hF
      have HH := hF
      replace HH := HH.ext hEx
      exact Gives.call rfl (Enters.callL (vs := [lV (lb), lV (δ)]) call50 rfl) (rlx_ok lb δ uw)
    refine WalkE.look rfl (fun _ => u64 (sv)) (fun _ _ _ => rfl) (fun L r _ uw _ _ _ _ => Gives.run rfl (r_move (v := u64 (sv)) rfl) ⟨rfl, rfl⟩) ?_
    refine WalkE.look rfl (fun _ => u64 (sv + (1#64))) (fun _ _ _ => rfl) (fun L r _ uw _ _ _ _ => Gives.run rfl (r_add64 (a := sv) (b := 1#64) rfl rfl) ⟨rfl, rfl⟩) ?_
    refine WalkE.call rfl (fun _ => .agg (cel E64 [(lhash (lx lb δ) (sv + (1#64))).1, (lhash (lx lb δ) (sv + (1#64))).2]).toArray) (fun _ _ _ => rfl) (fun L r uw0 uw hAn hDn hF hEx => ?_) ?_
    ·skip
     have b12 := hDn 12 (by decide) rfl
     rcases bTF (L 11) with b11 | b11
     ·skip
      have hb := mp2 b11 b12
      rw [hb] at hF
      obtain ⟨b174, e11, HH⟩ := hF
      replace HH := HH.ext hEx
      exact Gives.call rfl (Enters.callL (vs := [.agg #[.slice (ownA kk7) 176 kc8, .slice (ownA kb10) 256 cb11], .agg (cel E64 [(lx lb δ).1, (lx lb δ).2]).toArray, u64 (sv + (1#64))]) call93 rfl) (rlhash_ok (lx lb δ) (sv + (1#64)) (ownA kk7) (ownA kb10) kc8 cb11 hcap uw (HH.rd (k := 11) rfl hSk13) (HH.rd (k := 10) rfl hSb14))
     ·skip
      have hb := mp2 b11 b12
      rw [hb] at hF
      have HH := hF
      replace HH := HH.ext hEx
      exact Gives.call rfl (Enters.callL (vs := [.agg #[.slice (ownA kk7) 176 kc8, .slice (ownA kb10) 256 cb11], .agg (cel E64 [(lx lb δ).1, (lx lb δ).2]).toArray, u64 (sv + (1#64))]) call93 rfl) (rlhash_ok (lx lb δ) (sv + (1#64)) (ownA kk7) (ownA kb10) kc8 cb11 hcap uw (HH.rd (k := 10) rfl hSk13) (HH.rd (k := 9) rfl hSb14))
    refine WalkE.call rfl (fun _ => .agg (cel E64 [(lx (lhash lb (sv + (1#64))) (lhash (lx lb δ) (sv + (1#64)))).1, (lx (lhash lb (sv + (1#64))) (lhash (lx lb δ) (sv + (1#64)))).2]).toArray) (fun _ _ _ => rfl) (fun L r uw0 uw hAn hDn hF hEx => ?_) ?_
    ·skip
     have b12 := hDn 12 (by decide) rfl
     rcases bTF (L 11) with b11 | b11
     ·skip
      have hb := mp2 b11 b12
      rw [hb] at hF
      obtain ⟨b174, e11, HH⟩ := hF
      replace HH := HH.ext hEx
      exact Gives.call rfl (Enters.callL (vs := [lV (lhash lb (sv + (1#64))), .agg (cel E64 [(lhash (lx lb δ) (sv + (1#64))).1, (lhash (lx lb δ) (sv + (1#64))).2]).toArray]) call50 rfl) (rlx_ok (lhash lb (sv + (1#64))) (lhash (lx lb δ) (sv + (1#64))) uw)
     ·skip
      have hb := mp2 b11 b12
      rw [hb] at hF
      have HH := hF
      replace HH := HH.ext hEx
      exact Gives.call rfl (Enters.callL (vs := [lV (lhash lb (sv + (1#64))), .agg (cel E64 [(lhash (lx lb δ) (sv + (1#64))).1, (lhash (lx lb δ) (sv + (1#64))).2]).toArray]) call50 rfl) (rlx_ok (lhash lb (sv + (1#64))) (lhash (lx lb δ) (sv + (1#64))) uw)
    refine WalkE.look rfl (fun _ => lV (la)) (fun _ _ _ => rfl) (fun L r uw0 uw hAn hDn hF hEx => ?_) ?_
    ·skip
     have b12 := hDn 12 (by decide) rfl
     rcases bTF (L 11) with b11 | b11
     ·skip
      have hb := mp2 b11 b12
      rw [hb] at hF
      obtain ⟨b174, e11, HH⟩ := hF
      replace HH := HH.ext hEx
      exact Gives.run rfl (r_loadA (cs' := (cel E64 ([(la).1, (la).2])).toArray) agg38 siz38 (HH.get (k := 5) rfl) (off := 0) rfl (by exact bLe rfl) (by exact ext_all rfl)) ⟨rfl, rfl⟩
     ·skip
      have hb := mp2 b11 b12
      rw [hb] at hF
      have HH := hF
      replace HH := HH.ext hEx
      exact Gives.run rfl (r_loadA (cs' := (cel E64 ([(la).1, (la).2])).toArray) agg38 siz38 (HH.get (k := 4) rfl) (off := 0) rfl (by exact bLe rfl) (by exact ext_all rfl)) ⟨rfl, rfl⟩
    refine WalkE.call rfl (fun _ => .agg (cel E64 [(lx (lx (lhash lb (sv + (1#64))) (lhash (lx lb δ) (sv + (1#64)))) la).1, (lx (lx (lhash lb (sv + (1#64))) (lhash (lx lb δ) (sv + (1#64)))) la).2]).toArray) (fun _ _ _ => rfl) (fun L r uw0 uw hAn hDn hF hEx => ?_) ?_
    ·skip
     have b12 := hDn 12 (by decide) rfl
     rcases bTF (L 11) with b11 | b11
     ·skip
      have hb := mp2 b11 b12
      rw [hb] at hF
      obtain ⟨b174, e11, HH⟩ := hF
      replace HH := HH.ext hEx
      exact Gives.call rfl (Enters.callL (vs := [.agg (cel E64 [(lx (lhash lb (sv + (1#64))) (lhash (lx lb δ) (sv + (1#64)))).1, (lx (lhash lb (sv + (1#64))) (lhash (lx lb δ) (sv + (1#64)))).2]).toArray, lV (la)]) call50 rfl) (rlx_ok (lx (lhash lb (sv + (1#64))) (lhash (lx lb δ) (sv + (1#64)))) la uw)
     ·skip
      have hb := mp2 b11 b12
      rw [hb] at hF
      have HH := hF
      replace HH := HH.ext hEx
      exact Gives.call rfl (Enters.callL (vs := [.agg (cel E64 [(lx (lhash lb (sv + (1#64))) (lhash (lx lb δ) (sv + (1#64)))).1, (lx (lhash lb (sv + (1#64))) (lhash (lx lb δ) (sv + (1#64)))).2]).toArray, lV (la)]) call50 rfl) (rlx_ok (lx (lhash lb (sv + (1#64))) (lhash (lx lb δ) (sv + (1#64)))) la uw)
    refine WalkE.eff 0 rfl (fun L r uw0 uw hLn hAn hDn hF hEx => ?_) ?_
    ·skip
     have b11 : L 11 = false := hLn
     have b12 := hDn 12 (by decide) rfl
     have hb := mp2 b11 b12
     rw [hb] at hF ⊢
     have H182 := hF
     replace H182 := H182.ext hEx
     dsimp only
     refine Gives.ofW (d := 21) rfl rfl (fun Q' hK => ?_)
     refine q_alloc (o := .cells (cel E64 ([0#64, 0#64])).toArray 38 (0, 0)) H182 zer38 (by kernel_rfl) ?_
     intro b183 w184 hb183 H185 hE186
     exact hK _ _ (show ∃ (b174 : Nat), (_ : Value) = pT b174 ∧ Hp No w w184 [(some b174, .cells (cel E64 ([0#64, 0#64])).toArray 38 (0, 0)), (some b153, lO (tx)), (some b109, lO (lhash lb (sv + (1#64)))), (some b99, lO (lhash la sv)), (some b70, lO (lb)), (some b42, lO (la)), (k1, sob ELb 38 ((gS lhash δ first gs zs i).1) z1), (k2, sob ELb 38 ((gS lhash δ first gs zs i).2) z2), (some b1, lO (δ)), (some b18, .cells #[.slice (ownA kk7) 176 kc8, .slice (ownA kb10) 256 cb11] 176 (0, 0)), (kb10, sob E8 5 rB spb12), (kk7, sob E8 5 rK spk9)] from ⟨b183, rfl, ((((((((((((H185.pull (k := 11) rfl).pull (k := 11) rfl).pull (k := 11) rfl).pull (k := 11) rfl).pull (k := 11) rfl).pull (k := 11) rfl).pull (k := 11) rfl).pull (k := 11) rfl).pull (k := 11) rfl).pull (k := 11) rfl).pull (k := 11) rfl).pull (k := 11) rfl)⟩)
    refine WalkE.eff 1 rfl (fun L r uw0 uw hLn hAn hDn hF hEx => ?_) ?_
    ·skip
     have b11 := hAn 11 (by decide) rfl
     have b12 : L 12 = false := hLn
     have hb := mp2 b11 b12
     rw [hb] at hF ⊢
     obtain ⟨b174, e11, H187⟩ := hF
     replace H187 := H187.ext hEx
     dsimp only
     rw [e11]
     refine Gives.ofW0 rfl (fun Q' hK => ?_)
     refine d_store (k := 0) (v := .agg (cel E64 [(lx (lx (lhash lb (sv + (1#64))) (lhash (lx lb δ) (sv + (1#64)))) la).1, (lx (lx (lhash lb (sv + (1#64))) (lhash (lx lb δ) (sv + (1#64)))) la).2]).toArray) (cs' := (cel E64 ([(lx (lx (lhash lb (sv + (1#64))) (lhash (lx lb δ) (sv + (1#64)))) la).1, (lx (lx (lhash lb (sv + (1#64))) (lhash (lx lb δ) (sv + (1#64)))) la).2])).toArray) H187 rfl rfl rfl siz38 (by exact celSize (by first | rfl | (show _ * 1 = _; omega))) (by exact celOne _) (by rw [List.size_toArray, cel_length]; show _ ≤ _ * 1; first | omega | (simp only [List.length_set]; omega) | exact bLe rfl | (simp <;> omega)) (by exact putAll (by first | rfl | omega | (simp <;> omega))) ?_
     intro w188 H189 hC190
     have H189' := H189.as (L' := [(some b174, lO (lx (lx (lhash lb (sv + (1#64))) (lhash (lx lb δ) (sv + (1#64)))) la)), (some b153, lO (tx)), (some b109, lO (lhash lb (sv + (1#64)))), (some b99, lO (lhash la sv)), (some b70, lO (lb)), (some b42, lO (la)), (k1, sob ELb 38 ((gS lhash δ first gs zs i).1) z1), (k2, sob ELb 38 ((gS lhash δ first gs zs i).2) z2), (some b1, lO (δ)), (some b18, .cells #[.slice (ownA kk7) 176 kc8, .slice (ownA kb10) 256 cb11] 176 (0, 0)), (kb10, sob E8 5 rB spb12), (kk7, sob E8 5 rK spk9)]) rfl
     clear H189
     exact hK _ (fun _ => (show ∃ (b174 : Nat), r 11 = pT b174 ∧ Hp No w w188 [(some b174, lO (lx (lx (lhash lb (sv + (1#64))) (lhash (lx lb δ) (sv + (1#64)))) la)), (some b153, lO (tx)), (some b109, lO (lhash lb (sv + (1#64)))), (some b99, lO (lhash la sv)), (some b70, lO (lb)), (some b42, lO (la)), (k1, sob ELb 38 ((gS lhash δ first gs zs i).1) z1), (k2, sob ELb 38 ((gS lhash δ first gs zs i).2) z2), (some b1, lO (δ)), (some b18, .cells #[.slice (ownA kk7) 176 kc8, .slice (ownA kb10) 256 cb11] 176 (0, 0)), (kb10, sob E8 5 rB spb12), (kk7, sob E8 5 rK spk9)] from ⟨b174, e11, ((((((((((((H189'.pull (k := 11) rfl).pull (k := 11) rfl).pull (k := 11) rfl).pull (k := 11) rfl).pull (k := 11) rfl).pull (k := 11) rfl).pull (k := 11) rfl).pull (k := 11) rfl).pull (k := 11) rfl).pull (k := 11) rfl).pull (k := 11) rfl).pull (k := 11) rfl)⟩))
    refine WalkE.nil ?_
    intro r191 uw0 w192 hF hEx
    obtain ⟨b174, e11, H193⟩ := hF
    replace H193 := H193.ext hEx
    dsimp only
    rw [e11]
    obtain ⟨ty, hty⟩ : ∃ x : Lb, x = tabY lhash δ la lb sv := ⟨_, rfl⟩
    rw [show (lx (lx (lhash lb (sv + (1#64))) (lhash (lx lb δ) (sv + (1#64)))) la : Lb) = ty from by rw [hty, tabY_doc]] at H193
    refine wnil ?_
    refine thenNormal ?_
    refine sR ?_
    refine sM (.slice (ownA k2) ((gS lhash δ first gs zs i).2.length) c2) rfl ?_
    refine sq (r_loadA (cs' := (cel E64 ([(tx).1, (tx).2])).toArray) agg38 siz38 (H193.get (k := 1) rfl) (off := 0) rfl (by exact bLe rfl) (by exact ext_all rfl)) ?_
    refine sq (r_loadA (cs' := (cel E64 ([(ty).1, (ty).2])).toArray) agg38 siz38 (H193.get (k := 0) rfl) (off := 0) rfl (by exact bLe rfl) (by exact ext_all rfl)) ?_
    refine q_buildSlice (E := ELb) (l := ([tx, ty] : List LbT)) H193 sli92 zer38 (bLe rfl) (ps := [(0, lV (tx)), (1, lV (ty))]) rfl (by exact fillAll rfl rfl) rfl ?_
    intro b194 w196 hS195 H197 hE198
    refine q_append (E := ELb) (k := 8) (l := (gS lhash δ first gs zs i).2) (l2 := ([tx, ty] : List LbT)) H197 rfl h2 sli92 zer38 rfl byt38 (H197.rd (k := 0) rfl hS195) rfl (by rfl) rfl (by rfl) (by omega) ?_
    intro key199 c200 sp201 w203 hS202 hne205 H204
    have H204' := H204.as (L' := [((some b194), sob ELb 38 ([tx, ty] : List LbT) ([])), (some b174, lO (ty)), (some b153, lO (tx)), (some b109, lO (lhash lb (sv + (1#64)))), (some b99, lO (lhash la sv)), (some b70, lO (lb)), (some b42, lO (la)), (k1, sob ELb 38 ((gS lhash δ first gs zs i).1) z1), (key199, sob ELb 38 (((gS lhash δ first gs zs i).2) ++ ([tx, ty] : List LbT)) sp201), (some b1, lO (δ)), (some b18, .cells #[.slice (ownA kk7) 176 kc8, .slice (ownA kb10) 256 cb11] 176 (0, 0)), (kb10, sob E8 5 rB spb12), (kk7, sob E8 5 rK spk9)]) rfl
    clear H204
    have e206 : ((gS lhash δ first gs zs i).2) ++ ([tx, ty] : List LbT) = (gS lhash δ first gs zs (i + 1)).2 := by rw [gS, gstep, if_neg hn3, if_neg hn1, htx, hty, hsv, hla, hlb]
    have hS207 := hS202
    rw [e206] at hS207
    have H208 := H204'.as (L' := [((some b194), sob ELb 38 ([tx, ty] : List LbT) ([])), (some b174, lO (ty)), (some b153, lO (tx)), (some b109, lO (lhash lb (sv + (1#64)))), (some b99, lO (lhash la sv)), (some b70, lO (lb)), (some b42, lO (la)), (k1, sob ELb 38 ((gS lhash δ first gs zs i).1) z1), (key199, sob ELb 38 ((gS lhash δ first gs zs (i + 1)).2) sp201), (some b1, lO (δ)), (some b18, .cells #[.slice (ownA kk7) 176 kc8, .slice (ownA kb10) 256 cb11] 176 (0, 0)), (kb10, sob E8 5 rB spb12), (kk7, sob E8 5 rK spk9)]) (by rw [e206])
    refine sA (.slice (ownA key199) (((gS lhash δ first gs zs i).2.length) + 2) c200) rfl ?_
    refine wend ?_
    refine drawE (m := 17) [0, 0, 0, 4, 0, 30, 0, 0, 190, 0, 0, 1982, 4094, 8190, 16382, 32767, 65535] [14, 15] (fun bs vs w' => match bs, vs with | [false, false], [_, _] => Hp No w w' [((some b194), sob ELb 38 ([tx, ty] : List LbT) ([])), (some b174, lO (ty)), (some b153, lO (tx)), (some b109, lO (lhash lb (sv + (1#64)))), (some b99, lO (lhash la sv)), (some b70, lO (lb)), (some b42, lO (la)), (k1, sob ELb 38 ((gS lhash δ first gs zs i).1) z1), (key199, sob ELb 38 ((gS lhash δ first gs zs (i + 1)).2) sp201), (some b1, lO (δ)), (some b18, .cells #[.slice (ownA kk7) 176 kc8, .slice (ownA kb10) 256 cb11] 176 (0, 0)), (kb10, sob E8 5 rB spb12), (kk7, sob E8 5 rK spk9)] | [true, false], [v14, _] => ∃ (b210 : Nat), v14 = .slice (ownA (some b210)) 1 1 ∧ Sl ELb (some b210) ([lx (lx (lhash la sv) (lw (col la) tx)) (lx (lhash lb (sv + (1#64))) (lw (col lb) (lx ty la)))] : List LbT) 1 ([]) ∧ Hp No w w' [((some b210), sob ELb 38 ([lx (lx (lhash la sv) (lw (col la) tx)) (lx (lhash lb (sv + (1#64))) (lw (col lb) (lx ty la)))] : List LbT) ([])), ((some b194), sob ELb 38 ([tx, ty] : List LbT) ([])), (some b174, lO (ty)), (some b153, lO (tx)), (some b109, lO (lhash lb (sv + (1#64)))), (some b99, lO (lhash la sv)), (some b70, lO (lb)), (some b42, lO (la)), (k1, sob ELb 38 ((gS lhash δ first gs zs i).1) z1), (key199, sob ELb 38 ((gS lhash δ first gs zs (i + 1)).2) sp201), (some b1, lO (δ)), (some b18, .cells #[.slice (ownA kk7) 176 kc8, .slice (ownA kb10) 256 cb11] 176 (0, 0)), (kb10, sob E8 5 rB spb12), (kk7, sob E8 5 rK spk9)] | [true, true], [v14, v15] => ∃ (b210 : Nat) (key216 : Option Nat) (c217 : Nat) (sp218 : List Value), v14 = .slice (ownA (some b210)) 1 1 ∧ v15 = .slice (ownA key216) ((zs.length + i) + 1) c217 ∧ Sl ELb (some b210) ([lx (lx (lhash la sv) (lw (col la) tx)) (lx (lhash lb (sv + (1#64))) (lw (col lb) (lx ty la)))] : List LbT) 1 ([]) ∧ Sl ELb key216 ((gS lhash δ first gs zs (i + 1)).1) c217 sp218 ∧ Hp No w w' [((some b210), sob ELb 38 ([lx (lx (lhash la sv) (lw (col la) tx)) (lx (lhash lb (sv + (1#64))) (lw (col lb) (lx ty la)))] : List LbT) ([])), ((some b194), sob ELb 38 ([tx, ty] : List LbT) ([])), (some b174, lO (ty)), (some b153, lO (tx)), (some b109, lO (lhash lb (sv + (1#64)))), (some b99, lO (lhash la sv)), (some b70, lO (lb)), (some b42, lO (la)), (key216, sob ELb 38 ((gS lhash δ first gs zs (i + 1)).1) sp218), (key199, sob ELb 38 ((gS lhash δ first gs zs (i + 1)).2) sp201), (some b1, lO (δ)), (some b18, .cells #[.slice (ownA kk7) 176 kc8, .slice (ownA kb10) 256 cb11] 176 (0, 0)), (kb10, sob E8 5 rB spb12), (kk7, sob E8 5 rK spk9)] | _, _ => False) mixed (by kernel_rfl) (by kernel_rfl) H208.drew ?_
    refine WalkE.look rfl (fun _ => .slice (ownA k1) (zs.length + i) c1) (fun _ _ _ => rfl) (fun L r _ uw _ _ _ _ => Gives.run rfl (r_move (v := .slice (ownA k1) (zs.length + i) c1) rfl) ⟨rfl, rfl⟩) ?_
    refine WalkE.look rfl (fun _ => lV (lhash la sv)) (fun _ _ _ => rfl) (fun L r uw0 uw hAn hDn hF hEx => ?_) ?_
    ·skip
     have b14 := hDn 14 (by decide) rfl
     have b15 := hDn 15 (by decide) rfl
     have hb := mp2 b14 b15
     rw [hb] at hF
     have HH := hF
     replace HH := HH.ext hEx
     exact Gives.run rfl (r_loadA (cs' := (cel E64 ([(lhash la sv).1, (lhash la sv).2])).toArray) agg38 siz38 (HH.get (k := 4) rfl) (off := 0) rfl (by exact bLe rfl) (by exact ext_all rfl)) ⟨rfl, rfl⟩
    refine WalkE.look rfl (fun _ => lV (la)) (fun _ _ _ => rfl) (fun L r uw0 uw hAn hDn hF hEx => ?_) ?_
    ·skip
     have b14 := hDn 14 (by decide) rfl
     have b15 := hDn 15 (by decide) rfl
     have hb := mp2 b14 b15
     rw [hb] at hF
     have HH := hF
     replace HH := HH.ext hEx
     exact Gives.run rfl (r_loadA (cs' := (cel E64 ([(la).1, (la).2])).toArray) agg38 siz38 (HH.get (k := 6) rfl) (off := 0) rfl (by exact bLe rfl) (by exact ext_all rfl)) ⟨rfl, rfl⟩
    refine WalkE.call rfl (fun _ => u64 (la.1 % 2#64)) (fun _ _ _ => rfl) (fun L r uw0 uw hAn hDn hF hEx => ?_) ?_
    ·skip
     have b14 := hDn 14 (by decide) rfl
     have b15 := hDn 15 (by decide) rfl
     have hb := mp2 b14 b15
     rw [hb] at hF
     have HH := hF
     replace HH := HH.ext hEx
     exact Gives.call rfl (Enters.callL (vs := [lV (la)]) call91 rfl) (rcolour_ok la uw)
    refine WalkE.look rfl (fun _ => lV (tx)) (fun _ _ _ => rfl) (fun L r uw0 uw hAn hDn hF hEx => ?_) ?_
    ·skip
     have b14 := hDn 14 (by decide) rfl
     have b15 := hDn 15 (by decide) rfl
     have hb := mp2 b14 b15
     rw [hb] at hF
     have HH := hF
     replace HH := HH.ext hEx
     exact Gives.run rfl (r_loadA (cs' := (cel E64 ([(tx).1, (tx).2])).toArray) agg38 siz38 (HH.get (k := 2) rfl) (off := 0) rfl (by exact bLe rfl) (by exact ext_all rfl)) ⟨rfl, rfl⟩
    refine WalkE.call rfl (fun _ => .agg (cel E64 [(lx (lhash la sv) (lw (col la) tx)).1, (lx (lhash la sv) (lw (col la) tx)).2]).toArray) (fun _ _ _ => rfl) (fun L r uw0 uw hAn hDn hF hEx => ?_) ?_
    ·skip
     have b14 := hDn 14 (by decide) rfl
     have b15 := hDn 15 (by decide) rfl
     have hb := mp2 b14 b15
     rw [hb] at hF
     have HH := hF
     replace HH := HH.ext hEx
     exact Gives.call rfl (Enters.callL (vs := [lV (lhash la sv), u64 (la.1 % 2#64), lV (tx)]) call94 rfl) (plus_ok (lhash la sv) tx la (la.1 % 2#64) rfl uw)
    refine WalkE.look rfl (fun _ => lV (lhash lb (sv + (1#64)))) (fun _ _ _ => rfl) (fun L r uw0 uw hAn hDn hF hEx => ?_) ?_
    ·skip
     have b14 := hDn 14 (by decide) rfl
     have b15 := hDn 15 (by decide) rfl
     have hb := mp2 b14 b15
     rw [hb] at hF
     have HH := hF
     replace HH := HH.ext hEx
     exact Gives.run rfl (r_loadA (cs' := (cel E64 ([(lhash lb (sv + (1#64))).1, (lhash lb (sv + (1#64))).2])).toArray) agg38 siz38 (HH.get (k := 3) rfl) (off := 0) rfl (by exact bLe rfl) (by exact ext_all rfl)) ⟨rfl, rfl⟩
    refine WalkE.look rfl (fun _ => lV (lb)) (fun _ _ _ => rfl) (fun L r uw0 uw hAn hDn hF hEx => ?_) ?_
    ·skip
     have b14 := hDn 14 (by decide) rfl
     have b15 := hDn 15 (by decide) rfl
     have hb := mp2 b14 b15
     rw [hb] at hF
     have HH := hF
     replace HH := HH.ext hEx
     exact Gives.run rfl (r_loadA (cs' := (cel E64 ([(lb).1, (lb).2])).toArray) agg38 siz38 (HH.get (k := 5) rfl) (off := 0) rfl (by exact bLe rfl) (by exact ext_all rfl)) ⟨rfl, rfl⟩
    refine WalkE.call rfl (fun _ => u64 (lb.1 % 2#64)) (fun _ _ _ => rfl) (fun L r uw0 uw hAn hDn hF hEx => ?_) ?_
    ·skip
     have b14 := hDn 14 (by decide) rfl
     have b15 := hDn 15 (by decide) rfl
     have hb := mp2 b14 b15
     rw [hb] at hF
     have HH := hF
     replace HH := HH.ext hEx
     exact Gives.call rfl (Enters.callL (vs := [lV (lb)]) call91 rfl) (rcolour_ok lb uw)
    refine WalkE.look rfl (fun _ => lV (ty)) (fun _ _ _ => rfl) (fun L r uw0 uw hAn hDn hF hEx => ?_) ?_
    ·skip
     have b14 := hDn 14 (by decide) rfl
     have b15 := hDn 15 (by decide) rfl
     have hb := mp2 b14 b15
     rw [hb] at hF
     have HH := hF
     replace HH := HH.ext hEx
     exact Gives.run rfl (r_loadA (cs' := (cel E64 ([(ty).1, (ty).2])).toArray) agg38 siz38 (HH.get (k := 1) rfl) (off := 0) rfl (by exact bLe rfl) (by exact ext_all rfl)) ⟨rfl, rfl⟩
    refine WalkE.look rfl (fun _ => lV (la)) (fun _ _ _ => rfl) (fun L r uw0 uw hAn hDn hF hEx => ?_) ?_
    ·skip
     have b14 := hDn 14 (by decide) rfl
     have b15 := hDn 15 (by decide) rfl
     have hb := mp2 b14 b15
     rw [hb] at hF
     have HH := hF
     replace HH := HH.ext hEx
     exact Gives.run rfl (r_loadA (cs' := (cel E64 ([(la).1, (la).2])).toArray) agg38 siz38 (HH.get (k := 6) rfl) (off := 0) rfl (by exact bLe rfl) (by exact ext_all rfl)) ⟨rfl, rfl⟩
    refine WalkE.call rfl (fun _ => .agg (cel E64 [(lx ty la).1, (lx ty la).2]).toArray) (fun _ _ _ => rfl) (fun L r uw0 uw hAn hDn hF hEx => ?_) ?_
    ·skip
     have b14 := hDn 14 (by decide) rfl
     have b15 := hDn 15 (by decide) rfl
     have hb := mp2 b14 b15
     rw [hb] at hF
     have HH := hF
     replace HH := HH.ext hEx
     exact Gives.call rfl (Enters.callL (vs := [lV (ty), lV (la)]) call50 rfl) (rlx_ok ty la uw)
    refine WalkE.call rfl (fun _ => .agg (cel E64 [(lx (lhash lb (sv + (1#64))) (lw (col lb) (lx ty la))).1, (lx (lhash lb (sv + (1#64))) (lw (col lb) (lx ty la))).2]).toArray) (fun _ _ _ => rfl) (fun L r uw0 uw hAn hDn hF hEx => ?_) ?_
    ·skip
     have b14 := hDn 14 (by decide) rfl
     have b15 := hDn 15 (by decide) rfl
     have hb := mp2 b14 b15
     rw [hb] at hF
     have HH := hF
     replace HH := HH.ext hEx
     exact Gives.call rfl (Enters.callL (vs := [lV (lhash lb (sv + (1#64))), u64 (lb.1 % 2#64), .agg (cel E64 [(lx ty la).1, (lx ty la).2]).toArray]) call94 rfl) (plus_ok (lhash lb (sv + (1#64))) (lx ty la) lb (lb.1 % 2#64) rfl uw)
    refine WalkE.call rfl (fun _ => .agg (cel E64 [(lx (lx (lhash la sv) (lw (col la) tx)) (lx (lhash lb (sv + (1#64))) (lw (col lb) (lx ty la)))).1, (lx (lx (lhash la sv) (lw (col la) tx)) (lx (lhash lb (sv + (1#64))) (lw (col lb) (lx ty la)))).2]).toArray) (fun _ _ _ => rfl) (fun L r uw0 uw hAn hDn hF hEx => ?_) ?_
    ·skip
     have b14 := hDn 14 (by decide) rfl
     have b15 := hDn 15 (by decide) rfl
     have hb := mp2 b14 b15
     rw [hb] at hF
     have HH := hF
     replace HH := HH.ext hEx
     exact Gives.call rfl (Enters.callL (vs := [.agg (cel E64 [(lx (lhash la sv) (lw (col la) tx)).1, (lx (lhash la sv) (lw (col la) tx)).2]).toArray, .agg (cel E64 [(lx (lhash lb (sv + (1#64))) (lw (col lb) (lx ty la))).1, (lx (lhash lb (sv + (1#64))) (lw (col lb) (lx ty la))).2]).toArray]) call50 rfl) (rlx_ok (lx (lhash la sv) (lw (col la) tx)) (lx (lhash lb (sv + (1#64))) (lw (col lb) (lx ty la))) uw)
    refine WalkE.eff 0 rfl (fun L r uw0 uw hLn hAn hDn hF hEx => ?_) ?_
    ·skip
     have b14 : L 14 = false := hLn
     have b15 := hDn 15 (by decide) rfl
     have hb := mp2 b14 b15
     rw [hb] at hF ⊢
     have H226 := hF
     replace H226 := H226.ext hEx
     dsimp only
     refine Gives.ofW (d := 129) rfl rfl (fun Q' hK => ?_)
     refine q_buildSlice (E := ELb) (l := ([lx (lx (lhash la sv) (lw (col la) tx)) (lx (lhash lb (sv + (1#64))) (lw (col lb) (lx ty la)))] : List LbT)) H226 sli92 zer38 (bLe rfl) (ps := [(0, .agg (cel E64 [(lx (lx (lhash la sv) (lw (col la) tx)) (lx (lhash lb (sv + (1#64))) (lw (col lb) (lx ty la)))).1, (lx (lx (lhash la sv) (lw (col la) tx)) (lx (lhash lb (sv + (1#64))) (lw (col lb) (lx ty la)))).2]).toArray)]) rfl (by exact fillAll rfl rfl) rfl ?_
     intro b227 w229 hS228 H230 hE231
     exact hK _ _ (show ∃ (b210 : Nat), (_ : Value) = .slice (ownA (some b210)) 1 1 ∧ Sl ELb (some b210) ([lx (lx (lhash la sv) (lw (col la) tx)) (lx (lhash lb (sv + (1#64))) (lw (col lb) (lx ty la)))] : List LbT) 1 ([]) ∧ Hp No w w229 [((some b210), sob ELb 38 ([lx (lx (lhash la sv) (lw (col la) tx)) (lx (lhash lb (sv + (1#64))) (lw (col lb) (lx ty la)))] : List LbT) ([])), ((some b194), sob ELb 38 ([tx, ty] : List LbT) ([])), (some b174, lO (ty)), (some b153, lO (tx)), (some b109, lO (lhash lb (sv + (1#64)))), (some b99, lO (lhash la sv)), (some b70, lO (lb)), (some b42, lO (la)), (k1, sob ELb 38 ((gS lhash δ first gs zs i).1) z1), (key199, sob ELb 38 ((gS lhash δ first gs zs (i + 1)).2) sp201), (some b1, lO (δ)), (some b18, .cells #[.slice (ownA kk7) 176 kc8, .slice (ownA kb10) 256 cb11] 176 (0, 0)), (kb10, sob E8 5 rB spb12), (kk7, sob E8 5 rK spk9)] from ⟨b227, rfl, hS228, ((((((((((((((H230.pull (k := 13) rfl).pull (k := 13) rfl).pull (k := 13) rfl).pull (k := 13) rfl).pull (k := 13) rfl).pull (k := 13) rfl).pull (k := 13) rfl).pull (k := 13) rfl).pull (k := 13) rfl).pull (k := 13) rfl).pull (k := 13) rfl).pull (k := 13) rfl).pull (k := 13) rfl).pull (k := 13) rfl)⟩)
    refine WalkE.eff 1 rfl (fun L r uw0 uw hLn hAn hDn hF hEx => ?_) ?_
    ·skip
     have b14 := hAn 14 (by decide) rfl
     have b15 : L 15 = false := hLn
     have hb := mp2 b14 b15
     rw [hb] at hF ⊢
     obtain ⟨b210, e14, hS211, H232⟩ := hF
     replace H232 := H232.ext hEx
     dsimp only
     rw [e14]
     refine Gives.ofW (d := 130) rfl rfl (fun Q' hK => ?_)
     refine q_append (E := ELb) (k := 8) (l := (gS lhash δ first gs zs i).1) (l2 := ([lx (lx (lhash la sv) (lw (col la) tx)) (lx (lhash lb (sv + (1#64))) (lw (col lb) (lx ty la)))] : List LbT)) H232 rfl h1 sli92 zer38 rfl byt38 (H232.rd (k := 0) rfl hS211) rfl (by rw [gS_len]) rfl (by rfl) (by omega) ?_
     intro key233 c234 sp235 w237 hS236 hne239 H238
     have H238' := H238.as (L' := [((some b210), sob ELb 38 ([lx (lx (lhash la sv) (lw (col la) tx)) (lx (lhash lb (sv + (1#64))) (lw (col lb) (lx ty la)))] : List LbT) ([])), ((some b194), sob ELb 38 ([tx, ty] : List LbT) ([])), (some b174, lO (ty)), (some b153, lO (tx)), (some b109, lO (lhash lb (sv + (1#64)))), (some b99, lO (lhash la sv)), (some b70, lO (lb)), (some b42, lO (la)), (key233, sob ELb 38 (((gS lhash δ first gs zs i).1) ++ ([lx (lx (lhash la sv) (lw (col la) tx)) (lx (lhash lb (sv + (1#64))) (lw (col lb) (lx ty la)))] : List LbT)) sp235), (key199, sob ELb 38 ((gS lhash δ first gs zs (i + 1)).2) sp201), (some b1, lO (δ)), (some b18, .cells #[.slice (ownA kk7) 176 kc8, .slice (ownA kb10) 256 cb11] 176 (0, 0)), (kb10, sob E8 5 rB spb12), (kk7, sob E8 5 rK spk9)]) rfl
     clear H238
     have e240 : ((gS lhash δ first gs zs i).1) ++ ([lx (lx (lhash la sv) (lw (col la) tx)) (lx (lhash lb (sv + (1#64))) (lw (col lb) (lx ty la)))] : List LbT) = (gS lhash δ first gs zs (i + 1)).1 := by rw [gS, gstep, if_neg hn3, if_neg hn1, outG_doc, htx, hty, hsv, hla, hlb]
     have hS241 := hS236
     rw [e240] at hS241
     have H242 := H238'.as (L' := [((some b210), sob ELb 38 ([lx (lx (lhash la sv) (lw (col la) tx)) (lx (lhash lb (sv + (1#64))) (lw (col lb) (lx ty la)))] : List LbT) ([])), ((some b194), sob ELb 38 ([tx, ty] : List LbT) ([])), (some b174, lO (ty)), (some b153, lO (tx)), (some b109, lO (lhash lb (sv + (1#64)))), (some b99, lO (lhash la sv)), (some b70, lO (lb)), (some b42, lO (la)), (key233, sob ELb 38 ((gS lhash δ first gs zs (i + 1)).1) sp235), (key199, sob ELb 38 ((gS lhash δ first gs zs (i + 1)).2) sp201), (some b1, lO (δ)), (some b18, .cells #[.slice (ownA kk7) 176 kc8, .slice (ownA kb10) 256 cb11] 176 (0, 0)), (kb10, sob E8 5 rB spb12), (kk7, sob E8 5 rK spk9)]) (by rw [e240])
     exact hK _ _ (show ∃ (b210 : Nat) (key216 : Option Nat) (c217 : Nat) (sp218 : List Value), r 14 = .slice (ownA (some b210)) 1 1 ∧ (_ : Value) = .slice (ownA key216) ((zs.length + i) + 1) c217 ∧ Sl ELb (some b210) ([lx (lx (lhash la sv) (lw (col la) tx)) (lx (lhash lb (sv + (1#64))) (lw (col lb) (lx ty la)))] : List LbT) 1 ([]) ∧ Sl ELb key216 ((gS lhash δ first gs zs (i + 1)).1) c217 sp218 ∧ Hp No w w237 [((some b210), sob ELb 38 ([lx (lx (lhash la sv) (lw (col la) tx)) (lx (lhash lb (sv + (1#64))) (lw (col lb) (lx ty la)))] : List LbT) ([])), ((some b194), sob ELb 38 ([tx, ty] : List LbT) ([])), (some b174, lO (ty)), (some b153, lO (tx)), (some b109, lO (lhash lb (sv + (1#64)))), (some b99, lO (lhash la sv)), (some b70, lO (lb)), (some b42, lO (la)), (key216, sob ELb 38 ((gS lhash δ first gs zs (i + 1)).1) sp218), (key199, sob ELb 38 ((gS lhash δ first gs zs (i + 1)).2) sp201), (some b1, lO (δ)), (some b18, .cells #[.slice (ownA kk7) 176 kc8, .slice (ownA kb10) 256 cb11] 176 (0, 0)), (kb10, sob E8 5 rB spb12), (kk7, sob E8 5 rK spk9)] from ⟨b210, key233, c234, sp235, e14, rfl, hS211, hS241, ((((((((((((((H242.pull (k := 13) rfl).pull (k := 13) rfl).pull (k := 13) rfl).pull (k := 13) rfl).pull (k := 13) rfl).pull (k := 13) rfl).pull (k := 13) rfl).pull (k := 13) rfl).pull (k := 13) rfl).pull (k := 13) rfl).pull (k := 13) rfl).pull (k := 13) rfl).pull (k := 13) rfl).pull (k := 13) rfl)⟩)
    refine WalkE.look rfl (fun r => r 15) (fun r r' h => h 15 (by decide) rfl) (fun L r _ uw _ _ _ _ => Gives.run rfl (r_assign rfl) ⟨rfl, rfl⟩) ?_
    refine WalkE.nil ?_
    intro r243 uw0 w244 hF hEx
    obtain ⟨b210, key216, c217, sp218, e14, e15, hS211, hS224, H245⟩ := hF
    replace H245 := H245.ext hEx
    dsimp only
    rw [e14, e15]
    refine wnil ?_
    refine blockNormal ?_
    refine thenNormal ?_
    refine oneRegion ?_
    refine sM (i64 (i : Nat)) rfl ?_
    refine sq (r_addI (a := (i : Nat)) (b := (1 : Int)) rfl rfl (by omega)) ?_
    refine sA (i64 ((i : Nat) + (1 : Int))) rfl ?_
    refine wnil ?_
    refine thenNormal ?_
    exact ⟨(i + 1, key216, c217, sp218, key199, c200, sp201, (gS lhash δ first gs zs i).2.length + 2), _, rfl, ⟨rfl, rfl, rfl, rfl, rfl, rfl, congrArg u64 (by rw [andsS, if_pos hk2]), rfl, trivial⟩, ⟨⟨by omega, hS224, hS207, by rw [gS, gstep, if_neg hn3, if_neg hn1, List.length_append]; rfl⟩, ((((((((H245.dropk 7).dropk 6).dropk 5).dropk 4).dropk 3).dropk 2).dropk 1).dropk 0)⟩, by show gs.length - (i + 1) < gs.length - i; omega⟩
 ·skip
  have hie : i = gs.length := by omega
  rw [hie] at HL h1 h2
  rw [hie]
  refine exitAny ?_
  refine thenExit ?_
  refine thenExit ?_
  refine blockHere ?_
  refine thenNormal ?_
  refine sR ?_
  refine sM (.slice (ownA k2) ((gS lhash δ first gs zs gs.length).2.length) c2) rfl ?_
  refine sM (.slice (ownA k1) (zs.length + gs.length) c1) rfl ?_
  refine sA (.slice (ownA k2) ((gS lhash δ first gs zs gs.length).2.length) c2) rfl ?_
  refine sA (.slice (ownA k1) (zs.length + gs.length) c1) rfl ?_
  refine wend ?_
  refine retAny ?_
  refine retG (rs := [.tmp 8, .tmp 9]) (vs := [.slice (ownA k2) ((gS lhash δ first gs zs gs.length).2.length) c2, .slice (ownA k1) (zs.length + gs.length) c1]) rfl ⟨⟨rfl, rfl⟩, ⟨rfl, rfl⟩, trivial⟩ ?_
  exact ⟨_, rfl, k2, c2, z2, k1, c1, z1, by rw [gS_len]; rfl, h2, h1, (HL.pick 6 [1, 0] (by decide) (by decide))⟩
end Go.Proofs.YteofdmdpaejgaaaDoor.Gb
