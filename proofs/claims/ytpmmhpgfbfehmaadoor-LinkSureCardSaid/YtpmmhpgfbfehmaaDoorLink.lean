/- The walks of the links. -/
import Derived.Test.YtpmmhpgfbfehmaaDoorFault
import Derived.Test.YtpmmhpgfbfehmaaDoorFaultC
import Derived.Test.YtpmmhpgfbfehmaaDoorLinkEnd
import Derived.Test.YtpmmhpgfbfehmaaDoorVcChain
import Derived.Test.YtpmmhpgfbfehmaaDoorVcAppN
import Derived.Test.YtpmmhpgfbfehmaaDoorVcCopy
import Derived.Test.YtpmmhpgfbfehmaaDoorVcOpenS
import Derived.Test.YtpmmhpgfbfehmaaDoorProg
namespace Go.Proofs.YtpmmhpgfbfehmaaDoor.Lk
open Go Go.Proofs.YtpmmhpgfbfehmaaDoor.Vc Go.Proofs.YtpmmhpgfbfehmaaDoor.Er
set_option linter.unusedVariables false
theorem byt5 : byt Tryd.prog 5 = some 1 := by kernel_rfl
theorem call35 : callable Tryd.prog 35 = true := by kernel_rfl
theorem call42 : callable Tryd.prog 42 = true := by kernel_rfl
theorem call43 : callable Tryd.prog 43 = true := by kernel_rfl
theorem call44 : callable Tryd.prog 44 = true := by kernel_rfl
theorem call45 : callable Tryd.prog 45 = true := by kernel_rfl
theorem call53 : callable Tryd.prog 53 = true := by kernel_rfl
theorem fits30 : Fits Tryd.prog 30 ES := fitsS (by kernel_rfl) (by kernel_rfl)
theorem fits5 : Fits Tryd.prog 5 E8 := fits8 (by kernel_rfl) (by kernel_rfl)
theorem mixed : Tryd.prog.follows .mixedOrders = true := by kernel_rfl
theorem sli22 : sli Tryd.prog 22 = some (30, 1) := by kernel_rfl
theorem sli30 : sli Tryd.prog 30 = some (5, 1) := by kernel_rfl
theorem und3 : Tryd.prog.underlying 3 = some (.int .i64) := by kernel_rfl
theorem und30 : Tryd.prog.underlying 30 = some (.slice 5) := by kernel_rfl
theorem und5 : Tryd.prog.underlying 5 = some (.int .u8) := by kernel_rfl
theorem und53 : Tryd.prog.underlying 53 = some (.int .u32) := by kernel_rfl
theorem zer30 : zer Tryd.prog 30 = some (.slice none 0 0) := by kernel_rfl
theorem zer5 : zer Tryd.prog 5 = some (.int .u8 0) := by kernel_rfl
theorem clone8_ok (bs : List (BitVec 8)) (hroom : bs.length ≤ 140737488355328) (a0 : Option Addr) (n0 c0 : Nat) (hn0 : n0 = bs.length) (w : World) (hW : Rd E8 w a0 bs) : Calls Tryd.prog 35 [.slice a0 n0 c0].toArray w (Ret fun v w' => SlRes E8 5 bs w v w' ∧ Ext w w') := by
  subst hn0
  have H := Hp.start No w
  refine enter (n := 8) Tryd.func35 rfl rfl (Nat.le_of_ble_eq_true rfl) ?_
  refine seqRegion ?_
  refine sq (r_assign (v := .slice none 0 0) rfl) ?_
  refine wend ?_
  refine seqAny ?_
  refine seqRegion ?_
  refine sq (r_move (v := .slice a0 bs.length c0) rfl) ?_
  refine sq (r_eqlSN und30 rfl rfl) ?_
  refine wend ?_
  refine condBool (a0.isNone) rfl (fun c4 => ?_) (fun c4 => ?_)
  · skip
    refine seqRegion ?_
    refine sq (r_assign (v := .slice none 0 0) rfl) ?_
    refine wend ?_
    refine retAny ?_
    refine thenRet ?_
    refine retG (rs := [.tmp 2]) (vs := [.slice none 0 0]) rfl ⟨⟨rfl, rfl⟩, trivial⟩ ?_
    obtain rfl := nilOfRd hW c4
    exact ⟨_, rfl, ⟨none, 0, [], rfl, Sl.none, fun _ h => by cases h⟩, H.chg⟩
  · skip
    refine skipAny ?_
    refine thenNormal ?_
    refine seqRegion ?_
    refine q_buildSlice (E := E8) (l := []) H sli30 zer5 (Nat.le_of_ble_eq_true rfl) (ps := []) rfl (by exact fillAll rfl rfl) rfl ?_
    intro b1 w3 hS2 H4 hE5
    refine sq (r_move (v := .slice a0 bs.length c0) rfl) ?_
    refine q_append (E := E8) (k := 0) (l := []) (l2 := bs) H4 rfl hS2 sli30 zer5 rfl byt5 (hW.ext H4.chg) rfl (by rfl) rfl (by rfl) (by omega) ?_
    intro key6 c7 sp8 w10 hS9 hne12 H11
    have H11' := H11.as (L' := [(key6, sob E8 5 (([]) ++ bs) sp8)]) rfl
    clear H11
    have e13 : ([]) ++ bs = bs := by rw [List.nil_append]
    have hS14 := hS9
    rw [e13] at hS14
    have H15 := H11'.as (L' := [(key6, sob E8 5 bs sp8)]) (by rw [e13])
    refine sq (r_assign (v := .slice (ownA key6) (0 + bs.length) c7) rfl) ?_
    refine wend ?_
    refine retAny ?_
    refine retG (rs := [.tmp 2]) (vs := [.slice (ownA key6) (0 + bs.length) c7]) rfl ⟨⟨rfl, rfl⟩, trivial⟩ ?_
    exact ⟨_, rfl, H15.resN (k := 0) rfl hS14 (Nat.zero_add _), H15.chg⟩

theorem sum_ok (bs : List (BitVec 8)) (hb : bs.length ≤ 140737488355328) (a0 : Option Addr) (n0 c0 : Nat) (hn0 : n0 = bs.length) (w : World) (hW : Rd E8 w a0 bs) : Calls Tryd.prog 43 [.slice a0 n0 c0].toArray w (Ret fun v w' => v = u32 (crc bs) ∧ Ext w w') := by
  subst hn0
  have H := Hp.start No w
  refine enter (n := 28) Tryd.func43 rfl rfl (Nat.le_of_ble_eq_true rfl) ?_
  refine seqRegion ?_
  refine sq (r_assign (v := u32 (0#32)) rfl) ?_
  refine wend ?_
  refine seqRegion ?_
  refine sq (r_assign (v := u32 (4294967295#32)) rfl) ?_
  refine wend ?_
  refine seqAny ?_
  refine seqRegion ?_
  refine sq (r_move (v := .slice a0 bs.length c0) rfl) ?_
  refine sq (r_lenS sli30 (a := a0) (m := bs.length) (c := c0) rfl) ?_
  refine sq (r_move (v := i64 ((0 : Int))) rfl) ?_
  refine wend ?_
  refine blockAny ?_
  refine loopAny (σ := Nat) (fun q => [(3, u32 (crcF (bs.take q))), (6, .slice a0 bs.length c0), (7, i64 ((bs.length : Nat))), (8, i64 ((q : Nat)))]) (fun q w' => q ≤ bs.length ∧ Hp No w w' []) (fun q => bs.length - q) (0) ?_ ?_ ?_
  · exact ⟨rfl, rfl, rfl, rfl, trivial⟩
  · exact ⟨Nat.zero_le _, H⟩
  rintro q ρ w1 ⟨hq, HL⟩
  refine seqRegion ?_
  refine sq (r_lssI (a := (q : Nat)) (b := (bs.length : Nat)) rfl rfl) ?_
  refine wend ?_
  refine seqAny ?_
  refine condProp (((q : Nat) : Int) < (bs.length : Nat)) rfl (fun c9 => ?_) (fun c9 => ?_)
  · skip
    refine skipAny ?_
    refine thenNormal ?_
    refine seqAny ?_
    refine blockAny ?_
    refine seqRegion ?_
    refine sq (r_idxS (E := E8) (l := bs) (j := q) sli30 (hW.ext HL.chg) rfl rfl (by first | rfl | omega | (simp; omega)) (by rfl) (by omega)) ?_
    refine sq (r_ldS (E := E8) (l := bs) (j := q) (v := (bs).getD q 0#8) fits5 (hW.ext HL.chg) rfl rfl (at_getD (by omega))) ?_
    refine sq (r_assign (v := u8 ((bs).getD q 0#8)) rfl) ?_
    refine wend ?_
    refine seqRegion ?_
    refine sq (r_move (v := u32 (crcF (bs.take q))) rfl) ?_
    refine sq (r_move (v := u8 ((bs).getD q 0#8)) rfl) ?_
    refine sq (r_8to32 und5 und53 (a := (bs).getD q 0#8) rfl) ?_
    refine sq (r_xor32 (a := crcF (bs.take q)) (b := ((bs).getD q 0#8).setWidth 32) rfl rfl) ?_
    refine sq (r_assign (v := u32 ((crcF (bs.take q)) ^^^ (((bs).getD q 0#8).setWidth 32))) rfl) ?_
    refine wend ?_
    refine seqRegion ?_
    refine sq (r_move (v := i64 ((0 : Int))) rfl) ?_
    refine wend ?_
    refine blockAny ?_
    refine loopAny (σ := Nat) (fun k => [(3, u32 (crcN k (crcF (bs.take q) ^^^ (bs.getD q 0#8).setWidth 32))), (6, .slice a0 bs.length c0), (7, i64 ((bs.length : Nat))), (8, i64 ((q : Nat))), (16, i64 ((k : Nat)))]) (fun k w' => k ≤ 8 ∧ Hp No w w' []) (fun k => 8 - k) (0) ?_ ?_ ?_
    · exact ⟨rfl, rfl, rfl, rfl, rfl, trivial⟩
    · exact ⟨Nat.zero_le _, HL⟩
    rintro k ρ w3 ⟨hk, HL2⟩
    refine seqRegion ?_
    refine sq (r_lssI (a := (k : Nat)) (b := (8 : Int)) rfl rfl) ?_
    refine wend ?_
    refine seqAny ?_
    refine condProp (((k : Nat) : Int) < (8 : Int)) rfl (fun c17 => ?_) (fun c17 => ?_)
    · skip
      refine skipAny ?_
      refine thenNormal ?_
      refine seqAny ?_
      refine blockAny ?_
      refine oneRegion ?_
      refine sq (r_move (v := u32 (crcN k (crcF (bs.take q) ^^^ (bs.getD q 0#8).setWidth 32))) rfl) ?_
      refine sq (r_shr32 (a := crcN k (crcF (bs.take q) ^^^ (bs.getD q 0#8).setWidth 32)) (c := 1) rfl rfl) ?_
      refine sq (r_move (v := u32 (crcN k (crcF (bs.take q) ^^^ (bs.getD q 0#8).setWidth 32))) rfl) ?_
      refine sq (r_and32 (a := crcN k (crcF (bs.take q) ^^^ (bs.getD q 0#8).setWidth 32)) (b := 1#32) rfl rfl) ?_
      refine sq (r_mul32 (a := 3988292384#32) (b := (crcN k (crcF (bs.take q) ^^^ (bs.getD q 0#8).setWidth 32)) &&& (1#32)) rfl rfl) ?_
      refine sq (r_xor32 (a := (crcN k (crcF (bs.take q) ^^^ (bs.getD q 0#8).setWidth 32)) >>> (1 : Nat)) (b := (3988292384#32) * ((crcN k (crcF (bs.take q) ^^^ (bs.getD q 0#8).setWidth 32)) &&& (1#32))) rfl rfl) ?_
      refine sq (r_assign (v := u32 (((crcN k (crcF (bs.take q) ^^^ (bs.getD q 0#8).setWidth 32)) >>> (1 : Nat)) ^^^ ((3988292384#32) * ((crcN k (crcF (bs.take q) ^^^ (bs.getD q 0#8).setWidth 32)) &&& (1#32))))) rfl) ?_
      refine wnil ?_
      refine blockNormal ?_
      refine thenNormal ?_
      refine oneRegion ?_
      refine sq (r_addI (a := (k : Nat)) (b := (1 : Int)) rfl rfl (by omega)) ?_
      refine sq (r_move (v := i64 ((k : Nat) + (1 : Int))) rfl) ?_
      refine wnil ?_
      refine thenNormal ?_
      exact ⟨k + 1, _, rfl, ⟨rfl, rfl, rfl, rfl, rfl, trivial⟩, ⟨by omega, HL2⟩, by show 8 - (k + 1) < 8 - k; omega⟩
    · skip
      obtain rfl : k = 8 := by omega
      refine exitAny ?_
      refine thenExit ?_
      refine thenExit ?_
      refine blockHere ?_
      refine blockNormal ?_
      refine thenNormal ?_
      refine oneRegion ?_
      refine sq (r_addI (a := (q : Nat)) (b := (1 : Int)) rfl rfl (by omega)) ?_
      refine sq (r_move (v := i64 ((q : Nat) + (1 : Int))) rfl) ?_
      refine wnil ?_
      refine thenNormal ?_
      exact ⟨q + 1, _, rfl, ⟨congrArg u32 (crcF_take (by omega)).symm, rfl, rfl, rfl, trivial⟩, ⟨by omega, HL2⟩, by show bs.length - (q + 1) < bs.length - q; omega⟩
  · skip
    obtain rfl : q = bs.length := by omega
    refine exitAny ?_
    refine thenExit ?_
    refine thenExit ?_
    refine blockHere ?_
    refine thenNormal ?_
    refine seqRegion ?_
    refine sq (r_move (v := u32 (crcF (bs.take bs.length))) rfl) ?_
    refine sq (r_com32 (a := crcF (bs.take bs.length)) rfl) ?_
    refine sq (r_assign (v := u32 (4294967295#32 ^^^ (crcF (bs.take bs.length)))) rfl) ?_
    refine wend ?_
    refine retAny ?_
    refine retG (rs := [.tmp 2]) (vs := [u32 (4294967295#32 ^^^ (crcF (bs.take bs.length)))]) rfl ⟨⟨rfl, rfl⟩, trivial⟩ ?_
    rw [crcF_all]
    exact ⟨_, rfl, rfl, HL.chg⟩

theorem four_ok (n : BitVec 32) (w : World) : Calls Tryd.prog 45 [u32 (n)].toArray w (Ret fun v w' => SlRes E8 5 (four n) w v w' ∧ Ext w w') := by
  have H := Hp.start No w
  refine enter (n := 15) Tryd.func45 rfl rfl (Nat.le_of_ble_eq_true rfl) ?_
  refine seqRegion ?_
  refine sq (r_assign (v := .slice none 0 0) rfl) ?_
  refine wend ?_
  refine seqRegion ?_
  refine sq (r_move (v := u32 (n)) rfl) ?_
  refine sq (r_32to8 und53 und5 (a := n) rfl) ?_
  refine sq (r_move (v := u32 (n)) rfl) ?_
  refine sq (r_shr32 (a := n) (c := 8) rfl rfl) ?_
  refine sq (r_32to8 und53 und5 (a := n >>> (8 : Nat)) rfl) ?_
  refine sq (r_move (v := u32 (n)) rfl) ?_
  refine sq (r_shr32 (a := n) (c := 16) rfl rfl) ?_
  refine sq (r_32to8 und53 und5 (a := n >>> (16 : Nat)) rfl) ?_
  refine sq (r_move (v := u32 (n)) rfl) ?_
  refine sq (r_shr32 (a := n) (c := 24) rfl rfl) ?_
  refine sq (r_32to8 und53 und5 (a := n >>> (24 : Nat)) rfl) ?_
  refine q_buildSlice (E := E8) (l := [n.setWidth 8, (n >>> (8 : Nat)).setWidth 8, (n >>> (16 : Nat)).setWidth 8, (n >>> (24 : Nat)).setWidth 8]) H sli30 zer5 (Nat.le_of_ble_eq_true rfl) (ps := [(0, u8 (n.setWidth 8)), (1, u8 ((n >>> (8 : Nat)).setWidth 8)), (2, u8 ((n >>> (16 : Nat)).setWidth 8)), (3, u8 ((n >>> (24 : Nat)).setWidth 8))]) rfl (by exact fillAll rfl rfl) rfl ?_
  intro b1 w3 hS2 H4 hE5
  refine sq (r_assign (v := .slice (ownA (some b1)) 4 4) rfl) ?_
  refine wend ?_
  refine retAny ?_
  refine retG (rs := [.tmp 2]) (vs := [.slice (ownA (some b1)) 4 4]) rfl ⟨⟨rfl, rfl⟩, trivial⟩ ?_
  exact ⟨_, rfl, H4.resN (k := 0) rfl hS2 rfl, H4.chg⟩

theorem whole_ok (bs : List (BitVec 8)) (hb : 4 ≤ bs.length) (a0 : Option Addr) (n0 c0 : Nat) (hn0 : n0 = bs.length) (w : World) (hW : Rd E8 w a0 bs) : Calls Tryd.prog 42 [.slice a0 n0 c0].toArray w (Ret fun v w' => v = u32 (whole bs) ∧ Ext w w') := by
  subst hn0
  have H := Hp.start No w
  refine enter (n := 25) Tryd.func42 rfl rfl (Nat.le_of_ble_eq_true rfl) ?_
  refine seqRegion ?_
  refine sq (r_assign (v := u32 (0#32)) rfl) ?_
  refine wend ?_
  refine seqAny ?_
  refine drawAny (K := [none, none, none, none, none, none, none, none, none, none, none, none, none, none, none, none, none, none, none, none, none, none, none]) [0, 1, 3, 7, 0, 16, 48, 112, 240, 511, 0, 1024, 3072, 7168, 15360, 32767, 0, 65536, 196608, 458752, 983040, 2097151, 4194303] (fun w' => Ext w w') (fun w' w'' => Ext w' w'') mixed (by kernel_rfl) (Ext.drew _) (fun _ _ h h' => h.trans h') ?_ ?_
  · exact relNone (by decide)
  refine ⟨.slice a0 bs.length c0, fun _ uw1 hC2 _ => Gives.run rfl (r_move (v := .slice a0 bs.length c0) rfl) ⟨rfl, Chg.refl _ _⟩, ?_⟩
  refine ⟨.pointer (adr a0 (0 * 1)), fun _ uw3 hC4 _ => Gives.run rfl (r_idxS (E := E8) (l := bs) (j := 0) sli30 (hW.ext (H.ext hC4).chg) rfl rfl (by first | rfl | omega | (simp; omega)) (by rfl) (by omega)) ⟨rfl, Chg.refl _ _⟩, ?_⟩
  refine ⟨u8 ((bs).getD 0 0#8), fun _ uw5 hC6 _ => Gives.run rfl (r_ldS (E := E8) (l := bs) (j := 0) (v := (bs).getD 0 0#8) fits5 (hW.ext (H.ext hC6).chg) rfl rfl (at_getD (by omega))) ⟨rfl, Chg.refl _ _⟩, ?_⟩
  refine ⟨u32 (((bs).getD 0 0#8).setWidth 32), fun _ uw7 hC8 _ => Gives.run rfl (r_8to32 und5 und53 (a := (bs).getD 0 0#8) rfl) ⟨rfl, Chg.refl _ _⟩, ?_⟩
  refine ⟨.slice a0 bs.length c0, fun _ uw9 hC10 _ => Gives.run rfl (r_move (v := .slice a0 bs.length c0) rfl) ⟨rfl, Chg.refl _ _⟩, ?_⟩
  refine ⟨.pointer (adr a0 (1 * 1)), fun _ uw11 hC12 _ => Gives.run rfl (r_idxS (E := E8) (l := bs) (j := 1) sli30 (hW.ext (H.ext hC12).chg) rfl rfl (by first | rfl | omega | (simp; omega)) (by rfl) (by omega)) ⟨rfl, Chg.refl _ _⟩, ?_⟩
  refine ⟨u8 ((bs).getD 1 0#8), fun _ uw13 hC14 _ => Gives.run rfl (r_ldS (E := E8) (l := bs) (j := 1) (v := (bs).getD 1 0#8) fits5 (hW.ext (H.ext hC14).chg) rfl rfl (at_getD (by omega))) ⟨rfl, Chg.refl _ _⟩, ?_⟩
  refine ⟨u32 (((bs).getD 1 0#8).setWidth 32), fun _ uw15 hC16 _ => Gives.run rfl (r_8to32 und5 und53 (a := (bs).getD 1 0#8) rfl) ⟨rfl, Chg.refl _ _⟩, ?_⟩
  refine ⟨u32 ((((bs).getD 1 0#8).setWidth 32) <<< (8 : Nat)), fun _ uw17 hC18 _ => Gives.run rfl (r_shl32 (a := ((bs).getD 1 0#8).setWidth 32) (c := 8) rfl rfl) ⟨rfl, Chg.refl _ _⟩, ?_⟩
  refine ⟨u32 ((((bs).getD 0 0#8).setWidth 32) ||| ((((bs).getD 1 0#8).setWidth 32) <<< (8 : Nat))), fun _ uw19 hC20 _ => Gives.run rfl (r_or32 (a := ((bs).getD 0 0#8).setWidth 32) (b := (((bs).getD 1 0#8).setWidth 32) <<< (8 : Nat)) rfl rfl) ⟨rfl, Chg.refl _ _⟩, ?_⟩
  refine ⟨.slice a0 bs.length c0, fun _ uw21 hC22 _ => Gives.run rfl (r_move (v := .slice a0 bs.length c0) rfl) ⟨rfl, Chg.refl _ _⟩, ?_⟩
  refine ⟨.pointer (adr a0 (2 * 1)), fun _ uw23 hC24 _ => Gives.run rfl (r_idxS (E := E8) (l := bs) (j := 2) sli30 (hW.ext (H.ext hC24).chg) rfl rfl (by first | rfl | omega | (simp; omega)) (by rfl) (by omega)) ⟨rfl, Chg.refl _ _⟩, ?_⟩
  refine ⟨u8 ((bs).getD 2 0#8), fun _ uw25 hC26 _ => Gives.run rfl (r_ldS (E := E8) (l := bs) (j := 2) (v := (bs).getD 2 0#8) fits5 (hW.ext (H.ext hC26).chg) rfl rfl (at_getD (by omega))) ⟨rfl, Chg.refl _ _⟩, ?_⟩
  refine ⟨u32 (((bs).getD 2 0#8).setWidth 32), fun _ uw27 hC28 _ => Gives.run rfl (r_8to32 und5 und53 (a := (bs).getD 2 0#8) rfl) ⟨rfl, Chg.refl _ _⟩, ?_⟩
  refine ⟨u32 ((((bs).getD 2 0#8).setWidth 32) <<< (16 : Nat)), fun _ uw29 hC30 _ => Gives.run rfl (r_shl32 (a := ((bs).getD 2 0#8).setWidth 32) (c := 16) rfl rfl) ⟨rfl, Chg.refl _ _⟩, ?_⟩
  refine ⟨u32 (((((bs).getD 0 0#8).setWidth 32) ||| ((((bs).getD 1 0#8).setWidth 32) <<< (8 : Nat))) ||| ((((bs).getD 2 0#8).setWidth 32) <<< (16 : Nat))), fun _ uw31 hC32 _ => Gives.run rfl (r_or32 (a := (((bs).getD 0 0#8).setWidth 32) ||| ((((bs).getD 1 0#8).setWidth 32) <<< (8 : Nat))) (b := (((bs).getD 2 0#8).setWidth 32) <<< (16 : Nat)) rfl rfl) ⟨rfl, Chg.refl _ _⟩, ?_⟩
  refine ⟨.slice a0 bs.length c0, fun _ uw33 hC34 _ => Gives.run rfl (r_move (v := .slice a0 bs.length c0) rfl) ⟨rfl, Chg.refl _ _⟩, ?_⟩
  refine ⟨.pointer (adr a0 (3 * 1)), fun _ uw35 hC36 _ => Gives.run rfl (r_idxS (E := E8) (l := bs) (j := 3) sli30 (hW.ext (H.ext hC36).chg) rfl rfl (by first | rfl | omega | (simp; omega)) (by rfl) (by omega)) ⟨rfl, Chg.refl _ _⟩, ?_⟩
  refine ⟨u8 ((bs).getD 3 0#8), fun _ uw37 hC38 _ => Gives.run rfl (r_ldS (E := E8) (l := bs) (j := 3) (v := (bs).getD 3 0#8) fits5 (hW.ext (H.ext hC38).chg) rfl rfl (at_getD (by omega))) ⟨rfl, Chg.refl _ _⟩, ?_⟩
  refine ⟨u32 (((bs).getD 3 0#8).setWidth 32), fun _ uw39 hC40 _ => Gives.run rfl (r_8to32 und5 und53 (a := (bs).getD 3 0#8) rfl) ⟨rfl, Chg.refl _ _⟩, ?_⟩
  refine ⟨u32 ((((bs).getD 3 0#8).setWidth 32) <<< (24 : Nat)), fun _ uw41 hC42 _ => Gives.run rfl (r_shl32 (a := ((bs).getD 3 0#8).setWidth 32) (c := 24) rfl rfl) ⟨rfl, Chg.refl _ _⟩, ?_⟩
  refine ⟨u32 ((((((bs).getD 0 0#8).setWidth 32) ||| ((((bs).getD 1 0#8).setWidth 32) <<< (8 : Nat))) ||| ((((bs).getD 2 0#8).setWidth 32) <<< (16 : Nat))) ||| ((((bs).getD 3 0#8).setWidth 32) <<< (24 : Nat))), fun _ uw43 hC44 _ => Gives.run rfl (r_or32 (a := ((((bs).getD 0 0#8).setWidth 32) ||| ((((bs).getD 1 0#8).setWidth 32) <<< (8 : Nat))) ||| ((((bs).getD 2 0#8).setWidth 32) <<< (16 : Nat))) (b := (((bs).getD 3 0#8).setWidth 32) <<< (24 : Nat)) rfl rfl) ⟨rfl, Chg.refl _ _⟩, ?_⟩
  refine ⟨u32 ((((((bs).getD 0 0#8).setWidth 32) ||| ((((bs).getD 1 0#8).setWidth 32) <<< (8 : Nat))) ||| ((((bs).getD 2 0#8).setWidth 32) <<< (16 : Nat))) ||| ((((bs).getD 3 0#8).setWidth 32) <<< (24 : Nat))), fun _ uw45 hC46 _ => Gives.run rfl (r_assign (v := u32 ((((((bs).getD 0 0#8).setWidth 32) ||| ((((bs).getD 1 0#8).setWidth 32) <<< (8 : Nat))) ||| ((((bs).getD 2 0#8).setWidth 32) <<< (16 : Nat))) ||| ((((bs).getD 3 0#8).setWidth 32) <<< (24 : Nat)))) rfl) ⟨rfl, Chg.refl _ _⟩, ?_⟩
  intro r50 w47 hE49 hF
  have H48 := H.ext hE49
  refine wnil ?_
  refine thenNormal ?_
  refine retAny ?_
  refine retG (rs := [.tmp 2]) (vs := [u32 ((((((bs).getD 0 0#8).setWidth 32) ||| ((((bs).getD 1 0#8).setWidth 32) <<< (8 : Nat))) ||| ((((bs).getD 2 0#8).setWidth 32) <<< (16 : Nat))) ||| ((((bs).getD 3 0#8).setWidth 32) <<< (24 : Nat)))]) rfl ⟨⟨rfl, rfl⟩, trivial⟩ ?_
  exact ⟨_, rfl, rfl, H48.chg⟩

theorem grow_ok (m : Nat) (h0 : 0 < m) (hm : m ≤ 1099511627776) (w : World) : Calls Tryd.prog 53 [.slice none 0 0, i64 ((m : Nat))].toArray w (Ret fun v w' => SlRes E8 5 [] w v w' ∧ Ext w w') := by
  have H := Hp.start No w
  refine enter (n := 27) Tryd.func53 rfl rfl (Nat.le_of_ble_eq_true rfl) ?_
  refine seqRegion ?_
  refine sq (r_assign (v := .slice none 0 0) rfl) ?_
  refine wend ?_
  refine seqAny ?_
  refine seqRegion ?_
  refine sq (r_move (v := i64 ((m : Nat))) rfl) ?_
  refine sq ((r_lssI (a := (m : Nat)) (b := (0 : Int)) rfl rfl).as (v' := .bool (false)) (by exact congrArg Value.bool (decide_eq_false (by omega)))) ?_
  refine wend ?_
  refine condFalse rfl ?_
  refine skipAny ?_
  refine thenNormal ?_
  refine seqAny ?_
  refine seqRegion ?_
  refine sq (r_move (v := i64 ((m : Nat))) rfl) ?_
  refine sq (r_move (v := .slice none 0 0) rfl) ?_
  refine sq (r_capS sli30 (a := none) (k := 0) (c := 0) rfl) ?_
  refine sq (r_move (v := .slice none 0 0) rfl) ?_
  refine sq (r_lenS sli30 (a := none) (m := 0) (c := 0) rfl) ?_
  refine sq (r_subI (a := (0 : Nat)) (b := (0 : Nat)) rfl rfl (by decide)) ?_
  refine sq ((r_subI (a := (m : Nat)) (b := (0 : Nat) - (0 : Nat)) rfl rfl (by omega)).as (v' := i64 ((m : Nat))) (by simp)) ?_
  refine sq (r_assign (v := i64 ((m : Nat))) rfl) ?_
  refine wend ?_
  refine seqRegion ?_
  refine sq (r_move (v := i64 ((m : Nat))) rfl) ?_
  refine sq ((r_gtrI (a := (m : Nat)) (b := (0 : Int)) rfl rfl).as (v' := .bool (true)) (by exact congrArg Value.bool (decide_eq_true (by omega)))) ?_
  refine wend ?_
  refine condTrue rfl ?_
  refine oneRegion ?_
  refine sq (r_move (v := .slice none 0 0) rfl) ?_
  refine sq (r_move (v := .slice none 0 0) rfl) ?_
  refine sq (r_capS sli30 (a := none) (k := 0) (c := 0) rfl) ?_
  refine sq ((r_sliceS (l := 0) (h := 0) sli30 rfl (.inr ⟨rfl, rfl⟩) (.inl ⟨_, _, _, rfl, rfl, rfl⟩) (Nat.le_refl _) (Nat.le_refl _)).as (v' := .slice none 0 0) rfl) ?_
  refine sq (r_move (v := i64 ((m : Nat))) rfl) ?_
  refine q_appZ (E := E8) (m := m) (z0 := 0#8) H sli30 und3 zer5 rfl byt5 rfl rfl h0 (by omega) ?_
  intro b1 c2 sp3 w4 hS5 H6 hE7
  refine sq (r_move (v := .slice none 0 0) rfl) ?_
  refine sq (r_lenS sli30 (a := none) (m := 0) (c := 0) rfl) ?_
  refine sq ((r_sliceS (l := 0) (h := 0) sli30 rfl (.inr ⟨rfl, rfl⟩) (.inl ⟨_, _, _, rfl, rfl, rfl⟩) (Nat.le_refl _) (Nat.zero_le _)).as (v' := .slice (ownA (some b1)) 0 c2) (by rw [ite_adr0]; rfl)) ?_
  refine sq (r_assign (v := .slice (ownA (some b1)) 0 c2) rfl) ?_
  refine wnil ?_
  refine thenNormal ?_
  refine seqRegion ?_
  refine sq (r_move (v := .slice (ownA (some b1)) 0 c2) rfl) ?_
  refine sq (r_assign (v := .slice (ownA (some b1)) 0 c2) rfl) ?_
  refine wend ?_
  refine retAny ?_
  refine retG (rs := [.tmp 4]) (vs := [.slice (ownA (some b1)) 0 c2]) rfl ⟨⟨rfl, rfl⟩, trivial⟩ ?_
  exact ⟨_, rfl, H6.resN (k := 0) rfl hS5 rfl, H6.chg⟩

theorem concat_ok (fl : List SlV) (ct : Nat → List (BitVec 8)) (h0 : 0 < (cat ct fl.length).length) (hm : (cat ct fl.length).length ≤ 1099511627776) (hlen : fl.length ≤ 1000) (a0 : Option Addr) (n0 c0 : Nat) (hn0 : n0 = fl.length) (w : World) (hW : Rd ES w a0 fl) (hfl : ∀ i, i < fl.length → (fl.getD i sv0).n = (ct i).length ∧ Rd E8 w (fl.getD i sv0).a (ct i)) : Calls Tryd.prog 44 [.slice a0 n0 c0].toArray w (Ret fun v w' => SlRes E8 5 (cat ct fl.length) w v w' ∧ Ext w w') := by
  subst hn0
  have H := Hp.start No w
  refine enter (n := 36) Tryd.func44 rfl rfl (Nat.le_of_ble_eq_true rfl) ?_
  refine seqRegion ?_
  refine sq (r_assign (v := .slice none 0 0) rfl) ?_
  refine wend ?_
  refine seqRegion ?_
  refine sq (r_assign (v := i64 ((0 : Int))) rfl) ?_
  refine wend ?_
  refine seqAny ?_
  refine seqRegion ?_
  refine sq (r_move (v := .slice a0 fl.length c0) rfl) ?_
  refine sq (r_lenS sli22 (a := a0) (m := fl.length) (c := c0) rfl) ?_
  refine sq (r_move (v := i64 ((0 : Int))) rfl) ?_
  refine wend ?_
  refine blockAny ?_
  refine loopAny (σ := Nat) (fun q => [(0, .slice a0 fl.length c0), (3, i64 (((cat ct q).length : Nat))), (9, .slice a0 fl.length c0), (10, i64 ((fl.length : Nat))), (11, i64 ((q : Nat)))]) (fun q w' => q ≤ fl.length ∧ Hp No w w' []) (fun q => fl.length - q) (0) ?_ ?_ ?_
  · exact ⟨rfl, rfl, rfl, rfl, rfl, trivial⟩
  · exact ⟨Nat.zero_le _, H⟩
  rintro q ρ w1 ⟨hq, HL⟩
  have hcl := cat_le ct fl.length q hq
  refine seqRegion ?_
  refine sq (r_lssI (a := (q : Nat)) (b := (fl.length : Nat)) rfl rfl) ?_
  refine wend ?_
  refine seqAny ?_
  refine condProp (((q : Nat) : Int) < (fl.length : Nat)) rfl (fun c12 => ?_) (fun c12 => ?_)
  · skip
    have hcs := cat_succ ct q
    have hcn := cat_le ct fl.length (q + 1) (by omega)
    refine skipAny ?_
    refine thenNormal ?_
    refine seqAny ?_
    refine blockAny ?_
    refine seqRegion ?_
    refine sq (r_idxS (E := ES) (l := fl) (j := q) sli22 (hW.ext HL.chg) rfl rfl (by first | rfl | omega | (simp; omega)) (by rfl) (by omega)) ?_
    refine sq ((r_ldS (E := ES) (l := fl) (j := q) (v := (fl).getD q sv0) fits30 (hW.ext HL.chg) rfl rfl (at_getD (by omega))).as (v' := .slice ((fl.getD q sv0).a) ((ct q).length) ((fl.getD q sv0).c)) (by rw [← (hfl q (by omega)).1]; rfl)) ?_
    refine sq (r_assign (v := .slice ((fl.getD q sv0).a) ((ct q).length) ((fl.getD q sv0).c)) rfl) ?_
    refine wend ?_
    refine seqRegion ?_
    refine sq (r_move (v := i64 (((cat ct q).length : Nat))) rfl) ?_
    refine sq (r_move (v := .slice ((fl.getD q sv0).a) ((ct q).length) ((fl.getD q sv0).c)) rfl) ?_
    refine sq (r_lenS sli30 (a := (fl.getD q sv0).a) (m := (ct q).length) (c := (fl.getD q sv0).c) rfl) ?_
    refine sq ((r_addI (a := ((cat ct q).length : Nat)) (b := ((ct q).length : Nat)) rfl rfl (by omega)).as (v' := i64 (((cat ct (q + 1)).length : Nat))) (by rw [hcs]; rfl)) ?_
    refine sq (r_assign (v := i64 (((cat ct (q + 1)).length : Nat))) rfl) ?_
    refine wend ?_
    refine seqRegion ?_
    refine sq (r_move (v := i64 (((cat ct (q + 1)).length : Nat))) rfl) ?_
    refine sq ((r_lssI (a := ((cat ct (q + 1)).length : Nat)) (b := (0 : Int)) rfl rfl).as (v' := .bool (false)) (by exact congrArg Value.bool (decide_eq_false (by omega)))) ?_
    refine wend ?_
    refine condFalse rfl ?_
    refine skipAny ?_
    refine blockNormal ?_
    refine thenNormal ?_
    refine oneRegion ?_
    refine sq (r_addI (a := (q : Nat)) (b := (1 : Int)) rfl rfl (by omega)) ?_
    refine sq (r_move (v := i64 ((q : Nat) + (1 : Int))) rfl) ?_
    refine wnil ?_
    refine thenNormal ?_
    exact ⟨q + 1, _, rfl, ⟨rfl, rfl, rfl, rfl, rfl, trivial⟩, ⟨by omega, HL⟩, by show fl.length - (q + 1) < fl.length - q; omega⟩
  · skip
    obtain rfl : q = fl.length := by omega
    refine exitAny ?_
    refine thenExit ?_
    refine thenExit ?_
    refine blockHere ?_
    refine thenNormal ?_
    refine seqRegion ?_
    refine sq (r_move (v := i64 (((cat ct fl.length).length : Nat))) rfl) ?_
    refine c_call (vs := [.slice none 0 0, i64 (((cat ct fl.length).length : Nat))]) call53 rfl (grow_ok ((cat ct fl.length).length) (by omega) (by omega) w1) ?_
    rintro _ w3 ⟨⟨key5, c6, sp7, rfl, hS8, hk9⟩, hE10⟩
    rw [show ([]).length = 0 from rfl]
    have H11 := HL.add hE10 hk9
    refine sq (r_assign (v := .slice (ownA key5) 0 c6) rfl) ?_
    refine wend ?_
    refine seqAny ?_
    refine seqRegion ?_
    refine sq (r_move (v := .slice a0 fl.length c0) rfl) ?_
    refine sq (r_lenS sli22 (a := a0) (m := fl.length) (c := c0) rfl) ?_
    refine sq (r_move (v := i64 ((0 : Int))) rfl) ?_
    refine wend ?_
    refine blockAny ?_
    refine loopAny (σ := Nat × Option Nat × Nat × List Value) (fun (q, key, c, sp) => [(0, .slice a0 fl.length c0), (6, .slice (ownA key) ((cat ct q).length) c), (25, .slice a0 fl.length c0), (26, i64 ((fl.length : Nat))), (27, i64 ((q : Nat)))]) (fun (q, key, c, sp) w' => (q ≤ fl.length ∧ Sl E8 key (cat ct q) c sp) ∧ Hp No w w' [(key, sob E8 5 (cat ct q) sp)]) (fun (q, key, c, sp) => fl.length - q) ((0, key5, c6, sp7)) ?_ ?_ ?_
    · exact ⟨rfl, rfl, rfl, rfl, rfl, trivial⟩
    · exact ⟨⟨Nat.zero_le _, hS8⟩, H11⟩
    rintro ⟨q, key, c, sp⟩ ρ w12 ⟨⟨hq, hS⟩, HL⟩
    have hcl := cat_le ct fl.length q hq
    refine seqRegion ?_
    refine sq (r_lssI (a := (q : Nat)) (b := (fl.length : Nat)) rfl rfl) ?_
    refine wend ?_
    refine seqAny ?_
    refine condProp (((q : Nat) : Int) < (fl.length : Nat)) rfl (fun c28 => ?_) (fun c28 => ?_)
    · skip
      have hcs := cat_succ ct q
      have hcn := cat_le ct fl.length (q + 1) (by omega)
      refine skipAny ?_
      refine thenNormal ?_
      refine seqAny ?_
      refine blockAny ?_
      refine seqRegion ?_
      refine sq (r_idxS (E := ES) (l := fl) (j := q) sli22 (hW.ext HL.chg) rfl rfl (by first | rfl | omega | (simp; omega)) (by rfl) (by omega)) ?_
      refine sq ((r_ldS (E := ES) (l := fl) (j := q) (v := (fl).getD q sv0) fits30 (hW.ext HL.chg) rfl rfl (at_getD (by omega))).as (v' := .slice ((fl.getD q sv0).a) ((ct q).length) ((fl.getD q sv0).c)) (by rw [← (hfl q (by omega)).1]; rfl)) ?_
      refine sq (r_assign (v := .slice ((fl.getD q sv0).a) ((ct q).length) ((fl.getD q sv0).c)) rfl) ?_
      refine wend ?_
      refine oneRegion ?_
      refine sq (r_move (v := .slice (ownA key) ((cat ct q).length) c) rfl) ?_
      refine sq (r_move (v := .slice ((fl.getD q sv0).a) ((ct q).length) ((fl.getD q sv0).c)) rfl) ?_
      refine q_append (E := E8) (k := 0) (l := cat ct q) (l2 := ct q) HL rfl hS sli30 zer5 rfl byt5 ((hfl q (by omega)).2.ext HL.chg) rfl (by rfl) rfl (by rfl) (by omega) ?_
      intro key14 c15 sp16 w18 hS17 hne20 H19
      have H19' := H19.as (L' := [(key14, sob E8 5 ((cat ct q) ++ (ct q)) sp16)]) rfl
      clear H19
      refine sq (r_assign (v := .slice (ownA key14) (((cat ct q).length) + ((ct q).length)) c15) rfl) ?_
      refine wnil ?_
      refine blockNormal ?_
      refine thenNormal ?_
      refine oneRegion ?_
      refine sq (r_addI (a := (q : Nat)) (b := (1 : Int)) rfl rfl (by omega)) ?_
      refine sq (r_move (v := i64 ((q : Nat) + (1 : Int))) rfl) ?_
      refine wnil ?_
      refine thenNormal ?_
      exact ⟨(q + 1, key14, c15, sp16), _, rfl, ⟨rfl, by rw [cat_succ]; rfl, rfl, rfl, rfl, trivial⟩, ⟨⟨by omega, hS17⟩, H19'⟩, by show fl.length - (q + 1) < fl.length - q; omega⟩
    · skip
      obtain rfl : q = fl.length := by omega
      refine exitAny ?_
      refine thenExit ?_
      refine thenExit ?_
      refine blockHere ?_
      refine thenNormal ?_
      refine seqRegion ?_
      refine sq (r_move (v := .slice (ownA key) ((cat ct fl.length).length) c) rfl) ?_
      refine sq (r_assign (v := .slice (ownA key) ((cat ct fl.length).length) c) rfl) ?_
      refine wend ?_
      refine retAny ?_
      refine retG (rs := [.tmp 2]) (vs := [.slice (ownA key) ((cat ct fl.length).length) c]) rfl ⟨⟨rfl, rfl⟩, trivial⟩ ?_
      exact ⟨_, rfl, HL.resN (k := 0) rfl hS rfl, HL.chg⟩

theorem seal_ok (k : BitVec 8) (n : BitVec 32) (p : List (BitVec 8)) (hp : p.length ≤ 1000000000) (a0 : Option Addr) (n0 c0 : Nat) (hn0 : n0 = p.length) (w : World) (hW : Rd E8 w a0 p) : Calls Tryd.prog 30 [u8 k, u32 n, .slice a0 n0 c0].toArray w (Ret fun v w' => SlRes E8 5 (sealF k n p) w v w' ∧ Ext w w') := by
  subst hn0
  have H := Hp.start No w
  refine enter (n := 20) Tryd.func30 rfl rfl (Nat.le_of_ble_eq_true rfl) ?_
  refine seqRegion ?_
  refine sq (r_assign (v := .slice none 0 0) rfl) ?_
  refine wend ?_
  refine seqRegion ?_
  refine sq (r_move (v := u8 (k)) rfl) ?_
  refine q_buildSlice (E := E8) (l := [k]) H sli30 zer5 (Nat.le_of_ble_eq_true rfl) (ps := [(0, u8 (k))]) rfl (by exact fillAll rfl rfl) rfl ?_
  intro b1 w3 hS2 H4 hE5
  refine sq (r_move (v := u32 (n)) rfl) ?_
  refine c_call (vs := [u32 (n)]) call45 rfl (four_ok n w3) ?_
  rintro _ w6 ⟨⟨key8, c9, sp10, rfl, hS11, hk12⟩, hE13⟩
  rw [show (four n).length = 4 from rfl]
  have H14 := H4.add hE13 hk12
  refine sq (r_move (v := .slice a0 p.length c0) rfl) ?_
  refine q_buildSlice (E := ES) (l := ([⟨ownA (some b1), 1, 1⟩, ⟨ownA key8, 4, c9⟩, ⟨a0, p.length, c0⟩] : List SlV)) H14 sli22 zer30 (Nat.le_of_ble_eq_true rfl) (ps := [(0, .slice (ownA (some b1)) 1 1), (1, .slice (ownA key8) 4 c9), (2, .slice a0 p.length c0)]) rfl (by exact fillAll rfl rfl) rfl ?_
  intro b15 w17 hS16 H18 hE19
  refine c_call (vs := [.slice (ownA (some b15)) 3 3]) call44 rfl ((show Calls _ _ _ _ (Ret fun v w' => SlRes E8 5 (body k n p) w17 v w' ∧ Ext w17 w') from concat_ok ([⟨ownA (some b1), 1, 1⟩, ⟨ownA key8, 4, c9⟩, ⟨a0, p.length, c0⟩] : List SlV) (fun i => [[k], four n, p].getD i []) (by show 0 < (body k n p).length; rw [body_len]; omega) (by show (body k n p).length ≤ _; rw [body_len]; omega) (by show 3 ≤ 1000; omega) (ownA (some b15)) 3 3 (by rfl) w17 (H18.rd (k := 0) rfl hS16) (fun i hi => by match i, hi with | 0, _ => exact ⟨rfl, (H18.rd (k := 2) rfl hS2)⟩ | 1, _ => exact ⟨rfl, (H18.rd (k := 1) rfl hS11)⟩ | 2, _ => exact ⟨rfl, (hW.ext H18.chg)⟩ | i + 3, hi => exact absurd hi (by simp)))) ?_
  rintro _ w20 ⟨⟨key22, c23, sp24, rfl, hS25, hk26⟩, hE27⟩
  rw [show (body k n p).length = 5 + p.length from body_len k n p]
  have H28 := H18.add hE27 hk26
  refine sq (r_assign (v := .slice (ownA key22) (5 + p.length) c23) rfl) ?_
  refine wend ?_
  refine seqRegion ?_
  refine sq (r_move (v := .slice (ownA key22) (5 + p.length) c23) rfl) ?_
  refine sq (r_move (v := .slice (ownA key22) (5 + p.length) c23) rfl) ?_
  refine c_call (vs := [.slice (ownA key22) (5 + p.length) c23]) call43 rfl (sum_ok (body k n p) (by rw [body_len]; omega) (ownA key22) (5 + p.length) c23 (by exact (body_len k n p).symm) w20 (H28.rd (k := 0) rfl hS25)) ?_
  rintro _ w29 ⟨rfl, hE30⟩
  have H31 := H28.ext hE30
  refine c_call (vs := [u32 (crc (body k n p))]) call45 rfl (four_ok (crc (body k n p)) w29) ?_
  rintro _ w32 ⟨⟨key34, c35, sp36, rfl, hS37, hk38⟩, hE39⟩
  rw [show (four (crc (body k n p))).length = 4 from rfl]
  have H40 := H31.add hE39 hk38
  refine q_append (E := E8) (k := 1) (l := body k n p) (l2 := four (crc (body k n p))) H40 rfl hS25 sli30 zer5 rfl byt5 (H40.rd (k := 0) rfl hS37) rfl (by exact (body_len k n p).symm) rfl (by exact (rfl).symm) (by omega) ?_
  intro key41 c42 sp43 w45 hS44 hne47 H46
  have H46' := H46.as (L' := [(key34, sob E8 5 (four (crc (body k n p))) sp36), (key41, sob E8 5 ((body k n p) ++ (four (crc (body k n p)))) sp43), ((some b15), sob ES 30 ([⟨ownA (some b1), 1, 1⟩, ⟨ownA key8, 4, c9⟩, ⟨a0, p.length, c0⟩] : List SlV) ([])), (key8, sob E8 5 (four n) sp10), ((some b1), sob E8 5 ([k]) ([]))]) rfl
  clear H46
  refine sq (r_assign (v := .slice (ownA key41) ((5 + p.length) + 4) c42) rfl) ?_
  refine wend ?_
  refine retAny ?_
  refine retG (rs := [.tmp 6]) (vs := [.slice (ownA key41) ((5 + p.length) + 4) c42]) rfl ⟨⟨rfl, rfl⟩, trivial⟩ ?_
  exact ⟨_, rfl, H46'.resN (k := 1) rfl hS44 (by rw [seal_len]; omega), H46'.chg⟩

theorem open_short (bs : List (BitVec 8)) (hb : bs.length ≤ 140737488355328) (a0 : Option Addr) (n0 c0 : Nat) (hn0 : n0 = bs.length) (w : World) (hW : Rd E8 w a0 bs) (hc : bs.length ≤ c0) (h9 : bs.length < 9) : Calls Tryd.prog 26 [.slice a0 n0 c0].toArray w (Ret fun v w' => v = .tuple #[u8 0#8, u32 0#32, .slice none 0 0, .bool false] ∧ Ext w w') := by
  subst hn0
  have H := Hp.start No w
  refine enter (n := 49) Tryd.func26 rfl rfl (Nat.le_of_ble_eq_true rfl) ?_
  refine seqRegion ?_
  refine sq (r_assign (v := u8 (0#8)) rfl) ?_
  refine sq (r_assign (v := u32 (0#32)) rfl) ?_
  refine sq (r_assign (v := .slice none 0 0) rfl) ?_
  refine sq (r_assign (v := .bool (false)) rfl) ?_
  refine wend ?_
  refine seqRegion ?_
  refine sq (r_move (v := .slice a0 bs.length c0) rfl) ?_
  refine sq (r_lenS sli30 (a := a0) (m := bs.length) (c := c0) rfl) ?_
  refine sq (r_subI (a := (bs.length : Nat)) (b := (4 : Int)) rfl rfl (by omega)) ?_
  refine sq (r_assign (v := i64 ((bs.length : Nat) - (4 : Int))) rfl) ?_
  refine wend ?_
  refine seqAny ?_
  refine seqAny ?_
  refine drawAny (K := [none, none, none, none, none, none, none, none, none, none, none, none, none, none, none, none, none, none, none, none, none, none, none, none, none, none, none, none, none]) [0, 1, 3, 7, 7, 31, 63, 7, 7, 391, 1023, 2047, 4095, 8191, 16383, 32767, 65535, 131071, 262143, 524287, 1048575, 2097151, 4194303, 8388607, 16777215, 33554431, 67108863, 134217727, 268435455] (fun w' => Ext w w') (fun w' w'' => Ext w' w'') mixed (by kernel_rfl) (Ext.drew _) (fun _ _ h h' => h.trans h') ?_ ?_
  · exact relNone (by decide)
  refine ⟨i64 ((bs.length : Nat) - (4 : Int)), fun _ uw1 hC2 _ => Gives.run rfl (r_move (v := i64 ((bs.length : Nat) - (4 : Int))) rfl) ⟨rfl, Chg.refl _ _⟩, ?_⟩
  refine ⟨.bool (true), fun _ uw3 hC4 _ => Gives.run rfl ((r_lssI (a := (bs.length : Nat) - (4 : Int)) (b := (5 : Int)) rfl rfl).as (v' := .bool (true)) (by exact congrArg Value.bool (decide_eq_true (by omega)))) ⟨rfl, Chg.refl _ _⟩, ?_⟩
  refine ⟨.bool (true), fun _ uw5 hC6 _ => Gives.run rfl (r_move (v := .bool (true)) rfl) ⟨rfl, Chg.refl _ _⟩, ?_⟩
  refine ⟨undef, fun _ uw7 hC8 _ => Gives.off (wantedSome (d' := 12) (b := true) rfl rfl rfl) ⟨rfl, Chg.refl _ _⟩, ?_⟩
  refine ⟨undef, fun _ uw9 hC10 _ => Gives.off (wantedSome (d' := 12) (b := true) rfl rfl rfl) ⟨rfl, Chg.refl _ _⟩, ?_⟩
  refine ⟨undef, fun _ uw11 hC12 _ => Gives.off (wantedSome (d' := 12) (b := true) rfl rfl rfl) ⟨rfl, Chg.refl _ _⟩, ?_⟩
  refine ⟨undef, fun _ uw13 hC14 _ => Gives.off (wantedSome (d' := 12) (b := true) rfl rfl rfl) ⟨rfl, Chg.refl _ _⟩, ?_⟩
  refine ⟨undef, fun _ uw15 hC16 _ => Gives.off (wantedSome (d' := 12) (b := true) rfl rfl rfl) ⟨rfl, Chg.refl _ _⟩, ?_⟩
  refine ⟨undef, fun _ uw17 hC18 _ => Gives.off (wantedSome (d' := 12) (b := true) rfl rfl rfl) ⟨rfl, Chg.refl _ _⟩, ?_⟩
  refine ⟨undef, fun _ uw19 hC20 _ => Gives.off (wantedSome (d' := 12) (b := true) rfl rfl rfl) ⟨rfl, Chg.refl _ _⟩, ?_⟩
  refine ⟨undef, fun _ uw21 hC22 _ => Gives.off (wantedSome (d' := 12) (b := true) rfl rfl rfl) ⟨rfl, Chg.refl _ _⟩, ?_⟩
  refine ⟨undef, fun _ uw23 hC24 _ => Gives.off (wantedSome (d' := 12) (b := true) rfl rfl rfl) ⟨rfl, Chg.refl _ _⟩, ?_⟩
  refine ⟨.bool (true), fun _ uw25 hC26 _ => Gives.run rfl (r_pickT (u := .bool (true)) rfl rfl) ⟨rfl, Chg.refl _ _⟩, ?_⟩
  refine ⟨.bool (true), fun _ uw27 hC28 _ => Gives.run rfl (r_move (v := .bool (true)) rfl) ⟨rfl, Chg.refl _ _⟩, ?_⟩
  refine ⟨undef, fun _ uw29 hC30 _ => Gives.off (wantedSome (d' := 23) (b := true) rfl rfl rfl) ⟨rfl, Chg.refl _ _⟩, ?_⟩
  refine ⟨undef, fun _ uw31 hC32 _ => Gives.off (wantedSome (d' := 23) (b := true) rfl rfl rfl) ⟨rfl, Chg.refl _ _⟩, ?_⟩
  refine ⟨undef, fun _ uw33 hC34 _ => Gives.off (wantedSome (d' := 23) (b := true) rfl rfl rfl) ⟨rfl, Chg.refl _ _⟩, ?_⟩
  refine ⟨undef, fun _ uw35 hC36 _ => Gives.off (wantedSome (d' := 23) (b := true) rfl rfl rfl) ⟨rfl, Chg.refl _ _⟩, ?_⟩
  refine ⟨.bool (true), fun _ uw37 hC38 _ => Gives.run rfl (r_pickT (u := .bool (true)) rfl rfl) ⟨rfl, Chg.refl _ _⟩, ?_⟩
  refine ⟨.bool (true), fun _ uw39 hC40 _ => Gives.run rfl (r_move (v := .bool (true)) rfl) ⟨rfl, Chg.refl _ _⟩, ?_⟩
  refine ⟨undef, fun _ uw41 hC42 _ => Gives.off (wantedSome (d' := 29) (b := true) rfl rfl rfl) ⟨rfl, Chg.refl _ _⟩, ?_⟩
  refine ⟨undef, fun _ uw43 hC44 _ => Gives.off (wantedSome (d' := 29) (b := true) rfl rfl rfl) ⟨rfl, Chg.refl _ _⟩, ?_⟩
  refine ⟨undef, fun _ uw45 hC46 _ => Gives.off (wantedSome (d' := 29) (b := true) rfl rfl rfl) ⟨rfl, Chg.refl _ _⟩, ?_⟩
  refine ⟨undef, fun _ uw47 hC48 _ => Gives.off (wantedSome (d' := 29) (b := true) rfl rfl rfl) ⟨rfl, Chg.refl _ _⟩, ?_⟩
  refine ⟨undef, fun _ uw49 hC50 _ => Gives.off (wantedSome (d' := 29) (b := true) rfl rfl rfl) ⟨rfl, Chg.refl _ _⟩, ?_⟩
  refine ⟨undef, fun _ uw51 hC52 _ => Gives.off (wantedUndef (d' := 34) rfl rfl rfl) ⟨rfl, Chg.refl _ _⟩, ?_⟩
  refine ⟨undef, fun _ uw53 hC54 _ => Gives.off (wantedUndef (d' := 34) rfl rfl rfl) ⟨rfl, Chg.refl _ _⟩, ?_⟩
  refine ⟨undef, fun _ uw55 hC56 _ => Gives.off (wantedSome (d' := 29) (b := true) rfl rfl rfl) ⟨rfl, Chg.refl _ _⟩, ?_⟩
  refine ⟨.bool (true), fun _ uw57 hC58 _ => Gives.run rfl (r_pickT (u := .bool (true)) rfl rfl) ⟨rfl, Chg.refl _ _⟩, ?_⟩
  intro r62 w59 hE61 hF
  have H60 := H.ext hE61
  refine wnil ?_
  refine thenNormal ?_
  refine condTrue rfl ?_
  refine seqRegion ?_
  refine sq (r_assign (v := u8 (0#8)) rfl) ?_
  refine sq (r_assign (v := u32 (0#32)) rfl) ?_
  refine sq (r_assign (v := .slice none 0 0) rfl) ?_
  refine sq (r_assign (v := .bool (false)) rfl) ?_
  refine wend ?_
  refine retAny ?_
  refine thenRet ?_
  refine retG (rs := [.tmp 2, .tmp 3, .tmp 4, .tmp 5]) (vs := [u8 (0#8), u32 (0#32), .slice none 0 0, .bool (false)]) rfl ⟨⟨rfl, rfl⟩, ⟨rfl, rfl⟩, ⟨rfl, rfl⟩, ⟨rfl, rfl⟩, trivial⟩ ?_
  exact ⟨_, rfl, rfl, H60.chg⟩

theorem open_sum (bs : List (BitVec 8)) (hb : bs.length ≤ 140737488355328) (a0 : Option Addr) (n0 c0 : Nat) (hn0 : n0 = bs.length) (w : World) (hW : Rd E8 w a0 bs) (hc : bs.length ≤ c0) (h9 : 9 ≤ bs.length) (hs : sumOf bs ≠ sumOk bs) : Calls Tryd.prog 26 [.slice a0 n0 c0].toArray w (Ret fun v w' => v = .tuple #[u8 0#8, u32 0#32, .slice none 0 0, .bool false] ∧ Ext w w') := by
  subst hn0
  have H := Hp.start No w
  refine enter (n := 49) Tryd.func26 rfl rfl (Nat.le_of_ble_eq_true rfl) ?_
  refine seqRegion ?_
  refine sq (r_assign (v := u8 (0#8)) rfl) ?_
  refine sq (r_assign (v := u32 (0#32)) rfl) ?_
  refine sq (r_assign (v := .slice none 0 0) rfl) ?_
  refine sq (r_assign (v := .bool (false)) rfl) ?_
  refine wend ?_
  refine seqRegion ?_
  refine sq (r_move (v := .slice a0 bs.length c0) rfl) ?_
  refine sq (r_lenS sli30 (a := a0) (m := bs.length) (c := c0) rfl) ?_
  refine sq ((r_subI (a := (bs.length : Nat)) (b := (4 : Int)) rfl rfl (by omega)).as (v' := i64 ((bs.length - 4 : Nat))) (by congr 1; omega)) ?_
  refine sq (r_assign (v := i64 ((bs.length - 4 : Nat))) rfl) ?_
  refine wend ?_
  refine seqAny ?_
  refine seqAny ?_
  refine drawAny (K := [none, none, none, none, none, none, none, none, none, none, none, none, none, none, none, none, none, none, none, none, none, none, none, none, none, none, none, none, none]) [0, 1, 3, 7, 7, 31, 63, 7, 7, 391, 1023, 2047, 4095, 8191, 16383, 32767, 65535, 131071, 262143, 524287, 1048575, 2097151, 4194303, 8388607, 16777215, 33554431, 67108863, 134217727, 268435455] (fun w' => Ext w w') (fun w' w'' => Ext w' w'') mixed (by kernel_rfl) (Ext.drew _) (fun _ _ h h' => h.trans h') ?_ ?_
  · exact relNone (by decide)
  refine ⟨i64 ((bs.length - 4 : Nat)), fun _ uw1 hC2 _ => Gives.run rfl (r_move (v := i64 ((bs.length - 4 : Nat))) rfl) ⟨rfl, Chg.refl _ _⟩, ?_⟩
  refine ⟨.bool (false), fun _ uw3 hC4 _ => Gives.run rfl ((r_lssI (a := (bs.length - 4 : Nat)) (b := (5 : Int)) rfl rfl).as (v' := .bool (false)) (by exact congrArg Value.bool (decide_eq_false (by omega)))) ⟨rfl, Chg.refl _ _⟩, ?_⟩
  refine ⟨.bool (false), fun _ uw5 hC6 _ => Gives.run rfl (r_move (v := .bool (false)) rfl) ⟨rfl, Chg.refl _ _⟩, ?_⟩
  refine ⟨.slice a0 bs.length c0, fun _ uw7 hC8 _ => Gives.runW (wantedSome (d' := 12) (b := false) rfl rfl rfl) (r_move (v := .slice a0 bs.length c0) rfl) ⟨rfl, Chg.refl _ _⟩, ?_⟩
  refine ⟨i64 ((bs.length - 4 : Nat)), fun _ uw9 hC10 _ => Gives.runW (wantedSome (d' := 12) (b := false) rfl rfl rfl) (r_move (v := i64 ((bs.length - 4 : Nat))) rfl) ⟨rfl, Chg.refl _ _⟩, ?_⟩
  refine ⟨.slice (if c0 = bs.length - 4 then a0 else adr a0 ((bs.length - 4) * 1)) 4 (c0 - (bs.length - 4)), fun _ uw11 hC12 _ => Gives.runW (wantedSome (d' := 12) (b := false) rfl rfl rfl) ((r_sliceS (l := bs.length - 4) (h := bs.length) sli30 rfl (.inl ⟨_, _, _, rfl, rfl, by first | rfl | omega | (simp; omega)⟩) (.inr ⟨rfl, rfl⟩) (by omega) (by omega)).as (v' := .slice (if c0 = bs.length - 4 then a0 else adr a0 ((bs.length - 4) * 1)) 4 (c0 - (bs.length - 4))) (by rw [show bs.length - (bs.length - 4) = 4 by omega])) ⟨rfl, Chg.refl _ _⟩, ?_⟩
  refine ⟨u32 (whole ((bs.drop (bs.length - 4)).take (4))), fun _ uw13 hC14 _ => Gives.callW (wantedSome (d' := 12) (b := false) rfl rfl rfl) (Enters.callL (vs := [.slice (if c0 = bs.length - 4 then a0 else adr a0 ((bs.length - 4) * 1)) 4 (c0 - (bs.length - 4))]) call42 rfl) (whole_ok ((bs.drop (bs.length - 4)).take (4)) (by first | omega | (rw [List.length_take, List.length_drop]; omega) | (simp; omega)) (if c0 = bs.length - 4 then a0 else adr a0 ((bs.length - 4) * 1)) 4 (c0 - (bs.length - 4)) (by simp; omega) uw13 (Rd.sub (hW.ext (H.ext hC14).chg) (bs.length - 4) (4) (m := c0) (fun e => by first | exact absurd e (by omega) | (rw [show 4 = 0 by omega]; rfl)))), ?_⟩
  refine ⟨.slice a0 bs.length c0, fun _ uw15 hC16 _ => Gives.runW (wantedSome (d' := 12) (b := false) rfl rfl rfl) (r_move (v := .slice a0 bs.length c0) rfl) ⟨rfl, Chg.refl _ _⟩, ?_⟩
  refine ⟨i64 ((bs.length - 4 : Nat)), fun _ uw17 hC18 _ => Gives.runW (wantedSome (d' := 12) (b := false) rfl rfl rfl) (r_move (v := i64 ((bs.length - 4 : Nat))) rfl) ⟨rfl, Chg.refl _ _⟩, ?_⟩
  refine ⟨.slice (if c0 = 0 then a0 else adr a0 (0 * 1)) (bs.length - 4) (c0 - 0), fun _ uw19 hC20 _ => Gives.runW (wantedSome (d' := 12) (b := false) rfl rfl rfl) ((r_sliceS (l := 0) (h := bs.length - 4) sli30 rfl (.inr ⟨rfl, rfl⟩) (.inl ⟨_, _, _, rfl, rfl, by first | rfl | omega | (simp; omega)⟩) (by omega) (by omega)).as (v' := .slice (if c0 = 0 then a0 else adr a0 (0 * 1)) (bs.length - 4) (c0 - 0)) (by first | rfl | (congr 1; omega) | (simp; omega) | simp)) ⟨rfl, Chg.refl _ _⟩, ?_⟩
  refine ⟨u32 (crc ((bs.drop 0).take (bs.length - 4))), fun _ uw21 hC22 _ => Gives.callW (wantedSome (d' := 12) (b := false) rfl rfl rfl) (Enters.callL (vs := [.slice (if c0 = 0 then a0 else adr a0 (0 * 1)) (bs.length - 4) (c0 - 0)]) call43 rfl) (sum_ok ((bs.drop 0).take (bs.length - 4)) (by first | omega | (rw [List.length_take, List.length_drop]; omega) | (simp; omega)) (if c0 = 0 then a0 else adr a0 (0 * 1)) (bs.length - 4) (c0 - 0) (by simp) uw21 (Rd.sub (hW.ext (H.ext hC22).chg) 0 (bs.length - 4) (m := c0) (fun e => by first | exact absurd e (by omega) | (rw [show bs.length - 4 = 0 by omega]; rfl)))), ?_⟩
  refine ⟨.bool (true), fun _ uw23 hC24 _ => Gives.runW (wantedSome (d' := 12) (b := false) rfl rfl rfl) ((r_neq32 (a := whole ((bs.drop (bs.length - 4)).take (4))) (b := crc ((bs.drop 0).take (bs.length - 4))) rfl rfl).as (v' := .bool (true)) (by exact congrArg Value.bool (decide_eq_true hs))) ⟨rfl, Chg.refl _ _⟩, ?_⟩
  refine ⟨.bool (true), fun _ uw25 hC26 _ => Gives.run rfl (r_pickF (v := .bool (true)) rfl rfl) ⟨rfl, Chg.refl _ _⟩, ?_⟩
  refine ⟨.bool (true), fun _ uw27 hC28 _ => Gives.run rfl (r_move (v := .bool (true)) rfl) ⟨rfl, Chg.refl _ _⟩, ?_⟩
  refine ⟨undef, fun _ uw29 hC30 _ => Gives.off (wantedSome (d' := 23) (b := true) rfl rfl rfl) ⟨rfl, Chg.refl _ _⟩, ?_⟩
  refine ⟨undef, fun _ uw31 hC32 _ => Gives.off (wantedSome (d' := 23) (b := true) rfl rfl rfl) ⟨rfl, Chg.refl _ _⟩, ?_⟩
  refine ⟨undef, fun _ uw33 hC34 _ => Gives.off (wantedSome (d' := 23) (b := true) rfl rfl rfl) ⟨rfl, Chg.refl _ _⟩, ?_⟩
  refine ⟨undef, fun _ uw35 hC36 _ => Gives.off (wantedSome (d' := 23) (b := true) rfl rfl rfl) ⟨rfl, Chg.refl _ _⟩, ?_⟩
  refine ⟨.bool (true), fun _ uw37 hC38 _ => Gives.run rfl (r_pickT (u := .bool (true)) rfl rfl) ⟨rfl, Chg.refl _ _⟩, ?_⟩
  refine ⟨.bool (true), fun _ uw39 hC40 _ => Gives.run rfl (r_move (v := .bool (true)) rfl) ⟨rfl, Chg.refl _ _⟩, ?_⟩
  refine ⟨undef, fun _ uw41 hC42 _ => Gives.off (wantedSome (d' := 29) (b := true) rfl rfl rfl) ⟨rfl, Chg.refl _ _⟩, ?_⟩
  refine ⟨undef, fun _ uw43 hC44 _ => Gives.off (wantedSome (d' := 29) (b := true) rfl rfl rfl) ⟨rfl, Chg.refl _ _⟩, ?_⟩
  refine ⟨undef, fun _ uw45 hC46 _ => Gives.off (wantedSome (d' := 29) (b := true) rfl rfl rfl) ⟨rfl, Chg.refl _ _⟩, ?_⟩
  refine ⟨undef, fun _ uw47 hC48 _ => Gives.off (wantedSome (d' := 29) (b := true) rfl rfl rfl) ⟨rfl, Chg.refl _ _⟩, ?_⟩
  refine ⟨undef, fun _ uw49 hC50 _ => Gives.off (wantedSome (d' := 29) (b := true) rfl rfl rfl) ⟨rfl, Chg.refl _ _⟩, ?_⟩
  refine ⟨undef, fun _ uw51 hC52 _ => Gives.off (wantedUndef (d' := 34) rfl rfl rfl) ⟨rfl, Chg.refl _ _⟩, ?_⟩
  refine ⟨undef, fun _ uw53 hC54 _ => Gives.off (wantedUndef (d' := 34) rfl rfl rfl) ⟨rfl, Chg.refl _ _⟩, ?_⟩
  refine ⟨undef, fun _ uw55 hC56 _ => Gives.off (wantedSome (d' := 29) (b := true) rfl rfl rfl) ⟨rfl, Chg.refl _ _⟩, ?_⟩
  refine ⟨.bool (true), fun _ uw57 hC58 _ => Gives.run rfl (r_pickT (u := .bool (true)) rfl rfl) ⟨rfl, Chg.refl _ _⟩, ?_⟩
  intro r62 w59 hE61 hF
  have H60 := H.ext hE61
  refine wnil ?_
  refine thenNormal ?_
  refine condTrue rfl ?_
  refine seqRegion ?_
  refine sq (r_assign (v := u8 (0#8)) rfl) ?_
  refine sq (r_assign (v := u32 (0#32)) rfl) ?_
  refine sq (r_assign (v := .slice none 0 0) rfl) ?_
  refine sq (r_assign (v := .bool (false)) rfl) ?_
  refine wend ?_
  refine retAny ?_
  refine thenRet ?_
  refine retG (rs := [.tmp 2, .tmp 3, .tmp 4, .tmp 5]) (vs := [u8 (0#8), u32 (0#32), .slice none 0 0, .bool (false)]) rfl ⟨⟨rfl, rfl⟩, ⟨rfl, rfl⟩, ⟨rfl, rfl⟩, ⟨rfl, rfl⟩, trivial⟩ ?_
  exact ⟨_, rfl, rfl, H60.chg⟩

theorem open_kind (bs : List (BitVec 8)) (hb : bs.length ≤ 140737488355328) (a0 : Option Addr) (n0 c0 : Nat) (hn0 : n0 = bs.length) (w : World) (hW : Rd E8 w a0 bs) (hc : bs.length ≤ c0) (h9 : 9 ≤ bs.length) (hs : sumOf bs = sumOk bs) (hk : 1 < (bs.getD 0 0#8).toNat) : Calls Tryd.prog 26 [.slice a0 n0 c0].toArray w (Ret fun v w' => v = .tuple #[u8 0#8, u32 0#32, .slice none 0 0, .bool false] ∧ Ext w w') := by
  subst hn0
  have H := Hp.start No w
  refine enter (n := 49) Tryd.func26 rfl rfl (Nat.le_of_ble_eq_true rfl) ?_
  refine seqRegion ?_
  refine sq (r_assign (v := u8 (0#8)) rfl) ?_
  refine sq (r_assign (v := u32 (0#32)) rfl) ?_
  refine sq (r_assign (v := .slice none 0 0) rfl) ?_
  refine sq (r_assign (v := .bool (false)) rfl) ?_
  refine wend ?_
  refine seqRegion ?_
  refine sq (r_move (v := .slice a0 bs.length c0) rfl) ?_
  refine sq (r_lenS sli30 (a := a0) (m := bs.length) (c := c0) rfl) ?_
  refine sq ((r_subI (a := (bs.length : Nat)) (b := (4 : Int)) rfl rfl (by omega)).as (v' := i64 ((bs.length - 4 : Nat))) (by congr 1; omega)) ?_
  refine sq (r_assign (v := i64 ((bs.length - 4 : Nat))) rfl) ?_
  refine wend ?_
  refine seqAny ?_
  refine seqAny ?_
  refine drawAny (K := [none, none, none, none, none, none, none, none, none, none, none, none, none, none, none, none, none, none, none, none, none, none, none, none, none, none, none, none, none]) [0, 1, 3, 7, 7, 31, 63, 7, 7, 391, 1023, 2047, 4095, 8191, 16383, 32767, 65535, 131071, 262143, 524287, 1048575, 2097151, 4194303, 8388607, 16777215, 33554431, 67108863, 134217727, 268435455] (fun w' => Ext w w') (fun w' w'' => Ext w' w'') mixed (by kernel_rfl) (Ext.drew _) (fun _ _ h h' => h.trans h') ?_ ?_
  · exact relNone (by decide)
  refine ⟨i64 ((bs.length - 4 : Nat)), fun _ uw1 hC2 _ => Gives.run rfl (r_move (v := i64 ((bs.length - 4 : Nat))) rfl) ⟨rfl, Chg.refl _ _⟩, ?_⟩
  refine ⟨.bool (false), fun _ uw3 hC4 _ => Gives.run rfl ((r_lssI (a := (bs.length - 4 : Nat)) (b := (5 : Int)) rfl rfl).as (v' := .bool (false)) (by exact congrArg Value.bool (decide_eq_false (by omega)))) ⟨rfl, Chg.refl _ _⟩, ?_⟩
  refine ⟨.bool (false), fun _ uw5 hC6 _ => Gives.run rfl (r_move (v := .bool (false)) rfl) ⟨rfl, Chg.refl _ _⟩, ?_⟩
  refine ⟨.slice a0 bs.length c0, fun _ uw7 hC8 _ => Gives.runW (wantedSome (d' := 12) (b := false) rfl rfl rfl) (r_move (v := .slice a0 bs.length c0) rfl) ⟨rfl, Chg.refl _ _⟩, ?_⟩
  refine ⟨i64 ((bs.length - 4 : Nat)), fun _ uw9 hC10 _ => Gives.runW (wantedSome (d' := 12) (b := false) rfl rfl rfl) (r_move (v := i64 ((bs.length - 4 : Nat))) rfl) ⟨rfl, Chg.refl _ _⟩, ?_⟩
  refine ⟨.slice (if c0 = bs.length - 4 then a0 else adr a0 ((bs.length - 4) * 1)) 4 (c0 - (bs.length - 4)), fun _ uw11 hC12 _ => Gives.runW (wantedSome (d' := 12) (b := false) rfl rfl rfl) ((r_sliceS (l := bs.length - 4) (h := bs.length) sli30 rfl (.inl ⟨_, _, _, rfl, rfl, by first | rfl | omega | (simp; omega)⟩) (.inr ⟨rfl, rfl⟩) (by omega) (by omega)).as (v' := .slice (if c0 = bs.length - 4 then a0 else adr a0 ((bs.length - 4) * 1)) 4 (c0 - (bs.length - 4))) (by rw [show bs.length - (bs.length - 4) = 4 by omega])) ⟨rfl, Chg.refl _ _⟩, ?_⟩
  refine ⟨u32 (whole ((bs.drop (bs.length - 4)).take (4))), fun _ uw13 hC14 _ => Gives.callW (wantedSome (d' := 12) (b := false) rfl rfl rfl) (Enters.callL (vs := [.slice (if c0 = bs.length - 4 then a0 else adr a0 ((bs.length - 4) * 1)) 4 (c0 - (bs.length - 4))]) call42 rfl) (whole_ok ((bs.drop (bs.length - 4)).take (4)) (by first | omega | (rw [List.length_take, List.length_drop]; omega) | (simp; omega)) (if c0 = bs.length - 4 then a0 else adr a0 ((bs.length - 4) * 1)) 4 (c0 - (bs.length - 4)) (by simp; omega) uw13 (Rd.sub (hW.ext (H.ext hC14).chg) (bs.length - 4) (4) (m := c0) (fun e => by first | exact absurd e (by omega) | (rw [show 4 = 0 by omega]; rfl)))), ?_⟩
  refine ⟨.slice a0 bs.length c0, fun _ uw15 hC16 _ => Gives.runW (wantedSome (d' := 12) (b := false) rfl rfl rfl) (r_move (v := .slice a0 bs.length c0) rfl) ⟨rfl, Chg.refl _ _⟩, ?_⟩
  refine ⟨i64 ((bs.length - 4 : Nat)), fun _ uw17 hC18 _ => Gives.runW (wantedSome (d' := 12) (b := false) rfl rfl rfl) (r_move (v := i64 ((bs.length - 4 : Nat))) rfl) ⟨rfl, Chg.refl _ _⟩, ?_⟩
  refine ⟨.slice (if c0 = 0 then a0 else adr a0 (0 * 1)) (bs.length - 4) (c0 - 0), fun _ uw19 hC20 _ => Gives.runW (wantedSome (d' := 12) (b := false) rfl rfl rfl) ((r_sliceS (l := 0) (h := bs.length - 4) sli30 rfl (.inr ⟨rfl, rfl⟩) (.inl ⟨_, _, _, rfl, rfl, by first | rfl | omega | (simp; omega)⟩) (by omega) (by omega)).as (v' := .slice (if c0 = 0 then a0 else adr a0 (0 * 1)) (bs.length - 4) (c0 - 0)) (by first | rfl | (congr 1; omega) | (simp; omega) | simp)) ⟨rfl, Chg.refl _ _⟩, ?_⟩
  refine ⟨u32 (crc ((bs.drop 0).take (bs.length - 4))), fun _ uw21 hC22 _ => Gives.callW (wantedSome (d' := 12) (b := false) rfl rfl rfl) (Enters.callL (vs := [.slice (if c0 = 0 then a0 else adr a0 (0 * 1)) (bs.length - 4) (c0 - 0)]) call43 rfl) (sum_ok ((bs.drop 0).take (bs.length - 4)) (by first | omega | (rw [List.length_take, List.length_drop]; omega) | (simp; omega)) (if c0 = 0 then a0 else adr a0 (0 * 1)) (bs.length - 4) (c0 - 0) (by simp) uw21 (Rd.sub (hW.ext (H.ext hC22).chg) 0 (bs.length - 4) (m := c0) (fun e => by first | exact absurd e (by omega) | (rw [show bs.length - 4 = 0 by omega]; rfl)))), ?_⟩
  refine ⟨.bool (false), fun _ uw23 hC24 _ => Gives.runW (wantedSome (d' := 12) (b := false) rfl rfl rfl) ((r_neq32 (a := whole ((bs.drop (bs.length - 4)).take (4))) (b := crc ((bs.drop 0).take (bs.length - 4))) rfl rfl).as (v' := .bool (false)) (by exact congrArg Value.bool (decide_eq_false (fun h => h hs)))) ⟨rfl, Chg.refl _ _⟩, ?_⟩
  refine ⟨.bool (false), fun _ uw25 hC26 _ => Gives.run rfl (r_pickF (v := .bool (false)) rfl rfl) ⟨rfl, Chg.refl _ _⟩, ?_⟩
  refine ⟨.bool (false), fun _ uw27 hC28 _ => Gives.run rfl (r_move (v := .bool (false)) rfl) ⟨rfl, Chg.refl _ _⟩, ?_⟩
  refine ⟨.slice a0 bs.length c0, fun _ uw29 hC30 _ => Gives.runW (wantedSome (d' := 23) (b := false) rfl rfl rfl) (r_move (v := .slice a0 bs.length c0) rfl) ⟨rfl, Chg.refl _ _⟩, ?_⟩
  refine ⟨.pointer (adr a0 (0 * 1)), fun _ uw31 hC32 _ => Gives.runW (wantedSome (d' := 23) (b := false) rfl rfl rfl) (r_idxS (E := E8) (l := bs) (j := 0) sli30 (hW.ext (H.ext hC32).chg) rfl rfl (by first | rfl | omega | (simp; omega)) (by rfl) (by omega)) ⟨rfl, Chg.refl _ _⟩, ?_⟩
  refine ⟨u8 ((bs).getD 0 0#8), fun _ uw33 hC34 _ => Gives.runW (wantedSome (d' := 23) (b := false) rfl rfl rfl) (r_ldS (E := E8) (l := bs) (j := 0) (v := (bs).getD 0 0#8) fits5 (hW.ext (H.ext hC34).chg) rfl rfl (at_getD (by omega))) ⟨rfl, Chg.refl _ _⟩, ?_⟩
  refine ⟨.bool (true), fun _ uw35 hC36 _ => Gives.runW (wantedSome (d' := 23) (b := false) rfl rfl rfl) ((r_gtr8 (a := (bs).getD 0 0#8) (b := 1#8) rfl rfl).as (v' := .bool (true)) (by exact congrArg Value.bool (decide_eq_true hk))) ⟨rfl, Chg.refl _ _⟩, ?_⟩
  refine ⟨.bool (true), fun _ uw37 hC38 _ => Gives.run rfl (r_pickF (v := .bool (true)) rfl rfl) ⟨rfl, Chg.refl _ _⟩, ?_⟩
  refine ⟨.bool (true), fun _ uw39 hC40 _ => Gives.run rfl (r_move (v := .bool (true)) rfl) ⟨rfl, Chg.refl _ _⟩, ?_⟩
  refine ⟨undef, fun _ uw41 hC42 _ => Gives.off (wantedSome (d' := 29) (b := true) rfl rfl rfl) ⟨rfl, Chg.refl _ _⟩, ?_⟩
  refine ⟨undef, fun _ uw43 hC44 _ => Gives.off (wantedSome (d' := 29) (b := true) rfl rfl rfl) ⟨rfl, Chg.refl _ _⟩, ?_⟩
  refine ⟨undef, fun _ uw45 hC46 _ => Gives.off (wantedSome (d' := 29) (b := true) rfl rfl rfl) ⟨rfl, Chg.refl _ _⟩, ?_⟩
  refine ⟨undef, fun _ uw47 hC48 _ => Gives.off (wantedSome (d' := 29) (b := true) rfl rfl rfl) ⟨rfl, Chg.refl _ _⟩, ?_⟩
  refine ⟨undef, fun _ uw49 hC50 _ => Gives.off (wantedSome (d' := 29) (b := true) rfl rfl rfl) ⟨rfl, Chg.refl _ _⟩, ?_⟩
  refine ⟨undef, fun _ uw51 hC52 _ => Gives.off (wantedUndef (d' := 34) rfl rfl rfl) ⟨rfl, Chg.refl _ _⟩, ?_⟩
  refine ⟨undef, fun _ uw53 hC54 _ => Gives.off (wantedUndef (d' := 34) rfl rfl rfl) ⟨rfl, Chg.refl _ _⟩, ?_⟩
  refine ⟨undef, fun _ uw55 hC56 _ => Gives.off (wantedSome (d' := 29) (b := true) rfl rfl rfl) ⟨rfl, Chg.refl _ _⟩, ?_⟩
  refine ⟨.bool (true), fun _ uw57 hC58 _ => Gives.run rfl (r_pickT (u := .bool (true)) rfl rfl) ⟨rfl, Chg.refl _ _⟩, ?_⟩
  intro r62 w59 hE61 hF
  have H60 := H.ext hE61
  refine wnil ?_
  refine thenNormal ?_
  refine condTrue rfl ?_
  refine seqRegion ?_
  refine sq (r_assign (v := u8 (0#8)) rfl) ?_
  refine sq (r_assign (v := u32 (0#32)) rfl) ?_
  refine sq (r_assign (v := .slice none 0 0) rfl) ?_
  refine sq (r_assign (v := .bool (false)) rfl) ?_
  refine wend ?_
  refine retAny ?_
  refine thenRet ?_
  refine retG (rs := [.tmp 2, .tmp 3, .tmp 4, .tmp 5]) (vs := [u8 (0#8), u32 (0#32), .slice none 0 0, .bool (false)]) rfl ⟨⟨rfl, rfl⟩, ⟨rfl, rfl⟩, ⟨rfl, rfl⟩, ⟨rfl, rfl⟩, trivial⟩ ?_
  exact ⟨_, rfl, rfl, H60.chg⟩

theorem open_long (bs : List (BitVec 8)) (hb : bs.length ≤ 140737488355328) (a0 : Option Addr) (n0 c0 : Nat) (hn0 : n0 = bs.length) (w : World) (hW : Rd E8 w a0 bs) (hc : bs.length ≤ c0) (h9 : 9 ≤ bs.length) (hs : sumOf bs = sumOk bs) (hk : ¬ 1 < (bs.getD 0 0#8).toNat) (h1 : bs.getD 0 0#8 = 1#8) (hl : 9 < bs.length) : Calls Tryd.prog 26 [.slice a0 n0 c0].toArray w (Ret fun v w' => v = .tuple #[u8 0#8, u32 0#32, .slice none 0 0, .bool false] ∧ Ext w w') := by
  subst hn0
  have H := Hp.start No w
  refine enter (n := 49) Tryd.func26 rfl rfl (Nat.le_of_ble_eq_true rfl) ?_
  refine seqRegion ?_
  refine sq (r_assign (v := u8 (0#8)) rfl) ?_
  refine sq (r_assign (v := u32 (0#32)) rfl) ?_
  refine sq (r_assign (v := .slice none 0 0) rfl) ?_
  refine sq (r_assign (v := .bool (false)) rfl) ?_
  refine wend ?_
  refine seqRegion ?_
  refine sq (r_move (v := .slice a0 bs.length c0) rfl) ?_
  refine sq (r_lenS sli30 (a := a0) (m := bs.length) (c := c0) rfl) ?_
  refine sq ((r_subI (a := (bs.length : Nat)) (b := (4 : Int)) rfl rfl (by omega)).as (v' := i64 ((bs.length - 4 : Nat))) (by congr 1; omega)) ?_
  refine sq (r_assign (v := i64 ((bs.length - 4 : Nat))) rfl) ?_
  refine wend ?_
  refine seqAny ?_
  refine seqAny ?_
  refine drawAny (K := [none, none, none, none, none, none, none, none, none, none, none, none, none, none, none, none, none, none, none, none, none, none, none, none, none, none, none, none, none]) [0, 1, 3, 7, 7, 31, 63, 7, 7, 391, 1023, 2047, 4095, 8191, 16383, 32767, 65535, 131071, 262143, 524287, 1048575, 2097151, 4194303, 8388607, 16777215, 33554431, 67108863, 134217727, 268435455] (fun w' => Ext w w') (fun w' w'' => Ext w' w'') mixed (by kernel_rfl) (Ext.drew _) (fun _ _ h h' => h.trans h') ?_ ?_
  · exact relNone (by decide)
  refine ⟨i64 ((bs.length - 4 : Nat)), fun _ uw1 hC2 _ => Gives.run rfl (r_move (v := i64 ((bs.length - 4 : Nat))) rfl) ⟨rfl, Chg.refl _ _⟩, ?_⟩
  refine ⟨.bool (false), fun _ uw3 hC4 _ => Gives.run rfl ((r_lssI (a := (bs.length - 4 : Nat)) (b := (5 : Int)) rfl rfl).as (v' := .bool (false)) (by exact congrArg Value.bool (decide_eq_false (by omega)))) ⟨rfl, Chg.refl _ _⟩, ?_⟩
  refine ⟨.bool (false), fun _ uw5 hC6 _ => Gives.run rfl (r_move (v := .bool (false)) rfl) ⟨rfl, Chg.refl _ _⟩, ?_⟩
  refine ⟨.slice a0 bs.length c0, fun _ uw7 hC8 _ => Gives.runW (wantedSome (d' := 12) (b := false) rfl rfl rfl) (r_move (v := .slice a0 bs.length c0) rfl) ⟨rfl, Chg.refl _ _⟩, ?_⟩
  refine ⟨i64 ((bs.length - 4 : Nat)), fun _ uw9 hC10 _ => Gives.runW (wantedSome (d' := 12) (b := false) rfl rfl rfl) (r_move (v := i64 ((bs.length - 4 : Nat))) rfl) ⟨rfl, Chg.refl _ _⟩, ?_⟩
  refine ⟨.slice (if c0 = bs.length - 4 then a0 else adr a0 ((bs.length - 4) * 1)) 4 (c0 - (bs.length - 4)), fun _ uw11 hC12 _ => Gives.runW (wantedSome (d' := 12) (b := false) rfl rfl rfl) ((r_sliceS (l := bs.length - 4) (h := bs.length) sli30 rfl (.inl ⟨_, _, _, rfl, rfl, by first | rfl | omega | (simp; omega)⟩) (.inr ⟨rfl, rfl⟩) (by omega) (by omega)).as (v' := .slice (if c0 = bs.length - 4 then a0 else adr a0 ((bs.length - 4) * 1)) 4 (c0 - (bs.length - 4))) (by rw [show bs.length - (bs.length - 4) = 4 by omega])) ⟨rfl, Chg.refl _ _⟩, ?_⟩
  refine ⟨u32 (whole ((bs.drop (bs.length - 4)).take (4))), fun _ uw13 hC14 _ => Gives.callW (wantedSome (d' := 12) (b := false) rfl rfl rfl) (Enters.callL (vs := [.slice (if c0 = bs.length - 4 then a0 else adr a0 ((bs.length - 4) * 1)) 4 (c0 - (bs.length - 4))]) call42 rfl) (whole_ok ((bs.drop (bs.length - 4)).take (4)) (by first | omega | (rw [List.length_take, List.length_drop]; omega) | (simp; omega)) (if c0 = bs.length - 4 then a0 else adr a0 ((bs.length - 4) * 1)) 4 (c0 - (bs.length - 4)) (by simp; omega) uw13 (Rd.sub (hW.ext (H.ext hC14).chg) (bs.length - 4) (4) (m := c0) (fun e => by first | exact absurd e (by omega) | (rw [show 4 = 0 by omega]; rfl)))), ?_⟩
  refine ⟨.slice a0 bs.length c0, fun _ uw15 hC16 _ => Gives.runW (wantedSome (d' := 12) (b := false) rfl rfl rfl) (r_move (v := .slice a0 bs.length c0) rfl) ⟨rfl, Chg.refl _ _⟩, ?_⟩
  refine ⟨i64 ((bs.length - 4 : Nat)), fun _ uw17 hC18 _ => Gives.runW (wantedSome (d' := 12) (b := false) rfl rfl rfl) (r_move (v := i64 ((bs.length - 4 : Nat))) rfl) ⟨rfl, Chg.refl _ _⟩, ?_⟩
  refine ⟨.slice (if c0 = 0 then a0 else adr a0 (0 * 1)) (bs.length - 4) (c0 - 0), fun _ uw19 hC20 _ => Gives.runW (wantedSome (d' := 12) (b := false) rfl rfl rfl) ((r_sliceS (l := 0) (h := bs.length - 4) sli30 rfl (.inr ⟨rfl, rfl⟩) (.inl ⟨_, _, _, rfl, rfl, by first | rfl | omega | (simp; omega)⟩) (by omega) (by omega)).as (v' := .slice (if c0 = 0 then a0 else adr a0 (0 * 1)) (bs.length - 4) (c0 - 0)) (by first | rfl | (congr 1; omega) | (simp; omega) | simp)) ⟨rfl, Chg.refl _ _⟩, ?_⟩
  refine ⟨u32 (crc ((bs.drop 0).take (bs.length - 4))), fun _ uw21 hC22 _ => Gives.callW (wantedSome (d' := 12) (b := false) rfl rfl rfl) (Enters.callL (vs := [.slice (if c0 = 0 then a0 else adr a0 (0 * 1)) (bs.length - 4) (c0 - 0)]) call43 rfl) (sum_ok ((bs.drop 0).take (bs.length - 4)) (by first | omega | (rw [List.length_take, List.length_drop]; omega) | (simp; omega)) (if c0 = 0 then a0 else adr a0 (0 * 1)) (bs.length - 4) (c0 - 0) (by simp) uw21 (Rd.sub (hW.ext (H.ext hC22).chg) 0 (bs.length - 4) (m := c0) (fun e => by first | exact absurd e (by omega) | (rw [show bs.length - 4 = 0 by omega]; rfl)))), ?_⟩
  refine ⟨.bool (false), fun _ uw23 hC24 _ => Gives.runW (wantedSome (d' := 12) (b := false) rfl rfl rfl) ((r_neq32 (a := whole ((bs.drop (bs.length - 4)).take (4))) (b := crc ((bs.drop 0).take (bs.length - 4))) rfl rfl).as (v' := .bool (false)) (by exact congrArg Value.bool (decide_eq_false (fun h => h hs)))) ⟨rfl, Chg.refl _ _⟩, ?_⟩
  refine ⟨.bool (false), fun _ uw25 hC26 _ => Gives.run rfl (r_pickF (v := .bool (false)) rfl rfl) ⟨rfl, Chg.refl _ _⟩, ?_⟩
  refine ⟨.bool (false), fun _ uw27 hC28 _ => Gives.run rfl (r_move (v := .bool (false)) rfl) ⟨rfl, Chg.refl _ _⟩, ?_⟩
  refine ⟨.slice a0 bs.length c0, fun _ uw29 hC30 _ => Gives.runW (wantedSome (d' := 23) (b := false) rfl rfl rfl) (r_move (v := .slice a0 bs.length c0) rfl) ⟨rfl, Chg.refl _ _⟩, ?_⟩
  refine ⟨.pointer (adr a0 (0 * 1)), fun _ uw31 hC32 _ => Gives.runW (wantedSome (d' := 23) (b := false) rfl rfl rfl) (r_idxS (E := E8) (l := bs) (j := 0) sli30 (hW.ext (H.ext hC32).chg) rfl rfl (by first | rfl | omega | (simp; omega)) (by rfl) (by omega)) ⟨rfl, Chg.refl _ _⟩, ?_⟩
  refine ⟨u8 ((bs).getD 0 0#8), fun _ uw33 hC34 _ => Gives.runW (wantedSome (d' := 23) (b := false) rfl rfl rfl) (r_ldS (E := E8) (l := bs) (j := 0) (v := (bs).getD 0 0#8) fits5 (hW.ext (H.ext hC34).chg) rfl rfl (at_getD (by omega))) ⟨rfl, Chg.refl _ _⟩, ?_⟩
  refine ⟨.bool (false), fun _ uw35 hC36 _ => Gives.runW (wantedSome (d' := 23) (b := false) rfl rfl rfl) ((r_gtr8 (a := (bs).getD 0 0#8) (b := 1#8) rfl rfl).as (v' := .bool (false)) (by exact congrArg Value.bool (decide_eq_false hk))) ⟨rfl, Chg.refl _ _⟩, ?_⟩
  refine ⟨.bool (false), fun _ uw37 hC38 _ => Gives.run rfl (r_pickF (v := .bool (false)) rfl rfl) ⟨rfl, Chg.refl _ _⟩, ?_⟩
  refine ⟨.bool (false), fun _ uw39 hC40 _ => Gives.run rfl (r_move (v := .bool (false)) rfl) ⟨rfl, Chg.refl _ _⟩, ?_⟩
  refine ⟨.slice a0 bs.length c0, fun _ uw41 hC42 _ => Gives.runW (wantedSome (d' := 29) (b := false) rfl rfl rfl) (r_move (v := .slice a0 bs.length c0) rfl) ⟨rfl, Chg.refl _ _⟩, ?_⟩
  refine ⟨.pointer (adr a0 (0 * 1)), fun _ uw43 hC44 _ => Gives.runW (wantedSome (d' := 29) (b := false) rfl rfl rfl) (r_idxS (E := E8) (l := bs) (j := 0) sli30 (hW.ext (H.ext hC44).chg) rfl rfl (by first | rfl | omega | (simp; omega)) (by rfl) (by omega)) ⟨rfl, Chg.refl _ _⟩, ?_⟩
  refine ⟨u8 ((bs).getD 0 0#8), fun _ uw45 hC46 _ => Gives.runW (wantedSome (d' := 29) (b := false) rfl rfl rfl) (r_ldS (E := E8) (l := bs) (j := 0) (v := (bs).getD 0 0#8) fits5 (hW.ext (H.ext hC46).chg) rfl rfl (at_getD (by omega))) ⟨rfl, Chg.refl _ _⟩, ?_⟩
  refine ⟨.bool (true), fun _ uw47 hC48 _ => Gives.runW (wantedSome (d' := 29) (b := false) rfl rfl rfl) ((r_eql8 (a := (bs).getD 0 0#8) (b := 1#8) rfl rfl).as (v' := .bool (true)) (by exact congrArg Value.bool (decide_eq_true h1))) ⟨rfl, Chg.refl _ _⟩, ?_⟩
  refine ⟨.bool (true), fun _ uw49 hC50 _ => Gives.runW (wantedSome (d' := 29) (b := false) rfl rfl rfl) (r_move (v := .bool (true)) rfl) ⟨rfl, Chg.refl _ _⟩, ?_⟩
  refine ⟨i64 ((bs.length - 4 : Nat)), fun _ uw51 hC52 _ => Gives.runW (wantedSome (d' := 34) (b := true) rfl rfl rfl) (r_move (v := i64 ((bs.length - 4 : Nat))) rfl) ⟨rfl, Chg.refl _ _⟩, ?_⟩
  refine ⟨.bool (true), fun _ uw53 hC54 _ => Gives.runW (wantedSome (d' := 34) (b := true) rfl rfl rfl) ((r_gtrI (a := (bs.length - 4 : Nat)) (b := (5 : Int)) rfl rfl).as (v' := .bool (true)) (by exact congrArg Value.bool (decide_eq_true (by omega)))) ⟨rfl, Chg.refl _ _⟩, ?_⟩
  refine ⟨.bool (true), fun _ uw55 hC56 _ => Gives.runW (wantedSome (d' := 29) (b := false) rfl rfl rfl) (r_pickT (u := .bool (true)) rfl rfl) ⟨rfl, Chg.refl _ _⟩, ?_⟩
  refine ⟨.bool (true), fun _ uw57 hC58 _ => Gives.run rfl (r_pickF (v := .bool (true)) rfl rfl) ⟨rfl, Chg.refl _ _⟩, ?_⟩
  intro r62 w59 hE61 hF
  have H60 := H.ext hE61
  refine wnil ?_
  refine thenNormal ?_
  refine condTrue rfl ?_
  refine seqRegion ?_
  refine sq (r_assign (v := u8 (0#8)) rfl) ?_
  refine sq (r_assign (v := u32 (0#32)) rfl) ?_
  refine sq (r_assign (v := .slice none 0 0) rfl) ?_
  refine sq (r_assign (v := .bool (false)) rfl) ?_
  refine wend ?_
  refine retAny ?_
  refine thenRet ?_
  refine retG (rs := [.tmp 2, .tmp 3, .tmp 4, .tmp 5]) (vs := [u8 (0#8), u32 (0#32), .slice none 0 0, .bool (false)]) rfl ⟨⟨rfl, rfl⟩, ⟨rfl, rfl⟩, ⟨rfl, rfl⟩, ⟨rfl, rfl⟩, trivial⟩ ?_
  exact ⟨_, rfl, rfl, H60.chg⟩

theorem open_data (bs : List (BitVec 8)) (hb : bs.length ≤ 140737488355328) (a0 : Option Addr) (n0 c0 : Nat) (hn0 : n0 = bs.length) (w : World) (hW : Rd E8 w a0 bs) (hc : bs.length ≤ c0) (h9 : 9 ≤ bs.length) (hs : sumOf bs = sumOk bs) (hk : ¬ 1 < (bs.getD 0 0#8).toNat) (h1 : ¬ bs.getD 0 0#8 = 1#8) : Calls Tryd.prog 26 [.slice a0 n0 c0].toArray w (Ret fun v w' => (∃ pv, v = .tuple #[u8 (bs.getD 0 0#8), u32 (whole ((bs.drop 1).take (bs.length - 1))), pv, .bool true] ∧ SlRes E8 5 ((bs.drop 5).take (bs.length - 4 - 5)) w pv w') ∧ Ext w w') := by
  subst hn0
  have H := Hp.start No w
  refine enter (n := 49) Tryd.func26 rfl rfl (Nat.le_of_ble_eq_true rfl) ?_
  refine seqRegion ?_
  refine sq (r_assign (v := u8 (0#8)) rfl) ?_
  refine sq (r_assign (v := u32 (0#32)) rfl) ?_
  refine sq (r_assign (v := .slice none 0 0) rfl) ?_
  refine sq (r_assign (v := .bool (false)) rfl) ?_
  refine wend ?_
  refine seqRegion ?_
  refine sq (r_move (v := .slice a0 bs.length c0) rfl) ?_
  refine sq (r_lenS sli30 (a := a0) (m := bs.length) (c := c0) rfl) ?_
  refine sq ((r_subI (a := (bs.length : Nat)) (b := (4 : Int)) rfl rfl (by omega)).as (v' := i64 ((bs.length - 4 : Nat))) (by congr 1; omega)) ?_
  refine sq (r_assign (v := i64 ((bs.length - 4 : Nat))) rfl) ?_
  refine wend ?_
  refine seqAny ?_
  refine seqAny ?_
  refine drawAny (K := [none, none, none, none, none, none, none, none, none, none, none, none, none, none, none, none, none, none, none, none, none, none, none, none, none, none, none, none, none]) [0, 1, 3, 7, 7, 31, 63, 7, 7, 391, 1023, 2047, 4095, 8191, 16383, 32767, 65535, 131071, 262143, 524287, 1048575, 2097151, 4194303, 8388607, 16777215, 33554431, 67108863, 134217727, 268435455] (fun w' => Ext w w') (fun w' w'' => Ext w' w'') mixed (by kernel_rfl) (Ext.drew _) (fun _ _ h h' => h.trans h') ?_ ?_
  · exact relNone (by decide)
  refine ⟨i64 ((bs.length - 4 : Nat)), fun _ uw1 hC2 _ => Gives.run rfl (r_move (v := i64 ((bs.length - 4 : Nat))) rfl) ⟨rfl, Chg.refl _ _⟩, ?_⟩
  refine ⟨.bool (false), fun _ uw3 hC4 _ => Gives.run rfl ((r_lssI (a := (bs.length - 4 : Nat)) (b := (5 : Int)) rfl rfl).as (v' := .bool (false)) (by exact congrArg Value.bool (decide_eq_false (by omega)))) ⟨rfl, Chg.refl _ _⟩, ?_⟩
  refine ⟨.bool (false), fun _ uw5 hC6 _ => Gives.run rfl (r_move (v := .bool (false)) rfl) ⟨rfl, Chg.refl _ _⟩, ?_⟩
  refine ⟨.slice a0 bs.length c0, fun _ uw7 hC8 _ => Gives.runW (wantedSome (d' := 12) (b := false) rfl rfl rfl) (r_move (v := .slice a0 bs.length c0) rfl) ⟨rfl, Chg.refl _ _⟩, ?_⟩
  refine ⟨i64 ((bs.length - 4 : Nat)), fun _ uw9 hC10 _ => Gives.runW (wantedSome (d' := 12) (b := false) rfl rfl rfl) (r_move (v := i64 ((bs.length - 4 : Nat))) rfl) ⟨rfl, Chg.refl _ _⟩, ?_⟩
  refine ⟨.slice (if c0 = bs.length - 4 then a0 else adr a0 ((bs.length - 4) * 1)) 4 (c0 - (bs.length - 4)), fun _ uw11 hC12 _ => Gives.runW (wantedSome (d' := 12) (b := false) rfl rfl rfl) ((r_sliceS (l := bs.length - 4) (h := bs.length) sli30 rfl (.inl ⟨_, _, _, rfl, rfl, by first | rfl | omega | (simp; omega)⟩) (.inr ⟨rfl, rfl⟩) (by omega) (by omega)).as (v' := .slice (if c0 = bs.length - 4 then a0 else adr a0 ((bs.length - 4) * 1)) 4 (c0 - (bs.length - 4))) (by rw [show bs.length - (bs.length - 4) = 4 by omega])) ⟨rfl, Chg.refl _ _⟩, ?_⟩
  refine ⟨u32 (whole ((bs.drop (bs.length - 4)).take (4))), fun _ uw13 hC14 _ => Gives.callW (wantedSome (d' := 12) (b := false) rfl rfl rfl) (Enters.callL (vs := [.slice (if c0 = bs.length - 4 then a0 else adr a0 ((bs.length - 4) * 1)) 4 (c0 - (bs.length - 4))]) call42 rfl) (whole_ok ((bs.drop (bs.length - 4)).take (4)) (by first | omega | (rw [List.length_take, List.length_drop]; omega) | (simp; omega)) (if c0 = bs.length - 4 then a0 else adr a0 ((bs.length - 4) * 1)) 4 (c0 - (bs.length - 4)) (by simp; omega) uw13 (Rd.sub (hW.ext (H.ext hC14).chg) (bs.length - 4) (4) (m := c0) (fun e => by first | exact absurd e (by omega) | (rw [show 4 = 0 by omega]; rfl)))), ?_⟩
  refine ⟨.slice a0 bs.length c0, fun _ uw15 hC16 _ => Gives.runW (wantedSome (d' := 12) (b := false) rfl rfl rfl) (r_move (v := .slice a0 bs.length c0) rfl) ⟨rfl, Chg.refl _ _⟩, ?_⟩
  refine ⟨i64 ((bs.length - 4 : Nat)), fun _ uw17 hC18 _ => Gives.runW (wantedSome (d' := 12) (b := false) rfl rfl rfl) (r_move (v := i64 ((bs.length - 4 : Nat))) rfl) ⟨rfl, Chg.refl _ _⟩, ?_⟩
  refine ⟨.slice (if c0 = 0 then a0 else adr a0 (0 * 1)) (bs.length - 4) (c0 - 0), fun _ uw19 hC20 _ => Gives.runW (wantedSome (d' := 12) (b := false) rfl rfl rfl) ((r_sliceS (l := 0) (h := bs.length - 4) sli30 rfl (.inr ⟨rfl, rfl⟩) (.inl ⟨_, _, _, rfl, rfl, by first | rfl | omega | (simp; omega)⟩) (by omega) (by omega)).as (v' := .slice (if c0 = 0 then a0 else adr a0 (0 * 1)) (bs.length - 4) (c0 - 0)) (by first | rfl | (congr 1; omega) | (simp; omega) | simp)) ⟨rfl, Chg.refl _ _⟩, ?_⟩
  refine ⟨u32 (crc ((bs.drop 0).take (bs.length - 4))), fun _ uw21 hC22 _ => Gives.callW (wantedSome (d' := 12) (b := false) rfl rfl rfl) (Enters.callL (vs := [.slice (if c0 = 0 then a0 else adr a0 (0 * 1)) (bs.length - 4) (c0 - 0)]) call43 rfl) (sum_ok ((bs.drop 0).take (bs.length - 4)) (by first | omega | (rw [List.length_take, List.length_drop]; omega) | (simp; omega)) (if c0 = 0 then a0 else adr a0 (0 * 1)) (bs.length - 4) (c0 - 0) (by simp) uw21 (Rd.sub (hW.ext (H.ext hC22).chg) 0 (bs.length - 4) (m := c0) (fun e => by first | exact absurd e (by omega) | (rw [show bs.length - 4 = 0 by omega]; rfl)))), ?_⟩
  refine ⟨.bool (false), fun _ uw23 hC24 _ => Gives.runW (wantedSome (d' := 12) (b := false) rfl rfl rfl) ((r_neq32 (a := whole ((bs.drop (bs.length - 4)).take (4))) (b := crc ((bs.drop 0).take (bs.length - 4))) rfl rfl).as (v' := .bool (false)) (by exact congrArg Value.bool (decide_eq_false (fun h => h hs)))) ⟨rfl, Chg.refl _ _⟩, ?_⟩
  refine ⟨.bool (false), fun _ uw25 hC26 _ => Gives.run rfl (r_pickF (v := .bool (false)) rfl rfl) ⟨rfl, Chg.refl _ _⟩, ?_⟩
  refine ⟨.bool (false), fun _ uw27 hC28 _ => Gives.run rfl (r_move (v := .bool (false)) rfl) ⟨rfl, Chg.refl _ _⟩, ?_⟩
  refine ⟨.slice a0 bs.length c0, fun _ uw29 hC30 _ => Gives.runW (wantedSome (d' := 23) (b := false) rfl rfl rfl) (r_move (v := .slice a0 bs.length c0) rfl) ⟨rfl, Chg.refl _ _⟩, ?_⟩
  refine ⟨.pointer (adr a0 (0 * 1)), fun _ uw31 hC32 _ => Gives.runW (wantedSome (d' := 23) (b := false) rfl rfl rfl) (r_idxS (E := E8) (l := bs) (j := 0) sli30 (hW.ext (H.ext hC32).chg) rfl rfl (by first | rfl | omega | (simp; omega)) (by rfl) (by omega)) ⟨rfl, Chg.refl _ _⟩, ?_⟩
  refine ⟨u8 ((bs).getD 0 0#8), fun _ uw33 hC34 _ => Gives.runW (wantedSome (d' := 23) (b := false) rfl rfl rfl) (r_ldS (E := E8) (l := bs) (j := 0) (v := (bs).getD 0 0#8) fits5 (hW.ext (H.ext hC34).chg) rfl rfl (at_getD (by omega))) ⟨rfl, Chg.refl _ _⟩, ?_⟩
  refine ⟨.bool (false), fun _ uw35 hC36 _ => Gives.runW (wantedSome (d' := 23) (b := false) rfl rfl rfl) ((r_gtr8 (a := (bs).getD 0 0#8) (b := 1#8) rfl rfl).as (v' := .bool (false)) (by exact congrArg Value.bool (decide_eq_false hk))) ⟨rfl, Chg.refl _ _⟩, ?_⟩
  refine ⟨.bool (false), fun _ uw37 hC38 _ => Gives.run rfl (r_pickF (v := .bool (false)) rfl rfl) ⟨rfl, Chg.refl _ _⟩, ?_⟩
  refine ⟨.bool (false), fun _ uw39 hC40 _ => Gives.run rfl (r_move (v := .bool (false)) rfl) ⟨rfl, Chg.refl _ _⟩, ?_⟩
  refine ⟨.slice a0 bs.length c0, fun _ uw41 hC42 _ => Gives.runW (wantedSome (d' := 29) (b := false) rfl rfl rfl) (r_move (v := .slice a0 bs.length c0) rfl) ⟨rfl, Chg.refl _ _⟩, ?_⟩
  refine ⟨.pointer (adr a0 (0 * 1)), fun _ uw43 hC44 _ => Gives.runW (wantedSome (d' := 29) (b := false) rfl rfl rfl) (r_idxS (E := E8) (l := bs) (j := 0) sli30 (hW.ext (H.ext hC44).chg) rfl rfl (by first | rfl | omega | (simp; omega)) (by rfl) (by omega)) ⟨rfl, Chg.refl _ _⟩, ?_⟩
  refine ⟨u8 ((bs).getD 0 0#8), fun _ uw45 hC46 _ => Gives.runW (wantedSome (d' := 29) (b := false) rfl rfl rfl) (r_ldS (E := E8) (l := bs) (j := 0) (v := (bs).getD 0 0#8) fits5 (hW.ext (H.ext hC46).chg) rfl rfl (at_getD (by omega))) ⟨rfl, Chg.refl _ _⟩, ?_⟩
  refine ⟨.bool (false), fun _ uw47 hC48 _ => Gives.runW (wantedSome (d' := 29) (b := false) rfl rfl rfl) ((r_eql8 (a := (bs).getD 0 0#8) (b := 1#8) rfl rfl).as (v' := .bool (false)) (by exact congrArg Value.bool (decide_eq_false h1))) ⟨rfl, Chg.refl _ _⟩, ?_⟩
  refine ⟨.bool (false), fun _ uw49 hC50 _ => Gives.runW (wantedSome (d' := 29) (b := false) rfl rfl rfl) (r_move (v := .bool (false)) rfl) ⟨rfl, Chg.refl _ _⟩, ?_⟩
  refine ⟨undef, fun _ uw51 hC52 _ => Gives.off (wantedSome (d' := 34) (b := false) rfl rfl rfl) ⟨rfl, Chg.refl _ _⟩, ?_⟩
  refine ⟨undef, fun _ uw53 hC54 _ => Gives.off (wantedSome (d' := 34) (b := false) rfl rfl rfl) ⟨rfl, Chg.refl _ _⟩, ?_⟩
  refine ⟨.bool (false), fun _ uw55 hC56 _ => Gives.runW (wantedSome (d' := 29) (b := false) rfl rfl rfl) (r_pickF (v := .bool (false)) rfl rfl) ⟨rfl, Chg.refl _ _⟩, ?_⟩
  refine ⟨.bool (false), fun _ uw57 hC58 _ => Gives.run rfl (r_pickF (v := .bool (false)) rfl rfl) ⟨rfl, Chg.refl _ _⟩, ?_⟩
  intro r62 w59 hE61 hF
  have H60 := H.ext hE61
  refine wnil ?_
  refine thenNormal ?_
  refine condFalse rfl ?_
  refine skipAny ?_
  refine thenNormal ?_
  refine seqAny ?_
  refine drawC (m := 14) [0, 1, 3, 0, 8, 24, 0, 0, 192, 504, 1023, 2047, 4095, 8191] [5, 9] (fun q vs w' => match q, vs with | 0, [] => Hp No w w' [] | 1, [v0] => v0 = u32 (whole ((bs.drop 1).take (bs.length - 1))) ∧ Hp No w w' [] | 2, [v0, v1] => ∃ (key74 : Option Nat) (c75 : Nat) (sp76 : List Value), v0 = u32 (whole ((bs.drop 1).take (bs.length - 1))) ∧ v1 = .slice (ownA key74) ((bs.length - 4) - 5) c75 ∧ Sl E8 key74 ((bs.drop 5).take ((bs.length - 4) - 5)) c75 sp76 ∧ Hp No w w' [(key74, sob E8 5 ((bs.drop 5).take ((bs.length - 4) - 5)) sp76)] | _, _ => False) mixed (by kernel_rfl) (by kernel_rfl) H60.drew ?_
  refine WalkC.look rfl (fun _ => .slice a0 bs.length c0) (fun _ _ _ => rfl) (fun q r uw _ _ _ _ => Gives.run rfl (r_move (v := .slice a0 bs.length c0) rfl) ⟨rfl, rfl⟩) ?_
  refine WalkC.look rfl (fun _ => .pointer (adr a0 (0 * 1))) (fun _ _ _ => rfl) (fun q r uw hlo hhi hle hF => ?_) ?_
  · skip
    have h1 : 0 ≤ q := Nat.zero_le _
    have h2 : q ≤ 2 := hle
    rcases (show q = 0 ∨ q = 1 ∨ q = 2 by omega) with rfl | rfl | rfl
    · skip
      have HH := hF
      exact Gives.run rfl (r_idxS (E := E8) (l := bs) (j := 0) sli30 (hW.ext HH.chg) rfl rfl (by first | rfl | omega | (simp; omega)) (by rfl) (by omega)) ⟨rfl, rfl⟩
    · skip
      obtain ⟨e5, HH⟩ := hF
      exact Gives.run rfl (r_idxS (E := E8) (l := bs) (j := 0) sli30 (hW.ext HH.chg) rfl rfl (by first | rfl | omega | (simp; omega)) (by rfl) (by omega)) ⟨rfl, rfl⟩
    · skip
      obtain ⟨key74, c75, sp76, e5, e9, hS77, HH⟩ := hF
      exact Gives.run rfl (r_idxS (E := E8) (l := bs) (j := 0) sli30 (hW.ext HH.chg) rfl rfl (by first | rfl | omega | (simp; omega)) (by rfl) (by omega)) ⟨rfl, rfl⟩
  refine WalkC.look rfl (fun _ => u8 ((bs).getD 0 0#8)) (fun _ _ _ => rfl) (fun q r uw hlo hhi hle hF => ?_) ?_
  · skip
    have h1 : 0 ≤ q := Nat.zero_le _
    have h2 : q ≤ 2 := hle
    rcases (show q = 0 ∨ q = 1 ∨ q = 2 by omega) with rfl | rfl | rfl
    · skip
      have HH := hF
      exact Gives.run rfl (r_ldS (E := E8) (l := bs) (j := 0) (v := (bs).getD 0 0#8) fits5 (hW.ext HH.chg) rfl rfl (at_getD (by omega))) ⟨rfl, rfl⟩
    · skip
      obtain ⟨e5, HH⟩ := hF
      exact Gives.run rfl (r_ldS (E := E8) (l := bs) (j := 0) (v := (bs).getD 0 0#8) fits5 (hW.ext HH.chg) rfl rfl (at_getD (by omega))) ⟨rfl, rfl⟩
    · skip
      obtain ⟨key74, c75, sp76, e5, e9, hS77, HH⟩ := hF
      exact Gives.run rfl (r_ldS (E := E8) (l := bs) (j := 0) (v := (bs).getD 0 0#8) fits5 (hW.ext HH.chg) rfl rfl (at_getD (by omega))) ⟨rfl, rfl⟩
  refine WalkC.look rfl (fun _ => .slice a0 bs.length c0) (fun _ _ _ => rfl) (fun q r uw _ _ _ _ => Gives.run rfl (r_move (v := .slice a0 bs.length c0) rfl) ⟨rfl, rfl⟩) ?_
  refine WalkC.look rfl (fun _ => .slice (if c0 = 1 then a0 else adr a0 (1 * 1)) (bs.length - 1) (c0 - 1)) (fun _ _ _ => rfl) (fun q r uw _ _ _ _ => Gives.run rfl ((r_sliceS (l := 1) (h := bs.length) sli30 rfl (.inl ⟨_, _, _, rfl, rfl, by first | rfl | omega | (simp; omega)⟩) (.inr ⟨rfl, rfl⟩) (by omega) (by omega)).as (v' := .slice (if c0 = 1 then a0 else adr a0 (1 * 1)) (bs.length - 1) (c0 - 1)) (by first | rfl | (congr 1; omega) | (simp; omega) | simp)) ⟨rfl, rfl⟩) ?_
  refine WalkC.eff 0 rfl (fun r uw63 hF65 => ?_) ?_
  · skip
    have H64 := hF65
    dsimp only [List.take, List.map, List.cons_append, List.nil_append]
    refine Gives.ofW (d := 44) rfl rfl (fun Q' hK => ?_)
    refine c_call (vs := [.slice (if c0 = 1 then a0 else adr a0 (1 * 1)) (bs.length - 1) (c0 - 1)]) call42 rfl (whole_ok ((bs.drop 1).take (bs.length - 1)) (by first | omega | (rw [List.length_take, List.length_drop]; omega) | (simp; omega)) (if c0 = 1 then a0 else adr a0 (1 * 1)) (bs.length - 1) (c0 - 1) (by simp) uw63 (Rd.sub (hW.ext H64.chg) 1 (bs.length - 1) (m := c0) (fun e => by first | exact absurd e (by omega) | (rw [show bs.length - 1 = 0 by omega]; rfl)))) ?_
    rintro _ w66 ⟨rfl, hE67⟩
    have H68 := H64.ext hE67
    exact hK _ _ ⟨rfl, H68⟩
  refine WalkC.look rfl (fun _ => .slice a0 bs.length c0) (fun _ _ _ => rfl) (fun q r uw _ _ _ _ => Gives.run rfl (r_move (v := .slice a0 bs.length c0) rfl) ⟨rfl, rfl⟩) ?_
  refine WalkC.look rfl (fun _ => i64 ((bs.length - 4 : Nat))) (fun _ _ _ => rfl) (fun q r uw _ _ _ _ => Gives.run rfl (r_move (v := i64 ((bs.length - 4 : Nat))) rfl) ⟨rfl, rfl⟩) ?_
  refine WalkC.look rfl (fun _ => .slice (if c0 = 5 then a0 else adr a0 (5 * 1)) ((bs.length - 4) - 5) (c0 - 5)) (fun _ _ _ => rfl) (fun q r uw _ _ _ _ => Gives.run rfl ((r_sliceS (l := 5) (h := bs.length - 4) sli30 rfl (.inl ⟨_, _, _, rfl, rfl, by first | rfl | omega | (simp; omega)⟩) (.inl ⟨_, _, _, rfl, rfl, by first | rfl | omega | (simp; omega)⟩) (by omega) (by omega)).as (v' := .slice (if c0 = 5 then a0 else adr a0 (5 * 1)) ((bs.length - 4) - 5) (c0 - 5)) (by first | rfl | (congr 1; omega) | (simp; omega) | simp)) ⟨rfl, rfl⟩) ?_
  refine WalkC.eff 1 rfl (fun r uw69 hF71 => ?_) ?_
  · skip
    obtain ⟨e5, H70⟩ := hF71
    dsimp only [List.take, List.map, List.cons_append, List.nil_append]
    rw [e5]
    refine Gives.ofW (d := 48) rfl rfl (fun Q' hK => ?_)
    refine c_call (vs := [.slice (if c0 = 5 then a0 else adr a0 (5 * 1)) ((bs.length - 4) - 5) (c0 - 5)]) call35 rfl (clone8_ok ((bs.drop 5).take ((bs.length - 4) - 5)) (by first | omega | (rw [List.length_take, List.length_drop]; omega) | (simp; omega)) (if c0 = 5 then a0 else adr a0 (5 * 1)) ((bs.length - 4) - 5) (c0 - 5) (by simp; omega) uw69 (Rd.sub (hW.ext H70.chg) 5 ((bs.length - 4) - 5) (m := c0) (fun e => by first | exact absurd e (by omega) | (rw [show (bs.length - 4) - 5 = 0 by omega]; rfl)))) ?_
    rintro _ w72 ⟨⟨key74, c75, sp76, rfl, hS77, hk78⟩, hE79⟩
    rw [show ((bs.drop 5).take ((bs.length - 4) - 5)).length = (bs.length - 4) - 5 from by first | rfl | (simp; omega) | omega]
    have H80 := H70.add hE79 hk78
    exact hK _ _ ⟨key74, c75, sp76, rfl, rfl, hS77, H80⟩
  refine WalkC.look rfl (fun _ => u8 ((bs).getD 0 0#8)) (fun _ _ _ => rfl) (fun q r uw _ _ _ _ => Gives.run rfl (r_assign (v := u8 ((bs).getD 0 0#8)) rfl) ⟨rfl, rfl⟩) ?_
  refine WalkC.look rfl (fun r => r 5) (fun r r' h => h 5 (by decide) rfl) (fun q r uw _ _ _ _ => Gives.run rfl (r_assign rfl) ⟨rfl, rfl⟩) ?_
  refine WalkC.look rfl (fun r => r 9) (fun r r' h => h 9 (by decide) rfl) (fun q r uw _ _ _ _ => Gives.run rfl (r_assign rfl) ⟨rfl, rfl⟩) ?_
  refine WalkC.look rfl (fun _ => .bool (true)) (fun _ _ _ => rfl) (fun q r uw _ _ _ _ => Gives.run rfl (r_assign (v := .bool (true)) rfl) ⟨rfl, rfl⟩) ?_
  refine WalkC.nil ?_
  intro r81 w82 hF84
  obtain ⟨key74, c75, sp76, e5, e9, hS77, H83⟩ := hF84
  dsimp only
  rw [e5, e9]
  refine wnil ?_
  refine thenNormal ?_
  refine retAny ?_
  refine retG (rs := [.tmp 2, .tmp 3, .tmp 4, .tmp 5]) (vs := [u8 ((bs).getD 0 0#8), u32 (whole ((bs.drop 1).take (bs.length - 1))), .slice (ownA key74) ((bs.length - 4) - 5) c75, .bool (true)]) rfl ⟨⟨rfl, rfl⟩, ⟨rfl, rfl⟩, ⟨rfl, rfl⟩, ⟨rfl, rfl⟩, trivial⟩ ?_
  exact ⟨_, rfl, ⟨_, rfl, H83.resN (k := 0) rfl hS77 (by simp; omega)⟩, H83.chg⟩

theorem open_ack (bs : List (BitVec 8)) (hb : bs.length ≤ 140737488355328) (a0 : Option Addr) (n0 c0 : Nat) (hn0 : n0 = bs.length) (w : World) (hW : Rd E8 w a0 bs) (hc : bs.length ≤ c0) (h9 : 9 ≤ bs.length) (hs : sumOf bs = sumOk bs) (hk : ¬ 1 < (bs.getD 0 0#8).toNat) (h1 : bs.getD 0 0#8 = 1#8) (hl : bs.length ≤ 9) : Calls Tryd.prog 26 [.slice a0 n0 c0].toArray w (Ret fun v w' => (∃ pv, v = .tuple #[u8 (bs.getD 0 0#8), u32 (whole ((bs.drop 1).take (bs.length - 1))), pv, .bool true] ∧ SlRes E8 5 ((bs.drop 5).take (bs.length - 4 - 5)) w pv w') ∧ Ext w w') := by
  subst hn0
  have H := Hp.start No w
  refine enter (n := 49) Tryd.func26 rfl rfl (Nat.le_of_ble_eq_true rfl) ?_
  refine seqRegion ?_
  refine sq (r_assign (v := u8 (0#8)) rfl) ?_
  refine sq (r_assign (v := u32 (0#32)) rfl) ?_
  refine sq (r_assign (v := .slice none 0 0) rfl) ?_
  refine sq (r_assign (v := .bool (false)) rfl) ?_
  refine wend ?_
  refine seqRegion ?_
  refine sq (r_move (v := .slice a0 bs.length c0) rfl) ?_
  refine sq (r_lenS sli30 (a := a0) (m := bs.length) (c := c0) rfl) ?_
  refine sq ((r_subI (a := (bs.length : Nat)) (b := (4 : Int)) rfl rfl (by omega)).as (v' := i64 ((bs.length - 4 : Nat))) (by congr 1; omega)) ?_
  refine sq (r_assign (v := i64 ((bs.length - 4 : Nat))) rfl) ?_
  refine wend ?_
  refine seqAny ?_
  refine seqAny ?_
  refine drawAny (K := [none, none, none, none, none, none, none, none, none, none, none, none, none, none, none, none, none, none, none, none, none, none, none, none, none, none, none, none, none]) [0, 1, 3, 7, 7, 31, 63, 7, 7, 391, 1023, 2047, 4095, 8191, 16383, 32767, 65535, 131071, 262143, 524287, 1048575, 2097151, 4194303, 8388607, 16777215, 33554431, 67108863, 134217727, 268435455] (fun w' => Ext w w') (fun w' w'' => Ext w' w'') mixed (by kernel_rfl) (Ext.drew _) (fun _ _ h h' => h.trans h') ?_ ?_
  · exact relNone (by decide)
  refine ⟨i64 ((bs.length - 4 : Nat)), fun _ uw1 hC2 _ => Gives.run rfl (r_move (v := i64 ((bs.length - 4 : Nat))) rfl) ⟨rfl, Chg.refl _ _⟩, ?_⟩
  refine ⟨.bool (false), fun _ uw3 hC4 _ => Gives.run rfl ((r_lssI (a := (bs.length - 4 : Nat)) (b := (5 : Int)) rfl rfl).as (v' := .bool (false)) (by exact congrArg Value.bool (decide_eq_false (by omega)))) ⟨rfl, Chg.refl _ _⟩, ?_⟩
  refine ⟨.bool (false), fun _ uw5 hC6 _ => Gives.run rfl (r_move (v := .bool (false)) rfl) ⟨rfl, Chg.refl _ _⟩, ?_⟩
  refine ⟨.slice a0 bs.length c0, fun _ uw7 hC8 _ => Gives.runW (wantedSome (d' := 12) (b := false) rfl rfl rfl) (r_move (v := .slice a0 bs.length c0) rfl) ⟨rfl, Chg.refl _ _⟩, ?_⟩
  refine ⟨i64 ((bs.length - 4 : Nat)), fun _ uw9 hC10 _ => Gives.runW (wantedSome (d' := 12) (b := false) rfl rfl rfl) (r_move (v := i64 ((bs.length - 4 : Nat))) rfl) ⟨rfl, Chg.refl _ _⟩, ?_⟩
  refine ⟨.slice (if c0 = bs.length - 4 then a0 else adr a0 ((bs.length - 4) * 1)) 4 (c0 - (bs.length - 4)), fun _ uw11 hC12 _ => Gives.runW (wantedSome (d' := 12) (b := false) rfl rfl rfl) ((r_sliceS (l := bs.length - 4) (h := bs.length) sli30 rfl (.inl ⟨_, _, _, rfl, rfl, by first | rfl | omega | (simp; omega)⟩) (.inr ⟨rfl, rfl⟩) (by omega) (by omega)).as (v' := .slice (if c0 = bs.length - 4 then a0 else adr a0 ((bs.length - 4) * 1)) 4 (c0 - (bs.length - 4))) (by rw [show bs.length - (bs.length - 4) = 4 by omega])) ⟨rfl, Chg.refl _ _⟩, ?_⟩
  refine ⟨u32 (whole ((bs.drop (bs.length - 4)).take (4))), fun _ uw13 hC14 _ => Gives.callW (wantedSome (d' := 12) (b := false) rfl rfl rfl) (Enters.callL (vs := [.slice (if c0 = bs.length - 4 then a0 else adr a0 ((bs.length - 4) * 1)) 4 (c0 - (bs.length - 4))]) call42 rfl) (whole_ok ((bs.drop (bs.length - 4)).take (4)) (by first | omega | (rw [List.length_take, List.length_drop]; omega) | (simp; omega)) (if c0 = bs.length - 4 then a0 else adr a0 ((bs.length - 4) * 1)) 4 (c0 - (bs.length - 4)) (by simp; omega) uw13 (Rd.sub (hW.ext (H.ext hC14).chg) (bs.length - 4) (4) (m := c0) (fun e => by first | exact absurd e (by omega) | (rw [show 4 = 0 by omega]; rfl)))), ?_⟩
  refine ⟨.slice a0 bs.length c0, fun _ uw15 hC16 _ => Gives.runW (wantedSome (d' := 12) (b := false) rfl rfl rfl) (r_move (v := .slice a0 bs.length c0) rfl) ⟨rfl, Chg.refl _ _⟩, ?_⟩
  refine ⟨i64 ((bs.length - 4 : Nat)), fun _ uw17 hC18 _ => Gives.runW (wantedSome (d' := 12) (b := false) rfl rfl rfl) (r_move (v := i64 ((bs.length - 4 : Nat))) rfl) ⟨rfl, Chg.refl _ _⟩, ?_⟩
  refine ⟨.slice (if c0 = 0 then a0 else adr a0 (0 * 1)) (bs.length - 4) (c0 - 0), fun _ uw19 hC20 _ => Gives.runW (wantedSome (d' := 12) (b := false) rfl rfl rfl) ((r_sliceS (l := 0) (h := bs.length - 4) sli30 rfl (.inr ⟨rfl, rfl⟩) (.inl ⟨_, _, _, rfl, rfl, by first | rfl | omega | (simp; omega)⟩) (by omega) (by omega)).as (v' := .slice (if c0 = 0 then a0 else adr a0 (0 * 1)) (bs.length - 4) (c0 - 0)) (by first | rfl | (congr 1; omega) | (simp; omega) | simp)) ⟨rfl, Chg.refl _ _⟩, ?_⟩
  refine ⟨u32 (crc ((bs.drop 0).take (bs.length - 4))), fun _ uw21 hC22 _ => Gives.callW (wantedSome (d' := 12) (b := false) rfl rfl rfl) (Enters.callL (vs := [.slice (if c0 = 0 then a0 else adr a0 (0 * 1)) (bs.length - 4) (c0 - 0)]) call43 rfl) (sum_ok ((bs.drop 0).take (bs.length - 4)) (by first | omega | (rw [List.length_take, List.length_drop]; omega) | (simp; omega)) (if c0 = 0 then a0 else adr a0 (0 * 1)) (bs.length - 4) (c0 - 0) (by simp) uw21 (Rd.sub (hW.ext (H.ext hC22).chg) 0 (bs.length - 4) (m := c0) (fun e => by first | exact absurd e (by omega) | (rw [show bs.length - 4 = 0 by omega]; rfl)))), ?_⟩
  refine ⟨.bool (false), fun _ uw23 hC24 _ => Gives.runW (wantedSome (d' := 12) (b := false) rfl rfl rfl) ((r_neq32 (a := whole ((bs.drop (bs.length - 4)).take (4))) (b := crc ((bs.drop 0).take (bs.length - 4))) rfl rfl).as (v' := .bool (false)) (by exact congrArg Value.bool (decide_eq_false (fun h => h hs)))) ⟨rfl, Chg.refl _ _⟩, ?_⟩
  refine ⟨.bool (false), fun _ uw25 hC26 _ => Gives.run rfl (r_pickF (v := .bool (false)) rfl rfl) ⟨rfl, Chg.refl _ _⟩, ?_⟩
  refine ⟨.bool (false), fun _ uw27 hC28 _ => Gives.run rfl (r_move (v := .bool (false)) rfl) ⟨rfl, Chg.refl _ _⟩, ?_⟩
  refine ⟨.slice a0 bs.length c0, fun _ uw29 hC30 _ => Gives.runW (wantedSome (d' := 23) (b := false) rfl rfl rfl) (r_move (v := .slice a0 bs.length c0) rfl) ⟨rfl, Chg.refl _ _⟩, ?_⟩
  refine ⟨.pointer (adr a0 (0 * 1)), fun _ uw31 hC32 _ => Gives.runW (wantedSome (d' := 23) (b := false) rfl rfl rfl) (r_idxS (E := E8) (l := bs) (j := 0) sli30 (hW.ext (H.ext hC32).chg) rfl rfl (by first | rfl | omega | (simp; omega)) (by rfl) (by omega)) ⟨rfl, Chg.refl _ _⟩, ?_⟩
  refine ⟨u8 ((bs).getD 0 0#8), fun _ uw33 hC34 _ => Gives.runW (wantedSome (d' := 23) (b := false) rfl rfl rfl) (r_ldS (E := E8) (l := bs) (j := 0) (v := (bs).getD 0 0#8) fits5 (hW.ext (H.ext hC34).chg) rfl rfl (at_getD (by omega))) ⟨rfl, Chg.refl _ _⟩, ?_⟩
  refine ⟨.bool (false), fun _ uw35 hC36 _ => Gives.runW (wantedSome (d' := 23) (b := false) rfl rfl rfl) ((r_gtr8 (a := (bs).getD 0 0#8) (b := 1#8) rfl rfl).as (v' := .bool (false)) (by exact congrArg Value.bool (decide_eq_false hk))) ⟨rfl, Chg.refl _ _⟩, ?_⟩
  refine ⟨.bool (false), fun _ uw37 hC38 _ => Gives.run rfl (r_pickF (v := .bool (false)) rfl rfl) ⟨rfl, Chg.refl _ _⟩, ?_⟩
  refine ⟨.bool (false), fun _ uw39 hC40 _ => Gives.run rfl (r_move (v := .bool (false)) rfl) ⟨rfl, Chg.refl _ _⟩, ?_⟩
  refine ⟨.slice a0 bs.length c0, fun _ uw41 hC42 _ => Gives.runW (wantedSome (d' := 29) (b := false) rfl rfl rfl) (r_move (v := .slice a0 bs.length c0) rfl) ⟨rfl, Chg.refl _ _⟩, ?_⟩
  refine ⟨.pointer (adr a0 (0 * 1)), fun _ uw43 hC44 _ => Gives.runW (wantedSome (d' := 29) (b := false) rfl rfl rfl) (r_idxS (E := E8) (l := bs) (j := 0) sli30 (hW.ext (H.ext hC44).chg) rfl rfl (by first | rfl | omega | (simp; omega)) (by rfl) (by omega)) ⟨rfl, Chg.refl _ _⟩, ?_⟩
  refine ⟨u8 ((bs).getD 0 0#8), fun _ uw45 hC46 _ => Gives.runW (wantedSome (d' := 29) (b := false) rfl rfl rfl) (r_ldS (E := E8) (l := bs) (j := 0) (v := (bs).getD 0 0#8) fits5 (hW.ext (H.ext hC46).chg) rfl rfl (at_getD (by omega))) ⟨rfl, Chg.refl _ _⟩, ?_⟩
  refine ⟨.bool (true), fun _ uw47 hC48 _ => Gives.runW (wantedSome (d' := 29) (b := false) rfl rfl rfl) ((r_eql8 (a := (bs).getD 0 0#8) (b := 1#8) rfl rfl).as (v' := .bool (true)) (by exact congrArg Value.bool (decide_eq_true h1))) ⟨rfl, Chg.refl _ _⟩, ?_⟩
  refine ⟨.bool (true), fun _ uw49 hC50 _ => Gives.runW (wantedSome (d' := 29) (b := false) rfl rfl rfl) (r_move (v := .bool (true)) rfl) ⟨rfl, Chg.refl _ _⟩, ?_⟩
  refine ⟨i64 ((bs.length - 4 : Nat)), fun _ uw51 hC52 _ => Gives.runW (wantedSome (d' := 34) (b := true) rfl rfl rfl) (r_move (v := i64 ((bs.length - 4 : Nat))) rfl) ⟨rfl, Chg.refl _ _⟩, ?_⟩
  refine ⟨.bool (false), fun _ uw53 hC54 _ => Gives.runW (wantedSome (d' := 34) (b := true) rfl rfl rfl) ((r_gtrI (a := (bs.length - 4 : Nat)) (b := (5 : Int)) rfl rfl).as (v' := .bool (false)) (by exact congrArg Value.bool (decide_eq_false (by omega)))) ⟨rfl, Chg.refl _ _⟩, ?_⟩
  refine ⟨.bool (false), fun _ uw55 hC56 _ => Gives.runW (wantedSome (d' := 29) (b := false) rfl rfl rfl) (r_pickT (u := .bool (false)) rfl rfl) ⟨rfl, Chg.refl _ _⟩, ?_⟩
  refine ⟨.bool (false), fun _ uw57 hC58 _ => Gives.run rfl (r_pickF (v := .bool (false)) rfl rfl) ⟨rfl, Chg.refl _ _⟩, ?_⟩
  intro r62 w59 hE61 hF
  have H60 := H.ext hE61
  refine wnil ?_
  refine thenNormal ?_
  refine condFalse rfl ?_
  refine skipAny ?_
  refine thenNormal ?_
  refine seqAny ?_
  refine drawC (m := 14) [0, 1, 3, 0, 8, 24, 0, 0, 192, 504, 1023, 2047, 4095, 8191] [5, 9] (fun q vs w' => match q, vs with | 0, [] => Hp No w w' [] | 1, [v0] => v0 = u32 (whole ((bs.drop 1).take (bs.length - 1))) ∧ Hp No w w' [] | 2, [v0, v1] => ∃ (key74 : Option Nat) (c75 : Nat) (sp76 : List Value), v0 = u32 (whole ((bs.drop 1).take (bs.length - 1))) ∧ v1 = .slice (ownA key74) ((bs.length - 4) - 5) c75 ∧ Sl E8 key74 ((bs.drop 5).take ((bs.length - 4) - 5)) c75 sp76 ∧ Hp No w w' [(key74, sob E8 5 ((bs.drop 5).take ((bs.length - 4) - 5)) sp76)] | _, _ => False) mixed (by kernel_rfl) (by kernel_rfl) H60.drew ?_
  refine WalkC.look rfl (fun _ => .slice a0 bs.length c0) (fun _ _ _ => rfl) (fun q r uw _ _ _ _ => Gives.run rfl (r_move (v := .slice a0 bs.length c0) rfl) ⟨rfl, rfl⟩) ?_
  refine WalkC.look rfl (fun _ => .pointer (adr a0 (0 * 1))) (fun _ _ _ => rfl) (fun q r uw hlo hhi hle hF => ?_) ?_
  · skip
    have h1 : 0 ≤ q := Nat.zero_le _
    have h2 : q ≤ 2 := hle
    rcases (show q = 0 ∨ q = 1 ∨ q = 2 by omega) with rfl | rfl | rfl
    · skip
      have HH := hF
      exact Gives.run rfl (r_idxS (E := E8) (l := bs) (j := 0) sli30 (hW.ext HH.chg) rfl rfl (by first | rfl | omega | (simp; omega)) (by rfl) (by omega)) ⟨rfl, rfl⟩
    · skip
      obtain ⟨e5, HH⟩ := hF
      exact Gives.run rfl (r_idxS (E := E8) (l := bs) (j := 0) sli30 (hW.ext HH.chg) rfl rfl (by first | rfl | omega | (simp; omega)) (by rfl) (by omega)) ⟨rfl, rfl⟩
    · skip
      obtain ⟨key74, c75, sp76, e5, e9, hS77, HH⟩ := hF
      exact Gives.run rfl (r_idxS (E := E8) (l := bs) (j := 0) sli30 (hW.ext HH.chg) rfl rfl (by first | rfl | omega | (simp; omega)) (by rfl) (by omega)) ⟨rfl, rfl⟩
  refine WalkC.look rfl (fun _ => u8 ((bs).getD 0 0#8)) (fun _ _ _ => rfl) (fun q r uw hlo hhi hle hF => ?_) ?_
  · skip
    have h1 : 0 ≤ q := Nat.zero_le _
    have h2 : q ≤ 2 := hle
    rcases (show q = 0 ∨ q = 1 ∨ q = 2 by omega) with rfl | rfl | rfl
    · skip
      have HH := hF
      exact Gives.run rfl (r_ldS (E := E8) (l := bs) (j := 0) (v := (bs).getD 0 0#8) fits5 (hW.ext HH.chg) rfl rfl (at_getD (by omega))) ⟨rfl, rfl⟩
    · skip
      obtain ⟨e5, HH⟩ := hF
      exact Gives.run rfl (r_ldS (E := E8) (l := bs) (j := 0) (v := (bs).getD 0 0#8) fits5 (hW.ext HH.chg) rfl rfl (at_getD (by omega))) ⟨rfl, rfl⟩
    · skip
      obtain ⟨key74, c75, sp76, e5, e9, hS77, HH⟩ := hF
      exact Gives.run rfl (r_ldS (E := E8) (l := bs) (j := 0) (v := (bs).getD 0 0#8) fits5 (hW.ext HH.chg) rfl rfl (at_getD (by omega))) ⟨rfl, rfl⟩
  refine WalkC.look rfl (fun _ => .slice a0 bs.length c0) (fun _ _ _ => rfl) (fun q r uw _ _ _ _ => Gives.run rfl (r_move (v := .slice a0 bs.length c0) rfl) ⟨rfl, rfl⟩) ?_
  refine WalkC.look rfl (fun _ => .slice (if c0 = 1 then a0 else adr a0 (1 * 1)) (bs.length - 1) (c0 - 1)) (fun _ _ _ => rfl) (fun q r uw _ _ _ _ => Gives.run rfl ((r_sliceS (l := 1) (h := bs.length) sli30 rfl (.inl ⟨_, _, _, rfl, rfl, by first | rfl | omega | (simp; omega)⟩) (.inr ⟨rfl, rfl⟩) (by omega) (by omega)).as (v' := .slice (if c0 = 1 then a0 else adr a0 (1 * 1)) (bs.length - 1) (c0 - 1)) (by first | rfl | (congr 1; omega) | (simp; omega) | simp)) ⟨rfl, rfl⟩) ?_
  refine WalkC.eff 0 rfl (fun r uw63 hF65 => ?_) ?_
  · skip
    have H64 := hF65
    dsimp only [List.take, List.map, List.cons_append, List.nil_append]
    refine Gives.ofW (d := 44) rfl rfl (fun Q' hK => ?_)
    refine c_call (vs := [.slice (if c0 = 1 then a0 else adr a0 (1 * 1)) (bs.length - 1) (c0 - 1)]) call42 rfl (whole_ok ((bs.drop 1).take (bs.length - 1)) (by first | omega | (rw [List.length_take, List.length_drop]; omega) | (simp; omega)) (if c0 = 1 then a0 else adr a0 (1 * 1)) (bs.length - 1) (c0 - 1) (by simp) uw63 (Rd.sub (hW.ext H64.chg) 1 (bs.length - 1) (m := c0) (fun e => by first | exact absurd e (by omega) | (rw [show bs.length - 1 = 0 by omega]; rfl)))) ?_
    rintro _ w66 ⟨rfl, hE67⟩
    have H68 := H64.ext hE67
    exact hK _ _ ⟨rfl, H68⟩
  refine WalkC.look rfl (fun _ => .slice a0 bs.length c0) (fun _ _ _ => rfl) (fun q r uw _ _ _ _ => Gives.run rfl (r_move (v := .slice a0 bs.length c0) rfl) ⟨rfl, rfl⟩) ?_
  refine WalkC.look rfl (fun _ => i64 ((bs.length - 4 : Nat))) (fun _ _ _ => rfl) (fun q r uw _ _ _ _ => Gives.run rfl (r_move (v := i64 ((bs.length - 4 : Nat))) rfl) ⟨rfl, rfl⟩) ?_
  refine WalkC.look rfl (fun _ => .slice (if c0 = 5 then a0 else adr a0 (5 * 1)) ((bs.length - 4) - 5) (c0 - 5)) (fun _ _ _ => rfl) (fun q r uw _ _ _ _ => Gives.run rfl ((r_sliceS (l := 5) (h := bs.length - 4) sli30 rfl (.inl ⟨_, _, _, rfl, rfl, by first | rfl | omega | (simp; omega)⟩) (.inl ⟨_, _, _, rfl, rfl, by first | rfl | omega | (simp; omega)⟩) (by omega) (by omega)).as (v' := .slice (if c0 = 5 then a0 else adr a0 (5 * 1)) ((bs.length - 4) - 5) (c0 - 5)) (by first | rfl | (congr 1; omega) | (simp; omega) | simp)) ⟨rfl, rfl⟩) ?_
  refine WalkC.eff 1 rfl (fun r uw69 hF71 => ?_) ?_
  · skip
    obtain ⟨e5, H70⟩ := hF71
    dsimp only [List.take, List.map, List.cons_append, List.nil_append]
    rw [e5]
    refine Gives.ofW (d := 48) rfl rfl (fun Q' hK => ?_)
    refine c_call (vs := [.slice (if c0 = 5 then a0 else adr a0 (5 * 1)) ((bs.length - 4) - 5) (c0 - 5)]) call35 rfl (clone8_ok ((bs.drop 5).take ((bs.length - 4) - 5)) (by first | omega | (rw [List.length_take, List.length_drop]; omega) | (simp; omega)) (if c0 = 5 then a0 else adr a0 (5 * 1)) ((bs.length - 4) - 5) (c0 - 5) (by simp; omega) uw69 (Rd.sub (hW.ext H70.chg) 5 ((bs.length - 4) - 5) (m := c0) (fun e => by first | exact absurd e (by omega) | (rw [show (bs.length - 4) - 5 = 0 by omega]; rfl)))) ?_
    rintro _ w72 ⟨⟨key74, c75, sp76, rfl, hS77, hk78⟩, hE79⟩
    rw [show ((bs.drop 5).take ((bs.length - 4) - 5)).length = (bs.length - 4) - 5 from by first | rfl | (simp; omega) | omega]
    have H80 := H70.add hE79 hk78
    exact hK _ _ ⟨key74, c75, sp76, rfl, rfl, hS77, H80⟩
  refine WalkC.look rfl (fun _ => u8 ((bs).getD 0 0#8)) (fun _ _ _ => rfl) (fun q r uw _ _ _ _ => Gives.run rfl (r_assign (v := u8 ((bs).getD 0 0#8)) rfl) ⟨rfl, rfl⟩) ?_
  refine WalkC.look rfl (fun r => r 5) (fun r r' h => h 5 (by decide) rfl) (fun q r uw _ _ _ _ => Gives.run rfl (r_assign rfl) ⟨rfl, rfl⟩) ?_
  refine WalkC.look rfl (fun r => r 9) (fun r r' h => h 9 (by decide) rfl) (fun q r uw _ _ _ _ => Gives.run rfl (r_assign rfl) ⟨rfl, rfl⟩) ?_
  refine WalkC.look rfl (fun _ => .bool (true)) (fun _ _ _ => rfl) (fun q r uw _ _ _ _ => Gives.run rfl (r_assign (v := .bool (true)) rfl) ⟨rfl, rfl⟩) ?_
  refine WalkC.nil ?_
  intro r81 w82 hF84
  obtain ⟨key74, c75, sp76, e5, e9, hS77, H83⟩ := hF84
  dsimp only
  rw [e5, e9]
  refine wnil ?_
  refine thenNormal ?_
  refine retAny ?_
  refine retG (rs := [.tmp 2, .tmp 3, .tmp 4, .tmp 5]) (vs := [u8 ((bs).getD 0 0#8), u32 (whole ((bs.drop 1).take (bs.length - 1))), .slice (ownA key74) ((bs.length - 4) - 5) c75, .bool (true)]) rfl ⟨⟨rfl, rfl⟩, ⟨rfl, rfl⟩, ⟨rfl, rfl⟩, ⟨rfl, rfl⟩, trivial⟩ ?_
  exact ⟨_, rfl, ⟨_, rfl, H83.resN (k := 0) rfl hS77 (by simp; omega)⟩, H83.chg⟩

theorem open_none (bs : List (BitVec 8)) (hb : bs.length ≤ 140737488355328) (a0 : Option Addr) (n0 c0 : Nat) (hn0 : n0 = bs.length) (w : World) (hW : Rd E8 w a0 bs) (hc : bs.length ≤ c0) (h : opn bs = none) : Calls Tryd.prog 26 [.slice a0 n0 c0].toArray w (Ret fun v w' => v = .tuple #[u8 0#8, u32 0#32, .slice none 0 0, .bool false] ∧ Ext w w') := by
  by_cases h9 : bs.length < 9
  · exact open_short bs hb a0 n0 c0 hn0 w hW hc h9
  by_cases hs : sumOf bs = sumOk bs
  · by_cases hk : 1 < (bs.getD 0 0#8).toNat
    · exact open_kind bs hb a0 n0 c0 hn0 w hW hc (by omega) hs hk
    · rcases opn_none h with h2 | h2 | h2 | ⟨h2, h3⟩
      · exact absurd h2 h9
      · exact absurd hs h2
      · exact absurd h2 hk
      · exact open_long bs hb a0 n0 c0 hn0 w hW hc (by omega) hs hk h2 h3
  · exact open_sum bs hb a0 n0 c0 hn0 w hW hc (by omega) hs

theorem open_some (bs : List (BitVec 8)) (hb : bs.length ≤ 140737488355328) (a0 : Option Addr) (n0 c0 : Nat) (hn0 : n0 = bs.length) (w : World) (hW : Rd E8 w a0 bs) (hc : bs.length ≤ c0) (k : BitVec 8) (n : BitVec 32) (p : List (BitVec 8)) (h : opn bs = some (k, n, p)) : Calls Tryd.prog 26 [.slice a0 n0 c0].toArray w (Ret fun v w' => (∃ pv, v = .tuple #[u8 k, u32 n, pv, .bool true] ∧ SlRes E8 5 p w pv w') ∧ Ext w w') := by
  obtain ⟨h9, hs, hk, hl, rfl, rfl, rfl⟩ := opn_some h
  by_cases h1 : bs.getD 0 0#8 = 1#8
  · exact open_ack bs hb a0 n0 c0 hn0 w hW hc h9 hs hk h1 (hl h1)
  · exact open_data bs hb a0 n0 c0 hn0 w hW hc h9 hs hk h1
end Go.Proofs.YtpmmhpgfbfehmaaDoor.Lk
