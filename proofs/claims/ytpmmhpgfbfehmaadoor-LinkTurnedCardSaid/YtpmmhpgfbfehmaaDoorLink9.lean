/- The walks of the links. -/
import Derived.Test.YtpmmhpgfbfehmaaDoorLink6
import Derived.Test.YtpmmhpgfbfehmaaDoorLinkCrc
namespace Go.Proofs.YtpmmhpgfbfehmaaDoor.Lk
open Go Go.Proofs.YtpmmhpgfbfehmaaDoor.Vc Go.Proofs.YtpmmhpgfbfehmaaDoor.Er
set_option linter.unusedVariables false
theorem arr61 : arr Tryd.prog 61 = some (2, 1) := by kernel_rfl
theorem call18 : callable Tryd.prog 18 = true := by kernel_rfl
theorem call24 : callable Tryd.prog 24 = true := by kernel_rfl
theorem fits3 : Fits Tryd.prog 3 EI := fitsI (by kernel_rfl) (by kernel_rfl)
theorem siz5 : siz Tryd.prog 5 = some 1 := by kernel_rfl
theorem und26 : Tryd.prog.underlying 26 = some (.int .u64) := by kernel_rfl
theorem und4 : Tryd.prog.underlying 4 = some .bool := by kernel_rfl
theorem linkturned_ok (n : BitVec 32) (bs : List (BitVec 8)) (fa : Option Addr) (fc : Nat) (hcap : bs.length ≤ fc) (al : List Int) (hal : al.length = 2) (w₀ : World) (hG : Gl w₀) (hFa : Rd E8 w₀ fa bs) (hbl : bs.length ≤ 140737488355328) : Calls Tryd.prog 7 [u32 (n), .slice fa bs.length fc, .agg (cel EI al).toArray].toArray w₀ (Ret fun v w' => v = .bool true ∧ Ext w₀ w') := by
  have H := Hp.start No w₀
  refine enter (n := 90) Tryd.func7 rfl rfl (Nat.le_of_ble_eq_true rfl) ?_
  refine seqRegion ?_
  refine q_box (v := .agg (cel EI al).toArray) (o := .cells (cel EI al).toArray 61 (0, 0)) H rfl (by rfl) ?_
  intro b1 w2 hb1 H3 hE4
  refine sq (r_assign (v := .bool (false)) rfl) ?_
  refine wend ?_
  refine seqAny ?_
  refine seqRegion ?_
  refine c_call (vs := []) call24 rfl (lawake_ok w2 (Chg.gl H3.chg (fun x => x) hG)) ?_
  rintro _ w5 ⟨rfl, hE6⟩
  have H7 := H3.ext hE6
  refine sq (r_notT rfl) ?_
  refine sq (r_move (v := .bool (false)) rfl) ?_
  refine sqAny (v := .slice fa bs.length fc) (w' := w5) (wantedSome (d' := 21) (b := false) rfl rfl rfl) (r_move (v := .slice fa bs.length fc) rfl) ?_
  refine sqAny (v := i64 ((bs.length : Nat))) (w' := w5) (wantedSome (d' := 21) (b := false) rfl rfl rfl) (r_lenS sli30 (a := fa) (m := bs.length) (c := fc) rfl) ?_
  refine sqAny (v := .bool (decide (((2000 : Int) : Int) < (bs.length : Nat)))) (w' := w5) (wantedSome (d' := 21) (b := false) rfl rfl rfl) (r_gtrI (a := (bs.length : Nat)) (b := (2000 : Int)) rfl rfl) ?_
  refine sq (r_pickF (v := .bool (decide (((2000 : Int) : Int) < (bs.length : Nat)))) rfl rfl) ?_
  refine wend ?_
  refine condProp (((2000 : Int) : Int) < (bs.length : Nat)) rfl (fun c25 => ?_) (fun c25 => ?_)
  · skip
    refine seqRegion ?_
    refine c_call (vs := []) call24 rfl (lawake_ok w5 (Chg.gl H7.chg (fun x => x) hG)) ?_
    rintro _ w8 ⟨rfl, hE9⟩
    have H10 := H7.ext hE9
    refine sq (r_assign (v := .bool (true)) rfl) ?_
    refine wend ?_
    refine retAny ?_
    refine thenRet ?_
    refine retG (rs := [.tmp 6]) (vs := [.bool (true)]) rfl ⟨⟨rfl, rfl⟩, trivial⟩ ?_
    exact ⟨_, rfl, rfl, H10.chg⟩
  · skip
    refine skipAny ?_
    refine thenNormal ?_
    refine seqRegion ?_
    refine sq (r_move (v := u32 (n)) rfl) ?_
    refine q_buildSlice (E := E8) (l := []) H7 sli30 zer5 (Nat.le_of_ble_eq_true rfl) (ps := []) rfl (by exact fillAll rfl rfl) rfl ?_
    intro b11 w13 hS12 H14 hE15
    refine sq (r_move (v := .slice fa bs.length fc) rfl) ?_
    refine q_append (E := E8) (k := 0) (l := []) (l2 := bs) H14 rfl hS12 sli30 zer5 rfl byt5 (hFa.ext H14.chg) rfl (by rfl) rfl (by rfl) (by omega) ?_
    intro key16 c17 sp18 w20 hS19 hne22 H21
    have H21' := H21.as (L' := [(key16, sob E8 5 (([]) ++ bs) sp18), (some b1, .cells (cel EI al).toArray 61 (0, 0))]) rfl
    clear H21
    have e23 : ([]) ++ bs = bs := by rw [List.nil_append]
    have hS24 := hS19
    rw [e23] at hS24
    have H25 := H21'.as (L' := [(key16, sob E8 5 bs sp18), (some b1, .cells (cel EI al).toArray 61 (0, 0))]) (by rw [e23])
    refine c_call (vs := [u8 (0#8), u32 (n), .slice (ownA key16) (0 + bs.length) c17]) call30 rfl (seal_ok (0#8) n bs (by omega) (ownA key16) (0 + bs.length) c17 (by rw [Nat.zero_add]) w20 (H25.rd (k := 0) rfl hS24)) ?_
    rintro _ w26 ⟨⟨key28, c29, sp30, rfl, hS31, hk32⟩, hE33⟩
    rw [show (sealF (0#8) n bs).length = (sealF (0#8) n bs).length from rfl]
    have H34 := H25.add hE33 hk32
    refine sq (r_assign (v := .slice (ownA key28) ((sealF (0#8) n bs).length) c29) rfl) ?_
    have hSl := seal_len 0#8 n bs
    refine wend ?_
    refine seqRegion ?_
    refine sq (r_move (v := .slice (ownA key28) ((sealF (0#8) n bs).length) c29) rfl) ?_
    refine sq (r_lenS sli30 (a := ownA key28) (m := (sealF (0#8) n bs).length) (c := c29) rfl) ?_
    refine sq (r_Ito64 und3 und26 (a := ((sealF (0#8) n bs).length : Nat)) rfl) ?_
    refine sq ((r_mul64 (a := BitVec.ofInt 64 ((sealF (0#8) n bs).length : Nat)) (b := 8#64) rfl rfl).as (v' := u64 (BitVec.ofInt 64 ((8 * (sealF 0#8 n bs).length : Nat) : Int))) (by exact congrArg u64 (mul8 _))) ?_
    refine sq (r_assign (v := u64 (BitVec.ofInt 64 ((8 * (sealF 0#8 n bs).length : Nat) : Int))) rfl) ?_
    refine wend ?_
    refine seqAny ?_
    refine seqRegion ?_
    refine sq (r_move (v := u64 (BitVec.ofInt 64 ((8 * (sealF 0#8 n bs).length : Nat) : Int))) rfl) ?_
    refine sq ((r_eql64 (a := BitVec.ofInt 64 ((8 * (sealF 0#8 n bs).length : Nat) : Int)) (b := 0#64) rfl rfl).as (v' := .bool (false)) (by exact congrArg Value.bool (decide_eq_false (ofInt_ne0 _ (by omega) (by omega))))) ?_
    obtain ⟨x, hx, hxl⟩ := modNat (BitVec.ofInt 64 (al.getD 0 0)) _ (8 * (sealF 0#8 n bs).length) (by omega) (by omega) rfl
    obtain ⟨y, hy, hyl⟩ := modNat (BitVec.ofInt 64 (al.getD 1 0)) _ (8 * (sealF 0#8 n bs).length) (by omega) (by omega) rfl
    have hbo : opn (sealF 0#8 n bs) = some (0#8, n, bs) := opn_seal _ _ _ (by decide) (fun h => absurd h (by decide))
    refine wend ?_
    refine condFalse rfl ?_
    refine skipAny ?_
    refine thenNormal ?_
    refine seqAny ?_
    refine drawAny (K := [none, none, none, none, none, none, none, none, none, none, none, none, none, none]) [0, 1, 3, 0, 15, 31, 0, 64, 192, 0, 960, 1984, 63, 8191] (fun w' => Ext w26 w') (fun w' w'' => Ext w' w'') mixed (by kernel_rfl) (Ext.drew _) (fun _ _ h h' => h.trans h') ?_ ?_
    · exact relNone (by decide)
    refine ⟨.pointer (some ⟨b1, 0, none⟩), fun _ uw35 hC36 _ => Gives.run rfl (r_indexA (off' := 0) (j := 0) arr61 (b := b1) (off := 0) rfl rfl (by first | rfl | omega | (simp; omega)) (by omega) (by omega)) ⟨rfl, Chg.refl _ _⟩, ?_⟩
    refine ⟨i64 ((al).getD 0 0), fun _ uw37 hC38 _ => Gives.run rfl (r_ld1 (E := EI) (l := al) (j := 0) (a := (al).getD 0 0) fits3 ((H34.ext hC38).get (k := 2) rfl) (at_getD (by omega)) rfl rfl) ⟨rfl, Chg.refl _ _⟩, ?_⟩
    refine ⟨u64 (BitVec.ofInt 64 ((al).getD 0 0)), fun _ uw39 hC40 _ => Gives.run rfl (r_Ito64 und3 und26 (a := (al).getD 0 0) rfl) ⟨rfl, Chg.refl _ _⟩, ?_⟩
    refine ⟨u64 (BitVec.ofInt 64 ((8 * (sealF 0#8 n bs).length : Nat) : Int)), fun _ uw41 hC42 _ => Gives.run rfl (r_move (v := u64 (BitVec.ofInt 64 ((8 * (sealF 0#8 n bs).length : Nat) : Int))) rfl) ⟨rfl, Chg.refl _ _⟩, ?_⟩
    refine ⟨u64 ((BitVec.ofInt 64 ((al).getD 0 0)) % (BitVec.ofInt 64 ((8 * (sealF 0#8 n bs).length : Nat) : Int))), fun _ uw43 hC44 _ => Gives.run rfl (r_rem64 (a := BitVec.ofInt 64 ((al).getD 0 0)) (b := BitVec.ofInt 64 ((8 * (sealF 0#8 n bs).length : Nat) : Int)) rfl rfl (by exact ofInt_ne0 _ (by omega) (by omega))) ⟨rfl, Chg.refl _ _⟩, ?_⟩
    refine ⟨i64 ((x : Nat)), fun _ uw45 hC46 _ => Gives.run rfl ((r_64toI und26 und3 (a := (BitVec.ofInt 64 ((al).getD 0 0)) % (BitVec.ofInt 64 ((8 * (sealF 0#8 n bs).length : Nat) : Int))) rfl).as (v' := i64 ((x : Nat))) (by exact congrArg i64 hx)) ⟨rfl, Chg.refl _ _⟩, ?_⟩
    refine ⟨.pointer (some ⟨b1, 1, none⟩), fun _ uw47 hC48 _ => Gives.run rfl (r_indexA (off' := 1) (j := 1) arr61 (b := b1) (off := 0) rfl rfl (by first | rfl | omega | (simp; omega)) (by omega) (by omega)) ⟨rfl, Chg.refl _ _⟩, ?_⟩
    refine ⟨i64 ((al).getD 1 0), fun _ uw49 hC50 _ => Gives.run rfl (r_ld1 (E := EI) (l := al) (j := 1) (a := (al).getD 1 0) fits3 ((H34.ext hC50).get (k := 2) rfl) (at_getD (by omega)) rfl rfl) ⟨rfl, Chg.refl _ _⟩, ?_⟩
    refine ⟨u64 (BitVec.ofInt 64 ((al).getD 1 0)), fun _ uw51 hC52 _ => Gives.run rfl (r_Ito64 und3 und26 (a := (al).getD 1 0) rfl) ⟨rfl, Chg.refl _ _⟩, ?_⟩
    refine ⟨u64 (BitVec.ofInt 64 ((8 * (sealF 0#8 n bs).length : Nat) : Int)), fun _ uw53 hC54 _ => Gives.run rfl (r_move (v := u64 (BitVec.ofInt 64 ((8 * (sealF 0#8 n bs).length : Nat) : Int))) rfl) ⟨rfl, Chg.refl _ _⟩, ?_⟩
    refine ⟨u64 ((BitVec.ofInt 64 ((al).getD 1 0)) % (BitVec.ofInt 64 ((8 * (sealF 0#8 n bs).length : Nat) : Int))), fun _ uw55 hC56 _ => Gives.run rfl (r_rem64 (a := BitVec.ofInt 64 ((al).getD 1 0)) (b := BitVec.ofInt 64 ((8 * (sealF 0#8 n bs).length : Nat) : Int)) rfl rfl (by exact ofInt_ne0 _ (by omega) (by omega))) ⟨rfl, Chg.refl _ _⟩, ?_⟩
    refine ⟨i64 ((y : Nat)), fun _ uw57 hC58 _ => Gives.run rfl ((r_64toI und26 und3 (a := (BitVec.ofInt 64 ((al).getD 1 0)) % (BitVec.ofInt 64 ((8 * (sealF 0#8 n bs).length : Nat) : Int))) rfl).as (v' := i64 ((y : Nat))) (by exact congrArg i64 hy)) ⟨rfl, Chg.refl _ _⟩, ?_⟩
    refine ⟨i64 ((x : Nat)), fun _ uw59 hC60 _ => Gives.run rfl (r_assign (v := i64 ((x : Nat))) rfl) ⟨rfl, Chg.refl _ _⟩, ?_⟩
    refine ⟨i64 ((y : Nat)), fun _ uw61 hC62 _ => Gives.run rfl (r_assign (v := i64 ((y : Nat))) rfl) ⟨rfl, Chg.refl _ _⟩, ?_⟩
    intro r66 w63 hE65 hF
    have H64 := H34.ext hE65
    refine wnil ?_
    refine thenNormal ?_
    refine seqAny ?_
    refine drawAny (K := [none, none, none, none, none, none, none, none, none, none]) [0, 0, 2, 7, 15, 0, 32, 96, 255, 511, 1023] (fun w' => Ext w63 w') (fun w' w'' => Ext w' w'') mixed (by kernel_rfl) (Ext.drew _) (fun _ _ h h' => h.trans h') ?_ ?_
    · exact relNone (by decide)
    refine ⟨.slice (ownA key28) ((sealF (0#8) n bs).length) c29, fun _ uw67 hC68 _ => Gives.run rfl (r_move (v := .slice (ownA key28) ((sealF (0#8) n bs).length) c29) rfl) ⟨rfl, Chg.refl _ _⟩, ?_⟩
    refine ⟨i64 ((x : Nat)), fun _ uw69 hC70 _ => Gives.run rfl (r_move (v := i64 ((x : Nat))) rfl) ⟨rfl, Chg.refl _ _⟩, ?_⟩
    refine ⟨i64 ((x : Nat) / (8 : Int)), fun _ uw71 hC72 _ => Gives.run rfl (r_quoI (a := (x : Nat)) (b := (8 : Int)) rfl rfl (by omega)) ⟨rfl, Chg.refl _ _⟩, ?_⟩
    refine ⟨.pointer (adr (ownA key28) ((x / 8) * 1)), fun _ uw73 hC74 _ => Gives.run rfl (r_idxS (E := E8) (l := sealF (0#8) n bs) (j := x / 8) sli30 ((H64.ext hC74).rd (k := 0) rfl hS31) rfl rfl (by first | rfl | omega | (simp; omega)) (by exact (rfl).symm) (by omega)) ⟨rfl, Chg.refl _ _⟩, ?_⟩
    refine ⟨u8 ((sealF (0#8) n bs).getD (x / 8) 0#8), fun _ uw75 hC76 _ => Gives.run rfl (r_ldS (E := E8) (l := sealF (0#8) n bs) (j := x / 8) (v := (sealF (0#8) n bs).getD (x / 8) 0#8) fits5 ((H64.ext hC76).rd (k := 0) rfl hS31) rfl rfl (at_getD (by omega))) ⟨rfl, Chg.refl _ _⟩, ?_⟩
    refine ⟨i64 ((x : Nat)), fun _ uw77 hC78 _ => Gives.run rfl (r_move (v := i64 ((x : Nat))) rfl) ⟨rfl, Chg.refl _ _⟩, ?_⟩
    refine ⟨i64 ((x : Nat) % (8 : Int)), fun _ uw79 hC80 _ => Gives.run rfl (r_remI (a := (x : Nat)) (b := (8 : Int)) rfl rfl (by omega)) ⟨rfl, Chg.refl _ _⟩, ?_⟩
    refine ⟨u8 ((1#8) <<< (x % 8 : Nat)), fun _ uw81 hC82 _ => Gives.run rfl (r_shl8 (a := 1#8) (c := x % 8) rfl rfl) ⟨rfl, Chg.refl _ _⟩, ?_⟩
    refine ⟨u8 (((sealF (0#8) n bs).getD (x / 8) 0#8) ^^^ ((1#8) <<< (x % 8 : Nat))), fun _ uw83 hC84 _ => Gives.run rfl (r_xor8 (a := (sealF (0#8) n bs).getD (x / 8) 0#8) (b := (1#8) <<< (x % 8 : Nat)) rfl rfl) ⟨rfl, Chg.refl _ _⟩, ?_⟩
    refine ⟨.pointer (adr (ownA key28) ((x / 8) * 1)), fun _ uw85 hC86 _ => Gives.run rfl (r_idxS (E := E8) (l := sealF (0#8) n bs) (j := x / 8) sli30 ((H64.ext hC86).rd (k := 0) rfl hS31) rfl rfl (by first | rfl | omega | (simp; omega)) (by exact (rfl).symm) (by omega)) ⟨rfl, Chg.refl _ _⟩, ?_⟩
    intro r90 w87 hE89 hF
    have H88 := H64.ext hE89
    refine d_storeS (E := E8) (k := 0) (l := sealF (0#8) n bs) (j := x / 8) (b := ((sealF (0#8) n bs).getD (x / 8) 0#8) ^^^ ((1#8) <<< (x % 8 : Nat))) (a := (sealF (0#8) n bs).getD (x / 8) 0#8) H88 rfl hS31 rfl rfl rfl rfl siz5 (at_getD (by omega)) ?_
    intro w92 hS91 H93
    have H93' := H93.as (L' := [(key28, sob E8 5 ((sealF (0#8) n bs).set (x / 8) (((sealF (0#8) n bs).getD (x / 8) 0#8) ^^^ ((1#8) <<< (x % 8 : Nat)))) sp30), (key16, sob E8 5 bs sp18), (some b1, .cells (cel EI al).toArray 61 (0, 0))]) rfl
    clear H93
    have e94 : (sealF (0#8) n bs).set (x / 8) (((sealF (0#8) n bs).getD (x / 8) 0#8) ^^^ ((1#8) <<< (x % 8 : Nat))) = turn (sealF 0#8 n bs) x := by rfl
    have hS95 := hS91
    rw [e94] at hS95
    have H96 := H93'.as (L' := [(key28, sob E8 5 (turn (sealF 0#8 n bs) x) sp30), (key16, sob E8 5 bs sp18), (some b1, .cells (cel EI al).toArray 61 (0, 0))]) (by rw [e94])
    have hcap8 := hS95.cap
    rw [turn_len] at hcap8
    have hopn : opn (turn (sealF 0#8 n bs) x) = none := turned1 hbo hxl
    refine wnil ?_
    refine thenNormal ?_
    refine seqAny ?_
    refine seqRegion ?_
    refine sq (r_move (v := .slice (ownA key28) ((sealF (0#8) n bs).length) c29) rfl) ?_
    refine c_call (vs := [.slice (ownA key28) ((sealF (0#8) n bs).length) c29]) call26 rfl (open_none (turn (sealF 0#8 n bs) x) (by rw [turn_len]; omega) (ownA key28) ((sealF (0#8) n bs).length) c29 (by exact (turn_len _ _).symm) w92 (H96.rd (k := 0) rfl hS95) (by rw [turn_len]; omega) hopn) ?_
    rintro _ w97 ⟨rfl, hE98⟩
    have H99 := H96.ext hE98
    refine sq (r_move (v := .tuple #[u8 (0#8), u32 (0#32), .slice none 0 0, .bool (false)]) rfl) ?_
    refine sq (r_extract (vs := #[u8 (0#8), u32 (0#32), .slice none 0 0, .bool (false)]) rfl rfl) ?_
    refine sq (r_extract (vs := #[u8 (0#8), u32 (0#32), .slice none 0 0, .bool (false)]) rfl rfl) ?_
    refine sq (r_extract (vs := #[u8 (0#8), u32 (0#32), .slice none 0 0, .bool (false)]) rfl rfl) ?_
    refine sq (r_extract (vs := #[u8 (0#8), u32 (0#32), .slice none 0 0, .bool (false)]) rfl rfl) ?_
    refine sq (r_assign (v := u8 (0#8)) rfl) ?_
    refine sq (r_assign (v := u32 (0#32)) rfl) ?_
    refine sq (r_assign (v := .slice none 0 0) rfl) ?_
    refine sq (r_assign (v := .bool (false)) rfl) ?_
    refine wend ?_
    refine seqRegion ?_
    refine sq (r_move (v := .bool (false)) rfl) ?_
    refine wend ?_
    refine condFalse rfl ?_
    refine skipAny ?_
    refine thenNormal ?_
    refine seqAny ?_
    refine drawAny (K := [none, none, none, none, none, none, none, none, none, none]) [0, 0, 2, 7, 15, 0, 32, 96, 255, 511, 1023] (fun w' => Ext w97 w') (fun w' w'' => Ext w' w'') mixed (by kernel_rfl) (Ext.drew _) (fun _ _ h h' => h.trans h') ?_ ?_
    · exact relNone (by decide)
    refine ⟨.slice (ownA key28) ((sealF (0#8) n bs).length) c29, fun _ uw100 hC101 _ => Gives.run rfl (r_move (v := .slice (ownA key28) ((sealF (0#8) n bs).length) c29) rfl) ⟨rfl, Chg.refl _ _⟩, ?_⟩
    refine ⟨i64 ((y : Nat)), fun _ uw102 hC103 _ => Gives.run rfl (r_move (v := i64 ((y : Nat))) rfl) ⟨rfl, Chg.refl _ _⟩, ?_⟩
    refine ⟨i64 ((y : Nat) / (8 : Int)), fun _ uw104 hC105 _ => Gives.run rfl (r_quoI (a := (y : Nat)) (b := (8 : Int)) rfl rfl (by omega)) ⟨rfl, Chg.refl _ _⟩, ?_⟩
    refine ⟨.pointer (adr (ownA key28) ((y / 8) * 1)), fun _ uw106 hC107 _ => Gives.run rfl (r_idxS (E := E8) (l := turn (sealF 0#8 n bs) x) (j := y / 8) sli30 ((H99.ext hC107).rd (k := 0) rfl hS95) rfl rfl (by first | rfl | omega | (simp; omega)) (by exact (turn_len _ _).symm) (by rw [turn_len]; omega)) ⟨rfl, Chg.refl _ _⟩, ?_⟩
    refine ⟨u8 ((turn (sealF 0#8 n bs) x).getD (y / 8) 0#8), fun _ uw108 hC109 _ => Gives.run rfl (r_ldS (E := E8) (l := turn (sealF 0#8 n bs) x) (j := y / 8) (v := (turn (sealF 0#8 n bs) x).getD (y / 8) 0#8) fits5 ((H99.ext hC109).rd (k := 0) rfl hS95) rfl rfl (at_getD (by rw [turn_len]; omega))) ⟨rfl, Chg.refl _ _⟩, ?_⟩
    refine ⟨i64 ((y : Nat)), fun _ uw110 hC111 _ => Gives.run rfl (r_move (v := i64 ((y : Nat))) rfl) ⟨rfl, Chg.refl _ _⟩, ?_⟩
    refine ⟨i64 ((y : Nat) % (8 : Int)), fun _ uw112 hC113 _ => Gives.run rfl (r_remI (a := (y : Nat)) (b := (8 : Int)) rfl rfl (by omega)) ⟨rfl, Chg.refl _ _⟩, ?_⟩
    refine ⟨u8 ((1#8) <<< (y % 8 : Nat)), fun _ uw114 hC115 _ => Gives.run rfl (r_shl8 (a := 1#8) (c := y % 8) rfl rfl) ⟨rfl, Chg.refl _ _⟩, ?_⟩
    refine ⟨u8 (((turn (sealF 0#8 n bs) x).getD (y / 8) 0#8) ^^^ ((1#8) <<< (y % 8 : Nat))), fun _ uw116 hC117 _ => Gives.run rfl (r_xor8 (a := (turn (sealF 0#8 n bs) x).getD (y / 8) 0#8) (b := (1#8) <<< (y % 8 : Nat)) rfl rfl) ⟨rfl, Chg.refl _ _⟩, ?_⟩
    refine ⟨.pointer (adr (ownA key28) ((y / 8) * 1)), fun _ uw118 hC119 _ => Gives.run rfl (r_idxS (E := E8) (l := turn (sealF 0#8 n bs) x) (j := y / 8) sli30 ((H99.ext hC119).rd (k := 0) rfl hS95) rfl rfl (by first | rfl | omega | (simp; omega)) (by exact (turn_len _ _).symm) (by rw [turn_len]; omega)) ⟨rfl, Chg.refl _ _⟩, ?_⟩
    intro r123 w120 hE122 hF
    have H121 := H99.ext hE122
    refine d_storeS (E := E8) (k := 0) (l := turn (sealF 0#8 n bs) x) (j := y / 8) (b := ((turn (sealF 0#8 n bs) x).getD (y / 8) 0#8) ^^^ ((1#8) <<< (y % 8 : Nat))) (a := (turn (sealF 0#8 n bs) x).getD (y / 8) 0#8) H121 rfl hS95 rfl rfl rfl rfl siz5 (at_getD (by rw [turn_len]; omega)) ?_
    intro w125 hS124 H126
    have H126' := H126.as (L' := [(key28, sob E8 5 ((turn (sealF 0#8 n bs) x).set (y / 8) (((turn (sealF 0#8 n bs) x).getD (y / 8) 0#8) ^^^ ((1#8) <<< (y % 8 : Nat)))) sp30), (key16, sob E8 5 bs sp18), (some b1, .cells (cel EI al).toArray 61 (0, 0))]) rfl
    clear H126
    have e127 : (turn (sealF 0#8 n bs) x).set (y / 8) (((turn (sealF 0#8 n bs) x).getD (y / 8) 0#8) ^^^ ((1#8) <<< (y % 8 : Nat))) = turn (turn (sealF 0#8 n bs) x) y := by rfl
    have hS128 := hS124
    rw [e127] at hS128
    have H129 := H126'.as (L' := [(key28, sob E8 5 (turn (turn (sealF 0#8 n bs) x) y) sp30), (key16, sob E8 5 bs sp18), (some b1, .cells (cel EI al).toArray 61 (0, 0))]) (by rw [e127])
    have hcap12 := hS128.cap
    rw [turn_len, turn_len] at hcap12
    refine wnil ?_
    refine thenNormal ?_
    by_cases hxy : x = y
    · skip
      refine seqRegion ?_
      refine sq (r_move (v := .slice (ownA key28) ((sealF (0#8) n bs).length) c29) rfl) ?_
      have hopn2 : opn (turn (turn (sealF 0#8 n bs) x) y) = some (0#8, n, bs) := by rw [← hxy, turn_twice hxl]; exact hbo
      refine c_call (vs := [.slice (ownA key28) ((sealF (0#8) n bs).length) c29]) call26 rfl (open_some (turn (turn (sealF 0#8 n bs) x) y) (by rw [turn_len, turn_len]; omega) (ownA key28) ((sealF (0#8) n bs).length) c29 (by rw [turn_len, turn_len]) w125 (H129.rd (k := 0) rfl hS128) (by rw [turn_len, turn_len]; omega) (0#8) n bs hopn2) ?_
      rintro _ w130 ⟨⟨_, rfl, key132, c133, sp134, rfl, hS135, hk136⟩, hE137⟩
      have H138 := H129.add hE137 hk136
      refine sq (r_move (v := .tuple #[u8 (0#8), u32 (n), .slice (ownA key132) bs.length c133, .bool (true)]) rfl) ?_
      refine sq (r_extract (vs := #[u8 (0#8), u32 (n), .slice (ownA key132) bs.length c133, .bool (true)]) rfl rfl) ?_
      refine sq (r_extract (vs := #[u8 (0#8), u32 (n), .slice (ownA key132) bs.length c133, .bool (true)]) rfl rfl) ?_
      refine sq (r_extract (vs := #[u8 (0#8), u32 (n), .slice (ownA key132) bs.length c133, .bool (true)]) rfl rfl) ?_
      refine sq (r_extract (vs := #[u8 (0#8), u32 (n), .slice (ownA key132) bs.length c133, .bool (true)]) rfl rfl) ?_
      refine sq (r_assign (v := u8 (0#8)) rfl) ?_
      refine sq (r_assign (v := u32 (n)) rfl) ?_
      refine sq (r_assign (v := .slice (ownA key132) bs.length c133) rfl) ?_
      refine sq (r_assign (v := .bool (true)) rfl) ?_
      refine wend ?_
      refine seqRegion ?_
      refine sq (r_move (v := .bool (true)) rfl) ?_
      refine sq (r_move (v := i64 ((x : Nat))) rfl) ?_
      refine sq (r_move (v := i64 ((y : Nat))) rfl) ?_
      refine sq ((r_eqlI (a := (x : Nat)) (b := (y : Nat)) rfl rfl).as (v' := .bool (true)) (by exact congrArg Value.bool (decide_eq_true (by omega)))) ?_
      refine sq (r_eqlB und4 (a := true) (b := true) rfl rfl) ?_
      refine sq (r_assign (v := .bool (true)) rfl) ?_
      refine wend ?_
      refine retAny ?_
      refine retG (rs := [.tmp 6]) (vs := [.bool (true)]) rfl ⟨⟨rfl, rfl⟩, trivial⟩ ?_
      exact ⟨_, rfl, rfl, H138.chg⟩
    · skip
      refine seqRegion ?_
      refine sq (r_move (v := .slice (ownA key28) ((sealF (0#8) n bs).length) c29) rfl) ?_
      have hopn2 : opn (turn (turn (sealF 0#8 n bs) x) y) = none := turned2 hbo (by omega) hxl hyl hxy
      refine c_call (vs := [.slice (ownA key28) ((sealF (0#8) n bs).length) c29]) call26 rfl (open_none (turn (turn (sealF 0#8 n bs) x) y) (by rw [turn_len, turn_len]; omega) (ownA key28) ((sealF (0#8) n bs).length) c29 (by rw [turn_len, turn_len]) w125 (H129.rd (k := 0) rfl hS128) (by rw [turn_len, turn_len]; omega) hopn2) ?_
      rintro _ w139 ⟨rfl, hE140⟩
      have H141 := H129.ext hE140
      refine sq (r_move (v := .tuple #[u8 (0#8), u32 (0#32), .slice none 0 0, .bool (false)]) rfl) ?_
      refine sq (r_extract (vs := #[u8 (0#8), u32 (0#32), .slice none 0 0, .bool (false)]) rfl rfl) ?_
      refine sq (r_extract (vs := #[u8 (0#8), u32 (0#32), .slice none 0 0, .bool (false)]) rfl rfl) ?_
      refine sq (r_extract (vs := #[u8 (0#8), u32 (0#32), .slice none 0 0, .bool (false)]) rfl rfl) ?_
      refine sq (r_extract (vs := #[u8 (0#8), u32 (0#32), .slice none 0 0, .bool (false)]) rfl rfl) ?_
      refine sq (r_assign (v := u8 (0#8)) rfl) ?_
      refine sq (r_assign (v := u32 (0#32)) rfl) ?_
      refine sq (r_assign (v := .slice none 0 0) rfl) ?_
      refine sq (r_assign (v := .bool (false)) rfl) ?_
      refine wend ?_
      refine seqRegion ?_
      refine sq (r_move (v := .bool (false)) rfl) ?_
      refine sq (r_move (v := i64 ((x : Nat))) rfl) ?_
      refine sq (r_move (v := i64 ((y : Nat))) rfl) ?_
      refine sq ((r_eqlI (a := (x : Nat)) (b := (y : Nat)) rfl rfl).as (v' := .bool (false)) (by exact congrArg Value.bool (decide_eq_false (by omega)))) ?_
      refine sq (r_eqlB und4 (a := false) (b := false) rfl rfl) ?_
      refine sq (r_assign (v := .bool (true)) rfl) ?_
      refine wend ?_
      refine retAny ?_
      refine retG (rs := [.tmp 6]) (vs := [.bool (true)]) rfl ⟨⟨rfl, rfl⟩, trivial⟩ ?_
      exact ⟨_, rfl, rfl, H141.chg⟩
end Go.Proofs.YtpmmhpgfbfehmaaDoor.Lk
