/- The walks of the cipher. -/
import Derived.Test.YtcnkllkieelahaaVcEq
import Derived.Test.YtcnkllkieelahaaAesSpec
import Derived.Test.YtcnkllkieelahaaProg
namespace Go.Proofs.Ytcnkllkieelahaa.Aes
open Go Go.Proofs.Ytcnkllkieelahaa.Vc Go.Proofs.Ytcnkllkieelahaa.AesSpec
theorem agg22 : isAgg' Try.prog 22 = true := by kernel_rfl
theorem agg39 : isAgg' Try.prog 39 = true := by kernel_rfl
theorem agg52 : isAgg' Try.prog 52 = true := by kernel_rfl
theorem arr22 : arr Try.prog 22 = some (16, 1) := by kernel_rfl
theorem arr39 : arr Try.prog 39 = some (2, 1) := by kernel_rfl
theorem arr47 : arr Try.prog 47 = some (11, 16) := by kernel_rfl
theorem arr48 : arr Try.prog 48 = some (256, 1) := by kernel_rfl
theorem arr52 : arr Try.prog 52 = some (4, 1) := by kernel_rfl
theorem call10 : callable Try.prog 10 = true := by kernel_rfl
theorem call19 : callable Try.prog 19 = true := by kernel_rfl
theorem call20 : callable Try.prog 20 = true := by kernel_rfl
theorem call21 : callable Try.prog 21 = true := by kernel_rfl
theorem call22 : callable Try.prog 22 = true := by kernel_rfl
theorem call27 : callable Try.prog 27 = true := by kernel_rfl
theorem call28 : callable Try.prog 28 = true := by kernel_rfl
theorem call31 : callable Try.prog 31 = true := by kernel_rfl
theorem call33 : callable Try.prog 33 = true := by kernel_rfl
theorem call8 : callable Try.prog 8 = true := by kernel_rfl
theorem fits34 : Fits Try.prog 34 E64 := fits64 (by kernel_rfl) (by kernel_rfl)
theorem fits5 : Fits Try.prog 5 E8 := fits8 (by kernel_rfl) (by kernel_rfl)
theorem fld50_0 : fld Try.prog 50 0 = some (0, 176, 47) := by kernel_rfl
theorem fld50_1 : fld Try.prog 50 1 = some (176, 256, 48) := by kernel_rfl
theorem mixed : Try.prog.follows .mixedOrders = true := by kernel_rfl
theorem one34 : isOne Try.prog 34 = true := by kernel_rfl
theorem one5 : isOne Try.prog 5 = true := by kernel_rfl
theorem pls50 : pls Try.prog 50 = some #[(0, 176), (176, 256)] := by kernel_rfl
theorem siz22 : siz Try.prog 22 = some 16 := by kernel_rfl
theorem siz34 : siz Try.prog 34 = some 1 := by kernel_rfl
theorem siz39 : siz Try.prog 39 = some 2 := by kernel_rfl
theorem siz5 : siz Try.prog 5 = some 1 := by kernel_rfl
theorem siz52 : siz Try.prog 52 = some 4 := by kernel_rfl
theorem und22 : Try.prog.underlying 22 = some (.array 16 5) := by kernel_rfl
theorem und3 : Try.prog.underlying 3 = some (.int .i64) := by kernel_rfl
theorem und34 : Try.prog.underlying 34 = some (.int .u64) := by kernel_rfl
theorem und39 : Try.prog.underlying 39 = some (.array 2 34) := by kernel_rfl
theorem und5 : Try.prog.underlying 5 = some (.int .u8) := by kernel_rfl
theorem und63 : Try.prog.underlying 63 = some (.int .u64) := by kernel_rfl
theorem zer22 : zer Try.prog 22 = some (.agg (List.replicate 16 (.int .u8 0)).toArray) := by kernel_rfl
theorem zer39 : zer Try.prog 39 = some (.agg (List.replicate 2 (.int .u64 0)).toArray) := by kernel_rfl
theorem zer50 : zer Try.prog 50 = some (.agg (List.replicate 432 (.int .u8 0)).toArray) := by kernel_rfl
theorem zer52 : zer Try.prog 52 = some (.agg (List.replicate 4 (.int .u8 0)).toArray) := by kernel_rfl
theorem twice_ok (a : BitVec 8) (w : World) : Calls Try.prog 21 [u8 (a)].toArray w (Ret fun v w' => v = u8 (xt a) ∧ Ext w w') := by
  have H := Hp.start No w
  refine enter (n := 10) Try.func21 rfl rfl (Nat.le_of_ble_eq_true rfl) ?_
  refine seqRegion ?_
  refine sq (r_assign (v := u8 (0#8)) rfl) ?_
  refine wend ?_
  refine seqAny ?_
  refine seqRegion ?_
  refine sq (r_move (v := u8 (a)) rfl) ?_
  refine sq (r_geq8 (a := a) (b := 128#8) rfl rfl) ?_
  refine wend ?_
  refine condProp ((128#8).toNat ≤ a.toNat) rfl (fun c => ?_) (fun c => ?_)
  · skip
    refine seqRegion ?_
    refine sq (r_move (v := u8 (a)) rfl) ?_
    refine sq (r_shl8 (a := a) (c := 1) rfl rfl) ?_
    refine sq (r_xor8 (a := a <<< (1 : Nat)) (b := 27#8) rfl rfl) ?_
    refine sq (r_assign (v := u8 ((a <<< (1 : Nat)) ^^^ (27#8))) rfl) ?_
    refine wend ?_
    refine retAny ?_
    refine thenRet ?_
    refine retG (rs := [.tmp 2]) (vs := [u8 ((a <<< (1 : Nat)) ^^^ (27#8))]) rfl ⟨⟨rfl, rfl⟩, trivial⟩ ?_
    exact ⟨_, rfl, congrArg u8 (if_pos c).symm, H.chg⟩
  · skip
    refine skipAny ?_
    refine thenNormal ?_
    refine seqRegion ?_
    refine sq (r_move (v := u8 (a)) rfl) ?_
    refine sq (r_shl8 (a := a) (c := 1) rfl rfl) ?_
    refine sq (r_assign (v := u8 (a <<< (1 : Nat))) rfl) ?_
    refine wend ?_
    refine retAny ?_
    refine retG (rs := [.tmp 2]) (vs := [u8 (a <<< (1 : Nat))]) rfl ⟨⟨rfl, rfl⟩, trivial⟩ ?_
    exact ⟨_, rfl, congrArg u8 (if_neg c).symm, H.chg⟩

theorem times_ok (a b : BitVec 8) (w : World) : Calls Try.prog 26 [u8 (a), u8 (b)].toArray w (Ret fun v w' => v = u8 (gm a b) ∧ Ext w w') := by
  have H := Hp.start No w
  refine enter (n := 31) Try.func26 rfl rfl (Nat.le_of_ble_eq_true rfl) ?_
  refine seqRegion ?_
  refine sq (r_assign (v := u8 (0#8)) rfl) ?_
  refine wend ?_
  refine seqRegion ?_
  refine sq (r_assign (v := i64 ((0 : Int))) rfl) ?_
  refine wend ?_
  refine seqRegion ?_
  refine sq (r_move (v := u8 (a)) rfl) ?_
  refine sq (r_8toI und5 und3 (a := a) rfl) ?_
  refine sq (r_assign (v := i64 ((a.toNat : Nat))) rfl) ?_
  refine wend ?_
  refine seqAny ?_
  refine seqRegion ?_
  refine sq (r_assign (v := i64 ((0 : Int))) rfl) ?_
  refine wend ?_
  refine blockAny ?_
  refine loopAny (σ := Nat) (fun k => [(1, u8 (b)), (5, i64 (((gmS a.toNat b.toNat k).1 : Nat))), (6, i64 (((gmS a.toNat b.toNat k).2 : Nat))), (7, i64 ((k : Nat)))]) (fun k w' => k ≤ 8 ∧ Ext w w') (fun k => 8 - k) (0) ?_ ?_ ?_
  · exact ⟨rfl, rfl, rfl, rfl, trivial⟩
  · exact ⟨by omega, Chg.refl _ _⟩
  rintro k ρ w1 ⟨hk, hE⟩
  have g := gmS_lt a.toNat b.toNat k a.isLt
  refine seqAny ?_
  refine seqRegion ?_
  refine sq (r_move (v := i64 ((k : Nat))) rfl) ?_
  refine sq (r_lssI (a := (k : Nat)) (b := (8 : Int)) rfl rfl) ?_
  refine wend ?_
  refine condProp ((k : Nat) < (8 : Int)) rfl (fun hk8 => ?_) (fun hk8 => ?_)
  · skip
    refine skipAny ?_
    refine thenNormal ?_
    refine seqAny ?_
    refine blockAny ?_
    refine seqAny ?_
    refine seqRegion ?_
    refine sq (r_move (v := u8 (b)) rfl) ?_
    refine sq (r_8toI und5 und3 (a := b) rfl) ?_
    refine sq (r_move (v := i64 ((k : Nat))) rfl) ?_
    refine sq (r_shrN (a := b.toNat) (c := k) rfl rfl (by omega)) ?_
    refine sq (r_remI (a := (b.toNat >>> k : Nat)) (b := (2 : Int)) rfl rfl (⟨Int.natCast_nonneg _, by omega⟩)) ?_
    refine sq (r_eqlI (a := (b.toNat >>> k : Nat) % (2 : Int)) (b := (1 : Int)) rfl rfl) ?_
    refine wend ?_
    refine condProp (((b.toNat >>> k : Nat) % (2 : Int)) = (1 : Int)) rfl (fun c1 => ?_) (fun c1 => ?_)
    · skip
      refine oneRegion ?_
      refine sq (r_move (v := i64 (((gmS a.toNat b.toNat k).1 : Nat))) rfl) ?_
      refine sq (r_move (v := i64 (((gmS a.toNat b.toNat k).2 : Nat))) rfl) ?_
      refine sq (r_xorN (a := (gmS a.toNat b.toNat k).1) (b := (gmS a.toNat b.toNat k).2) rfl rfl (by omega) (by omega)) ?_
      refine sq (r_assign (v := i64 ((((gmS a.toNat b.toNat k).1) ^^^ ((gmS a.toNat b.toNat k).2) : Nat))) rfl) ?_
      refine wnil ?_
      refine thenNormal ?_
      refine seqRegion ?_
      refine sq (r_move (v := i64 (((gmS a.toNat b.toNat k).2 : Nat))) rfl) ?_
      refine sq (r_mulI (a := ((gmS a.toNat b.toNat k).2 : Nat)) (b := (2 : Int)) rfl rfl (by omega)) ?_
      refine sq (r_assign (v := i64 (((gmS a.toNat b.toNat k).2 : Nat) * (2 : Int))) rfl) ?_
      refine wend ?_
      refine seqRegion ?_
      refine sq (r_move (v := i64 (((gmS a.toNat b.toNat k).2 : Nat) * (2 : Int))) rfl) ?_
      refine sq (r_geqI (a := ((gmS a.toNat b.toNat k).2 : Nat) * (2 : Int)) (b := (256 : Int)) rfl rfl) ?_
      refine wend ?_
      refine condProp ((256 : Int) ≤ (((gmS a.toNat b.toNat k).2 : Nat) * (2 : Int))) rfl (fun c2 => ?_) (fun c2 => ?_)
      · skip
        refine oneRegion ?_
        refine sq (r_move (v := i64 (((gmS a.toNat b.toNat k).2 : Nat) * (2 : Int))) rfl) ?_
        refine sq (r_xorN (a := ((gmS a.toNat b.toNat k).2) * 2) (b := 283) rfl rfl (by omega) (by omega)) ?_
        refine sq (r_assign (v := i64 (((((gmS a.toNat b.toNat k).2) * 2) ^^^ 283 : Nat))) rfl) ?_
        refine wnil ?_
        refine blockNormal ?_
        refine thenNormal ?_
        refine oneRegion ?_
        refine sq (r_move (v := i64 ((k : Nat))) rfl) ?_
        refine sq (r_addI (a := (k : Nat)) (b := (1 : Int)) rfl rfl (by omega)) ?_
        refine sq (r_assign (v := i64 ((k : Nat) + (1 : Int))) rfl) ?_
        refine wnil ?_
        refine thenNormal ?_
        have e5 : i64 ((((gmS a.toNat b.toNat k).1) ^^^ ((gmS a.toNat b.toNat k).2) : Nat)) = i64 (((gmS a.toNat b.toNat (k + 1)).1 : Nat)) := congrArg i64 (by simp only [gmS]; first | rw [if_pos (by omega)] | rw [if_neg (by omega)])
        have e6 : i64 (((((gmS a.toNat b.toNat k).2) * 2) ^^^ 283 : Nat)) = i64 (((gmS a.toNat b.toNat (k + 1)).2 : Nat)) := congrArg i64 (by simp only [gmS]; first | rw [if_pos (by omega)] | (rw [if_neg (by omega)]; omega))
        exact ⟨k + 1, _, rfl, ⟨rfl, e5, e6, rfl, trivial⟩, ⟨by omega, hE⟩, by show 8 - (k + 1) < 8 - k; omega⟩
      · skip
        refine skipAny ?_
        refine blockNormal ?_
        refine thenNormal ?_
        refine oneRegion ?_
        refine sq (r_move (v := i64 ((k : Nat))) rfl) ?_
        refine sq (r_addI (a := (k : Nat)) (b := (1 : Int)) rfl rfl (by omega)) ?_
        refine sq (r_assign (v := i64 ((k : Nat) + (1 : Int))) rfl) ?_
        refine wnil ?_
        refine thenNormal ?_
        have e5 : i64 ((((gmS a.toNat b.toNat k).1) ^^^ ((gmS a.toNat b.toNat k).2) : Nat)) = i64 (((gmS a.toNat b.toNat (k + 1)).1 : Nat)) := congrArg i64 (by simp only [gmS]; first | rw [if_pos (by omega)] | rw [if_neg (by omega)])
        have e6 : i64 (((gmS a.toNat b.toNat k).2 : Nat) * (2 : Int)) = i64 (((gmS a.toNat b.toNat (k + 1)).2 : Nat)) := congrArg i64 (by simp only [gmS]; first | rw [if_pos (by omega)] | (rw [if_neg (by omega)]; omega))
        exact ⟨k + 1, _, rfl, ⟨rfl, e5, e6, rfl, trivial⟩, ⟨by omega, hE⟩, by show 8 - (k + 1) < 8 - k; omega⟩
    · skip
      refine skipAny ?_
      refine thenNormal ?_
      refine seqRegion ?_
      refine sq (r_move (v := i64 (((gmS a.toNat b.toNat k).2 : Nat))) rfl) ?_
      refine sq (r_mulI (a := ((gmS a.toNat b.toNat k).2 : Nat)) (b := (2 : Int)) rfl rfl (by omega)) ?_
      refine sq (r_assign (v := i64 (((gmS a.toNat b.toNat k).2 : Nat) * (2 : Int))) rfl) ?_
      refine wend ?_
      refine seqRegion ?_
      refine sq (r_move (v := i64 (((gmS a.toNat b.toNat k).2 : Nat) * (2 : Int))) rfl) ?_
      refine sq (r_geqI (a := ((gmS a.toNat b.toNat k).2 : Nat) * (2 : Int)) (b := (256 : Int)) rfl rfl) ?_
      refine wend ?_
      refine condProp ((256 : Int) ≤ (((gmS a.toNat b.toNat k).2 : Nat) * (2 : Int))) rfl (fun c2 => ?_) (fun c2 => ?_)
      · skip
        refine oneRegion ?_
        refine sq (r_move (v := i64 (((gmS a.toNat b.toNat k).2 : Nat) * (2 : Int))) rfl) ?_
        refine sq (r_xorN (a := ((gmS a.toNat b.toNat k).2) * 2) (b := 283) rfl rfl (by omega) (by omega)) ?_
        refine sq (r_assign (v := i64 (((((gmS a.toNat b.toNat k).2) * 2) ^^^ 283 : Nat))) rfl) ?_
        refine wnil ?_
        refine blockNormal ?_
        refine thenNormal ?_
        refine oneRegion ?_
        refine sq (r_move (v := i64 ((k : Nat))) rfl) ?_
        refine sq (r_addI (a := (k : Nat)) (b := (1 : Int)) rfl rfl (by omega)) ?_
        refine sq (r_assign (v := i64 ((k : Nat) + (1 : Int))) rfl) ?_
        refine wnil ?_
        refine thenNormal ?_
        have e5 : i64 (((gmS a.toNat b.toNat k).1 : Nat)) = i64 (((gmS a.toNat b.toNat (k + 1)).1 : Nat)) := congrArg i64 (by simp only [gmS]; first | rw [if_pos (by omega)] | rw [if_neg (by omega)])
        have e6 : i64 (((((gmS a.toNat b.toNat k).2) * 2) ^^^ 283 : Nat)) = i64 (((gmS a.toNat b.toNat (k + 1)).2 : Nat)) := congrArg i64 (by simp only [gmS]; first | rw [if_pos (by omega)] | (rw [if_neg (by omega)]; omega))
        exact ⟨k + 1, _, rfl, ⟨rfl, e5, e6, rfl, trivial⟩, ⟨by omega, hE⟩, by show 8 - (k + 1) < 8 - k; omega⟩
      · skip
        refine skipAny ?_
        refine blockNormal ?_
        refine thenNormal ?_
        refine oneRegion ?_
        refine sq (r_move (v := i64 ((k : Nat))) rfl) ?_
        refine sq (r_addI (a := (k : Nat)) (b := (1 : Int)) rfl rfl (by omega)) ?_
        refine sq (r_assign (v := i64 ((k : Nat) + (1 : Int))) rfl) ?_
        refine wnil ?_
        refine thenNormal ?_
        have e5 : i64 (((gmS a.toNat b.toNat k).1 : Nat)) = i64 (((gmS a.toNat b.toNat (k + 1)).1 : Nat)) := congrArg i64 (by simp only [gmS]; first | rw [if_pos (by omega)] | rw [if_neg (by omega)])
        have e6 : i64 (((gmS a.toNat b.toNat k).2 : Nat) * (2 : Int)) = i64 (((gmS a.toNat b.toNat (k + 1)).2 : Nat)) := congrArg i64 (by simp only [gmS]; first | rw [if_pos (by omega)] | (rw [if_neg (by omega)]; omega))
        exact ⟨k + 1, _, rfl, ⟨rfl, e5, e6, rfl, trivial⟩, ⟨by omega, hE⟩, by show 8 - (k + 1) < 8 - k; omega⟩
  · skip
    refine exitAny ?_
    refine thenExit ?_
    refine thenExit ?_
    refine blockHere ?_
    refine thenNormal ?_
    refine seqRegion ?_
    refine sq (r_move (v := i64 (((gmS a.toNat b.toNat k).1 : Nat))) rfl) ?_
    refine sq (r_Ito8 und3 und5 (a := ((gmS a.toNat b.toNat k).1 : Nat)) rfl) ?_
    refine sq (r_assign (v := u8 (BitVec.ofInt 8 ((gmS a.toNat b.toNat k).1 : Nat))) rfl) ?_
    refine wend ?_
    refine retAny ?_
    refine retG (rs := [.tmp 4]) (vs := [u8 (BitVec.ofInt 8 ((gmS a.toNat b.toNat k).1 : Nat))]) rfl ⟨⟨rfl, rfl⟩, trivial⟩ ?_
    obtain rfl : k = 8 := by omega
    exact ⟨_, rfl, congrArg u8 (gm_eq _ _), hE⟩

theorem rot_ok (a : BitVec 8) (k : Nat) (hk : k < 8) (w : World) : Calls Try.prog 33 [u8 (a), i64 ((k : Nat))].toArray w (Ret fun v w' => v = u8 (rot a k) ∧ Ext w w') := by
  have H := Hp.start No w
  refine enter (n := 17) Try.func33 rfl rfl (Nat.le_of_ble_eq_true rfl) ?_
  refine seqRegion ?_
  refine sq (r_assign (v := u8 (0#8)) rfl) ?_
  refine wend ?_
  refine seqRegion ?_
  refine sq (r_move (v := i64 ((k : Nat))) rfl) ?_
  refine sq (r_Ito64 und3 und63 (a := (k : Nat)) rfl) ?_
  refine sq (r_and64 (a := BitVec.ofInt 64 (k : Nat)) (b := 7#64) rfl rfl) ?_
  refine sq (r_assign (v := u64 ((BitVec.ofInt 64 (k : Nat)) &&& (7#64))) rfl) ?_
  refine wend ?_
  refine seqRegion ?_
  refine sq (r_move (v := u8 (a)) rfl) ?_
  refine sq (r_move (v := u64 ((BitVec.ofInt 64 (k : Nat)) &&& (7#64))) rfl) ?_
  refine sq (r_shl8 (a := a) (c := ((BitVec.ofInt 64 (k : Nat)) &&& (7#64)).toNat) rfl rfl) ?_
  refine sq (r_move (v := u8 (a)) rfl) ?_
  refine sq (r_move (v := u64 ((BitVec.ofInt 64 (k : Nat)) &&& (7#64))) rfl) ?_
  refine sq (r_sub64 (a := 8#64) (b := (BitVec.ofInt 64 (k : Nat)) &&& (7#64)) rfl rfl) ?_
  refine sq (r_shr8 (a := a) (c := ((8#64) - ((BitVec.ofInt 64 (k : Nat)) &&& (7#64))).toNat) rfl rfl) ?_
  refine sq (r_or8 (a := a <<< (((BitVec.ofInt 64 (k : Nat)) &&& (7#64)).toNat : Nat)) (b := a >>> (((8#64) - ((BitVec.ofInt 64 (k : Nat)) &&& (7#64))).toNat : Nat)) rfl rfl) ?_
  refine sq (r_assign (v := u8 ((a <<< (((BitVec.ofInt 64 (k : Nat)) &&& (7#64)).toNat : Nat)) ||| (a >>> (((8#64) - ((BitVec.ofInt 64 (k : Nat)) &&& (7#64))).toNat : Nat)))) rfl) ?_
  refine wend ?_
  refine retAny ?_
  refine retG (rs := [.tmp 4]) (vs := [u8 ((a <<< (((BitVec.ofInt 64 (k : Nat)) &&& (7#64)).toNat : Nat)) ||| (a >>> (((8#64) - ((BitVec.ofInt 64 (k : Nat)) &&& (7#64))).toNat : Nat)))]) rfl ⟨⟨rfl, rfl⟩, trivial⟩ ?_
  exact ⟨_, rfl, congrArg u8 (by simp only [rot, (rot_eq k hk).1, (rot_eq k hk).2]), H.chg⟩

theorem fill_ok (b : Nat) (cl : List By) (hn : cl.length = 432) (w : World) (hb : w.heap[b]? = some (.cells (cel E8 cl).toArray 50 (0, 0))) : Calls Try.prog 20 [.pointer (some ⟨b, 0, none⟩)].toArray w (Ret fun v w' => v = .tuple #[] ∧ Chg (· = b) w w' ∧ w'.heap[b]? = some (.cells (cel E8 (fillL cl)).toArray 50 (0, 0))) := by
  have H := Hp.start1 (M := (· = b)) rfl hb
  refine enter (n := 50) Try.func20 rfl rfl (Nat.le_of_ble_eq_true rfl) ?_
  refine seqRegion ?_
  refine sq (r_assign (v := u8 (1#8)) rfl) ?_
  refine sq (r_assign (v := u8 (1#8)) rfl) ?_
  refine wend ?_
  refine seqAny ?_
  refine seqRegion ?_
  refine sq (r_move (v := i64 ((0 : Int))) rfl) ?_
  refine wend ?_
  refine blockAny ?_
  refine loopAny (σ := Nat) (fun k => [(0, .pointer (some ⟨b, 0, none⟩)), (2, u8 ((fillS cl k).1)), (3, u8 ((fillS cl k).2.1)), (4, i64 ((k : Nat)))]) (fun k w' => k ≤ 255 ∧ Hp (· = b) w w' [(some b, .cells (cel E8 ((fillS cl k).2.2)).toArray 50 (0, 0))]) (fun k => 255 - k) (0) ?_ ?_ ?_
  · exact ⟨rfl, rfl, rfl, rfl, trivial⟩
  · exact ⟨by omega, H⟩
  rintro k ρ w1 ⟨hk, H2⟩
  have hl := fillS_len cl k
  rw [hn] at hl
  refine seqRegion ?_
  refine sq (r_lssI (a := (k : Nat)) (b := (255 : Int)) rfl rfl) ?_
  refine wend ?_
  refine seqAny ?_
  refine condProp ((k : Nat) < (255 : Int)) rfl (fun hk5 => ?_) (fun hk5 => ?_)
  · skip
    refine skipAny ?_
    refine thenNormal ?_
    refine seqAny ?_
    refine blockAny ?_
    refine seqRegion ?_
    refine sq (r_move (v := u8 ((fillS cl k).1)) rfl) ?_
    refine sq (r_move (v := u8 ((fillS cl k).1)) rfl) ?_
    refine c_call (vs := [u8 ((fillS cl k).1)]) call21 rfl (twice_ok ((fillS cl k).1) w1) ?_
    rintro _ w3 ⟨rfl, hE4⟩
    have H5 := H2.ext hE4
    refine sq (r_xor8 (a := (fillS cl k).1) (b := xt ((fillS cl k).1)) rfl rfl) ?_
    refine sq (r_assign (v := u8 (((fillS cl k).1) ^^^ (xt ((fillS cl k).1)))) rfl) ?_
    refine wend ?_
    refine seqRegion ?_
    refine sq (r_move (v := u8 ((fillS cl k).2.1)) rfl) ?_
    refine sq (r_move (v := u8 ((fillS cl k).2.1)) rfl) ?_
    refine sq (r_shl8 (a := (fillS cl k).2.1) (c := 1) rfl rfl) ?_
    refine sq (r_xor8 (a := (fillS cl k).2.1) (b := ((fillS cl k).2.1) <<< (1 : Nat)) rfl rfl) ?_
    refine sq (r_assign (v := u8 (((fillS cl k).2.1) ^^^ (((fillS cl k).2.1) <<< (1 : Nat)))) rfl) ?_
    refine wend ?_
    refine seqRegion ?_
    refine sq (r_move (v := u8 (((fillS cl k).2.1) ^^^ (((fillS cl k).2.1) <<< (1 : Nat)))) rfl) ?_
    refine sq (r_move (v := u8 (((fillS cl k).2.1) ^^^ (((fillS cl k).2.1) <<< (1 : Nat)))) rfl) ?_
    refine sq (r_shl8 (a := ((fillS cl k).2.1) ^^^ (((fillS cl k).2.1) <<< (1 : Nat))) (c := 2) rfl rfl) ?_
    refine sq (r_xor8 (a := ((fillS cl k).2.1) ^^^ (((fillS cl k).2.1) <<< (1 : Nat))) (b := (((fillS cl k).2.1) ^^^ (((fillS cl k).2.1) <<< (1 : Nat))) <<< (2 : Nat)) rfl rfl) ?_
    refine sq (r_assign (v := u8 ((((fillS cl k).2.1) ^^^ (((fillS cl k).2.1) <<< (1 : Nat))) ^^^ ((((fillS cl k).2.1) ^^^ (((fillS cl k).2.1) <<< (1 : Nat))) <<< (2 : Nat)))) rfl) ?_
    refine wend ?_
    refine seqRegion ?_
    refine sq (r_move (v := u8 ((((fillS cl k).2.1) ^^^ (((fillS cl k).2.1) <<< (1 : Nat))) ^^^ ((((fillS cl k).2.1) ^^^ (((fillS cl k).2.1) <<< (1 : Nat))) <<< (2 : Nat)))) rfl) ?_
    refine sq (r_move (v := u8 ((((fillS cl k).2.1) ^^^ (((fillS cl k).2.1) <<< (1 : Nat))) ^^^ ((((fillS cl k).2.1) ^^^ (((fillS cl k).2.1) <<< (1 : Nat))) <<< (2 : Nat)))) rfl) ?_
    refine sq (r_shl8 (a := (((fillS cl k).2.1) ^^^ (((fillS cl k).2.1) <<< (1 : Nat))) ^^^ ((((fillS cl k).2.1) ^^^ (((fillS cl k).2.1) <<< (1 : Nat))) <<< (2 : Nat))) (c := 4) rfl rfl) ?_
    refine sq (r_xor8 (a := (((fillS cl k).2.1) ^^^ (((fillS cl k).2.1) <<< (1 : Nat))) ^^^ ((((fillS cl k).2.1) ^^^ (((fillS cl k).2.1) <<< (1 : Nat))) <<< (2 : Nat))) (b := ((((fillS cl k).2.1) ^^^ (((fillS cl k).2.1) <<< (1 : Nat))) ^^^ ((((fillS cl k).2.1) ^^^ (((fillS cl k).2.1) <<< (1 : Nat))) <<< (2 : Nat))) <<< (4 : Nat)) rfl rfl) ?_
    refine sq (r_assign (v := u8 (((((fillS cl k).2.1) ^^^ (((fillS cl k).2.1) <<< (1 : Nat))) ^^^ ((((fillS cl k).2.1) ^^^ (((fillS cl k).2.1) <<< (1 : Nat))) <<< (2 : Nat))) ^^^ (((((fillS cl k).2.1) ^^^ (((fillS cl k).2.1) <<< (1 : Nat))) ^^^ ((((fillS cl k).2.1) ^^^ (((fillS cl k).2.1) <<< (1 : Nat))) <<< (2 : Nat))) <<< (4 : Nat)))) rfl) ?_
    refine wend ?_
    refine seqAny ?_
    refine seqRegion ?_
    refine sq (r_move (v := u8 (((((fillS cl k).2.1) ^^^ (((fillS cl k).2.1) <<< (1 : Nat))) ^^^ ((((fillS cl k).2.1) ^^^ (((fillS cl k).2.1) <<< (1 : Nat))) <<< (2 : Nat))) ^^^ (((((fillS cl k).2.1) ^^^ (((fillS cl k).2.1) <<< (1 : Nat))) ^^^ ((((fillS cl k).2.1) ^^^ (((fillS cl k).2.1) <<< (1 : Nat))) <<< (2 : Nat))) <<< (4 : Nat)))) rfl) ?_
    refine sq (r_geq8 (a := ((((fillS cl k).2.1) ^^^ (((fillS cl k).2.1) <<< (1 : Nat))) ^^^ ((((fillS cl k).2.1) ^^^ (((fillS cl k).2.1) <<< (1 : Nat))) <<< (2 : Nat))) ^^^ (((((fillS cl k).2.1) ^^^ (((fillS cl k).2.1) <<< (1 : Nat))) ^^^ ((((fillS cl k).2.1) ^^^ (((fillS cl k).2.1) <<< (1 : Nat))) <<< (2 : Nat))) <<< (4 : Nat))) (b := 128#8) rfl rfl) ?_
    refine wend ?_
    refine condProp ((128#8).toNat ≤ (((((fillS cl k).2.1) ^^^ (((fillS cl k).2.1) <<< (1 : Nat))) ^^^ ((((fillS cl k).2.1) ^^^ (((fillS cl k).2.1) <<< (1 : Nat))) <<< (2 : Nat))) ^^^ (((((fillS cl k).2.1) ^^^ (((fillS cl k).2.1) <<< (1 : Nat))) ^^^ ((((fillS cl k).2.1) ^^^ (((fillS cl k).2.1) <<< (1 : Nat))) <<< (2 : Nat))) <<< (4 : Nat))).toNat) rfl (fun c23 => ?_) (fun c23 => ?_)
    · skip
      refine oneRegion ?_
      refine sq (r_move (v := u8 (((((fillS cl k).2.1) ^^^ (((fillS cl k).2.1) <<< (1 : Nat))) ^^^ ((((fillS cl k).2.1) ^^^ (((fillS cl k).2.1) <<< (1 : Nat))) <<< (2 : Nat))) ^^^ (((((fillS cl k).2.1) ^^^ (((fillS cl k).2.1) <<< (1 : Nat))) ^^^ ((((fillS cl k).2.1) ^^^ (((fillS cl k).2.1) <<< (1 : Nat))) <<< (2 : Nat))) <<< (4 : Nat)))) rfl) ?_
      refine sq (r_xor8 (a := ((((fillS cl k).2.1) ^^^ (((fillS cl k).2.1) <<< (1 : Nat))) ^^^ ((((fillS cl k).2.1) ^^^ (((fillS cl k).2.1) <<< (1 : Nat))) <<< (2 : Nat))) ^^^ (((((fillS cl k).2.1) ^^^ (((fillS cl k).2.1) <<< (1 : Nat))) ^^^ ((((fillS cl k).2.1) ^^^ (((fillS cl k).2.1) <<< (1 : Nat))) <<< (2 : Nat))) <<< (4 : Nat))) (b := 9#8) rfl rfl) ?_
      refine sq (r_assign (v := u8 ((((((fillS cl k).2.1) ^^^ (((fillS cl k).2.1) <<< (1 : Nat))) ^^^ ((((fillS cl k).2.1) ^^^ (((fillS cl k).2.1) <<< (1 : Nat))) <<< (2 : Nat))) ^^^ (((((fillS cl k).2.1) ^^^ (((fillS cl k).2.1) <<< (1 : Nat))) ^^^ ((((fillS cl k).2.1) ^^^ (((fillS cl k).2.1) <<< (1 : Nat))) <<< (2 : Nat))) <<< (4 : Nat))) ^^^ (9#8))) rfl) ?_
      refine wnil ?_
      refine thenNormal ?_
      refine drawAny (K := [none, none, none, none, none, none, none, none, none, none, none, none, none, none, none, none, none, none, none]) [0, 0, 0, 0, 8, 28, 0, 88, 252, 0, 728, 2044, 0, 5848, 16380, 32764, 1, 65537, 262143, 524287] (fun w' => Ext w3 w') (fun w' w'' => Ext w' w'') mixed (by kernel_rfl) (Ext.drew _) (fun _ _ h h' => h.trans h') ?_ ?_
      · exact relNone (by decide)
      refine ⟨.pointer (some ⟨b, 0, none⟩), fun _ uw6 hC7 _ => Gives.run rfl (r_move (v := .pointer (some ⟨b, 0, none⟩)) rfl) ⟨rfl, Chg.refl _ _⟩, ?_⟩
      refine ⟨u8 (((fillS cl k).1) ^^^ (xt ((fillS cl k).1))), fun _ uw8 hC9 _ => Gives.run rfl (r_move (v := u8 (((fillS cl k).1) ^^^ (xt ((fillS cl k).1)))) rfl) ⟨rfl, Chg.refl _ _⟩, ?_⟩
      refine ⟨u8 ((((((fillS cl k).2.1) ^^^ (((fillS cl k).2.1) <<< (1 : Nat))) ^^^ ((((fillS cl k).2.1) ^^^ (((fillS cl k).2.1) <<< (1 : Nat))) <<< (2 : Nat))) ^^^ (((((fillS cl k).2.1) ^^^ (((fillS cl k).2.1) <<< (1 : Nat))) ^^^ ((((fillS cl k).2.1) ^^^ (((fillS cl k).2.1) <<< (1 : Nat))) <<< (2 : Nat))) <<< (4 : Nat))) ^^^ (9#8)), fun _ uw10 hC11 _ => Gives.run rfl (r_move (v := u8 ((((((fillS cl k).2.1) ^^^ (((fillS cl k).2.1) <<< (1 : Nat))) ^^^ ((((fillS cl k).2.1) ^^^ (((fillS cl k).2.1) <<< (1 : Nat))) <<< (2 : Nat))) ^^^ (((((fillS cl k).2.1) ^^^ (((fillS cl k).2.1) <<< (1 : Nat))) ^^^ ((((fillS cl k).2.1) ^^^ (((fillS cl k).2.1) <<< (1 : Nat))) <<< (2 : Nat))) <<< (4 : Nat))) ^^^ (9#8))) rfl) ⟨rfl, Chg.refl _ _⟩, ?_⟩
      refine ⟨u8 ((((((fillS cl k).2.1) ^^^ (((fillS cl k).2.1) <<< (1 : Nat))) ^^^ ((((fillS cl k).2.1) ^^^ (((fillS cl k).2.1) <<< (1 : Nat))) <<< (2 : Nat))) ^^^ (((((fillS cl k).2.1) ^^^ (((fillS cl k).2.1) <<< (1 : Nat))) ^^^ ((((fillS cl k).2.1) ^^^ (((fillS cl k).2.1) <<< (1 : Nat))) <<< (2 : Nat))) <<< (4 : Nat))) ^^^ (9#8)), fun _ uw12 hC13 _ => Gives.run rfl (r_move (v := u8 ((((((fillS cl k).2.1) ^^^ (((fillS cl k).2.1) <<< (1 : Nat))) ^^^ ((((fillS cl k).2.1) ^^^ (((fillS cl k).2.1) <<< (1 : Nat))) <<< (2 : Nat))) ^^^ (((((fillS cl k).2.1) ^^^ (((fillS cl k).2.1) <<< (1 : Nat))) ^^^ ((((fillS cl k).2.1) ^^^ (((fillS cl k).2.1) <<< (1 : Nat))) <<< (2 : Nat))) <<< (4 : Nat))) ^^^ (9#8))) rfl) ⟨rfl, Chg.refl _ _⟩, ?_⟩
      refine ⟨u8 (rot ((((((fillS cl k).2.1) ^^^ (((fillS cl k).2.1) <<< (1 : Nat))) ^^^ ((((fillS cl k).2.1) ^^^ (((fillS cl k).2.1) <<< (1 : Nat))) <<< (2 : Nat))) ^^^ (((((fillS cl k).2.1) ^^^ (((fillS cl k).2.1) <<< (1 : Nat))) ^^^ ((((fillS cl k).2.1) ^^^ (((fillS cl k).2.1) <<< (1 : Nat))) <<< (2 : Nat))) <<< (4 : Nat))) ^^^ (9#8)) 1), fun _ uw14 hC15 _ => Gives.call rfl (Enters.callL (vs := [u8 ((((((fillS cl k).2.1) ^^^ (((fillS cl k).2.1) <<< (1 : Nat))) ^^^ ((((fillS cl k).2.1) ^^^ (((fillS cl k).2.1) <<< (1 : Nat))) <<< (2 : Nat))) ^^^ (((((fillS cl k).2.1) ^^^ (((fillS cl k).2.1) <<< (1 : Nat))) ^^^ ((((fillS cl k).2.1) ^^^ (((fillS cl k).2.1) <<< (1 : Nat))) <<< (2 : Nat))) <<< (4 : Nat))) ^^^ (9#8)), i64 ((1 : Int))]) call33 rfl) (rot_ok ((((((fillS cl k).2.1) ^^^ (((fillS cl k).2.1) <<< (1 : Nat))) ^^^ ((((fillS cl k).2.1) ^^^ (((fillS cl k).2.1) <<< (1 : Nat))) <<< (2 : Nat))) ^^^ (((((fillS cl k).2.1) ^^^ (((fillS cl k).2.1) <<< (1 : Nat))) ^^^ ((((fillS cl k).2.1) ^^^ (((fillS cl k).2.1) <<< (1 : Nat))) <<< (2 : Nat))) <<< (4 : Nat))) ^^^ (9#8)) 1 (by decide) uw14), ?_⟩
      refine ⟨u8 (((((((fillS cl k).2.1) ^^^ (((fillS cl k).2.1) <<< (1 : Nat))) ^^^ ((((fillS cl k).2.1) ^^^ (((fillS cl k).2.1) <<< (1 : Nat))) <<< (2 : Nat))) ^^^ (((((fillS cl k).2.1) ^^^ (((fillS cl k).2.1) <<< (1 : Nat))) ^^^ ((((fillS cl k).2.1) ^^^ (((fillS cl k).2.1) <<< (1 : Nat))) <<< (2 : Nat))) <<< (4 : Nat))) ^^^ (9#8)) ^^^ (rot ((((((fillS cl k).2.1) ^^^ (((fillS cl k).2.1) <<< (1 : Nat))) ^^^ ((((fillS cl k).2.1) ^^^ (((fillS cl k).2.1) <<< (1 : Nat))) <<< (2 : Nat))) ^^^ (((((fillS cl k).2.1) ^^^ (((fillS cl k).2.1) <<< (1 : Nat))) ^^^ ((((fillS cl k).2.1) ^^^ (((fillS cl k).2.1) <<< (1 : Nat))) <<< (2 : Nat))) <<< (4 : Nat))) ^^^ (9#8)) 1)), fun _ uw16 hC17 _ => Gives.run rfl (r_xor8 (a := (((((fillS cl k).2.1) ^^^ (((fillS cl k).2.1) <<< (1 : Nat))) ^^^ ((((fillS cl k).2.1) ^^^ (((fillS cl k).2.1) <<< (1 : Nat))) <<< (2 : Nat))) ^^^ (((((fillS cl k).2.1) ^^^ (((fillS cl k).2.1) <<< (1 : Nat))) ^^^ ((((fillS cl k).2.1) ^^^ (((fillS cl k).2.1) <<< (1 : Nat))) <<< (2 : Nat))) <<< (4 : Nat))) ^^^ (9#8)) (b := rot ((((((fillS cl k).2.1) ^^^ (((fillS cl k).2.1) <<< (1 : Nat))) ^^^ ((((fillS cl k).2.1) ^^^ (((fillS cl k).2.1) <<< (1 : Nat))) <<< (2 : Nat))) ^^^ (((((fillS cl k).2.1) ^^^ (((fillS cl k).2.1) <<< (1 : Nat))) ^^^ ((((fillS cl k).2.1) ^^^ (((fillS cl k).2.1) <<< (1 : Nat))) <<< (2 : Nat))) <<< (4 : Nat))) ^^^ (9#8)) 1) rfl rfl) ⟨rfl, Chg.refl _ _⟩, ?_⟩
      refine ⟨u8 ((((((fillS cl k).2.1) ^^^ (((fillS cl k).2.1) <<< (1 : Nat))) ^^^ ((((fillS cl k).2.1) ^^^ (((fillS cl k).2.1) <<< (1 : Nat))) <<< (2 : Nat))) ^^^ (((((fillS cl k).2.1) ^^^ (((fillS cl k).2.1) <<< (1 : Nat))) ^^^ ((((fillS cl k).2.1) ^^^ (((fillS cl k).2.1) <<< (1 : Nat))) <<< (2 : Nat))) <<< (4 : Nat))) ^^^ (9#8)), fun _ uw18 hC19 _ => Gives.run rfl (r_move (v := u8 ((((((fillS cl k).2.1) ^^^ (((fillS cl k).2.1) <<< (1 : Nat))) ^^^ ((((fillS cl k).2.1) ^^^ (((fillS cl k).2.1) <<< (1 : Nat))) <<< (2 : Nat))) ^^^ (((((fillS cl k).2.1) ^^^ (((fillS cl k).2.1) <<< (1 : Nat))) ^^^ ((((fillS cl k).2.1) ^^^ (((fillS cl k).2.1) <<< (1 : Nat))) <<< (2 : Nat))) <<< (4 : Nat))) ^^^ (9#8))) rfl) ⟨rfl, Chg.refl _ _⟩, ?_⟩
      refine ⟨u8 (rot ((((((fillS cl k).2.1) ^^^ (((fillS cl k).2.1) <<< (1 : Nat))) ^^^ ((((fillS cl k).2.1) ^^^ (((fillS cl k).2.1) <<< (1 : Nat))) <<< (2 : Nat))) ^^^ (((((fillS cl k).2.1) ^^^ (((fillS cl k).2.1) <<< (1 : Nat))) ^^^ ((((fillS cl k).2.1) ^^^ (((fillS cl k).2.1) <<< (1 : Nat))) <<< (2 : Nat))) <<< (4 : Nat))) ^^^ (9#8)) 2), fun _ uw20 hC21 _ => Gives.call rfl (Enters.callL (vs := [u8 ((((((fillS cl k).2.1) ^^^ (((fillS cl k).2.1) <<< (1 : Nat))) ^^^ ((((fillS cl k).2.1) ^^^ (((fillS cl k).2.1) <<< (1 : Nat))) <<< (2 : Nat))) ^^^ (((((fillS cl k).2.1) ^^^ (((fillS cl k).2.1) <<< (1 : Nat))) ^^^ ((((fillS cl k).2.1) ^^^ (((fillS cl k).2.1) <<< (1 : Nat))) <<< (2 : Nat))) <<< (4 : Nat))) ^^^ (9#8)), i64 ((2 : Int))]) call33 rfl) (rot_ok ((((((fillS cl k).2.1) ^^^ (((fillS cl k).2.1) <<< (1 : Nat))) ^^^ ((((fillS cl k).2.1) ^^^ (((fillS cl k).2.1) <<< (1 : Nat))) <<< (2 : Nat))) ^^^ (((((fillS cl k).2.1) ^^^ (((fillS cl k).2.1) <<< (1 : Nat))) ^^^ ((((fillS cl k).2.1) ^^^ (((fillS cl k).2.1) <<< (1 : Nat))) <<< (2 : Nat))) <<< (4 : Nat))) ^^^ (9#8)) 2 (by decide) uw20), ?_⟩
      refine ⟨u8 ((((((((fillS cl k).2.1) ^^^ (((fillS cl k).2.1) <<< (1 : Nat))) ^^^ ((((fillS cl k).2.1) ^^^ (((fillS cl k).2.1) <<< (1 : Nat))) <<< (2 : Nat))) ^^^ (((((fillS cl k).2.1) ^^^ (((fillS cl k).2.1) <<< (1 : Nat))) ^^^ ((((fillS cl k).2.1) ^^^ (((fillS cl k).2.1) <<< (1 : Nat))) <<< (2 : Nat))) <<< (4 : Nat))) ^^^ (9#8)) ^^^ (rot ((((((fillS cl k).2.1) ^^^ (((fillS cl k).2.1) <<< (1 : Nat))) ^^^ ((((fillS cl k).2.1) ^^^ (((fillS cl k).2.1) <<< (1 : Nat))) <<< (2 : Nat))) ^^^ (((((fillS cl k).2.1) ^^^ (((fillS cl k).2.1) <<< (1 : Nat))) ^^^ ((((fillS cl k).2.1) ^^^ (((fillS cl k).2.1) <<< (1 : Nat))) <<< (2 : Nat))) <<< (4 : Nat))) ^^^ (9#8)) 1)) ^^^ (rot ((((((fillS cl k).2.1) ^^^ (((fillS cl k).2.1) <<< (1 : Nat))) ^^^ ((((fillS cl k).2.1) ^^^ (((fillS cl k).2.1) <<< (1 : Nat))) <<< (2 : Nat))) ^^^ (((((fillS cl k).2.1) ^^^ (((fillS cl k).2.1) <<< (1 : Nat))) ^^^ ((((fillS cl k).2.1) ^^^ (((fillS cl k).2.1) <<< (1 : Nat))) <<< (2 : Nat))) <<< (4 : Nat))) ^^^ (9#8)) 2)), fun _ uw22 hC23 _ => Gives.run rfl (r_xor8 (a := ((((((fillS cl k).2.1) ^^^ (((fillS cl k).2.1) <<< (1 : Nat))) ^^^ ((((fillS cl k).2.1) ^^^ (((fillS cl k).2.1) <<< (1 : Nat))) <<< (2 : Nat))) ^^^ (((((fillS cl k).2.1) ^^^ (((fillS cl k).2.1) <<< (1 : Nat))) ^^^ ((((fillS cl k).2.1) ^^^ (((fillS cl k).2.1) <<< (1 : Nat))) <<< (2 : Nat))) <<< (4 : Nat))) ^^^ (9#8)) ^^^ (rot ((((((fillS cl k).2.1) ^^^ (((fillS cl k).2.1) <<< (1 : Nat))) ^^^ ((((fillS cl k).2.1) ^^^ (((fillS cl k).2.1) <<< (1 : Nat))) <<< (2 : Nat))) ^^^ (((((fillS cl k).2.1) ^^^ (((fillS cl k).2.1) <<< (1 : Nat))) ^^^ ((((fillS cl k).2.1) ^^^ (((fillS cl k).2.1) <<< (1 : Nat))) <<< (2 : Nat))) <<< (4 : Nat))) ^^^ (9#8)) 1)) (b := rot ((((((fillS cl k).2.1) ^^^ (((fillS cl k).2.1) <<< (1 : Nat))) ^^^ ((((fillS cl k).2.1) ^^^ (((fillS cl k).2.1) <<< (1 : Nat))) <<< (2 : Nat))) ^^^ (((((fillS cl k).2.1) ^^^ (((fillS cl k).2.1) <<< (1 : Nat))) ^^^ ((((fillS cl k).2.1) ^^^ (((fillS cl k).2.1) <<< (1 : Nat))) <<< (2 : Nat))) <<< (4 : Nat))) ^^^ (9#8)) 2) rfl rfl) ⟨rfl, Chg.refl _ _⟩, ?_⟩
      refine ⟨u8 ((((((fillS cl k).2.1) ^^^ (((fillS cl k).2.1) <<< (1 : Nat))) ^^^ ((((fillS cl k).2.1) ^^^ (((fillS cl k).2.1) <<< (1 : Nat))) <<< (2 : Nat))) ^^^ (((((fillS cl k).2.1) ^^^ (((fillS cl k).2.1) <<< (1 : Nat))) ^^^ ((((fillS cl k).2.1) ^^^ (((fillS cl k).2.1) <<< (1 : Nat))) <<< (2 : Nat))) <<< (4 : Nat))) ^^^ (9#8)), fun _ uw24 hC25 _ => Gives.run rfl (r_move (v := u8 ((((((fillS cl k).2.1) ^^^ (((fillS cl k).2.1) <<< (1 : Nat))) ^^^ ((((fillS cl k).2.1) ^^^ (((fillS cl k).2.1) <<< (1 : Nat))) <<< (2 : Nat))) ^^^ (((((fillS cl k).2.1) ^^^ (((fillS cl k).2.1) <<< (1 : Nat))) ^^^ ((((fillS cl k).2.1) ^^^ (((fillS cl k).2.1) <<< (1 : Nat))) <<< (2 : Nat))) <<< (4 : Nat))) ^^^ (9#8))) rfl) ⟨rfl, Chg.refl _ _⟩, ?_⟩
      refine ⟨u8 (rot ((((((fillS cl k).2.1) ^^^ (((fillS cl k).2.1) <<< (1 : Nat))) ^^^ ((((fillS cl k).2.1) ^^^ (((fillS cl k).2.1) <<< (1 : Nat))) <<< (2 : Nat))) ^^^ (((((fillS cl k).2.1) ^^^ (((fillS cl k).2.1) <<< (1 : Nat))) ^^^ ((((fillS cl k).2.1) ^^^ (((fillS cl k).2.1) <<< (1 : Nat))) <<< (2 : Nat))) <<< (4 : Nat))) ^^^ (9#8)) 3), fun _ uw26 hC27 _ => Gives.call rfl (Enters.callL (vs := [u8 ((((((fillS cl k).2.1) ^^^ (((fillS cl k).2.1) <<< (1 : Nat))) ^^^ ((((fillS cl k).2.1) ^^^ (((fillS cl k).2.1) <<< (1 : Nat))) <<< (2 : Nat))) ^^^ (((((fillS cl k).2.1) ^^^ (((fillS cl k).2.1) <<< (1 : Nat))) ^^^ ((((fillS cl k).2.1) ^^^ (((fillS cl k).2.1) <<< (1 : Nat))) <<< (2 : Nat))) <<< (4 : Nat))) ^^^ (9#8)), i64 ((3 : Int))]) call33 rfl) (rot_ok ((((((fillS cl k).2.1) ^^^ (((fillS cl k).2.1) <<< (1 : Nat))) ^^^ ((((fillS cl k).2.1) ^^^ (((fillS cl k).2.1) <<< (1 : Nat))) <<< (2 : Nat))) ^^^ (((((fillS cl k).2.1) ^^^ (((fillS cl k).2.1) <<< (1 : Nat))) ^^^ ((((fillS cl k).2.1) ^^^ (((fillS cl k).2.1) <<< (1 : Nat))) <<< (2 : Nat))) <<< (4 : Nat))) ^^^ (9#8)) 3 (by decide) uw26), ?_⟩
      refine ⟨u8 (((((((((fillS cl k).2.1) ^^^ (((fillS cl k).2.1) <<< (1 : Nat))) ^^^ ((((fillS cl k).2.1) ^^^ (((fillS cl k).2.1) <<< (1 : Nat))) <<< (2 : Nat))) ^^^ (((((fillS cl k).2.1) ^^^ (((fillS cl k).2.1) <<< (1 : Nat))) ^^^ ((((fillS cl k).2.1) ^^^ (((fillS cl k).2.1) <<< (1 : Nat))) <<< (2 : Nat))) <<< (4 : Nat))) ^^^ (9#8)) ^^^ (rot ((((((fillS cl k).2.1) ^^^ (((fillS cl k).2.1) <<< (1 : Nat))) ^^^ ((((fillS cl k).2.1) ^^^ (((fillS cl k).2.1) <<< (1 : Nat))) <<< (2 : Nat))) ^^^ (((((fillS cl k).2.1) ^^^ (((fillS cl k).2.1) <<< (1 : Nat))) ^^^ ((((fillS cl k).2.1) ^^^ (((fillS cl k).2.1) <<< (1 : Nat))) <<< (2 : Nat))) <<< (4 : Nat))) ^^^ (9#8)) 1)) ^^^ (rot ((((((fillS cl k).2.1) ^^^ (((fillS cl k).2.1) <<< (1 : Nat))) ^^^ ((((fillS cl k).2.1) ^^^ (((fillS cl k).2.1) <<< (1 : Nat))) <<< (2 : Nat))) ^^^ (((((fillS cl k).2.1) ^^^ (((fillS cl k).2.1) <<< (1 : Nat))) ^^^ ((((fillS cl k).2.1) ^^^ (((fillS cl k).2.1) <<< (1 : Nat))) <<< (2 : Nat))) <<< (4 : Nat))) ^^^ (9#8)) 2)) ^^^ (rot ((((((fillS cl k).2.1) ^^^ (((fillS cl k).2.1) <<< (1 : Nat))) ^^^ ((((fillS cl k).2.1) ^^^ (((fillS cl k).2.1) <<< (1 : Nat))) <<< (2 : Nat))) ^^^ (((((fillS cl k).2.1) ^^^ (((fillS cl k).2.1) <<< (1 : Nat))) ^^^ ((((fillS cl k).2.1) ^^^ (((fillS cl k).2.1) <<< (1 : Nat))) <<< (2 : Nat))) <<< (4 : Nat))) ^^^ (9#8)) 3)), fun _ uw28 hC29 _ => Gives.run rfl (r_xor8 (a := (((((((fillS cl k).2.1) ^^^ (((fillS cl k).2.1) <<< (1 : Nat))) ^^^ ((((fillS cl k).2.1) ^^^ (((fillS cl k).2.1) <<< (1 : Nat))) <<< (2 : Nat))) ^^^ (((((fillS cl k).2.1) ^^^ (((fillS cl k).2.1) <<< (1 : Nat))) ^^^ ((((fillS cl k).2.1) ^^^ (((fillS cl k).2.1) <<< (1 : Nat))) <<< (2 : Nat))) <<< (4 : Nat))) ^^^ (9#8)) ^^^ (rot ((((((fillS cl k).2.1) ^^^ (((fillS cl k).2.1) <<< (1 : Nat))) ^^^ ((((fillS cl k).2.1) ^^^ (((fillS cl k).2.1) <<< (1 : Nat))) <<< (2 : Nat))) ^^^ (((((fillS cl k).2.1) ^^^ (((fillS cl k).2.1) <<< (1 : Nat))) ^^^ ((((fillS cl k).2.1) ^^^ (((fillS cl k).2.1) <<< (1 : Nat))) <<< (2 : Nat))) <<< (4 : Nat))) ^^^ (9#8)) 1)) ^^^ (rot ((((((fillS cl k).2.1) ^^^ (((fillS cl k).2.1) <<< (1 : Nat))) ^^^ ((((fillS cl k).2.1) ^^^ (((fillS cl k).2.1) <<< (1 : Nat))) <<< (2 : Nat))) ^^^ (((((fillS cl k).2.1) ^^^ (((fillS cl k).2.1) <<< (1 : Nat))) ^^^ ((((fillS cl k).2.1) ^^^ (((fillS cl k).2.1) <<< (1 : Nat))) <<< (2 : Nat))) <<< (4 : Nat))) ^^^ (9#8)) 2)) (b := rot ((((((fillS cl k).2.1) ^^^ (((fillS cl k).2.1) <<< (1 : Nat))) ^^^ ((((fillS cl k).2.1) ^^^ (((fillS cl k).2.1) <<< (1 : Nat))) <<< (2 : Nat))) ^^^ (((((fillS cl k).2.1) ^^^ (((fillS cl k).2.1) <<< (1 : Nat))) ^^^ ((((fillS cl k).2.1) ^^^ (((fillS cl k).2.1) <<< (1 : Nat))) <<< (2 : Nat))) <<< (4 : Nat))) ^^^ (9#8)) 3) rfl rfl) ⟨rfl, Chg.refl _ _⟩, ?_⟩
      refine ⟨u8 ((((((fillS cl k).2.1) ^^^ (((fillS cl k).2.1) <<< (1 : Nat))) ^^^ ((((fillS cl k).2.1) ^^^ (((fillS cl k).2.1) <<< (1 : Nat))) <<< (2 : Nat))) ^^^ (((((fillS cl k).2.1) ^^^ (((fillS cl k).2.1) <<< (1 : Nat))) ^^^ ((((fillS cl k).2.1) ^^^ (((fillS cl k).2.1) <<< (1 : Nat))) <<< (2 : Nat))) <<< (4 : Nat))) ^^^ (9#8)), fun _ uw30 hC31 _ => Gives.run rfl (r_move (v := u8 ((((((fillS cl k).2.1) ^^^ (((fillS cl k).2.1) <<< (1 : Nat))) ^^^ ((((fillS cl k).2.1) ^^^ (((fillS cl k).2.1) <<< (1 : Nat))) <<< (2 : Nat))) ^^^ (((((fillS cl k).2.1) ^^^ (((fillS cl k).2.1) <<< (1 : Nat))) ^^^ ((((fillS cl k).2.1) ^^^ (((fillS cl k).2.1) <<< (1 : Nat))) <<< (2 : Nat))) <<< (4 : Nat))) ^^^ (9#8))) rfl) ⟨rfl, Chg.refl _ _⟩, ?_⟩
      refine ⟨u8 (rot ((((((fillS cl k).2.1) ^^^ (((fillS cl k).2.1) <<< (1 : Nat))) ^^^ ((((fillS cl k).2.1) ^^^ (((fillS cl k).2.1) <<< (1 : Nat))) <<< (2 : Nat))) ^^^ (((((fillS cl k).2.1) ^^^ (((fillS cl k).2.1) <<< (1 : Nat))) ^^^ ((((fillS cl k).2.1) ^^^ (((fillS cl k).2.1) <<< (1 : Nat))) <<< (2 : Nat))) <<< (4 : Nat))) ^^^ (9#8)) 4), fun _ uw32 hC33 _ => Gives.call rfl (Enters.callL (vs := [u8 ((((((fillS cl k).2.1) ^^^ (((fillS cl k).2.1) <<< (1 : Nat))) ^^^ ((((fillS cl k).2.1) ^^^ (((fillS cl k).2.1) <<< (1 : Nat))) <<< (2 : Nat))) ^^^ (((((fillS cl k).2.1) ^^^ (((fillS cl k).2.1) <<< (1 : Nat))) ^^^ ((((fillS cl k).2.1) ^^^ (((fillS cl k).2.1) <<< (1 : Nat))) <<< (2 : Nat))) <<< (4 : Nat))) ^^^ (9#8)), i64 ((4 : Int))]) call33 rfl) (rot_ok ((((((fillS cl k).2.1) ^^^ (((fillS cl k).2.1) <<< (1 : Nat))) ^^^ ((((fillS cl k).2.1) ^^^ (((fillS cl k).2.1) <<< (1 : Nat))) <<< (2 : Nat))) ^^^ (((((fillS cl k).2.1) ^^^ (((fillS cl k).2.1) <<< (1 : Nat))) ^^^ ((((fillS cl k).2.1) ^^^ (((fillS cl k).2.1) <<< (1 : Nat))) <<< (2 : Nat))) <<< (4 : Nat))) ^^^ (9#8)) 4 (by decide) uw32), ?_⟩
      refine ⟨u8 ((((((((((fillS cl k).2.1) ^^^ (((fillS cl k).2.1) <<< (1 : Nat))) ^^^ ((((fillS cl k).2.1) ^^^ (((fillS cl k).2.1) <<< (1 : Nat))) <<< (2 : Nat))) ^^^ (((((fillS cl k).2.1) ^^^ (((fillS cl k).2.1) <<< (1 : Nat))) ^^^ ((((fillS cl k).2.1) ^^^ (((fillS cl k).2.1) <<< (1 : Nat))) <<< (2 : Nat))) <<< (4 : Nat))) ^^^ (9#8)) ^^^ (rot ((((((fillS cl k).2.1) ^^^ (((fillS cl k).2.1) <<< (1 : Nat))) ^^^ ((((fillS cl k).2.1) ^^^ (((fillS cl k).2.1) <<< (1 : Nat))) <<< (2 : Nat))) ^^^ (((((fillS cl k).2.1) ^^^ (((fillS cl k).2.1) <<< (1 : Nat))) ^^^ ((((fillS cl k).2.1) ^^^ (((fillS cl k).2.1) <<< (1 : Nat))) <<< (2 : Nat))) <<< (4 : Nat))) ^^^ (9#8)) 1)) ^^^ (rot ((((((fillS cl k).2.1) ^^^ (((fillS cl k).2.1) <<< (1 : Nat))) ^^^ ((((fillS cl k).2.1) ^^^ (((fillS cl k).2.1) <<< (1 : Nat))) <<< (2 : Nat))) ^^^ (((((fillS cl k).2.1) ^^^ (((fillS cl k).2.1) <<< (1 : Nat))) ^^^ ((((fillS cl k).2.1) ^^^ (((fillS cl k).2.1) <<< (1 : Nat))) <<< (2 : Nat))) <<< (4 : Nat))) ^^^ (9#8)) 2)) ^^^ (rot ((((((fillS cl k).2.1) ^^^ (((fillS cl k).2.1) <<< (1 : Nat))) ^^^ ((((fillS cl k).2.1) ^^^ (((fillS cl k).2.1) <<< (1 : Nat))) <<< (2 : Nat))) ^^^ (((((fillS cl k).2.1) ^^^ (((fillS cl k).2.1) <<< (1 : Nat))) ^^^ ((((fillS cl k).2.1) ^^^ (((fillS cl k).2.1) <<< (1 : Nat))) <<< (2 : Nat))) <<< (4 : Nat))) ^^^ (9#8)) 3)) ^^^ (rot ((((((fillS cl k).2.1) ^^^ (((fillS cl k).2.1) <<< (1 : Nat))) ^^^ ((((fillS cl k).2.1) ^^^ (((fillS cl k).2.1) <<< (1 : Nat))) <<< (2 : Nat))) ^^^ (((((fillS cl k).2.1) ^^^ (((fillS cl k).2.1) <<< (1 : Nat))) ^^^ ((((fillS cl k).2.1) ^^^ (((fillS cl k).2.1) <<< (1 : Nat))) <<< (2 : Nat))) <<< (4 : Nat))) ^^^ (9#8)) 4)), fun _ uw34 hC35 _ => Gives.run rfl (r_xor8 (a := ((((((((fillS cl k).2.1) ^^^ (((fillS cl k).2.1) <<< (1 : Nat))) ^^^ ((((fillS cl k).2.1) ^^^ (((fillS cl k).2.1) <<< (1 : Nat))) <<< (2 : Nat))) ^^^ (((((fillS cl k).2.1) ^^^ (((fillS cl k).2.1) <<< (1 : Nat))) ^^^ ((((fillS cl k).2.1) ^^^ (((fillS cl k).2.1) <<< (1 : Nat))) <<< (2 : Nat))) <<< (4 : Nat))) ^^^ (9#8)) ^^^ (rot ((((((fillS cl k).2.1) ^^^ (((fillS cl k).2.1) <<< (1 : Nat))) ^^^ ((((fillS cl k).2.1) ^^^ (((fillS cl k).2.1) <<< (1 : Nat))) <<< (2 : Nat))) ^^^ (((((fillS cl k).2.1) ^^^ (((fillS cl k).2.1) <<< (1 : Nat))) ^^^ ((((fillS cl k).2.1) ^^^ (((fillS cl k).2.1) <<< (1 : Nat))) <<< (2 : Nat))) <<< (4 : Nat))) ^^^ (9#8)) 1)) ^^^ (rot ((((((fillS cl k).2.1) ^^^ (((fillS cl k).2.1) <<< (1 : Nat))) ^^^ ((((fillS cl k).2.1) ^^^ (((fillS cl k).2.1) <<< (1 : Nat))) <<< (2 : Nat))) ^^^ (((((fillS cl k).2.1) ^^^ (((fillS cl k).2.1) <<< (1 : Nat))) ^^^ ((((fillS cl k).2.1) ^^^ (((fillS cl k).2.1) <<< (1 : Nat))) <<< (2 : Nat))) <<< (4 : Nat))) ^^^ (9#8)) 2)) ^^^ (rot ((((((fillS cl k).2.1) ^^^ (((fillS cl k).2.1) <<< (1 : Nat))) ^^^ ((((fillS cl k).2.1) ^^^ (((fillS cl k).2.1) <<< (1 : Nat))) <<< (2 : Nat))) ^^^ (((((fillS cl k).2.1) ^^^ (((fillS cl k).2.1) <<< (1 : Nat))) ^^^ ((((fillS cl k).2.1) ^^^ (((fillS cl k).2.1) <<< (1 : Nat))) <<< (2 : Nat))) <<< (4 : Nat))) ^^^ (9#8)) 3)) (b := rot ((((((fillS cl k).2.1) ^^^ (((fillS cl k).2.1) <<< (1 : Nat))) ^^^ ((((fillS cl k).2.1) ^^^ (((fillS cl k).2.1) <<< (1 : Nat))) <<< (2 : Nat))) ^^^ (((((fillS cl k).2.1) ^^^ (((fillS cl k).2.1) <<< (1 : Nat))) ^^^ ((((fillS cl k).2.1) ^^^ (((fillS cl k).2.1) <<< (1 : Nat))) <<< (2 : Nat))) <<< (4 : Nat))) ^^^ (9#8)) 4) rfl rfl) ⟨rfl, Chg.refl _ _⟩, ?_⟩
      refine ⟨u8 (((((((((((fillS cl k).2.1) ^^^ (((fillS cl k).2.1) <<< (1 : Nat))) ^^^ ((((fillS cl k).2.1) ^^^ (((fillS cl k).2.1) <<< (1 : Nat))) <<< (2 : Nat))) ^^^ (((((fillS cl k).2.1) ^^^ (((fillS cl k).2.1) <<< (1 : Nat))) ^^^ ((((fillS cl k).2.1) ^^^ (((fillS cl k).2.1) <<< (1 : Nat))) <<< (2 : Nat))) <<< (4 : Nat))) ^^^ (9#8)) ^^^ (rot ((((((fillS cl k).2.1) ^^^ (((fillS cl k).2.1) <<< (1 : Nat))) ^^^ ((((fillS cl k).2.1) ^^^ (((fillS cl k).2.1) <<< (1 : Nat))) <<< (2 : Nat))) ^^^ (((((fillS cl k).2.1) ^^^ (((fillS cl k).2.1) <<< (1 : Nat))) ^^^ ((((fillS cl k).2.1) ^^^ (((fillS cl k).2.1) <<< (1 : Nat))) <<< (2 : Nat))) <<< (4 : Nat))) ^^^ (9#8)) 1)) ^^^ (rot ((((((fillS cl k).2.1) ^^^ (((fillS cl k).2.1) <<< (1 : Nat))) ^^^ ((((fillS cl k).2.1) ^^^ (((fillS cl k).2.1) <<< (1 : Nat))) <<< (2 : Nat))) ^^^ (((((fillS cl k).2.1) ^^^ (((fillS cl k).2.1) <<< (1 : Nat))) ^^^ ((((fillS cl k).2.1) ^^^ (((fillS cl k).2.1) <<< (1 : Nat))) <<< (2 : Nat))) <<< (4 : Nat))) ^^^ (9#8)) 2)) ^^^ (rot ((((((fillS cl k).2.1) ^^^ (((fillS cl k).2.1) <<< (1 : Nat))) ^^^ ((((fillS cl k).2.1) ^^^ (((fillS cl k).2.1) <<< (1 : Nat))) <<< (2 : Nat))) ^^^ (((((fillS cl k).2.1) ^^^ (((fillS cl k).2.1) <<< (1 : Nat))) ^^^ ((((fillS cl k).2.1) ^^^ (((fillS cl k).2.1) <<< (1 : Nat))) <<< (2 : Nat))) <<< (4 : Nat))) ^^^ (9#8)) 3)) ^^^ (rot ((((((fillS cl k).2.1) ^^^ (((fillS cl k).2.1) <<< (1 : Nat))) ^^^ ((((fillS cl k).2.1) ^^^ (((fillS cl k).2.1) <<< (1 : Nat))) <<< (2 : Nat))) ^^^ (((((fillS cl k).2.1) ^^^ (((fillS cl k).2.1) <<< (1 : Nat))) ^^^ ((((fillS cl k).2.1) ^^^ (((fillS cl k).2.1) <<< (1 : Nat))) <<< (2 : Nat))) <<< (4 : Nat))) ^^^ (9#8)) 4)) ^^^ (99#8)), fun _ uw36 hC37 _ => Gives.run rfl (r_xor8 (a := (((((((((fillS cl k).2.1) ^^^ (((fillS cl k).2.1) <<< (1 : Nat))) ^^^ ((((fillS cl k).2.1) ^^^ (((fillS cl k).2.1) <<< (1 : Nat))) <<< (2 : Nat))) ^^^ (((((fillS cl k).2.1) ^^^ (((fillS cl k).2.1) <<< (1 : Nat))) ^^^ ((((fillS cl k).2.1) ^^^ (((fillS cl k).2.1) <<< (1 : Nat))) <<< (2 : Nat))) <<< (4 : Nat))) ^^^ (9#8)) ^^^ (rot ((((((fillS cl k).2.1) ^^^ (((fillS cl k).2.1) <<< (1 : Nat))) ^^^ ((((fillS cl k).2.1) ^^^ (((fillS cl k).2.1) <<< (1 : Nat))) <<< (2 : Nat))) ^^^ (((((fillS cl k).2.1) ^^^ (((fillS cl k).2.1) <<< (1 : Nat))) ^^^ ((((fillS cl k).2.1) ^^^ (((fillS cl k).2.1) <<< (1 : Nat))) <<< (2 : Nat))) <<< (4 : Nat))) ^^^ (9#8)) 1)) ^^^ (rot ((((((fillS cl k).2.1) ^^^ (((fillS cl k).2.1) <<< (1 : Nat))) ^^^ ((((fillS cl k).2.1) ^^^ (((fillS cl k).2.1) <<< (1 : Nat))) <<< (2 : Nat))) ^^^ (((((fillS cl k).2.1) ^^^ (((fillS cl k).2.1) <<< (1 : Nat))) ^^^ ((((fillS cl k).2.1) ^^^ (((fillS cl k).2.1) <<< (1 : Nat))) <<< (2 : Nat))) <<< (4 : Nat))) ^^^ (9#8)) 2)) ^^^ (rot ((((((fillS cl k).2.1) ^^^ (((fillS cl k).2.1) <<< (1 : Nat))) ^^^ ((((fillS cl k).2.1) ^^^ (((fillS cl k).2.1) <<< (1 : Nat))) <<< (2 : Nat))) ^^^ (((((fillS cl k).2.1) ^^^ (((fillS cl k).2.1) <<< (1 : Nat))) ^^^ ((((fillS cl k).2.1) ^^^ (((fillS cl k).2.1) <<< (1 : Nat))) <<< (2 : Nat))) <<< (4 : Nat))) ^^^ (9#8)) 3)) ^^^ (rot ((((((fillS cl k).2.1) ^^^ (((fillS cl k).2.1) <<< (1 : Nat))) ^^^ ((((fillS cl k).2.1) ^^^ (((fillS cl k).2.1) <<< (1 : Nat))) <<< (2 : Nat))) ^^^ (((((fillS cl k).2.1) ^^^ (((fillS cl k).2.1) <<< (1 : Nat))) ^^^ ((((fillS cl k).2.1) ^^^ (((fillS cl k).2.1) <<< (1 : Nat))) <<< (2 : Nat))) <<< (4 : Nat))) ^^^ (9#8)) 4)) (b := 99#8) rfl rfl) ⟨rfl, Chg.refl _ _⟩, ?_⟩
      refine ⟨.pointer (some ⟨b, 0, none⟩), fun _ uw38 hC39 _ => Gives.run rfl (r_nilCheck rfl) ⟨rfl, Chg.refl _ _⟩, ?_⟩
      refine ⟨.pointer (some ⟨b, 176, none⟩), fun _ uw40 hC41 _ => Gives.run rfl (r_fieldAddr (off' := 176) fld50_1 (by decide) (b := b) (off := 0) rfl (by omega)) ⟨rfl, Chg.refl _ _⟩, ?_⟩
      refine ⟨.pointer (some ⟨b, 176 + ((((fillS cl k).1) ^^^ (xt ((fillS cl k).1))).toNat), none⟩), fun _ uw42 hC43 _ => Gives.run rfl (r_indexA (off' := 176 + ((((fillS cl k).1) ^^^ (xt ((fillS cl k).1))).toNat)) (j := (((fillS cl k).1) ^^^ (xt ((fillS cl k).1))).toNat) arr48 (b := b) (off := 176) rfl rfl (by first | rfl | omega | (simp; omega)) (BitVec.isLt _) (by omega)) ⟨rfl, Chg.refl _ _⟩, ?_⟩
      intro r47 w44 hE46 hF
      have H45 := H5.ext hE46
      refine d_store (k := 0) (v := u8 (((((((((((fillS cl k).2.1) ^^^ (((fillS cl k).2.1) <<< (1 : Nat))) ^^^ ((((fillS cl k).2.1) ^^^ (((fillS cl k).2.1) <<< (1 : Nat))) <<< (2 : Nat))) ^^^ (((((fillS cl k).2.1) ^^^ (((fillS cl k).2.1) <<< (1 : Nat))) ^^^ ((((fillS cl k).2.1) ^^^ (((fillS cl k).2.1) <<< (1 : Nat))) <<< (2 : Nat))) <<< (4 : Nat))) ^^^ (9#8)) ^^^ (rot ((((((fillS cl k).2.1) ^^^ (((fillS cl k).2.1) <<< (1 : Nat))) ^^^ ((((fillS cl k).2.1) ^^^ (((fillS cl k).2.1) <<< (1 : Nat))) <<< (2 : Nat))) ^^^ (((((fillS cl k).2.1) ^^^ (((fillS cl k).2.1) <<< (1 : Nat))) ^^^ ((((fillS cl k).2.1) ^^^ (((fillS cl k).2.1) <<< (1 : Nat))) <<< (2 : Nat))) <<< (4 : Nat))) ^^^ (9#8)) 1)) ^^^ (rot ((((((fillS cl k).2.1) ^^^ (((fillS cl k).2.1) <<< (1 : Nat))) ^^^ ((((fillS cl k).2.1) ^^^ (((fillS cl k).2.1) <<< (1 : Nat))) <<< (2 : Nat))) ^^^ (((((fillS cl k).2.1) ^^^ (((fillS cl k).2.1) <<< (1 : Nat))) ^^^ ((((fillS cl k).2.1) ^^^ (((fillS cl k).2.1) <<< (1 : Nat))) <<< (2 : Nat))) <<< (4 : Nat))) ^^^ (9#8)) 2)) ^^^ (rot ((((((fillS cl k).2.1) ^^^ (((fillS cl k).2.1) <<< (1 : Nat))) ^^^ ((((fillS cl k).2.1) ^^^ (((fillS cl k).2.1) <<< (1 : Nat))) <<< (2 : Nat))) ^^^ (((((fillS cl k).2.1) ^^^ (((fillS cl k).2.1) <<< (1 : Nat))) ^^^ ((((fillS cl k).2.1) ^^^ (((fillS cl k).2.1) <<< (1 : Nat))) <<< (2 : Nat))) <<< (4 : Nat))) ^^^ (9#8)) 3)) ^^^ (rot ((((((fillS cl k).2.1) ^^^ (((fillS cl k).2.1) <<< (1 : Nat))) ^^^ ((((fillS cl k).2.1) ^^^ (((fillS cl k).2.1) <<< (1 : Nat))) <<< (2 : Nat))) ^^^ (((((fillS cl k).2.1) ^^^ (((fillS cl k).2.1) <<< (1 : Nat))) ^^^ ((((fillS cl k).2.1) ^^^ (((fillS cl k).2.1) <<< (1 : Nat))) <<< (2 : Nat))) <<< (4 : Nat))) ^^^ (9#8)) 4)) ^^^ (99#8))) (cs' := (cel E8 (((fillS cl k).2.2).set (176 + ((((fillS cl k).1) ^^^ (xt ((fillS cl k).1))).toNat)) (((((((((((fillS cl k).2.1) ^^^ (((fillS cl k).2.1) <<< (1 : Nat))) ^^^ ((((fillS cl k).2.1) ^^^ (((fillS cl k).2.1) <<< (1 : Nat))) <<< (2 : Nat))) ^^^ (((((fillS cl k).2.1) ^^^ (((fillS cl k).2.1) <<< (1 : Nat))) ^^^ ((((fillS cl k).2.1) ^^^ (((fillS cl k).2.1) <<< (1 : Nat))) <<< (2 : Nat))) <<< (4 : Nat))) ^^^ (9#8)) ^^^ (rot ((((((fillS cl k).2.1) ^^^ (((fillS cl k).2.1) <<< (1 : Nat))) ^^^ ((((fillS cl k).2.1) ^^^ (((fillS cl k).2.1) <<< (1 : Nat))) <<< (2 : Nat))) ^^^ (((((fillS cl k).2.1) ^^^ (((fillS cl k).2.1) <<< (1 : Nat))) ^^^ ((((fillS cl k).2.1) ^^^ (((fillS cl k).2.1) <<< (1 : Nat))) <<< (2 : Nat))) <<< (4 : Nat))) ^^^ (9#8)) 1)) ^^^ (rot ((((((fillS cl k).2.1) ^^^ (((fillS cl k).2.1) <<< (1 : Nat))) ^^^ ((((fillS cl k).2.1) ^^^ (((fillS cl k).2.1) <<< (1 : Nat))) <<< (2 : Nat))) ^^^ (((((fillS cl k).2.1) ^^^ (((fillS cl k).2.1) <<< (1 : Nat))) ^^^ ((((fillS cl k).2.1) ^^^ (((fillS cl k).2.1) <<< (1 : Nat))) <<< (2 : Nat))) <<< (4 : Nat))) ^^^ (9#8)) 2)) ^^^ (rot ((((((fillS cl k).2.1) ^^^ (((fillS cl k).2.1) <<< (1 : Nat))) ^^^ ((((fillS cl k).2.1) ^^^ (((fillS cl k).2.1) <<< (1 : Nat))) <<< (2 : Nat))) ^^^ (((((fillS cl k).2.1) ^^^ (((fillS cl k).2.1) <<< (1 : Nat))) ^^^ ((((fillS cl k).2.1) ^^^ (((fillS cl k).2.1) <<< (1 : Nat))) <<< (2 : Nat))) <<< (4 : Nat))) ^^^ (9#8)) 3)) ^^^ (rot ((((((fillS cl k).2.1) ^^^ (((fillS cl k).2.1) <<< (1 : Nat))) ^^^ ((((fillS cl k).2.1) ^^^ (((fillS cl k).2.1) <<< (1 : Nat))) <<< (2 : Nat))) ^^^ (((((fillS cl k).2.1) ^^^ (((fillS cl k).2.1) <<< (1 : Nat))) ^^^ ((((fillS cl k).2.1) ^^^ (((fillS cl k).2.1) <<< (1 : Nat))) <<< (2 : Nat))) <<< (4 : Nat))) ^^^ (9#8)) 4)) ^^^ (99#8)))).toArray) H45 rfl rfl rfl siz5 (by rfl) (by exact E8.one _) (by rw [List.size_toArray, cel_length]; show _ ≤ _ * 1; have := ((fillS cl k).1 ^^^ xt (fillS cl k).1).isLt; rw [hl]; omega) (by exact put1 (E := E8) rfl _ _ _) ?_
      intro w48 H49 _
      have H49' := H49.as (L' := [(some b, .cells (cel E8 (((fillS cl k).2.2).set (176 + ((((fillS cl k).1) ^^^ (xt ((fillS cl k).1))).toNat)) (((((((((((fillS cl k).2.1) ^^^ (((fillS cl k).2.1) <<< (1 : Nat))) ^^^ ((((fillS cl k).2.1) ^^^ (((fillS cl k).2.1) <<< (1 : Nat))) <<< (2 : Nat))) ^^^ (((((fillS cl k).2.1) ^^^ (((fillS cl k).2.1) <<< (1 : Nat))) ^^^ ((((fillS cl k).2.1) ^^^ (((fillS cl k).2.1) <<< (1 : Nat))) <<< (2 : Nat))) <<< (4 : Nat))) ^^^ (9#8)) ^^^ (rot ((((((fillS cl k).2.1) ^^^ (((fillS cl k).2.1) <<< (1 : Nat))) ^^^ ((((fillS cl k).2.1) ^^^ (((fillS cl k).2.1) <<< (1 : Nat))) <<< (2 : Nat))) ^^^ (((((fillS cl k).2.1) ^^^ (((fillS cl k).2.1) <<< (1 : Nat))) ^^^ ((((fillS cl k).2.1) ^^^ (((fillS cl k).2.1) <<< (1 : Nat))) <<< (2 : Nat))) <<< (4 : Nat))) ^^^ (9#8)) 1)) ^^^ (rot ((((((fillS cl k).2.1) ^^^ (((fillS cl k).2.1) <<< (1 : Nat))) ^^^ ((((fillS cl k).2.1) ^^^ (((fillS cl k).2.1) <<< (1 : Nat))) <<< (2 : Nat))) ^^^ (((((fillS cl k).2.1) ^^^ (((fillS cl k).2.1) <<< (1 : Nat))) ^^^ ((((fillS cl k).2.1) ^^^ (((fillS cl k).2.1) <<< (1 : Nat))) <<< (2 : Nat))) <<< (4 : Nat))) ^^^ (9#8)) 2)) ^^^ (rot ((((((fillS cl k).2.1) ^^^ (((fillS cl k).2.1) <<< (1 : Nat))) ^^^ ((((fillS cl k).2.1) ^^^ (((fillS cl k).2.1) <<< (1 : Nat))) <<< (2 : Nat))) ^^^ (((((fillS cl k).2.1) ^^^ (((fillS cl k).2.1) <<< (1 : Nat))) ^^^ ((((fillS cl k).2.1) ^^^ (((fillS cl k).2.1) <<< (1 : Nat))) <<< (2 : Nat))) <<< (4 : Nat))) ^^^ (9#8)) 3)) ^^^ (rot ((((((fillS cl k).2.1) ^^^ (((fillS cl k).2.1) <<< (1 : Nat))) ^^^ ((((fillS cl k).2.1) ^^^ (((fillS cl k).2.1) <<< (1 : Nat))) <<< (2 : Nat))) ^^^ (((((fillS cl k).2.1) ^^^ (((fillS cl k).2.1) <<< (1 : Nat))) ^^^ ((((fillS cl k).2.1) ^^^ (((fillS cl k).2.1) <<< (1 : Nat))) <<< (2 : Nat))) <<< (4 : Nat))) ^^^ (9#8)) 4)) ^^^ (99#8)))).toArray 50 (0, 0))]) rfl
      clear H49
      refine wnil ?_
      refine blockNormal ?_
      refine thenNormal ?_
      refine oneRegion ?_
      refine sq (r_addI (a := (k : Nat)) (b := (1 : Int)) rfl rfl (by omega)) ?_
      refine sq (r_move (v := i64 ((k : Nat) + (1 : Int))) rfl) ?_
      refine wnil ?_
      refine thenNormal ?_
      have e3 : u8 ((((((fillS cl k).2.1) ^^^ (((fillS cl k).2.1) <<< (1 : Nat))) ^^^ ((((fillS cl k).2.1) ^^^ (((fillS cl k).2.1) <<< (1 : Nat))) <<< (2 : Nat))) ^^^ (((((fillS cl k).2.1) ^^^ (((fillS cl k).2.1) <<< (1 : Nat))) ^^^ ((((fillS cl k).2.1) ^^^ (((fillS cl k).2.1) <<< (1 : Nat))) <<< (2 : Nat))) <<< (4 : Nat))) ^^^ (9#8)) = u8 (fq (fillS cl k).2.1) := congrArg u8 (by simp only [fq]; first | rw [if_pos c23] | rw [if_neg c23])
      have eL : ((fillS cl k).2.2).set (176 + ((((fillS cl k).1) ^^^ (xt ((fillS cl k).1))).toNat)) (((((((((((fillS cl k).2.1) ^^^ (((fillS cl k).2.1) <<< (1 : Nat))) ^^^ ((((fillS cl k).2.1) ^^^ (((fillS cl k).2.1) <<< (1 : Nat))) <<< (2 : Nat))) ^^^ (((((fillS cl k).2.1) ^^^ (((fillS cl k).2.1) <<< (1 : Nat))) ^^^ ((((fillS cl k).2.1) ^^^ (((fillS cl k).2.1) <<< (1 : Nat))) <<< (2 : Nat))) <<< (4 : Nat))) ^^^ (9#8)) ^^^ (rot ((((((fillS cl k).2.1) ^^^ (((fillS cl k).2.1) <<< (1 : Nat))) ^^^ ((((fillS cl k).2.1) ^^^ (((fillS cl k).2.1) <<< (1 : Nat))) <<< (2 : Nat))) ^^^ (((((fillS cl k).2.1) ^^^ (((fillS cl k).2.1) <<< (1 : Nat))) ^^^ ((((fillS cl k).2.1) ^^^ (((fillS cl k).2.1) <<< (1 : Nat))) <<< (2 : Nat))) <<< (4 : Nat))) ^^^ (9#8)) 1)) ^^^ (rot ((((((fillS cl k).2.1) ^^^ (((fillS cl k).2.1) <<< (1 : Nat))) ^^^ ((((fillS cl k).2.1) ^^^ (((fillS cl k).2.1) <<< (1 : Nat))) <<< (2 : Nat))) ^^^ (((((fillS cl k).2.1) ^^^ (((fillS cl k).2.1) <<< (1 : Nat))) ^^^ ((((fillS cl k).2.1) ^^^ (((fillS cl k).2.1) <<< (1 : Nat))) <<< (2 : Nat))) <<< (4 : Nat))) ^^^ (9#8)) 2)) ^^^ (rot ((((((fillS cl k).2.1) ^^^ (((fillS cl k).2.1) <<< (1 : Nat))) ^^^ ((((fillS cl k).2.1) ^^^ (((fillS cl k).2.1) <<< (1 : Nat))) <<< (2 : Nat))) ^^^ (((((fillS cl k).2.1) ^^^ (((fillS cl k).2.1) <<< (1 : Nat))) ^^^ ((((fillS cl k).2.1) ^^^ (((fillS cl k).2.1) <<< (1 : Nat))) <<< (2 : Nat))) <<< (4 : Nat))) ^^^ (9#8)) 3)) ^^^ (rot ((((((fillS cl k).2.1) ^^^ (((fillS cl k).2.1) <<< (1 : Nat))) ^^^ ((((fillS cl k).2.1) ^^^ (((fillS cl k).2.1) <<< (1 : Nat))) <<< (2 : Nat))) ^^^ (((((fillS cl k).2.1) ^^^ (((fillS cl k).2.1) <<< (1 : Nat))) ^^^ ((((fillS cl k).2.1) ^^^ (((fillS cl k).2.1) <<< (1 : Nat))) <<< (2 : Nat))) <<< (4 : Nat))) ^^^ (9#8)) 4)) ^^^ (99#8)) = (fillS cl (k + 1)).2.2 := by simp only [fillS, aff, fp, fq]; first | rw [if_pos c23] | rw [if_neg c23]
      rw [eL] at H49'
      exact ⟨k + 1, _, rfl, ⟨rfl, rfl, e3, rfl, trivial⟩, ⟨by omega, H49'⟩, by show 255 - (k + 1) < 255 - k; omega⟩
    · skip
      refine skipAny ?_
      refine thenNormal ?_
      refine drawAny (K := [none, none, none, none, none, none, none, none, none, none, none, none, none, none, none, none, none, none, none]) [0, 0, 0, 0, 8, 28, 0, 88, 252, 0, 728, 2044, 0, 5848, 16380, 32764, 1, 65537, 262143, 524287] (fun w' => Ext w3 w') (fun w' w'' => Ext w' w'') mixed (by kernel_rfl) (Ext.drew _) (fun _ _ h h' => h.trans h') ?_ ?_
      · exact relNone (by decide)
      refine ⟨.pointer (some ⟨b, 0, none⟩), fun _ uw50 hC51 _ => Gives.run rfl (r_move (v := .pointer (some ⟨b, 0, none⟩)) rfl) ⟨rfl, Chg.refl _ _⟩, ?_⟩
      refine ⟨u8 (((fillS cl k).1) ^^^ (xt ((fillS cl k).1))), fun _ uw52 hC53 _ => Gives.run rfl (r_move (v := u8 (((fillS cl k).1) ^^^ (xt ((fillS cl k).1)))) rfl) ⟨rfl, Chg.refl _ _⟩, ?_⟩
      refine ⟨u8 (((((fillS cl k).2.1) ^^^ (((fillS cl k).2.1) <<< (1 : Nat))) ^^^ ((((fillS cl k).2.1) ^^^ (((fillS cl k).2.1) <<< (1 : Nat))) <<< (2 : Nat))) ^^^ (((((fillS cl k).2.1) ^^^ (((fillS cl k).2.1) <<< (1 : Nat))) ^^^ ((((fillS cl k).2.1) ^^^ (((fillS cl k).2.1) <<< (1 : Nat))) <<< (2 : Nat))) <<< (4 : Nat))), fun _ uw54 hC55 _ => Gives.run rfl (r_move (v := u8 (((((fillS cl k).2.1) ^^^ (((fillS cl k).2.1) <<< (1 : Nat))) ^^^ ((((fillS cl k).2.1) ^^^ (((fillS cl k).2.1) <<< (1 : Nat))) <<< (2 : Nat))) ^^^ (((((fillS cl k).2.1) ^^^ (((fillS cl k).2.1) <<< (1 : Nat))) ^^^ ((((fillS cl k).2.1) ^^^ (((fillS cl k).2.1) <<< (1 : Nat))) <<< (2 : Nat))) <<< (4 : Nat)))) rfl) ⟨rfl, Chg.refl _ _⟩, ?_⟩
      refine ⟨u8 (((((fillS cl k).2.1) ^^^ (((fillS cl k).2.1) <<< (1 : Nat))) ^^^ ((((fillS cl k).2.1) ^^^ (((fillS cl k).2.1) <<< (1 : Nat))) <<< (2 : Nat))) ^^^ (((((fillS cl k).2.1) ^^^ (((fillS cl k).2.1) <<< (1 : Nat))) ^^^ ((((fillS cl k).2.1) ^^^ (((fillS cl k).2.1) <<< (1 : Nat))) <<< (2 : Nat))) <<< (4 : Nat))), fun _ uw56 hC57 _ => Gives.run rfl (r_move (v := u8 (((((fillS cl k).2.1) ^^^ (((fillS cl k).2.1) <<< (1 : Nat))) ^^^ ((((fillS cl k).2.1) ^^^ (((fillS cl k).2.1) <<< (1 : Nat))) <<< (2 : Nat))) ^^^ (((((fillS cl k).2.1) ^^^ (((fillS cl k).2.1) <<< (1 : Nat))) ^^^ ((((fillS cl k).2.1) ^^^ (((fillS cl k).2.1) <<< (1 : Nat))) <<< (2 : Nat))) <<< (4 : Nat)))) rfl) ⟨rfl, Chg.refl _ _⟩, ?_⟩
      refine ⟨u8 (rot (((((fillS cl k).2.1) ^^^ (((fillS cl k).2.1) <<< (1 : Nat))) ^^^ ((((fillS cl k).2.1) ^^^ (((fillS cl k).2.1) <<< (1 : Nat))) <<< (2 : Nat))) ^^^ (((((fillS cl k).2.1) ^^^ (((fillS cl k).2.1) <<< (1 : Nat))) ^^^ ((((fillS cl k).2.1) ^^^ (((fillS cl k).2.1) <<< (1 : Nat))) <<< (2 : Nat))) <<< (4 : Nat))) 1), fun _ uw58 hC59 _ => Gives.call rfl (Enters.callL (vs := [u8 (((((fillS cl k).2.1) ^^^ (((fillS cl k).2.1) <<< (1 : Nat))) ^^^ ((((fillS cl k).2.1) ^^^ (((fillS cl k).2.1) <<< (1 : Nat))) <<< (2 : Nat))) ^^^ (((((fillS cl k).2.1) ^^^ (((fillS cl k).2.1) <<< (1 : Nat))) ^^^ ((((fillS cl k).2.1) ^^^ (((fillS cl k).2.1) <<< (1 : Nat))) <<< (2 : Nat))) <<< (4 : Nat))), i64 ((1 : Int))]) call33 rfl) (rot_ok (((((fillS cl k).2.1) ^^^ (((fillS cl k).2.1) <<< (1 : Nat))) ^^^ ((((fillS cl k).2.1) ^^^ (((fillS cl k).2.1) <<< (1 : Nat))) <<< (2 : Nat))) ^^^ (((((fillS cl k).2.1) ^^^ (((fillS cl k).2.1) <<< (1 : Nat))) ^^^ ((((fillS cl k).2.1) ^^^ (((fillS cl k).2.1) <<< (1 : Nat))) <<< (2 : Nat))) <<< (4 : Nat))) 1 (by decide) uw58), ?_⟩
      refine ⟨u8 ((((((fillS cl k).2.1) ^^^ (((fillS cl k).2.1) <<< (1 : Nat))) ^^^ ((((fillS cl k).2.1) ^^^ (((fillS cl k).2.1) <<< (1 : Nat))) <<< (2 : Nat))) ^^^ (((((fillS cl k).2.1) ^^^ (((fillS cl k).2.1) <<< (1 : Nat))) ^^^ ((((fillS cl k).2.1) ^^^ (((fillS cl k).2.1) <<< (1 : Nat))) <<< (2 : Nat))) <<< (4 : Nat))) ^^^ (rot (((((fillS cl k).2.1) ^^^ (((fillS cl k).2.1) <<< (1 : Nat))) ^^^ ((((fillS cl k).2.1) ^^^ (((fillS cl k).2.1) <<< (1 : Nat))) <<< (2 : Nat))) ^^^ (((((fillS cl k).2.1) ^^^ (((fillS cl k).2.1) <<< (1 : Nat))) ^^^ ((((fillS cl k).2.1) ^^^ (((fillS cl k).2.1) <<< (1 : Nat))) <<< (2 : Nat))) <<< (4 : Nat))) 1)), fun _ uw60 hC61 _ => Gives.run rfl (r_xor8 (a := ((((fillS cl k).2.1) ^^^ (((fillS cl k).2.1) <<< (1 : Nat))) ^^^ ((((fillS cl k).2.1) ^^^ (((fillS cl k).2.1) <<< (1 : Nat))) <<< (2 : Nat))) ^^^ (((((fillS cl k).2.1) ^^^ (((fillS cl k).2.1) <<< (1 : Nat))) ^^^ ((((fillS cl k).2.1) ^^^ (((fillS cl k).2.1) <<< (1 : Nat))) <<< (2 : Nat))) <<< (4 : Nat))) (b := rot (((((fillS cl k).2.1) ^^^ (((fillS cl k).2.1) <<< (1 : Nat))) ^^^ ((((fillS cl k).2.1) ^^^ (((fillS cl k).2.1) <<< (1 : Nat))) <<< (2 : Nat))) ^^^ (((((fillS cl k).2.1) ^^^ (((fillS cl k).2.1) <<< (1 : Nat))) ^^^ ((((fillS cl k).2.1) ^^^ (((fillS cl k).2.1) <<< (1 : Nat))) <<< (2 : Nat))) <<< (4 : Nat))) 1) rfl rfl) ⟨rfl, Chg.refl _ _⟩, ?_⟩
      refine ⟨u8 (((((fillS cl k).2.1) ^^^ (((fillS cl k).2.1) <<< (1 : Nat))) ^^^ ((((fillS cl k).2.1) ^^^ (((fillS cl k).2.1) <<< (1 : Nat))) <<< (2 : Nat))) ^^^ (((((fillS cl k).2.1) ^^^ (((fillS cl k).2.1) <<< (1 : Nat))) ^^^ ((((fillS cl k).2.1) ^^^ (((fillS cl k).2.1) <<< (1 : Nat))) <<< (2 : Nat))) <<< (4 : Nat))), fun _ uw62 hC63 _ => Gives.run rfl (r_move (v := u8 (((((fillS cl k).2.1) ^^^ (((fillS cl k).2.1) <<< (1 : Nat))) ^^^ ((((fillS cl k).2.1) ^^^ (((fillS cl k).2.1) <<< (1 : Nat))) <<< (2 : Nat))) ^^^ (((((fillS cl k).2.1) ^^^ (((fillS cl k).2.1) <<< (1 : Nat))) ^^^ ((((fillS cl k).2.1) ^^^ (((fillS cl k).2.1) <<< (1 : Nat))) <<< (2 : Nat))) <<< (4 : Nat)))) rfl) ⟨rfl, Chg.refl _ _⟩, ?_⟩
      refine ⟨u8 (rot (((((fillS cl k).2.1) ^^^ (((fillS cl k).2.1) <<< (1 : Nat))) ^^^ ((((fillS cl k).2.1) ^^^ (((fillS cl k).2.1) <<< (1 : Nat))) <<< (2 : Nat))) ^^^ (((((fillS cl k).2.1) ^^^ (((fillS cl k).2.1) <<< (1 : Nat))) ^^^ ((((fillS cl k).2.1) ^^^ (((fillS cl k).2.1) <<< (1 : Nat))) <<< (2 : Nat))) <<< (4 : Nat))) 2), fun _ uw64 hC65 _ => Gives.call rfl (Enters.callL (vs := [u8 (((((fillS cl k).2.1) ^^^ (((fillS cl k).2.1) <<< (1 : Nat))) ^^^ ((((fillS cl k).2.1) ^^^ (((fillS cl k).2.1) <<< (1 : Nat))) <<< (2 : Nat))) ^^^ (((((fillS cl k).2.1) ^^^ (((fillS cl k).2.1) <<< (1 : Nat))) ^^^ ((((fillS cl k).2.1) ^^^ (((fillS cl k).2.1) <<< (1 : Nat))) <<< (2 : Nat))) <<< (4 : Nat))), i64 ((2 : Int))]) call33 rfl) (rot_ok (((((fillS cl k).2.1) ^^^ (((fillS cl k).2.1) <<< (1 : Nat))) ^^^ ((((fillS cl k).2.1) ^^^ (((fillS cl k).2.1) <<< (1 : Nat))) <<< (2 : Nat))) ^^^ (((((fillS cl k).2.1) ^^^ (((fillS cl k).2.1) <<< (1 : Nat))) ^^^ ((((fillS cl k).2.1) ^^^ (((fillS cl k).2.1) <<< (1 : Nat))) <<< (2 : Nat))) <<< (4 : Nat))) 2 (by decide) uw64), ?_⟩
      refine ⟨u8 (((((((fillS cl k).2.1) ^^^ (((fillS cl k).2.1) <<< (1 : Nat))) ^^^ ((((fillS cl k).2.1) ^^^ (((fillS cl k).2.1) <<< (1 : Nat))) <<< (2 : Nat))) ^^^ (((((fillS cl k).2.1) ^^^ (((fillS cl k).2.1) <<< (1 : Nat))) ^^^ ((((fillS cl k).2.1) ^^^ (((fillS cl k).2.1) <<< (1 : Nat))) <<< (2 : Nat))) <<< (4 : Nat))) ^^^ (rot (((((fillS cl k).2.1) ^^^ (((fillS cl k).2.1) <<< (1 : Nat))) ^^^ ((((fillS cl k).2.1) ^^^ (((fillS cl k).2.1) <<< (1 : Nat))) <<< (2 : Nat))) ^^^ (((((fillS cl k).2.1) ^^^ (((fillS cl k).2.1) <<< (1 : Nat))) ^^^ ((((fillS cl k).2.1) ^^^ (((fillS cl k).2.1) <<< (1 : Nat))) <<< (2 : Nat))) <<< (4 : Nat))) 1)) ^^^ (rot (((((fillS cl k).2.1) ^^^ (((fillS cl k).2.1) <<< (1 : Nat))) ^^^ ((((fillS cl k).2.1) ^^^ (((fillS cl k).2.1) <<< (1 : Nat))) <<< (2 : Nat))) ^^^ (((((fillS cl k).2.1) ^^^ (((fillS cl k).2.1) <<< (1 : Nat))) ^^^ ((((fillS cl k).2.1) ^^^ (((fillS cl k).2.1) <<< (1 : Nat))) <<< (2 : Nat))) <<< (4 : Nat))) 2)), fun _ uw66 hC67 _ => Gives.run rfl (r_xor8 (a := (((((fillS cl k).2.1) ^^^ (((fillS cl k).2.1) <<< (1 : Nat))) ^^^ ((((fillS cl k).2.1) ^^^ (((fillS cl k).2.1) <<< (1 : Nat))) <<< (2 : Nat))) ^^^ (((((fillS cl k).2.1) ^^^ (((fillS cl k).2.1) <<< (1 : Nat))) ^^^ ((((fillS cl k).2.1) ^^^ (((fillS cl k).2.1) <<< (1 : Nat))) <<< (2 : Nat))) <<< (4 : Nat))) ^^^ (rot (((((fillS cl k).2.1) ^^^ (((fillS cl k).2.1) <<< (1 : Nat))) ^^^ ((((fillS cl k).2.1) ^^^ (((fillS cl k).2.1) <<< (1 : Nat))) <<< (2 : Nat))) ^^^ (((((fillS cl k).2.1) ^^^ (((fillS cl k).2.1) <<< (1 : Nat))) ^^^ ((((fillS cl k).2.1) ^^^ (((fillS cl k).2.1) <<< (1 : Nat))) <<< (2 : Nat))) <<< (4 : Nat))) 1)) (b := rot (((((fillS cl k).2.1) ^^^ (((fillS cl k).2.1) <<< (1 : Nat))) ^^^ ((((fillS cl k).2.1) ^^^ (((fillS cl k).2.1) <<< (1 : Nat))) <<< (2 : Nat))) ^^^ (((((fillS cl k).2.1) ^^^ (((fillS cl k).2.1) <<< (1 : Nat))) ^^^ ((((fillS cl k).2.1) ^^^ (((fillS cl k).2.1) <<< (1 : Nat))) <<< (2 : Nat))) <<< (4 : Nat))) 2) rfl rfl) ⟨rfl, Chg.refl _ _⟩, ?_⟩
      refine ⟨u8 (((((fillS cl k).2.1) ^^^ (((fillS cl k).2.1) <<< (1 : Nat))) ^^^ ((((fillS cl k).2.1) ^^^ (((fillS cl k).2.1) <<< (1 : Nat))) <<< (2 : Nat))) ^^^ (((((fillS cl k).2.1) ^^^ (((fillS cl k).2.1) <<< (1 : Nat))) ^^^ ((((fillS cl k).2.1) ^^^ (((fillS cl k).2.1) <<< (1 : Nat))) <<< (2 : Nat))) <<< (4 : Nat))), fun _ uw68 hC69 _ => Gives.run rfl (r_move (v := u8 (((((fillS cl k).2.1) ^^^ (((fillS cl k).2.1) <<< (1 : Nat))) ^^^ ((((fillS cl k).2.1) ^^^ (((fillS cl k).2.1) <<< (1 : Nat))) <<< (2 : Nat))) ^^^ (((((fillS cl k).2.1) ^^^ (((fillS cl k).2.1) <<< (1 : Nat))) ^^^ ((((fillS cl k).2.1) ^^^ (((fillS cl k).2.1) <<< (1 : Nat))) <<< (2 : Nat))) <<< (4 : Nat)))) rfl) ⟨rfl, Chg.refl _ _⟩, ?_⟩
      refine ⟨u8 (rot (((((fillS cl k).2.1) ^^^ (((fillS cl k).2.1) <<< (1 : Nat))) ^^^ ((((fillS cl k).2.1) ^^^ (((fillS cl k).2.1) <<< (1 : Nat))) <<< (2 : Nat))) ^^^ (((((fillS cl k).2.1) ^^^ (((fillS cl k).2.1) <<< (1 : Nat))) ^^^ ((((fillS cl k).2.1) ^^^ (((fillS cl k).2.1) <<< (1 : Nat))) <<< (2 : Nat))) <<< (4 : Nat))) 3), fun _ uw70 hC71 _ => Gives.call rfl (Enters.callL (vs := [u8 (((((fillS cl k).2.1) ^^^ (((fillS cl k).2.1) <<< (1 : Nat))) ^^^ ((((fillS cl k).2.1) ^^^ (((fillS cl k).2.1) <<< (1 : Nat))) <<< (2 : Nat))) ^^^ (((((fillS cl k).2.1) ^^^ (((fillS cl k).2.1) <<< (1 : Nat))) ^^^ ((((fillS cl k).2.1) ^^^ (((fillS cl k).2.1) <<< (1 : Nat))) <<< (2 : Nat))) <<< (4 : Nat))), i64 ((3 : Int))]) call33 rfl) (rot_ok (((((fillS cl k).2.1) ^^^ (((fillS cl k).2.1) <<< (1 : Nat))) ^^^ ((((fillS cl k).2.1) ^^^ (((fillS cl k).2.1) <<< (1 : Nat))) <<< (2 : Nat))) ^^^ (((((fillS cl k).2.1) ^^^ (((fillS cl k).2.1) <<< (1 : Nat))) ^^^ ((((fillS cl k).2.1) ^^^ (((fillS cl k).2.1) <<< (1 : Nat))) <<< (2 : Nat))) <<< (4 : Nat))) 3 (by decide) uw70), ?_⟩
      refine ⟨u8 ((((((((fillS cl k).2.1) ^^^ (((fillS cl k).2.1) <<< (1 : Nat))) ^^^ ((((fillS cl k).2.1) ^^^ (((fillS cl k).2.1) <<< (1 : Nat))) <<< (2 : Nat))) ^^^ (((((fillS cl k).2.1) ^^^ (((fillS cl k).2.1) <<< (1 : Nat))) ^^^ ((((fillS cl k).2.1) ^^^ (((fillS cl k).2.1) <<< (1 : Nat))) <<< (2 : Nat))) <<< (4 : Nat))) ^^^ (rot (((((fillS cl k).2.1) ^^^ (((fillS cl k).2.1) <<< (1 : Nat))) ^^^ ((((fillS cl k).2.1) ^^^ (((fillS cl k).2.1) <<< (1 : Nat))) <<< (2 : Nat))) ^^^ (((((fillS cl k).2.1) ^^^ (((fillS cl k).2.1) <<< (1 : Nat))) ^^^ ((((fillS cl k).2.1) ^^^ (((fillS cl k).2.1) <<< (1 : Nat))) <<< (2 : Nat))) <<< (4 : Nat))) 1)) ^^^ (rot (((((fillS cl k).2.1) ^^^ (((fillS cl k).2.1) <<< (1 : Nat))) ^^^ ((((fillS cl k).2.1) ^^^ (((fillS cl k).2.1) <<< (1 : Nat))) <<< (2 : Nat))) ^^^ (((((fillS cl k).2.1) ^^^ (((fillS cl k).2.1) <<< (1 : Nat))) ^^^ ((((fillS cl k).2.1) ^^^ (((fillS cl k).2.1) <<< (1 : Nat))) <<< (2 : Nat))) <<< (4 : Nat))) 2)) ^^^ (rot (((((fillS cl k).2.1) ^^^ (((fillS cl k).2.1) <<< (1 : Nat))) ^^^ ((((fillS cl k).2.1) ^^^ (((fillS cl k).2.1) <<< (1 : Nat))) <<< (2 : Nat))) ^^^ (((((fillS cl k).2.1) ^^^ (((fillS cl k).2.1) <<< (1 : Nat))) ^^^ ((((fillS cl k).2.1) ^^^ (((fillS cl k).2.1) <<< (1 : Nat))) <<< (2 : Nat))) <<< (4 : Nat))) 3)), fun _ uw72 hC73 _ => Gives.run rfl (r_xor8 (a := ((((((fillS cl k).2.1) ^^^ (((fillS cl k).2.1) <<< (1 : Nat))) ^^^ ((((fillS cl k).2.1) ^^^ (((fillS cl k).2.1) <<< (1 : Nat))) <<< (2 : Nat))) ^^^ (((((fillS cl k).2.1) ^^^ (((fillS cl k).2.1) <<< (1 : Nat))) ^^^ ((((fillS cl k).2.1) ^^^ (((fillS cl k).2.1) <<< (1 : Nat))) <<< (2 : Nat))) <<< (4 : Nat))) ^^^ (rot (((((fillS cl k).2.1) ^^^ (((fillS cl k).2.1) <<< (1 : Nat))) ^^^ ((((fillS cl k).2.1) ^^^ (((fillS cl k).2.1) <<< (1 : Nat))) <<< (2 : Nat))) ^^^ (((((fillS cl k).2.1) ^^^ (((fillS cl k).2.1) <<< (1 : Nat))) ^^^ ((((fillS cl k).2.1) ^^^ (((fillS cl k).2.1) <<< (1 : Nat))) <<< (2 : Nat))) <<< (4 : Nat))) 1)) ^^^ (rot (((((fillS cl k).2.1) ^^^ (((fillS cl k).2.1) <<< (1 : Nat))) ^^^ ((((fillS cl k).2.1) ^^^ (((fillS cl k).2.1) <<< (1 : Nat))) <<< (2 : Nat))) ^^^ (((((fillS cl k).2.1) ^^^ (((fillS cl k).2.1) <<< (1 : Nat))) ^^^ ((((fillS cl k).2.1) ^^^ (((fillS cl k).2.1) <<< (1 : Nat))) <<< (2 : Nat))) <<< (4 : Nat))) 2)) (b := rot (((((fillS cl k).2.1) ^^^ (((fillS cl k).2.1) <<< (1 : Nat))) ^^^ ((((fillS cl k).2.1) ^^^ (((fillS cl k).2.1) <<< (1 : Nat))) <<< (2 : Nat))) ^^^ (((((fillS cl k).2.1) ^^^ (((fillS cl k).2.1) <<< (1 : Nat))) ^^^ ((((fillS cl k).2.1) ^^^ (((fillS cl k).2.1) <<< (1 : Nat))) <<< (2 : Nat))) <<< (4 : Nat))) 3) rfl rfl) ⟨rfl, Chg.refl _ _⟩, ?_⟩
      refine ⟨u8 (((((fillS cl k).2.1) ^^^ (((fillS cl k).2.1) <<< (1 : Nat))) ^^^ ((((fillS cl k).2.1) ^^^ (((fillS cl k).2.1) <<< (1 : Nat))) <<< (2 : Nat))) ^^^ (((((fillS cl k).2.1) ^^^ (((fillS cl k).2.1) <<< (1 : Nat))) ^^^ ((((fillS cl k).2.1) ^^^ (((fillS cl k).2.1) <<< (1 : Nat))) <<< (2 : Nat))) <<< (4 : Nat))), fun _ uw74 hC75 _ => Gives.run rfl (r_move (v := u8 (((((fillS cl k).2.1) ^^^ (((fillS cl k).2.1) <<< (1 : Nat))) ^^^ ((((fillS cl k).2.1) ^^^ (((fillS cl k).2.1) <<< (1 : Nat))) <<< (2 : Nat))) ^^^ (((((fillS cl k).2.1) ^^^ (((fillS cl k).2.1) <<< (1 : Nat))) ^^^ ((((fillS cl k).2.1) ^^^ (((fillS cl k).2.1) <<< (1 : Nat))) <<< (2 : Nat))) <<< (4 : Nat)))) rfl) ⟨rfl, Chg.refl _ _⟩, ?_⟩
      refine ⟨u8 (rot (((((fillS cl k).2.1) ^^^ (((fillS cl k).2.1) <<< (1 : Nat))) ^^^ ((((fillS cl k).2.1) ^^^ (((fillS cl k).2.1) <<< (1 : Nat))) <<< (2 : Nat))) ^^^ (((((fillS cl k).2.1) ^^^ (((fillS cl k).2.1) <<< (1 : Nat))) ^^^ ((((fillS cl k).2.1) ^^^ (((fillS cl k).2.1) <<< (1 : Nat))) <<< (2 : Nat))) <<< (4 : Nat))) 4), fun _ uw76 hC77 _ => Gives.call rfl (Enters.callL (vs := [u8 (((((fillS cl k).2.1) ^^^ (((fillS cl k).2.1) <<< (1 : Nat))) ^^^ ((((fillS cl k).2.1) ^^^ (((fillS cl k).2.1) <<< (1 : Nat))) <<< (2 : Nat))) ^^^ (((((fillS cl k).2.1) ^^^ (((fillS cl k).2.1) <<< (1 : Nat))) ^^^ ((((fillS cl k).2.1) ^^^ (((fillS cl k).2.1) <<< (1 : Nat))) <<< (2 : Nat))) <<< (4 : Nat))), i64 ((4 : Int))]) call33 rfl) (rot_ok (((((fillS cl k).2.1) ^^^ (((fillS cl k).2.1) <<< (1 : Nat))) ^^^ ((((fillS cl k).2.1) ^^^ (((fillS cl k).2.1) <<< (1 : Nat))) <<< (2 : Nat))) ^^^ (((((fillS cl k).2.1) ^^^ (((fillS cl k).2.1) <<< (1 : Nat))) ^^^ ((((fillS cl k).2.1) ^^^ (((fillS cl k).2.1) <<< (1 : Nat))) <<< (2 : Nat))) <<< (4 : Nat))) 4 (by decide) uw76), ?_⟩
      refine ⟨u8 (((((((((fillS cl k).2.1) ^^^ (((fillS cl k).2.1) <<< (1 : Nat))) ^^^ ((((fillS cl k).2.1) ^^^ (((fillS cl k).2.1) <<< (1 : Nat))) <<< (2 : Nat))) ^^^ (((((fillS cl k).2.1) ^^^ (((fillS cl k).2.1) <<< (1 : Nat))) ^^^ ((((fillS cl k).2.1) ^^^ (((fillS cl k).2.1) <<< (1 : Nat))) <<< (2 : Nat))) <<< (4 : Nat))) ^^^ (rot (((((fillS cl k).2.1) ^^^ (((fillS cl k).2.1) <<< (1 : Nat))) ^^^ ((((fillS cl k).2.1) ^^^ (((fillS cl k).2.1) <<< (1 : Nat))) <<< (2 : Nat))) ^^^ (((((fillS cl k).2.1) ^^^ (((fillS cl k).2.1) <<< (1 : Nat))) ^^^ ((((fillS cl k).2.1) ^^^ (((fillS cl k).2.1) <<< (1 : Nat))) <<< (2 : Nat))) <<< (4 : Nat))) 1)) ^^^ (rot (((((fillS cl k).2.1) ^^^ (((fillS cl k).2.1) <<< (1 : Nat))) ^^^ ((((fillS cl k).2.1) ^^^ (((fillS cl k).2.1) <<< (1 : Nat))) <<< (2 : Nat))) ^^^ (((((fillS cl k).2.1) ^^^ (((fillS cl k).2.1) <<< (1 : Nat))) ^^^ ((((fillS cl k).2.1) ^^^ (((fillS cl k).2.1) <<< (1 : Nat))) <<< (2 : Nat))) <<< (4 : Nat))) 2)) ^^^ (rot (((((fillS cl k).2.1) ^^^ (((fillS cl k).2.1) <<< (1 : Nat))) ^^^ ((((fillS cl k).2.1) ^^^ (((fillS cl k).2.1) <<< (1 : Nat))) <<< (2 : Nat))) ^^^ (((((fillS cl k).2.1) ^^^ (((fillS cl k).2.1) <<< (1 : Nat))) ^^^ ((((fillS cl k).2.1) ^^^ (((fillS cl k).2.1) <<< (1 : Nat))) <<< (2 : Nat))) <<< (4 : Nat))) 3)) ^^^ (rot (((((fillS cl k).2.1) ^^^ (((fillS cl k).2.1) <<< (1 : Nat))) ^^^ ((((fillS cl k).2.1) ^^^ (((fillS cl k).2.1) <<< (1 : Nat))) <<< (2 : Nat))) ^^^ (((((fillS cl k).2.1) ^^^ (((fillS cl k).2.1) <<< (1 : Nat))) ^^^ ((((fillS cl k).2.1) ^^^ (((fillS cl k).2.1) <<< (1 : Nat))) <<< (2 : Nat))) <<< (4 : Nat))) 4)), fun _ uw78 hC79 _ => Gives.run rfl (r_xor8 (a := (((((((fillS cl k).2.1) ^^^ (((fillS cl k).2.1) <<< (1 : Nat))) ^^^ ((((fillS cl k).2.1) ^^^ (((fillS cl k).2.1) <<< (1 : Nat))) <<< (2 : Nat))) ^^^ (((((fillS cl k).2.1) ^^^ (((fillS cl k).2.1) <<< (1 : Nat))) ^^^ ((((fillS cl k).2.1) ^^^ (((fillS cl k).2.1) <<< (1 : Nat))) <<< (2 : Nat))) <<< (4 : Nat))) ^^^ (rot (((((fillS cl k).2.1) ^^^ (((fillS cl k).2.1) <<< (1 : Nat))) ^^^ ((((fillS cl k).2.1) ^^^ (((fillS cl k).2.1) <<< (1 : Nat))) <<< (2 : Nat))) ^^^ (((((fillS cl k).2.1) ^^^ (((fillS cl k).2.1) <<< (1 : Nat))) ^^^ ((((fillS cl k).2.1) ^^^ (((fillS cl k).2.1) <<< (1 : Nat))) <<< (2 : Nat))) <<< (4 : Nat))) 1)) ^^^ (rot (((((fillS cl k).2.1) ^^^ (((fillS cl k).2.1) <<< (1 : Nat))) ^^^ ((((fillS cl k).2.1) ^^^ (((fillS cl k).2.1) <<< (1 : Nat))) <<< (2 : Nat))) ^^^ (((((fillS cl k).2.1) ^^^ (((fillS cl k).2.1) <<< (1 : Nat))) ^^^ ((((fillS cl k).2.1) ^^^ (((fillS cl k).2.1) <<< (1 : Nat))) <<< (2 : Nat))) <<< (4 : Nat))) 2)) ^^^ (rot (((((fillS cl k).2.1) ^^^ (((fillS cl k).2.1) <<< (1 : Nat))) ^^^ ((((fillS cl k).2.1) ^^^ (((fillS cl k).2.1) <<< (1 : Nat))) <<< (2 : Nat))) ^^^ (((((fillS cl k).2.1) ^^^ (((fillS cl k).2.1) <<< (1 : Nat))) ^^^ ((((fillS cl k).2.1) ^^^ (((fillS cl k).2.1) <<< (1 : Nat))) <<< (2 : Nat))) <<< (4 : Nat))) 3)) (b := rot (((((fillS cl k).2.1) ^^^ (((fillS cl k).2.1) <<< (1 : Nat))) ^^^ ((((fillS cl k).2.1) ^^^ (((fillS cl k).2.1) <<< (1 : Nat))) <<< (2 : Nat))) ^^^ (((((fillS cl k).2.1) ^^^ (((fillS cl k).2.1) <<< (1 : Nat))) ^^^ ((((fillS cl k).2.1) ^^^ (((fillS cl k).2.1) <<< (1 : Nat))) <<< (2 : Nat))) <<< (4 : Nat))) 4) rfl rfl) ⟨rfl, Chg.refl _ _⟩, ?_⟩
      refine ⟨u8 ((((((((((fillS cl k).2.1) ^^^ (((fillS cl k).2.1) <<< (1 : Nat))) ^^^ ((((fillS cl k).2.1) ^^^ (((fillS cl k).2.1) <<< (1 : Nat))) <<< (2 : Nat))) ^^^ (((((fillS cl k).2.1) ^^^ (((fillS cl k).2.1) <<< (1 : Nat))) ^^^ ((((fillS cl k).2.1) ^^^ (((fillS cl k).2.1) <<< (1 : Nat))) <<< (2 : Nat))) <<< (4 : Nat))) ^^^ (rot (((((fillS cl k).2.1) ^^^ (((fillS cl k).2.1) <<< (1 : Nat))) ^^^ ((((fillS cl k).2.1) ^^^ (((fillS cl k).2.1) <<< (1 : Nat))) <<< (2 : Nat))) ^^^ (((((fillS cl k).2.1) ^^^ (((fillS cl k).2.1) <<< (1 : Nat))) ^^^ ((((fillS cl k).2.1) ^^^ (((fillS cl k).2.1) <<< (1 : Nat))) <<< (2 : Nat))) <<< (4 : Nat))) 1)) ^^^ (rot (((((fillS cl k).2.1) ^^^ (((fillS cl k).2.1) <<< (1 : Nat))) ^^^ ((((fillS cl k).2.1) ^^^ (((fillS cl k).2.1) <<< (1 : Nat))) <<< (2 : Nat))) ^^^ (((((fillS cl k).2.1) ^^^ (((fillS cl k).2.1) <<< (1 : Nat))) ^^^ ((((fillS cl k).2.1) ^^^ (((fillS cl k).2.1) <<< (1 : Nat))) <<< (2 : Nat))) <<< (4 : Nat))) 2)) ^^^ (rot (((((fillS cl k).2.1) ^^^ (((fillS cl k).2.1) <<< (1 : Nat))) ^^^ ((((fillS cl k).2.1) ^^^ (((fillS cl k).2.1) <<< (1 : Nat))) <<< (2 : Nat))) ^^^ (((((fillS cl k).2.1) ^^^ (((fillS cl k).2.1) <<< (1 : Nat))) ^^^ ((((fillS cl k).2.1) ^^^ (((fillS cl k).2.1) <<< (1 : Nat))) <<< (2 : Nat))) <<< (4 : Nat))) 3)) ^^^ (rot (((((fillS cl k).2.1) ^^^ (((fillS cl k).2.1) <<< (1 : Nat))) ^^^ ((((fillS cl k).2.1) ^^^ (((fillS cl k).2.1) <<< (1 : Nat))) <<< (2 : Nat))) ^^^ (((((fillS cl k).2.1) ^^^ (((fillS cl k).2.1) <<< (1 : Nat))) ^^^ ((((fillS cl k).2.1) ^^^ (((fillS cl k).2.1) <<< (1 : Nat))) <<< (2 : Nat))) <<< (4 : Nat))) 4)) ^^^ (99#8)), fun _ uw80 hC81 _ => Gives.run rfl (r_xor8 (a := ((((((((fillS cl k).2.1) ^^^ (((fillS cl k).2.1) <<< (1 : Nat))) ^^^ ((((fillS cl k).2.1) ^^^ (((fillS cl k).2.1) <<< (1 : Nat))) <<< (2 : Nat))) ^^^ (((((fillS cl k).2.1) ^^^ (((fillS cl k).2.1) <<< (1 : Nat))) ^^^ ((((fillS cl k).2.1) ^^^ (((fillS cl k).2.1) <<< (1 : Nat))) <<< (2 : Nat))) <<< (4 : Nat))) ^^^ (rot (((((fillS cl k).2.1) ^^^ (((fillS cl k).2.1) <<< (1 : Nat))) ^^^ ((((fillS cl k).2.1) ^^^ (((fillS cl k).2.1) <<< (1 : Nat))) <<< (2 : Nat))) ^^^ (((((fillS cl k).2.1) ^^^ (((fillS cl k).2.1) <<< (1 : Nat))) ^^^ ((((fillS cl k).2.1) ^^^ (((fillS cl k).2.1) <<< (1 : Nat))) <<< (2 : Nat))) <<< (4 : Nat))) 1)) ^^^ (rot (((((fillS cl k).2.1) ^^^ (((fillS cl k).2.1) <<< (1 : Nat))) ^^^ ((((fillS cl k).2.1) ^^^ (((fillS cl k).2.1) <<< (1 : Nat))) <<< (2 : Nat))) ^^^ (((((fillS cl k).2.1) ^^^ (((fillS cl k).2.1) <<< (1 : Nat))) ^^^ ((((fillS cl k).2.1) ^^^ (((fillS cl k).2.1) <<< (1 : Nat))) <<< (2 : Nat))) <<< (4 : Nat))) 2)) ^^^ (rot (((((fillS cl k).2.1) ^^^ (((fillS cl k).2.1) <<< (1 : Nat))) ^^^ ((((fillS cl k).2.1) ^^^ (((fillS cl k).2.1) <<< (1 : Nat))) <<< (2 : Nat))) ^^^ (((((fillS cl k).2.1) ^^^ (((fillS cl k).2.1) <<< (1 : Nat))) ^^^ ((((fillS cl k).2.1) ^^^ (((fillS cl k).2.1) <<< (1 : Nat))) <<< (2 : Nat))) <<< (4 : Nat))) 3)) ^^^ (rot (((((fillS cl k).2.1) ^^^ (((fillS cl k).2.1) <<< (1 : Nat))) ^^^ ((((fillS cl k).2.1) ^^^ (((fillS cl k).2.1) <<< (1 : Nat))) <<< (2 : Nat))) ^^^ (((((fillS cl k).2.1) ^^^ (((fillS cl k).2.1) <<< (1 : Nat))) ^^^ ((((fillS cl k).2.1) ^^^ (((fillS cl k).2.1) <<< (1 : Nat))) <<< (2 : Nat))) <<< (4 : Nat))) 4)) (b := 99#8) rfl rfl) ⟨rfl, Chg.refl _ _⟩, ?_⟩
      refine ⟨.pointer (some ⟨b, 0, none⟩), fun _ uw82 hC83 _ => Gives.run rfl (r_nilCheck rfl) ⟨rfl, Chg.refl _ _⟩, ?_⟩
      refine ⟨.pointer (some ⟨b, 176, none⟩), fun _ uw84 hC85 _ => Gives.run rfl (r_fieldAddr (off' := 176) fld50_1 (by decide) (b := b) (off := 0) rfl (by omega)) ⟨rfl, Chg.refl _ _⟩, ?_⟩
      refine ⟨.pointer (some ⟨b, 176 + ((((fillS cl k).1) ^^^ (xt ((fillS cl k).1))).toNat), none⟩), fun _ uw86 hC87 _ => Gives.run rfl (r_indexA (off' := 176 + ((((fillS cl k).1) ^^^ (xt ((fillS cl k).1))).toNat)) (j := (((fillS cl k).1) ^^^ (xt ((fillS cl k).1))).toNat) arr48 (b := b) (off := 176) rfl rfl (by first | rfl | omega | (simp; omega)) (BitVec.isLt _) (by omega)) ⟨rfl, Chg.refl _ _⟩, ?_⟩
      intro r91 w88 hE90 hF
      have H89 := H5.ext hE90
      refine d_store (k := 0) (v := u8 ((((((((((fillS cl k).2.1) ^^^ (((fillS cl k).2.1) <<< (1 : Nat))) ^^^ ((((fillS cl k).2.1) ^^^ (((fillS cl k).2.1) <<< (1 : Nat))) <<< (2 : Nat))) ^^^ (((((fillS cl k).2.1) ^^^ (((fillS cl k).2.1) <<< (1 : Nat))) ^^^ ((((fillS cl k).2.1) ^^^ (((fillS cl k).2.1) <<< (1 : Nat))) <<< (2 : Nat))) <<< (4 : Nat))) ^^^ (rot (((((fillS cl k).2.1) ^^^ (((fillS cl k).2.1) <<< (1 : Nat))) ^^^ ((((fillS cl k).2.1) ^^^ (((fillS cl k).2.1) <<< (1 : Nat))) <<< (2 : Nat))) ^^^ (((((fillS cl k).2.1) ^^^ (((fillS cl k).2.1) <<< (1 : Nat))) ^^^ ((((fillS cl k).2.1) ^^^ (((fillS cl k).2.1) <<< (1 : Nat))) <<< (2 : Nat))) <<< (4 : Nat))) 1)) ^^^ (rot (((((fillS cl k).2.1) ^^^ (((fillS cl k).2.1) <<< (1 : Nat))) ^^^ ((((fillS cl k).2.1) ^^^ (((fillS cl k).2.1) <<< (1 : Nat))) <<< (2 : Nat))) ^^^ (((((fillS cl k).2.1) ^^^ (((fillS cl k).2.1) <<< (1 : Nat))) ^^^ ((((fillS cl k).2.1) ^^^ (((fillS cl k).2.1) <<< (1 : Nat))) <<< (2 : Nat))) <<< (4 : Nat))) 2)) ^^^ (rot (((((fillS cl k).2.1) ^^^ (((fillS cl k).2.1) <<< (1 : Nat))) ^^^ ((((fillS cl k).2.1) ^^^ (((fillS cl k).2.1) <<< (1 : Nat))) <<< (2 : Nat))) ^^^ (((((fillS cl k).2.1) ^^^ (((fillS cl k).2.1) <<< (1 : Nat))) ^^^ ((((fillS cl k).2.1) ^^^ (((fillS cl k).2.1) <<< (1 : Nat))) <<< (2 : Nat))) <<< (4 : Nat))) 3)) ^^^ (rot (((((fillS cl k).2.1) ^^^ (((fillS cl k).2.1) <<< (1 : Nat))) ^^^ ((((fillS cl k).2.1) ^^^ (((fillS cl k).2.1) <<< (1 : Nat))) <<< (2 : Nat))) ^^^ (((((fillS cl k).2.1) ^^^ (((fillS cl k).2.1) <<< (1 : Nat))) ^^^ ((((fillS cl k).2.1) ^^^ (((fillS cl k).2.1) <<< (1 : Nat))) <<< (2 : Nat))) <<< (4 : Nat))) 4)) ^^^ (99#8))) (cs' := (cel E8 (((fillS cl k).2.2).set (176 + ((((fillS cl k).1) ^^^ (xt ((fillS cl k).1))).toNat)) ((((((((((fillS cl k).2.1) ^^^ (((fillS cl k).2.1) <<< (1 : Nat))) ^^^ ((((fillS cl k).2.1) ^^^ (((fillS cl k).2.1) <<< (1 : Nat))) <<< (2 : Nat))) ^^^ (((((fillS cl k).2.1) ^^^ (((fillS cl k).2.1) <<< (1 : Nat))) ^^^ ((((fillS cl k).2.1) ^^^ (((fillS cl k).2.1) <<< (1 : Nat))) <<< (2 : Nat))) <<< (4 : Nat))) ^^^ (rot (((((fillS cl k).2.1) ^^^ (((fillS cl k).2.1) <<< (1 : Nat))) ^^^ ((((fillS cl k).2.1) ^^^ (((fillS cl k).2.1) <<< (1 : Nat))) <<< (2 : Nat))) ^^^ (((((fillS cl k).2.1) ^^^ (((fillS cl k).2.1) <<< (1 : Nat))) ^^^ ((((fillS cl k).2.1) ^^^ (((fillS cl k).2.1) <<< (1 : Nat))) <<< (2 : Nat))) <<< (4 : Nat))) 1)) ^^^ (rot (((((fillS cl k).2.1) ^^^ (((fillS cl k).2.1) <<< (1 : Nat))) ^^^ ((((fillS cl k).2.1) ^^^ (((fillS cl k).2.1) <<< (1 : Nat))) <<< (2 : Nat))) ^^^ (((((fillS cl k).2.1) ^^^ (((fillS cl k).2.1) <<< (1 : Nat))) ^^^ ((((fillS cl k).2.1) ^^^ (((fillS cl k).2.1) <<< (1 : Nat))) <<< (2 : Nat))) <<< (4 : Nat))) 2)) ^^^ (rot (((((fillS cl k).2.1) ^^^ (((fillS cl k).2.1) <<< (1 : Nat))) ^^^ ((((fillS cl k).2.1) ^^^ (((fillS cl k).2.1) <<< (1 : Nat))) <<< (2 : Nat))) ^^^ (((((fillS cl k).2.1) ^^^ (((fillS cl k).2.1) <<< (1 : Nat))) ^^^ ((((fillS cl k).2.1) ^^^ (((fillS cl k).2.1) <<< (1 : Nat))) <<< (2 : Nat))) <<< (4 : Nat))) 3)) ^^^ (rot (((((fillS cl k).2.1) ^^^ (((fillS cl k).2.1) <<< (1 : Nat))) ^^^ ((((fillS cl k).2.1) ^^^ (((fillS cl k).2.1) <<< (1 : Nat))) <<< (2 : Nat))) ^^^ (((((fillS cl k).2.1) ^^^ (((fillS cl k).2.1) <<< (1 : Nat))) ^^^ ((((fillS cl k).2.1) ^^^ (((fillS cl k).2.1) <<< (1 : Nat))) <<< (2 : Nat))) <<< (4 : Nat))) 4)) ^^^ (99#8)))).toArray) H89 rfl rfl rfl siz5 (by rfl) (by exact E8.one _) (by rw [List.size_toArray, cel_length]; show _ ≤ _ * 1; have := ((fillS cl k).1 ^^^ xt (fillS cl k).1).isLt; rw [hl]; omega) (by exact put1 (E := E8) rfl _ _ _) ?_
      intro w92 H93 _
      have H93' := H93.as (L' := [(some b, .cells (cel E8 (((fillS cl k).2.2).set (176 + ((((fillS cl k).1) ^^^ (xt ((fillS cl k).1))).toNat)) ((((((((((fillS cl k).2.1) ^^^ (((fillS cl k).2.1) <<< (1 : Nat))) ^^^ ((((fillS cl k).2.1) ^^^ (((fillS cl k).2.1) <<< (1 : Nat))) <<< (2 : Nat))) ^^^ (((((fillS cl k).2.1) ^^^ (((fillS cl k).2.1) <<< (1 : Nat))) ^^^ ((((fillS cl k).2.1) ^^^ (((fillS cl k).2.1) <<< (1 : Nat))) <<< (2 : Nat))) <<< (4 : Nat))) ^^^ (rot (((((fillS cl k).2.1) ^^^ (((fillS cl k).2.1) <<< (1 : Nat))) ^^^ ((((fillS cl k).2.1) ^^^ (((fillS cl k).2.1) <<< (1 : Nat))) <<< (2 : Nat))) ^^^ (((((fillS cl k).2.1) ^^^ (((fillS cl k).2.1) <<< (1 : Nat))) ^^^ ((((fillS cl k).2.1) ^^^ (((fillS cl k).2.1) <<< (1 : Nat))) <<< (2 : Nat))) <<< (4 : Nat))) 1)) ^^^ (rot (((((fillS cl k).2.1) ^^^ (((fillS cl k).2.1) <<< (1 : Nat))) ^^^ ((((fillS cl k).2.1) ^^^ (((fillS cl k).2.1) <<< (1 : Nat))) <<< (2 : Nat))) ^^^ (((((fillS cl k).2.1) ^^^ (((fillS cl k).2.1) <<< (1 : Nat))) ^^^ ((((fillS cl k).2.1) ^^^ (((fillS cl k).2.1) <<< (1 : Nat))) <<< (2 : Nat))) <<< (4 : Nat))) 2)) ^^^ (rot (((((fillS cl k).2.1) ^^^ (((fillS cl k).2.1) <<< (1 : Nat))) ^^^ ((((fillS cl k).2.1) ^^^ (((fillS cl k).2.1) <<< (1 : Nat))) <<< (2 : Nat))) ^^^ (((((fillS cl k).2.1) ^^^ (((fillS cl k).2.1) <<< (1 : Nat))) ^^^ ((((fillS cl k).2.1) ^^^ (((fillS cl k).2.1) <<< (1 : Nat))) <<< (2 : Nat))) <<< (4 : Nat))) 3)) ^^^ (rot (((((fillS cl k).2.1) ^^^ (((fillS cl k).2.1) <<< (1 : Nat))) ^^^ ((((fillS cl k).2.1) ^^^ (((fillS cl k).2.1) <<< (1 : Nat))) <<< (2 : Nat))) ^^^ (((((fillS cl k).2.1) ^^^ (((fillS cl k).2.1) <<< (1 : Nat))) ^^^ ((((fillS cl k).2.1) ^^^ (((fillS cl k).2.1) <<< (1 : Nat))) <<< (2 : Nat))) <<< (4 : Nat))) 4)) ^^^ (99#8)))).toArray 50 (0, 0))]) rfl
      clear H93
      refine wnil ?_
      refine blockNormal ?_
      refine thenNormal ?_
      refine oneRegion ?_
      refine sq (r_addI (a := (k : Nat)) (b := (1 : Int)) rfl rfl (by omega)) ?_
      refine sq (r_move (v := i64 ((k : Nat) + (1 : Int))) rfl) ?_
      refine wnil ?_
      refine thenNormal ?_
      have e3 : u8 (((((fillS cl k).2.1) ^^^ (((fillS cl k).2.1) <<< (1 : Nat))) ^^^ ((((fillS cl k).2.1) ^^^ (((fillS cl k).2.1) <<< (1 : Nat))) <<< (2 : Nat))) ^^^ (((((fillS cl k).2.1) ^^^ (((fillS cl k).2.1) <<< (1 : Nat))) ^^^ ((((fillS cl k).2.1) ^^^ (((fillS cl k).2.1) <<< (1 : Nat))) <<< (2 : Nat))) <<< (4 : Nat))) = u8 (fq (fillS cl k).2.1) := congrArg u8 (by simp only [fq]; first | rw [if_pos c23] | rw [if_neg c23])
      have eL : ((fillS cl k).2.2).set (176 + ((((fillS cl k).1) ^^^ (xt ((fillS cl k).1))).toNat)) ((((((((((fillS cl k).2.1) ^^^ (((fillS cl k).2.1) <<< (1 : Nat))) ^^^ ((((fillS cl k).2.1) ^^^ (((fillS cl k).2.1) <<< (1 : Nat))) <<< (2 : Nat))) ^^^ (((((fillS cl k).2.1) ^^^ (((fillS cl k).2.1) <<< (1 : Nat))) ^^^ ((((fillS cl k).2.1) ^^^ (((fillS cl k).2.1) <<< (1 : Nat))) <<< (2 : Nat))) <<< (4 : Nat))) ^^^ (rot (((((fillS cl k).2.1) ^^^ (((fillS cl k).2.1) <<< (1 : Nat))) ^^^ ((((fillS cl k).2.1) ^^^ (((fillS cl k).2.1) <<< (1 : Nat))) <<< (2 : Nat))) ^^^ (((((fillS cl k).2.1) ^^^ (((fillS cl k).2.1) <<< (1 : Nat))) ^^^ ((((fillS cl k).2.1) ^^^ (((fillS cl k).2.1) <<< (1 : Nat))) <<< (2 : Nat))) <<< (4 : Nat))) 1)) ^^^ (rot (((((fillS cl k).2.1) ^^^ (((fillS cl k).2.1) <<< (1 : Nat))) ^^^ ((((fillS cl k).2.1) ^^^ (((fillS cl k).2.1) <<< (1 : Nat))) <<< (2 : Nat))) ^^^ (((((fillS cl k).2.1) ^^^ (((fillS cl k).2.1) <<< (1 : Nat))) ^^^ ((((fillS cl k).2.1) ^^^ (((fillS cl k).2.1) <<< (1 : Nat))) <<< (2 : Nat))) <<< (4 : Nat))) 2)) ^^^ (rot (((((fillS cl k).2.1) ^^^ (((fillS cl k).2.1) <<< (1 : Nat))) ^^^ ((((fillS cl k).2.1) ^^^ (((fillS cl k).2.1) <<< (1 : Nat))) <<< (2 : Nat))) ^^^ (((((fillS cl k).2.1) ^^^ (((fillS cl k).2.1) <<< (1 : Nat))) ^^^ ((((fillS cl k).2.1) ^^^ (((fillS cl k).2.1) <<< (1 : Nat))) <<< (2 : Nat))) <<< (4 : Nat))) 3)) ^^^ (rot (((((fillS cl k).2.1) ^^^ (((fillS cl k).2.1) <<< (1 : Nat))) ^^^ ((((fillS cl k).2.1) ^^^ (((fillS cl k).2.1) <<< (1 : Nat))) <<< (2 : Nat))) ^^^ (((((fillS cl k).2.1) ^^^ (((fillS cl k).2.1) <<< (1 : Nat))) ^^^ ((((fillS cl k).2.1) ^^^ (((fillS cl k).2.1) <<< (1 : Nat))) <<< (2 : Nat))) <<< (4 : Nat))) 4)) ^^^ (99#8)) = (fillS cl (k + 1)).2.2 := by simp only [fillS, aff, fp, fq]; first | rw [if_pos c23] | rw [if_neg c23]
      rw [eL] at H93'
      exact ⟨k + 1, _, rfl, ⟨rfl, rfl, e3, rfl, trivial⟩, ⟨by omega, H93'⟩, by show 255 - (k + 1) < 255 - k; omega⟩
  · skip
    refine exitAny ?_
    refine thenExit ?_
    refine thenExit ?_
    refine blockHere ?_
    refine thenNormal ?_
    refine oneRegion ?_
    refine sq (r_move (v := .pointer (some ⟨b, 0, none⟩)) rfl) ?_
    refine sq (r_nilCheck rfl) ?_
    refine sq (r_fieldAddr (off' := 176) fld50_1 (by decide) (b := b) (off := 0) rfl (by omega)) ?_
    refine sq (r_indexA (off' := 176) (j := 0) arr48 (b := b) (off := 176) rfl rfl (by first | rfl | omega | (simp; omega)) (by omega) (by omega)) ?_
    refine d_store (k := 0) (v := u8 (99#8)) (cs' := (cel E8 (((fillS cl k).2.2).set 176 (99#8))).toArray) H2 rfl rfl rfl siz5 (by rfl) (by exact E8.one _) (by rw [List.size_toArray, cel_length]; show _ ≤ _ * 1; rw [hl]; decide) (by exact put1 (E := E8) rfl _ _ _) ?_
    intro w94 H95 _
    have H95' := H95.as (L' := [(some b, .cells (cel E8 (((fillS cl k).2.2).set 176 (99#8))).toArray 50 (0, 0))]) rfl
    clear H95
    refine wnil ?_
    refine endG (rs := []) (vs := []) rfl trivial ?_
    obtain rfl : k = 255 := by omega
    exact ⟨_, rfl, rfl, H95'.chg, H95'.get (k := 0) rfl⟩

theorem xor_ok (a b c d : BitVec 64) (w : World) : Calls Try.prog 31 [.agg (cel E64 [a, b]).toArray, .agg (cel E64 [c, d]).toArray].toArray w (Ret fun v w' => v = .agg (cel E64 [(a ^^^ c), (b ^^^ d)]).toArray ∧ Ext w w') := by
  have H := Hp.start No w
  refine enter (n := 16) Try.func31 rfl rfl (Nat.le_of_ble_eq_true rfl) ?_
  refine seqRegion ?_
  refine q_box (v := .agg (cel E64 [a, b]).toArray) (o := .cells (cel E64 ([a, b])).toArray 39 (0, 0)) H rfl (by rfl) ?_
  intro b1 w2 hb1 H3 _
  refine q_box (v := .agg (cel E64 [c, d]).toArray) (o := .cells (cel E64 ([c, d])).toArray 39 (0, 0)) H3 rfl (by rfl) ?_
  intro b4 w5 hb4 H6 _
  refine q_alloc (o := .cells (cel E64 ([0#64, 0#64])).toArray 39 (0, 0)) H6 zer39 (by kernel_rfl) ?_
  intro b7 w8 hb7 H9 _
  refine wend ?_
  refine seqRegion ?_
  refine sq (r_indexA (off' := 0) (j := 0) arr39 (b := b1) (off := 0) rfl rfl (by first | rfl | omega | (simp; omega)) (by omega) (by omega)) ?_
  refine sq (r_ld1 (E := E64) (l := [a, b]) (j := 0) (a := a) fits34 (H9.get (k := 2) rfl) (by rfl) rfl rfl) ?_
  refine sq (r_indexA (off' := 0) (j := 0) arr39 (b := b4) (off := 0) rfl rfl (by first | rfl | omega | (simp; omega)) (by omega) (by omega)) ?_
  refine sq (r_ld1 (E := E64) (l := [c, d]) (j := 0) (a := c) fits34 (H9.get (k := 1) rfl) (by rfl) rfl rfl) ?_
  refine sq (r_xor64 (a := a) (b := c) rfl rfl) ?_
  refine sq (r_indexA (off' := 1) (j := 1) arr39 (b := b1) (off := 0) rfl rfl (by first | rfl | omega | (simp; omega)) (by omega) (by omega)) ?_
  refine sq (r_ld1 (E := E64) (l := [a, b]) (j := 1) (a := b) fits34 (H9.get (k := 2) rfl) (by rfl) rfl rfl) ?_
  refine sq (r_indexA (off' := 1) (j := 1) arr39 (b := b4) (off := 0) rfl rfl (by first | rfl | omega | (simp; omega)) (by omega) (by omega)) ?_
  refine sq (r_ld1 (E := E64) (l := [c, d]) (j := 1) (a := d) fits34 (H9.get (k := 1) rfl) (by rfl) rfl rfl) ?_
  refine sq (r_xor64 (a := b) (b := d) rfl rfl) ?_
  refine sq (r_buildA (cs' := (cel E64 [a ^^^ c, b ^^^ d]).toArray) (ps := [(0, u64 (a ^^^ c)), (1, u64 (b ^^^ d))]) zer39 arr39 rfl (by rfl)) ?_
  refine d_store (k := 0) (v := .agg (cel E64 [a ^^^ c, b ^^^ d]).toArray) (cs' := (cel E64 ([a ^^^ c, b ^^^ d])).toArray) H9 rfl rfl rfl siz39 (by exact celSize (by first | rfl | (show _ * 1 = _; omega))) (by exact celOne _) (by rw [List.size_toArray, cel_length]; show _ ≤ _ * 1; first | omega | (simp only [List.length_set]; omega) | exact Nat.le_of_ble_eq_true rfl | (simp <;> omega)) (by exact putAll (by first | rfl | omega | (simp <;> omega))) ?_
  intro w10 H11 _
  have H11' := H11.as (L' := [(some b7, .cells (cel E64 ([a ^^^ c, b ^^^ d])).toArray 39 (0, 0)), (some b4, .cells (cel E64 ([c, d])).toArray 39 (0, 0)), (some b1, .cells (cel E64 ([a, b])).toArray 39 (0, 0))]) rfl
  clear H11
  refine wend ?_
  refine retAny ?_
  refine retG (rs := [.cell 4 39]) (vs := [.agg (cel E64 ([a ^^^ c, b ^^^ d])).toArray]) rfl ⟨r_loadA (cs' := (cel E64 ([a ^^^ c, b ^^^ d])).toArray) agg39 siz39 (H11'.get (k := 0) rfl) (off := 0) rfl (by exact Nat.le_of_ble_eq_true rfl) (by exact ext_all rfl), trivial⟩ ?_
  exact ⟨_, rfl, rfl, H11'.chg⟩

theorem double_ok (a b : BitVec 64) (w : World) : Calls Try.prog 19 [.agg (cel E64 [a, b]).toArray].toArray w (Ret fun v w' => v = .agg (cel E64 [(dbl a b).1, (dbl a b).2]).toArray ∧ Ext w w') := by
  have H := Hp.start No w
  refine enter (n := 24) Try.func19 rfl rfl (Nat.le_of_ble_eq_true rfl) ?_
  refine seqRegion ?_
  refine q_box (v := .agg (cel E64 [a, b]).toArray) (o := .cells (cel E64 ([a, b])).toArray 39 (0, 0)) H rfl (by rfl) ?_
  intro b1 w2 hb1 H3 _
  refine q_alloc (o := .cells (cel E64 ([0#64, 0#64])).toArray 39 (0, 0)) H3 zer39 (by kernel_rfl) ?_
  intro b4 w5 hb4 H6 _
  refine wend ?_
  refine seqRegion ?_
  refine sq (r_indexA (off' := 0) (j := 0) arr39 (b := b1) (off := 0) rfl rfl (by first | rfl | omega | (simp; omega)) (by omega) (by omega)) ?_
  refine sq (r_ld1 (E := E64) (l := [a, b]) (j := 0) (a := a) fits34 (H6.get (k := 1) rfl) (by rfl) rfl rfl) ?_
  refine sq (r_shl64 (a := a) (c := 1) rfl rfl) ?_
  refine sq (r_indexA (off' := 1) (j := 1) arr39 (b := b1) (off := 0) rfl rfl (by first | rfl | omega | (simp; omega)) (by omega) (by omega)) ?_
  refine sq (r_ld1 (E := E64) (l := [a, b]) (j := 1) (a := b) fits34 (H6.get (k := 1) rfl) (by rfl) rfl rfl) ?_
  refine sq (r_shl64 (a := b) (c := 1) rfl rfl) ?_
  refine sq (r_indexA (off' := 0) (j := 0) arr39 (b := b1) (off := 0) rfl rfl (by first | rfl | omega | (simp; omega)) (by omega) (by omega)) ?_
  refine sq (r_ld1 (E := E64) (l := [a, b]) (j := 0) (a := a) fits34 (H6.get (k := 1) rfl) (by rfl) rfl rfl) ?_
  refine sq (r_shr64 (a := a) (c := 63) rfl rfl) ?_
  refine sq (r_or64 (a := b <<< (1 : Nat)) (b := a >>> (63 : Nat)) rfl rfl) ?_
  refine sq (r_buildA (cs' := (cel E64 [a <<< (1 : Nat), (b <<< (1 : Nat)) ||| (a >>> (63 : Nat))]).toArray) (ps := [(0, u64 (a <<< (1 : Nat))), (1, u64 ((b <<< (1 : Nat)) ||| (a >>> (63 : Nat))))]) zer39 arr39 rfl (by rfl)) ?_
  refine q_alloc (o := .cells (cel E64 ([0#64, 0#64])).toArray 39 (0, 0)) H6 zer39 (by kernel_rfl) ?_
  intro b7 w8 hb7 H9 _
  refine d_store (k := 0) (v := .agg (cel E64 [a <<< (1 : Nat), (b <<< (1 : Nat)) ||| (a >>> (63 : Nat))]).toArray) (cs' := (cel E64 ([a <<< (1 : Nat), (b <<< (1 : Nat)) ||| (a >>> (63 : Nat))])).toArray) H9 rfl rfl rfl siz39 (by exact celSize (by first | rfl | (show _ * 1 = _; omega))) (by exact celOne _) (by rw [List.size_toArray, cel_length]; show _ ≤ _ * 1; first | omega | (simp only [List.length_set]; omega) | exact Nat.le_of_ble_eq_true rfl | (simp <;> omega)) (by exact putAll (by first | rfl | omega | (simp <;> omega))) ?_
  intro w10 H11 _
  have H11' := H11.as (L' := [(some b7, .cells (cel E64 ([a <<< (1 : Nat), (b <<< (1 : Nat)) ||| (a >>> (63 : Nat))])).toArray 39 (0, 0)), (some b4, .cells (cel E64 ([0#64, 0#64])).toArray 39 (0, 0)), (some b1, .cells (cel E64 ([a, b])).toArray 39 (0, 0))]) rfl
  clear H11
  refine wend ?_
  refine seqAny ?_
  refine seqRegion ?_
  refine sq (r_indexA (off' := 1) (j := 1) arr39 (b := b1) (off := 0) rfl rfl (by first | rfl | omega | (simp; omega)) (by omega) (by omega)) ?_
  refine sq (r_ld1 (E := E64) (l := [a, b]) (j := 1) (a := b) fits34 (H11'.get (k := 2) rfl) (by rfl) rfl rfl) ?_
  refine sq (r_shr64 (a := b) (c := 63) rfl rfl) ?_
  refine sq (r_eql64 (a := b >>> (63 : Nat)) (b := 1#64) rfl rfl) ?_
  refine wend ?_
  refine condProp ((b >>> (63 : Nat)) = (1#64)) rfl (fun c => ?_) (fun c => ?_)
  · skip
    refine oneRegion ?_
    refine sq (r_indexA (off' := 0) (j := 0) arr39 (b := b7) (off := 0) rfl rfl (by first | rfl | omega | (simp; omega)) (by omega) (by omega)) ?_
    refine sq (r_ld1 (E := E64) (l := [a <<< (1 : Nat), (b <<< (1 : Nat)) ||| (a >>> (63 : Nat))]) (j := 0) (a := a <<< (1 : Nat)) fits34 (H11'.get (k := 0) rfl) (by rfl) rfl rfl) ?_
    refine sq (r_xor64 (a := a <<< (1 : Nat)) (b := 135#64) rfl rfl) ?_
    refine sq (r_indexA (off' := 0) (j := 0) arr39 (b := b7) (off := 0) rfl rfl (by first | rfl | omega | (simp; omega)) (by omega) (by omega)) ?_
    refine d_store (k := 0) (v := u64 ((a <<< (1 : Nat)) ^^^ (135#64))) (cs' := (cel E64 ([(a <<< (1 : Nat)) ^^^ (135#64), (b <<< (1 : Nat)) ||| (a >>> (63 : Nat))])).toArray) H11' rfl rfl rfl siz34 (by rfl) (by exact E64.one _) (by rw [List.size_toArray, cel_length]; show _ ≤ _ * 1; first | omega | (simp only [List.length_set]; omega) | exact Nat.le_of_ble_eq_true rfl | (simp <;> omega)) (by exact put1 (E := E64) rfl _ _ _) ?_
    intro w12 H13 _
    have H13' := H13.as (L' := [(some b7, .cells (cel E64 ([(a <<< (1 : Nat)) ^^^ (135#64), (b <<< (1 : Nat)) ||| (a >>> (63 : Nat))])).toArray 39 (0, 0)), (some b4, .cells (cel E64 ([0#64, 0#64])).toArray 39 (0, 0)), (some b1, .cells (cel E64 ([a, b])).toArray 39 (0, 0))]) rfl
    clear H13
    refine wnil ?_
    refine thenNormal ?_
    refine seqRegion ?_
    refine sq (r_loadA (cs' := (cel E64 ([(a <<< (1 : Nat)) ^^^ (135#64), (b <<< (1 : Nat)) ||| (a >>> (63 : Nat))])).toArray) agg39 siz39 (H13'.get (k := 0) rfl) (off := 0) rfl (by exact Nat.le_of_ble_eq_true rfl) (by exact ext_all rfl)) ?_
    refine d_store (k := 1) (v := .agg (cel E64 ([(a <<< (1 : Nat)) ^^^ (135#64), (b <<< (1 : Nat)) ||| (a >>> (63 : Nat))])).toArray) (cs' := (cel E64 ([(a <<< (1 : Nat)) ^^^ (135#64), (b <<< (1 : Nat)) ||| (a >>> (63 : Nat))])).toArray) H13' rfl rfl rfl siz39 (by exact celSize (by first | rfl | (show _ * 1 = _; omega))) (by exact celOne _) (by rw [List.size_toArray, cel_length]; show _ ≤ _ * 1; first | omega | (simp only [List.length_set]; omega) | exact Nat.le_of_ble_eq_true rfl | (simp <;> omega)) (by exact putAll (by first | rfl | omega | (simp <;> omega))) ?_
    intro w14 H15 _
    have H15' := H15.as (L' := [(some b7, .cells (cel E64 ([(a <<< (1 : Nat)) ^^^ (135#64), (b <<< (1 : Nat)) ||| (a >>> (63 : Nat))])).toArray 39 (0, 0)), (some b4, .cells (cel E64 ([(a <<< (1 : Nat)) ^^^ (135#64), (b <<< (1 : Nat)) ||| (a >>> (63 : Nat))])).toArray 39 (0, 0)), (some b1, .cells (cel E64 ([a, b])).toArray 39 (0, 0))]) rfl
    clear H15
    refine wend ?_
    refine retAny ?_
    refine retG (rs := [.cell 2 39]) (vs := [.agg (cel E64 ([(a <<< (1 : Nat)) ^^^ (135#64), (b <<< (1 : Nat)) ||| (a >>> (63 : Nat))])).toArray]) rfl ⟨r_loadA (cs' := (cel E64 ([(a <<< (1 : Nat)) ^^^ (135#64), (b <<< (1 : Nat)) ||| (a >>> (63 : Nat))])).toArray) agg39 siz39 (H15'.get (k := 1) rfl) (off := 0) rfl (by exact Nat.le_of_ble_eq_true rfl) (by exact ext_all rfl), trivial⟩ ?_
    have e : dbl a b = ((a <<< (1 : Nat)) ^^^ (135#64), (b <<< (1 : Nat)) ||| (a >>> (63 : Nat))) := by simp only [dbl]; first | rw [if_pos c] | rw [if_neg c]
    exact ⟨_, rfl, by rw [e]; rfl, H15'.chg⟩
  · skip
    refine skipAny ?_
    refine thenNormal ?_
    refine seqRegion ?_
    refine sq (r_loadA (cs' := (cel E64 ([a <<< (1 : Nat), (b <<< (1 : Nat)) ||| (a >>> (63 : Nat))])).toArray) agg39 siz39 (H11'.get (k := 0) rfl) (off := 0) rfl (by exact Nat.le_of_ble_eq_true rfl) (by exact ext_all rfl)) ?_
    refine d_store (k := 1) (v := .agg (cel E64 ([a <<< (1 : Nat), (b <<< (1 : Nat)) ||| (a >>> (63 : Nat))])).toArray) (cs' := (cel E64 ([a <<< (1 : Nat), (b <<< (1 : Nat)) ||| (a >>> (63 : Nat))])).toArray) H11' rfl rfl rfl siz39 (by exact celSize (by first | rfl | (show _ * 1 = _; omega))) (by exact celOne _) (by rw [List.size_toArray, cel_length]; show _ ≤ _ * 1; first | omega | (simp only [List.length_set]; omega) | exact Nat.le_of_ble_eq_true rfl | (simp <;> omega)) (by exact putAll (by first | rfl | omega | (simp <;> omega))) ?_
    intro w16 H17 _
    have H17' := H17.as (L' := [(some b7, .cells (cel E64 ([a <<< (1 : Nat), (b <<< (1 : Nat)) ||| (a >>> (63 : Nat))])).toArray 39 (0, 0)), (some b4, .cells (cel E64 ([a <<< (1 : Nat), (b <<< (1 : Nat)) ||| (a >>> (63 : Nat))])).toArray 39 (0, 0)), (some b1, .cells (cel E64 ([a, b])).toArray 39 (0, 0))]) rfl
    clear H17
    refine wend ?_
    refine retAny ?_
    refine retG (rs := [.cell 2 39]) (vs := [.agg (cel E64 ([a <<< (1 : Nat), (b <<< (1 : Nat)) ||| (a >>> (63 : Nat))])).toArray]) rfl ⟨r_loadA (cs' := (cel E64 ([a <<< (1 : Nat), (b <<< (1 : Nat)) ||| (a >>> (63 : Nat))])).toArray) agg39 siz39 (H17'.get (k := 1) rfl) (off := 0) rfl (by exact Nat.le_of_ble_eq_true rfl) (by exact ext_all rfl), trivial⟩ ?_
    have e : dbl a b = (a <<< (1 : Nat), (b <<< (1 : Nat)) ||| (a >>> (63 : Nat))) := by simp only [dbl]; first | rw [if_pos c] | rw [if_neg c]
    exact ⟨_, rfl, by rw [e]; rfl, H17'.chg⟩

theorem bytes_ok (a b : BitVec 64) (w : World) : Calls Try.prog 27 [.agg (cel E64 [a, b]).toArray].toArray w (Ret fun v w' => v = .agg (cel E8 (bytesS a b 16)).toArray ∧ Ext w w') := by
  have H := Hp.start No w
  refine enter (n := 21) Try.func27 rfl rfl (Nat.le_of_ble_eq_true rfl) ?_
  refine seqRegion ?_
  refine q_box (v := .agg (cel E64 [a, b]).toArray) (o := .cells (cel E64 ([a, b])).toArray 39 (0, 0)) H rfl (by rfl) ?_
  intro b1 w2 hb1 H3 _
  refine q_alloc (o := .cells (cel E8 (List.replicate 16 0#8)).toArray 22 (0, 0)) H3 zer22 (by kernel_rfl) ?_
  intro b4 w5 hb4 H6 _
  refine wend ?_
  refine seqRegion ?_
  refine q_alloc (o := .cells (cel E8 (List.replicate 16 0#8)).toArray 22 (0, 0)) H6 zer22 (by kernel_rfl) ?_
  intro b7 w8 hb7 H9 _
  refine wend ?_
  refine seqAny ?_
  refine seqRegion ?_
  refine sq (r_move (v := i64 ((0 : Int))) rfl) ?_
  refine wend ?_
  refine blockAny ?_
  refine loopAny (σ := Nat) (fun k => [(1, .pointer (some ⟨b1, 0, none⟩)), (2, .pointer (some ⟨b4, 0, none⟩)), (3, .pointer (some ⟨b7, 0, none⟩)), (5, i64 ((k : Nat)))]) (fun k w' => k ≤ 16 ∧ Hp No w w' [(some b7, .cells (cel E8 (bytesS a b k)).toArray 22 (0, 0)), (some b4, .cells (cel E8 (List.replicate 16 0#8)).toArray 22 (0, 0)), (some b1, .cells (cel E64 ([a, b])).toArray 39 (0, 0))]) (fun k => 16 - k) (0) ?_ ?_ ?_
  · exact ⟨rfl, rfl, rfl, rfl, trivial⟩
  · exact ⟨by omega, H9⟩
  rintro k ρ w10 ⟨hk, H11⟩
  have hl := bytesS_len a b k
  refine seqRegion ?_
  refine sq (r_lssI (a := (k : Nat)) (b := (16 : Int)) rfl rfl) ?_
  refine wend ?_
  refine seqAny ?_
  refine condProp ((k : Nat) < (16 : Int)) rfl (fun hk6 => ?_) (fun hk6 => ?_)
  · skip
    refine skipAny ?_
    refine thenNormal ?_
    refine seqAny ?_
    refine blockAny ?_
    refine seqRegion ?_
    refine sq (r_move (v := i64 ((k : Nat))) rfl) ?_
    refine sq (r_assign (v := i64 ((k : Nat))) rfl) ?_
    refine wend ?_
    refine oneRegion ?_
    refine sq (r_move (v := i64 ((k : Nat))) rfl) ?_
    refine sq (r_move (v := i64 ((k : Nat))) rfl) ?_
    refine sq (r_quoI (a := (k : Nat)) (b := (8 : Int)) rfl rfl (by omega)) ?_
    refine sq (r_indexA (off' := k / 8) (j := k / 8) arr39 (b := b1) (off := 0) rfl rfl (by first | rfl | omega | (simp; omega)) (by omega) (by omega)) ?_
    refine sq (r_ld1 (E := E64) (l := [a, b]) (j := k / 8) (a := ([a, b].getD (k / 8) 0#64)) fits34 (H11.get (k := 2) rfl) (at_getD (by simp; omega)) rfl rfl) ?_
    refine sq (r_move (v := i64 ((k : Nat))) rfl) ?_
    refine sq (r_remI (a := (k : Nat)) (b := (8 : Int)) rfl rfl (by omega)) ?_
    refine sq (r_mulI (a := (8 : Int)) (b := (k : Nat) % (8 : Int)) rfl rfl (by omega)) ?_
    refine sq (r_shr64 (a := ([a, b].getD (k / 8) 0#64)) (c := 8 * (k % 8)) rfl rfl) ?_
    refine sq (r_64to8 und34 und5 (a := ([a, b].getD (k / 8) 0#64) >>> (8 * (k % 8) : Nat)) rfl) ?_
    refine sq (r_indexA (off' := k) (j := k) arr22 (b := b7) (off := 0) rfl rfl (by first | rfl | omega | (simp; omega)) (by omega) (by omega)) ?_
    refine d_store (k := 0) (v := u8 ((([a, b].getD (k / 8) 0#64) >>> (8 * (k % 8) : Nat)).setWidth 8)) (cs' := (cel E8 ((bytesS a b k).set k ((([a, b].getD (k / 8) 0#64) >>> (8 * (k % 8) : Nat)).setWidth 8))).toArray) H11 rfl rfl rfl siz5 (by rfl) (by exact E8.one _) (by rw [List.size_toArray, cel_length]; show _ ≤ _ * 1; first | omega | (simp only [List.length_set]; omega) | exact Nat.le_of_ble_eq_true rfl | (simp <;> omega)) (by exact put1 (E := E8) rfl _ _ _) ?_
    intro w12 H13 _
    have H13' := H13.as (L' := [(some b7, .cells (cel E8 ((bytesS a b k).set k ((([a, b].getD (k / 8) 0#64) >>> (8 * (k % 8) : Nat)).setWidth 8))).toArray 22 (0, 0)), (some b4, .cells (cel E8 (List.replicate 16 0#8)).toArray 22 (0, 0)), (some b1, .cells (cel E64 ([a, b])).toArray 39 (0, 0))]) rfl
    clear H13
    refine wnil ?_
    refine blockNormal ?_
    refine thenNormal ?_
    refine oneRegion ?_
    refine sq (r_addI (a := (k : Nat)) (b := (1 : Int)) rfl rfl (by omega)) ?_
    refine sq (r_move (v := i64 ((k : Nat) + (1 : Int))) rfl) ?_
    refine wnil ?_
    refine thenNormal ?_
    exact ⟨k + 1, _, rfl, ⟨rfl, rfl, rfl, rfl, trivial⟩, ⟨by omega, H13'⟩, by show 16 - (k + 1) < 16 - k; omega⟩
  · skip
    obtain rfl : k = 16 := by omega
    have H14 := H11.as (L' := [(some b7, .cells (cel E8 (bytesS a b 16)).toArray 22 (0, 0)), (some b4, .cells (cel E8 (List.replicate 16 0#8)).toArray 22 (0, 0)), (some b1, .cells (cel E64 ([a, b])).toArray 39 (0, 0))]) (rfl)
    refine exitAny ?_
    refine thenExit ?_
    refine thenExit ?_
    refine blockHere ?_
    refine thenNormal ?_
    refine seqRegion ?_
    refine sq (r_loadA (cs' := (cel E8 (bytesS a b 16)).toArray) agg22 siz22 (H14.get (k := 0) rfl) (off := 0) rfl (by rw [List.size_toArray, cel_length]; show _ ≤ _ * 1; omega) (by exact ext_all (by rw [cel_length, bytesS_len]; rfl))) ?_
    refine d_store (k := 1) (v := .agg (cel E8 (bytesS a b 16)).toArray) (cs' := (cel E8 (bytesS a b 16)).toArray) H14 rfl rfl rfl siz22 (by exact celSize (by rw [bytesS_len]; rfl)) (by exact celOne _) (by rw [List.size_toArray, cel_length]; show _ ≤ _ * 1; first | omega | (simp only [List.length_set]; omega) | exact Nat.le_of_ble_eq_true rfl | (simp <;> omega)) (by exact putAll (by rw [bytesS_len]; rfl)) ?_
    intro w15 H16 _
    have H16' := H16.as (L' := [(some b7, .cells (cel E8 (bytesS a b 16)).toArray 22 (0, 0)), (some b4, .cells (cel E8 (bytesS a b 16)).toArray 22 (0, 0)), (some b1, .cells (cel E64 ([a, b])).toArray 39 (0, 0))]) rfl
    clear H16
    refine wend ?_
    refine retAny ?_
    refine retG (rs := [.cell 2 22]) (vs := [.agg (cel E8 (bytesS a b 16)).toArray]) rfl ⟨r_loadA (cs' := (cel E8 (bytesS a b 16)).toArray) agg22 siz22 (H16'.get (k := 1) rfl) (off := 0) rfl (by rw [List.size_toArray, cel_length, bytesS_len]; decide) (by exact ext_all (by rw [cel_length, bytesS_len]; rfl)), trivial⟩ ?_
    exact ⟨_, rfl, rfl, H16'.chg⟩

theorem label_ok (l : List By) (hl : l.length = 16) (w : World) : Calls Try.prog 28 [.agg (cel E8 l).toArray].toArray w (Ret fun v w' => v = .agg (cel E64 (labelS l 16)).toArray ∧ Ext w w') := by
  have H := Hp.start No w
  refine enter (n := 25) Try.func28 rfl rfl (Nat.le_of_ble_eq_true rfl) ?_
  refine seqRegion ?_
  refine q_box (v := .agg (cel E8 l).toArray) (o := .cells (cel E8 l).toArray 22 (0, 0)) H rfl (by rfl) ?_
  intro b1 w2 hb1 H3 _
  refine q_alloc (o := .cells (cel E64 ([0#64, 0#64])).toArray 39 (0, 0)) H3 zer39 (by kernel_rfl) ?_
  intro b4 w5 hb4 H6 _
  refine wend ?_
  refine seqRegion ?_
  refine q_alloc (o := .cells (cel E64 ([0#64, 0#64])).toArray 39 (0, 0)) H6 zer39 (by kernel_rfl) ?_
  intro b7 w8 hb7 H9 _
  refine wend ?_
  refine seqAny ?_
  refine seqRegion ?_
  refine sq (r_loadA (cs' := (cel E8 l).toArray) agg22 siz22 (H9.get (k := 2) rfl) (off := 0) rfl (by rw [List.size_toArray, cel_length]; show _ ≤ _ * 1; omega) (by exact ext_all (by rw [cel_length]; show _ * 1 = _; omega))) ?_
  refine sq (r_move (v := i64 ((0 : Int))) rfl) ?_
  refine wend ?_
  refine blockAny ?_
  refine loopAny (σ := Nat) (fun k => [(2, .pointer (some ⟨b4, 0, none⟩)), (3, .pointer (some ⟨b7, 0, none⟩)), (6, .agg (cel E8 l).toArray), (7, i64 ((k : Nat)))]) (fun k w' => k ≤ 16 ∧ Hp No w w' [(some b7, .cells (cel E64 (labelS l k)).toArray 39 (0, 0)), (some b4, .cells (cel E64 ([0#64, 0#64])).toArray 39 (0, 0)), (some b1, .cells (cel E8 l).toArray 22 (0, 0))]) (fun k => 16 - k) (0) ?_ ?_ ?_
  · exact ⟨rfl, rfl, rfl, rfl, trivial⟩
  · exact ⟨by omega, H9⟩
  rintro k ρ w10 ⟨hk, H11⟩
  have hL := labelS_len l k
  refine seqRegion ?_
  refine sq (r_lssI (a := (k : Nat)) (b := (16 : Int)) rfl rfl) ?_
  refine wend ?_
  refine seqAny ?_
  refine condProp ((k : Nat) < (16 : Int)) rfl (fun hk8 => ?_) (fun hk8 => ?_)
  · skip
    refine skipAny ?_
    refine thenNormal ?_
    refine seqAny ?_
    refine blockAny ?_
    refine seqRegion ?_
    refine sq (r_move (v := i64 ((k : Nat))) rfl) ?_
    refine sq (r_idxE (E := E8) (l := l) (j := k) (a := l.getD k 0#8) rfl und22 one5 siz5 rfl rfl (by first | rfl | omega | (simp; omega)) (by omega) (by exact at_getD (by omega)) (fun _ => rfl)) ?_
    refine sq (r_assign (v := i64 ((k : Nat))) rfl) ?_
    refine sq (r_assign (v := u8 (l.getD k 0#8)) rfl) ?_
    refine wend ?_
    refine drawAny (K := [none, none, none, none, none, none, none, none, none, none, none, none]) [0, 1, 3, 7, 0, 16, 0, 64, 192, 496, 1023, 2047, 4095] (fun w' => Ext w10 w') (fun w' w'' => Ext w' w'') mixed (by kernel_rfl) (Ext.drew _) (fun _ _ h h' => h.trans h') ?_ ?_
    · exact relNone (by decide)
    refine ⟨i64 ((k : Nat)), fun _ uw12 hC13 _ => Gives.run rfl (r_move (v := i64 ((k : Nat))) rfl) ⟨rfl, Chg.refl _ _⟩, ?_⟩
    refine ⟨i64 ((k : Nat) / (8 : Int)), fun _ uw14 hC15 _ => Gives.run rfl (r_quoI (a := (k : Nat)) (b := (8 : Int)) rfl rfl (by omega)) ⟨rfl, Chg.refl _ _⟩, ?_⟩
    refine ⟨.pointer (some ⟨b7, k / 8, none⟩), fun _ uw16 hC17 _ => Gives.run rfl (r_indexA (off' := k / 8) (j := k / 8) arr39 (b := b7) (off := 0) rfl rfl (by first | rfl | omega | (simp; omega)) (by omega) (by omega)) ⟨rfl, Chg.refl _ _⟩, ?_⟩
    refine ⟨u64 ((labelS l k).getD (k / 8) 0#64), fun _ uw18 hC19 _ => Gives.run rfl (r_ld1 (E := E64) (l := labelS l k) (j := k / 8) (a := (labelS l k).getD (k / 8) 0#64) fits34 ((H11.ext hC19).get (k := 0) rfl) (at_getD (by first | omega | (simp only [List.length_set]; omega) | exact Nat.le_of_ble_eq_true rfl | (simp <;> omega))) rfl rfl) ⟨rfl, Chg.refl _ _⟩, ?_⟩
    refine ⟨u8 (l.getD k 0#8), fun _ uw20 hC21 _ => Gives.run rfl (r_move (v := u8 (l.getD k 0#8)) rfl) ⟨rfl, Chg.refl _ _⟩, ?_⟩
    refine ⟨u64 ((l.getD k 0#8).setWidth 64), fun _ uw22 hC23 _ => Gives.run rfl (r_8to64 und5 und34 (a := l.getD k 0#8) rfl) ⟨rfl, Chg.refl _ _⟩, ?_⟩
    refine ⟨i64 ((k : Nat)), fun _ uw24 hC25 _ => Gives.run rfl (r_move (v := i64 ((k : Nat))) rfl) ⟨rfl, Chg.refl _ _⟩, ?_⟩
    refine ⟨i64 ((k : Nat) % (8 : Int)), fun _ uw26 hC27 _ => Gives.run rfl (r_remI (a := (k : Nat)) (b := (8 : Int)) rfl rfl (by omega)) ⟨rfl, Chg.refl _ _⟩, ?_⟩
    refine ⟨i64 ((8 : Int) * ((k : Nat) % (8 : Int))), fun _ uw28 hC29 _ => Gives.run rfl (r_mulI (a := (8 : Int)) (b := (k : Nat) % (8 : Int)) rfl rfl (by omega)) ⟨rfl, Chg.refl _ _⟩, ?_⟩
    refine ⟨u64 (((l.getD k 0#8).setWidth 64) <<< (8 * (k % 8) : Nat)), fun _ uw30 hC31 _ => Gives.run rfl (r_shl64 (a := (l.getD k 0#8).setWidth 64) (c := 8 * (k % 8)) rfl rfl) ⟨rfl, Chg.refl _ _⟩, ?_⟩
    refine ⟨u64 (((labelS l k).getD (k / 8) 0#64) ||| (((l.getD k 0#8).setWidth 64) <<< (8 * (k % 8) : Nat))), fun _ uw32 hC33 _ => Gives.run rfl (r_or64 (a := (labelS l k).getD (k / 8) 0#64) (b := ((l.getD k 0#8).setWidth 64) <<< (8 * (k % 8) : Nat)) rfl rfl) ⟨rfl, Chg.refl _ _⟩, ?_⟩
    refine ⟨.pointer (some ⟨b7, k / 8, none⟩), fun _ uw34 hC35 _ => Gives.run rfl (r_indexA (off' := k / 8) (j := k / 8) arr39 (b := b7) (off := 0) rfl rfl (by first | rfl | omega | (simp; omega)) (by omega) (by omega)) ⟨rfl, Chg.refl _ _⟩, ?_⟩
    intro r39 w36 hE38 hF
    have H37 := H11.ext hE38
    refine d_store (k := 0) (v := u64 (((labelS l k).getD (k / 8) 0#64) ||| (((l.getD k 0#8).setWidth 64) <<< (8 * (k % 8) : Nat)))) (cs' := (cel E64 ((labelS l k).set (k / 8) (((labelS l k).getD (k / 8) 0#64) ||| (((l.getD k 0#8).setWidth 64) <<< (8 * (k % 8) : Nat))))).toArray) H37 rfl rfl rfl siz34 (by rfl) (by exact E64.one _) (by rw [List.size_toArray, cel_length]; show _ ≤ _ * 1; first | omega | (simp only [List.length_set]; omega) | exact Nat.le_of_ble_eq_true rfl | (simp <;> omega)) (by exact put1 (E := E64) rfl _ _ _) ?_
    intro w40 H41 _
    have H41' := H41.as (L' := [(some b7, .cells (cel E64 ((labelS l k).set (k / 8) (((labelS l k).getD (k / 8) 0#64) ||| (((l.getD k 0#8).setWidth 64) <<< (8 * (k % 8) : Nat))))).toArray 39 (0, 0)), (some b4, .cells (cel E64 ([0#64, 0#64])).toArray 39 (0, 0)), (some b1, .cells (cel E8 l).toArray 22 (0, 0))]) rfl
    clear H41
    refine wnil ?_
    refine blockNormal ?_
    refine thenNormal ?_
    refine oneRegion ?_
    refine sq (r_addI (a := (k : Nat)) (b := (1 : Int)) rfl rfl (by omega)) ?_
    refine sq (r_move (v := i64 ((k : Nat) + (1 : Int))) rfl) ?_
    refine wnil ?_
    refine thenNormal ?_
    exact ⟨k + 1, _, rfl, ⟨rfl, rfl, rfl, rfl, trivial⟩, ⟨by omega, H41'⟩, by show 16 - (k + 1) < 16 - k; omega⟩
  · skip
    obtain rfl : k = 16 := by omega
    have H42 := H11.as (L' := [(some b7, .cells (cel E64 (labelS l 16)).toArray 39 (0, 0)), (some b4, .cells (cel E64 ([0#64, 0#64])).toArray 39 (0, 0)), (some b1, .cells (cel E8 l).toArray 22 (0, 0))]) (rfl)
    refine exitAny ?_
    refine thenExit ?_
    refine thenExit ?_
    refine blockHere ?_
    refine thenNormal ?_
    refine seqRegion ?_
    refine sq (r_loadA (cs' := (cel E64 (labelS l 16)).toArray) agg39 siz39 (H42.get (k := 0) rfl) (off := 0) rfl (by rw [List.size_toArray, cel_length, labelS_len]; decide) (by exact ext_all (by rw [cel_length, labelS_len]; rfl))) ?_
    refine d_store (k := 1) (v := .agg (cel E64 (labelS l 16)).toArray) (cs' := (cel E64 (labelS l 16)).toArray) H42 rfl rfl rfl siz39 (by exact celSize (by rw [labelS_len]; rfl)) (by exact celOne _) (by rw [List.size_toArray, cel_length]; show _ ≤ _ * 1; first | omega | (simp only [List.length_set]; omega) | exact Nat.le_of_ble_eq_true rfl | (simp <;> omega)) (by exact putAll (by rw [labelS_len]; rfl)) ?_
    intro w43 H44 _
    have H44' := H44.as (L' := [(some b7, .cells (cel E64 (labelS l 16)).toArray 39 (0, 0)), (some b4, .cells (cel E64 (labelS l 16)).toArray 39 (0, 0)), (some b1, .cells (cel E8 l).toArray 22 (0, 0))]) rfl
    clear H44
    refine wend ?_
    refine retAny ?_
    refine retG (rs := [.cell 2 39]) (vs := [.agg (cel E64 (labelS l 16)).toArray]) rfl ⟨r_loadA (cs' := (cel E64 (labelS l 16)).toArray) agg39 siz39 (H44'.get (k := 1) rfl) (off := 0) rfl (by rw [List.size_toArray, cel_length, labelS_len]; decide) (by exact ext_all (by rw [cel_length, labelS_len]; rfl)), trivial⟩ ?_
    exact ⟨_, rfl, rfl, H44'.chg⟩

theorem mix_ok (b : Nat) (l : List By) (hn : l.length = 16) (w : World) (hb : w.heap[b]? = some (.cells (cel E8 l).toArray 22 (0, 0))) : Calls Try.prog 22 [.pointer (some ⟨b, 0, none⟩)].toArray w (Ret fun v w' => v = .tuple #[] ∧ Chg (· = b) w w' ∧ w'.heap[b]? = some (.cells (cel E8 (mixL l)).toArray 22 (0, 0))) := by
  have H := Hp.start1 (M := (· = b)) rfl hb
  refine enter (n := 55) Try.func22 rfl rfl (Nat.le_of_ble_eq_true rfl) ?_
  refine seqRegion ?_
  refine sq (r_assign (v := i64 ((0 : Int))) rfl) ?_
  refine wend ?_
  refine blockAny ?_
  refine loopAny (σ := Nat) (fun k => [(0, .pointer (some ⟨b, 0, none⟩)), (2, i64 ((4 * k : Nat)))]) (fun k w' => k ≤ 4 ∧ Hp (· = b) w w' [(some b, .cells (cel E8 (mixS l k)).toArray 22 (0, 0))]) (fun k => 4 - k) (0) ?_ ?_ ?_
  · exact ⟨rfl, rfl, trivial⟩
  · exact ⟨by omega, H⟩
  rintro k ρ w1 ⟨hk, H2⟩
  have hl := mixS_len l k
  rw [hn] at hl
  have h4 : (mixS l k).length = 16 := hl
  refine seqAny ?_
  refine seqRegion ?_
  refine sq (r_move (v := i64 ((4 * k : Nat))) rfl) ?_
  refine sq (r_lssI (a := (4 * k : Nat)) (b := (16 : Int)) rfl rfl) ?_
  refine wend ?_
  refine condProp ((4 * k : Nat) < (16 : Int)) rfl (fun hk7 => ?_) (fun hk7 => ?_)
  · skip
    refine skipAny ?_
    refine thenNormal ?_
    refine seqAny ?_
    refine blockAny ?_
    refine seqRegion ?_
    refine sq (r_move (v := .pointer (some ⟨b, 0, none⟩)) rfl) ?_
    refine sq (r_nilCheck rfl) ?_
    refine sq (r_move (v := i64 ((4 * k : Nat))) rfl) ?_
    refine sq (r_move (v := i64 ((4 * k : Nat))) rfl) ?_
    refine sq (r_addI (a := (4 * k : Nat)) (b := (4 : Int)) rfl rfl (by omega)) ?_
    refine sq (r_sliceA (l := 4 * k) (h := (4 * k) + 4) (l' := 4 * k) (h' := 4) arr22 (b := b) (off := 0) rfl rfl rfl (by first | rfl | omega | (simp; omega)) (by first | rfl | omega | (simp; omega)) (by omega) (by omega) (by omega) (by omega) (by omega)) ?_
    refine sq (r_arrPtr arr52 rfl (by omega)) ?_
    refine sq (r_loadA (cs' := (cel E8 (((mixS l k).drop (4 * k)).take 4)).toArray) agg52 siz52 (H2.get (k := 0) rfl) (off := 4 * k) rfl (by rw [List.size_toArray, cel_length]; show _ ≤ _ * 1; omega) (by exact ext_mid _ _ _ rfl)) ?_
    refine q_alloc (o := .cells (cel E8 ([0#8, 0#8, 0#8, 0#8])).toArray 52 (0, 0)) H2 zer52 (by kernel_rfl) ?_
    intro b3 w4 hb3 H5 _
    refine d_store (k := 0) (v := .agg (cel E8 (((mixS l k).drop (4 * k)).take 4)).toArray) (cs' := (cel E8 (mixA (mixS l k) (4 * k))).toArray) H5 rfl rfl rfl siz52 (by exact celSize (by simp [h4, E8]; omega)) (by exact celOne _) (by exact Nat.le_of_ble_eq_true rfl) (by exact putAll (by simp [h4]; omega)) ?_
    intro w6 H7 _
    have H7' := H7.as (L' := [(some b3, .cells (cel E8 (mixA (mixS l k) (4 * k))).toArray 52 (0, 0)), (some b, .cells (cel E8 (mixS l k)).toArray 22 (0, 0))]) rfl
    clear H7
    refine wend ?_
    refine seqRegion ?_
    have hA : (mixA (mixS l k) (4 * k)).length = 4 := by simp [mixA, h4]; omega
    refine sq (r_indexA (off' := 0) (j := 0) arr52 (b := b3) (off := 0) rfl rfl (by first | rfl | omega | (simp; omega)) (by omega) (by omega)) ?_
    refine sq (r_ld1 (E := E8) (l := mixA (mixS l k) (4 * k)) (j := 0) (a := (mixA (mixS l k) (4 * k)).getD 0 0#8) fits5 (H7'.get (k := 0) rfl) (at_getD (by first | omega | (simp only [List.length_set]; omega) | exact Nat.le_of_ble_eq_true rfl | (simp <;> omega))) rfl rfl) ?_
    refine sq (r_indexA (off' := 1) (j := 1) arr52 (b := b3) (off := 0) rfl rfl (by first | rfl | omega | (simp; omega)) (by omega) (by omega)) ?_
    refine sq (r_ld1 (E := E8) (l := mixA (mixS l k) (4 * k)) (j := 1) (a := (mixA (mixS l k) (4 * k)).getD 1 0#8) fits5 (H7'.get (k := 0) rfl) (at_getD (by first | omega | (simp only [List.length_set]; omega) | exact Nat.le_of_ble_eq_true rfl | (simp <;> omega))) rfl rfl) ?_
    refine sq (r_xor8 (a := (mixA (mixS l k) (4 * k)).getD 0 0#8) (b := (mixA (mixS l k) (4 * k)).getD 1 0#8) rfl rfl) ?_
    refine sq (r_indexA (off' := 2) (j := 2) arr52 (b := b3) (off := 0) rfl rfl (by first | rfl | omega | (simp; omega)) (by omega) (by omega)) ?_
    refine sq (r_ld1 (E := E8) (l := mixA (mixS l k) (4 * k)) (j := 2) (a := (mixA (mixS l k) (4 * k)).getD 2 0#8) fits5 (H7'.get (k := 0) rfl) (at_getD (by first | omega | (simp only [List.length_set]; omega) | exact Nat.le_of_ble_eq_true rfl | (simp <;> omega))) rfl rfl) ?_
    refine sq (r_xor8 (a := ((mixA (mixS l k) (4 * k)).getD 0 0#8) ^^^ ((mixA (mixS l k) (4 * k)).getD 1 0#8)) (b := (mixA (mixS l k) (4 * k)).getD 2 0#8) rfl rfl) ?_
    refine sq (r_indexA (off' := 3) (j := 3) arr52 (b := b3) (off := 0) rfl rfl (by first | rfl | omega | (simp; omega)) (by omega) (by omega)) ?_
    refine sq (r_ld1 (E := E8) (l := mixA (mixS l k) (4 * k)) (j := 3) (a := (mixA (mixS l k) (4 * k)).getD 3 0#8) fits5 (H7'.get (k := 0) rfl) (at_getD (by first | omega | (simp only [List.length_set]; omega) | exact Nat.le_of_ble_eq_true rfl | (simp <;> omega))) rfl rfl) ?_
    refine sq (r_xor8 (a := (((mixA (mixS l k) (4 * k)).getD 0 0#8) ^^^ ((mixA (mixS l k) (4 * k)).getD 1 0#8)) ^^^ ((mixA (mixS l k) (4 * k)).getD 2 0#8)) (b := (mixA (mixS l k) (4 * k)).getD 3 0#8) rfl rfl) ?_
    refine sq (r_assign (v := u8 (((((mixA (mixS l k) (4 * k)).getD 0 0#8) ^^^ ((mixA (mixS l k) (4 * k)).getD 1 0#8)) ^^^ ((mixA (mixS l k) (4 * k)).getD 2 0#8)) ^^^ ((mixA (mixS l k) (4 * k)).getD 3 0#8))) rfl) ?_
    refine wend ?_
    refine seqRegion ?_
    refine sq (r_move (v := i64 ((0 : Int))) rfl) ?_
    refine wend ?_
    refine blockAny ?_
    refine loopAny (σ := Nat) (fun r => [(0, .pointer (some ⟨b, 0, none⟩)), (2, i64 ((4 * k : Nat))), (3, .pointer (some ⟨b3, 0, none⟩)), (4, u8 (allOf (mixA (mixS l k) (4 * k)))), (29, i64 ((r : Nat)))]) (fun r w' => r ≤ 4 ∧ Hp (· = b) w w' [(some b3, .cells (cel E8 (mixA (mixS l k) (4 * k))).toArray 52 (0, 0)), (some b, .cells (cel E8 (mixI (mixA (mixS l k) (4 * k)) (allOf (mixA (mixS l k) (4 * k))) (mixS l k) (4 * k) r)).toArray 22 (0, 0))]) (fun r => 4 - r) (0) ?_ ?_ ?_
    · exact ⟨rfl, rfl, rfl, rfl, rfl, trivial⟩
    · exact ⟨by omega, H7'⟩
    rintro r ρ w8 ⟨hr, H9⟩
    have hm := mixI_len (mixA (mixS l k) (4 * k)) (allOf (mixA (mixS l k) (4 * k))) (mixS l k) (4 * k) r
    rw [h4] at hm
    refine seqRegion ?_
    refine sq (r_lssI (a := (r : Nat)) (b := (4 : Int)) rfl rfl) ?_
    refine wend ?_
    refine seqAny ?_
    refine condProp ((r : Nat) < (4 : Int)) rfl (fun hr30 => ?_) (fun hr30 => ?_)
    · skip
      refine skipAny ?_
      refine thenNormal ?_
      refine seqAny ?_
      refine blockAny ?_
      refine seqRegion ?_
      refine sq (r_move (v := i64 ((r : Nat))) rfl) ?_
      refine sq (r_assign (v := i64 ((r : Nat))) rfl) ?_
      refine wend ?_
      refine drawAny (K := [none, none, none, none, none, none, none, none, none, none, none, none, none, none, none, none, none, none, none, none, none, none]) [0, 0, 0, 6, 1, 31, 63, 0, 0, 256, 768, 0, 2048, 6144, 14336, 30720, 65280, 130816, 262016, 524287, 1, 2097151, 4194303] (fun w' => Ext w8 w') (fun w' w'' => Ext w' w'') mixed (by kernel_rfl) (Ext.drew _) (fun _ _ h h' => h.trans h') ?_ ?_
      · exact relNone (by decide)
      refine ⟨.pointer (some ⟨b, 0, none⟩), fun _ uw10 hC11 _ => Gives.run rfl (r_move (v := .pointer (some ⟨b, 0, none⟩)) rfl) ⟨rfl, Chg.refl _ _⟩, ?_⟩
      refine ⟨i64 ((4 * k : Nat)), fun _ uw12 hC13 _ => Gives.run rfl (r_move (v := i64 ((4 * k : Nat))) rfl) ⟨rfl, Chg.refl _ _⟩, ?_⟩
      refine ⟨i64 ((r : Nat)), fun _ uw14 hC15 _ => Gives.run rfl (r_move (v := i64 ((r : Nat))) rfl) ⟨rfl, Chg.refl _ _⟩, ?_⟩
      refine ⟨i64 ((4 * k : Nat) + (r : Nat)), fun _ uw16 hC17 _ => Gives.run rfl (r_addI (a := (4 * k : Nat)) (b := (r : Nat)) rfl rfl (by omega)) ⟨rfl, Chg.refl _ _⟩, ?_⟩
      refine ⟨.pointer (some ⟨b, 0, none⟩), fun _ uw18 hC19 _ => Gives.run rfl (r_nilCheck rfl) ⟨rfl, Chg.refl _ _⟩, ?_⟩
      refine ⟨.pointer (some ⟨b, (4 * k) + r, none⟩), fun _ uw20 hC21 _ => Gives.run rfl (r_indexA (off' := (4 * k) + r) (j := (4 * k) + r) arr22 (b := b) (off := 0) rfl rfl (by first | rfl | omega | (simp; omega)) (by omega) (by omega)) ⟨rfl, Chg.refl _ _⟩, ?_⟩
      refine ⟨u8 (((mixI (mixA (mixS l k) (4 * k)) (allOf (mixA (mixS l k) (4 * k))) (mixS l k) (4 * k) r)).getD ((4 * k) + r) 0#8), fun _ uw22 hC23 _ => Gives.run rfl (r_ld1 (E := E8) (l := (mixI (mixA (mixS l k) (4 * k)) (allOf (mixA (mixS l k) (4 * k))) (mixS l k) (4 * k) r)) (j := (4 * k) + r) (a := ((mixI (mixA (mixS l k) (4 * k)) (allOf (mixA (mixS l k) (4 * k))) (mixS l k) (4 * k) r)).getD ((4 * k) + r) 0#8) fits5 ((H9.ext hC23).get (k := 1) rfl) (at_getD (by first | omega | (simp only [List.length_set]; omega) | exact Nat.le_of_ble_eq_true rfl | (simp <;> omega))) rfl rfl) ⟨rfl, Chg.refl _ _⟩, ?_⟩
      refine ⟨u8 (allOf (mixA (mixS l k) (4 * k))), fun _ uw24 hC25 _ => Gives.run rfl (r_move (v := u8 (allOf (mixA (mixS l k) (4 * k)))) rfl) ⟨rfl, Chg.refl _ _⟩, ?_⟩
      refine ⟨i64 ((r : Nat)), fun _ uw26 hC27 _ => Gives.run rfl (r_move (v := i64 ((r : Nat))) rfl) ⟨rfl, Chg.refl _ _⟩, ?_⟩
      refine ⟨.pointer (some ⟨b3, r, none⟩), fun _ uw28 hC29 _ => Gives.run rfl (r_indexA (off' := r) (j := r) arr52 (b := b3) (off := 0) rfl rfl (by first | rfl | omega | (simp; omega)) (by omega) (by omega)) ⟨rfl, Chg.refl _ _⟩, ?_⟩
      refine ⟨u8 ((mixA (mixS l k) (4 * k)).getD r 0#8), fun _ uw30 hC31 _ => Gives.run rfl (r_ld1 (E := E8) (l := mixA (mixS l k) (4 * k)) (j := r) (a := (mixA (mixS l k) (4 * k)).getD r 0#8) fits5 ((H9.ext hC31).get (k := 0) rfl) (at_getD (by first | omega | (simp only [List.length_set]; omega) | exact Nat.le_of_ble_eq_true rfl | (simp <;> omega))) rfl rfl) ⟨rfl, Chg.refl _ _⟩, ?_⟩
      refine ⟨i64 ((r : Nat)), fun _ uw32 hC33 _ => Gives.run rfl (r_move (v := i64 ((r : Nat))) rfl) ⟨rfl, Chg.refl _ _⟩, ?_⟩
      refine ⟨i64 ((r : Nat) + (1 : Int)), fun _ uw34 hC35 _ => Gives.run rfl (r_addI (a := (r : Nat)) (b := (1 : Int)) rfl rfl (by omega)) ⟨rfl, Chg.refl _ _⟩, ?_⟩
      refine ⟨i64 (((r : Nat) + (1 : Int)) % (4 : Int)), fun _ uw36 hC37 _ => Gives.run rfl (r_remI (a := (r : Nat) + (1 : Int)) (b := (4 : Int)) rfl rfl (by omega)) ⟨rfl, Chg.refl _ _⟩, ?_⟩
      refine ⟨.pointer (some ⟨b3, (r + 1) % 4, none⟩), fun _ uw38 hC39 _ => Gives.run rfl (r_indexA (off' := (r + 1) % 4) (j := (r + 1) % 4) arr52 (b := b3) (off := 0) rfl rfl (by first | rfl | omega | (simp; omega)) (by omega) (by omega)) ⟨rfl, Chg.refl _ _⟩, ?_⟩
      refine ⟨u8 ((mixA (mixS l k) (4 * k)).getD ((r + 1) % 4) 0#8), fun _ uw40 hC41 _ => Gives.run rfl (r_ld1 (E := E8) (l := mixA (mixS l k) (4 * k)) (j := (r + 1) % 4) (a := (mixA (mixS l k) (4 * k)).getD ((r + 1) % 4) 0#8) fits5 ((H9.ext hC41).get (k := 0) rfl) (at_getD (by first | omega | (simp only [List.length_set]; omega) | exact Nat.le_of_ble_eq_true rfl | (simp <;> omega))) rfl rfl) ⟨rfl, Chg.refl _ _⟩, ?_⟩
      refine ⟨u8 (((mixA (mixS l k) (4 * k)).getD r 0#8) ^^^ ((mixA (mixS l k) (4 * k)).getD ((r + 1) % 4) 0#8)), fun _ uw42 hC43 _ => Gives.run rfl (r_xor8 (a := (mixA (mixS l k) (4 * k)).getD r 0#8) (b := (mixA (mixS l k) (4 * k)).getD ((r + 1) % 4) 0#8) rfl rfl) ⟨rfl, Chg.refl _ _⟩, ?_⟩
      refine ⟨u8 (xt (((mixA (mixS l k) (4 * k)).getD r 0#8) ^^^ ((mixA (mixS l k) (4 * k)).getD ((r + 1) % 4) 0#8))), fun _ uw44 hC45 _ => Gives.call rfl (Enters.callL (vs := [u8 (((mixA (mixS l k) (4 * k)).getD r 0#8) ^^^ ((mixA (mixS l k) (4 * k)).getD ((r + 1) % 4) 0#8))]) call21 rfl) (twice_ok (((mixA (mixS l k) (4 * k)).getD r 0#8) ^^^ ((mixA (mixS l k) (4 * k)).getD ((r + 1) % 4) 0#8)) uw44), ?_⟩
      refine ⟨u8 ((allOf (mixA (mixS l k) (4 * k))) ^^^ (xt (((mixA (mixS l k) (4 * k)).getD r 0#8) ^^^ ((mixA (mixS l k) (4 * k)).getD ((r + 1) % 4) 0#8)))), fun _ uw46 hC47 _ => Gives.run rfl (r_xor8 (a := allOf (mixA (mixS l k) (4 * k))) (b := xt (((mixA (mixS l k) (4 * k)).getD r 0#8) ^^^ ((mixA (mixS l k) (4 * k)).getD ((r + 1) % 4) 0#8))) rfl rfl) ⟨rfl, Chg.refl _ _⟩, ?_⟩
      refine ⟨u8 ((((mixI (mixA (mixS l k) (4 * k)) (allOf (mixA (mixS l k) (4 * k))) (mixS l k) (4 * k) r)).getD ((4 * k) + r) 0#8) ^^^ ((allOf (mixA (mixS l k) (4 * k))) ^^^ (xt (((mixA (mixS l k) (4 * k)).getD r 0#8) ^^^ ((mixA (mixS l k) (4 * k)).getD ((r + 1) % 4) 0#8))))), fun _ uw48 hC49 _ => Gives.run rfl (r_xor8 (a := ((mixI (mixA (mixS l k) (4 * k)) (allOf (mixA (mixS l k) (4 * k))) (mixS l k) (4 * k) r)).getD ((4 * k) + r) 0#8) (b := (allOf (mixA (mixS l k) (4 * k))) ^^^ (xt (((mixA (mixS l k) (4 * k)).getD r 0#8) ^^^ ((mixA (mixS l k) (4 * k)).getD ((r + 1) % 4) 0#8)))) rfl rfl) ⟨rfl, Chg.refl _ _⟩, ?_⟩
      refine ⟨.pointer (some ⟨b, 0, none⟩), fun _ uw50 hC51 _ => Gives.run rfl (r_nilCheck rfl) ⟨rfl, Chg.refl _ _⟩, ?_⟩
      refine ⟨.pointer (some ⟨b, (4 * k) + r, none⟩), fun _ uw52 hC53 _ => Gives.run rfl (r_indexA (off' := (4 * k) + r) (j := (4 * k) + r) arr22 (b := b) (off := 0) rfl rfl (by first | rfl | omega | (simp; omega)) (by omega) (by omega)) ⟨rfl, Chg.refl _ _⟩, ?_⟩
      intro r57 w54 hE56 hF
      have H55 := H9.ext hE56
      refine d_store (k := 1) (v := u8 ((((mixI (mixA (mixS l k) (4 * k)) (allOf (mixA (mixS l k) (4 * k))) (mixS l k) (4 * k) r)).getD ((4 * k) + r) 0#8) ^^^ ((allOf (mixA (mixS l k) (4 * k))) ^^^ (xt (((mixA (mixS l k) (4 * k)).getD r 0#8) ^^^ ((mixA (mixS l k) (4 * k)).getD ((r + 1) % 4) 0#8)))))) (cs' := (cel E8 ((mixI (mixA (mixS l k) (4 * k)) (allOf (mixA (mixS l k) (4 * k))) (mixS l k) (4 * k) r).set ((4 * k) + r) ((((mixI (mixA (mixS l k) (4 * k)) (allOf (mixA (mixS l k) (4 * k))) (mixS l k) (4 * k) r)).getD ((4 * k) + r) 0#8) ^^^ ((allOf (mixA (mixS l k) (4 * k))) ^^^ (xt (((mixA (mixS l k) (4 * k)).getD r 0#8) ^^^ ((mixA (mixS l k) (4 * k)).getD ((r + 1) % 4) 0#8))))))).toArray) H55 rfl rfl rfl siz5 (by rfl) (by exact E8.one _) (by rw [List.size_toArray, cel_length]; show _ ≤ _ * 1; first | omega | (simp only [List.length_set]; omega) | exact Nat.le_of_ble_eq_true rfl | (simp <;> omega)) (by exact put1 (E := E8) rfl _ _ _) ?_
      intro w58 H59 _
      have H59' := H59.as (L' := [(some b3, .cells (cel E8 (mixA (mixS l k) (4 * k))).toArray 52 (0, 0)), (some b, .cells (cel E8 ((mixI (mixA (mixS l k) (4 * k)) (allOf (mixA (mixS l k) (4 * k))) (mixS l k) (4 * k) r).set ((4 * k) + r) ((((mixI (mixA (mixS l k) (4 * k)) (allOf (mixA (mixS l k) (4 * k))) (mixS l k) (4 * k) r)).getD ((4 * k) + r) 0#8) ^^^ ((allOf (mixA (mixS l k) (4 * k))) ^^^ (xt (((mixA (mixS l k) (4 * k)).getD r 0#8) ^^^ ((mixA (mixS l k) (4 * k)).getD ((r + 1) % 4) 0#8))))))).toArray 22 (0, 0))]) rfl
      clear H59
      refine wnil ?_
      refine blockNormal ?_
      refine thenNormal ?_
      refine oneRegion ?_
      refine sq (r_addI (a := (r : Nat)) (b := (1 : Int)) rfl rfl (by omega)) ?_
      refine sq (r_move (v := i64 ((r : Nat) + (1 : Int))) rfl) ?_
      refine wnil ?_
      refine thenNormal ?_
      exact ⟨r + 1, _, rfl, ⟨rfl, rfl, rfl, rfl, rfl, trivial⟩, ⟨by omega, H59'⟩, by show 4 - (r + 1) < 4 - r; omega⟩
    · skip
      obtain rfl : r = 4 := by omega
      have H60 := H9.as (L' := [(some b3, .cells (cel E8 (mixA (mixS l k) (4 * k))).toArray 52 (0, 0)), (some b, .cells (cel E8 (mixS l (k + 1))).toArray 22 (0, 0))]) (rfl)
      refine exitAny ?_
      refine thenExit ?_
      refine thenExit ?_
      refine blockHere ?_
      refine blockNormal ?_
      refine thenNormal ?_
      refine oneRegion ?_
      refine sq (r_move (v := i64 ((4 * k : Nat))) rfl) ?_
      refine sq (r_addI (a := (4 * k : Nat)) (b := (4 : Int)) rfl rfl (by omega)) ?_
      refine sq (r_assign (v := i64 ((4 * k : Nat) + (4 : Int))) rfl) ?_
      refine wnil ?_
      refine thenNormal ?_
      exact ⟨k + 1, _, rfl, ⟨rfl, congrArg i64 (by omega), trivial⟩, ⟨by omega, H60.drop1⟩, by show 4 - (k + 1) < 4 - k; omega⟩
  · skip
    obtain rfl : k = 4 := by omega
    have H61 := H2.as (L' := [(some b, .cells (cel E8 (mixS l 4)).toArray 22 (0, 0))]) (rfl)
    refine exitAny ?_
    refine thenExit ?_
    refine thenExit ?_
    refine blockHere ?_
    refine endG (rs := []) (vs := []) rfl trivial ?_
    exact ⟨_, rfl, rfl, H61.chg, H61.get (k := 0) rfl⟩

theorem new_ok (key : List By) (hk : key.length = 16) (w : World) : Calls Try.prog 8 [.agg (cel E8 key).toArray].toArray w (Ret fun v w' => (∃ b, v = .pointer (some ⟨b, 0, none⟩) ∧ w.heap.size ≤ b ∧ w'.heap[b]? = some (.cells (cel E8 (cipher key)).toArray 50 (0, 0))) ∧ Ext w w') := by
  have H := Hp.start No w
  refine enter (n := 99) Try.func8 rfl rfl (Nat.le_of_ble_eq_true rfl) ?_
  refine seqRegion ?_
  refine q_box (v := .agg (cel E8 key).toArray) (o := .cells (cel E8 key).toArray 22 (0, 0)) H rfl (by rfl) ?_
  intro b1 w2 hb1 H3 _
  refine sq (r_assign (v := .pointer none) rfl) ?_
  refine wend ?_
  refine seqRegion ?_
  refine sq (r_build (cs' := (List.replicate 432 (.int .u8 0)).toArray) (ps := []) zer50 pls50 rfl (by rfl)) ?_
  refine q_box (v := .agg (List.replicate 432 (.int .u8 0)).toArray) (o := .cells (cel E8 (List.replicate 432 0#8)).toArray 50 (0, 0)) H3 rfl (by kernel_rfl) ?_
  intro b4 w5 hb4 H6 _
  refine sq (r_assign (v := .pointer (some ⟨b4, 0, none⟩)) rfl) ?_
  refine wend ?_
  refine seqRegion ?_
  refine sq (r_move (v := .pointer (some ⟨b4, 0, none⟩)) rfl) ?_
  refine c_call (vs := [.pointer (some ⟨b4, 0, none⟩)]) call20 rfl (fill_ok b4 (List.replicate 432 0#8) List.length_replicate w5 (H6.get (k := 0) rfl)) ?_
  rintro _ w7 ⟨rfl, hcw7, hnw7⟩
  have H9 := (H6.set (k := 0) rfl hcw7 hnw7).as (L' := [(some b4, .cells (cel E8 (fillL (List.replicate 432 0#8))).toArray 50 (0, 0)), (some b1, .cells (cel E8 key).toArray 22 (0, 0))]) rfl
  refine wend ?_
  refine seqAny ?_
  refine drawAny (K := [none, none, none, none, none]) [0, 0, 1, 5, 15, 31] (fun w' => Ext w7 w') (fun w' w'' => Ext w' w'') mixed (by kernel_rfl) (Ext.drew _) (fun _ _ h h' => h.trans h') ?_ ?_
  · exact relNone (by decide)
  refine ⟨.pointer (some ⟨b4, 0, none⟩), fun _ uw10 hC11 _ => Gives.run rfl (r_move (v := .pointer (some ⟨b4, 0, none⟩)) rfl) ⟨rfl, Chg.refl _ _⟩, ?_⟩
  refine ⟨.agg (cel E8 key).toArray, fun _ uw12 hC13 _ => Gives.run rfl (r_loadA (cs' := (cel E8 key).toArray) agg22 siz22 ((H9.ext hC13).get (k := 1) rfl) (off := 0) rfl (by rw [List.size_toArray, cel_length]; show _ ≤ _ * 1; omega) (by exact ext_all (by rw [cel_length]; show _ * 1 = _; omega))) ⟨rfl, Chg.refl _ _⟩, ?_⟩
  refine ⟨.pointer (some ⟨b4, 0, none⟩), fun _ uw14 hC15 _ => Gives.run rfl (r_nilCheck rfl) ⟨rfl, Chg.refl _ _⟩, ?_⟩
  refine ⟨.pointer (some ⟨b4, 0, none⟩), fun _ uw16 hC17 _ => Gives.run rfl (r_fieldAddr (off' := 0) fld50_0 (by decide) (b := b4) (off := 0) rfl (by omega)) ⟨rfl, Chg.refl _ _⟩, ?_⟩
  refine ⟨.pointer (some ⟨b4, 0, none⟩), fun _ uw18 hC19 _ => Gives.run rfl (r_indexA (off' := 0) (j := 0) arr47 (b := b4) (off := 0) rfl rfl (by first | rfl | omega | (simp; omega)) (by omega) (by omega)) ⟨rfl, Chg.refl _ _⟩, ?_⟩
  intro r23 w20 hE22 hF
  have H21 := H9.ext hE22
  refine d_store (k := 0) (v := .agg (cel E8 key).toArray) (cs' := (cel E8 ((newS key 0).1)).toArray) H21 rfl rfl rfl siz22 (by exact celSize (by rw [hk]; rfl)) (by exact celOne _) (by rw [List.size_toArray, cel_length, fillL_len, List.length_replicate]; decide) (by rw [newS_zero]; exact put0 (by rw [hk, fillL_len, List.length_replicate]; decide)) ?_
  intro w24 H25 _
  have H25' := H25.as (L' := [(some b4, .cells (cel E8 ((newS key 0).1)).toArray 50 (0, 0)), (some b1, .cells (cel E8 key).toArray 22 (0, 0))]) rfl
  clear H25
  refine wnil ?_
  refine thenNormal ?_
  refine seqRegion ?_
  refine sq (r_assign (v := u8 (1#8)) rfl) ?_
  refine wend ?_
  refine seqAny ?_
  refine seqRegion ?_
  refine sq (r_assign (v := i64 ((1 : Int))) rfl) ?_
  refine wend ?_
  refine blockAny ?_
  refine loopAny (σ := Nat) (fun k => [(3, .pointer (some ⟨b4, 0, none⟩)), (4, u8 ((newS key k).2)), (5, i64 ((k + 1 : Nat)))]) (fun k w' => k ≤ 10 ∧ Hp No w w' [(some b4, .cells (cel E8 ((newS key k).1)).toArray 50 (0, 0)), (some b1, .cells (cel E8 key).toArray 22 (0, 0))]) (fun k => 10 - k) (0) ?_ ?_ ?_
  · exact ⟨rfl, rfl, rfl, trivial⟩
  · exact ⟨by omega, H25'⟩
  rintro k ρ w26 ⟨hk10, H27⟩
  have hl := newS_len key hk k
  refine seqAny ?_
  refine seqRegion ?_
  refine sq (r_move (v := i64 ((k + 1 : Nat))) rfl) ?_
  refine sq (r_leqI (a := (k + 1 : Nat)) (b := (10 : Int)) rfl rfl) ?_
  refine wend ?_
  refine condProp ((k + 1 : Nat) ≤ (10 : Int)) rfl (fun c20 => ?_) (fun c20 => ?_)
  · skip
    refine skipAny ?_
    refine thenNormal ?_
    refine seqAny ?_
    refine blockAny ?_
    refine seqAny ?_
    refine drawAny (K := [none, none, none, none, none, none, none, none, none, none, none, none, none]) [0, 0, 2, 1, 9, 31, 0, 0, 64, 320, 960, 63, 4095] (fun w' => Ext w26 w') (fun w' w'' => Ext w' w'') mixed (by kernel_rfl) (Ext.drew _) (fun _ _ h h' => h.trans h') ?_ ?_
    · exact relNone (by decide)
    refine ⟨.pointer (some ⟨b4, 0, none⟩), fun _ uw28 hC29 _ => Gives.run rfl (r_move (v := .pointer (some ⟨b4, 0, none⟩)) rfl) ⟨rfl, Chg.refl _ _⟩, ?_⟩
    refine ⟨i64 ((k + 1 : Nat)), fun _ uw30 hC31 _ => Gives.run rfl (r_move (v := i64 ((k + 1 : Nat))) rfl) ⟨rfl, Chg.refl _ _⟩, ?_⟩
    refine ⟨i64 ((k + 1 : Nat) - (1 : Int)), fun _ uw32 hC33 _ => Gives.run rfl (r_subI (a := (k + 1 : Nat)) (b := (1 : Int)) rfl rfl (by omega)) ⟨rfl, Chg.refl _ _⟩, ?_⟩
    refine ⟨.pointer (some ⟨b4, 0, none⟩), fun _ uw34 hC35 _ => Gives.run rfl (r_nilCheck rfl) ⟨rfl, Chg.refl _ _⟩, ?_⟩
    refine ⟨.pointer (some ⟨b4, 0, none⟩), fun _ uw36 hC37 _ => Gives.run rfl (r_fieldAddr (off' := 0) fld50_0 (by decide) (b := b4) (off := 0) rfl (by omega)) ⟨rfl, Chg.refl _ _⟩, ?_⟩
    refine ⟨.pointer (some ⟨b4, (k + 1 - 1) * 16, none⟩), fun _ uw38 hC39 _ => Gives.run rfl (r_indexA (off' := (k + 1 - 1) * 16) (j := k + 1 - 1) arr47 (b := b4) (off := 0) rfl rfl (by first | rfl | omega | (simp; omega)) (by omega) (by omega)) ⟨rfl, Chg.refl _ _⟩, ?_⟩
    refine ⟨.pointer (some ⟨b4, 0, none⟩), fun _ uw40 hC41 _ => Gives.run rfl (r_move (v := .pointer (some ⟨b4, 0, none⟩)) rfl) ⟨rfl, Chg.refl _ _⟩, ?_⟩
    refine ⟨i64 ((k + 1 : Nat)), fun _ uw42 hC43 _ => Gives.run rfl (r_move (v := i64 ((k + 1 : Nat))) rfl) ⟨rfl, Chg.refl _ _⟩, ?_⟩
    refine ⟨.pointer (some ⟨b4, 0, none⟩), fun _ uw44 hC45 _ => Gives.run rfl (r_nilCheck rfl) ⟨rfl, Chg.refl _ _⟩, ?_⟩
    refine ⟨.pointer (some ⟨b4, 0, none⟩), fun _ uw46 hC47 _ => Gives.run rfl (r_fieldAddr (off' := 0) fld50_0 (by decide) (b := b4) (off := 0) rfl (by omega)) ⟨rfl, Chg.refl _ _⟩, ?_⟩
    refine ⟨.pointer (some ⟨b4, (k + 1) * 16, none⟩), fun _ uw48 hC49 _ => Gives.run rfl (r_indexA (off' := (k + 1) * 16) (j := k + 1) arr47 (b := b4) (off := 0) rfl rfl (by first | rfl | omega | (simp; omega)) (by omega) (by omega)) ⟨rfl, Chg.refl _ _⟩, ?_⟩
    refine ⟨.pointer (some ⟨b4, (k + 1 - 1) * 16, none⟩), fun _ uw50 hC51 _ => Gives.run rfl (r_assign (v := .pointer (some ⟨b4, (k + 1 - 1) * 16, none⟩)) rfl) ⟨rfl, Chg.refl _ _⟩, ?_⟩
    refine ⟨.pointer (some ⟨b4, (k + 1) * 16, none⟩), fun _ uw52 hC53 _ => Gives.run rfl (r_assign (v := .pointer (some ⟨b4, (k + 1) * 16, none⟩)) rfl) ⟨rfl, Chg.refl _ _⟩, ?_⟩
    intro r57 w54 hE56 hF
    have H55 := H27.ext hE56
    refine wnil ?_
    refine thenNormal ?_
    refine seqAny ?_
    refine drawAny (K := [none, none, none, none, none, none, none, none, none, none, none, none, none, none, none, none, none, none, none, none, none, none, none, none, none, none, none, none, none, none, none, none, none, none, none, none, none, none, none, some (allocRel w54 (.cells (cel E8 [0#8, 0#8, 0#8, 0#8]).toArray 52 (0, 0)))]) [0, 0, 2, 6, 14, 1, 33, 127, 255, 0, 1023, 0, 0, 4096, 12288, 28672, 2048, 67584, 260096, 522240, 0, 0, 2097152, 6291456, 14680064, 1048576, 34603008, 133169152, 267386880, 0, 0, 1073741824, 3221225472, 7516192768, 536870912, 17716740096, 68182605824, 136902082560, 274877906943, 0, 1099511627775] (fun w' => Ext w54 w') (fun w' w'' => Ext w' w'') mixed (by kernel_rfl) (Ext.drew _) (fun _ _ h h' => h.trans h') ?_ ?_
    · exact relOne 39 _ rfl rfl allocRel_stable (fun _ _ _ _ _ h => h)
    refine ⟨.pointer (some ⟨b4, 0, none⟩), fun _ uw58 hC59 _ => Gives.run rfl (r_move (v := .pointer (some ⟨b4, 0, none⟩)) rfl) ⟨rfl, Chg.refl _ _⟩, ?_⟩
    refine ⟨.pointer (some ⟨b4, (k + 1 - 1) * 16, none⟩), fun _ uw60 hC61 _ => Gives.run rfl (r_move (v := .pointer (some ⟨b4, (k + 1 - 1) * 16, none⟩)) rfl) ⟨rfl, Chg.refl _ _⟩, ?_⟩
    refine ⟨.pointer (some ⟨b4, (k + 1 - 1) * 16, none⟩), fun _ uw62 hC63 _ => Gives.run rfl (r_nilCheck rfl) ⟨rfl, Chg.refl _ _⟩, ?_⟩
    refine ⟨.pointer (some ⟨b4, ((k + 1 - 1) * 16) + 13, none⟩), fun _ uw64 hC65 _ => Gives.run rfl (r_indexA (off' := ((k + 1 - 1) * 16) + 13) (j := 13) arr22 (b := b4) (off := (k + 1 - 1) * 16) rfl rfl (by first | rfl | omega | (simp; omega)) (by omega) (by omega)) ⟨rfl, Chg.refl _ _⟩, ?_⟩
    refine ⟨u8 (((newS key k).1).getD (((k + 1 - 1) * 16) + 13) 0#8), fun _ uw66 hC67 _ => Gives.run rfl (r_ld1 (E := E8) (l := (newS key k).1) (j := ((k + 1 - 1) * 16) + 13) (a := ((newS key k).1).getD (((k + 1 - 1) * 16) + 13) 0#8) fits5 ((H55.ext hC67).get (k := 0) rfl) (at_getD (by first | omega | (simp only [List.length_set]; omega) | exact Nat.le_of_ble_eq_true rfl | (simp <;> omega))) rfl rfl) ⟨rfl, Chg.refl _ _⟩, ?_⟩
    refine ⟨.pointer (some ⟨b4, 0, none⟩), fun _ uw68 hC69 _ => Gives.run rfl (r_nilCheck rfl) ⟨rfl, Chg.refl _ _⟩, ?_⟩
    refine ⟨.pointer (some ⟨b4, 176, none⟩), fun _ uw70 hC71 _ => Gives.run rfl (r_fieldAddr (off' := 176) fld50_1 (by decide) (b := b4) (off := 0) rfl (by omega)) ⟨rfl, Chg.refl _ _⟩, ?_⟩
    refine ⟨.pointer (some ⟨b4, 176 + ((((newS key k).1).getD (((k + 1 - 1) * 16) + 13) 0#8).toNat), none⟩), fun _ uw72 hC73 _ => Gives.run rfl (r_indexA (off' := 176 + ((((newS key k).1).getD (((k + 1 - 1) * 16) + 13) 0#8).toNat)) (j := (((newS key k).1).getD (((k + 1 - 1) * 16) + 13) 0#8).toNat) arr48 (b := b4) (off := 176) rfl rfl (by first | rfl | omega | (simp; omega)) (BitVec.isLt _) (by omega)) ⟨rfl, Chg.refl _ _⟩, ?_⟩
    refine ⟨u8 (((newS key k).1).getD (176 + ((((newS key k).1).getD (((k + 1 - 1) * 16) + 13) 0#8).toNat)) 0#8), fun _ uw74 hC75 _ => Gives.run rfl (r_ld1 (E := E8) (l := (newS key k).1) (j := 176 + ((((newS key k).1).getD (((k + 1 - 1) * 16) + 13) 0#8).toNat)) (a := ((newS key k).1).getD (176 + ((((newS key k).1).getD (((k + 1 - 1) * 16) + 13) 0#8).toNat)) 0#8) fits5 ((H55.ext hC75).get (k := 0) rfl) (at_getD (by have := ((newS key k).1.getD ((k + 1 - 1) * 16 + 13) 0#8).isLt; omega)) rfl rfl) ⟨rfl, Chg.refl _ _⟩, ?_⟩
    refine ⟨u8 ((newS key k).2), fun _ uw76 hC77 _ => Gives.run rfl (r_move (v := u8 ((newS key k).2)) rfl) ⟨rfl, Chg.refl _ _⟩, ?_⟩
    refine ⟨u8 ((((newS key k).1).getD (176 + ((((newS key k).1).getD (((k + 1 - 1) * 16) + 13) 0#8).toNat)) 0#8) ^^^ ((newS key k).2)), fun _ uw78 hC79 _ => Gives.run rfl (r_xor8 (a := ((newS key k).1).getD (176 + ((((newS key k).1).getD (((k + 1 - 1) * 16) + 13) 0#8).toNat)) 0#8) (b := (newS key k).2) rfl rfl) ⟨rfl, Chg.refl _ _⟩, ?_⟩
    refine ⟨.pointer (some ⟨b4, 0, none⟩), fun _ uw80 hC81 _ => Gives.run rfl (r_move (v := .pointer (some ⟨b4, 0, none⟩)) rfl) ⟨rfl, Chg.refl _ _⟩, ?_⟩
    refine ⟨.pointer (some ⟨b4, (k + 1 - 1) * 16, none⟩), fun _ uw82 hC83 _ => Gives.run rfl (r_move (v := .pointer (some ⟨b4, (k + 1 - 1) * 16, none⟩)) rfl) ⟨rfl, Chg.refl _ _⟩, ?_⟩
    refine ⟨.pointer (some ⟨b4, (k + 1 - 1) * 16, none⟩), fun _ uw84 hC85 _ => Gives.run rfl (r_nilCheck rfl) ⟨rfl, Chg.refl _ _⟩, ?_⟩
    refine ⟨.pointer (some ⟨b4, ((k + 1 - 1) * 16) + 14, none⟩), fun _ uw86 hC87 _ => Gives.run rfl (r_indexA (off' := ((k + 1 - 1) * 16) + 14) (j := 14) arr22 (b := b4) (off := (k + 1 - 1) * 16) rfl rfl (by first | rfl | omega | (simp; omega)) (by omega) (by omega)) ⟨rfl, Chg.refl _ _⟩, ?_⟩
    refine ⟨u8 (((newS key k).1).getD (((k + 1 - 1) * 16) + 14) 0#8), fun _ uw88 hC89 _ => Gives.run rfl (r_ld1 (E := E8) (l := (newS key k).1) (j := ((k + 1 - 1) * 16) + 14) (a := ((newS key k).1).getD (((k + 1 - 1) * 16) + 14) 0#8) fits5 ((H55.ext hC89).get (k := 0) rfl) (at_getD (by first | omega | (simp only [List.length_set]; omega) | exact Nat.le_of_ble_eq_true rfl | (simp <;> omega))) rfl rfl) ⟨rfl, Chg.refl _ _⟩, ?_⟩
    refine ⟨.pointer (some ⟨b4, 0, none⟩), fun _ uw90 hC91 _ => Gives.run rfl (r_nilCheck rfl) ⟨rfl, Chg.refl _ _⟩, ?_⟩
    refine ⟨.pointer (some ⟨b4, 176, none⟩), fun _ uw92 hC93 _ => Gives.run rfl (r_fieldAddr (off' := 176) fld50_1 (by decide) (b := b4) (off := 0) rfl (by omega)) ⟨rfl, Chg.refl _ _⟩, ?_⟩
    refine ⟨.pointer (some ⟨b4, 176 + ((((newS key k).1).getD (((k + 1 - 1) * 16) + 14) 0#8).toNat), none⟩), fun _ uw94 hC95 _ => Gives.run rfl (r_indexA (off' := 176 + ((((newS key k).1).getD (((k + 1 - 1) * 16) + 14) 0#8).toNat)) (j := (((newS key k).1).getD (((k + 1 - 1) * 16) + 14) 0#8).toNat) arr48 (b := b4) (off := 176) rfl rfl (by first | rfl | omega | (simp; omega)) (BitVec.isLt _) (by omega)) ⟨rfl, Chg.refl _ _⟩, ?_⟩
    refine ⟨u8 (((newS key k).1).getD (176 + ((((newS key k).1).getD (((k + 1 - 1) * 16) + 14) 0#8).toNat)) 0#8), fun _ uw96 hC97 _ => Gives.run rfl (r_ld1 (E := E8) (l := (newS key k).1) (j := 176 + ((((newS key k).1).getD (((k + 1 - 1) * 16) + 14) 0#8).toNat)) (a := ((newS key k).1).getD (176 + ((((newS key k).1).getD (((k + 1 - 1) * 16) + 14) 0#8).toNat)) 0#8) fits5 ((H55.ext hC97).get (k := 0) rfl) (at_getD (by have := ((newS key k).1.getD ((k + 1 - 1) * 16 + 14) 0#8).isLt; omega)) rfl rfl) ⟨rfl, Chg.refl _ _⟩, ?_⟩
    refine ⟨.pointer (some ⟨b4, 0, none⟩), fun _ uw98 hC99 _ => Gives.run rfl (r_move (v := .pointer (some ⟨b4, 0, none⟩)) rfl) ⟨rfl, Chg.refl _ _⟩, ?_⟩
    refine ⟨.pointer (some ⟨b4, (k + 1 - 1) * 16, none⟩), fun _ uw100 hC101 _ => Gives.run rfl (r_move (v := .pointer (some ⟨b4, (k + 1 - 1) * 16, none⟩)) rfl) ⟨rfl, Chg.refl _ _⟩, ?_⟩
    refine ⟨.pointer (some ⟨b4, (k + 1 - 1) * 16, none⟩), fun _ uw102 hC103 _ => Gives.run rfl (r_nilCheck rfl) ⟨rfl, Chg.refl _ _⟩, ?_⟩
    refine ⟨.pointer (some ⟨b4, ((k + 1 - 1) * 16) + 15, none⟩), fun _ uw104 hC105 _ => Gives.run rfl (r_indexA (off' := ((k + 1 - 1) * 16) + 15) (j := 15) arr22 (b := b4) (off := (k + 1 - 1) * 16) rfl rfl (by first | rfl | omega | (simp; omega)) (by omega) (by omega)) ⟨rfl, Chg.refl _ _⟩, ?_⟩
    refine ⟨u8 (((newS key k).1).getD (((k + 1 - 1) * 16) + 15) 0#8), fun _ uw106 hC107 _ => Gives.run rfl (r_ld1 (E := E8) (l := (newS key k).1) (j := ((k + 1 - 1) * 16) + 15) (a := ((newS key k).1).getD (((k + 1 - 1) * 16) + 15) 0#8) fits5 ((H55.ext hC107).get (k := 0) rfl) (at_getD (by first | omega | (simp only [List.length_set]; omega) | exact Nat.le_of_ble_eq_true rfl | (simp <;> omega))) rfl rfl) ⟨rfl, Chg.refl _ _⟩, ?_⟩
    refine ⟨.pointer (some ⟨b4, 0, none⟩), fun _ uw108 hC109 _ => Gives.run rfl (r_nilCheck rfl) ⟨rfl, Chg.refl _ _⟩, ?_⟩
    refine ⟨.pointer (some ⟨b4, 176, none⟩), fun _ uw110 hC111 _ => Gives.run rfl (r_fieldAddr (off' := 176) fld50_1 (by decide) (b := b4) (off := 0) rfl (by omega)) ⟨rfl, Chg.refl _ _⟩, ?_⟩
    refine ⟨.pointer (some ⟨b4, 176 + ((((newS key k).1).getD (((k + 1 - 1) * 16) + 15) 0#8).toNat), none⟩), fun _ uw112 hC113 _ => Gives.run rfl (r_indexA (off' := 176 + ((((newS key k).1).getD (((k + 1 - 1) * 16) + 15) 0#8).toNat)) (j := (((newS key k).1).getD (((k + 1 - 1) * 16) + 15) 0#8).toNat) arr48 (b := b4) (off := 176) rfl rfl (by first | rfl | omega | (simp; omega)) (BitVec.isLt _) (by omega)) ⟨rfl, Chg.refl _ _⟩, ?_⟩
    refine ⟨u8 (((newS key k).1).getD (176 + ((((newS key k).1).getD (((k + 1 - 1) * 16) + 15) 0#8).toNat)) 0#8), fun _ uw114 hC115 _ => Gives.run rfl (r_ld1 (E := E8) (l := (newS key k).1) (j := 176 + ((((newS key k).1).getD (((k + 1 - 1) * 16) + 15) 0#8).toNat)) (a := ((newS key k).1).getD (176 + ((((newS key k).1).getD (((k + 1 - 1) * 16) + 15) 0#8).toNat)) 0#8) fits5 ((H55.ext hC115).get (k := 0) rfl) (at_getD (by have := ((newS key k).1.getD ((k + 1 - 1) * 16 + 15) 0#8).isLt; omega)) rfl rfl) ⟨rfl, Chg.refl _ _⟩, ?_⟩
    refine ⟨.pointer (some ⟨b4, 0, none⟩), fun _ uw116 hC117 _ => Gives.run rfl (r_move (v := .pointer (some ⟨b4, 0, none⟩)) rfl) ⟨rfl, Chg.refl _ _⟩, ?_⟩
    refine ⟨.pointer (some ⟨b4, (k + 1 - 1) * 16, none⟩), fun _ uw118 hC119 _ => Gives.run rfl (r_move (v := .pointer (some ⟨b4, (k + 1 - 1) * 16, none⟩)) rfl) ⟨rfl, Chg.refl _ _⟩, ?_⟩
    refine ⟨.pointer (some ⟨b4, (k + 1 - 1) * 16, none⟩), fun _ uw120 hC121 _ => Gives.run rfl (r_nilCheck rfl) ⟨rfl, Chg.refl _ _⟩, ?_⟩
    refine ⟨.pointer (some ⟨b4, ((k + 1 - 1) * 16) + 12, none⟩), fun _ uw122 hC123 _ => Gives.run rfl (r_indexA (off' := ((k + 1 - 1) * 16) + 12) (j := 12) arr22 (b := b4) (off := (k + 1 - 1) * 16) rfl rfl (by first | rfl | omega | (simp; omega)) (by omega) (by omega)) ⟨rfl, Chg.refl _ _⟩, ?_⟩
    refine ⟨u8 (((newS key k).1).getD (((k + 1 - 1) * 16) + 12) 0#8), fun _ uw124 hC125 _ => Gives.run rfl (r_ld1 (E := E8) (l := (newS key k).1) (j := ((k + 1 - 1) * 16) + 12) (a := ((newS key k).1).getD (((k + 1 - 1) * 16) + 12) 0#8) fits5 ((H55.ext hC125).get (k := 0) rfl) (at_getD (by first | omega | (simp only [List.length_set]; omega) | exact Nat.le_of_ble_eq_true rfl | (simp <;> omega))) rfl rfl) ⟨rfl, Chg.refl _ _⟩, ?_⟩
    refine ⟨.pointer (some ⟨b4, 0, none⟩), fun _ uw126 hC127 _ => Gives.run rfl (r_nilCheck rfl) ⟨rfl, Chg.refl _ _⟩, ?_⟩
    refine ⟨.pointer (some ⟨b4, 176, none⟩), fun _ uw128 hC129 _ => Gives.run rfl (r_fieldAddr (off' := 176) fld50_1 (by decide) (b := b4) (off := 0) rfl (by omega)) ⟨rfl, Chg.refl _ _⟩, ?_⟩
    refine ⟨.pointer (some ⟨b4, 176 + ((((newS key k).1).getD (((k + 1 - 1) * 16) + 12) 0#8).toNat), none⟩), fun _ uw130 hC131 _ => Gives.run rfl (r_indexA (off' := 176 + ((((newS key k).1).getD (((k + 1 - 1) * 16) + 12) 0#8).toNat)) (j := (((newS key k).1).getD (((k + 1 - 1) * 16) + 12) 0#8).toNat) arr48 (b := b4) (off := 176) rfl rfl (by first | rfl | omega | (simp; omega)) (BitVec.isLt _) (by omega)) ⟨rfl, Chg.refl _ _⟩, ?_⟩
    refine ⟨u8 (((newS key k).1).getD (176 + ((((newS key k).1).getD (((k + 1 - 1) * 16) + 12) 0#8).toNat)) 0#8), fun _ uw132 hC133 _ => Gives.run rfl (r_ld1 (E := E8) (l := (newS key k).1) (j := 176 + ((((newS key k).1).getD (((k + 1 - 1) * 16) + 12) 0#8).toNat)) (a := ((newS key k).1).getD (176 + ((((newS key k).1).getD (((k + 1 - 1) * 16) + 12) 0#8).toNat)) 0#8) fits5 ((H55.ext hC133).get (k := 0) rfl) (at_getD (by have := ((newS key k).1.getD ((k + 1 - 1) * 16 + 12) 0#8).isLt; omega)) rfl rfl) ⟨rfl, Chg.refl _ _⟩, ?_⟩
    refine ⟨.agg (cel E8 [(((newS key k).1).getD (176 + ((((newS key k).1).getD (((k + 1 - 1) * 16) + 13) 0#8).toNat)) 0#8) ^^^ ((newS key k).2), ((newS key k).1).getD (176 + ((((newS key k).1).getD (((k + 1 - 1) * 16) + 14) 0#8).toNat)) 0#8, ((newS key k).1).getD (176 + ((((newS key k).1).getD (((k + 1 - 1) * 16) + 15) 0#8).toNat)) 0#8, ((newS key k).1).getD (176 + ((((newS key k).1).getD (((k + 1 - 1) * 16) + 12) 0#8).toNat)) 0#8]).toArray, fun _ uw134 hC135 _ => Gives.run rfl (r_buildA (cs' := (cel E8 [(((newS key k).1).getD (176 + ((((newS key k).1).getD (((k + 1 - 1) * 16) + 13) 0#8).toNat)) 0#8) ^^^ ((newS key k).2), ((newS key k).1).getD (176 + ((((newS key k).1).getD (((k + 1 - 1) * 16) + 14) 0#8).toNat)) 0#8, ((newS key k).1).getD (176 + ((((newS key k).1).getD (((k + 1 - 1) * 16) + 15) 0#8).toNat)) 0#8, ((newS key k).1).getD (176 + ((((newS key k).1).getD (((k + 1 - 1) * 16) + 12) 0#8).toNat)) 0#8]).toArray) (ps := [(0, u8 ((((newS key k).1).getD (176 + ((((newS key k).1).getD (((k + 1 - 1) * 16) + 13) 0#8).toNat)) 0#8) ^^^ ((newS key k).2))), (1, u8 (((newS key k).1).getD (176 + ((((newS key k).1).getD (((k + 1 - 1) * 16) + 14) 0#8).toNat)) 0#8)), (2, u8 (((newS key k).1).getD (176 + ((((newS key k).1).getD (((k + 1 - 1) * 16) + 15) 0#8).toNat)) 0#8)), (3, u8 (((newS key k).1).getD (176 + ((((newS key k).1).getD (((k + 1 - 1) * 16) + 12) 0#8).toNat)) 0#8))]) zer52 arr52 rfl (by rfl)) ⟨rfl, Chg.refl _ _⟩, ?_⟩
    refine ⟨fun r uw136 hC137 hF => ?_, ?_⟩
    · exact allocGives zer52 (by kernel_rfl) hC137
    intro r141 w138 hE140 hF
    have H139 := H55.ext hE140
    obtain ⟨b8, hb8, hbs, hbo⟩ := hF 39 _ rfl
    dsimp only
    rw [hb8]
    have H8 := H55.add1 hE140 hbs hbo
    refine d_store (k := 0) (v := .agg (cel E8 [(((newS key k).1).getD (176 + ((((newS key k).1).getD (((k + 1 - 1) * 16) + 13) 0#8).toNat)) 0#8) ^^^ ((newS key k).2), ((newS key k).1).getD (176 + ((((newS key k).1).getD (((k + 1 - 1) * 16) + 14) 0#8).toNat)) 0#8, ((newS key k).1).getD (176 + ((((newS key k).1).getD (((k + 1 - 1) * 16) + 15) 0#8).toNat)) 0#8, ((newS key k).1).getD (176 + ((((newS key k).1).getD (((k + 1 - 1) * 16) + 12) 0#8).toNat)) 0#8]).toArray) (cs' := (cel E8 (t0 (newS key k).1 (k + 1) (newS key k).2)).toArray) H8 rfl rfl rfl siz52 (by exact celSize rfl) (by exact celOne _) (by exact Nat.le_of_ble_eq_true rfl) (by exact putAll rfl) ?_
    intro w142 H143 _
    have H143' := H143.as (L' := [(some b8, .cells (cel E8 (t0 (newS key k).1 (k + 1) (newS key k).2)).toArray 52 (0, 0)), (some b4, .cells (cel E8 ((newS key k).1)).toArray 50 (0, 0)), (some b1, .cells (cel E8 key).toArray 22 (0, 0))]) rfl
    clear H143
    refine wnil ?_
    refine thenNormal ?_
    refine seqAny ?_
    refine seqRegion ?_
    refine sq (r_move (v := i64 ((0 : Int))) rfl) ?_
    refine wend ?_
    refine blockAny ?_
    refine loopAny (σ := Nat) (fun i => [(3, .pointer (some ⟨b4, 0, none⟩)), (4, u8 ((newS key k).2)), (5, i64 ((k + 1 : Nat))), (6, .pointer (some ⟨b4, (k + 1 - 1) * 16, none⟩)), (7, .pointer (some ⟨b4, (k + 1) * 16, none⟩)), (8, .pointer (some ⟨b8, 0, none⟩)), (73, i64 ((i : Nat)))]) (fun i w' => i ≤ 16 ∧ Hp No w w' [(some b8, .cells (cel E8 ((innS (newS key k).1 (t0 (newS key k).1 (k + 1) (newS key k).2) (k + 1) i).2)).toArray 52 (0, 0)), (some b4, .cells (cel E8 ((innS (newS key k).1 (t0 (newS key k).1 (k + 1) (newS key k).2) (k + 1) i).1)).toArray 50 (0, 0)), (some b1, .cells (cel E8 key).toArray 22 (0, 0))]) (fun i => 16 - i) (0) ?_ ?_ ?_
    · exact ⟨rfl, rfl, rfl, rfl, rfl, rfl, rfl, trivial⟩
    · exact ⟨by omega, H143'⟩
    rintro i ρ w144 ⟨hi, H145⟩
    have hi1 := (innS_len (newS key k).1 (t0 (newS key k).1 (k + 1) (newS key k).2) (k + 1) i).1
    rw [hl] at hi1
    have hi2 := (innS_len (newS key k).1 (t0 (newS key k).1 (k + 1) (newS key k).2) (k + 1) i).2
    rw [show (t0 (newS key k).1 (k + 1) (newS key k).2).length = 4 from rfl] at hi2
    refine seqRegion ?_
    refine sq (r_lssI (a := (i : Nat)) (b := (16 : Int)) rfl rfl) ?_
    refine wend ?_
    refine seqAny ?_
    refine condProp ((i : Nat) < (16 : Int)) rfl (fun c74 => ?_) (fun c74 => ?_)
    · skip
      refine skipAny ?_
      refine thenNormal ?_
      refine seqAny ?_
      refine blockAny ?_
      refine seqRegion ?_
      refine sq (r_move (v := i64 ((i : Nat))) rfl) ?_
      refine sq (r_assign (v := i64 ((i : Nat))) rfl) ?_
      refine wend ?_
      refine seqAny ?_
      refine drawAny (K := [none, none, none, none, none, none, none, none, none, none, none]) [0, 1, 3, 7, 0, 0, 16, 112, 240, 511, 1023, 2047] (fun w' => Ext w144 w') (fun w' w'' => Ext w' w'') mixed (by kernel_rfl) (Ext.drew _) (fun _ _ h h' => h.trans h') ?_ ?_
      · exact relNone (by decide)
      refine ⟨i64 ((i : Nat)), fun _ uw146 hC147 _ => Gives.run rfl (r_move (v := i64 ((i : Nat))) rfl) ⟨rfl, Chg.refl _ _⟩, ?_⟩
      refine ⟨i64 ((i : Nat) % (4 : Int)), fun _ uw148 hC149 _ => Gives.run rfl (r_remI (a := (i : Nat)) (b := (4 : Int)) rfl rfl (by omega)) ⟨rfl, Chg.refl _ _⟩, ?_⟩
      refine ⟨.pointer (some ⟨b8, i % 4, none⟩), fun _ uw150 hC151 _ => Gives.run rfl (r_indexA (off' := i % 4) (j := i % 4) arr52 (b := b8) (off := 0) rfl rfl (by first | rfl | omega | (simp; omega)) (by omega) (by omega)) ⟨rfl, Chg.refl _ _⟩, ?_⟩
      refine ⟨u8 (((innS (newS key k).1 (t0 (newS key k).1 (k + 1) (newS key k).2) (k + 1) i).2).getD (i % 4) 0#8), fun _ uw152 hC153 _ => Gives.run rfl (r_ld1 (E := E8) (l := (innS (newS key k).1 (t0 (newS key k).1 (k + 1) (newS key k).2) (k + 1) i).2) (j := i % 4) (a := ((innS (newS key k).1 (t0 (newS key k).1 (k + 1) (newS key k).2) (k + 1) i).2).getD (i % 4) 0#8) fits5 ((H145.ext hC153).get (k := 0) rfl) (at_getD (by first | omega | (simp only [List.length_set]; omega) | exact Nat.le_of_ble_eq_true rfl | (simp <;> omega))) rfl rfl) ⟨rfl, Chg.refl _ _⟩, ?_⟩
      refine ⟨.pointer (some ⟨b4, (k + 1 - 1) * 16, none⟩), fun _ uw154 hC155 _ => Gives.run rfl (r_move (v := .pointer (some ⟨b4, (k + 1 - 1) * 16, none⟩)) rfl) ⟨rfl, Chg.refl _ _⟩, ?_⟩
      refine ⟨i64 ((i : Nat)), fun _ uw156 hC157 _ => Gives.run rfl (r_move (v := i64 ((i : Nat))) rfl) ⟨rfl, Chg.refl _ _⟩, ?_⟩
      refine ⟨.pointer (some ⟨b4, (k + 1 - 1) * 16, none⟩), fun _ uw158 hC159 _ => Gives.run rfl (r_nilCheck rfl) ⟨rfl, Chg.refl _ _⟩, ?_⟩
      refine ⟨.pointer (some ⟨b4, ((k + 1 - 1) * 16) + i, none⟩), fun _ uw160 hC161 _ => Gives.run rfl (r_indexA (off' := ((k + 1 - 1) * 16) + i) (j := i) arr22 (b := b4) (off := (k + 1 - 1) * 16) rfl rfl (by first | rfl | omega | (simp; omega)) (by omega) (by omega)) ⟨rfl, Chg.refl _ _⟩, ?_⟩
      refine ⟨u8 (((innS (newS key k).1 (t0 (newS key k).1 (k + 1) (newS key k).2) (k + 1) i).1).getD (((k + 1 - 1) * 16) + i) 0#8), fun _ uw162 hC163 _ => Gives.run rfl (r_ld1 (E := E8) (l := (innS (newS key k).1 (t0 (newS key k).1 (k + 1) (newS key k).2) (k + 1) i).1) (j := ((k + 1 - 1) * 16) + i) (a := ((innS (newS key k).1 (t0 (newS key k).1 (k + 1) (newS key k).2) (k + 1) i).1).getD (((k + 1 - 1) * 16) + i) 0#8) fits5 ((H145.ext hC163).get (k := 1) rfl) (at_getD (by first | omega | (simp only [List.length_set]; omega) | exact Nat.le_of_ble_eq_true rfl | (simp <;> omega))) rfl rfl) ⟨rfl, Chg.refl _ _⟩, ?_⟩
      refine ⟨u8 ((((innS (newS key k).1 (t0 (newS key k).1 (k + 1) (newS key k).2) (k + 1) i).2).getD (i % 4) 0#8) ^^^ (((innS (newS key k).1 (t0 (newS key k).1 (k + 1) (newS key k).2) (k + 1) i).1).getD (((k + 1 - 1) * 16) + i) 0#8)), fun _ uw164 hC165 _ => Gives.run rfl (r_xor8 (a := ((innS (newS key k).1 (t0 (newS key k).1 (k + 1) (newS key k).2) (k + 1) i).2).getD (i % 4) 0#8) (b := ((innS (newS key k).1 (t0 (newS key k).1 (k + 1) (newS key k).2) (k + 1) i).1).getD (((k + 1 - 1) * 16) + i) 0#8) rfl rfl) ⟨rfl, Chg.refl _ _⟩, ?_⟩
      refine ⟨.pointer (some ⟨b8, i % 4, none⟩), fun _ uw166 hC167 _ => Gives.run rfl (r_indexA (off' := i % 4) (j := i % 4) arr52 (b := b8) (off := 0) rfl rfl (by first | rfl | omega | (simp; omega)) (by omega) (by omega)) ⟨rfl, Chg.refl _ _⟩, ?_⟩
      intro r171 w168 hE170 hF
      have H169 := H145.ext hE170
      refine d_store (k := 0) (v := u8 ((((innS (newS key k).1 (t0 (newS key k).1 (k + 1) (newS key k).2) (k + 1) i).2).getD (i % 4) 0#8) ^^^ (((innS (newS key k).1 (t0 (newS key k).1 (k + 1) (newS key k).2) (k + 1) i).1).getD (((k + 1 - 1) * 16) + i) 0#8))) (cs' := (cel E8 (((innS (newS key k).1 (t0 (newS key k).1 (k + 1) (newS key k).2) (k + 1) i).2).set (i % 4) ((((innS (newS key k).1 (t0 (newS key k).1 (k + 1) (newS key k).2) (k + 1) i).2).getD (i % 4) 0#8) ^^^ (((innS (newS key k).1 (t0 (newS key k).1 (k + 1) (newS key k).2) (k + 1) i).1).getD (((k + 1 - 1) * 16) + i) 0#8)))).toArray) H169 rfl rfl rfl siz5 (by rfl) (by exact E8.one _) (by rw [List.size_toArray, cel_length]; show _ ≤ _ * 1; first | omega | (simp only [List.length_set]; omega) | exact Nat.le_of_ble_eq_true rfl | (simp <;> omega)) (by exact put1 (E := E8) rfl _ _ _) ?_
      intro w172 H173 _
      have H173' := H173.as (L' := [(some b8, .cells (cel E8 (((innS (newS key k).1 (t0 (newS key k).1 (k + 1) (newS key k).2) (k + 1) i).2).set (i % 4) ((((innS (newS key k).1 (t0 (newS key k).1 (k + 1) (newS key k).2) (k + 1) i).2).getD (i % 4) 0#8) ^^^ (((innS (newS key k).1 (t0 (newS key k).1 (k + 1) (newS key k).2) (k + 1) i).1).getD (((k + 1 - 1) * 16) + i) 0#8)))).toArray 52 (0, 0)), (some b4, .cells (cel E8 ((innS (newS key k).1 (t0 (newS key k).1 (k + 1) (newS key k).2) (k + 1) i).1)).toArray 50 (0, 0)), (some b1, .cells (cel E8 key).toArray 22 (0, 0))]) rfl
      clear H173
      refine wnil ?_
      refine thenNormal ?_
      refine drawAny (K := [none, none, none, none, none, none, none, none]) [0, 0, 0, 4, 12, 28, 1, 127, 255] (fun w' => Ext w172 w') (fun w' w'' => Ext w' w'') mixed (by kernel_rfl) (Ext.drew _) (fun _ _ h h' => h.trans h') ?_ ?_
      · exact relNone (by decide)
      refine ⟨.pointer (some ⟨b4, (k + 1) * 16, none⟩), fun _ uw174 hC175 _ => Gives.run rfl (r_move (v := .pointer (some ⟨b4, (k + 1) * 16, none⟩)) rfl) ⟨rfl, Chg.refl _ _⟩, ?_⟩
      refine ⟨i64 ((i : Nat)), fun _ uw176 hC177 _ => Gives.run rfl (r_move (v := i64 ((i : Nat))) rfl) ⟨rfl, Chg.refl _ _⟩, ?_⟩
      refine ⟨i64 ((i : Nat)), fun _ uw178 hC179 _ => Gives.run rfl (r_move (v := i64 ((i : Nat))) rfl) ⟨rfl, Chg.refl _ _⟩, ?_⟩
      refine ⟨i64 ((i : Nat) % (4 : Int)), fun _ uw180 hC181 _ => Gives.run rfl (r_remI (a := (i : Nat)) (b := (4 : Int)) rfl rfl (by omega)) ⟨rfl, Chg.refl _ _⟩, ?_⟩
      refine ⟨.pointer (some ⟨b8, i % 4, none⟩), fun _ uw182 hC183 _ => Gives.run rfl (r_indexA (off' := i % 4) (j := i % 4) arr52 (b := b8) (off := 0) rfl rfl (by first | rfl | omega | (simp; omega)) (by omega) (by omega)) ⟨rfl, Chg.refl _ _⟩, ?_⟩
      refine ⟨u8 ((((innS (newS key k).1 (t0 (newS key k).1 (k + 1) (newS key k).2) (k + 1) i).2).set (i % 4) ((((innS (newS key k).1 (t0 (newS key k).1 (k + 1) (newS key k).2) (k + 1) i).2).getD (i % 4) 0#8) ^^^ (((innS (newS key k).1 (t0 (newS key k).1 (k + 1) (newS key k).2) (k + 1) i).1).getD (((k + 1 - 1) * 16) + i) 0#8))).getD (i % 4) 0#8), fun _ uw184 hC185 _ => Gives.run rfl (r_ld1 (E := E8) (l := ((innS (newS key k).1 (t0 (newS key k).1 (k + 1) (newS key k).2) (k + 1) i).2).set (i % 4) ((((innS (newS key k).1 (t0 (newS key k).1 (k + 1) (newS key k).2) (k + 1) i).2).getD (i % 4) 0#8) ^^^ (((innS (newS key k).1 (t0 (newS key k).1 (k + 1) (newS key k).2) (k + 1) i).1).getD (((k + 1 - 1) * 16) + i) 0#8))) (j := i % 4) (a := (((innS (newS key k).1 (t0 (newS key k).1 (k + 1) (newS key k).2) (k + 1) i).2).set (i % 4) ((((innS (newS key k).1 (t0 (newS key k).1 (k + 1) (newS key k).2) (k + 1) i).2).getD (i % 4) 0#8) ^^^ (((innS (newS key k).1 (t0 (newS key k).1 (k + 1) (newS key k).2) (k + 1) i).1).getD (((k + 1 - 1) * 16) + i) 0#8))).getD (i % 4) 0#8) fits5 ((H173'.ext hC185).get (k := 0) rfl) (at_getD (by first | omega | (simp only [List.length_set]; omega) | exact Nat.le_of_ble_eq_true rfl | (simp <;> omega))) rfl rfl) ⟨rfl, Chg.refl _ _⟩, ?_⟩
      refine ⟨.pointer (some ⟨b4, (k + 1) * 16, none⟩), fun _ uw186 hC187 _ => Gives.run rfl (r_nilCheck rfl) ⟨rfl, Chg.refl _ _⟩, ?_⟩
      refine ⟨.pointer (some ⟨b4, ((k + 1) * 16) + i, none⟩), fun _ uw188 hC189 _ => Gives.run rfl (r_indexA (off' := ((k + 1) * 16) + i) (j := i) arr22 (b := b4) (off := (k + 1) * 16) rfl rfl (by first | rfl | omega | (simp; omega)) (by omega) (by omega)) ⟨rfl, Chg.refl _ _⟩, ?_⟩
      intro r193 w190 hE192 hF
      have H191 := H173'.ext hE192
      refine d_store (k := 1) (v := u8 ((((innS (newS key k).1 (t0 (newS key k).1 (k + 1) (newS key k).2) (k + 1) i).2).set (i % 4) ((((innS (newS key k).1 (t0 (newS key k).1 (k + 1) (newS key k).2) (k + 1) i).2).getD (i % 4) 0#8) ^^^ (((innS (newS key k).1 (t0 (newS key k).1 (k + 1) (newS key k).2) (k + 1) i).1).getD (((k + 1 - 1) * 16) + i) 0#8))).getD (i % 4) 0#8)) (cs' := (cel E8 (((innS (newS key k).1 (t0 (newS key k).1 (k + 1) (newS key k).2) (k + 1) i).1).set (((k + 1) * 16) + i) ((((innS (newS key k).1 (t0 (newS key k).1 (k + 1) (newS key k).2) (k + 1) i).2).set (i % 4) ((((innS (newS key k).1 (t0 (newS key k).1 (k + 1) (newS key k).2) (k + 1) i).2).getD (i % 4) 0#8) ^^^ (((innS (newS key k).1 (t0 (newS key k).1 (k + 1) (newS key k).2) (k + 1) i).1).getD (((k + 1 - 1) * 16) + i) 0#8))).getD (i % 4) 0#8))).toArray) H191 rfl rfl rfl siz5 (by rfl) (by exact E8.one _) (by rw [List.size_toArray, cel_length]; show _ ≤ _ * 1; first | omega | (simp only [List.length_set]; omega) | exact Nat.le_of_ble_eq_true rfl | (simp <;> omega)) (by exact put1 (E := E8) rfl _ _ _) ?_
      intro w194 H195 _
      have H195' := H195.as (L' := [(some b8, .cells (cel E8 (((innS (newS key k).1 (t0 (newS key k).1 (k + 1) (newS key k).2) (k + 1) i).2).set (i % 4) ((((innS (newS key k).1 (t0 (newS key k).1 (k + 1) (newS key k).2) (k + 1) i).2).getD (i % 4) 0#8) ^^^ (((innS (newS key k).1 (t0 (newS key k).1 (k + 1) (newS key k).2) (k + 1) i).1).getD (((k + 1 - 1) * 16) + i) 0#8)))).toArray 52 (0, 0)), (some b4, .cells (cel E8 (((innS (newS key k).1 (t0 (newS key k).1 (k + 1) (newS key k).2) (k + 1) i).1).set (((k + 1) * 16) + i) ((((innS (newS key k).1 (t0 (newS key k).1 (k + 1) (newS key k).2) (k + 1) i).2).set (i % 4) ((((innS (newS key k).1 (t0 (newS key k).1 (k + 1) (newS key k).2) (k + 1) i).2).getD (i % 4) 0#8) ^^^ (((innS (newS key k).1 (t0 (newS key k).1 (k + 1) (newS key k).2) (k + 1) i).1).getD (((k + 1 - 1) * 16) + i) 0#8))).getD (i % 4) 0#8))).toArray 50 (0, 0)), (some b1, .cells (cel E8 key).toArray 22 (0, 0))]) rfl
      clear H195
      refine wnil ?_
      refine blockNormal ?_
      refine thenNormal ?_
      refine oneRegion ?_
      refine sq (r_addI (a := (i : Nat)) (b := (1 : Int)) rfl rfl (by omega)) ?_
      refine sq (r_move (v := i64 ((i : Nat) + (1 : Int))) rfl) ?_
      refine wnil ?_
      refine thenNormal ?_
      exact ⟨i + 1, _, rfl, ⟨rfl, rfl, rfl, rfl, rfl, rfl, rfl, trivial⟩, ⟨by omega, H195'⟩, by show 16 - (i + 1) < 16 - i; omega⟩
    · skip
      obtain rfl : i = 16 := by omega
      have H196 := H145.as (L' := [(some b8, .cells (cel E8 ((innS (newS key k).1 (t0 (newS key k).1 (k + 1) (newS key k).2) (k + 1) 16).2)).toArray 52 (0, 0)), (some b4, .cells (cel E8 ((newS key (k + 1)).1)).toArray 50 (0, 0)), (some b1, .cells (cel E8 key).toArray 22 (0, 0))]) (by rw [newS_succ])
      refine exitAny ?_
      refine thenExit ?_
      refine thenExit ?_
      refine blockHere ?_
      refine thenNormal ?_
      refine oneRegion ?_
      refine sq (r_move (v := u8 ((newS key k).2)) rfl) ?_
      refine c_call (vs := [u8 ((newS key k).2)]) call21 rfl (twice_ok ((newS key k).2) w144) ?_
      rintro _ w197 ⟨rfl, hE198⟩
      have H199 := H196.ext hE198
      refine sq (r_assign (v := u8 (xt ((newS key k).2))) rfl) ?_
      refine wnil ?_
      refine blockNormal ?_
      refine thenNormal ?_
      refine oneRegion ?_
      refine sq (r_move (v := i64 ((k + 1 : Nat))) rfl) ?_
      refine sq (r_addI (a := (k + 1 : Nat)) (b := (1 : Int)) rfl rfl (by omega)) ?_
      refine sq (r_assign (v := i64 ((k + 1 : Nat) + (1 : Int))) rfl) ?_
      refine wnil ?_
      refine thenNormal ?_
      exact ⟨k + 1, _, rfl, ⟨rfl, rfl, rfl, trivial⟩, ⟨by omega, H199.drop1⟩, by show 10 - (k + 1) < 10 - k; omega⟩
  · skip
    obtain rfl : k = 10 := by omega
    have H200 := H27.as (L' := [(some b4, .cells (cel E8 (cipher key)).toArray 50 (0, 0)), (some b1, .cells (cel E8 key).toArray 22 (0, 0))]) (by rw [cipher])
    refine exitAny ?_
    refine thenExit ?_
    refine thenExit ?_
    refine blockHere ?_
    refine thenNormal ?_
    refine seqRegion ?_
    refine sq (r_move (v := .pointer (some ⟨b4, 0, none⟩)) rfl) ?_
    refine sq (r_assign (v := .pointer (some ⟨b4, 0, none⟩)) rfl) ?_
    refine wend ?_
    refine retAny ?_
    refine retG (rs := [.tmp 2]) (vs := [.pointer (some ⟨b4, 0, none⟩)]) rfl ⟨⟨rfl, rfl⟩, trivial⟩ ?_
    exact ⟨_, rfl, ⟨_, rfl, by have := H200.own _ (List.mem_of_getElem? (i := 0) rfl) _ rfl; exact this.resolve_left (fun h => h), H200.get (k := 0) rfl⟩, H200.chg⟩

theorem enc_ok (bc : Nat) (cl : List By) (hcl : cl.length = 432) (b : List By) (hb : b.length = 16) (w : World) (hc : w.heap[bc]? = some (.cells (cel E8 cl).toArray 50 (0, 0))) : Calls Try.prog 10 [.pointer (some ⟨bc, 0, none⟩), .agg (cel E8 b).toArray].toArray w (Ret fun v w' => v = .agg (cel E8 (encL cl b)).toArray ∧ Ext w w') := by
  have H := Hp.start No w
  refine enter (n := 71) Try.func10 rfl rfl (Nat.le_of_ble_eq_true rfl) ?_
  refine seqRegion ?_
  refine q_box (v := .agg (cel E8 b).toArray) (o := .cells (cel E8 b).toArray 22 (0, 0)) H rfl (by rfl) ?_
  intro b1 w2 hb1 H3 _
  refine q_alloc (o := .cells (cel E8 (List.replicate 16 0#8)).toArray 22 (0, 0)) H3 zer22 (by kernel_rfl) ?_
  intro b4 w5 hb4 H6 _
  refine wend ?_
  refine seqAny ?_
  refine seqRegion ?_
  refine sq (r_move (v := i64 ((0 : Int))) rfl) ?_
  refine wend ?_
  refine blockAny ?_
  refine loopAny (σ := Nat) (fun i => [(0, .pointer (some ⟨bc, 0, none⟩)), (3, .pointer (some ⟨b1, 0, none⟩)), (4, .pointer (some ⟨b4, 0, none⟩)), (10, i64 ((i : Nat)))]) (fun i w' => i ≤ 16 ∧ Hp No w w' [(some b4, .cells (cel E8 (List.replicate 16 0#8)).toArray 22 (0, 0)), (some b1, .cells (cel E8 (addS cl b i)).toArray 22 (0, 0))]) (fun i => 16 - i) (0) ?_ ?_ ?_
  · exact ⟨rfl, rfl, rfl, rfl, trivial⟩
  · exact ⟨by omega, H6⟩
  rintro i ρ w7 ⟨hi, H8⟩
  have hl := addS_len cl b i
  rw [hb] at hl
  refine seqRegion ?_
  refine sq (r_lssI (a := (i : Nat)) (b := (16 : Int)) rfl rfl) ?_
  refine wend ?_
  refine seqAny ?_
  refine condProp ((i : Nat) < (16 : Int)) rfl (fun c11 => ?_) (fun c11 => ?_)
  · skip
    refine skipAny ?_
    refine thenNormal ?_
    refine seqAny ?_
    refine blockAny ?_
    refine seqRegion ?_
    refine sq (r_move (v := i64 ((i : Nat))) rfl) ?_
    refine sq (r_assign (v := i64 ((i : Nat))) rfl) ?_
    refine wend ?_
    refine drawAny (K := [none, none, none, none, none, none, none, none, none, none, none, none]) [0, 1, 3, 0, 0, 8, 40, 104, 248, 504, 1023, 2047, 4095] (fun w' => Ext w7 w') (fun w' w'' => Ext w' w'') mixed (by kernel_rfl) (Ext.drew _) (fun _ _ h h' => h.trans h') ?_ ?_
    · exact relNone (by decide)
    refine ⟨i64 ((i : Nat)), fun _ uw9 hC10 _ => Gives.run rfl (r_move (v := i64 ((i : Nat))) rfl) ⟨rfl, Chg.refl _ _⟩, ?_⟩
    refine ⟨.pointer (some ⟨b1, i, none⟩), fun _ uw11 hC12 _ => Gives.run rfl (r_indexA (off' := i) (j := i) arr22 (b := b1) (off := 0) rfl rfl (by first | rfl | omega | (simp; omega)) (by omega) (by omega)) ⟨rfl, Chg.refl _ _⟩, ?_⟩
    refine ⟨u8 ((addS cl b i).getD i 0#8), fun _ uw13 hC14 _ => Gives.run rfl (r_ld1 (E := E8) (l := addS cl b i) (j := i) (a := (addS cl b i).getD i 0#8) fits5 ((H8.ext hC14).get (k := 1) rfl) (at_getD (by first | omega | (simp only [List.length_set]; omega) | exact Nat.le_of_ble_eq_true rfl | (simp <;> omega))) rfl rfl) ⟨rfl, Chg.refl _ _⟩, ?_⟩
    refine ⟨.pointer (some ⟨bc, 0, none⟩), fun _ uw15 hC16 _ => Gives.run rfl (r_move (v := .pointer (some ⟨bc, 0, none⟩)) rfl) ⟨rfl, Chg.refl _ _⟩, ?_⟩
    refine ⟨i64 ((i : Nat)), fun _ uw17 hC18 _ => Gives.run rfl (r_move (v := i64 ((i : Nat))) rfl) ⟨rfl, Chg.refl _ _⟩, ?_⟩
    refine ⟨.pointer (some ⟨bc, 0, none⟩), fun _ uw19 hC20 _ => Gives.run rfl (r_nilCheck rfl) ⟨rfl, Chg.refl _ _⟩, ?_⟩
    refine ⟨.pointer (some ⟨bc, 0, none⟩), fun _ uw21 hC22 _ => Gives.run rfl (r_fieldAddr (off' := 0) fld50_0 (by decide) (b := bc) (off := 0) rfl (by omega)) ⟨rfl, Chg.refl _ _⟩, ?_⟩
    refine ⟨.pointer (some ⟨bc, 0, none⟩), fun _ uw23 hC24 _ => Gives.run rfl (r_indexA (off' := 0) (j := 0) arr47 (b := bc) (off := 0) rfl rfl (by first | rfl | omega | (simp; omega)) (by omega) (by omega)) ⟨rfl, Chg.refl _ _⟩, ?_⟩
    refine ⟨.pointer (some ⟨bc, i, none⟩), fun _ uw25 hC26 _ => Gives.run rfl (r_indexA (off' := i) (j := i) arr22 (b := bc) (off := 0) rfl rfl (by first | rfl | omega | (simp; omega)) (by omega) (by omega)) ⟨rfl, Chg.refl _ _⟩, ?_⟩
    refine ⟨u8 ((cl).getD i 0#8), fun _ uw27 hC28 _ => Gives.run rfl (r_ld1 (E := E8) (l := cl) (j := i) (a := (cl).getD i 0#8) fits5 ((H8.ext hC28).keepE hc) (at_getD (by first | omega | (simp only [List.length_set]; omega) | exact Nat.le_of_ble_eq_true rfl | (simp <;> omega))) rfl rfl) ⟨rfl, Chg.refl _ _⟩, ?_⟩
    refine ⟨u8 (((addS cl b i).getD i 0#8) ^^^ ((cl).getD i 0#8)), fun _ uw29 hC30 _ => Gives.run rfl (r_xor8 (a := (addS cl b i).getD i 0#8) (b := (cl).getD i 0#8) rfl rfl) ⟨rfl, Chg.refl _ _⟩, ?_⟩
    refine ⟨.pointer (some ⟨b1, i, none⟩), fun _ uw31 hC32 _ => Gives.run rfl (r_indexA (off' := i) (j := i) arr22 (b := b1) (off := 0) rfl rfl (by first | rfl | omega | (simp; omega)) (by omega) (by omega)) ⟨rfl, Chg.refl _ _⟩, ?_⟩
    intro r36 w33 hE35 hF
    have H34 := H8.ext hE35
    refine d_store (k := 1) (v := u8 (((addS cl b i).getD i 0#8) ^^^ ((cl).getD i 0#8))) (cs' := (cel E8 ((addS cl b i).set i (((addS cl b i).getD i 0#8) ^^^ ((cl).getD i 0#8)))).toArray) H34 rfl rfl rfl siz5 (by rfl) (by exact E8.one _) (by rw [List.size_toArray, cel_length]; show _ ≤ _ * 1; first | omega | (simp only [List.length_set]; omega) | exact Nat.le_of_ble_eq_true rfl | (simp <;> omega)) (by exact put1 (E := E8) rfl _ _ _) ?_
    intro w37 H38 _
    have H38' := H38.as (L' := [(some b4, .cells (cel E8 (List.replicate 16 0#8)).toArray 22 (0, 0)), (some b1, .cells (cel E8 ((addS cl b i).set i (((addS cl b i).getD i 0#8) ^^^ ((cl).getD i 0#8)))).toArray 22 (0, 0))]) rfl
    clear H38
    refine wnil ?_
    refine blockNormal ?_
    refine thenNormal ?_
    refine oneRegion ?_
    refine sq (r_addI (a := (i : Nat)) (b := (1 : Int)) rfl rfl (by omega)) ?_
    refine sq (r_move (v := i64 ((i : Nat) + (1 : Int))) rfl) ?_
    refine wnil ?_
    refine thenNormal ?_
    exact ⟨i + 1, _, rfl, ⟨rfl, rfl, rfl, rfl, trivial⟩, ⟨by omega, H38'⟩, by show 16 - (i + 1) < 16 - i; omega⟩
  · skip
    obtain rfl : i = 16 := by omega
    have H39 := H8.as (L' := [(some b4, .cells (cel E8 (List.replicate 16 0#8)).toArray 22 (0, 0)), (some b1, .cells (cel E8 (encS cl b 0)).toArray 22 (0, 0))]) (by rw [encS])
    refine exitAny ?_
    refine thenExit ?_
    refine thenExit ?_
    refine blockHere ?_
    refine thenNormal ?_
    refine seqAny ?_
    refine seqRegion ?_
    refine sq (r_assign (v := i64 ((1 : Int))) rfl) ?_
    refine wend ?_
    refine blockAny ?_
    refine loopAny (σ := Nat) (fun k => [(0, .pointer (some ⟨bc, 0, none⟩)), (3, .pointer (some ⟨b1, 0, none⟩)), (4, .pointer (some ⟨b4, 0, none⟩)), (6, i64 ((k + 1 : Nat)))]) (fun k w' => k ≤ 10 ∧ Hp No w w' [(some b4, .cells (cel E8 (List.replicate 16 0#8)).toArray 22 (0, 0)), (some b1, .cells (cel E8 (encS cl b k)).toArray 22 (0, 0))]) (fun k => 10 - k) (0) ?_ ?_ ?_
    · exact ⟨rfl, rfl, rfl, rfl, trivial⟩
    · exact ⟨by omega, H39⟩
    rintro k ρ w40 ⟨hk, H41⟩
    have hl := encS_len cl b k
    rw [hb] at hl
    refine seqAny ?_
    refine seqRegion ?_
    refine sq (r_move (v := i64 ((k + 1 : Nat))) rfl) ?_
    refine sq (r_leqI (a := (k + 1 : Nat)) (b := (10 : Int)) rfl rfl) ?_
    refine wend ?_
    refine condProp ((k + 1 : Nat) ≤ (10 : Int)) rfl (fun c27 => ?_) (fun c27 => ?_)
    · skip
      refine skipAny ?_
      refine thenNormal ?_
      refine seqAny ?_
      refine blockAny ?_
      refine seqRegion ?_
      refine q_alloc (o := .cells (cel E8 (List.replicate 16 0#8)).toArray 22 (0, 0)) H41 zer22 (by kernel_rfl) ?_
      intro b42 w43 hb42 H44 _
      refine wend ?_
      refine seqAny ?_
      refine seqRegion ?_
      refine sq (r_move (v := i64 ((0 : Int))) rfl) ?_
      refine wend ?_
      refine blockAny ?_
      refine loopAny (σ := Nat) (fun i => [(0, .pointer (some ⟨bc, 0, none⟩)), (3, .pointer (some ⟨b1, 0, none⟩)), (4, .pointer (some ⟨b4, 0, none⟩)), (6, i64 ((k + 1 : Nat))), (7, .pointer (some ⟨b42, 0, none⟩)), (30, i64 ((i : Nat)))]) (fun i w' => i ≤ 16 ∧ Hp No w w' [(some b42, .cells (cel E8 (subS cl (encS cl b k) i)).toArray 22 (0, 0)), (some b4, .cells (cel E8 (List.replicate 16 0#8)).toArray 22 (0, 0)), (some b1, .cells (cel E8 (encS cl b k)).toArray 22 (0, 0))]) (fun i => 16 - i) (0) ?_ ?_ ?_
      · exact ⟨rfl, rfl, rfl, rfl, rfl, rfl, trivial⟩
      · exact ⟨by omega, H44⟩
      rintro i ρ w45 ⟨hi, H46⟩
      have hs := subS_len cl (encS cl b k) i
      refine seqRegion ?_
      refine sq (r_lssI (a := (i : Nat)) (b := (16 : Int)) rfl rfl) ?_
      refine wend ?_
      refine seqAny ?_
      refine condProp ((i : Nat) < (16 : Int)) rfl (fun c31 => ?_) (fun c31 => ?_)
      · skip
        refine skipAny ?_
        refine thenNormal ?_
        refine seqAny ?_
        refine blockAny ?_
        refine seqRegion ?_
        refine sq (r_move (v := i64 ((i : Nat))) rfl) ?_
        refine sq (r_assign (v := i64 ((i : Nat))) rfl) ?_
        refine wend ?_
        refine drawAny (K := [none, none, none, none, none, none, none, none, none, none, none, none, none, none, none]) [0, 0, 0, 0, 8, 24, 60, 124, 252, 508, 2, 1026, 4094, 8190, 16383, 32767] (fun w' => Ext w45 w') (fun w' w'' => Ext w' w'') mixed (by kernel_rfl) (Ext.drew _) (fun _ _ h h' => h.trans h') ?_ ?_
        · exact relNone (by decide)
        refine ⟨i64 ((i : Nat)), fun _ uw47 hC48 _ => Gives.run rfl (r_move (v := i64 ((i : Nat))) rfl) ⟨rfl, Chg.refl _ _⟩, ?_⟩
        refine ⟨.pointer (some ⟨bc, 0, none⟩), fun _ uw49 hC50 _ => Gives.run rfl (r_move (v := .pointer (some ⟨bc, 0, none⟩)) rfl) ⟨rfl, Chg.refl _ _⟩, ?_⟩
        refine ⟨i64 ((i : Nat)), fun _ uw51 hC52 _ => Gives.run rfl (r_move (v := i64 ((i : Nat))) rfl) ⟨rfl, Chg.refl _ _⟩, ?_⟩
        refine ⟨i64 ((i : Nat)), fun _ uw53 hC54 _ => Gives.run rfl (r_move (v := i64 ((i : Nat))) rfl) ⟨rfl, Chg.refl _ _⟩, ?_⟩
        refine ⟨i64 ((i : Nat) % (4 : Int)), fun _ uw55 hC56 _ => Gives.run rfl (r_remI (a := (i : Nat)) (b := (4 : Int)) rfl rfl (by omega)) ⟨rfl, Chg.refl _ _⟩, ?_⟩
        refine ⟨i64 ((4 : Int) * ((i : Nat) % (4 : Int))), fun _ uw57 hC58 _ => Gives.run rfl (r_mulI (a := (4 : Int)) (b := (i : Nat) % (4 : Int)) rfl rfl (by omega)) ⟨rfl, Chg.refl _ _⟩, ?_⟩
        refine ⟨i64 ((i : Nat) + ((4 : Int) * ((i : Nat) % (4 : Int)))), fun _ uw59 hC60 _ => Gives.run rfl (r_addI (a := (i : Nat)) (b := (4 : Int) * ((i : Nat) % (4 : Int))) rfl rfl (by omega)) ⟨rfl, Chg.refl _ _⟩, ?_⟩
        refine ⟨i64 (((i : Nat) + ((4 : Int) * ((i : Nat) % (4 : Int)))) % (16 : Int)), fun _ uw61 hC62 _ => Gives.run rfl (r_remI (a := (i : Nat) + ((4 : Int) * ((i : Nat) % (4 : Int)))) (b := (16 : Int)) rfl rfl (by omega)) ⟨rfl, Chg.refl _ _⟩, ?_⟩
        refine ⟨.pointer (some ⟨b1, (i + (4 * (i % 4))) % 16, none⟩), fun _ uw63 hC64 _ => Gives.run rfl (r_indexA (off' := (i + (4 * (i % 4))) % 16) (j := (i + (4 * (i % 4))) % 16) arr22 (b := b1) (off := 0) rfl rfl (by first | rfl | omega | (simp; omega)) (by omega) (by omega)) ⟨rfl, Chg.refl _ _⟩, ?_⟩
        refine ⟨u8 (((encS cl b k)).getD ((i + (4 * (i % 4))) % 16) 0#8), fun _ uw65 hC66 _ => Gives.run rfl (r_ld1 (E := E8) (l := (encS cl b k)) (j := (i + (4 * (i % 4))) % 16) (a := ((encS cl b k)).getD ((i + (4 * (i % 4))) % 16) 0#8) fits5 ((H46.ext hC66).get (k := 2) rfl) (at_getD (by first | omega | (simp only [List.length_set]; omega) | exact Nat.le_of_ble_eq_true rfl | (simp <;> omega))) rfl rfl) ⟨rfl, Chg.refl _ _⟩, ?_⟩
        refine ⟨.pointer (some ⟨bc, 0, none⟩), fun _ uw67 hC68 _ => Gives.run rfl (r_nilCheck rfl) ⟨rfl, Chg.refl _ _⟩, ?_⟩
        refine ⟨.pointer (some ⟨bc, 176, none⟩), fun _ uw69 hC70 _ => Gives.run rfl (r_fieldAddr (off' := 176) fld50_1 (by decide) (b := bc) (off := 0) rfl (by omega)) ⟨rfl, Chg.refl _ _⟩, ?_⟩
        refine ⟨.pointer (some ⟨bc, 176 + ((((encS cl b k)).getD ((i + (4 * (i % 4))) % 16) 0#8).toNat), none⟩), fun _ uw71 hC72 _ => Gives.run rfl (r_indexA (off' := 176 + ((((encS cl b k)).getD ((i + (4 * (i % 4))) % 16) 0#8).toNat)) (j := (((encS cl b k)).getD ((i + (4 * (i % 4))) % 16) 0#8).toNat) arr48 (b := bc) (off := 176) rfl rfl (by first | rfl | omega | (simp; omega)) (BitVec.isLt _) (by omega)) ⟨rfl, Chg.refl _ _⟩, ?_⟩
        refine ⟨u8 ((cl).getD (176 + ((((encS cl b k)).getD ((i + (4 * (i % 4))) % 16) 0#8).toNat)) 0#8), fun _ uw73 hC74 _ => Gives.run rfl (r_ld1 (E := E8) (l := cl) (j := 176 + ((((encS cl b k)).getD ((i + (4 * (i % 4))) % 16) 0#8).toNat)) (a := (cl).getD (176 + ((((encS cl b k)).getD ((i + (4 * (i % 4))) % 16) 0#8).toNat)) 0#8) fits5 ((H46.ext hC74).keepE hc) (at_getD (by have := ((encS cl b k).getD ((i + 4 * (i % 4)) % 16) 0#8).isLt; omega)) rfl rfl) ⟨rfl, Chg.refl _ _⟩, ?_⟩
        refine ⟨.pointer (some ⟨b42, i, none⟩), fun _ uw75 hC76 _ => Gives.run rfl (r_indexA (off' := i) (j := i) arr22 (b := b42) (off := 0) rfl rfl (by first | rfl | omega | (simp; omega)) (by omega) (by omega)) ⟨rfl, Chg.refl _ _⟩, ?_⟩
        intro r80 w77 hE79 hF
        have H78 := H46.ext hE79
        refine d_store (k := 0) (v := u8 ((cl).getD (176 + ((((encS cl b k)).getD ((i + (4 * (i % 4))) % 16) 0#8).toNat)) 0#8)) (cs' := (cel E8 ((subS cl (encS cl b k) i).set i ((cl).getD (176 + ((((encS cl b k)).getD ((i + (4 * (i % 4))) % 16) 0#8).toNat)) 0#8))).toArray) H78 rfl rfl rfl siz5 (by rfl) (by exact E8.one _) (by rw [List.size_toArray, cel_length]; show _ ≤ _ * 1; first | omega | (simp only [List.length_set]; omega) | exact Nat.le_of_ble_eq_true rfl | (simp <;> omega)) (by exact put1 (E := E8) rfl _ _ _) ?_
        intro w81 H82 _
        have H82' := H82.as (L' := [(some b42, .cells (cel E8 ((subS cl (encS cl b k) i).set i ((cl).getD (176 + ((((encS cl b k)).getD ((i + (4 * (i % 4))) % 16) 0#8).toNat)) 0#8))).toArray 22 (0, 0)), (some b4, .cells (cel E8 (List.replicate 16 0#8)).toArray 22 (0, 0)), (some b1, .cells (cel E8 (encS cl b k)).toArray 22 (0, 0))]) rfl
        clear H82
        refine wnil ?_
        refine blockNormal ?_
        refine thenNormal ?_
        refine oneRegion ?_
        refine sq (r_addI (a := (i : Nat)) (b := (1 : Int)) rfl rfl (by omega)) ?_
        refine sq (r_move (v := i64 ((i : Nat) + (1 : Int))) rfl) ?_
        refine wnil ?_
        refine thenNormal ?_
        exact ⟨i + 1, _, rfl, ⟨rfl, rfl, rfl, rfl, rfl, rfl, trivial⟩, ⟨by omega, H82'⟩, by show 16 - (i + 1) < 16 - i; omega⟩
      · skip
        obtain rfl : i = 16 := by omega
        have H83 := H46.as (L' := [(some b42, .cells (cel E8 (subS cl (encS cl b k) 16)).toArray 22 (0, 0)), (some b4, .cells (cel E8 (List.replicate 16 0#8)).toArray 22 (0, 0)), (some b1, .cells (cel E8 (encS cl b k)).toArray 22 (0, 0))]) (rfl)
        refine exitAny ?_
        refine thenExit ?_
        refine thenExit ?_
        refine blockHere ?_
        refine thenNormal ?_
        refine seqAny ?_
        refine seqRegion ?_
        refine sq (r_move (v := i64 ((k + 1 : Nat))) rfl) ?_
        refine sq (r_lssI (a := (k + 1 : Nat)) (b := (10 : Int)) rfl rfl) ?_
        refine wend ?_
        refine condProp ((k + 1 : Nat) < (10 : Int)) rfl (fun c50 => ?_) (fun c50 => ?_)
        · skip
          refine oneRegion ?_
          refine c_call (vs := [.pointer (some ⟨b42, 0, none⟩)]) call22 rfl (mix_ok b42 (subS cl (encS cl b k) 16) (subS_len _ _ _) w45 (H83.get (k := 0) rfl)) ?_
          rintro _ w84 ⟨rfl, hcw84, hnw84⟩
          rw [show mixL (subS cl (encS cl b k) 16) = (rndT cl (encS cl b k) (k + 1)) by simp only [rndT]; rw [if_pos (by omega)]] at hnw84
          have H86 := (H83.set (k := 0) rfl hcw84 hnw84).as (L' := [(some b42, .cells (cel E8 (rndT cl (encS cl b k) (k + 1))).toArray 22 (0, 0)), (some b4, .cells (cel E8 (List.replicate 16 0#8)).toArray 22 (0, 0)), (some b1, .cells (cel E8 (encS cl b k)).toArray 22 (0, 0))]) rfl
          refine wnil ?_
          refine thenNormal ?_
          refine seqRegion ?_
          refine sq (r_move (v := i64 ((0 : Int))) rfl) ?_
          refine wend ?_
          refine blockAny ?_
          refine loopAny (σ := Nat) (fun i => [(0, .pointer (some ⟨bc, 0, none⟩)), (3, .pointer (some ⟨b1, 0, none⟩)), (4, .pointer (some ⟨b4, 0, none⟩)), (6, i64 ((k + 1 : Nat))), (7, .pointer (some ⟨b42, 0, none⟩)), (52, i64 ((i : Nat)))]) (fun i w' => i ≤ 16 ∧ Hp No w w' [(some b42, .cells (cel E8 (rndT cl (encS cl b k) (k + 1))).toArray 22 (0, 0)), (some b4, .cells (cel E8 (List.replicate 16 0#8)).toArray 22 (0, 0)), (some b1, .cells (cel E8 (keyS cl (rndT cl (encS cl b k) (k + 1)) (encS cl b k) (k + 1) i)).toArray 22 (0, 0))]) (fun i => 16 - i) (0) ?_ ?_ ?_
          · exact ⟨rfl, rfl, rfl, rfl, rfl, rfl, trivial⟩
          · exact ⟨by omega, H86⟩
          rintro i ρ w87 ⟨hi, H88⟩
          have hr := rndT_len cl (encS cl b k) (k + 1)
          have hq := keyS_len cl (rndT cl (encS cl b k) (k + 1)) (encS cl b k) (k + 1) i
          rw [hl] at hq
          refine seqRegion ?_
          refine sq (r_lssI (a := (i : Nat)) (b := (16 : Int)) rfl rfl) ?_
          refine wend ?_
          refine seqAny ?_
          refine condProp ((i : Nat) < (16 : Int)) rfl (fun c53 => ?_) (fun c53 => ?_)
          · skip
            refine skipAny ?_
            refine thenNormal ?_
            refine seqAny ?_
            refine blockAny ?_
            refine seqRegion ?_
            refine sq (r_move (v := i64 ((i : Nat))) rfl) ?_
            refine sq (r_assign (v := i64 ((i : Nat))) rfl) ?_
            refine wend ?_
            refine drawAny (K := [none, none, none, none, none, none, none, none, none, none, none, none, none, none]) [0, 0, 2, 6, 0, 0, 0, 16, 144, 432, 1008, 2032, 4094, 8191, 16383] (fun w' => Ext w87 w') (fun w' w'' => Ext w' w'') mixed (by kernel_rfl) (Ext.drew _) (fun _ _ h h' => h.trans h') ?_ ?_
            · exact relNone (by decide)
            refine ⟨i64 ((i : Nat)), fun _ uw89 hC90 _ => Gives.run rfl (r_move (v := i64 ((i : Nat))) rfl) ⟨rfl, Chg.refl _ _⟩, ?_⟩
            refine ⟨i64 ((i : Nat)), fun _ uw91 hC92 _ => Gives.run rfl (r_move (v := i64 ((i : Nat))) rfl) ⟨rfl, Chg.refl _ _⟩, ?_⟩
            refine ⟨.pointer (some ⟨b42, i, none⟩), fun _ uw93 hC94 _ => Gives.run rfl (r_indexA (off' := i) (j := i) arr22 (b := b42) (off := 0) rfl rfl (by first | rfl | omega | (simp; omega)) (by omega) (by omega)) ⟨rfl, Chg.refl _ _⟩, ?_⟩
            refine ⟨u8 (((rndT cl (encS cl b k) (k + 1))).getD i 0#8), fun _ uw95 hC96 _ => Gives.run rfl (r_ld1 (E := E8) (l := (rndT cl (encS cl b k) (k + 1))) (j := i) (a := ((rndT cl (encS cl b k) (k + 1))).getD i 0#8) fits5 ((H88.ext hC96).get (k := 0) rfl) (at_getD (by first | omega | (simp only [List.length_set]; omega) | exact Nat.le_of_ble_eq_true rfl | (simp <;> omega))) rfl rfl) ⟨rfl, Chg.refl _ _⟩, ?_⟩
            refine ⟨.pointer (some ⟨bc, 0, none⟩), fun _ uw97 hC98 _ => Gives.run rfl (r_move (v := .pointer (some ⟨bc, 0, none⟩)) rfl) ⟨rfl, Chg.refl _ _⟩, ?_⟩
            refine ⟨i64 ((k + 1 : Nat)), fun _ uw99 hC100 _ => Gives.run rfl (r_move (v := i64 ((k + 1 : Nat))) rfl) ⟨rfl, Chg.refl _ _⟩, ?_⟩
            refine ⟨i64 ((i : Nat)), fun _ uw101 hC102 _ => Gives.run rfl (r_move (v := i64 ((i : Nat))) rfl) ⟨rfl, Chg.refl _ _⟩, ?_⟩
            refine ⟨.pointer (some ⟨bc, 0, none⟩), fun _ uw103 hC104 _ => Gives.run rfl (r_nilCheck rfl) ⟨rfl, Chg.refl _ _⟩, ?_⟩
            refine ⟨.pointer (some ⟨bc, 0, none⟩), fun _ uw105 hC106 _ => Gives.run rfl (r_fieldAddr (off' := 0) fld50_0 (by decide) (b := bc) (off := 0) rfl (by omega)) ⟨rfl, Chg.refl _ _⟩, ?_⟩
            refine ⟨.pointer (some ⟨bc, (k + 1) * 16, none⟩), fun _ uw107 hC108 _ => Gives.run rfl (r_indexA (off' := (k + 1) * 16) (j := k + 1) arr47 (b := bc) (off := 0) rfl rfl (by first | rfl | omega | (simp; omega)) (by omega) (by omega)) ⟨rfl, Chg.refl _ _⟩, ?_⟩
            refine ⟨.pointer (some ⟨bc, ((k + 1) * 16) + i, none⟩), fun _ uw109 hC110 _ => Gives.run rfl (r_indexA (off' := ((k + 1) * 16) + i) (j := i) arr22 (b := bc) (off := (k + 1) * 16) rfl rfl (by first | rfl | omega | (simp; omega)) (by omega) (by omega)) ⟨rfl, Chg.refl _ _⟩, ?_⟩
            refine ⟨u8 ((cl).getD (((k + 1) * 16) + i) 0#8), fun _ uw111 hC112 _ => Gives.run rfl (r_ld1 (E := E8) (l := cl) (j := ((k + 1) * 16) + i) (a := (cl).getD (((k + 1) * 16) + i) 0#8) fits5 ((H88.ext hC112).keepE hc) (at_getD (by first | omega | (simp only [List.length_set]; omega) | exact Nat.le_of_ble_eq_true rfl | (simp <;> omega))) rfl rfl) ⟨rfl, Chg.refl _ _⟩, ?_⟩
            refine ⟨u8 ((((rndT cl (encS cl b k) (k + 1))).getD i 0#8) ^^^ ((cl).getD (((k + 1) * 16) + i) 0#8)), fun _ uw113 hC114 _ => Gives.run rfl (r_xor8 (a := ((rndT cl (encS cl b k) (k + 1))).getD i 0#8) (b := (cl).getD (((k + 1) * 16) + i) 0#8) rfl rfl) ⟨rfl, Chg.refl _ _⟩, ?_⟩
            refine ⟨.pointer (some ⟨b1, i, none⟩), fun _ uw115 hC116 _ => Gives.run rfl (r_indexA (off' := i) (j := i) arr22 (b := b1) (off := 0) rfl rfl (by first | rfl | omega | (simp; omega)) (by omega) (by omega)) ⟨rfl, Chg.refl _ _⟩, ?_⟩
            intro r120 w117 hE119 hF
            have H118 := H88.ext hE119
            refine d_store (k := 2) (v := u8 ((((rndT cl (encS cl b k) (k + 1))).getD i 0#8) ^^^ ((cl).getD (((k + 1) * 16) + i) 0#8))) (cs' := (cel E8 ((keyS cl (rndT cl (encS cl b k) (k + 1)) (encS cl b k) (k + 1) i).set i ((((rndT cl (encS cl b k) (k + 1))).getD i 0#8) ^^^ ((cl).getD (((k + 1) * 16) + i) 0#8)))).toArray) H118 rfl rfl rfl siz5 (by rfl) (by exact E8.one _) (by rw [List.size_toArray, cel_length]; show _ ≤ _ * 1; first | omega | (simp only [List.length_set]; omega) | exact Nat.le_of_ble_eq_true rfl | (simp <;> omega)) (by exact put1 (E := E8) rfl _ _ _) ?_
            intro w121 H122 _
            have H122' := H122.as (L' := [(some b42, .cells (cel E8 (rndT cl (encS cl b k) (k + 1))).toArray 22 (0, 0)), (some b4, .cells (cel E8 (List.replicate 16 0#8)).toArray 22 (0, 0)), (some b1, .cells (cel E8 ((keyS cl (rndT cl (encS cl b k) (k + 1)) (encS cl b k) (k + 1) i).set i ((((rndT cl (encS cl b k) (k + 1))).getD i 0#8) ^^^ ((cl).getD (((k + 1) * 16) + i) 0#8)))).toArray 22 (0, 0))]) rfl
            clear H122
            refine wnil ?_
            refine blockNormal ?_
            refine thenNormal ?_
            refine oneRegion ?_
            refine sq (r_addI (a := (i : Nat)) (b := (1 : Int)) rfl rfl (by omega)) ?_
            refine sq (r_move (v := i64 ((i : Nat) + (1 : Int))) rfl) ?_
            refine wnil ?_
            refine thenNormal ?_
            exact ⟨i + 1, _, rfl, ⟨rfl, rfl, rfl, rfl, rfl, rfl, trivial⟩, ⟨by omega, H122'⟩, by show 16 - (i + 1) < 16 - i; omega⟩
          · skip
            obtain rfl : i = 16 := by omega
            have H123 := H88.as (L' := [(some b42, .cells (cel E8 (rndT cl (encS cl b k) (k + 1))).toArray 22 (0, 0)), (some b4, .cells (cel E8 (List.replicate 16 0#8)).toArray 22 (0, 0)), (some b1, .cells (cel E8 (encS cl b (k + 1))).toArray 22 (0, 0))]) (by rw [encS])
            refine exitAny ?_
            refine thenExit ?_
            refine thenExit ?_
            refine blockHere ?_
            refine blockNormal ?_
            refine thenNormal ?_
            refine oneRegion ?_
            refine sq (r_move (v := i64 ((k + 1 : Nat))) rfl) ?_
            refine sq (r_addI (a := (k + 1 : Nat)) (b := (1 : Int)) rfl rfl (by omega)) ?_
            refine sq (r_assign (v := i64 ((k + 1 : Nat) + (1 : Int))) rfl) ?_
            refine wnil ?_
            refine thenNormal ?_
            exact ⟨k + 1, _, rfl, ⟨rfl, rfl, rfl, rfl, trivial⟩, ⟨by omega, H123.drop1⟩, by show 10 - (k + 1) < 10 - k; omega⟩
        · skip
          have H124 := H83
          rw [show subS cl (encS cl b k) 16 = (rndT cl (encS cl b k) (k + 1)) by simp only [rndT]; rw [if_neg (by omega)]] at H124
          refine skipAny ?_
          refine thenNormal ?_
          refine seqRegion ?_
          refine sq (r_move (v := i64 ((0 : Int))) rfl) ?_
          refine wend ?_
          refine blockAny ?_
          refine loopAny (σ := Nat) (fun i => [(0, .pointer (some ⟨bc, 0, none⟩)), (3, .pointer (some ⟨b1, 0, none⟩)), (4, .pointer (some ⟨b4, 0, none⟩)), (6, i64 ((k + 1 : Nat))), (7, .pointer (some ⟨b42, 0, none⟩)), (52, i64 ((i : Nat)))]) (fun i w' => i ≤ 16 ∧ Hp No w w' [(some b42, .cells (cel E8 (rndT cl (encS cl b k) (k + 1))).toArray 22 (0, 0)), (some b4, .cells (cel E8 (List.replicate 16 0#8)).toArray 22 (0, 0)), (some b1, .cells (cel E8 (keyS cl (rndT cl (encS cl b k) (k + 1)) (encS cl b k) (k + 1) i)).toArray 22 (0, 0))]) (fun i => 16 - i) (0) ?_ ?_ ?_
          · exact ⟨rfl, rfl, rfl, rfl, rfl, rfl, trivial⟩
          · exact ⟨by omega, H124⟩
          rintro i ρ w125 ⟨hi, H126⟩
          have hr := rndT_len cl (encS cl b k) (k + 1)
          have hq := keyS_len cl (rndT cl (encS cl b k) (k + 1)) (encS cl b k) (k + 1) i
          rw [hl] at hq
          refine seqRegion ?_
          refine sq (r_lssI (a := (i : Nat)) (b := (16 : Int)) rfl rfl) ?_
          refine wend ?_
          refine seqAny ?_
          refine condProp ((i : Nat) < (16 : Int)) rfl (fun c53 => ?_) (fun c53 => ?_)
          · skip
            refine skipAny ?_
            refine thenNormal ?_
            refine seqAny ?_
            refine blockAny ?_
            refine seqRegion ?_
            refine sq (r_move (v := i64 ((i : Nat))) rfl) ?_
            refine sq (r_assign (v := i64 ((i : Nat))) rfl) ?_
            refine wend ?_
            refine drawAny (K := [none, none, none, none, none, none, none, none, none, none, none, none, none, none]) [0, 0, 2, 6, 0, 0, 0, 16, 144, 432, 1008, 2032, 4094, 8191, 16383] (fun w' => Ext w125 w') (fun w' w'' => Ext w' w'') mixed (by kernel_rfl) (Ext.drew _) (fun _ _ h h' => h.trans h') ?_ ?_
            · exact relNone (by decide)
            refine ⟨i64 ((i : Nat)), fun _ uw127 hC128 _ => Gives.run rfl (r_move (v := i64 ((i : Nat))) rfl) ⟨rfl, Chg.refl _ _⟩, ?_⟩
            refine ⟨i64 ((i : Nat)), fun _ uw129 hC130 _ => Gives.run rfl (r_move (v := i64 ((i : Nat))) rfl) ⟨rfl, Chg.refl _ _⟩, ?_⟩
            refine ⟨.pointer (some ⟨b42, i, none⟩), fun _ uw131 hC132 _ => Gives.run rfl (r_indexA (off' := i) (j := i) arr22 (b := b42) (off := 0) rfl rfl (by first | rfl | omega | (simp; omega)) (by omega) (by omega)) ⟨rfl, Chg.refl _ _⟩, ?_⟩
            refine ⟨u8 (((rndT cl (encS cl b k) (k + 1))).getD i 0#8), fun _ uw133 hC134 _ => Gives.run rfl (r_ld1 (E := E8) (l := (rndT cl (encS cl b k) (k + 1))) (j := i) (a := ((rndT cl (encS cl b k) (k + 1))).getD i 0#8) fits5 ((H126.ext hC134).get (k := 0) rfl) (at_getD (by first | omega | (simp only [List.length_set]; omega) | exact Nat.le_of_ble_eq_true rfl | (simp <;> omega))) rfl rfl) ⟨rfl, Chg.refl _ _⟩, ?_⟩
            refine ⟨.pointer (some ⟨bc, 0, none⟩), fun _ uw135 hC136 _ => Gives.run rfl (r_move (v := .pointer (some ⟨bc, 0, none⟩)) rfl) ⟨rfl, Chg.refl _ _⟩, ?_⟩
            refine ⟨i64 ((k + 1 : Nat)), fun _ uw137 hC138 _ => Gives.run rfl (r_move (v := i64 ((k + 1 : Nat))) rfl) ⟨rfl, Chg.refl _ _⟩, ?_⟩
            refine ⟨i64 ((i : Nat)), fun _ uw139 hC140 _ => Gives.run rfl (r_move (v := i64 ((i : Nat))) rfl) ⟨rfl, Chg.refl _ _⟩, ?_⟩
            refine ⟨.pointer (some ⟨bc, 0, none⟩), fun _ uw141 hC142 _ => Gives.run rfl (r_nilCheck rfl) ⟨rfl, Chg.refl _ _⟩, ?_⟩
            refine ⟨.pointer (some ⟨bc, 0, none⟩), fun _ uw143 hC144 _ => Gives.run rfl (r_fieldAddr (off' := 0) fld50_0 (by decide) (b := bc) (off := 0) rfl (by omega)) ⟨rfl, Chg.refl _ _⟩, ?_⟩
            refine ⟨.pointer (some ⟨bc, (k + 1) * 16, none⟩), fun _ uw145 hC146 _ => Gives.run rfl (r_indexA (off' := (k + 1) * 16) (j := k + 1) arr47 (b := bc) (off := 0) rfl rfl (by first | rfl | omega | (simp; omega)) (by omega) (by omega)) ⟨rfl, Chg.refl _ _⟩, ?_⟩
            refine ⟨.pointer (some ⟨bc, ((k + 1) * 16) + i, none⟩), fun _ uw147 hC148 _ => Gives.run rfl (r_indexA (off' := ((k + 1) * 16) + i) (j := i) arr22 (b := bc) (off := (k + 1) * 16) rfl rfl (by first | rfl | omega | (simp; omega)) (by omega) (by omega)) ⟨rfl, Chg.refl _ _⟩, ?_⟩
            refine ⟨u8 ((cl).getD (((k + 1) * 16) + i) 0#8), fun _ uw149 hC150 _ => Gives.run rfl (r_ld1 (E := E8) (l := cl) (j := ((k + 1) * 16) + i) (a := (cl).getD (((k + 1) * 16) + i) 0#8) fits5 ((H126.ext hC150).keepE hc) (at_getD (by first | omega | (simp only [List.length_set]; omega) | exact Nat.le_of_ble_eq_true rfl | (simp <;> omega))) rfl rfl) ⟨rfl, Chg.refl _ _⟩, ?_⟩
            refine ⟨u8 ((((rndT cl (encS cl b k) (k + 1))).getD i 0#8) ^^^ ((cl).getD (((k + 1) * 16) + i) 0#8)), fun _ uw151 hC152 _ => Gives.run rfl (r_xor8 (a := ((rndT cl (encS cl b k) (k + 1))).getD i 0#8) (b := (cl).getD (((k + 1) * 16) + i) 0#8) rfl rfl) ⟨rfl, Chg.refl _ _⟩, ?_⟩
            refine ⟨.pointer (some ⟨b1, i, none⟩), fun _ uw153 hC154 _ => Gives.run rfl (r_indexA (off' := i) (j := i) arr22 (b := b1) (off := 0) rfl rfl (by first | rfl | omega | (simp; omega)) (by omega) (by omega)) ⟨rfl, Chg.refl _ _⟩, ?_⟩
            intro r158 w155 hE157 hF
            have H156 := H126.ext hE157
            refine d_store (k := 2) (v := u8 ((((rndT cl (encS cl b k) (k + 1))).getD i 0#8) ^^^ ((cl).getD (((k + 1) * 16) + i) 0#8))) (cs' := (cel E8 ((keyS cl (rndT cl (encS cl b k) (k + 1)) (encS cl b k) (k + 1) i).set i ((((rndT cl (encS cl b k) (k + 1))).getD i 0#8) ^^^ ((cl).getD (((k + 1) * 16) + i) 0#8)))).toArray) H156 rfl rfl rfl siz5 (by rfl) (by exact E8.one _) (by rw [List.size_toArray, cel_length]; show _ ≤ _ * 1; first | omega | (simp only [List.length_set]; omega) | exact Nat.le_of_ble_eq_true rfl | (simp <;> omega)) (by exact put1 (E := E8) rfl _ _ _) ?_
            intro w159 H160 _
            have H160' := H160.as (L' := [(some b42, .cells (cel E8 (rndT cl (encS cl b k) (k + 1))).toArray 22 (0, 0)), (some b4, .cells (cel E8 (List.replicate 16 0#8)).toArray 22 (0, 0)), (some b1, .cells (cel E8 ((keyS cl (rndT cl (encS cl b k) (k + 1)) (encS cl b k) (k + 1) i).set i ((((rndT cl (encS cl b k) (k + 1))).getD i 0#8) ^^^ ((cl).getD (((k + 1) * 16) + i) 0#8)))).toArray 22 (0, 0))]) rfl
            clear H160
            refine wnil ?_
            refine blockNormal ?_
            refine thenNormal ?_
            refine oneRegion ?_
            refine sq (r_addI (a := (i : Nat)) (b := (1 : Int)) rfl rfl (by omega)) ?_
            refine sq (r_move (v := i64 ((i : Nat) + (1 : Int))) rfl) ?_
            refine wnil ?_
            refine thenNormal ?_
            exact ⟨i + 1, _, rfl, ⟨rfl, rfl, rfl, rfl, rfl, rfl, trivial⟩, ⟨by omega, H160'⟩, by show 16 - (i + 1) < 16 - i; omega⟩
          · skip
            obtain rfl : i = 16 := by omega
            have H161 := H126.as (L' := [(some b42, .cells (cel E8 (rndT cl (encS cl b k) (k + 1))).toArray 22 (0, 0)), (some b4, .cells (cel E8 (List.replicate 16 0#8)).toArray 22 (0, 0)), (some b1, .cells (cel E8 (encS cl b (k + 1))).toArray 22 (0, 0))]) (by rw [encS])
            refine exitAny ?_
            refine thenExit ?_
            refine thenExit ?_
            refine blockHere ?_
            refine blockNormal ?_
            refine thenNormal ?_
            refine oneRegion ?_
            refine sq (r_move (v := i64 ((k + 1 : Nat))) rfl) ?_
            refine sq (r_addI (a := (k + 1 : Nat)) (b := (1 : Int)) rfl rfl (by omega)) ?_
            refine sq (r_assign (v := i64 ((k + 1 : Nat) + (1 : Int))) rfl) ?_
            refine wnil ?_
            refine thenNormal ?_
            exact ⟨k + 1, _, rfl, ⟨rfl, rfl, rfl, rfl, trivial⟩, ⟨by omega, H161.drop1⟩, by show 10 - (k + 1) < 10 - k; omega⟩
    · skip
      obtain rfl : k = 10 := by omega
      have H162 := H41.as (L' := [(some b4, .cells (cel E8 (List.replicate 16 0#8)).toArray 22 (0, 0)), (some b1, .cells (cel E8 (encL cl b)).toArray 22 (0, 0))]) (by rw [encL])
      refine exitAny ?_
      refine thenExit ?_
      refine thenExit ?_
      refine blockHere ?_
      refine thenNormal ?_
      refine seqRegion ?_
      refine sq (r_loadA (cs' := (cel E8 (encL cl b)).toArray) agg22 siz22 (H162.get (k := 1) rfl) (off := 0) rfl (by rw [List.size_toArray, cel_length, encL_len, hb]; decide) (by exact ext_all (by rw [cel_length, encL_len, hb]; rfl))) ?_
      refine d_store (k := 0) (v := .agg (cel E8 (encL cl b)).toArray) (cs' := (cel E8 (encL cl b)).toArray) H162 rfl rfl rfl siz22 (by exact celSize (by rw [encL_len, hb]; rfl)) (by exact celOne _) (by rw [List.size_toArray, cel_length]; show _ ≤ _ * 1; first | omega | (simp only [List.length_set]; omega) | exact Nat.le_of_ble_eq_true rfl | (simp <;> omega)) (by exact putAll (by rw [encL_len, hb]; rfl)) ?_
      intro w163 H164 _
      have H164' := H164.as (L' := [(some b4, .cells (cel E8 (encL cl b)).toArray 22 (0, 0)), (some b1, .cells (cel E8 (encL cl b)).toArray 22 (0, 0))]) rfl
      clear H164
      refine wend ?_
      refine retAny ?_
      refine retG (rs := [.cell 4 22]) (vs := [.agg (cel E8 (encL cl b)).toArray]) rfl ⟨r_loadA (cs' := (cel E8 (encL cl b)).toArray) agg22 siz22 (H164'.get (k := 0) rfl) (off := 0) rfl (by rw [List.size_toArray, cel_length, encL_len, hb]; decide) (by exact ext_all (by rw [cel_length, encL_len, hb]; rfl)), trivial⟩ ?_
      exact ⟨_, rfl, rfl, H164'.chg⟩

theorem word_ok (bc : Nat) (cl : List By) (hcl : cl.length = 432) (n : BitVec 64) (w : World) (hc : w.heap[bc]? = some (.cells (cel E8 cl).toArray 50 (0, 0))) : Calls Try.prog 13 [.pointer (some ⟨bc, 0, none⟩), u64 (n)].toArray w (Ret fun v w' => v = u64 (wordL cl n) ∧ Ext w w') := by
  have H := Hp.start No w
  refine enter (n := 17) Try.func13 rfl rfl (Nat.le_of_ble_eq_true rfl) ?_
  refine seqRegion ?_
  refine sq (r_assign (v := u64 (0#64)) rfl) ?_
  refine wend ?_
  refine seqRegion ?_
  refine sq (r_move (v := .pointer (some ⟨bc, 0, none⟩)) rfl) ?_
  refine sq (r_move (v := u64 (n)) rfl) ?_
  refine sq (r_quo64 (a := n) (b := 2#64) rfl rfl (by decide)) ?_
  refine sq (r_buildA (cs' := (cel E64 [n / (2#64), 0#64]).toArray) (ps := [(0, u64 (n / (2#64))), (1, u64 (0#64))]) zer39 arr39 rfl (by rfl)) ?_
  refine c_call (vs := [.agg (cel E64 [n / (2#64), 0#64]).toArray]) call27 rfl (bytes_ok (n / (2#64)) (0#64) w) ?_
  rintro _ w1 ⟨rfl, hE2⟩
  have H3 := H.ext hE2
  refine c_call (vs := [.pointer (some ⟨bc, 0, none⟩), .agg (cel E8 (bytesS (n / (2#64)) (0#64) 16)).toArray]) call10 rfl (enc_ok bc cl hcl (bytesS (n / (2#64)) (0#64) 16) (bytesS_len _ _ _) w1 (H3.keepE hc)) ?_
  rintro _ w4 ⟨rfl, hE5⟩
  have H6 := H3.ext hE5
  refine q_alloc (o := .cells (cel E8 (List.replicate 16 0#8)).toArray 22 (0, 0)) H6 zer22 (by kernel_rfl) ?_
  intro b7 w8 hb7 H9 _
  refine d_store (k := 0) (v := .agg (cel E8 (encL cl (bytesS (n / (2#64)) (0#64) 16))).toArray) (cs' := (cel E8 (encL cl (bytesS (n / (2#64)) (0#64) 16))).toArray) H9 rfl rfl rfl siz22 (by exact celSize (by rw [encL_len, bytesS_len]; rfl)) (by exact celOne _) (by rw [List.size_toArray, cel_length]; show _ ≤ _ * 1; first | omega | (simp only [List.length_set]; omega) | exact Nat.le_of_ble_eq_true rfl | (simp <;> omega)) (by exact putAll (by rw [encL_len, bytesS_len]; rfl)) ?_
  intro w10 H11 _
  have H11' := H11.as (L' := [(some b7, .cells (cel E8 (encL cl (bytesS (n / (2#64)) (0#64) 16))).toArray 22 (0, 0))]) rfl
  clear H11
  refine wend ?_
  refine seqRegion ?_
  refine sq (r_loadA (cs' := (cel E8 (encL cl (bytesS (n / (2#64)) (0#64) 16))).toArray) agg22 siz22 (H11'.get (k := 0) rfl) (off := 0) rfl (by rw [List.size_toArray, cel_length, encL_len, bytesS_len]; decide) (by exact ext_all (by rw [cel_length, encL_len, bytesS_len]; rfl))) ?_
  refine c_call (vs := [.agg (cel E8 (encL cl (bytesS (n / (2#64)) (0#64) 16))).toArray]) call28 rfl (label_ok (encL cl (bytesS (n / (2#64)) (0#64) 16)) (by rw [encL_len, bytesS_len]) w10) ?_
  rintro _ w12 ⟨rfl, hE13⟩
  have H14 := H11'.ext hE13
  refine sq (r_move (v := u64 (n)) rfl) ?_
  refine sq (r_rem64 (a := n) (b := 2#64) rfl rfl (by decide)) ?_
  refine sq (r_idxE (E := E64) (l := labelS (encL cl (bytesS (n / (2#64)) (0#64) 16)) 16) (j := (n % (2#64)).toNat) (a := (labelS (encL cl (bytesS (n / (2#64)) (0#64) 16)) 16).getD ((n % (2#64)).toNat) 0#64) rfl und39 one34 siz34 rfl rfl (by first | rfl | omega | (simp; omega)) (by have := BitVec.umod_lt n (y := 2#64) (by decide); simpa [BitVec.lt_def] using this) (by exact at_getD (by rw [labelS_len]; have := BitVec.umod_lt n (y := 2#64) (by decide); simpa [BitVec.lt_def] using this)) (fun _ => rfl)) ?_
  refine sq (r_assign (v := u64 ((labelS (encL cl (bytesS (n / (2#64)) (0#64) 16)) 16).getD ((n % (2#64)).toNat) 0#64)) rfl) ?_
  refine wend ?_
  refine retAny ?_
  refine retG (rs := [.tmp 4]) (vs := [u64 ((labelS (encL cl (bytesS (n / (2#64)) (0#64) 16)) 16).getD ((n % (2#64)).toNat) 0#64)]) rfl ⟨⟨rfl, rfl⟩, trivial⟩ ?_
  exact ⟨_, rfl, rfl, H14.chg⟩

theorem fixed_ok (w : World) : Calls Try.prog 15 [].toArray w (Ret fun v w' => (∃ b, v = .pointer (some ⟨b, 0, none⟩) ∧ w.heap.size ≤ b ∧ w'.heap[b]? = some (.cells (cel E8 (cipher fixKey)).toArray 50 (0, 0))) ∧ Ext w w') := by
  have H := Hp.start No w
  refine enter (n := 13) Try.func15 rfl rfl (Nat.le_of_ble_eq_true rfl) ?_
  refine seqRegion ?_
  refine sq (r_assign (v := .pointer none) rfl) ?_
  refine wend ?_
  refine seqRegion ?_
  refine q_alloc (o := .cells (cel E8 (List.replicate 16 0#8)).toArray 22 (0, 0)) H zer22 (by kernel_rfl) ?_
  intro b1 w2 hb1 H3 _
  refine wend ?_
  refine seqAny ?_
  refine seqRegion ?_
  refine sq (r_move (v := i64 ((0 : Int))) rfl) ?_
  refine wend ?_
  refine blockAny ?_
  refine loopAny (σ := Nat) (fun i => [(1, .pointer (some ⟨b1, 0, none⟩)), (3, i64 ((i : Nat)))]) (fun i w' => i ≤ 16 ∧ Hp No w w' [(some b1, .cells (cel E8 (fixS i)).toArray 22 (0, 0))]) (fun i => 16 - i) (0) ?_ ?_ ?_
  · exact ⟨rfl, rfl, trivial⟩
  · exact ⟨by omega, H3⟩
  rintro i ρ w4 ⟨hi, H5⟩
  have hl := fixS_len i
  refine seqRegion ?_
  refine sq (r_lssI (a := (i : Nat)) (b := (16 : Int)) rfl rfl) ?_
  refine wend ?_
  refine seqAny ?_
  refine condProp ((i : Nat) < (16 : Int)) rfl (fun c4 => ?_) (fun c4 => ?_)
  · skip
    refine skipAny ?_
    refine thenNormal ?_
    refine seqAny ?_
    refine blockAny ?_
    refine seqRegion ?_
    refine sq (r_move (v := i64 ((i : Nat))) rfl) ?_
    refine sq (r_assign (v := i64 ((i : Nat))) rfl) ?_
    refine wend ?_
    refine oneRegion ?_
    refine sq (r_move (v := i64 ((i : Nat))) rfl) ?_
    refine sq (r_move (v := i64 ((i : Nat))) rfl) ?_
    refine sq (r_Ito8 und3 und5 (a := (i : Nat)) rfl) ?_
    refine sq (r_indexA (off' := i) (j := i) arr22 (b := b1) (off := 0) rfl rfl (by first | rfl | omega | (simp; omega)) (by omega) (by omega)) ?_
    refine d_store (k := 0) (v := u8 (BitVec.ofInt 8 (i : Nat))) (cs' := (cel E8 ((fixS i).set i (BitVec.ofInt 8 (i : Nat)))).toArray) H5 rfl rfl rfl siz5 (by rfl) (by exact E8.one _) (by rw [List.size_toArray, cel_length]; show _ ≤ _ * 1; first | omega | (simp only [List.length_set]; omega) | exact Nat.le_of_ble_eq_true rfl | (simp <;> omega)) (by exact put1 (E := E8) rfl _ _ _) ?_
    intro w6 H7 _
    have H7' := H7.as (L' := [(some b1, .cells (cel E8 ((fixS i).set i (BitVec.ofInt 8 (i : Nat)))).toArray 22 (0, 0))]) rfl
    clear H7
    refine wnil ?_
    refine blockNormal ?_
    refine thenNormal ?_
    refine oneRegion ?_
    refine sq (r_addI (a := (i : Nat)) (b := (1 : Int)) rfl rfl (by omega)) ?_
    refine sq (r_move (v := i64 ((i : Nat) + (1 : Int))) rfl) ?_
    refine wnil ?_
    refine thenNormal ?_
    exact ⟨i + 1, _, rfl, ⟨rfl, rfl, trivial⟩, ⟨by omega, H7'⟩, by show 16 - (i + 1) < 16 - i; omega⟩
  · skip
    obtain rfl : i = 16 := by omega
    have H8 := H5.as (L' := [(some b1, .cells (cel E8 fixKey).toArray 22 (0, 0))]) (by rw [fixKey])
    refine exitAny ?_
    refine thenExit ?_
    refine thenExit ?_
    refine blockHere ?_
    refine thenNormal ?_
    refine seqRegion ?_
    refine sq (r_loadA (cs' := (cel E8 fixKey).toArray) agg22 siz22 (H8.get (k := 0) rfl) (off := 0) rfl (by rw [List.size_toArray, cel_length, fixKey, fixS_len]; decide) (by exact ext_all (by rw [cel_length, fixKey, fixS_len]; rfl))) ?_
    refine c_call (vs := [.agg (cel E8 fixKey).toArray]) call8 rfl (new_ok fixKey (fixS_len 16) w4) ?_
    rintro _ w9 ⟨⟨b11, rfl, hb12, ho13⟩, hE14⟩
    have H15 := H8.add1 hE14 hb12 ho13
    refine sq (r_assign (v := .pointer (some ⟨b11, 0, none⟩)) rfl) ?_
    refine wend ?_
    refine retAny ?_
    refine retG (rs := [.tmp 0]) (vs := [.pointer (some ⟨b11, 0, none⟩)]) rfl ⟨⟨rfl, rfl⟩, trivial⟩ ?_
    exact ⟨_, rfl, ⟨_, rfl, by have := H15.own _ (List.mem_of_getElem? (i := 0) rfl) _ rfl; exact this.resolve_left (fun h => h), H15.get (k := 0) rfl⟩, H15.chg⟩

theorem hash_ok (bc : Nat) (cl : List By) (hcl : cl.length = 432) (a b tw : BitVec 64) (w : World) (hc : w.heap[bc]? = some (.cells (cel E8 cl).toArray 50 (0, 0))) : Calls Try.prog 16 [.pointer (some ⟨bc, 0, none⟩), .agg (cel E64 [a, b]).toArray, u64 (tw)].toArray w (Ret fun v w' => v = .agg (cel E64 [(hashL cl a b tw).1, (hashL cl a b tw).2]).toArray ∧ Ext w w') := by
  have H := Hp.start No w
  refine enter (n := 20) Try.func16 rfl rfl (Nat.le_of_ble_eq_true rfl) ?_
  refine seqRegion ?_
  refine q_box (v := .agg (cel E64 [a, b]).toArray) (o := .cells (cel E64 ([a, b])).toArray 39 (0, 0)) H rfl (by rfl) ?_
  intro b1 w2 hb1 H3 _
  refine q_alloc (o := .cells (cel E64 ([0#64, 0#64])).toArray 39 (0, 0)) H3 zer39 (by kernel_rfl) ?_
  intro b4 w5 hb4 H6 _
  refine wend ?_
  refine seqRegion ?_
  refine sq (r_loadA (cs' := (cel E64 ([a, b])).toArray) agg39 siz39 (H6.get (k := 1) rfl) (off := 0) rfl (by exact Nat.le_of_ble_eq_true rfl) (by exact ext_all rfl)) ?_
  refine c_call (vs := [.agg (cel E64 ([a, b])).toArray]) call19 rfl (double_ok a b w5) ?_
  rintro _ w7 ⟨rfl, hE8⟩
  have H9 := H6.ext hE8
  refine sq (r_move (v := u64 (tw)) rfl) ?_
  refine sq (r_buildA (cs' := (cel E64 [tw, 0#64]).toArray) (ps := [(0, u64 (tw)), (1, u64 (0#64))]) zer39 arr39 rfl (by rfl)) ?_
  refine c_call (vs := [.agg (cel E64 [(dbl a b).1, (dbl a b).2]).toArray, .agg (cel E64 [tw, 0#64]).toArray]) call31 rfl (xor_ok ((dbl a b).1) ((dbl a b).2) tw (0#64) w7) ?_
  rintro _ w10 ⟨rfl, hE11⟩
  have H12 := H9.ext hE11
  refine q_alloc (o := .cells (cel E64 ([0#64, 0#64])).toArray 39 (0, 0)) H12 zer39 (by kernel_rfl) ?_
  intro b13 w14 hb13 H15 _
  refine d_store (k := 0) (v := .agg (cel E64 [((dbl a b).1) ^^^ tw, ((dbl a b).2) ^^^ (0#64)]).toArray) (cs' := (cel E64 ([((dbl a b).1) ^^^ tw, ((dbl a b).2) ^^^ (0#64)])).toArray) H15 rfl rfl rfl siz39 (by exact celSize (by first | rfl | (show _ * 1 = _; omega))) (by exact celOne _) (by rw [List.size_toArray, cel_length]; show _ ≤ _ * 1; first | omega | (simp only [List.length_set]; omega) | exact Nat.le_of_ble_eq_true rfl | (simp <;> omega)) (by exact putAll (by first | rfl | omega | (simp <;> omega))) ?_
  intro w16 H17 _
  have H17' := H17.as (L' := [(some b13, .cells (cel E64 ([((dbl a b).1) ^^^ tw, ((dbl a b).2) ^^^ (0#64)])).toArray 39 (0, 0)), (some b4, .cells (cel E64 ([0#64, 0#64])).toArray 39 (0, 0)), (some b1, .cells (cel E64 ([a, b])).toArray 39 (0, 0))]) rfl
  clear H17
  refine wend ?_
  refine seqAny ?_
  refine drawAny (K := [none, none, none, none, none, none, none]) [0, 0, 0, 4, 14, 30, 63, 127] (fun w' => Ext w16 w') (fun w' w'' => Ext w' w'') mixed (by kernel_rfl) (Ext.drew _) (fun _ _ h h' => h.trans h') ?_ ?_
  · exact relNone (by decide)
  refine ⟨.agg (cel E64 ([((dbl a b).1) ^^^ tw, ((dbl a b).2) ^^^ (0#64)])).toArray, fun _ uw18 hC19 _ => Gives.run rfl (r_loadA (cs' := (cel E64 ([((dbl a b).1) ^^^ tw, ((dbl a b).2) ^^^ (0#64)])).toArray) agg39 siz39 ((H17'.ext hC19).get (k := 0) rfl) (off := 0) rfl (by exact Nat.le_of_ble_eq_true rfl) (by exact ext_all rfl)) ⟨rfl, Chg.refl _ _⟩, ?_⟩
  refine ⟨.pointer (some ⟨bc, 0, none⟩), fun _ uw20 hC21 _ => Gives.run rfl (r_move (v := .pointer (some ⟨bc, 0, none⟩)) rfl) ⟨rfl, Chg.refl _ _⟩, ?_⟩
  refine ⟨.agg (cel E64 ([((dbl a b).1) ^^^ tw, ((dbl a b).2) ^^^ (0#64)])).toArray, fun _ uw22 hC23 _ => Gives.run rfl (r_loadA (cs' := (cel E64 ([((dbl a b).1) ^^^ tw, ((dbl a b).2) ^^^ (0#64)])).toArray) agg39 siz39 ((H17'.ext hC23).get (k := 0) rfl) (off := 0) rfl (by exact Nat.le_of_ble_eq_true rfl) (by exact ext_all rfl)) ⟨rfl, Chg.refl _ _⟩, ?_⟩
  refine ⟨.agg (cel E8 (bytesS (((dbl a b).1) ^^^ tw) (((dbl a b).2) ^^^ (0#64)) 16)).toArray, fun _ uw24 hC25 _ => Gives.call rfl (Enters.callL (vs := [.agg (cel E64 ([((dbl a b).1) ^^^ tw, ((dbl a b).2) ^^^ (0#64)])).toArray]) call27 rfl) (bytes_ok (((dbl a b).1) ^^^ tw) (((dbl a b).2) ^^^ (0#64)) uw24), ?_⟩
  refine ⟨.agg (cel E8 (encL cl (bytesS (((dbl a b).1) ^^^ tw) (((dbl a b).2) ^^^ (0#64)) 16))).toArray, fun _ uw26 hC27 _ => Gives.call rfl (Enters.callL (vs := [.pointer (some ⟨bc, 0, none⟩), .agg (cel E8 (bytesS (((dbl a b).1) ^^^ tw) (((dbl a b).2) ^^^ (0#64)) 16)).toArray]) call10 rfl) (enc_ok bc cl hcl (bytesS (((dbl a b).1) ^^^ tw) (((dbl a b).2) ^^^ (0#64)) 16) (bytesS_len _ _ _) uw26 ((H17'.ext hC27).keepE hc)), ?_⟩
  refine ⟨.agg (cel E64 [(labelS (encL cl (bytesS (((dbl a b).1) ^^^ tw) (((dbl a b).2) ^^^ (0#64)) 16)) 16).getD 0 0#64, (labelS (encL cl (bytesS (((dbl a b).1) ^^^ tw) (((dbl a b).2) ^^^ (0#64)) 16)) 16).getD 1 0#64]).toArray, fun _ uw28 hC29 _ => Gives.call rfl (Enters.callL (vs := [.agg (cel E8 (encL cl (bytesS (((dbl a b).1) ^^^ tw) (((dbl a b).2) ^^^ (0#64)) 16))).toArray]) call28 rfl) ((label_ok (encL cl (bytesS (((dbl a b).1) ^^^ tw) (((dbl a b).2) ^^^ (0#64)) 16)) (by rw [encL_len, bytesS_len]) uw28).mono (fun _ _ h => by obtain ⟨v, h1, h2, h3⟩ := h; exact ⟨v, h1, by rw [h2, ← two_list (labelS_len _ _)], h3⟩)), ?_⟩
  refine ⟨.agg (cel E64 [(((dbl a b).1) ^^^ tw) ^^^ ((labelS (encL cl (bytesS (((dbl a b).1) ^^^ tw) (((dbl a b).2) ^^^ (0#64)) 16)) 16).getD 0 0#64), (((dbl a b).2) ^^^ (0#64)) ^^^ ((labelS (encL cl (bytesS (((dbl a b).1) ^^^ tw) (((dbl a b).2) ^^^ (0#64)) 16)) 16).getD 1 0#64)]).toArray, fun _ uw30 hC31 _ => Gives.call rfl (Enters.callL (vs := [.agg (cel E64 ([((dbl a b).1) ^^^ tw, ((dbl a b).2) ^^^ (0#64)])).toArray, .agg (cel E64 [(labelS (encL cl (bytesS (((dbl a b).1) ^^^ tw) (((dbl a b).2) ^^^ (0#64)) 16)) 16).getD 0 0#64, (labelS (encL cl (bytesS (((dbl a b).1) ^^^ tw) (((dbl a b).2) ^^^ (0#64)) 16)) 16).getD 1 0#64]).toArray]) call31 rfl) (xor_ok (((dbl a b).1) ^^^ tw) (((dbl a b).2) ^^^ (0#64)) ((labelS (encL cl (bytesS (((dbl a b).1) ^^^ tw) (((dbl a b).2) ^^^ (0#64)) 16)) 16).getD 0 0#64) ((labelS (encL cl (bytesS (((dbl a b).1) ^^^ tw) (((dbl a b).2) ^^^ (0#64)) 16)) 16).getD 1 0#64) uw30), ?_⟩
  intro r35 w32 hE34 hF
  have H33 := H17'.ext hE34
  refine d_store (k := 1) (v := .agg (cel E64 [(((dbl a b).1) ^^^ tw) ^^^ ((labelS (encL cl (bytesS (((dbl a b).1) ^^^ tw) (((dbl a b).2) ^^^ (0#64)) 16)) 16).getD 0 0#64), (((dbl a b).2) ^^^ (0#64)) ^^^ ((labelS (encL cl (bytesS (((dbl a b).1) ^^^ tw) (((dbl a b).2) ^^^ (0#64)) 16)) 16).getD 1 0#64)]).toArray) (cs' := (cel E64 ([(((dbl a b).1) ^^^ tw) ^^^ ((labelS (encL cl (bytesS (((dbl a b).1) ^^^ tw) (((dbl a b).2) ^^^ (0#64)) 16)) 16).getD 0 0#64), (((dbl a b).2) ^^^ (0#64)) ^^^ ((labelS (encL cl (bytesS (((dbl a b).1) ^^^ tw) (((dbl a b).2) ^^^ (0#64)) 16)) 16).getD 1 0#64)])).toArray) H33 rfl rfl rfl siz39 (by exact celSize (by first | rfl | (show _ * 1 = _; omega))) (by exact celOne _) (by rw [List.size_toArray, cel_length]; show _ ≤ _ * 1; first | omega | (simp only [List.length_set]; omega) | exact Nat.le_of_ble_eq_true rfl | (simp <;> omega)) (by exact putAll (by first | rfl | omega | (simp <;> omega))) ?_
  intro w36 H37 _
  have H37' := H37.as (L' := [(some b13, .cells (cel E64 ([((dbl a b).1) ^^^ tw, ((dbl a b).2) ^^^ (0#64)])).toArray 39 (0, 0)), (some b4, .cells (cel E64 ([(((dbl a b).1) ^^^ tw) ^^^ ((labelS (encL cl (bytesS (((dbl a b).1) ^^^ tw) (((dbl a b).2) ^^^ (0#64)) 16)) 16).getD 0 0#64), (((dbl a b).2) ^^^ (0#64)) ^^^ ((labelS (encL cl (bytesS (((dbl a b).1) ^^^ tw) (((dbl a b).2) ^^^ (0#64)) 16)) 16).getD 1 0#64)])).toArray 39 (0, 0)), (some b1, .cells (cel E64 ([a, b])).toArray 39 (0, 0))]) rfl
  clear H37
  refine wnil ?_
  refine thenNormal ?_
  refine retAny ?_
  refine retG (rs := [.cell 6 39]) (vs := [.agg (cel E64 ([(((dbl a b).1) ^^^ tw) ^^^ ((labelS (encL cl (bytesS (((dbl a b).1) ^^^ tw) (((dbl a b).2) ^^^ (0#64)) 16)) 16).getD 0 0#64), (((dbl a b).2) ^^^ (0#64)) ^^^ ((labelS (encL cl (bytesS (((dbl a b).1) ^^^ tw) (((dbl a b).2) ^^^ (0#64)) 16)) 16).getD 1 0#64)])).toArray]) rfl ⟨r_loadA (cs' := (cel E64 ([(((dbl a b).1) ^^^ tw) ^^^ ((labelS (encL cl (bytesS (((dbl a b).1) ^^^ tw) (((dbl a b).2) ^^^ (0#64)) 16)) 16).getD 0 0#64), (((dbl a b).2) ^^^ (0#64)) ^^^ ((labelS (encL cl (bytesS (((dbl a b).1) ^^^ tw) (((dbl a b).2) ^^^ (0#64)) 16)) 16).getD 1 0#64)])).toArray) agg39 siz39 (H37'.get (k := 1) rfl) (off := 0) rfl (by exact Nat.le_of_ble_eq_true rfl) (by exact ext_all rfl), trivial⟩ ?_
  exact ⟨_, rfl, rfl, H37'.chg⟩
end Go.Proofs.Ytcnkllkieelahaa.Aes
