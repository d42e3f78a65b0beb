/- The walks of the links. -/
import Derived.Test.YtpmmhpgfbfehmaaDoorLink2
namespace Go.Proofs.YtpmmhpgfbfehmaaDoor.Lk
open Go Go.Proofs.YtpmmhpgfbfehmaaDoor.Vc Go.Proofs.YtpmmhpgfbfehmaaDoor.Er
set_option linter.unusedVariables false
theorem byt53 : byt Tryd.prog 53 = some 4 := by kernel_rfl
theorem call26 : callable Tryd.prog 26 = true := by kernel_rfl
theorem fld89_1 : fld Tryd.prog 89 1 = some (1, 1, 53) := by kernel_rfl
theorem fld89_2 : fld Tryd.prog 89 2 = some (2, 1, 3) := by kernel_rfl
theorem fld89_3 : fld Tryd.prog 89 3 = some (3, 1, 3) := by kernel_rfl
theorem fld89_4 : fld Tryd.prog 89 4 = some (4, 1, 53) := by kernel_rfl
theorem fld89_6 : fld Tryd.prog 89 6 = some (6, 1, 87) := by kernel_rfl
theorem one3 : isOne Tryd.prog 3 = true := by kernel_rfl
theorem one53 : isOne Tryd.prog 53 = true := by kernel_rfl
theorem one87 : isOne Tryd.prog 87 = true := by kernel_rfl
theorem siz3 : siz Tryd.prog 3 = some 1 := by kernel_rfl
theorem siz53 : siz Tryd.prog 53 = some 1 := by kernel_rfl
theorem siz87 : siz Tryd.prog 87 = some 1 := by kernel_rfl
theorem sli87 : sli Tryd.prog 87 = some (53, 1) := by kernel_rfl
theorem zer53 : zer Tryd.prog 53 = some (.int .u32 0) := by kernel_rfl
theorem hear_bad (b : Nat) (fb : List (BitVec 8)) (a0 : Option Addr) (n0 c0 : Nat) (hn0 : n0 = fb.length) (hfc : fb.length ≤ c0) (hfb : fb.length ≤ 1099511627776) (w : World) (hW : Rd E8 w a0 fb) (hopn : opn fb = none) : Calls Tryd.prog 27 [.pointer (some ⟨b, 0, none⟩), .slice a0 n0 c0].toArray w (Ret fun v w' => v = .bool false ∧ Ext w w') := by
  subst hn0
  have H := Hp.start No w
  refine enter (n := 114) Tryd.func27 rfl rfl (Nat.le_of_ble_eq_true rfl) ?_
  refine seqRegion ?_
  refine sq (r_assign (v := .bool (false)) rfl) ?_
  refine wend ?_
  refine seqRegion ?_
  refine sq (r_move (v := .slice a0 fb.length c0) rfl) ?_
  refine c_call (vs := [.slice a0 fb.length c0]) call26 rfl (open_none fb (by omega) a0 fb.length c0 (by rfl) w hW (by omega) hopn) ?_
  rintro _ w1 ⟨rfl, hE2⟩
  have H3 := H.ext hE2
  refine sq (r_move (v := .tuple #[u8 (0#8), u32 (0#32), .slice none 0 0, .bool (false)]) rfl) ?_
  refine sq (r_extract (vs := #[u8 (0#8), u32 (0#32), .slice none 0 0, .bool (false)]) rfl rfl) ?_
  refine sq (r_extract (vs := #[u8 (0#8), u32 (0#32), .slice none 0 0, .bool (false)]) rfl rfl) ?_
  refine sq (r_extract (vs := #[u8 (0#8), u32 (0#32), .slice none 0 0, .bool (false)]) rfl rfl) ?_
  refine sq (r_extract (vs := #[u8 (0#8), u32 (0#32), .slice none 0 0, .bool (false)]) rfl rfl) ?_
  refine sq (r_assign (v := u8 (0#8)) rfl) ?_
  refine sq (r_assign (v := u32 (0#32)) rfl) ?_
  refine sq (r_assign (v := .slice none 0 0) rfl) ?_
  refine sq (r_assign (v := .bool (false)) rfl) ?_
  refine wend ?_
  refine seqAny ?_
  refine seqRegion ?_
  refine sq (r_move (v := .bool (false)) rfl) ?_
  refine sq (r_notF rfl) ?_
  refine wend ?_
  refine condTrue rfl ?_
  refine seqRegion ?_
  refine sq (r_assign (v := .bool (false)) rfl) ?_
  refine wend ?_
  refine retAny ?_
  refine thenRet ?_
  refine retG (rs := [.tmp 4]) (vs := [.bool (false)]) rfl ⟨⟨rfl, rfl⟩, trivial⟩ ?_
  exact ⟨_, rfl, rfl, H3.chg⟩

theorem hear_r1 (b : Nat) (e : En) (fb : List (BitVec 8)) (a0 : Option Addr) (n0 c0 : Nat) (hn0 : n0 = fb.length) (hfc : fb.length ≤ c0) (hfb : fb.length ≤ 1099511627776) (w : World) (hb : w.heap[b]? = some (e.ob 89)) (hW : Rd E8 w a0 fb) (n : BitVec 32) (p : List (BitVec 8)) (hopn : opn fb = some (0#8, n, p)) (h1 : ¬ n = e.want) (h2 : ¬ n.toNat < e.want.toNat) : Calls Tryd.prog 27 [.pointer (some ⟨b, 0, none⟩), .slice a0 n0 c0].toArray w (Ret fun v w' => v = .bool true ∧ Ext w w') := by
  subst hn0
  have H := Hp.start No w
  unfold En.ob at hb
  refine enter (n := 114) Tryd.func27 rfl rfl (Nat.le_of_ble_eq_true rfl) ?_
  refine seqRegion ?_
  refine sq (r_assign (v := .bool (false)) rfl) ?_
  refine wend ?_
  refine seqRegion ?_
  refine sq (r_move (v := .slice a0 fb.length c0) rfl) ?_
  refine c_call (vs := [.slice a0 fb.length c0]) call26 rfl (open_some fb (by omega) a0 fb.length c0 (by rfl) w hW (by omega) (0#8) n p hopn) ?_
  rintro _ w1 ⟨⟨_, rfl, key3, c4, sp5, rfl, hS6, hk7⟩, hE8⟩
  have H9 := H.add hE8 hk7
  refine sq (r_move (v := .tuple #[u8 (0#8), u32 (n), .slice (ownA key3) p.length c4, .bool (true)]) rfl) ?_
  refine sq (r_extract (vs := #[u8 (0#8), u32 (n), .slice (ownA key3) p.length c4, .bool (true)]) rfl rfl) ?_
  refine sq (r_extract (vs := #[u8 (0#8), u32 (n), .slice (ownA key3) p.length c4, .bool (true)]) rfl rfl) ?_
  refine sq (r_extract (vs := #[u8 (0#8), u32 (n), .slice (ownA key3) p.length c4, .bool (true)]) rfl rfl) ?_
  refine sq (r_extract (vs := #[u8 (0#8), u32 (n), .slice (ownA key3) p.length c4, .bool (true)]) rfl rfl) ?_
  refine sq (r_assign (v := u8 (0#8)) rfl) ?_
  refine sq (r_assign (v := u32 (n)) rfl) ?_
  refine sq (r_assign (v := .slice (ownA key3) p.length c4) rfl) ?_
  refine sq (r_assign (v := .bool (true)) rfl) ?_
  refine wend ?_
  refine seqAny ?_
  refine seqRegion ?_
  refine sq (r_move (v := .bool (true)) rfl) ?_
  refine sq (r_notT rfl) ?_
  refine wend ?_
  refine condFalse rfl ?_
  refine skipAny ?_
  refine thenNormal ?_
  refine seqAny ?_
  refine blockAny ?_
  refine seqAny ?_
  refine blockAny ?_
  refine seqAny ?_
  refine blockAny ?_
  refine seqAny ?_
  refine blockAny ?_
  refine seqAny ?_
  refine seqAny ?_
  refine seqRegion ?_
  refine sq (r_move (v := u8 (0#8)) rfl) ?_
  refine sq ((r_eql8 (a := 0#8) (b := 0#8) rfl rfl).as (v' := .bool (true)) (by exact congrArg Value.bool (decide_eq_true rfl))) ?_
  refine sq (r_move (v := .bool (true)) rfl) ?_
  refine sqAny (v := u32 (n)) (w' := w1) (wantedSome (d' := 21) (b := true) rfl rfl rfl) (r_move (v := u32 (n)) rfl) ?_
  refine sqAny (v := .pointer (some ⟨b, 0, none⟩)) (w' := w1) (wantedSome (d' := 21) (b := true) rfl rfl rfl) (r_move (v := .pointer (some ⟨b, 0, none⟩)) rfl) ?_
  refine sqAny (v := .pointer (some ⟨b, 0, none⟩)) (w' := w1) (wantedSome (d' := 21) (b := true) rfl rfl rfl) (r_nilCheck rfl) ?_
  refine sqAny (v := .pointer (some ⟨b, 4, none⟩)) (w' := w1) (wantedSome (d' := 21) (b := true) rfl rfl rfl) (r_fieldAddr (off' := 4) fld89_4 (by decide) (b := b) (off := 0) rfl (by omega)) ?_
  refine sqAny (v := u32 (e.want)) (w' := w1) (wantedSome (d' := 21) (b := true) rfl rfl rfl) (r_loadC (v := u32 (e.want)) one53 (H9.keepE hb) (off := 4) rfl (by rfl)) ?_
  refine sqAny (v := .bool (false)) (w' := w1) (wantedSome (d' := 21) (b := true) rfl rfl rfl) ((r_eql32 (a := n) (b := e.want) rfl rfl).as (v' := .bool (false)) (by exact congrArg Value.bool (decide_eq_false h1))) ?_
  refine sq (r_pickT (u := .bool (false)) rfl rfl) ?_
  refine sq (r_assign (v := .bool (false)) rfl) ?_
  refine wend ?_
  refine condFalse rfl ?_
  refine skipAny ?_
  refine thenNormal ?_
  refine seqAny ?_
  refine seqRegion ?_
  refine sq (r_move (v := u8 (0#8)) rfl) ?_
  refine sq ((r_eql8 (a := 0#8) (b := 0#8) rfl rfl).as (v' := .bool (true)) (by exact congrArg Value.bool (decide_eq_true rfl))) ?_
  refine sq (r_move (v := .bool (true)) rfl) ?_
  refine sqAny (v := u32 (n)) (w' := w1) (wantedSome (d' := 32) (b := true) rfl rfl rfl) (r_move (v := u32 (n)) rfl) ?_
  refine sqAny (v := .pointer (some ⟨b, 0, none⟩)) (w' := w1) (wantedSome (d' := 32) (b := true) rfl rfl rfl) (r_move (v := .pointer (some ⟨b, 0, none⟩)) rfl) ?_
  refine sqAny (v := .pointer (some ⟨b, 0, none⟩)) (w' := w1) (wantedSome (d' := 32) (b := true) rfl rfl rfl) (r_nilCheck rfl) ?_
  refine sqAny (v := .pointer (some ⟨b, 4, none⟩)) (w' := w1) (wantedSome (d' := 32) (b := true) rfl rfl rfl) (r_fieldAddr (off' := 4) fld89_4 (by decide) (b := b) (off := 0) rfl (by omega)) ?_
  refine sqAny (v := u32 (e.want)) (w' := w1) (wantedSome (d' := 32) (b := true) rfl rfl rfl) (r_loadC (v := u32 (e.want)) one53 (H9.keepE hb) (off := 4) rfl (by rfl)) ?_
  refine sqAny (v := .bool (false)) (w' := w1) (wantedSome (d' := 32) (b := true) rfl rfl rfl) ((r_lss32 (a := n) (b := e.want) rfl rfl).as (v' := .bool (false)) (by exact congrArg Value.bool (decide_eq_false h2))) ?_
  refine sq (r_pickT (u := .bool (false)) rfl rfl) ?_
  refine sq (r_assign (v := .bool (false)) rfl) ?_
  refine wend ?_
  refine condFalse rfl ?_
  refine skipAny ?_
  refine thenNormal ?_
  refine seqRegion ?_
  refine sq (r_move (v := u8 (0#8)) rfl) ?_
  refine sq ((r_eql8 (a := 0#8) (b := 1#8) rfl rfl).as (v' := .bool (false)) (by exact congrArg Value.bool (decide_eq_false (by decide)))) ?_
  refine sq (r_move (v := .bool (false)) rfl) ?_
  refine skAny (wantedSome (d' := 43) (b := false) rfl rfl rfl) ?_
  refine skAny (wantedSome (d' := 43) (b := false) rfl rfl rfl) ?_
  refine skAny (wantedSome (d' := 43) (b := false) rfl rfl rfl) ?_
  refine skAny (wantedSome (d' := 43) (b := false) rfl rfl rfl) ?_
  refine skAny (wantedSome (d' := 43) (b := false) rfl rfl rfl) ?_
  refine skAny (wantedSome (d' := 43) (b := false) rfl rfl rfl) ?_
  refine sq (r_pickF (v := .bool (false)) rfl rfl) ?_
  refine sq (r_move (v := .bool (false)) rfl) ?_
  refine skAny (wantedSome (d' := 51) (b := false) rfl rfl rfl) ?_
  refine skAny (wantedSome (d' := 51) (b := false) rfl rfl rfl) ?_
  refine skAny (wantedSome (d' := 51) (b := false) rfl rfl rfl) ?_
  refine skAny (wantedSome (d' := 51) (b := false) rfl rfl rfl) ?_
  refine skAny (wantedSome (d' := 51) (b := false) rfl rfl rfl) ?_
  refine sq (r_pickF (v := .bool (false)) rfl rfl) ?_
  refine sq (r_move (v := .bool (false)) rfl) ?_
  refine skAny (wantedSome (d' := 58) (b := false) rfl rfl rfl) ?_
  refine skAny (wantedSome (d' := 58) (b := false) rfl rfl rfl) ?_
  refine skAny (wantedSome (d' := 58) (b := false) rfl rfl rfl) ?_
  refine skAny (wantedSome (d' := 58) (b := false) rfl rfl rfl) ?_
  refine skAny (wantedSome (d' := 58) (b := false) rfl rfl rfl) ?_
  refine skAny (wantedSome (d' := 58) (b := false) rfl rfl rfl) ?_
  refine sq (r_pickF (v := .bool (false)) rfl rfl) ?_
  refine sq (r_assign (v := .bool (false)) rfl) ?_
  refine wend ?_
  refine condFalse rfl ?_
  refine skipAny ?_
  refine thenNormal ?_
  refine exitAny ?_
  refine blockOut rfl ?_
  refine thenExit ?_
  refine blockOut rfl ?_
  refine thenExit ?_
  refine blockOut rfl ?_
  refine thenExit ?_
  refine blockHere ?_
  refine thenNormal ?_
  refine seqRegion ?_
  refine sq (r_assign (v := .bool (true)) rfl) ?_
  refine wend ?_
  refine retAny ?_
  refine retG (rs := [.tmp 4]) (vs := [.bool (true)]) rfl ⟨⟨rfl, rfl⟩, trivial⟩ ?_
  exact ⟨_, rfl, rfl, H9.chg⟩

theorem hear_r2 (b : Nat) (e : En) (fb : List (BitVec 8)) (a0 : Option Addr) (n0 c0 : Nat) (hn0 : n0 = fb.length) (hfc : fb.length ≤ c0) (hfb : fb.length ≤ 1099511627776) (w : World) (hb : w.heap[b]? = some (e.ob 89)) (hW : Rd E8 w a0 fb) (k : BitVec 8) (n : BitVec 32) (p : List (BitVec 8)) (hopn : opn fb = some (k, n, p)) (h0 : ¬ k = 0#8) (h1 : ¬ k = 1#8) : Calls Tryd.prog 27 [.pointer (some ⟨b, 0, none⟩), .slice a0 n0 c0].toArray w (Ret fun v w' => v = .bool true ∧ Ext w w') := by
  subst hn0
  have H := Hp.start No w
  unfold En.ob at hb
  refine enter (n := 114) Tryd.func27 rfl rfl (Nat.le_of_ble_eq_true rfl) ?_
  refine seqRegion ?_
  refine sq (r_assign (v := .bool (false)) rfl) ?_
  refine wend ?_
  refine seqRegion ?_
  refine sq (r_move (v := .slice a0 fb.length c0) rfl) ?_
  refine c_call (vs := [.slice a0 fb.length c0]) call26 rfl (open_some fb (by omega) a0 fb.length c0 (by rfl) w hW (by omega) k n p hopn) ?_
  rintro _ w1 ⟨⟨_, rfl, key3, c4, sp5, rfl, hS6, hk7⟩, hE8⟩
  have H9 := H.add hE8 hk7
  refine sq (r_move (v := .tuple #[u8 (k), u32 (n), .slice (ownA key3) p.length c4, .bool (true)]) rfl) ?_
  refine sq (r_extract (vs := #[u8 (k), u32 (n), .slice (ownA key3) p.length c4, .bool (true)]) rfl rfl) ?_
  refine sq (r_extract (vs := #[u8 (k), u32 (n), .slice (ownA key3) p.length c4, .bool (true)]) rfl rfl) ?_
  refine sq (r_extract (vs := #[u8 (k), u32 (n), .slice (ownA key3) p.length c4, .bool (true)]) rfl rfl) ?_
  refine sq (r_extract (vs := #[u8 (k), u32 (n), .slice (ownA key3) p.length c4, .bool (true)]) rfl rfl) ?_
  refine sq (r_assign (v := u8 (k)) rfl) ?_
  refine sq (r_assign (v := u32 (n)) rfl) ?_
  refine sq (r_assign (v := .slice (ownA key3) p.length c4) rfl) ?_
  refine sq (r_assign (v := .bool (true)) rfl) ?_
  refine wend ?_
  refine seqAny ?_
  refine seqRegion ?_
  refine sq (r_move (v := .bool (true)) rfl) ?_
  refine sq (r_notT rfl) ?_
  refine wend ?_
  refine condFalse rfl ?_
  refine skipAny ?_
  refine thenNormal ?_
  refine seqAny ?_
  refine blockAny ?_
  refine seqAny ?_
  refine blockAny ?_
  refine seqAny ?_
  refine blockAny ?_
  refine seqAny ?_
  refine blockAny ?_
  refine seqAny ?_
  refine seqAny ?_
  refine seqRegion ?_
  refine sq (r_move (v := u8 (k)) rfl) ?_
  refine sq ((r_eql8 (a := k) (b := 0#8) rfl rfl).as (v' := .bool (false)) (by exact congrArg Value.bool (decide_eq_false h0))) ?_
  refine sq (r_move (v := .bool (false)) rfl) ?_
  refine skAny (wantedSome (d' := 21) (b := false) rfl rfl rfl) ?_
  refine skAny (wantedSome (d' := 21) (b := false) rfl rfl rfl) ?_
  refine skAny (wantedSome (d' := 21) (b := false) rfl rfl rfl) ?_
  refine skAny (wantedSome (d' := 21) (b := false) rfl rfl rfl) ?_
  refine skAny (wantedSome (d' := 21) (b := false) rfl rfl rfl) ?_
  refine skAny (wantedSome (d' := 21) (b := false) rfl rfl rfl) ?_
  refine sq (r_pickF (v := .bool (false)) rfl rfl) ?_
  refine sq (r_assign (v := .bool (false)) rfl) ?_
  refine wend ?_
  refine condFalse rfl ?_
  refine skipAny ?_
  refine thenNormal ?_
  refine seqAny ?_
  refine seqRegion ?_
  refine sq (r_move (v := u8 (k)) rfl) ?_
  refine sq ((r_eql8 (a := k) (b := 0#8) rfl rfl).as (v' := .bool (false)) (by exact congrArg Value.bool (decide_eq_false h0))) ?_
  refine sq (r_move (v := .bool (false)) rfl) ?_
  refine skAny (wantedSome (d' := 32) (b := false) rfl rfl rfl) ?_
  refine skAny (wantedSome (d' := 32) (b := false) rfl rfl rfl) ?_
  refine skAny (wantedSome (d' := 32) (b := false) rfl rfl rfl) ?_
  refine skAny (wantedSome (d' := 32) (b := false) rfl rfl rfl) ?_
  refine skAny (wantedSome (d' := 32) (b := false) rfl rfl rfl) ?_
  refine skAny (wantedSome (d' := 32) (b := false) rfl rfl rfl) ?_
  refine sq (r_pickF (v := .bool (false)) rfl rfl) ?_
  refine sq (r_assign (v := .bool (false)) rfl) ?_
  refine wend ?_
  refine condFalse rfl ?_
  refine skipAny ?_
  refine thenNormal ?_
  refine seqRegion ?_
  refine sq (r_move (v := u8 (k)) rfl) ?_
  refine sq ((r_eql8 (a := k) (b := 1#8) rfl rfl).as (v' := .bool (false)) (by exact congrArg Value.bool (decide_eq_false h1))) ?_
  refine sq (r_move (v := .bool (false)) rfl) ?_
  refine skAny (wantedSome (d' := 43) (b := false) rfl rfl rfl) ?_
  refine skAny (wantedSome (d' := 43) (b := false) rfl rfl rfl) ?_
  refine skAny (wantedSome (d' := 43) (b := false) rfl rfl rfl) ?_
  refine skAny (wantedSome (d' := 43) (b := false) rfl rfl rfl) ?_
  refine skAny (wantedSome (d' := 43) (b := false) rfl rfl rfl) ?_
  refine skAny (wantedSome (d' := 43) (b := false) rfl rfl rfl) ?_
  refine sq (r_pickF (v := .bool (false)) rfl rfl) ?_
  refine sq (r_move (v := .bool (false)) rfl) ?_
  refine skAny (wantedSome (d' := 51) (b := false) rfl rfl rfl) ?_
  refine skAny (wantedSome (d' := 51) (b := false) rfl rfl rfl) ?_
  refine skAny (wantedSome (d' := 51) (b := false) rfl rfl rfl) ?_
  refine skAny (wantedSome (d' := 51) (b := false) rfl rfl rfl) ?_
  refine skAny (wantedSome (d' := 51) (b := false) rfl rfl rfl) ?_
  refine sq (r_pickF (v := .bool (false)) rfl rfl) ?_
  refine sq (r_move (v := .bool (false)) rfl) ?_
  refine skAny (wantedSome (d' := 58) (b := false) rfl rfl rfl) ?_
  refine skAny (wantedSome (d' := 58) (b := false) rfl rfl rfl) ?_
  refine skAny (wantedSome (d' := 58) (b := false) rfl rfl rfl) ?_
  refine skAny (wantedSome (d' := 58) (b := false) rfl rfl rfl) ?_
  refine skAny (wantedSome (d' := 58) (b := false) rfl rfl rfl) ?_
  refine skAny (wantedSome (d' := 58) (b := false) rfl rfl rfl) ?_
  refine sq (r_pickF (v := .bool (false)) rfl rfl) ?_
  refine sq (r_assign (v := .bool (false)) rfl) ?_
  refine wend ?_
  refine condFalse rfl ?_
  refine skipAny ?_
  refine thenNormal ?_
  refine exitAny ?_
  refine blockOut rfl ?_
  refine thenExit ?_
  refine blockOut rfl ?_
  refine thenExit ?_
  refine blockOut rfl ?_
  refine thenExit ?_
  refine blockHere ?_
  refine thenNormal ?_
  refine seqRegion ?_
  refine sq (r_assign (v := .bool (true)) rfl) ?_
  refine wend ?_
  refine retAny ?_
  refine retG (rs := [.tmp 4]) (vs := [.bool (true)]) rfl ⟨⟨rfl, rfl⟩, trivial⟩ ?_
  exact ⟨_, rfl, rfl, H9.chg⟩

theorem hear_r3 (b : Nat) (e : En) (fb : List (BitVec 8)) (a0 : Option Addr) (n0 c0 : Nat) (hn0 : n0 = fb.length) (hfc : fb.length ≤ c0) (hfb : fb.length ≤ 1099511627776) (w : World) (hb : w.heap[b]? = some (e.ob 89)) (hW : Rd E8 w a0 fb) (n : BitVec 32) (p : List (BitVec 8)) (hopn : opn fb = some (1#8, n, p)) (h1 : ¬ n = e.number) : Calls Tryd.prog 27 [.pointer (some ⟨b, 0, none⟩), .slice a0 n0 c0].toArray w (Ret fun v w' => v = .bool true ∧ Ext w w') := by
  subst hn0
  have H := Hp.start No w
  unfold En.ob at hb
  refine enter (n := 114) Tryd.func27 rfl rfl (Nat.le_of_ble_eq_true rfl) ?_
  refine seqRegion ?_
  refine sq (r_assign (v := .bool (false)) rfl) ?_
  refine wend ?_
  refine seqRegion ?_
  refine sq (r_move (v := .slice a0 fb.length c0) rfl) ?_
  refine c_call (vs := [.slice a0 fb.length c0]) call26 rfl (open_some fb (by omega) a0 fb.length c0 (by rfl) w hW (by omega) (1#8) n p hopn) ?_
  rintro _ w1 ⟨⟨_, rfl, key3, c4, sp5, rfl, hS6, hk7⟩, hE8⟩
  have H9 := H.add hE8 hk7
  refine sq (r_move (v := .tuple #[u8 (1#8), u32 (n), .slice (ownA key3) p.length c4, .bool (true)]) rfl) ?_
  refine sq (r_extract (vs := #[u8 (1#8), u32 (n), .slice (ownA key3) p.length c4, .bool (true)]) rfl rfl) ?_
  refine sq (r_extract (vs := #[u8 (1#8), u32 (n), .slice (ownA key3) p.length c4, .bool (true)]) rfl rfl) ?_
  refine sq (r_extract (vs := #[u8 (1#8), u32 (n), .slice (ownA key3) p.length c4, .bool (true)]) rfl rfl) ?_
  refine sq (r_extract (vs := #[u8 (1#8), u32 (n), .slice (ownA key3) p.length c4, .bool (true)]) rfl rfl) ?_
  refine sq (r_assign (v := u8 (1#8)) rfl) ?_
  refine sq (r_assign (v := u32 (n)) rfl) ?_
  refine sq (r_assign (v := .slice (ownA key3) p.length c4) rfl) ?_
  refine sq (r_assign (v := .bool (true)) rfl) ?_
  refine wend ?_
  refine seqAny ?_
  refine seqRegion ?_
  refine sq (r_move (v := .bool (true)) rfl) ?_
  refine sq (r_notT rfl) ?_
  refine wend ?_
  refine condFalse rfl ?_
  refine skipAny ?_
  refine thenNormal ?_
  refine seqAny ?_
  refine blockAny ?_
  refine seqAny ?_
  refine blockAny ?_
  refine seqAny ?_
  refine blockAny ?_
  refine seqAny ?_
  refine blockAny ?_
  refine seqAny ?_
  refine seqAny ?_
  refine seqRegion ?_
  refine sq (r_move (v := u8 (1#8)) rfl) ?_
  refine sq ((r_eql8 (a := 1#8) (b := 0#8) rfl rfl).as (v' := .bool (false)) (by exact congrArg Value.bool (decide_eq_false (by decide)))) ?_
  refine sq (r_move (v := .bool (false)) rfl) ?_
  refine skAny (wantedSome (d' := 21) (b := false) rfl rfl rfl) ?_
  refine skAny (wantedSome (d' := 21) (b := false) rfl rfl rfl) ?_
  refine skAny (wantedSome (d' := 21) (b := false) rfl rfl rfl) ?_
  refine skAny (wantedSome (d' := 21) (b := false) rfl rfl rfl) ?_
  refine skAny (wantedSome (d' := 21) (b := false) rfl rfl rfl) ?_
  refine skAny (wantedSome (d' := 21) (b := false) rfl rfl rfl) ?_
  refine sq (r_pickF (v := .bool (false)) rfl rfl) ?_
  refine sq (r_assign (v := .bool (false)) rfl) ?_
  refine wend ?_
  refine condFalse rfl ?_
  refine skipAny ?_
  refine thenNormal ?_
  refine seqAny ?_
  refine seqRegion ?_
  refine sq (r_move (v := u8 (1#8)) rfl) ?_
  refine sq ((r_eql8 (a := 1#8) (b := 0#8) rfl rfl).as (v' := .bool (false)) (by exact congrArg Value.bool (decide_eq_false (by decide)))) ?_
  refine sq (r_move (v := .bool (false)) rfl) ?_
  refine skAny (wantedSome (d' := 32) (b := false) rfl rfl rfl) ?_
  refine skAny (wantedSome (d' := 32) (b := false) rfl rfl rfl) ?_
  refine skAny (wantedSome (d' := 32) (b := false) rfl rfl rfl) ?_
  refine skAny (wantedSome (d' := 32) (b := false) rfl rfl rfl) ?_
  refine skAny (wantedSome (d' := 32) (b := false) rfl rfl rfl) ?_
  refine skAny (wantedSome (d' := 32) (b := false) rfl rfl rfl) ?_
  refine sq (r_pickF (v := .bool (false)) rfl rfl) ?_
  refine sq (r_assign (v := .bool (false)) rfl) ?_
  refine wend ?_
  refine condFalse rfl ?_
  refine skipAny ?_
  refine thenNormal ?_
  refine seqRegion ?_
  refine sq (r_move (v := u8 (1#8)) rfl) ?_
  refine sq ((r_eql8 (a := 1#8) (b := 1#8) rfl rfl).as (v' := .bool (true)) (by exact congrArg Value.bool (decide_eq_true rfl))) ?_
  refine sq (r_move (v := .bool (true)) rfl) ?_
  refine sqAny (v := u32 (n)) (w' := w1) (wantedSome (d' := 43) (b := true) rfl rfl rfl) (r_move (v := u32 (n)) rfl) ?_
  refine sqAny (v := .pointer (some ⟨b, 0, none⟩)) (w' := w1) (wantedSome (d' := 43) (b := true) rfl rfl rfl) (r_move (v := .pointer (some ⟨b, 0, none⟩)) rfl) ?_
  refine sqAny (v := .pointer (some ⟨b, 0, none⟩)) (w' := w1) (wantedSome (d' := 43) (b := true) rfl rfl rfl) (r_nilCheck rfl) ?_
  refine sqAny (v := .pointer (some ⟨b, 1, none⟩)) (w' := w1) (wantedSome (d' := 43) (b := true) rfl rfl rfl) (r_fieldAddr (off' := 1) fld89_1 (by decide) (b := b) (off := 0) rfl (by omega)) ?_
  refine sqAny (v := u32 (e.number)) (w' := w1) (wantedSome (d' := 43) (b := true) rfl rfl rfl) (r_loadC (v := u32 (e.number)) one53 (H9.keepE hb) (off := 1) rfl (by rfl)) ?_
  refine sqAny (v := .bool (false)) (w' := w1) (wantedSome (d' := 43) (b := true) rfl rfl rfl) ((r_eql32 (a := n) (b := e.number) rfl rfl).as (v' := .bool (false)) (by exact congrArg Value.bool (decide_eq_false h1))) ?_
  refine sq (r_pickT (u := .bool (false)) rfl rfl) ?_
  refine sq (r_move (v := .bool (false)) rfl) ?_
  refine skAny (wantedSome (d' := 51) (b := false) rfl rfl rfl) ?_
  refine skAny (wantedSome (d' := 51) (b := false) rfl rfl rfl) ?_
  refine skAny (wantedSome (d' := 51) (b := false) rfl rfl rfl) ?_
  refine skAny (wantedSome (d' := 51) (b := false) rfl rfl rfl) ?_
  refine skAny (wantedSome (d' := 51) (b := false) rfl rfl rfl) ?_
  refine sq (r_pickF (v := .bool (false)) rfl rfl) ?_
  refine sq (r_move (v := .bool (false)) rfl) ?_
  refine skAny (wantedSome (d' := 58) (b := false) rfl rfl rfl) ?_
  refine skAny (wantedSome (d' := 58) (b := false) rfl rfl rfl) ?_
  refine skAny (wantedSome (d' := 58) (b := false) rfl rfl rfl) ?_
  refine skAny (wantedSome (d' := 58) (b := false) rfl rfl rfl) ?_
  refine skAny (wantedSome (d' := 58) (b := false) rfl rfl rfl) ?_
  refine skAny (wantedSome (d' := 58) (b := false) rfl rfl rfl) ?_
  refine sq (r_pickF (v := .bool (false)) rfl rfl) ?_
  refine sq (r_assign (v := .bool (false)) rfl) ?_
  refine wend ?_
  refine condFalse rfl ?_
  refine skipAny ?_
  refine thenNormal ?_
  refine exitAny ?_
  refine blockOut rfl ?_
  refine thenExit ?_
  refine blockOut rfl ?_
  refine thenExit ?_
  refine blockOut rfl ?_
  refine thenExit ?_
  refine blockHere ?_
  refine thenNormal ?_
  refine seqRegion ?_
  refine sq (r_assign (v := .bool (true)) rfl) ?_
  refine wend ?_
  refine retAny ?_
  refine retG (rs := [.tmp 4]) (vs := [.bool (true)]) rfl ⟨⟨rfl, rfl⟩, trivial⟩ ?_
  exact ⟨_, rfl, rfl, H9.chg⟩

theorem hear_r4 (b : Nat) (e : En) (fb : List (BitVec 8)) (a0 : Option Addr) (n0 c0 : Nat) (hn0 : n0 = fb.length) (hfc : fb.length ≤ c0) (hfb : fb.length ≤ 1099511627776) (w : World) (hb : w.heap[b]? = some (e.ob 89)) (hW : Rd E8 w a0 fb) (n : BitVec 32) (p : List (BitVec 8)) (hopn : opn fb = some (1#8, n, p)) (h1 : n = e.number) (h2 : ¬ 0 < e.sends) : Calls Tryd.prog 27 [.pointer (some ⟨b, 0, none⟩), .slice a0 n0 c0].toArray w (Ret fun v w' => v = .bool true ∧ Ext w w') := by
  subst hn0
  have H := Hp.start No w
  unfold En.ob at hb
  refine enter (n := 114) Tryd.func27 rfl rfl (Nat.le_of_ble_eq_true rfl) ?_
  refine seqRegion ?_
  refine sq (r_assign (v := .bool (false)) rfl) ?_
  refine wend ?_
  refine seqRegion ?_
  refine sq (r_move (v := .slice a0 fb.length c0) rfl) ?_
  refine c_call (vs := [.slice a0 fb.length c0]) call26 rfl (open_some fb (by omega) a0 fb.length c0 (by rfl) w hW (by omega) (1#8) n p hopn) ?_
  rintro _ w1 ⟨⟨_, rfl, key3, c4, sp5, rfl, hS6, hk7⟩, hE8⟩
  have H9 := H.add hE8 hk7
  refine sq (r_move (v := .tuple #[u8 (1#8), u32 (n), .slice (ownA key3) p.length c4, .bool (true)]) rfl) ?_
  refine sq (r_extract (vs := #[u8 (1#8), u32 (n), .slice (ownA key3) p.length c4, .bool (true)]) rfl rfl) ?_
  refine sq (r_extract (vs := #[u8 (1#8), u32 (n), .slice (ownA key3) p.length c4, .bool (true)]) rfl rfl) ?_
  refine sq (r_extract (vs := #[u8 (1#8), u32 (n), .slice (ownA key3) p.length c4, .bool (true)]) rfl rfl) ?_
  refine sq (r_extract (vs := #[u8 (1#8), u32 (n), .slice (ownA key3) p.length c4, .bool (true)]) rfl rfl) ?_
  refine sq (r_assign (v := u8 (1#8)) rfl) ?_
  refine sq (r_assign (v := u32 (n)) rfl) ?_
  refine sq (r_assign (v := .slice (ownA key3) p.length c4) rfl) ?_
  refine sq (r_assign (v := .bool (true)) rfl) ?_
  refine wend ?_
  refine seqAny ?_
  refine seqRegion ?_
  refine sq (r_move (v := .bool (true)) rfl) ?_
  refine sq (r_notT rfl) ?_
  refine wend ?_
  refine condFalse rfl ?_
  refine skipAny ?_
  refine thenNormal ?_
  refine seqAny ?_
  refine blockAny ?_
  refine seqAny ?_
  refine blockAny ?_
  refine seqAny ?_
  refine blockAny ?_
  refine seqAny ?_
  refine blockAny ?_
  refine seqAny ?_
  refine seqAny ?_
  refine seqRegion ?_
  refine sq (r_move (v := u8 (1#8)) rfl) ?_
  refine sq ((r_eql8 (a := 1#8) (b := 0#8) rfl rfl).as (v' := .bool (false)) (by exact congrArg Value.bool (decide_eq_false (by decide)))) ?_
  refine sq (r_move (v := .bool (false)) rfl) ?_
  refine skAny (wantedSome (d' := 21) (b := false) rfl rfl rfl) ?_
  refine skAny (wantedSome (d' := 21) (b := false) rfl rfl rfl) ?_
  refine skAny (wantedSome (d' := 21) (b := false) rfl rfl rfl) ?_
  refine skAny (wantedSome (d' := 21) (b := false) rfl rfl rfl) ?_
  refine skAny (wantedSome (d' := 21) (b := false) rfl rfl rfl) ?_
  refine skAny (wantedSome (d' := 21) (b := false) rfl rfl rfl) ?_
  refine sq (r_pickF (v := .bool (false)) rfl rfl) ?_
  refine sq (r_assign (v := .bool (false)) rfl) ?_
  refine wend ?_
  refine condFalse rfl ?_
  refine skipAny ?_
  refine thenNormal ?_
  refine seqAny ?_
  refine seqRegion ?_
  refine sq (r_move (v := u8 (1#8)) rfl) ?_
  refine sq ((r_eql8 (a := 1#8) (b := 0#8) rfl rfl).as (v' := .bool (false)) (by exact congrArg Value.bool (decide_eq_false (by decide)))) ?_
  refine sq (r_move (v := .bool (false)) rfl) ?_
  refine skAny (wantedSome (d' := 32) (b := false) rfl rfl rfl) ?_
  refine skAny (wantedSome (d' := 32) (b := false) rfl rfl rfl) ?_
  refine skAny (wantedSome (d' := 32) (b := false) rfl rfl rfl) ?_
  refine skAny (wantedSome (d' := 32) (b := false) rfl rfl rfl) ?_
  refine skAny (wantedSome (d' := 32) (b := false) rfl rfl rfl) ?_
  refine skAny (wantedSome (d' := 32) (b := false) rfl rfl rfl) ?_
  refine sq (r_pickF (v := .bool (false)) rfl rfl) ?_
  refine sq (r_assign (v := .bool (false)) rfl) ?_
  refine wend ?_
  refine condFalse rfl ?_
  refine skipAny ?_
  refine thenNormal ?_
  refine seqRegion ?_
  refine sq (r_move (v := u8 (1#8)) rfl) ?_
  refine sq ((r_eql8 (a := 1#8) (b := 1#8) rfl rfl).as (v' := .bool (true)) (by exact congrArg Value.bool (decide_eq_true rfl))) ?_
  refine sq (r_move (v := .bool (true)) rfl) ?_
  refine sqAny (v := u32 (n)) (w' := w1) (wantedSome (d' := 43) (b := true) rfl rfl rfl) (r_move (v := u32 (n)) rfl) ?_
  refine sqAny (v := .pointer (some ⟨b, 0, none⟩)) (w' := w1) (wantedSome (d' := 43) (b := true) rfl rfl rfl) (r_move (v := .pointer (some ⟨b, 0, none⟩)) rfl) ?_
  refine sqAny (v := .pointer (some ⟨b, 0, none⟩)) (w' := w1) (wantedSome (d' := 43) (b := true) rfl rfl rfl) (r_nilCheck rfl) ?_
  refine sqAny (v := .pointer (some ⟨b, 1, none⟩)) (w' := w1) (wantedSome (d' := 43) (b := true) rfl rfl rfl) (r_fieldAddr (off' := 1) fld89_1 (by decide) (b := b) (off := 0) rfl (by omega)) ?_
  refine sqAny (v := u32 (e.number)) (w' := w1) (wantedSome (d' := 43) (b := true) rfl rfl rfl) (r_loadC (v := u32 (e.number)) one53 (H9.keepE hb) (off := 1) rfl (by rfl)) ?_
  refine sqAny (v := .bool (true)) (w' := w1) (wantedSome (d' := 43) (b := true) rfl rfl rfl) ((r_eql32 (a := n) (b := e.number) rfl rfl).as (v' := .bool (true)) (by exact congrArg Value.bool (decide_eq_true h1))) ?_
  refine sq (r_pickT (u := .bool (true)) rfl rfl) ?_
  refine sq (r_move (v := .bool (true)) rfl) ?_
  refine sqAny (v := .pointer (some ⟨b, 0, none⟩)) (w' := w1) (wantedSome (d' := 51) (b := true) rfl rfl rfl) (r_move (v := .pointer (some ⟨b, 0, none⟩)) rfl) ?_
  refine sqAny (v := .pointer (some ⟨b, 0, none⟩)) (w' := w1) (wantedSome (d' := 51) (b := true) rfl rfl rfl) (r_nilCheck rfl) ?_
  refine sqAny (v := .pointer (some ⟨b, 2, none⟩)) (w' := w1) (wantedSome (d' := 51) (b := true) rfl rfl rfl) (r_fieldAddr (off' := 2) fld89_2 (by decide) (b := b) (off := 0) rfl (by omega)) ?_
  refine sqAny (v := i64 ((e.sends : Nat))) (w' := w1) (wantedSome (d' := 51) (b := true) rfl rfl rfl) (r_loadC (v := i64 ((e.sends : Nat))) one3 (H9.keepE hb) (off := 2) rfl (by rfl)) ?_
  refine sqAny (v := .bool (false)) (w' := w1) (wantedSome (d' := 51) (b := true) rfl rfl rfl) ((r_gtrI (a := (e.sends : Nat)) (b := (0 : Int)) rfl rfl).as (v' := .bool (false)) (by exact congrArg Value.bool (decide_eq_false (by omega)))) ?_
  refine sq (r_pickT (u := .bool (false)) rfl rfl) ?_
  refine sq (r_move (v := .bool (false)) rfl) ?_
  refine skAny (wantedSome (d' := 58) (b := false) rfl rfl rfl) ?_
  refine skAny (wantedSome (d' := 58) (b := false) rfl rfl rfl) ?_
  refine skAny (wantedSome (d' := 58) (b := false) rfl rfl rfl) ?_
  refine skAny (wantedSome (d' := 58) (b := false) rfl rfl rfl) ?_
  refine skAny (wantedSome (d' := 58) (b := false) rfl rfl rfl) ?_
  refine skAny (wantedSome (d' := 58) (b := false) rfl rfl rfl) ?_
  refine sq (r_pickF (v := .bool (false)) rfl rfl) ?_
  refine sq (r_assign (v := .bool (false)) rfl) ?_
  refine wend ?_
  refine condFalse rfl ?_
  refine skipAny ?_
  refine thenNormal ?_
  refine exitAny ?_
  refine blockOut rfl ?_
  refine thenExit ?_
  refine blockOut rfl ?_
  refine thenExit ?_
  refine blockOut rfl ?_
  refine thenExit ?_
  refine blockHere ?_
  refine thenNormal ?_
  refine seqRegion ?_
  refine sq (r_assign (v := .bool (true)) rfl) ?_
  refine wend ?_
  refine retAny ?_
  refine retG (rs := [.tmp 4]) (vs := [.bool (true)]) rfl ⟨⟨rfl, rfl⟩, trivial⟩ ?_
  exact ⟨_, rfl, rfl, H9.chg⟩

theorem hear_r5 (b : Nat) (e : En) (fb : List (BitVec 8)) (a0 : Option Addr) (n0 c0 : Nat) (hn0 : n0 = fb.length) (hfc : fb.length ≤ c0) (hfb : fb.length ≤ 1099511627776) (w : World) (hb : w.heap[b]? = some (e.ob 89)) (hW : Rd E8 w a0 fb) (n : BitVec 32) (p : List (BitVec 8)) (hopn : opn fb = some (1#8, n, p)) (h1 : n = e.number) (h2 : 0 < e.sends) (h3 : ¬ 0 < e.q.fs.length) : Calls Tryd.prog 27 [.pointer (some ⟨b, 0, none⟩), .slice a0 n0 c0].toArray w (Ret fun v w' => v = .bool true ∧ Ext w w') := by
  subst hn0
  have H := Hp.start No w
  unfold En.ob at hb
  refine enter (n := 114) Tryd.func27 rfl rfl (Nat.le_of_ble_eq_true rfl) ?_
  refine seqRegion ?_
  refine sq (r_assign (v := .bool (false)) rfl) ?_
  refine wend ?_
  refine seqRegion ?_
  refine sq (r_move (v := .slice a0 fb.length c0) rfl) ?_
  refine c_call (vs := [.slice a0 fb.length c0]) call26 rfl (open_some fb (by omega) a0 fb.length c0 (by rfl) w hW (by omega) (1#8) n p hopn) ?_
  rintro _ w1 ⟨⟨_, rfl, key3, c4, sp5, rfl, hS6, hk7⟩, hE8⟩
  have H9 := H.add hE8 hk7
  refine sq (r_move (v := .tuple #[u8 (1#8), u32 (n), .slice (ownA key3) p.length c4, .bool (true)]) rfl) ?_
  refine sq (r_extract (vs := #[u8 (1#8), u32 (n), .slice (ownA key3) p.length c4, .bool (true)]) rfl rfl) ?_
  refine sq (r_extract (vs := #[u8 (1#8), u32 (n), .slice (ownA key3) p.length c4, .bool (true)]) rfl rfl) ?_
  refine sq (r_extract (vs := #[u8 (1#8), u32 (n), .slice (ownA key3) p.length c4, .bool (true)]) rfl rfl) ?_
  refine sq (r_extract (vs := #[u8 (1#8), u32 (n), .slice (ownA key3) p.length c4, .bool (true)]) rfl rfl) ?_
  refine sq (r_assign (v := u8 (1#8)) rfl) ?_
  refine sq (r_assign (v := u32 (n)) rfl) ?_
  refine sq (r_assign (v := .slice (ownA key3) p.length c4) rfl) ?_
  refine sq (r_assign (v := .bool (true)) rfl) ?_
  refine wend ?_
  refine seqAny ?_
  refine seqRegion ?_
  refine sq (r_move (v := .bool (true)) rfl) ?_
  refine sq (r_notT rfl) ?_
  refine wend ?_
  refine condFalse rfl ?_
  refine skipAny ?_
  refine thenNormal ?_
  refine seqAny ?_
  refine blockAny ?_
  refine seqAny ?_
  refine blockAny ?_
  refine seqAny ?_
  refine blockAny ?_
  refine seqAny ?_
  refine blockAny ?_
  refine seqAny ?_
  refine seqAny ?_
  refine seqRegion ?_
  refine sq (r_move (v := u8 (1#8)) rfl) ?_
  refine sq ((r_eql8 (a := 1#8) (b := 0#8) rfl rfl).as (v' := .bool (false)) (by exact congrArg Value.bool (decide_eq_false (by decide)))) ?_
  refine sq (r_move (v := .bool (false)) rfl) ?_
  refine skAny (wantedSome (d' := 21) (b := false) rfl rfl rfl) ?_
  refine skAny (wantedSome (d' := 21) (b := false) rfl rfl rfl) ?_
  refine skAny (wantedSome (d' := 21) (b := false) rfl rfl rfl) ?_
  refine skAny (wantedSome (d' := 21) (b := false) rfl rfl rfl) ?_
  refine skAny (wantedSome (d' := 21) (b := false) rfl rfl rfl) ?_
  refine skAny (wantedSome (d' := 21) (b := false) rfl rfl rfl) ?_
  refine sq (r_pickF (v := .bool (false)) rfl rfl) ?_
  refine sq (r_assign (v := .bool (false)) rfl) ?_
  refine wend ?_
  refine condFalse rfl ?_
  refine skipAny ?_
  refine thenNormal ?_
  refine seqAny ?_
  refine seqRegion ?_
  refine sq (r_move (v := u8 (1#8)) rfl) ?_
  refine sq ((r_eql8 (a := 1#8) (b := 0#8) rfl rfl).as (v' := .bool (false)) (by exact congrArg Value.bool (decide_eq_false (by decide)))) ?_
  refine sq (r_move (v := .bool (false)) rfl) ?_
  refine skAny (wantedSome (d' := 32) (b := false) rfl rfl rfl) ?_
  refine skAny (wantedSome (d' := 32) (b := false) rfl rfl rfl) ?_
  refine skAny (wantedSome (d' := 32) (b := false) rfl rfl rfl) ?_
  refine skAny (wantedSome (d' := 32) (b := false) rfl rfl rfl) ?_
  refine skAny (wantedSome (d' := 32) (b := false) rfl rfl rfl) ?_
  refine skAny (wantedSome (d' := 32) (b := false) rfl rfl rfl) ?_
  refine sq (r_pickF (v := .bool (false)) rfl rfl) ?_
  refine sq (r_assign (v := .bool (false)) rfl) ?_
  refine wend ?_
  refine condFalse rfl ?_
  refine skipAny ?_
  refine thenNormal ?_
  refine seqRegion ?_
  refine sq (r_move (v := u8 (1#8)) rfl) ?_
  refine sq ((r_eql8 (a := 1#8) (b := 1#8) rfl rfl).as (v' := .bool (true)) (by exact congrArg Value.bool (decide_eq_true rfl))) ?_
  refine sq (r_move (v := .bool (true)) rfl) ?_
  refine sqAny (v := u32 (n)) (w' := w1) (wantedSome (d' := 43) (b := true) rfl rfl rfl) (r_move (v := u32 (n)) rfl) ?_
  refine sqAny (v := .pointer (some ⟨b, 0, none⟩)) (w' := w1) (wantedSome (d' := 43) (b := true) rfl rfl rfl) (r_move (v := .pointer (some ⟨b, 0, none⟩)) rfl) ?_
  refine sqAny (v := .pointer (some ⟨b, 0, none⟩)) (w' := w1) (wantedSome (d' := 43) (b := true) rfl rfl rfl) (r_nilCheck rfl) ?_
  refine sqAny (v := .pointer (some ⟨b, 1, none⟩)) (w' := w1) (wantedSome (d' := 43) (b := true) rfl rfl rfl) (r_fieldAddr (off' := 1) fld89_1 (by decide) (b := b) (off := 0) rfl (by omega)) ?_
  refine sqAny (v := u32 (e.number)) (w' := w1) (wantedSome (d' := 43) (b := true) rfl rfl rfl) (r_loadC (v := u32 (e.number)) one53 (H9.keepE hb) (off := 1) rfl (by rfl)) ?_
  refine sqAny (v := .bool (true)) (w' := w1) (wantedSome (d' := 43) (b := true) rfl rfl rfl) ((r_eql32 (a := n) (b := e.number) rfl rfl).as (v' := .bool (true)) (by exact congrArg Value.bool (decide_eq_true h1))) ?_
  refine sq (r_pickT (u := .bool (true)) rfl rfl) ?_
  refine sq (r_move (v := .bool (true)) rfl) ?_
  refine sqAny (v := .pointer (some ⟨b, 0, none⟩)) (w' := w1) (wantedSome (d' := 51) (b := true) rfl rfl rfl) (r_move (v := .pointer (some ⟨b, 0, none⟩)) rfl) ?_
  refine sqAny (v := .pointer (some ⟨b, 0, none⟩)) (w' := w1) (wantedSome (d' := 51) (b := true) rfl rfl rfl) (r_nilCheck rfl) ?_
  refine sqAny (v := .pointer (some ⟨b, 2, none⟩)) (w' := w1) (wantedSome (d' := 51) (b := true) rfl rfl rfl) (r_fieldAddr (off' := 2) fld89_2 (by decide) (b := b) (off := 0) rfl (by omega)) ?_
  refine sqAny (v := i64 ((e.sends : Nat))) (w' := w1) (wantedSome (d' := 51) (b := true) rfl rfl rfl) (r_loadC (v := i64 ((e.sends : Nat))) one3 (H9.keepE hb) (off := 2) rfl (by rfl)) ?_
  refine sqAny (v := .bool (true)) (w' := w1) (wantedSome (d' := 51) (b := true) rfl rfl rfl) ((r_gtrI (a := (e.sends : Nat)) (b := (0 : Int)) rfl rfl).as (v' := .bool (true)) (by exact congrArg Value.bool (decide_eq_true (by omega)))) ?_
  refine sq (r_pickT (u := .bool (true)) rfl rfl) ?_
  refine sq (r_move (v := .bool (true)) rfl) ?_
  refine sqAny (v := .pointer (some ⟨b, 0, none⟩)) (w' := w1) (wantedSome (d' := 58) (b := true) rfl rfl rfl) (r_move (v := .pointer (some ⟨b, 0, none⟩)) rfl) ?_
  refine sqAny (v := .pointer (some ⟨b, 0, none⟩)) (w' := w1) (wantedSome (d' := 58) (b := true) rfl rfl rfl) (r_nilCheck rfl) ?_
  refine sqAny (v := .pointer (some ⟨b, 0, none⟩)) (w' := w1) (wantedSome (d' := 58) (b := true) rfl rfl rfl) (r_fieldAddr (off' := 0) fld89_0 (by decide) (b := b) (off := 0) rfl (by omega)) ?_
  refine sqAny (v := .slice e.q.a e.q.fs.length e.q.c) (w' := w1) (wantedSome (d' := 58) (b := true) rfl rfl rfl) (r_loadC (v := .slice e.q.a e.q.fs.length e.q.c) one22 (H9.keepE hb) (off := 0) rfl (by rfl)) ?_
  refine sqAny (v := i64 ((e.q.fs.length : Nat))) (w' := w1) (wantedSome (d' := 58) (b := true) rfl rfl rfl) (r_lenS sli22 (a := e.q.a) (m := e.q.fs.length) (c := e.q.c) rfl) ?_
  refine sqAny (v := .bool (false)) (w' := w1) (wantedSome (d' := 58) (b := true) rfl rfl rfl) ((r_gtrI (a := (e.q.fs.length : Nat)) (b := (0 : Int)) rfl rfl).as (v' := .bool (false)) (by exact congrArg Value.bool (decide_eq_false (by omega)))) ?_
  refine sq (r_pickT (u := .bool (false)) rfl rfl) ?_
  refine sq (r_assign (v := .bool (false)) rfl) ?_
  refine wend ?_
  refine condFalse rfl ?_
  refine skipAny ?_
  refine thenNormal ?_
  refine exitAny ?_
  refine blockOut rfl ?_
  refine thenExit ?_
  refine blockOut rfl ?_
  refine thenExit ?_
  refine blockOut rfl ?_
  refine thenExit ?_
  refine blockHere ?_
  refine thenNormal ?_
  refine seqRegion ?_
  refine sq (r_assign (v := .bool (true)) rfl) ?_
  refine wend ?_
  refine retAny ?_
  refine retG (rs := [.tmp 4]) (vs := [.bool (true)]) rfl ⟨⟨rfl, rfl⟩, trivial⟩ ?_
  exact ⟨_, rfl, rfl, H9.chg⟩

theorem hear_ack (b : Nat) (e : En) (F R : List (Option Nat × Obj)) (he : e.ok 5 F) (hF : ∀ x ∈ F, x ∈ R) (w₀ w : World) (H : Hp No w₀ w (endR 30 53 89 b e ++ R)) (fb : List (BitVec 8)) (a0 : Option Addr) (n0 c0 : Nat) (hn0 : n0 = fb.length) (hfc : fb.length ≤ c0) (hfb : fb.length ≤ 1099511627776) (hW : Rd E8 w a0 fb) (n : BitVec 32) (p : List (BitVec 8)) (hopn : opn fb = some (1#8, n, p)) (h1 : n = e.number) (h2 : 0 < e.sends) (h3 : 0 < e.q.fs.length) : Calls Tryd.prog 27 [.pointer (some ⟨b, 0, none⟩), .slice a0 n0 c0].toArray w (Ret fun v w' => v = .bool true ∧ ∃ (e' : En) (X : List (Option Nat × Obj)), Hp No w₀ w' (endR 30 53 89 b e' ++ (X ++ R)) ∧ e'.ok 5 (X ++ F) ∧ abs e' = { abs e with queue := (abs e).queue.drop 1, number := e.number + 1#32, sends := 0, since := 0 }) := by
  subst hn0
  have hqc := he.q.sl.cap
  have hcc := he.cm.sl.cap
  rw [svs_len] at hqc hcc
  have H := H.as (L' := ((some b, .cells #[.slice e.q.a e.q.fs.length e.q.c, u32 (e.number), i64 ((e.sends : Nat)), i64 ((e.since : Nat)), u32 (e.want), .slice e.cm.a e.cm.fs.length e.cm.c, .slice (ownA e.o.key) e.o.l.length e.o.c, e.err] 89 (0, 0)) :: (e.q.key, sobP ES 30 e.q.pre (svs e.q.fs) e.q.sp) :: (e.cm.key, sobP ES 30 e.cm.pre (svs e.cm.fs) e.cm.sp) :: (e.o.key, sob E32 53 e.o.l e.o.sp) :: R)) rfl
  refine enter (n := 114) Tryd.func27 rfl rfl (Nat.le_of_ble_eq_true rfl) ?_
  refine seqRegion ?_
  refine sq (r_assign (v := .bool (false)) rfl) ?_
  refine wend ?_
  refine seqRegion ?_
  refine sq (r_move (v := .slice a0 fb.length c0) rfl) ?_
  refine c_call (vs := [.slice a0 fb.length c0]) call26 rfl (open_some fb (by omega) a0 fb.length c0 (by rfl) w hW (by omega) (1#8) n p hopn) ?_
  rintro _ w1 ⟨⟨_, rfl, key3, c4, sp5, rfl, hS6, hk7⟩, hE8⟩
  have H9 := H.add hE8 hk7
  refine sq (r_move (v := .tuple #[u8 (1#8), u32 (n), .slice (ownA key3) p.length c4, .bool (true)]) rfl) ?_
  refine sq (r_extract (vs := #[u8 (1#8), u32 (n), .slice (ownA key3) p.length c4, .bool (true)]) rfl rfl) ?_
  refine sq (r_extract (vs := #[u8 (1#8), u32 (n), .slice (ownA key3) p.length c4, .bool (true)]) rfl rfl) ?_
  refine sq (r_extract (vs := #[u8 (1#8), u32 (n), .slice (ownA key3) p.length c4, .bool (true)]) rfl rfl) ?_
  refine sq (r_extract (vs := #[u8 (1#8), u32 (n), .slice (ownA key3) p.length c4, .bool (true)]) rfl rfl) ?_
  refine sq (r_assign (v := u8 (1#8)) rfl) ?_
  refine sq (r_assign (v := u32 (n)) rfl) ?_
  refine sq (r_assign (v := .slice (ownA key3) p.length c4) rfl) ?_
  refine sq (r_assign (v := .bool (true)) rfl) ?_
  refine wend ?_
  refine seqAny ?_
  refine seqRegion ?_
  refine sq (r_move (v := .bool (true)) rfl) ?_
  refine sq (r_notT rfl) ?_
  refine wend ?_
  refine condFalse rfl ?_
  refine skipAny ?_
  refine thenNormal ?_
  refine seqAny ?_
  refine blockAny ?_
  refine seqAny ?_
  refine blockAny ?_
  refine seqAny ?_
  refine blockAny ?_
  refine seqAny ?_
  refine blockAny ?_
  refine seqAny ?_
  refine seqAny ?_
  refine seqRegion ?_
  refine sq (r_move (v := u8 (1#8)) rfl) ?_
  refine sq ((r_eql8 (a := 1#8) (b := 0#8) rfl rfl).as (v' := .bool (false)) (by exact congrArg Value.bool (decide_eq_false (by decide)))) ?_
  refine sq (r_move (v := .bool (false)) rfl) ?_
  refine skAny (wantedSome (d' := 21) (b := false) rfl rfl rfl) ?_
  refine skAny (wantedSome (d' := 21) (b := false) rfl rfl rfl) ?_
  refine skAny (wantedSome (d' := 21) (b := false) rfl rfl rfl) ?_
  refine skAny (wantedSome (d' := 21) (b := false) rfl rfl rfl) ?_
  refine skAny (wantedSome (d' := 21) (b := false) rfl rfl rfl) ?_
  refine skAny (wantedSome (d' := 21) (b := false) rfl rfl rfl) ?_
  refine sq (r_pickF (v := .bool (false)) rfl rfl) ?_
  refine sq (r_assign (v := .bool (false)) rfl) ?_
  refine wend ?_
  refine condFalse rfl ?_
  refine skipAny ?_
  refine thenNormal ?_
  refine seqAny ?_
  refine seqRegion ?_
  refine sq (r_move (v := u8 (1#8)) rfl) ?_
  refine sq ((r_eql8 (a := 1#8) (b := 0#8) rfl rfl).as (v' := .bool (false)) (by exact congrArg Value.bool (decide_eq_false (by decide)))) ?_
  refine sq (r_move (v := .bool (false)) rfl) ?_
  refine skAny (wantedSome (d' := 32) (b := false) rfl rfl rfl) ?_
  refine skAny (wantedSome (d' := 32) (b := false) rfl rfl rfl) ?_
  refine skAny (wantedSome (d' := 32) (b := false) rfl rfl rfl) ?_
  refine skAny (wantedSome (d' := 32) (b := false) rfl rfl rfl) ?_
  refine skAny (wantedSome (d' := 32) (b := false) rfl rfl rfl) ?_
  refine skAny (wantedSome (d' := 32) (b := false) rfl rfl rfl) ?_
  refine sq (r_pickF (v := .bool (false)) rfl rfl) ?_
  refine sq (r_assign (v := .bool (false)) rfl) ?_
  refine wend ?_
  refine condFalse rfl ?_
  refine skipAny ?_
  refine thenNormal ?_
  refine seqRegion ?_
  refine sq (r_move (v := u8 (1#8)) rfl) ?_
  refine sq ((r_eql8 (a := 1#8) (b := 1#8) rfl rfl).as (v' := .bool (true)) (by exact congrArg Value.bool (decide_eq_true rfl))) ?_
  refine sq (r_move (v := .bool (true)) rfl) ?_
  refine sqAny (v := u32 (n)) (w' := w1) (wantedSome (d' := 43) (b := true) rfl rfl rfl) (r_move (v := u32 (n)) rfl) ?_
  refine sqAny (v := .pointer (some ⟨b, 0, none⟩)) (w' := w1) (wantedSome (d' := 43) (b := true) rfl rfl rfl) (r_move (v := .pointer (some ⟨b, 0, none⟩)) rfl) ?_
  refine sqAny (v := .pointer (some ⟨b, 0, none⟩)) (w' := w1) (wantedSome (d' := 43) (b := true) rfl rfl rfl) (r_nilCheck rfl) ?_
  refine sqAny (v := .pointer (some ⟨b, 1, none⟩)) (w' := w1) (wantedSome (d' := 43) (b := true) rfl rfl rfl) (r_fieldAddr (off' := 1) fld89_1 (by decide) (b := b) (off := 0) rfl (by omega)) ?_
  refine sqAny (v := u32 (e.number)) (w' := w1) (wantedSome (d' := 43) (b := true) rfl rfl rfl) (r_loadC (v := u32 (e.number)) one53 (H9.get (k := 1) rfl) (off := 1) rfl (by rfl)) ?_
  refine sqAny (v := .bool (true)) (w' := w1) (wantedSome (d' := 43) (b := true) rfl rfl rfl) ((r_eql32 (a := n) (b := e.number) rfl rfl).as (v' := .bool (true)) (by exact congrArg Value.bool (decide_eq_true h1))) ?_
  refine sq (r_pickT (u := .bool (true)) rfl rfl) ?_
  refine sq (r_move (v := .bool (true)) rfl) ?_
  refine sqAny (v := .pointer (some ⟨b, 0, none⟩)) (w' := w1) (wantedSome (d' := 51) (b := true) rfl rfl rfl) (r_move (v := .pointer (some ⟨b, 0, none⟩)) rfl) ?_
  refine sqAny (v := .pointer (some ⟨b, 0, none⟩)) (w' := w1) (wantedSome (d' := 51) (b := true) rfl rfl rfl) (r_nilCheck rfl) ?_
  refine sqAny (v := .pointer (some ⟨b, 2, none⟩)) (w' := w1) (wantedSome (d' := 51) (b := true) rfl rfl rfl) (r_fieldAddr (off' := 2) fld89_2 (by decide) (b := b) (off := 0) rfl (by omega)) ?_
  refine sqAny (v := i64 ((e.sends : Nat))) (w' := w1) (wantedSome (d' := 51) (b := true) rfl rfl rfl) (r_loadC (v := i64 ((e.sends : Nat))) one3 (H9.get (k := 1) rfl) (off := 2) rfl (by rfl)) ?_
  refine sqAny (v := .bool (true)) (w' := w1) (wantedSome (d' := 51) (b := true) rfl rfl rfl) ((r_gtrI (a := (e.sends : Nat)) (b := (0 : Int)) rfl rfl).as (v' := .bool (true)) (by exact congrArg Value.bool (decide_eq_true (by omega)))) ?_
  refine sq (r_pickT (u := .bool (true)) rfl rfl) ?_
  refine sq (r_move (v := .bool (true)) rfl) ?_
  refine sqAny (v := .pointer (some ⟨b, 0, none⟩)) (w' := w1) (wantedSome (d' := 58) (b := true) rfl rfl rfl) (r_move (v := .pointer (some ⟨b, 0, none⟩)) rfl) ?_
  refine sqAny (v := .pointer (some ⟨b, 0, none⟩)) (w' := w1) (wantedSome (d' := 58) (b := true) rfl rfl rfl) (r_nilCheck rfl) ?_
  refine sqAny (v := .pointer (some ⟨b, 0, none⟩)) (w' := w1) (wantedSome (d' := 58) (b := true) rfl rfl rfl) (r_fieldAddr (off' := 0) fld89_0 (by decide) (b := b) (off := 0) rfl (by omega)) ?_
  refine sqAny (v := .slice e.q.a e.q.fs.length e.q.c) (w' := w1) (wantedSome (d' := 58) (b := true) rfl rfl rfl) (r_loadC (v := .slice e.q.a e.q.fs.length e.q.c) one22 (H9.get (k := 1) rfl) (off := 0) rfl (by rfl)) ?_
  refine sqAny (v := i64 ((e.q.fs.length : Nat))) (w' := w1) (wantedSome (d' := 58) (b := true) rfl rfl rfl) (r_lenS sli22 (a := e.q.a) (m := e.q.fs.length) (c := e.q.c) rfl) ?_
  refine sqAny (v := .bool (true)) (w' := w1) (wantedSome (d' := 58) (b := true) rfl rfl rfl) ((r_gtrI (a := (e.q.fs.length : Nat)) (b := (0 : Int)) rfl rfl).as (v' := .bool (true)) (by exact congrArg Value.bool (decide_eq_true (by omega)))) ?_
  refine sq (r_pickT (u := .bool (true)) rfl rfl) ?_
  refine sq (r_assign (v := .bool (true)) rfl) ?_
  refine wend ?_
  refine condTrue rfl ?_
  refine exitAny ?_
  refine thenExit ?_
  refine blockOut rfl ?_
  refine thenExit ?_
  refine blockOut rfl ?_
  refine thenExit ?_
  refine blockHere ?_
  refine thenNormal ?_
  refine seqAny ?_
  refine seqRegion ?_
  refine sq (r_move (v := .pointer (some ⟨b, 0, none⟩)) rfl) ?_
  refine sq (r_move (v := .pointer (some ⟨b, 0, none⟩)) rfl) ?_
  refine sq (r_nilCheck rfl) ?_
  refine sq (r_fieldAddr (off' := 0) fld89_0 (by decide) (b := b) (off := 0) rfl (by omega)) ?_
  refine sq (r_loadC (v := .slice e.q.a e.q.fs.length e.q.c) one22 (H9.get (k := 1) rfl) (off := 0) rfl (by rfl)) ?_
  refine sq ((r_sliceS (l := 1) (h := e.q.fs.length) sli22 rfl (.inl ⟨_, _, _, rfl, rfl, by first | rfl | omega | (simp; omega)⟩) (.inr ⟨rfl, rfl⟩) (by omega) (by omega)).as (v' := .slice (if e.q.c = 1 then e.q.a else adr e.q.a (1 * 1)) (e.q.fs.length - 1) (e.q.c - 1)) (by first | rfl | (congr 1; omega) | (simp; omega) | simp)) ?_
  refine sq (r_nilCheck rfl) ?_
  refine sq (r_fieldAddr (off' := 0) fld89_0 (by decide) (b := b) (off := 0) rfl (by omega)) ?_
  refine d_store (k := 1) (v := .slice (if e.q.c = 1 then e.q.a else adr e.q.a (1 * 1)) (e.q.fs.length - 1) (e.q.c - 1)) (cs' := #[.slice (if e.q.c = 1 then e.q.a else adr e.q.a (1 * 1)) (e.q.fs.length - 1) (e.q.c - 1), u32 (e.number), i64 ((e.sends : Nat)), i64 ((e.since : Nat)), u32 (e.want), .slice e.cm.a e.cm.fs.length e.cm.c, .slice (ownA e.o.key) e.o.l.length e.o.c, e.err]) H9 rfl rfl rfl siz22 (by rfl) (by intro u hu; simp [Value.cells] at hu; first | (subst hu; rfl) | (rcases hu with rfl <;> rfl)) (by exact Nat.le_of_ble_eq_true rfl) (by rfl) ?_
  intro w10 H11 hC12
  have H11' := H11.as (L' := ((key3, sob E8 5 p sp5) :: (some b, .cells #[.slice (if e.q.c = 1 then e.q.a else adr e.q.a (1 * 1)) (e.q.fs.length - 1) (e.q.c - 1), u32 (e.number), i64 ((e.sends : Nat)), i64 ((e.since : Nat)), u32 (e.want), .slice e.cm.a e.cm.fs.length e.cm.c, .slice (ownA e.o.key) e.o.l.length e.o.c, e.err] 89 (0, 0)) :: (e.q.key, sobP ES 30 e.q.pre (svs e.q.fs) e.q.sp) :: (e.cm.key, sobP ES 30 e.cm.pre (svs e.cm.fs) e.cm.sp) :: (e.o.key, sob E32 53 e.o.l e.o.sp) :: R)) rfl
  clear H11
  refine wend ?_
  refine seqRegion ?_
  refine sq (r_move (v := .pointer (some ⟨b, 0, none⟩)) rfl) ?_
  refine sq (r_nilCheck rfl) ?_
  refine sq (r_fieldAddr (off' := 1) fld89_1 (by decide) (b := b) (off := 0) rfl (by omega)) ?_
  refine sq (r_loadC (v := u32 (e.number)) one53 (H11'.get (k := 1) rfl) (off := 1) rfl (by rfl)) ?_
  refine sq (r_add32 (a := e.number) (b := 1#32) rfl rfl) ?_
  refine sq (r_nilCheck rfl) ?_
  refine sq (r_fieldAddr (off' := 1) fld89_1 (by decide) (b := b) (off := 0) rfl (by omega)) ?_
  refine d_store (k := 1) (v := u32 (e.number + (1#32))) (cs' := #[.slice (if e.q.c = 1 then e.q.a else adr e.q.a (1 * 1)) (e.q.fs.length - 1) (e.q.c - 1), u32 (e.number + (1#32)), i64 ((e.sends : Nat)), i64 ((e.since : Nat)), u32 (e.want), .slice e.cm.a e.cm.fs.length e.cm.c, .slice (ownA e.o.key) e.o.l.length e.o.c, e.err]) H11' rfl rfl rfl siz53 (by rfl) (by exact E32.one _) (by exact Nat.le_of_ble_eq_true rfl) (by rfl) ?_
  intro w13 H14 hC15
  have H14' := H14.as (L' := ((key3, sob E8 5 p sp5) :: (some b, .cells #[.slice (if e.q.c = 1 then e.q.a else adr e.q.a (1 * 1)) (e.q.fs.length - 1) (e.q.c - 1), u32 (e.number + (1#32)), i64 ((e.sends : Nat)), i64 ((e.since : Nat)), u32 (e.want), .slice e.cm.a e.cm.fs.length e.cm.c, .slice (ownA e.o.key) e.o.l.length e.o.c, e.err] 89 (0, 0)) :: (e.q.key, sobP ES 30 e.q.pre (svs e.q.fs) e.q.sp) :: (e.cm.key, sobP ES 30 e.cm.pre (svs e.cm.fs) e.cm.sp) :: (e.o.key, sob E32 53 e.o.l e.o.sp) :: R)) rfl
  clear H14
  refine wend ?_
  refine oneRegion ?_
  refine sq (r_move (v := .pointer (some ⟨b, 0, none⟩)) rfl) ?_
  refine sq (r_move (v := .pointer (some ⟨b, 0, none⟩)) rfl) ?_
  refine sq (r_nilCheck rfl) ?_
  refine sq (r_fieldAddr (off' := 2) fld89_2 (by decide) (b := b) (off := 0) rfl (by omega)) ?_
  refine d_store (k := 1) (v := i64 ((0 : Int))) (cs' := #[.slice (if e.q.c = 1 then e.q.a else adr e.q.a (1 * 1)) (e.q.fs.length - 1) (e.q.c - 1), u32 (e.number + (1#32)), i64 ((0 : Int)), i64 ((e.since : Nat)), u32 (e.want), .slice e.cm.a e.cm.fs.length e.cm.c, .slice (ownA e.o.key) e.o.l.length e.o.c, e.err]) H14' rfl rfl rfl siz3 (by rfl) (by exact EI.one _) (by exact Nat.le_of_ble_eq_true rfl) (by rfl) ?_
  intro w16 H17 hC18
  have H17' := H17.as (L' := ((key3, sob E8 5 p sp5) :: (some b, .cells #[.slice (if e.q.c = 1 then e.q.a else adr e.q.a (1 * 1)) (e.q.fs.length - 1) (e.q.c - 1), u32 (e.number + (1#32)), i64 ((0 : Int)), i64 ((e.since : Nat)), u32 (e.want), .slice e.cm.a e.cm.fs.length e.cm.c, .slice (ownA e.o.key) e.o.l.length e.o.c, e.err] 89 (0, 0)) :: (e.q.key, sobP ES 30 e.q.pre (svs e.q.fs) e.q.sp) :: (e.cm.key, sobP ES 30 e.cm.pre (svs e.cm.fs) e.cm.sp) :: (e.o.key, sob E32 53 e.o.l e.o.sp) :: R)) rfl
  clear H17
  refine sq (r_nilCheck rfl) ?_
  refine sq (r_fieldAddr (off' := 3) fld89_3 (by decide) (b := b) (off := 0) rfl (by omega)) ?_
  refine d_store (k := 1) (v := i64 ((0 : Int))) (cs' := #[.slice (if e.q.c = 1 then e.q.a else adr e.q.a (1 * 1)) (e.q.fs.length - 1) (e.q.c - 1), u32 (e.number + (1#32)), i64 ((0 : Int)), i64 ((0 : Int)), u32 (e.want), .slice e.cm.a e.cm.fs.length e.cm.c, .slice (ownA e.o.key) e.o.l.length e.o.c, e.err]) H17' rfl rfl rfl siz3 (by rfl) (by exact EI.one _) (by exact Nat.le_of_ble_eq_true rfl) (by rfl) ?_
  intro w19 H20 hC21
  have H20' := H20.as (L' := ((key3, sob E8 5 p sp5) :: (some b, .cells #[.slice (if e.q.c = 1 then e.q.a else adr e.q.a (1 * 1)) (e.q.fs.length - 1) (e.q.c - 1), u32 (e.number + (1#32)), i64 ((0 : Int)), i64 ((0 : Int)), u32 (e.want), .slice e.cm.a e.cm.fs.length e.cm.c, .slice (ownA e.o.key) e.o.l.length e.o.c, e.err] 89 (0, 0)) :: (e.q.key, sobP ES 30 e.q.pre (svs e.q.fs) e.q.sp) :: (e.cm.key, sobP ES 30 e.cm.pre (svs e.cm.fs) e.cm.sp) :: (e.o.key, sob E32 53 e.o.l e.o.sp) :: R)) rfl
  clear H20
  refine wnil ?_
  refine thenNormal ?_
  refine exitAny ?_
  refine blockHere ?_
  refine thenNormal ?_
  refine seqRegion ?_
  refine sq (r_assign (v := .bool (true)) rfl) ?_
  refine wend ?_
  refine retAny ?_
  refine retG (rs := [.tmp 4]) (vs := [.bool (true)]) rfl ⟨⟨rfl, rfl⟩, trivial⟩ ?_
  refine ⟨_, rfl, rfl, { e with q := e.q.cut, number := e.number + 1#32, sends := 0, since := 0 }, [], ?_, En.okAck he (by omega) _, ?_⟩
  · unfold endR En.ob
    dsimp only
    rw [Cw.cut_row (by omega)]
    unfold Cw.cut
    dsimp only
    rw [List.length_drop]
    exact (H20'.dropk 0)
  · simp only [abs, Cw.cut, bss_drop]

theorem hear_old (b : Nat) (e : En) (F R : List (Option Nat × Obj)) (he : e.ok 5 F) (hF : ∀ x ∈ F, x ∈ R) (w₀ w : World) (H : Hp No w₀ w (endR 30 53 89 b e ++ R)) (fb : List (BitVec 8)) (a0 : Option Addr) (n0 c0 : Nat) (hn0 : n0 = fb.length) (hfc : fb.length ≤ c0) (hfb : fb.length ≤ 1099511627776) (hW : Rd E8 w a0 fb) (n : BitVec 32) (p : List (BitVec 8)) (hopn : opn fb = some (0#8, n, p)) (h1 : ¬ n = e.want) (h2 : n.toNat < e.want.toNat) (ho : e.o.l.length ≤ 1000000) : Calls Tryd.prog 27 [.pointer (some ⟨b, 0, none⟩), .slice a0 n0 c0].toArray w (Ret fun v w' => v = .bool true ∧ ∃ (e' : En) (X : List (Option Nat × Obj)), Hp No w₀ w' (endR 30 53 89 b e' ++ (X ++ R)) ∧ e'.ok 5 (X ++ F) ∧ abs e' = { abs e with owed := (abs e).owed ++ [n] }) := by
  subst hn0
  have hqc := he.q.sl.cap
  have hcc := he.cm.sl.cap
  rw [svs_len] at hqc hcc
  have H := H.as (L' := ((some b, .cells #[.slice e.q.a e.q.fs.length e.q.c, u32 (e.number), i64 ((e.sends : Nat)), i64 ((e.since : Nat)), u32 (e.want), .slice e.cm.a e.cm.fs.length e.cm.c, .slice (ownA e.o.key) e.o.l.length e.o.c, e.err] 89 (0, 0)) :: (e.q.key, sobP ES 30 e.q.pre (svs e.q.fs) e.q.sp) :: (e.cm.key, sobP ES 30 e.cm.pre (svs e.cm.fs) e.cm.sp) :: (e.o.key, sob E32 53 e.o.l e.o.sp) :: R)) rfl
  refine enter (n := 114) Tryd.func27 rfl rfl (Nat.le_of_ble_eq_true rfl) ?_
  refine seqRegion ?_
  refine sq (r_assign (v := .bool (false)) rfl) ?_
  refine wend ?_
  refine seqRegion ?_
  refine sq (r_move (v := .slice a0 fb.length c0) rfl) ?_
  refine c_call (vs := [.slice a0 fb.length c0]) call26 rfl (open_some fb (by omega) a0 fb.length c0 (by rfl) w hW (by omega) (0#8) n p hopn) ?_
  rintro _ w1 ⟨⟨_, rfl, key3, c4, sp5, rfl, hS6, hk7⟩, hE8⟩
  have H9 := H.add hE8 hk7
  refine sq (r_move (v := .tuple #[u8 (0#8), u32 (n), .slice (ownA key3) p.length c4, .bool (true)]) rfl) ?_
  refine sq (r_extract (vs := #[u8 (0#8), u32 (n), .slice (ownA key3) p.length c4, .bool (true)]) rfl rfl) ?_
  refine sq (r_extract (vs := #[u8 (0#8), u32 (n), .slice (ownA key3) p.length c4, .bool (true)]) rfl rfl) ?_
  refine sq (r_extract (vs := #[u8 (0#8), u32 (n), .slice (ownA key3) p.length c4, .bool (true)]) rfl rfl) ?_
  refine sq (r_extract (vs := #[u8 (0#8), u32 (n), .slice (ownA key3) p.length c4, .bool (true)]) rfl rfl) ?_
  refine sq (r_assign (v := u8 (0#8)) rfl) ?_
  refine sq (r_assign (v := u32 (n)) rfl) ?_
  refine sq (r_assign (v := .slice (ownA key3) p.length c4) rfl) ?_
  refine sq (r_assign (v := .bool (true)) rfl) ?_
  refine wend ?_
  refine seqAny ?_
  refine seqRegion ?_
  refine sq (r_move (v := .bool (true)) rfl) ?_
  refine sq (r_notT rfl) ?_
  refine wend ?_
  refine condFalse rfl ?_
  refine skipAny ?_
  refine thenNormal ?_
  refine seqAny ?_
  refine blockAny ?_
  refine seqAny ?_
  refine blockAny ?_
  refine seqAny ?_
  refine blockAny ?_
  refine seqAny ?_
  refine blockAny ?_
  refine seqAny ?_
  refine seqAny ?_
  refine seqRegion ?_
  refine sq (r_move (v := u8 (0#8)) rfl) ?_
  refine sq ((r_eql8 (a := 0#8) (b := 0#8) rfl rfl).as (v' := .bool (true)) (by exact congrArg Value.bool (decide_eq_true rfl))) ?_
  refine sq (r_move (v := .bool (true)) rfl) ?_
  refine sqAny (v := u32 (n)) (w' := w1) (wantedSome (d' := 21) (b := true) rfl rfl rfl) (r_move (v := u32 (n)) rfl) ?_
  refine sqAny (v := .pointer (some ⟨b, 0, none⟩)) (w' := w1) (wantedSome (d' := 21) (b := true) rfl rfl rfl) (r_move (v := .pointer (some ⟨b, 0, none⟩)) rfl) ?_
  refine sqAny (v := .pointer (some ⟨b, 0, none⟩)) (w' := w1) (wantedSome (d' := 21) (b := true) rfl rfl rfl) (r_nilCheck rfl) ?_
  refine sqAny (v := .pointer (some ⟨b, 4, none⟩)) (w' := w1) (wantedSome (d' := 21) (b := true) rfl rfl rfl) (r_fieldAddr (off' := 4) fld89_4 (by decide) (b := b) (off := 0) rfl (by omega)) ?_
  refine sqAny (v := u32 (e.want)) (w' := w1) (wantedSome (d' := 21) (b := true) rfl rfl rfl) (r_loadC (v := u32 (e.want)) one53 (H9.get (k := 1) rfl) (off := 4) rfl (by rfl)) ?_
  refine sqAny (v := .bool (false)) (w' := w1) (wantedSome (d' := 21) (b := true) rfl rfl rfl) ((r_eql32 (a := n) (b := e.want) rfl rfl).as (v' := .bool (false)) (by exact congrArg Value.bool (decide_eq_false h1))) ?_
  refine sq (r_pickT (u := .bool (false)) rfl rfl) ?_
  refine sq (r_assign (v := .bool (false)) rfl) ?_
  refine wend ?_
  refine condFalse rfl ?_
  refine skipAny ?_
  refine thenNormal ?_
  refine seqAny ?_
  refine seqRegion ?_
  refine sq (r_move (v := u8 (0#8)) rfl) ?_
  refine sq ((r_eql8 (a := 0#8) (b := 0#8) rfl rfl).as (v' := .bool (true)) (by exact congrArg Value.bool (decide_eq_true rfl))) ?_
  refine sq (r_move (v := .bool (true)) rfl) ?_
  refine sqAny (v := u32 (n)) (w' := w1) (wantedSome (d' := 32) (b := true) rfl rfl rfl) (r_move (v := u32 (n)) rfl) ?_
  refine sqAny (v := .pointer (some ⟨b, 0, none⟩)) (w' := w1) (wantedSome (d' := 32) (b := true) rfl rfl rfl) (r_move (v := .pointer (some ⟨b, 0, none⟩)) rfl) ?_
  refine sqAny (v := .pointer (some ⟨b, 0, none⟩)) (w' := w1) (wantedSome (d' := 32) (b := true) rfl rfl rfl) (r_nilCheck rfl) ?_
  refine sqAny (v := .pointer (some ⟨b, 4, none⟩)) (w' := w1) (wantedSome (d' := 32) (b := true) rfl rfl rfl) (r_fieldAddr (off' := 4) fld89_4 (by decide) (b := b) (off := 0) rfl (by omega)) ?_
  refine sqAny (v := u32 (e.want)) (w' := w1) (wantedSome (d' := 32) (b := true) rfl rfl rfl) (r_loadC (v := u32 (e.want)) one53 (H9.get (k := 1) rfl) (off := 4) rfl (by rfl)) ?_
  refine sqAny (v := .bool (true)) (w' := w1) (wantedSome (d' := 32) (b := true) rfl rfl rfl) ((r_lss32 (a := n) (b := e.want) rfl rfl).as (v' := .bool (true)) (by exact congrArg Value.bool (decide_eq_true h2))) ?_
  refine sq (r_pickT (u := .bool (true)) rfl rfl) ?_
  refine sq (r_assign (v := .bool (true)) rfl) ?_
  refine wend ?_
  refine condTrue rfl ?_
  refine exitAny ?_
  refine thenExit ?_
  refine thenExit ?_
  refine blockOut rfl ?_
  refine thenExit ?_
  refine blockHere ?_
  refine thenNormal ?_
  refine seqRegion ?_
  refine sq (r_move (v := .pointer (some ⟨b, 0, none⟩)) rfl) ?_
  refine sq (r_move (v := .pointer (some ⟨b, 0, none⟩)) rfl) ?_
  refine sq (r_nilCheck rfl) ?_
  refine sq (r_fieldAddr (off' := 6) fld89_6 (by decide) (b := b) (off := 0) rfl (by omega)) ?_
  refine sq (r_loadC (v := .slice (ownA e.o.key) e.o.l.length e.o.c) one87 (H9.get (k := 1) rfl) (off := 6) rfl (by rfl)) ?_
  refine sq (r_move (v := u32 (n)) rfl) ?_
  refine q_buildSlice (E := E32) (l := [n]) H9 sli87 zer53 (Nat.le_of_ble_eq_true rfl) (ps := [(0, u32 (n))]) rfl (by exact fillAll rfl rfl) rfl ?_
  intro b10 w12 hS11 H13 hE14
  refine q_append (E := E32) (k := 5) (l := e.o.l) (l2 := [n]) H13 rfl he.o sli87 zer53 rfl byt53 (H13.rd (k := 0) rfl hS11) rfl (by rfl) rfl (by rfl) (by omega) ?_
  intro key15 c16 sp17 w19 hS18 hne21 H20
  have H20' := H20.as (L' := (((some b10), sob E32 53 ([n]) ([])) :: (key3, sob E8 5 p sp5) :: (some b, .cells #[.slice e.q.a e.q.fs.length e.q.c, u32 (e.number), i64 ((e.sends : Nat)), i64 ((e.since : Nat)), u32 (e.want), .slice e.cm.a e.cm.fs.length e.cm.c, .slice (ownA e.o.key) e.o.l.length e.o.c, e.err] 89 (0, 0)) :: (e.q.key, sobP ES 30 e.q.pre (svs e.q.fs) e.q.sp) :: (e.cm.key, sobP ES 30 e.cm.pre (svs e.cm.fs) e.cm.sp) :: (key15, sob E32 53 (e.o.l ++ ([n])) sp17) :: R)) rfl
  clear H20
  refine sq (r_nilCheck rfl) ?_
  refine sq (r_fieldAddr (off' := 6) fld89_6 (by decide) (b := b) (off := 0) rfl (by omega)) ?_
  refine d_store (k := 2) (v := .slice (ownA key15) (e.o.l.length + 1) c16) (cs' := #[.slice e.q.a e.q.fs.length e.q.c, u32 (e.number), i64 ((e.sends : Nat)), i64 ((e.since : Nat)), u32 (e.want), .slice e.cm.a e.cm.fs.length e.cm.c, .slice (ownA key15) (e.o.l.length + 1) c16, e.err]) H20' rfl rfl rfl siz87 (by rfl) (by intro u hu; simp [Value.cells] at hu; first | (subst hu; rfl) | (rcases hu with rfl <;> rfl)) (by exact Nat.le_of_ble_eq_true rfl) (by rfl) ?_
  intro w22 H23 hC24
  have H23' := H23.as (L' := (((some b10), sob E32 53 ([n]) ([])) :: (key3, sob E8 5 p sp5) :: (some b, .cells #[.slice e.q.a e.q.fs.length e.q.c, u32 (e.number), i64 ((e.sends : Nat)), i64 ((e.since : Nat)), u32 (e.want), .slice e.cm.a e.cm.fs.length e.cm.c, .slice (ownA key15) (e.o.l.length + 1) c16, e.err] 89 (0, 0)) :: (e.q.key, sobP ES 30 e.q.pre (svs e.q.fs) e.q.sp) :: (e.cm.key, sobP ES 30 e.cm.pre (svs e.cm.fs) e.cm.sp) :: (key15, sob E32 53 (e.o.l ++ ([n])) sp17) :: R)) rfl
  clear H23
  refine wend ?_
  refine exitAny ?_
  refine blockOut rfl ?_
  refine thenExit ?_
  refine blockHere ?_
  refine thenNormal ?_
  refine seqRegion ?_
  refine sq (r_assign (v := .bool (true)) rfl) ?_
  refine wend ?_
  refine retAny ?_
  refine retG (rs := [.tmp 4]) (vs := [.bool (true)]) rfl ⟨⟨rfl, rfl⟩, trivial⟩ ?_
  refine ⟨_, rfl, rfl, { e with o := ⟨key15, c16, sp17, e.o.l ++ [n]⟩ }, [], ?_, En.okOwed he hS18, rfl⟩
  unfold endR En.ob Ow.row
  dsimp only
  rw [List.length_append, List.length_singleton]
  exact ((H23'.dropk 1).dropk 0)

theorem hear_new (b : Nat) (e : En) (F R : List (Option Nat × Obj)) (he : e.ok 5 F) (hF : ∀ x ∈ F, x ∈ R) (w₀ w : World) (H : Hp No w₀ w (endR 30 53 89 b e ++ R)) (fb : List (BitVec 8)) (a0 : Option Addr) (n0 c0 : Nat) (hn0 : n0 = fb.length) (hfc : fb.length ≤ c0) (hfb : fb.length ≤ 1099511627776) (hW : Rd E8 w a0 fb) (n : BitVec 32) (p : List (BitVec 8)) (hopn : opn fb = some (0#8, n, p)) (h1 : n = e.want) (ho : e.o.l.length ≤ 1000000) (hcl : e.cm.fs.length ≤ 1000000) : Calls Tryd.prog 27 [.pointer (some ⟨b, 0, none⟩), .slice a0 n0 c0].toArray w (Ret fun v w' => v = .bool true ∧ ∃ (e' : En) (X : List (Option Nat × Obj)), Hp No w₀ w' (endR 30 53 89 b e' ++ (X ++ R)) ∧ e'.ok 5 (X ++ F) ∧ abs e' = { abs e with came := (abs e).came ++ [p], want := e.want + 1#32, owed := (abs e).owed ++ [n] }) := by
  subst hn0
  have hqc := he.q.sl.cap
  have hcc := he.cm.sl.cap
  rw [svs_len] at hqc hcc
  have H := H.as (L' := ((some b, .cells #[.slice e.q.a e.q.fs.length e.q.c, u32 (e.number), i64 ((e.sends : Nat)), i64 ((e.since : Nat)), u32 (e.want), .slice e.cm.a e.cm.fs.length e.cm.c, .slice (ownA e.o.key) e.o.l.length e.o.c, e.err] 89 (0, 0)) :: (e.q.key, sobP ES 30 e.q.pre (svs e.q.fs) e.q.sp) :: (e.cm.key, sobP ES 30 e.cm.pre (svs e.cm.fs) e.cm.sp) :: (e.o.key, sob E32 53 e.o.l e.o.sp) :: R)) rfl
  refine enter (n := 114) Tryd.func27 rfl rfl (Nat.le_of_ble_eq_true rfl) ?_
  refine seqRegion ?_
  refine sq (r_assign (v := .bool (false)) rfl) ?_
  refine wend ?_
  refine seqRegion ?_
  refine sq (r_move (v := .slice a0 fb.length c0) rfl) ?_
  refine c_call (vs := [.slice a0 fb.length c0]) call26 rfl (open_some fb (by omega) a0 fb.length c0 (by rfl) w hW (by omega) (0#8) n p hopn) ?_
  rintro _ w1 ⟨⟨_, rfl, key3, c4, sp5, rfl, hS6, hk7⟩, hE8⟩
  have H9 := H.add hE8 hk7
  refine sq (r_move (v := .tuple #[u8 (0#8), u32 (n), .slice (ownA key3) p.length c4, .bool (true)]) rfl) ?_
  refine sq (r_extract (vs := #[u8 (0#8), u32 (n), .slice (ownA key3) p.length c4, .bool (true)]) rfl rfl) ?_
  refine sq (r_extract (vs := #[u8 (0#8), u32 (n), .slice (ownA key3) p.length c4, .bool (true)]) rfl rfl) ?_
  refine sq (r_extract (vs := #[u8 (0#8), u32 (n), .slice (ownA key3) p.length c4, .bool (true)]) rfl rfl) ?_
  refine sq (r_extract (vs := #[u8 (0#8), u32 (n), .slice (ownA key3) p.length c4, .bool (true)]) rfl rfl) ?_
  refine sq (r_assign (v := u8 (0#8)) rfl) ?_
  refine sq (r_assign (v := u32 (n)) rfl) ?_
  refine sq (r_assign (v := .slice (ownA key3) p.length c4) rfl) ?_
  refine sq (r_assign (v := .bool (true)) rfl) ?_
  refine wend ?_
  refine seqAny ?_
  refine seqRegion ?_
  refine sq (r_move (v := .bool (true)) rfl) ?_
  refine sq (r_notT rfl) ?_
  refine wend ?_
  refine condFalse rfl ?_
  refine skipAny ?_
  refine thenNormal ?_
  refine seqAny ?_
  refine blockAny ?_
  refine seqAny ?_
  refine blockAny ?_
  refine seqAny ?_
  refine blockAny ?_
  refine seqAny ?_
  refine blockAny ?_
  refine seqAny ?_
  refine seqAny ?_
  refine seqRegion ?_
  refine sq (r_move (v := u8 (0#8)) rfl) ?_
  refine sq ((r_eql8 (a := 0#8) (b := 0#8) rfl rfl).as (v' := .bool (true)) (by exact congrArg Value.bool (decide_eq_true rfl))) ?_
  refine sq (r_move (v := .bool (true)) rfl) ?_
  refine sqAny (v := u32 (n)) (w' := w1) (wantedSome (d' := 21) (b := true) rfl rfl rfl) (r_move (v := u32 (n)) rfl) ?_
  refine sqAny (v := .pointer (some ⟨b, 0, none⟩)) (w' := w1) (wantedSome (d' := 21) (b := true) rfl rfl rfl) (r_move (v := .pointer (some ⟨b, 0, none⟩)) rfl) ?_
  refine sqAny (v := .pointer (some ⟨b, 0, none⟩)) (w' := w1) (wantedSome (d' := 21) (b := true) rfl rfl rfl) (r_nilCheck rfl) ?_
  refine sqAny (v := .pointer (some ⟨b, 4, none⟩)) (w' := w1) (wantedSome (d' := 21) (b := true) rfl rfl rfl) (r_fieldAddr (off' := 4) fld89_4 (by decide) (b := b) (off := 0) rfl (by omega)) ?_
  refine sqAny (v := u32 (e.want)) (w' := w1) (wantedSome (d' := 21) (b := true) rfl rfl rfl) (r_loadC (v := u32 (e.want)) one53 (H9.get (k := 1) rfl) (off := 4) rfl (by rfl)) ?_
  refine sqAny (v := .bool (true)) (w' := w1) (wantedSome (d' := 21) (b := true) rfl rfl rfl) ((r_eql32 (a := n) (b := e.want) rfl rfl).as (v' := .bool (true)) (by exact congrArg Value.bool (decide_eq_true h1))) ?_
  refine sq (r_pickT (u := .bool (true)) rfl rfl) ?_
  refine sq (r_assign (v := .bool (true)) rfl) ?_
  refine wend ?_
  refine condTrue rfl ?_
  refine exitAny ?_
  refine thenExit ?_
  refine thenExit ?_
  refine blockHere ?_
  refine thenNormal ?_
  refine seqRegion ?_
  refine sq (r_move (v := .pointer (some ⟨b, 0, none⟩)) rfl) ?_
  refine sq (r_move (v := .pointer (some ⟨b, 0, none⟩)) rfl) ?_
  refine sq (r_nilCheck rfl) ?_
  refine sq (r_fieldAddr (off' := 5) fld89_5 (by decide) (b := b) (off := 0) rfl (by omega)) ?_
  refine sq (r_loadC (v := .slice e.cm.a e.cm.fs.length e.cm.c) one22 (H9.get (k := 1) rfl) (off := 5) rfl (by rfl)) ?_
  refine sq (r_move (v := .slice (ownA key3) p.length c4) rfl) ?_
  refine q_buildSlice (E := ES) (l := ([⟨ownA key3, p.length, c4⟩] : List SlV)) H9 sli22 zer30 (Nat.le_of_ble_eq_true rfl) (ps := [(0, .slice (ownA key3) p.length c4)]) rfl (by exact fillAll rfl rfl) rfl ?_
  intro b10 w12 hS11 H13 hE14
  refine q_appP (E := ES) (k := 4) (l := svs e.cm.fs) (l2 := ([⟨ownA key3, p.length, c4⟩] : List SlV)) H13 rfl he.cm.sl sli22 zer30 rfl byt30 (H13.rd (k := 0) rfl hS11) (Nat.le_of_ble_eq_true rfl) rfl (by exact (svs_len _).symm) rfl (by rfl) (by omega) ?_
  intro key15 ad16 pre17 c18 sp19 w21 hS20 H22
  have H22' := H22.as (L' := (((some b10), sob ES 30 ([⟨ownA key3, p.length, c4⟩] : List SlV) ([])) :: (key3, sob E8 5 p sp5) :: (some b, .cells #[.slice e.q.a e.q.fs.length e.q.c, u32 (e.number), i64 ((e.sends : Nat)), i64 ((e.since : Nat)), u32 (e.want), .slice e.cm.a e.cm.fs.length e.cm.c, .slice (ownA e.o.key) e.o.l.length e.o.c, e.err] 89 (0, 0)) :: (e.q.key, sobP ES 30 e.q.pre (svs e.q.fs) e.q.sp) :: (key15, sobP ES 30 pre17 ((svs e.cm.fs) ++ ([⟨ownA key3, p.length, c4⟩] : List SlV)) sp19) :: (e.o.key, sob E32 53 e.o.l e.o.sp) :: R)) rfl
  clear H22
  refine sq (r_nilCheck rfl) ?_
  refine sq (r_fieldAddr (off' := 5) fld89_5 (by decide) (b := b) (off := 0) rfl (by omega)) ?_
  refine d_store (k := 2) (v := .slice ad16 (e.cm.fs.length + 1) c18) (cs' := #[.slice e.q.a e.q.fs.length e.q.c, u32 (e.number), i64 ((e.sends : Nat)), i64 ((e.since : Nat)), u32 (e.want), .slice ad16 (e.cm.fs.length + 1) c18, .slice (ownA e.o.key) e.o.l.length e.o.c, e.err]) H22' rfl rfl rfl siz22 (by rfl) (by intro u hu; simp [Value.cells] at hu; first | (subst hu; rfl) | (rcases hu with rfl <;> rfl)) (by exact Nat.le_of_ble_eq_true rfl) (by rfl) ?_
  intro w23 H24 hC25
  have H24' := H24.as (L' := (((some b10), sob ES 30 ([⟨ownA key3, p.length, c4⟩] : List SlV) ([])) :: (key3, sob E8 5 p sp5) :: (some b, .cells #[.slice e.q.a e.q.fs.length e.q.c, u32 (e.number), i64 ((e.sends : Nat)), i64 ((e.since : Nat)), u32 (e.want), .slice ad16 (e.cm.fs.length + 1) c18, .slice (ownA e.o.key) e.o.l.length e.o.c, e.err] 89 (0, 0)) :: (e.q.key, sobP ES 30 e.q.pre (svs e.q.fs) e.q.sp) :: (key15, sobP ES 30 pre17 ((svs e.cm.fs) ++ ([⟨ownA key3, p.length, c4⟩] : List SlV)) sp19) :: (e.o.key, sob E32 53 e.o.l e.o.sp) :: R)) rfl
  clear H24
  refine wend ?_
  refine oneRegion ?_
  refine sq (r_move (v := .pointer (some ⟨b, 0, none⟩)) rfl) ?_
  refine sq (r_nilCheck rfl) ?_
  refine sq (r_fieldAddr (off' := 4) fld89_4 (by decide) (b := b) (off := 0) rfl (by omega)) ?_
  refine sq (r_loadC (v := u32 (e.want)) one53 (H24'.get (k := 2) rfl) (off := 4) rfl (by rfl)) ?_
  refine sq (r_add32 (a := e.want) (b := 1#32) rfl rfl) ?_
  refine sq (r_nilCheck rfl) ?_
  refine sq (r_fieldAddr (off' := 4) fld89_4 (by decide) (b := b) (off := 0) rfl (by omega)) ?_
  refine d_store (k := 2) (v := u32 (e.want + (1#32))) (cs' := #[.slice e.q.a e.q.fs.length e.q.c, u32 (e.number), i64 ((e.sends : Nat)), i64 ((e.since : Nat)), u32 (e.want + (1#32)), .slice ad16 (e.cm.fs.length + 1) c18, .slice (ownA e.o.key) e.o.l.length e.o.c, e.err]) H24' rfl rfl rfl siz53 (by rfl) (by exact E32.one _) (by exact Nat.le_of_ble_eq_true rfl) (by rfl) ?_
  intro w26 H27 hC28
  have H27' := H27.as (L' := (((some b10), sob ES 30 ([⟨ownA key3, p.length, c4⟩] : List SlV) ([])) :: (key3, sob E8 5 p sp5) :: (some b, .cells #[.slice e.q.a e.q.fs.length e.q.c, u32 (e.number), i64 ((e.sends : Nat)), i64 ((e.since : Nat)), u32 (e.want + (1#32)), .slice ad16 (e.cm.fs.length + 1) c18, .slice (ownA e.o.key) e.o.l.length e.o.c, e.err] 89 (0, 0)) :: (e.q.key, sobP ES 30 e.q.pre (svs e.q.fs) e.q.sp) :: (key15, sobP ES 30 pre17 ((svs e.cm.fs) ++ ([⟨ownA key3, p.length, c4⟩] : List SlV)) sp19) :: (e.o.key, sob E32 53 e.o.l e.o.sp) :: R)) rfl
  clear H27
  refine wnil ?_
  refine blockNormal ?_
  refine thenNormal ?_
  refine seqRegion ?_
  refine sq (r_move (v := .pointer (some ⟨b, 0, none⟩)) rfl) ?_
  refine sq (r_move (v := .pointer (some ⟨b, 0, none⟩)) rfl) ?_
  refine sq (r_nilCheck rfl) ?_
  refine sq (r_fieldAddr (off' := 6) fld89_6 (by decide) (b := b) (off := 0) rfl (by omega)) ?_
  refine sq (r_loadC (v := .slice (ownA e.o.key) e.o.l.length e.o.c) one87 (H27'.get (k := 2) rfl) (off := 6) rfl (by rfl)) ?_
  refine sq (r_move (v := u32 (n)) rfl) ?_
  refine q_buildSlice (E := E32) (l := [n]) H27' sli87 zer53 (Nat.le_of_ble_eq_true rfl) (ps := [(0, u32 (n))]) rfl (by exact fillAll rfl rfl) rfl ?_
  intro b29 w31 hS30 H32 hE33
  refine q_append (E := E32) (k := 6) (l := e.o.l) (l2 := [n]) H32 rfl he.o sli87 zer53 rfl byt53 (H32.rd (k := 0) rfl hS30) rfl (by rfl) rfl (by rfl) (by omega) ?_
  intro key34 c35 sp36 w38 hS37 hne40 H39
  have H39' := H39.as (L' := (((some b29), sob E32 53 ([n]) ([])) :: ((some b10), sob ES 30 ([⟨ownA key3, p.length, c4⟩] : List SlV) ([])) :: (key3, sob E8 5 p sp5) :: (some b, .cells #[.slice e.q.a e.q.fs.length e.q.c, u32 (e.number), i64 ((e.sends : Nat)), i64 ((e.since : Nat)), u32 (e.want + (1#32)), .slice ad16 (e.cm.fs.length + 1) c18, .slice (ownA e.o.key) e.o.l.length e.o.c, e.err] 89 (0, 0)) :: (e.q.key, sobP ES 30 e.q.pre (svs e.q.fs) e.q.sp) :: (key15, sobP ES 30 pre17 ((svs e.cm.fs) ++ ([⟨ownA key3, p.length, c4⟩] : List SlV)) sp19) :: (key34, sob E32 53 (e.o.l ++ ([n])) sp36) :: R)) rfl
  clear H39
  refine sq (r_nilCheck rfl) ?_
  refine sq (r_fieldAddr (off' := 6) fld89_6 (by decide) (b := b) (off := 0) rfl (by omega)) ?_
  refine d_store (k := 3) (v := .slice (ownA key34) (e.o.l.length + 1) c35) (cs' := #[.slice e.q.a e.q.fs.length e.q.c, u32 (e.number), i64 ((e.sends : Nat)), i64 ((e.since : Nat)), u32 (e.want + (1#32)), .slice ad16 (e.cm.fs.length + 1) c18, .slice (ownA key34) (e.o.l.length + 1) c35, e.err]) H39' rfl rfl rfl siz87 (by rfl) (by intro u hu; simp [Value.cells] at hu; first | (subst hu; rfl) | (rcases hu with rfl <;> rfl)) (by exact Nat.le_of_ble_eq_true rfl) (by rfl) ?_
  intro w41 H42 hC43
  have H42' := H42.as (L' := (((some b29), sob E32 53 ([n]) ([])) :: ((some b10), sob ES 30 ([⟨ownA key3, p.length, c4⟩] : List SlV) ([])) :: (key3, sob E8 5 p sp5) :: (some b, .cells #[.slice e.q.a e.q.fs.length e.q.c, u32 (e.number), i64 ((e.sends : Nat)), i64 ((e.since : Nat)), u32 (e.want + (1#32)), .slice ad16 (e.cm.fs.length + 1) c18, .slice (ownA key34) (e.o.l.length + 1) c35, e.err] 89 (0, 0)) :: (e.q.key, sobP ES 30 e.q.pre (svs e.q.fs) e.q.sp) :: (key15, sobP ES 30 pre17 ((svs e.cm.fs) ++ ([⟨ownA key3, p.length, c4⟩] : List SlV)) sp19) :: (key34, sob E32 53 (e.o.l ++ ([n])) sp36) :: R)) rfl
  clear H42
  refine wend ?_
  refine exitAny ?_
  refine blockOut rfl ?_
  refine thenExit ?_
  refine blockHere ?_
  refine thenNormal ?_
  refine seqRegion ?_
  refine sq (r_assign (v := .bool (true)) rfl) ?_
  refine wend ?_
  refine retAny ?_
  refine retG (rs := [.tmp 4]) (vs := [.bool (true)]) rfl ⟨⟨rfl, rfl⟩, trivial⟩ ?_
  have hfin := (((H42'.dropk 1).dropk 0)).sink4
  refine ⟨_, rfl, rfl, { e with cm := ⟨key15, ad16, pre17, c18, sp19, e.cm.fs ++ [(⟨key3, p, c4, sp5⟩ : Fr)]⟩, want := e.want + 1#32, o := ⟨key34, c35, sp36, e.o.l ++ [n]⟩ }, [Fr.row 5 (⟨key3, p, c4, sp5⟩ : Fr)], ?_, En.okCame (f := (⟨key3, p, c4, sp5⟩ : Fr)) he hS6 hS20 (o := ⟨key34, c35, sp36, e.o.l ++ [n]⟩) hS37 _, ?_⟩
  · unfold endR En.ob Ow.row Cw.row
    dsimp only
    rw [svs_snoc, List.length_append, List.length_singleton, List.length_append, List.length_singleton]
    exact hfin
  · simp only [abs, bss_snoc]
end Go.Proofs.YtpmmhpgfbfehmaaDoor.Lk
