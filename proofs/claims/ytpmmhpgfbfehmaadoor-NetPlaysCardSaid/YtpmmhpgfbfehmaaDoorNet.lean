/- The walks of the nets. -/
import Derived.Test.YtpmmhpgfbfehmaaDoorFault
import Derived.Test.YtpmmhpgfbfehmaaDoorFaultC
import Derived.Test.YtpmmhpgfbfehmaaDoorVcNet
import Derived.Test.YtpmmhpgfbfehmaaDoorVcChain
import Derived.Test.YtpmmhpgfbfehmaaDoorVcAppN
import Derived.Test.YtpmmhpgfbfehmaaDoorVcCopy
import Derived.Test.YtpmmhpgfbfehmaaDoorVcOpenS
import Derived.Test.YtpmmhpgfbfehmaaDoorProg
namespace Go.Proofs.YtpmmhpgfbfehmaaDoor.Nt
open Go Go.Proofs.YtpmmhpgfbfehmaaDoor.Vc Go.Proofs.YtpmmhpgfbfehmaaDoor.Er
theorem arr74 : arr Tryd.prog 74 = some (2, 1) := by kernel_rfl
theorem byt30 : byt Tryd.prog 30 = some 24 := by kernel_rfl
theorem byt5 : byt Tryd.prog 5 = some 1 := by kernel_rfl
theorem call34 : callable Tryd.prog 34 = true := by kernel_rfl
theorem call35 : callable Tryd.prog 35 = true := by kernel_rfl
theorem call36 : callable Tryd.prog 36 = true := by kernel_rfl
theorem call41 : callable Tryd.prog 41 = true := by kernel_rfl
theorem fits30 : Fits Tryd.prog 30 ES := fitsS (by kernel_rfl) (by kernel_rfl)
theorem fld76_0 : fld Tryd.prog 76 0 = some (0, 2, 74) := by kernel_rfl
theorem isI28 : isI Tryd.prog 28 = true := by kernel_rfl
theorem mixed : Tryd.prog.follows .mixedOrders = true := by kernel_rfl
theorem one22 : isOne Tryd.prog 22 = true := by kernel_rfl
theorem siz22 : siz Tryd.prog 22 = some 1 := by kernel_rfl
theorem sli22 : sli Tryd.prog 22 = some (30, 1) := by kernel_rfl
theorem sli30 : sli Tryd.prog 30 = some (5, 1) := by kernel_rfl
theorem und30 : Tryd.prog.underlying 30 = some (.slice 5) := by kernel_rfl
theorem und36 : Tryd.prog.underlying 36 = some (.int .i64) := by kernel_rfl
theorem zer30 : zer Tryd.prog 30 = some (.slice none 0 0) := by kernel_rfl
theorem zer5 : zer Tryd.prog 5 = some (.int .u8 0) := by kernel_rfl
theorem clone8_ok (bs : List (BitVec 8)) (hroom : bs.length ≤ 140737488355328) (a0 : Option Addr) (n0 c0 : Nat) (hn0 : n0 = bs.length) (w : World) (hW : Rd E8 w a0 bs) : Calls Tryd.prog 35 [.slice a0 n0 c0].toArray w (Ret fun v w' => SlRes E8 5 bs w v w' ∧ Ext w w') := by
  subst hn0
  have H := Hp.start No w
  refine enter (n := 8) Tryd.func35 rfl rfl (Nat.le_of_ble_eq_true rfl) ?_
  refine seqRegion ?_
  refine sq (r_assign (v := .slice none 0 0) rfl) ?_
  refine wend ?_
  refine seqAny ?_
  refine seqRegion ?_
  refine sq (r_move (v := .slice a0 bs.length c0) rfl) ?_
  refine sq (r_eqlSN und30 rfl rfl) ?_
  refine wend ?_
  refine condBool (a0.isNone) rfl (fun c4 => ?_) (fun c4 => ?_)
  · skip
    refine seqRegion ?_
    refine sq (r_assign (v := .slice none 0 0) rfl) ?_
    refine wend ?_
    refine retAny ?_
    refine thenRet ?_
    refine retG (rs := [.tmp 2]) (vs := [.slice none 0 0]) rfl ⟨⟨rfl, rfl⟩, trivial⟩ ?_
    obtain rfl := nilOfRd hW c4
    exact ⟨_, rfl, ⟨none, 0, [], rfl, Sl.none, fun _ h => by cases h⟩, H.chg⟩
  · skip
    refine skipAny ?_
    refine thenNormal ?_
    refine seqRegion ?_
    refine q_buildSlice (E := E8) (l := []) H sli30 zer5 (Nat.le_of_ble_eq_true rfl) (ps := []) rfl (by exact fillAll rfl rfl) rfl ?_
    intro b1 w3 hS2 H4 hE5
    refine sq (r_move (v := .slice a0 bs.length c0) rfl) ?_
    refine q_append (E := E8) (k := 0) (l := []) (l2 := bs) H4 rfl hS2 sli30 zer5 rfl byt5 (hW.ext H4.chg) rfl (by rfl) rfl (by rfl) (by omega) ?_
    intro key6 c7 sp8 w10 hS9 hne12 H11
    have H11' := H11.as (L' := [(key6, sob E8 5 (([]) ++ bs) sp8)]) rfl
    clear H11
    have e13 : ([]) ++ bs = bs := by rw [List.nil_append]
    have hS14 := hS9
    rw [e13] at hS14
    have H15 := H11'.as (L' := [(key6, sob E8 5 bs sp8)]) (by rw [e13])
    refine sq (r_assign (v := .slice (ownA key6) (0 + bs.length) c7) rfl) ?_
    refine wend ?_
    refine retAny ?_
    refine retG (rs := [.tmp 2]) (vs := [.slice (ownA key6) (0 + bs.length) c7]) rfl ⟨⟨rfl, rfl⟩, trivial⟩ ?_
    exact ⟨_, rfl, H15.resN (k := 0) rfl hS14 (Nat.zero_add _), H15.chg⟩

theorem nbad_ok (e at1 : Int) (w : World) (hG : Gl w) : Calls Tryd.prog 34 [i64 (e), i64 (at1)].toArray w (Ret fun v w' => Er w.heap.size w' e 1 v ∧ Ext w w') := by
  have H := Hp.start No w
  refine enter (n := 9) Tryd.func34 rfl rfl (Nat.le_of_ble_eq_true rfl) ?_
  refine seqRegion ?_
  refine sq (r_assign (v := .nilIface) rfl) ?_
  refine wend ?_
  refine seqRegion ?_
  refine sq (r_move (v := i64 (e)) rfl) ?_
  refine sq (r_mkI und36 (xv := i64 (e)) rfl) ?_
  refine sq (r_move (v := i64 (at1)) rfl) ?_
  refine c_call (vs := [.iface 36 (i64 (e)), .string ({data := #[110, 101, 116]}), i64 (at1)]) call41 rfl (wrap0_ok e at1 ({data := #[110, 101, 116]}) w (Chg.gl H.chg (fun x => x) hG)) ?_
  rintro v3 w1 ⟨hEr4, hE5⟩
  have H6 := H.ext hE5
  obtain ⟨T7, x8, rfl⟩ := hEr4.iface
  refine sq (r_assign (v := .iface T7 (x8)) rfl) ?_
  refine wend ?_
  refine retAny ?_
  refine retG (rs := [.tmp 4]) (vs := [.iface T7 (x8)]) rfl ⟨⟨rfl, rfl⟩, trivial⟩ ?_
  exact ⟨_, rfl, hEr4.mono H.chg.size, H6.chg⟩

theorem find_hit_0 (b : Nat) (a o : Wy) (w : World) (i : Nat) (hb : w.heap[b]? = some (.cells #[.slice (ownA a.key) a.fs.length a.c, .slice (ownA o.key) o.fs.length o.c] 76 (0, 0))) (hi : i < a.fs.length) : Calls Tryd.prog 36 [.pointer (some ⟨b, 0, none⟩), i64 ((0 : Int)), i64 ((i : Nat))].toArray w (Ret fun v w' => v = .tuple #[.pointer (some ⟨b, 0, none⟩), .nilIface] ∧ Ext w w') := by
  have H := Hp.start No w
  refine enter (n := 35) Tryd.func36 rfl rfl (Nat.le_of_ble_eq_true rfl) ?_
  refine seqRegion ?_
  refine sq (r_assign (v := .pointer none) rfl) ?_
  refine sq (r_assign (v := .nilIface) rfl) ?_
  refine wend ?_
  refine seqAny ?_
  refine seqRegion ?_
  refine sq (r_move (v := i64 ((0 : Int))) rfl) ?_
  refine sq ((r_neqI (a := (0 : Int)) (b := (0 : Int)) rfl rfl).as (v' := .bool (false)) (by rfl)) ?_
  refine sq (r_move (v := .bool (false)) rfl) ?_
  refine skAny (wantedSome (d' := 11) (b := false) rfl rfl rfl) ?_
  refine skAny (wantedSome (d' := 11) (b := false) rfl rfl rfl) ?_
  refine sq (r_pickF (v := .bool (false)) rfl rfl) ?_
  refine wend ?_
  refine condFalse rfl ?_
  refine skipAny ?_
  refine thenNormal ?_
  refine seqRegion ?_
  refine sq (r_move (v := .pointer (some ⟨b, 0, none⟩)) rfl) ?_
  refine sq (r_move (v := i64 ((0 : Int))) rfl) ?_
  refine sq (r_nilCheck rfl) ?_
  refine sq (r_fieldAddr (off' := 0) fld76_0 (by decide) (b := b) (off := 0) rfl (by omega)) ?_
  refine sq (r_indexA (off' := 0) (j := 0) arr74 (b := b) (off := 0) rfl rfl (by first | rfl | omega | (simp; omega)) (by omega) (by omega)) ?_
  refine sq (r_assign (v := .pointer (some ⟨b, 0, none⟩)) rfl) ?_
  refine wend ?_
  refine seqAny ?_
  refine seqRegion ?_
  refine sq (r_move (v := i64 ((i : Nat))) rfl) ?_
  refine sq ((r_lssI (a := (i : Nat)) (b := (0 : Int)) rfl rfl).as (v' := .bool (false)) (by exact congrArg Value.bool (decide_eq_false (by omega)))) ?_
  refine sq (r_move (v := .bool (false)) rfl) ?_
  refine sqAny (v := i64 ((i : Nat))) (w' := w) (wantedSome (d' := 24) (b := false) rfl rfl rfl) (r_move (v := i64 ((i : Nat))) rfl) ?_
  refine sqAny (v := .pointer (some ⟨b, 0, none⟩)) (w' := w) (wantedSome (d' := 24) (b := false) rfl rfl rfl) (r_move (v := .pointer (some ⟨b, 0, none⟩)) rfl) ?_
  refine sqAny (v := .pointer (some ⟨b, 0, none⟩)) (w' := w) (wantedSome (d' := 24) (b := false) rfl rfl rfl) (r_nilCheck rfl) ?_
  refine sqAny (v := .slice (ownA a.key) a.fs.length a.c) (w' := w) (wantedSome (d' := 24) (b := false) rfl rfl rfl) (r_loadC (v := .slice (ownA a.key) a.fs.length a.c) one22 (H.keepE hb) (off := 0) rfl (by rfl)) ?_
  refine sqAny (v := i64 ((a.fs.length : Nat))) (w' := w) (wantedSome (d' := 24) (b := false) rfl rfl rfl) (r_lenS sli22 (a := ownA a.key) (m := a.fs.length) (c := a.c) rfl) ?_
  refine sqAny (v := .bool (false)) (w' := w) (wantedSome (d' := 24) (b := false) rfl rfl rfl) ((r_geqI (a := (i : Nat)) (b := (a.fs.length : Nat)) rfl rfl).as (v' := .bool (false)) (by exact congrArg Value.bool (decide_eq_false (by omega)))) ?_
  refine sq (r_pickF (v := .bool (false)) rfl rfl) ?_
  refine wend ?_
  refine condFalse rfl ?_
  refine skipAny ?_
  refine thenNormal ?_
  refine seqRegion ?_
  refine sq (r_move (v := .pointer (some ⟨b, 0, none⟩)) rfl) ?_
  refine sq (r_assign (v := .pointer (some ⟨b, 0, none⟩)) rfl) ?_
  refine sq (r_assign (v := .nilIface) rfl) ?_
  refine wend ?_
  refine retAny ?_
  refine retG (rs := [.tmp 6, .tmp 7]) (vs := [.pointer (some ⟨b, 0, none⟩), .nilIface]) rfl ⟨⟨rfl, rfl⟩, ⟨rfl, rfl⟩, trivial⟩ ?_
  exact ⟨_, rfl, rfl, H.chg⟩

theorem find_miss_0 (b : Nat) (a o : Wy) (w : World) (i : Int) (hG : Gl w) (hb : w.heap[b]? = some (.cells #[.slice (ownA a.key) a.fs.length a.c, .slice (ownA o.key) o.fs.length o.c] 76 (0, 0))) (hi : i < 0 ∨ (a.fs.length : Int) ≤ i) : Calls Tryd.prog 36 [.pointer (some ⟨b, 0, none⟩), i64 ((0 : Int)), i64 (i)].toArray w (Ret fun v w' => (∃ ev, v = .tuple #[.pointer none, ev] ∧ Er w.heap.size w' 4 1 ev) ∧ Ext w w') := by
  have H := Hp.start No w
  refine enter (n := 35) Tryd.func36 rfl rfl (Nat.le_of_ble_eq_true rfl) ?_
  refine seqRegion ?_
  refine sq (r_assign (v := .pointer none) rfl) ?_
  refine sq (r_assign (v := .nilIface) rfl) ?_
  refine wend ?_
  refine seqAny ?_
  refine seqRegion ?_
  refine sq (r_move (v := i64 ((0 : Int))) rfl) ?_
  refine sq ((r_neqI (a := (0 : Int)) (b := (0 : Int)) rfl rfl).as (v' := .bool (false)) (by rfl)) ?_
  refine sq (r_move (v := .bool (false)) rfl) ?_
  refine skAny (wantedSome (d' := 11) (b := false) rfl rfl rfl) ?_
  refine skAny (wantedSome (d' := 11) (b := false) rfl rfl rfl) ?_
  refine sq (r_pickF (v := .bool (false)) rfl rfl) ?_
  refine wend ?_
  refine condFalse rfl ?_
  refine skipAny ?_
  refine thenNormal ?_
  refine seqRegion ?_
  refine sq (r_move (v := .pointer (some ⟨b, 0, none⟩)) rfl) ?_
  refine sq (r_move (v := i64 ((0 : Int))) rfl) ?_
  refine sq (r_nilCheck rfl) ?_
  refine sq (r_fieldAddr (off' := 0) fld76_0 (by decide) (b := b) (off := 0) rfl (by omega)) ?_
  refine sq (r_indexA (off' := 0) (j := 0) arr74 (b := b) (off := 0) rfl rfl (by first | rfl | omega | (simp; omega)) (by omega) (by omega)) ?_
  refine sq (r_assign (v := .pointer (some ⟨b, 0, none⟩)) rfl) ?_
  refine wend ?_
  refine seqAny ?_
  refine seqRegion ?_
  refine sq (r_move (v := i64 (i)) rfl) ?_
  refine sq (r_lssI (a := i) (b := (0 : Int)) rfl rfl) ?_
  refine sq (r_move (v := .bool (decide ((i : Int) < (0 : Int)))) rfl) ?_
  by_cases g1 : (i : Int) < (0 : Int)
  · skip
    refine skAny (wantedSome (d' := 24) (b := true) rfl rfl (congrArg Value.bool (decide_eq_true g1))) ?_
    refine skAny (wantedSome (d' := 24) (b := true) rfl rfl (congrArg Value.bool (decide_eq_true g1))) ?_
    refine skAny (wantedSome (d' := 24) (b := true) rfl rfl (congrArg Value.bool (decide_eq_true g1))) ?_
    refine skAny (wantedSome (d' := 24) (b := true) rfl rfl (congrArg Value.bool (decide_eq_true g1))) ?_
    refine skAny (wantedSome (d' := 24) (b := true) rfl rfl (congrArg Value.bool (decide_eq_true g1))) ?_
    refine skAny (wantedSome (d' := 24) (b := true) rfl rfl (congrArg Value.bool (decide_eq_true g1))) ?_
    refine sq (r_pickT (u := .bool (true)) (congrArg Value.bool (decide_eq_true g1)) rfl) ?_
    refine wend ?_
    refine condTrue rfl ?_
    refine seqRegion ?_
    refine sq (r_move (v := i64 (i)) rfl) ?_
    refine c_call (vs := [i64 ((4 : Int)), i64 (i)]) call34 rfl (nbad_ok (4 : Int) i w (Chg.gl H.chg (fun x => x) hG)) ?_
    rintro v4 w2 ⟨hEr5, hE6⟩
    have H7 := H.ext hE6
    obtain ⟨T8, x9, rfl⟩ := hEr5.iface
    refine sq (r_assign (v := .pointer none) rfl) ?_
    refine sq (r_assign (v := .iface T8 (x9)) rfl) ?_
    refine wend ?_
    refine retAny ?_
    refine thenRet ?_
    refine retG (rs := [.tmp 6, .tmp 7]) (vs := [.pointer none, .iface T8 (x9)]) rfl ⟨⟨rfl, rfl⟩, ⟨rfl, rfl⟩, trivial⟩ ?_
    exact ⟨_, rfl, ⟨_, rfl, hEr5.mono H.chg.size⟩, H7.chg⟩
  · skip
    refine sqAny (v := i64 (i)) (w' := w) (wantedSome (d' := 24) (b := false) rfl rfl (congrArg Value.bool (decide_eq_false g1))) (r_move (v := i64 (i)) rfl) ?_
    refine sqAny (v := .pointer (some ⟨b, 0, none⟩)) (w' := w) (wantedSome (d' := 24) (b := false) rfl rfl (congrArg Value.bool (decide_eq_false g1))) (r_move (v := .pointer (some ⟨b, 0, none⟩)) rfl) ?_
    refine sqAny (v := .pointer (some ⟨b, 0, none⟩)) (w' := w) (wantedSome (d' := 24) (b := false) rfl rfl (congrArg Value.bool (decide_eq_false g1))) (r_nilCheck rfl) ?_
    refine sqAny (v := .slice (ownA a.key) a.fs.length a.c) (w' := w) (wantedSome (d' := 24) (b := false) rfl rfl (congrArg Value.bool (decide_eq_false g1))) (r_loadC (v := .slice (ownA a.key) a.fs.length a.c) one22 (H.keepE hb) (off := 0) rfl (by rfl)) ?_
    refine sqAny (v := i64 ((a.fs.length : Nat))) (w' := w) (wantedSome (d' := 24) (b := false) rfl rfl (congrArg Value.bool (decide_eq_false g1))) (r_lenS sli22 (a := ownA a.key) (m := a.fs.length) (c := a.c) rfl) ?_
    refine sqAny (v := .bool (true)) (w' := w) (wantedSome (d' := 24) (b := false) rfl rfl (congrArg Value.bool (decide_eq_false g1))) ((r_geqI (a := i) (b := (a.fs.length : Nat)) rfl rfl).as (v' := .bool (true)) (by exact congrArg Value.bool (decide_eq_true (by omega)))) ?_
    refine sq (r_pickF (v := .bool (true)) (congrArg Value.bool (decide_eq_false g1)) rfl) ?_
    refine wend ?_
    refine condTrue rfl ?_
    refine seqRegion ?_
    refine sq (r_move (v := i64 (i)) rfl) ?_
    refine c_call (vs := [i64 ((4 : Int)), i64 (i)]) call34 rfl (nbad_ok (4 : Int) i w (Chg.gl H.chg (fun x => x) hG)) ?_
    rintro v12 w10 ⟨hEr13, hE14⟩
    have H15 := H.ext hE14
    obtain ⟨T16, x17, rfl⟩ := hEr13.iface
    refine sq (r_assign (v := .pointer none) rfl) ?_
    refine sq (r_assign (v := .iface T16 (x17)) rfl) ?_
    refine wend ?_
    refine retAny ?_
    refine thenRet ?_
    refine retG (rs := [.tmp 6, .tmp 7]) (vs := [.pointer none, .iface T16 (x17)]) rfl ⟨⟨rfl, rfl⟩, ⟨rfl, rfl⟩, trivial⟩ ?_
    exact ⟨_, rfl, ⟨_, rfl, hEr13.mono H.chg.size⟩, H15.chg⟩

theorem find_hit_1 (b : Nat) (a o : Wy) (w : World) (i : Nat) (hb : w.heap[b]? = some (.cells #[.slice (ownA o.key) o.fs.length o.c, .slice (ownA a.key) a.fs.length a.c] 76 (0, 0))) (hi : i < a.fs.length) : Calls Tryd.prog 36 [.pointer (some ⟨b, 0, none⟩), i64 ((1 : Int)), i64 ((i : Nat))].toArray w (Ret fun v w' => v = .tuple #[.pointer (some ⟨b, 1, none⟩), .nilIface] ∧ Ext w w') := by
  have H := Hp.start No w
  refine enter (n := 35) Tryd.func36 rfl rfl (Nat.le_of_ble_eq_true rfl) ?_
  refine seqRegion ?_
  refine sq (r_assign (v := .pointer none) rfl) ?_
  refine sq (r_assign (v := .nilIface) rfl) ?_
  refine wend ?_
  refine seqAny ?_
  refine seqRegion ?_
  refine sq (r_move (v := i64 ((1 : Int))) rfl) ?_
  refine sq ((r_neqI (a := (1 : Int)) (b := (0 : Int)) rfl rfl).as (v' := .bool (true)) (by rfl)) ?_
  refine sq (r_move (v := .bool (true)) rfl) ?_
  refine sqAny (v := i64 ((1 : Int))) (w' := w) (wantedSome (d' := 11) (b := true) rfl rfl rfl) (r_move (v := i64 ((1 : Int))) rfl) ?_
  refine sqAny (v := .bool (false)) (w' := w) (wantedSome (d' := 11) (b := true) rfl rfl rfl) ((r_neqI (a := (1 : Int)) (b := (1 : Int)) rfl rfl).as (v' := .bool (false)) (by rfl)) ?_
  refine sq (r_pickT (u := .bool (false)) rfl rfl) ?_
  refine wend ?_
  refine condFalse rfl ?_
  refine skipAny ?_
  refine thenNormal ?_
  refine seqRegion ?_
  refine sq (r_move (v := .pointer (some ⟨b, 0, none⟩)) rfl) ?_
  refine sq (r_move (v := i64 ((1 : Int))) rfl) ?_
  refine sq (r_nilCheck rfl) ?_
  refine sq (r_fieldAddr (off' := 0) fld76_0 (by decide) (b := b) (off := 0) rfl (by omega)) ?_
  refine sq (r_indexA (off' := 1) (j := 1) arr74 (b := b) (off := 0) rfl rfl (by first | rfl | omega | (simp; omega)) (by omega) (by omega)) ?_
  refine sq (r_assign (v := .pointer (some ⟨b, 1, none⟩)) rfl) ?_
  refine wend ?_
  refine seqAny ?_
  refine seqRegion ?_
  refine sq (r_move (v := i64 ((i : Nat))) rfl) ?_
  refine sq ((r_lssI (a := (i : Nat)) (b := (0 : Int)) rfl rfl).as (v' := .bool (false)) (by exact congrArg Value.bool (decide_eq_false (by omega)))) ?_
  refine sq (r_move (v := .bool (false)) rfl) ?_
  refine sqAny (v := i64 ((i : Nat))) (w' := w) (wantedSome (d' := 24) (b := false) rfl rfl rfl) (r_move (v := i64 ((i : Nat))) rfl) ?_
  refine sqAny (v := .pointer (some ⟨b, 1, none⟩)) (w' := w) (wantedSome (d' := 24) (b := false) rfl rfl rfl) (r_move (v := .pointer (some ⟨b, 1, none⟩)) rfl) ?_
  refine sqAny (v := .pointer (some ⟨b, 1, none⟩)) (w' := w) (wantedSome (d' := 24) (b := false) rfl rfl rfl) (r_nilCheck rfl) ?_
  refine sqAny (v := .slice (ownA a.key) a.fs.length a.c) (w' := w) (wantedSome (d' := 24) (b := false) rfl rfl rfl) (r_loadC (v := .slice (ownA a.key) a.fs.length a.c) one22 (H.keepE hb) (off := 1) rfl (by rfl)) ?_
  refine sqAny (v := i64 ((a.fs.length : Nat))) (w' := w) (wantedSome (d' := 24) (b := false) rfl rfl rfl) (r_lenS sli22 (a := ownA a.key) (m := a.fs.length) (c := a.c) rfl) ?_
  refine sqAny (v := .bool (false)) (w' := w) (wantedSome (d' := 24) (b := false) rfl rfl rfl) ((r_geqI (a := (i : Nat)) (b := (a.fs.length : Nat)) rfl rfl).as (v' := .bool (false)) (by exact congrArg Value.bool (decide_eq_false (by omega)))) ?_
  refine sq (r_pickF (v := .bool (false)) rfl rfl) ?_
  refine wend ?_
  refine condFalse rfl ?_
  refine skipAny ?_
  refine thenNormal ?_
  refine seqRegion ?_
  refine sq (r_move (v := .pointer (some ⟨b, 1, none⟩)) rfl) ?_
  refine sq (r_assign (v := .pointer (some ⟨b, 1, none⟩)) rfl) ?_
  refine sq (r_assign (v := .nilIface) rfl) ?_
  refine wend ?_
  refine retAny ?_
  refine retG (rs := [.tmp 6, .tmp 7]) (vs := [.pointer (some ⟨b, 1, none⟩), .nilIface]) rfl ⟨⟨rfl, rfl⟩, ⟨rfl, rfl⟩, trivial⟩ ?_
  exact ⟨_, rfl, rfl, H.chg⟩

theorem find_miss_1 (b : Nat) (a o : Wy) (w : World) (i : Int) (hG : Gl w) (hb : w.heap[b]? = some (.cells #[.slice (ownA o.key) o.fs.length o.c, .slice (ownA a.key) a.fs.length a.c] 76 (0, 0))) (hi : i < 0 ∨ (a.fs.length : Int) ≤ i) : Calls Tryd.prog 36 [.pointer (some ⟨b, 0, none⟩), i64 ((1 : Int)), i64 (i)].toArray w (Ret fun v w' => (∃ ev, v = .tuple #[.pointer none, ev] ∧ Er w.heap.size w' 4 1 ev) ∧ Ext w w') := by
  have H := Hp.start No w
  refine enter (n := 35) Tryd.func36 rfl rfl (Nat.le_of_ble_eq_true rfl) ?_
  refine seqRegion ?_
  refine sq (r_assign (v := .pointer none) rfl) ?_
  refine sq (r_assign (v := .nilIface) rfl) ?_
  refine wend ?_
  refine seqAny ?_
  refine seqRegion ?_
  refine sq (r_move (v := i64 ((1 : Int))) rfl) ?_
  refine sq ((r_neqI (a := (1 : Int)) (b := (0 : Int)) rfl rfl).as (v' := .bool (true)) (by rfl)) ?_
  refine sq (r_move (v := .bool (true)) rfl) ?_
  refine sqAny (v := i64 ((1 : Int))) (w' := w) (wantedSome (d' := 11) (b := true) rfl rfl rfl) (r_move (v := i64 ((1 : Int))) rfl) ?_
  refine sqAny (v := .bool (false)) (w' := w) (wantedSome (d' := 11) (b := true) rfl rfl rfl) ((r_neqI (a := (1 : Int)) (b := (1 : Int)) rfl rfl).as (v' := .bool (false)) (by rfl)) ?_
  refine sq (r_pickT (u := .bool (false)) rfl rfl) ?_
  refine wend ?_
  refine condFalse rfl ?_
  refine skipAny ?_
  refine thenNormal ?_
  refine seqRegion ?_
  refine sq (r_move (v := .pointer (some ⟨b, 0, none⟩)) rfl) ?_
  refine sq (r_move (v := i64 ((1 : Int))) rfl) ?_
  refine sq (r_nilCheck rfl) ?_
  refine sq (r_fieldAddr (off' := 0) fld76_0 (by decide) (b := b) (off := 0) rfl (by omega)) ?_
  refine sq (r_indexA (off' := 1) (j := 1) arr74 (b := b) (off := 0) rfl rfl (by first | rfl | omega | (simp; omega)) (by omega) (by omega)) ?_
  refine sq (r_assign (v := .pointer (some ⟨b, 1, none⟩)) rfl) ?_
  refine wend ?_
  refine seqAny ?_
  refine seqRegion ?_
  refine sq (r_move (v := i64 (i)) rfl) ?_
  refine sq (r_lssI (a := i) (b := (0 : Int)) rfl rfl) ?_
  refine sq (r_move (v := .bool (decide ((i : Int) < (0 : Int)))) rfl) ?_
  by_cases g1 : (i : Int) < (0 : Int)
  · skip
    refine skAny (wantedSome (d' := 24) (b := true) rfl rfl (congrArg Value.bool (decide_eq_true g1))) ?_
    refine skAny (wantedSome (d' := 24) (b := true) rfl rfl (congrArg Value.bool (decide_eq_true g1))) ?_
    refine skAny (wantedSome (d' := 24) (b := true) rfl rfl (congrArg Value.bool (decide_eq_true g1))) ?_
    refine skAny (wantedSome (d' := 24) (b := true) rfl rfl (congrArg Value.bool (decide_eq_true g1))) ?_
    refine skAny (wantedSome (d' := 24) (b := true) rfl rfl (congrArg Value.bool (decide_eq_true g1))) ?_
    refine skAny (wantedSome (d' := 24) (b := true) rfl rfl (congrArg Value.bool (decide_eq_true g1))) ?_
    refine sq (r_pickT (u := .bool (true)) (congrArg Value.bool (decide_eq_true g1)) rfl) ?_
    refine wend ?_
    refine condTrue rfl ?_
    refine seqRegion ?_
    refine sq (r_move (v := i64 (i)) rfl) ?_
    refine c_call (vs := [i64 ((4 : Int)), i64 (i)]) call34 rfl (nbad_ok (4 : Int) i w (Chg.gl H.chg (fun x => x) hG)) ?_
    rintro v4 w2 ⟨hEr5, hE6⟩
    have H7 := H.ext hE6
    obtain ⟨T8, x9, rfl⟩ := hEr5.iface
    refine sq (r_assign (v := .pointer none) rfl) ?_
    refine sq (r_assign (v := .iface T8 (x9)) rfl) ?_
    refine wend ?_
    refine retAny ?_
    refine thenRet ?_
    refine retG (rs := [.tmp 6, .tmp 7]) (vs := [.pointer none, .iface T8 (x9)]) rfl ⟨⟨rfl, rfl⟩, ⟨rfl, rfl⟩, trivial⟩ ?_
    exact ⟨_, rfl, ⟨_, rfl, hEr5.mono H.chg.size⟩, H7.chg⟩
  · skip
    refine sqAny (v := i64 (i)) (w' := w) (wantedSome (d' := 24) (b := false) rfl rfl (congrArg Value.bool (decide_eq_false g1))) (r_move (v := i64 (i)) rfl) ?_
    refine sqAny (v := .pointer (some ⟨b, 1, none⟩)) (w' := w) (wantedSome (d' := 24) (b := false) rfl rfl (congrArg Value.bool (decide_eq_false g1))) (r_move (v := .pointer (some ⟨b, 1, none⟩)) rfl) ?_
    refine sqAny (v := .pointer (some ⟨b, 1, none⟩)) (w' := w) (wantedSome (d' := 24) (b := false) rfl rfl (congrArg Value.bool (decide_eq_false g1))) (r_nilCheck rfl) ?_
    refine sqAny (v := .slice (ownA a.key) a.fs.length a.c) (w' := w) (wantedSome (d' := 24) (b := false) rfl rfl (congrArg Value.bool (decide_eq_false g1))) (r_loadC (v := .slice (ownA a.key) a.fs.length a.c) one22 (H.keepE hb) (off := 1) rfl (by rfl)) ?_
    refine sqAny (v := i64 ((a.fs.length : Nat))) (w' := w) (wantedSome (d' := 24) (b := false) rfl rfl (congrArg Value.bool (decide_eq_false g1))) (r_lenS sli22 (a := ownA a.key) (m := a.fs.length) (c := a.c) rfl) ?_
    refine sqAny (v := .bool (true)) (w' := w) (wantedSome (d' := 24) (b := false) rfl rfl (congrArg Value.bool (decide_eq_false g1))) ((r_geqI (a := i) (b := (a.fs.length : Nat)) rfl rfl).as (v' := .bool (true)) (by exact congrArg Value.bool (decide_eq_true (by omega)))) ?_
    refine sq (r_pickF (v := .bool (true)) (congrArg Value.bool (decide_eq_false g1)) rfl) ?_
    refine wend ?_
    refine condTrue rfl ?_
    refine seqRegion ?_
    refine sq (r_move (v := i64 (i)) rfl) ?_
    refine c_call (vs := [i64 ((4 : Int)), i64 (i)]) call34 rfl (nbad_ok (4 : Int) i w (Chg.gl H.chg (fun x => x) hG)) ?_
    rintro v12 w10 ⟨hEr13, hE14⟩
    have H15 := H.ext hE14
    obtain ⟨T16, x17, rfl⟩ := hEr13.iface
    refine sq (r_assign (v := .pointer none) rfl) ?_
    refine sq (r_assign (v := .iface T16 (x17)) rfl) ?_
    refine wend ?_
    refine retAny ?_
    refine thenRet ?_
    refine retG (rs := [.tmp 6, .tmp 7]) (vs := [.pointer none, .iface T16 (x17)]) rfl ⟨⟨rfl, rfl⟩, ⟨rfl, rfl⟩, trivial⟩ ?_
    exact ⟨_, rfl, ⟨_, rfl, hEr13.mono H.chg.size⟩, H15.chg⟩

theorem find_range (b : Nat) (way : Int) (h0 : way ≠ 0) (h1 : way ≠ 1) (i : Int) (w : World) (hG : Gl w) : Calls Tryd.prog 36 [.pointer (some ⟨b, 0, none⟩), i64 (way), i64 (i)].toArray w (Ret fun v w' => (∃ ev, v = .tuple #[.pointer none, ev] ∧ Er w.heap.size w' 1 1 ev) ∧ Ext w w') := by
  have H := Hp.start No w
  refine enter (n := 35) Tryd.func36 rfl rfl (Nat.le_of_ble_eq_true rfl) ?_
  refine seqRegion ?_
  refine sq (r_assign (v := .pointer none) rfl) ?_
  refine sq (r_assign (v := .nilIface) rfl) ?_
  refine wend ?_
  refine seqAny ?_
  refine seqRegion ?_
  refine sq (r_move (v := i64 (way)) rfl) ?_
  refine sq ((r_neqI (a := way) (b := (0 : Int)) rfl rfl).as (v' := .bool (true)) (by simp [h0])) ?_
  refine sq (r_move (v := .bool (true)) rfl) ?_
  refine sqAny (v := i64 (way)) (w' := w) (wantedSome (d' := 11) (b := true) rfl rfl rfl) (r_move (v := i64 (way)) rfl) ?_
  refine sqAny (v := .bool (true)) (w' := w) (wantedSome (d' := 11) (b := true) rfl rfl rfl) ((r_neqI (a := way) (b := (1 : Int)) rfl rfl).as (v' := .bool (true)) (by simp [h1])) ?_
  refine sq (r_pickT (u := .bool (true)) rfl rfl) ?_
  refine wend ?_
  refine condTrue rfl ?_
  refine seqRegion ?_
  refine sq (r_move (v := i64 (way)) rfl) ?_
  refine c_call (vs := [i64 ((1 : Int)), i64 (way)]) call34 rfl (nbad_ok (1 : Int) way w (Chg.gl H.chg (fun x => x) hG)) ?_
  rintro v3 w1 ⟨hEr4, hE5⟩
  have H6 := H.ext hE5
  obtain ⟨T7, x8, rfl⟩ := hEr4.iface
  refine sq (r_assign (v := .pointer none) rfl) ?_
  refine sq (r_assign (v := .iface T7 (x8)) rfl) ?_
  refine wend ?_
  refine retAny ?_
  refine thenRet ?_
  refine retG (rs := [.tmp 6, .tmp 7]) (vs := [.pointer none, .iface T7 (x8)]) rfl ⟨⟨rfl, rfl⟩, ⟨rfl, rfl⟩, trivial⟩ ?_
  exact ⟨_, rfl, ⟨_, rfl, hEr4.mono H.chg.size⟩, H6.chg⟩

theorem len_0 (b : Nat) (a o : Wy) (w : World) (hb : w.heap[b]? = some (.cells #[.slice (ownA a.key) a.fs.length a.c, .slice (ownA o.key) o.fs.length o.c] 76 (0, 0))) : Calls Tryd.prog 15 [.pointer (some ⟨b, 0, none⟩), i64 ((0 : Int))].toArray w (Ret fun v w' => v = i64 (a.fs.length : Nat) ∧ Ext w w') := by
  have H := Hp.start No w
  refine enter (n := 18) Tryd.func15 rfl rfl (Nat.le_of_ble_eq_true rfl) ?_
  refine seqRegion ?_
  refine sq (r_assign (v := i64 ((0 : Int))) rfl) ?_
  refine wend ?_
  refine seqAny ?_
  refine seqRegion ?_
  refine sq (r_move (v := i64 ((0 : Int))) rfl) ?_
  refine sq ((r_neqI (a := (0 : Int)) (b := (0 : Int)) rfl rfl).as (v' := .bool (false)) (by rfl)) ?_
  refine sq (r_move (v := .bool (false)) rfl) ?_
  refine skAny (wantedSome (d' := 7) (b := false) rfl rfl rfl) ?_
  refine skAny (wantedSome (d' := 7) (b := false) rfl rfl rfl) ?_
  refine sq (r_pickF (v := .bool (false)) rfl rfl) ?_
  refine wend ?_
  refine condFalse rfl ?_
  refine skipAny ?_
  refine thenNormal ?_
  refine seqRegion ?_
  refine sq (r_move (v := .pointer (some ⟨b, 0, none⟩)) rfl) ?_
  refine sq (r_move (v := i64 ((0 : Int))) rfl) ?_
  refine sq (r_nilCheck rfl) ?_
  refine sq (r_fieldAddr (off' := 0) fld76_0 (by decide) (b := b) (off := 0) rfl (by omega)) ?_
  refine sq (r_indexA (off' := 0) (j := 0) arr74 (b := b) (off := 0) rfl rfl (by first | rfl | omega | (simp; omega)) (by omega) (by omega)) ?_
  refine sq (r_loadC (v := .slice (ownA a.key) a.fs.length a.c) one22 (H.keepE hb) (off := 0) rfl (by rfl)) ?_
  refine sq (r_lenS sli22 (a := ownA a.key) (m := a.fs.length) (c := a.c) rfl) ?_
  refine sq (r_assign (v := i64 ((a.fs.length : Nat))) rfl) ?_
  refine wend ?_
  refine retAny ?_
  refine retG (rs := [.tmp 4]) (vs := [i64 ((a.fs.length : Nat))]) rfl ⟨⟨rfl, rfl⟩, trivial⟩ ?_
  exact ⟨_, rfl, rfl, H.chg⟩

theorem len_1 (b : Nat) (a o : Wy) (w : World) (hb : w.heap[b]? = some (.cells #[.slice (ownA o.key) o.fs.length o.c, .slice (ownA a.key) a.fs.length a.c] 76 (0, 0))) : Calls Tryd.prog 15 [.pointer (some ⟨b, 0, none⟩), i64 ((1 : Int))].toArray w (Ret fun v w' => v = i64 (a.fs.length : Nat) ∧ Ext w w') := by
  have H := Hp.start No w
  refine enter (n := 18) Tryd.func15 rfl rfl (Nat.le_of_ble_eq_true rfl) ?_
  refine seqRegion ?_
  refine sq (r_assign (v := i64 ((0 : Int))) rfl) ?_
  refine wend ?_
  refine seqAny ?_
  refine seqRegion ?_
  refine sq (r_move (v := i64 ((1 : Int))) rfl) ?_
  refine sq ((r_neqI (a := (1 : Int)) (b := (0 : Int)) rfl rfl).as (v' := .bool (true)) (by rfl)) ?_
  refine sq (r_move (v := .bool (true)) rfl) ?_
  refine sqAny (v := i64 ((1 : Int))) (w' := w) (wantedSome (d' := 7) (b := true) rfl rfl rfl) (r_move (v := i64 ((1 : Int))) rfl) ?_
  refine sqAny (v := .bool (false)) (w' := w) (wantedSome (d' := 7) (b := true) rfl rfl rfl) ((r_neqI (a := (1 : Int)) (b := (1 : Int)) rfl rfl).as (v' := .bool (false)) (by rfl)) ?_
  refine sq (r_pickT (u := .bool (false)) rfl rfl) ?_
  refine wend ?_
  refine condFalse rfl ?_
  refine skipAny ?_
  refine thenNormal ?_
  refine seqRegion ?_
  refine sq (r_move (v := .pointer (some ⟨b, 0, none⟩)) rfl) ?_
  refine sq (r_move (v := i64 ((1 : Int))) rfl) ?_
  refine sq (r_nilCheck rfl) ?_
  refine sq (r_fieldAddr (off' := 0) fld76_0 (by decide) (b := b) (off := 0) rfl (by omega)) ?_
  refine sq (r_indexA (off' := 1) (j := 1) arr74 (b := b) (off := 0) rfl rfl (by first | rfl | omega | (simp; omega)) (by omega) (by omega)) ?_
  refine sq (r_loadC (v := .slice (ownA a.key) a.fs.length a.c) one22 (H.keepE hb) (off := 1) rfl (by rfl)) ?_
  refine sq (r_lenS sli22 (a := ownA a.key) (m := a.fs.length) (c := a.c) rfl) ?_
  refine sq (r_assign (v := i64 ((a.fs.length : Nat))) rfl) ?_
  refine wend ?_
  refine retAny ?_
  refine retG (rs := [.tmp 4]) (vs := [i64 ((a.fs.length : Nat))]) rfl ⟨⟨rfl, rfl⟩, trivial⟩ ?_
  exact ⟨_, rfl, rfl, H.chg⟩

theorem len_x (b : Nat) (way : Int) (h0 : way ≠ 0) (h1 : way ≠ 1) (w : World) : Calls Tryd.prog 15 [.pointer (some ⟨b, 0, none⟩), i64 (way)].toArray w (Ret fun v w' => v = i64 (0 : Int) ∧ Ext w w') := by
  have H := Hp.start No w
  refine enter (n := 18) Tryd.func15 rfl rfl (Nat.le_of_ble_eq_true rfl) ?_
  refine seqRegion ?_
  refine sq (r_assign (v := i64 ((0 : Int))) rfl) ?_
  refine wend ?_
  refine seqAny ?_
  refine seqRegion ?_
  refine sq (r_move (v := i64 (way)) rfl) ?_
  refine sq ((r_neqI (a := way) (b := (0 : Int)) rfl rfl).as (v' := .bool (true)) (by simp [h0])) ?_
  refine sq (r_move (v := .bool (true)) rfl) ?_
  refine sqAny (v := i64 (way)) (w' := w) (wantedSome (d' := 7) (b := true) rfl rfl rfl) (r_move (v := i64 (way)) rfl) ?_
  refine sqAny (v := .bool (true)) (w' := w) (wantedSome (d' := 7) (b := true) rfl rfl rfl) ((r_neqI (a := way) (b := (1 : Int)) rfl rfl).as (v' := .bool (true)) (by simp [h1])) ?_
  refine sq (r_pickT (u := .bool (true)) rfl rfl) ?_
  refine wend ?_
  refine condTrue rfl ?_
  refine seqRegion ?_
  refine sq (r_assign (v := i64 ((0 : Int))) rfl) ?_
  refine wend ?_
  refine retAny ?_
  refine thenRet ?_
  refine retG (rs := [.tmp 4]) (vs := [i64 ((0 : Int))]) rfl ⟨⟨rfl, rfl⟩, trivial⟩ ?_
  exact ⟨_, rfl, rfl, H.chg⟩

theorem at_hit_0 (b : Nat) (a o : Wy) (w : World) (i : Nat) (hi : i < a.fs.length) (f : Fr) (hf : a.fs[i]? = some f) (hfl : f.bs.length ≤ 140737488355328) (hb : w.heap[b]? = some (.cells #[.slice (ownA a.key) a.fs.length a.c, .slice (ownA o.key) o.fs.length o.c] 76 (0, 0))) (haR : Rd ES w (ownA a.key) (svs a.fs)) (hfR : Rd E8 w (ownA f.key) f.bs) : Calls Tryd.prog 20 [.pointer (some ⟨b, 0, none⟩), i64 ((0 : Int)), i64 ((i : Nat))].toArray w (Ret fun v w' => (∃ key c sp, v = .tuple #[.slice (ownA key) f.bs.length c, .nilIface] ∧ Sl E8 key f.bs c sp ∧ ∀ g, key = some g → w.heap.size ≤ g ∧ w'.heap[g]? = some (sob E8 5 f.bs sp)) ∧ Ext w w') := by
  have H := Hp.start No w
  refine enter (n := 27) Tryd.func20 rfl rfl (Nat.le_of_ble_eq_true rfl) ?_
  refine seqRegion ?_
  refine sq (r_assign (v := .slice none 0 0) rfl) ?_
  refine sq (r_assign (v := .nilIface) rfl) ?_
  refine wend ?_
  refine seqRegion ?_
  refine sq (r_move (v := .pointer (some ⟨b, 0, none⟩)) rfl) ?_
  refine sq (r_move (v := i64 ((0 : Int))) rfl) ?_
  refine sq (r_move (v := i64 ((i : Nat))) rfl) ?_
  refine c_call (vs := [.pointer (some ⟨b, 0, none⟩), i64 ((0 : Int)), i64 ((i : Nat))]) call36 rfl (find_hit_0 b a o w i (H.keepE hb) hi) ?_
  rintro _ w1 ⟨rfl, hE2⟩
  have H3 := H.ext hE2
  refine sq (r_move (v := .tuple #[.pointer (some ⟨b, 0, none⟩), .nilIface]) rfl) ?_
  refine sq (r_extract (vs := #[.pointer (some ⟨b, 0, none⟩), .nilIface]) rfl rfl) ?_
  refine sq (r_extract (vs := #[.pointer (some ⟨b, 0, none⟩), .nilIface]) rfl rfl) ?_
  refine sq (r_assign (v := .pointer (some ⟨b, 0, none⟩)) rfl) ?_
  refine sq (r_assign (v := .nilIface) rfl) ?_
  refine wend ?_
  refine seqAny ?_
  refine seqRegion ?_
  refine sq (r_move (v := .nilIface) rfl) ?_
  refine sq (r_neqNN isI28 rfl rfl) ?_
  refine wend ?_
  refine condFalse rfl ?_
  refine skipAny ?_
  refine thenNormal ?_
  refine seqRegion ?_
  refine sq (r_move (v := .pointer (some ⟨b, 0, none⟩)) rfl) ?_
  refine sq (r_nilCheck rfl) ?_
  refine sq (r_loadC (v := .slice (ownA a.key) a.fs.length a.c) one22 (H3.keepE hb) (off := 0) rfl (by rfl)) ?_
  refine sq (r_move (v := i64 ((i : Nat))) rfl) ?_
  refine sq (r_idxS (E := ES) (l := svs a.fs) (j := i) sli22 (haR.ext H3.chg) rfl rfl (by first | rfl | omega | (simp; omega)) (by exact (svs_len _).symm) (by rw [svs_len]; exact hi)) ?_
  refine sq ((r_ldS (E := ES) (l := svs a.fs) (j := i) (v := (svs a.fs).getD i sv0) fits30 (haR.ext H3.chg) rfl rfl (at_getD (by rw [svs_len]; exact hi))).as (v' := .slice (ownA f.key) f.bs.length f.c) (by rw [svs_get hf]; rfl)) ?_
  refine c_call (vs := [.slice (ownA f.key) f.bs.length f.c]) call35 rfl (clone8_ok f.bs (by omega) (ownA f.key) f.bs.length f.c (by rfl) w1 (hfR.ext H3.chg)) ?_
  rintro _ w4 ⟨⟨key6, c7, sp8, rfl, hS9, hk10⟩, hE11⟩
  rw [show f.bs.length = f.bs.length from rfl]
  have H12 := H3.add hE11 hk10
  refine sq (r_assign (v := .slice (ownA key6) f.bs.length c7) rfl) ?_
  refine sq (r_assign (v := .nilIface) rfl) ?_
  refine wend ?_
  refine retAny ?_
  refine retG (rs := [.tmp 6, .tmp 7]) (vs := [.slice (ownA key6) f.bs.length c7, .nilIface]) rfl ⟨⟨rfl, rfl⟩, ⟨rfl, rfl⟩, trivial⟩ ?_
  exact ⟨_, rfl, ⟨key6, c7, sp8, rfl, hS9, fun g hg => ⟨((H12.own _ (List.mem_of_getElem? (i := 0) rfl) g hg).resolve_left (fun h => h)), H12.has _ (List.mem_of_getElem? (i := 0) rfl) g hg⟩⟩, H12.chg⟩

theorem at_hit_1 (b : Nat) (a o : Wy) (w : World) (i : Nat) (hi : i < a.fs.length) (f : Fr) (hf : a.fs[i]? = some f) (hfl : f.bs.length ≤ 140737488355328) (hb : w.heap[b]? = some (.cells #[.slice (ownA o.key) o.fs.length o.c, .slice (ownA a.key) a.fs.length a.c] 76 (0, 0))) (haR : Rd ES w (ownA a.key) (svs a.fs)) (hfR : Rd E8 w (ownA f.key) f.bs) : Calls Tryd.prog 20 [.pointer (some ⟨b, 0, none⟩), i64 ((1 : Int)), i64 ((i : Nat))].toArray w (Ret fun v w' => (∃ key c sp, v = .tuple #[.slice (ownA key) f.bs.length c, .nilIface] ∧ Sl E8 key f.bs c sp ∧ ∀ g, key = some g → w.heap.size ≤ g ∧ w'.heap[g]? = some (sob E8 5 f.bs sp)) ∧ Ext w w') := by
  have H := Hp.start No w
  refine enter (n := 27) Tryd.func20 rfl rfl (Nat.le_of_ble_eq_true rfl) ?_
  refine seqRegion ?_
  refine sq (r_assign (v := .slice none 0 0) rfl) ?_
  refine sq (r_assign (v := .nilIface) rfl) ?_
  refine wend ?_
  refine seqRegion ?_
  refine sq (r_move (v := .pointer (some ⟨b, 0, none⟩)) rfl) ?_
  refine sq (r_move (v := i64 ((1 : Int))) rfl) ?_
  refine sq (r_move (v := i64 ((i : Nat))) rfl) ?_
  refine c_call (vs := [.pointer (some ⟨b, 0, none⟩), i64 ((1 : Int)), i64 ((i : Nat))]) call36 rfl (find_hit_1 b a o w i (H.keepE hb) hi) ?_
  rintro _ w1 ⟨rfl, hE2⟩
  have H3 := H.ext hE2
  refine sq (r_move (v := .tuple #[.pointer (some ⟨b, 1, none⟩), .nilIface]) rfl) ?_
  refine sq (r_extract (vs := #[.pointer (some ⟨b, 1, none⟩), .nilIface]) rfl rfl) ?_
  refine sq (r_extract (vs := #[.pointer (some ⟨b, 1, none⟩), .nilIface]) rfl rfl) ?_
  refine sq (r_assign (v := .pointer (some ⟨b, 1, none⟩)) rfl) ?_
  refine sq (r_assign (v := .nilIface) rfl) ?_
  refine wend ?_
  refine seqAny ?_
  refine seqRegion ?_
  refine sq (r_move (v := .nilIface) rfl) ?_
  refine sq (r_neqNN isI28 rfl rfl) ?_
  refine wend ?_
  refine condFalse rfl ?_
  refine skipAny ?_
  refine thenNormal ?_
  refine seqRegion ?_
  refine sq (r_move (v := .pointer (some ⟨b, 1, none⟩)) rfl) ?_
  refine sq (r_nilCheck rfl) ?_
  refine sq (r_loadC (v := .slice (ownA a.key) a.fs.length a.c) one22 (H3.keepE hb) (off := 1) rfl (by rfl)) ?_
  refine sq (r_move (v := i64 ((i : Nat))) rfl) ?_
  refine sq (r_idxS (E := ES) (l := svs a.fs) (j := i) sli22 (haR.ext H3.chg) rfl rfl (by first | rfl | omega | (simp; omega)) (by exact (svs_len _).symm) (by rw [svs_len]; exact hi)) ?_
  refine sq ((r_ldS (E := ES) (l := svs a.fs) (j := i) (v := (svs a.fs).getD i sv0) fits30 (haR.ext H3.chg) rfl rfl (at_getD (by rw [svs_len]; exact hi))).as (v' := .slice (ownA f.key) f.bs.length f.c) (by rw [svs_get hf]; rfl)) ?_
  refine c_call (vs := [.slice (ownA f.key) f.bs.length f.c]) call35 rfl (clone8_ok f.bs (by omega) (ownA f.key) f.bs.length f.c (by rfl) w1 (hfR.ext H3.chg)) ?_
  rintro _ w4 ⟨⟨key6, c7, sp8, rfl, hS9, hk10⟩, hE11⟩
  rw [show f.bs.length = f.bs.length from rfl]
  have H12 := H3.add hE11 hk10
  refine sq (r_assign (v := .slice (ownA key6) f.bs.length c7) rfl) ?_
  refine sq (r_assign (v := .nilIface) rfl) ?_
  refine wend ?_
  refine retAny ?_
  refine retG (rs := [.tmp 6, .tmp 7]) (vs := [.slice (ownA key6) f.bs.length c7, .nilIface]) rfl ⟨⟨rfl, rfl⟩, ⟨rfl, rfl⟩, trivial⟩ ?_
  exact ⟨_, rfl, ⟨key6, c7, sp8, rfl, hS9, fun g hg => ⟨((H12.own _ (List.mem_of_getElem? (i := 0) rfl) g hg).resolve_left (fun h => h)), H12.has _ (List.mem_of_getElem? (i := 0) rfl) g hg⟩⟩, H12.chg⟩

theorem at_miss_0 (b : Nat) (a o : Wy) (w : World) (i : Int) (hG : Gl w) (hb : w.heap[b]? = some (.cells #[.slice (ownA a.key) a.fs.length a.c, .slice (ownA o.key) o.fs.length o.c] 76 (0, 0))) (hi : i < 0 ∨ (a.fs.length : Int) ≤ i) : Calls Tryd.prog 20 [.pointer (some ⟨b, 0, none⟩), i64 ((0 : Int)), i64 (i)].toArray w (Ret fun v w' => (∃ ev, v = .tuple #[.slice none 0 0, ev] ∧ Er w.heap.size w' 4 1 ev) ∧ Ext w w') := by
  have H := Hp.start No w
  refine enter (n := 27) Tryd.func20 rfl rfl (Nat.le_of_ble_eq_true rfl) ?_
  refine seqRegion ?_
  refine sq (r_assign (v := .slice none 0 0) rfl) ?_
  refine sq (r_assign (v := .nilIface) rfl) ?_
  refine wend ?_
  refine seqRegion ?_
  refine sq (r_move (v := .pointer (some ⟨b, 0, none⟩)) rfl) ?_
  refine sq (r_move (v := i64 ((0 : Int))) rfl) ?_
  refine sq (r_move (v := i64 (i)) rfl) ?_
  refine c_call (vs := [.pointer (some ⟨b, 0, none⟩), i64 ((0 : Int)), i64 (i)]) call36 rfl (find_miss_0 b a o w i (Chg.gl H.chg (fun x => x) hG) (H.keepE hb) hi) ?_
  rintro _ w1 ⟨⟨v3, rfl, hEr4⟩, hE5⟩
  have H6 := H.ext hE5
  obtain ⟨T7, x8, rfl⟩ := hEr4.iface
  refine sq (r_move (v := .tuple #[.pointer none, .iface T7 (x8)]) rfl) ?_
  refine sq (r_extract (vs := #[.pointer none, .iface T7 (x8)]) rfl rfl) ?_
  refine sq (r_extract (vs := #[.pointer none, .iface T7 (x8)]) rfl rfl) ?_
  refine sq (r_assign (v := .pointer none) rfl) ?_
  refine sq (r_assign (v := .iface T7 (x8)) rfl) ?_
  refine wend ?_
  refine seqAny ?_
  refine seqRegion ?_
  refine sq (r_move (v := .iface T7 (x8)) rfl) ?_
  refine sq (r_neqIN isI28 rfl rfl) ?_
  refine wend ?_
  refine condTrue rfl ?_
  refine seqRegion ?_
  refine sq (r_move (v := .iface T7 (x8)) rfl) ?_
  refine sq (r_assign (v := .slice none 0 0) rfl) ?_
  refine sq (r_assign (v := .iface T7 (x8)) rfl) ?_
  refine wend ?_
  refine retAny ?_
  refine thenRet ?_
  refine retG (rs := [.tmp 6, .tmp 7]) (vs := [.slice none 0 0, .iface T7 (x8)]) rfl ⟨⟨rfl, rfl⟩, ⟨rfl, rfl⟩, trivial⟩ ?_
  exact ⟨_, rfl, ⟨_, rfl, hEr4.mono H.chg.size⟩, H6.chg⟩

theorem at_miss_1 (b : Nat) (a o : Wy) (w : World) (i : Int) (hG : Gl w) (hb : w.heap[b]? = some (.cells #[.slice (ownA o.key) o.fs.length o.c, .slice (ownA a.key) a.fs.length a.c] 76 (0, 0))) (hi : i < 0 ∨ (a.fs.length : Int) ≤ i) : Calls Tryd.prog 20 [.pointer (some ⟨b, 0, none⟩), i64 ((1 : Int)), i64 (i)].toArray w (Ret fun v w' => (∃ ev, v = .tuple #[.slice none 0 0, ev] ∧ Er w.heap.size w' 4 1 ev) ∧ Ext w w') := by
  have H := Hp.start No w
  refine enter (n := 27) Tryd.func20 rfl rfl (Nat.le_of_ble_eq_true rfl) ?_
  refine seqRegion ?_
  refine sq (r_assign (v := .slice none 0 0) rfl) ?_
  refine sq (r_assign (v := .nilIface) rfl) ?_
  refine wend ?_
  refine seqRegion ?_
  refine sq (r_move (v := .pointer (some ⟨b, 0, none⟩)) rfl) ?_
  refine sq (r_move (v := i64 ((1 : Int))) rfl) ?_
  refine sq (r_move (v := i64 (i)) rfl) ?_
  refine c_call (vs := [.pointer (some ⟨b, 0, none⟩), i64 ((1 : Int)), i64 (i)]) call36 rfl (find_miss_1 b a o w i (Chg.gl H.chg (fun x => x) hG) (H.keepE hb) hi) ?_
  rintro _ w1 ⟨⟨v3, rfl, hEr4⟩, hE5⟩
  have H6 := H.ext hE5
  obtain ⟨T7, x8, rfl⟩ := hEr4.iface
  refine sq (r_move (v := .tuple #[.pointer none, .iface T7 (x8)]) rfl) ?_
  refine sq (r_extract (vs := #[.pointer none, .iface T7 (x8)]) rfl rfl) ?_
  refine sq (r_extract (vs := #[.pointer none, .iface T7 (x8)]) rfl rfl) ?_
  refine sq (r_assign (v := .pointer none) rfl) ?_
  refine sq (r_assign (v := .iface T7 (x8)) rfl) ?_
  refine wend ?_
  refine seqAny ?_
  refine seqRegion ?_
  refine sq (r_move (v := .iface T7 (x8)) rfl) ?_
  refine sq (r_neqIN isI28 rfl rfl) ?_
  refine wend ?_
  refine condTrue rfl ?_
  refine seqRegion ?_
  refine sq (r_move (v := .iface T7 (x8)) rfl) ?_
  refine sq (r_assign (v := .slice none 0 0) rfl) ?_
  refine sq (r_assign (v := .iface T7 (x8)) rfl) ?_
  refine wend ?_
  refine retAny ?_
  refine thenRet ?_
  refine retG (rs := [.tmp 6, .tmp 7]) (vs := [.slice none 0 0, .iface T7 (x8)]) rfl ⟨⟨rfl, rfl⟩, ⟨rfl, rfl⟩, trivial⟩ ?_
  exact ⟨_, rfl, ⟨_, rfl, hEr4.mono H.chg.size⟩, H6.chg⟩

theorem at_range (b : Nat) (way : Int) (h0 : way ≠ 0) (h1 : way ≠ 1) (i : Int) (w : World) (hG : Gl w) : Calls Tryd.prog 20 [.pointer (some ⟨b, 0, none⟩), i64 (way), i64 (i)].toArray w (Ret fun v w' => (∃ ev, v = .tuple #[.slice none 0 0, ev] ∧ Er w.heap.size w' 1 1 ev) ∧ Ext w w') := by
  have H := Hp.start No w
  refine enter (n := 27) Tryd.func20 rfl rfl (Nat.le_of_ble_eq_true rfl) ?_
  refine seqRegion ?_
  refine sq (r_assign (v := .slice none 0 0) rfl) ?_
  refine sq (r_assign (v := .nilIface) rfl) ?_
  refine wend ?_
  refine seqRegion ?_
  refine sq (r_move (v := .pointer (some ⟨b, 0, none⟩)) rfl) ?_
  refine sq (r_move (v := i64 (way)) rfl) ?_
  refine sq (r_move (v := i64 (i)) rfl) ?_
  refine c_call (vs := [.pointer (some ⟨b, 0, none⟩), i64 (way), i64 (i)]) call36 rfl (find_range b way h0 h1 i w (Chg.gl H.chg (fun x => x) hG)) ?_
  rintro _ w1 ⟨⟨v3, rfl, hEr4⟩, hE5⟩
  have H6 := H.ext hE5
  obtain ⟨T7, x8, rfl⟩ := hEr4.iface
  refine sq (r_move (v := .tuple #[.pointer none, .iface T7 (x8)]) rfl) ?_
  refine sq (r_extract (vs := #[.pointer none, .iface T7 (x8)]) rfl rfl) ?_
  refine sq (r_extract (vs := #[.pointer none, .iface T7 (x8)]) rfl rfl) ?_
  refine sq (r_assign (v := .pointer none) rfl) ?_
  refine sq (r_assign (v := .iface T7 (x8)) rfl) ?_
  refine wend ?_
  refine seqAny ?_
  refine seqRegion ?_
  refine sq (r_move (v := .iface T7 (x8)) rfl) ?_
  refine sq (r_neqIN isI28 rfl rfl) ?_
  refine wend ?_
  refine condTrue rfl ?_
  refine seqRegion ?_
  refine sq (r_move (v := .iface T7 (x8)) rfl) ?_
  refine sq (r_assign (v := .slice none 0 0) rfl) ?_
  refine sq (r_assign (v := .iface T7 (x8)) rfl) ?_
  refine wend ?_
  refine retAny ?_
  refine thenRet ?_
  refine retG (rs := [.tmp 6, .tmp 7]) (vs := [.slice none 0 0, .iface T7 (x8)]) rfl ⟨⟨rfl, rfl⟩, ⟨rfl, rfl⟩, trivial⟩ ?_
  exact ⟨_, rfl, ⟨_, rfl, hEr4.mono H.chg.size⟩, H6.chg⟩

theorem send_ok_0 (b : Nat) (a o : Wy) (ha : a.ok) (R : List (Option Nat × Obj)) (w₀ w : World) (bs : List (BitVec 8)) (hroom : bs.length ≤ 140737488355328) (a0 : Option Addr) (n0 c0 : Nat) (hn0 : n0 = bs.length) (H : Hp No w₀ w ((some b, .cells #[.slice (ownA a.key) a.fs.length a.c, .slice (ownA o.key) o.fs.length o.c] 76 (0, 0)) :: (a.key, sob ES 30 (svs a.fs) a.sp) :: (o.key, sob ES 30 (svs o.fs) o.sp) :: (frs 5 a.fs ++ (frs 5 o.fs ++ R)))) (hW : ∀ w1, Hp No w₀ w1 ((some b, .cells #[.slice (ownA a.key) a.fs.length a.c, .slice (ownA o.key) o.fs.length o.c] 76 (0, 0)) :: (a.key, sob ES 30 (svs a.fs) a.sp) :: (o.key, sob ES 30 (svs o.fs) o.sp) :: (frs 5 a.fs ++ (frs 5 o.fs ++ R))) → Rd E8 w1 a0 bs) (hlen : a.fs.length < 64) : Calls Tryd.prog 14 [.pointer (some ⟨b, 0, none⟩), i64 (0 : Int), .slice a0 n0 c0].toArray w (Ret fun v w' => v = .nilIface ∧ ∃ a' : Wy, a'.ok ∧ bss a'.fs = bss a.fs ++ [bs] ∧ Hp No w₀ w' ((some b, .cells #[.slice (ownA a'.key) a'.fs.length a'.c, .slice (ownA o.key) o.fs.length o.c] 76 (0, 0)) :: (a'.key, sob ES 30 (svs a'.fs) a'.sp) :: (o.key, sob ES 30 (svs o.fs) o.sp) :: (frs 5 a'.fs ++ (frs 5 o.fs ++ R)))) := by
  subst hn0
  refine enter (n := 40) Tryd.func14 rfl rfl (Nat.le_of_ble_eq_true rfl) ?_
  refine seqRegion ?_
  refine sq (r_assign (v := .nilIface) rfl) ?_
  refine wend ?_
  refine seqAny ?_
  refine seqRegion ?_
  refine sq (r_move (v := i64 ((0 : Int))) rfl) ?_
  refine sq ((r_neqI (a := (0 : Int)) (b := (0 : Int)) rfl rfl).as (v' := .bool (false)) (by rfl)) ?_
  refine sq (r_move (v := .bool (false)) rfl) ?_
  refine skAny (wantedSome (d' := 9) (b := false) rfl rfl rfl) ?_
  refine skAny (wantedSome (d' := 9) (b := false) rfl rfl rfl) ?_
  refine sq (r_pickF (v := .bool (false)) rfl rfl) ?_
  refine wend ?_
  refine condFalse rfl ?_
  refine skipAny ?_
  refine thenNormal ?_
  refine seqAny ?_
  refine seqRegion ?_
  refine sq (r_move (v := .pointer (some ⟨b, 0, none⟩)) rfl) ?_
  refine sq (r_move (v := i64 ((0 : Int))) rfl) ?_
  refine sq (r_nilCheck rfl) ?_
  refine sq (r_fieldAddr (off' := 0) fld76_0 (by decide) (b := b) (off := 0) rfl (by omega)) ?_
  refine sq (r_indexA (off' := 0) (j := 0) arr74 (b := b) (off := 0) rfl rfl (by first | rfl | omega | (simp; omega)) (by omega) (by omega)) ?_
  refine sq (r_loadC (v := .slice (ownA a.key) a.fs.length a.c) one22 (H.get (k := 0) rfl) (off := 0) rfl (by rfl)) ?_
  refine sq (r_lenS sli22 (a := ownA a.key) (m := a.fs.length) (c := a.c) rfl) ?_
  refine sq ((r_geqI (a := (a.fs.length : Nat)) (b := (64 : Int)) rfl rfl).as (v' := .bool (false)) (by exact congrArg Value.bool (decide_eq_false (by omega)))) ?_
  refine wend ?_
  refine condFalse rfl ?_
  refine skipAny ?_
  refine thenNormal ?_
  refine seqAny ?_
  refine drawC (m := 16) [0, 0, 0, 0, 4, 20, 60, 124, 0, 256, 768, 2044, 1, 4097, 16383, 32767] [9, 10, 11, 15] (fun q vs w' => match q, vs with | 0, [] => Hp No w₀ w' ((some b, .cells #[.slice (ownA a.key) a.fs.length a.c, .slice (ownA o.key) o.fs.length o.c] 76 (0, 0)) :: (a.key, sob ES 30 (svs a.fs) a.sp) :: (o.key, sob ES 30 (svs o.fs) o.sp) :: (frs 5 a.fs ++ (frs 5 o.fs ++ R))) | 1, [v0] => ∃ (key6 : Option Nat) (c7 : Nat) (sp8 : List Value), v0 = .slice (ownA key6) bs.length c7 ∧ Sl E8 key6 bs c7 sp8 ∧ Hp No w₀ w' ((key6, sob E8 5 bs sp8) :: (some b, .cells #[.slice (ownA a.key) a.fs.length a.c, .slice (ownA o.key) o.fs.length o.c] 76 (0, 0)) :: (a.key, sob ES 30 (svs a.fs) a.sp) :: (o.key, sob ES 30 (svs o.fs) o.sp) :: (frs 5 a.fs ++ (frs 5 o.fs ++ R))) | 2, [v0, v1] => ∃ (key6 : Option Nat) (c7 : Nat) (sp8 : List Value) (b16 : Nat), v0 = .slice (ownA key6) bs.length c7 ∧ v1 = .slice (ownA (some b16)) 1 1 ∧ Sl ES (some b16) ([⟨ownA key6, bs.length, c7⟩] : List SlV) 1 ([]) ∧ Sl E8 key6 bs c7 sp8 ∧ Hp No w₀ w' (((some b16), sob ES 30 ([⟨ownA key6, bs.length, c7⟩] : List SlV) ([])) :: (key6, sob E8 5 bs sp8) :: (some b, .cells #[.slice (ownA a.key) a.fs.length a.c, .slice (ownA o.key) o.fs.length o.c] 76 (0, 0)) :: (a.key, sob ES 30 (svs a.fs) a.sp) :: (o.key, sob ES 30 (svs o.fs) o.sp) :: (frs 5 a.fs ++ (frs 5 o.fs ++ R))) | 3, [v0, v1, v2] => ∃ (key6 : Option Nat) (c7 : Nat) (sp8 : List Value) (b16 : Nat) (key24 : Option Nat) (c25 : Nat) (sp26 : List Value), v0 = .slice (ownA key6) bs.length c7 ∧ v1 = .slice (ownA (some b16)) 1 1 ∧ v2 = .slice (ownA key24) (a.fs.length + 1) c25 ∧ Sl ES (some b16) ([⟨ownA key6, bs.length, c7⟩] : List SlV) 1 ([]) ∧ Sl E8 key6 bs c7 sp8 ∧ Sl ES key24 ((svs a.fs) ++ ([⟨ownA key6, bs.length, c7⟩] : List SlV)) c25 sp26 ∧ Hp No w₀ w' (((some b16), sob ES 30 ([⟨ownA key6, bs.length, c7⟩] : List SlV) ([])) :: (key6, sob E8 5 bs sp8) :: (some b, .cells #[.slice (ownA a.key) a.fs.length a.c, .slice (ownA o.key) o.fs.length o.c] 76 (0, 0)) :: (key24, sob ES 30 ((svs a.fs) ++ ([⟨ownA key6, bs.length, c7⟩] : List SlV)) sp26) :: (o.key, sob ES 30 (svs o.fs) o.sp) :: (frs 5 a.fs ++ (frs 5 o.fs ++ R))) | 4, [v0, v1, v2, _] => ∃ (key6 : Option Nat) (c7 : Nat) (sp8 : List Value) (b16 : Nat) (key24 : Option Nat) (c25 : Nat) (sp26 : List Value), v0 = .slice (ownA key6) bs.length c7 ∧ v1 = .slice (ownA (some b16)) 1 1 ∧ v2 = .slice (ownA key24) (a.fs.length + 1) c25 ∧ True ∧ Sl ES (some b16) ([⟨ownA key6, bs.length, c7⟩] : List SlV) 1 ([]) ∧ Sl E8 key6 bs c7 sp8 ∧ Sl ES key24 ((svs a.fs) ++ ([⟨ownA key6, bs.length, c7⟩] : List SlV)) c25 sp26 ∧ Hp No w₀ w' (((some b16), sob ES 30 ([⟨ownA key6, bs.length, c7⟩] : List SlV) ([])) :: (key6, sob E8 5 bs sp8) :: (some b, .cells #[.slice (ownA key24) (a.fs.length + 1) c25, .slice (ownA o.key) o.fs.length o.c] 76 (0, 0)) :: (key24, sob ES 30 ((svs a.fs) ++ ([⟨ownA key6, bs.length, c7⟩] : List SlV)) sp26) :: (o.key, sob ES 30 (svs o.fs) o.sp) :: (frs 5 a.fs ++ (frs 5 o.fs ++ R))) | _, _ => False) mixed (by kernel_rfl) (by kernel_rfl) H.drew ?_
  refine WalkC.look rfl (fun _ => .pointer (some ⟨b, 0, none⟩)) (fun _ _ _ => rfl) (fun q r uw _ _ _ _ => Gives.run rfl (r_move (v := .pointer (some ⟨b, 0, none⟩)) rfl) ⟨rfl, rfl⟩) ?_
  refine WalkC.look rfl (fun _ => i64 ((0 : Int))) (fun _ _ _ => rfl) (fun q r uw _ _ _ _ => Gives.run rfl (r_move (v := i64 ((0 : Int))) rfl) ⟨rfl, rfl⟩) ?_
  refine WalkC.look rfl (fun _ => .pointer (some ⟨b, 0, none⟩)) (fun _ _ _ => rfl) (fun q r uw _ _ _ _ => Gives.run rfl (r_move (v := .pointer (some ⟨b, 0, none⟩)) rfl) ⟨rfl, rfl⟩) ?_
  refine WalkC.look rfl (fun _ => i64 ((0 : Int))) (fun _ _ _ => rfl) (fun q r uw _ _ _ _ => Gives.run rfl (r_move (v := i64 ((0 : Int))) rfl) ⟨rfl, rfl⟩) ?_
  refine WalkC.look rfl (fun _ => .pointer (some ⟨b, 0, none⟩)) (fun _ _ _ => rfl) (fun q r uw _ _ _ _ => Gives.run rfl (r_nilCheck rfl) ⟨rfl, rfl⟩) ?_
  refine WalkC.look rfl (fun _ => .pointer (some ⟨b, 0, none⟩)) (fun _ _ _ => rfl) (fun q r uw _ _ _ _ => Gives.run rfl (r_fieldAddr (off' := 0) fld76_0 (by decide) (b := b) (off := 0) rfl (by omega)) ⟨rfl, rfl⟩) ?_
  refine WalkC.look rfl (fun _ => .pointer (some ⟨b, 0, none⟩)) (fun _ _ _ => rfl) (fun q r uw _ _ _ _ => Gives.run rfl (r_indexA (off' := 0) (j := 0) arr74 (b := b) (off := 0) rfl rfl (by first | rfl | omega | (simp; omega)) (by omega) (by omega)) ⟨rfl, rfl⟩) ?_
  refine WalkC.look rfl (fun _ => .slice (ownA a.key) a.fs.length a.c) (fun _ _ _ => rfl) (fun q r uw hlo hhi hle hF => ?_) ?_
  · skip
    have h1 : 0 ≤ q := Nat.zero_le _
    have h2 : q ≤ 2 := hhi 2 11 rfl rfl
    rcases (show q = 0 ∨ q = 1 ∨ q = 2 by omega) with rfl | rfl | rfl
    · skip
      have HH := hF
      exact Gives.run rfl (r_loadC (v := .slice (ownA a.key) a.fs.length a.c) one22 (HH.get (k := 0) rfl) (off := 0) rfl (by rfl)) ⟨rfl, rfl⟩
    · skip
      obtain ⟨key6, c7, sp8, e9, hS9, HH⟩ := hF
      exact Gives.run rfl (r_loadC (v := .slice (ownA a.key) a.fs.length a.c) one22 (HH.get (k := 1) rfl) (off := 0) rfl (by rfl)) ⟨rfl, rfl⟩
    · skip
      obtain ⟨key6, c7, sp8, b16, e9, e10, hS17, hS9, HH⟩ := hF
      exact Gives.run rfl (r_loadC (v := .slice (ownA a.key) a.fs.length a.c) one22 (HH.get (k := 2) rfl) (off := 0) rfl (by rfl)) ⟨rfl, rfl⟩
  refine WalkC.look rfl (fun _ => .slice a0 bs.length c0) (fun _ _ _ => rfl) (fun q r uw _ _ _ _ => Gives.run rfl (r_move (v := .slice a0 bs.length c0) rfl) ⟨rfl, rfl⟩) ?_
  refine WalkC.eff 0 rfl (fun r uw1 hF3 => ?_) ?_
  · skip
    have H2 := hF3
    dsimp only [List.take, List.map, List.cons_append, List.nil_append]
    refine Gives.ofW (d := 34) rfl rfl (fun Q' hK => ?_)
    refine c_call (vs := [.slice a0 bs.length c0]) call35 rfl (clone8_ok bs (by omega) a0 bs.length c0 (by rfl) uw1 (hW _ H2)) ?_
    rintro _ w4 ⟨⟨key6, c7, sp8, rfl, hS9, hk10⟩, hE11⟩
    rw [show bs.length = bs.length from rfl]
    have H12 := H2.add hE11 hk10
    exact hK _ _ ⟨key6, c7, sp8, rfl, hS9, H12⟩
  refine WalkC.eff 1 rfl (fun r uw13 hF15 => ?_) ?_
  · skip
    obtain ⟨key6, c7, sp8, e9, hS9, H14⟩ := hF15
    dsimp only [List.take, List.map, List.cons_append, List.nil_append]
    rw [e9]
    refine Gives.ofW (d := 35) rfl rfl (fun Q' hK => ?_)
    refine q_buildSlice (E := ES) (l := ([⟨ownA key6, bs.length, c7⟩] : List SlV)) H14 sli22 zer30 (Nat.le_of_ble_eq_true rfl) (ps := [(0, .slice (ownA key6) bs.length c7)]) rfl (by exact fillAll rfl rfl) rfl ?_
    intro b16 w18 hS17 H19 hE20
    exact hK _ _ ⟨key6, c7, sp8, b16, rfl, rfl, hS17, hS9, H19⟩
  refine WalkC.eff 2 rfl (fun r uw21 hF23 => ?_) ?_
  · skip
    obtain ⟨key6, c7, sp8, b16, e9, e10, hS17, hS9, H22⟩ := hF23
    dsimp only [List.take, List.map, List.cons_append, List.nil_append]
    rw [e9, e10]
    refine Gives.ofW (d := 36) rfl rfl (fun Q' hK => ?_)
    refine q_append (E := ES) (k := 3) (l := svs a.fs) (l2 := ([⟨ownA key6, bs.length, c7⟩] : List SlV)) H22 rfl ha.sl sli22 zer30 rfl byt30 (H22.rd (k := 0) rfl hS17) rfl (by exact (svs_len _).symm) rfl (by rfl) (by omega) ?_
    intro key24 c25 sp26 w28 hS27 hne30 H29
    have H29' := H29.as (L' := (((some b16), sob ES 30 ([⟨ownA key6, bs.length, c7⟩] : List SlV) ([])) :: (key6, sob E8 5 bs sp8) :: (some b, .cells #[.slice (ownA a.key) a.fs.length a.c, .slice (ownA o.key) o.fs.length o.c] 76 (0, 0)) :: (key24, sob ES 30 ((svs a.fs) ++ ([⟨ownA key6, bs.length, c7⟩] : List SlV)) sp26) :: (o.key, sob ES 30 (svs o.fs) o.sp) :: (frs 5 a.fs ++ (frs 5 o.fs ++ R)))) rfl
    clear H29
    exact hK _ _ ⟨key6, c7, sp8, b16, key24, c25, sp26, rfl, rfl, rfl, hS17, hS9, hS27, H29'⟩
  refine WalkC.look rfl (fun _ => .pointer (some ⟨b, 0, none⟩)) (fun _ _ _ => rfl) (fun q r uw _ _ _ _ => Gives.run rfl (r_nilCheck rfl) ⟨rfl, rfl⟩) ?_
  refine WalkC.look rfl (fun _ => .pointer (some ⟨b, 0, none⟩)) (fun _ _ _ => rfl) (fun q r uw _ _ _ _ => Gives.run rfl (r_fieldAddr (off' := 0) fld76_0 (by decide) (b := b) (off := 0) rfl (by omega)) ⟨rfl, rfl⟩) ?_
  refine WalkC.look rfl (fun _ => .pointer (some ⟨b, 0, none⟩)) (fun _ _ _ => rfl) (fun q r uw _ _ _ _ => Gives.run rfl (r_indexA (off' := 0) (j := 0) arr74 (b := b) (off := 0) rfl rfl (by first | rfl | omega | (simp; omega)) (by omega) (by omega)) ⟨rfl, rfl⟩) ?_
  refine WalkC.eff 3 rfl (fun r uw31 hF33 => ?_) ?_
  · skip
    obtain ⟨key6, c7, sp8, b16, key24, c25, sp26, e9, e10, e11, hS17, hS9, hS27, H32⟩ := hF33
    dsimp only [List.take, List.map, List.cons_append, List.nil_append]
    rw [e9, e10, e11]
    refine Gives.ofW0 rfl (fun Q' hK => ?_)
    refine d_store (k := 2) (v := .slice (ownA key24) (a.fs.length + 1) c25) (cs' := #[.slice (ownA key24) (a.fs.length + 1) c25, .slice (ownA o.key) o.fs.length o.c]) H32 rfl rfl rfl siz22 (by rfl) (by intro u hu; simp [Value.cells] at hu; first | (subst hu; rfl) | (rcases hu with rfl <;> rfl)) (by exact Nat.le_of_ble_eq_true rfl) (by rfl) ?_
    intro w34 H35 hC36
    have H35' := H35.as (L' := (((some b16), sob ES 30 ([⟨ownA key6, bs.length, c7⟩] : List SlV) ([])) :: (key6, sob E8 5 bs sp8) :: (some b, .cells #[.slice (ownA key24) (a.fs.length + 1) c25, .slice (ownA o.key) o.fs.length o.c] 76 (0, 0)) :: (key24, sob ES 30 ((svs a.fs) ++ ([⟨ownA key6, bs.length, c7⟩] : List SlV)) sp26) :: (o.key, sob ES 30 (svs o.fs) o.sp) :: (frs 5 a.fs ++ (frs 5 o.fs ++ R)))) rfl
    clear H35
    exact hK _ (fun _ => ⟨key6, c7, sp8, b16, key24, c25, sp26, rfl, rfl, rfl, trivial, hS17, hS9, hS27, H35'⟩)
  refine WalkC.nil ?_
  intro r37 w38 hF40
  obtain ⟨key6, c7, sp8, b16, key24, c25, sp26, e9, e10, e11, e15, hS17, hS9, hS27, H39⟩ := hF40
  dsimp only
  rw [e9, e10, e11]
  refine wnil ?_
  refine thenNormal ?_
  refine seqRegion ?_
  refine sq (r_assign (v := .nilIface) rfl) ?_
  refine wend ?_
  refine retAny ?_
  refine retG (rs := [.tmp 6]) (vs := [.nilIface]) rfl ⟨⟨rfl, rfl⟩, trivial⟩ ?_
  have hfin := ((H39.dropk 0))
  refine ⟨_, rfl, rfl, ⟨key24, c25, sp26, a.fs ++ [⟨key6, bs, c7, sp8⟩]⟩, ⟨by dsimp only; rw [svs_snoc]; exact hS27, fun x hx => ?_⟩, bss_snoc _ _, ?_⟩
  · rcases List.mem_append.1 hx with h | h
    · exact ha.each x h
    · rw [List.mem_singleton.1 h]; exact hS9
  · have := hfin.intoFs (f := (⟨key6, bs, c7, sp8⟩ : Fr)) (T := 5)
    dsimp only
    rw [svs_snoc, List.length_append, List.length_singleton]; exact this

theorem send_ok_1 (b : Nat) (a o : Wy) (ha : a.ok) (R : List (Option Nat × Obj)) (w₀ w : World) (bs : List (BitVec 8)) (hroom : bs.length ≤ 140737488355328) (a0 : Option Addr) (n0 c0 : Nat) (hn0 : n0 = bs.length) (H : Hp No w₀ w ((some b, .cells #[.slice (ownA o.key) o.fs.length o.c, .slice (ownA a.key) a.fs.length a.c] 76 (0, 0)) :: (a.key, sob ES 30 (svs a.fs) a.sp) :: (o.key, sob ES 30 (svs o.fs) o.sp) :: (frs 5 a.fs ++ (frs 5 o.fs ++ R)))) (hW : ∀ w1, Hp No w₀ w1 ((some b, .cells #[.slice (ownA o.key) o.fs.length o.c, .slice (ownA a.key) a.fs.length a.c] 76 (0, 0)) :: (a.key, sob ES 30 (svs a.fs) a.sp) :: (o.key, sob ES 30 (svs o.fs) o.sp) :: (frs 5 a.fs ++ (frs 5 o.fs ++ R))) → Rd E8 w1 a0 bs) (hlen : a.fs.length < 64) : Calls Tryd.prog 14 [.pointer (some ⟨b, 0, none⟩), i64 (1 : Int), .slice a0 n0 c0].toArray w (Ret fun v w' => v = .nilIface ∧ ∃ a' : Wy, a'.ok ∧ bss a'.fs = bss a.fs ++ [bs] ∧ Hp No w₀ w' ((some b, .cells #[.slice (ownA o.key) o.fs.length o.c, .slice (ownA a'.key) a'.fs.length a'.c] 76 (0, 0)) :: (a'.key, sob ES 30 (svs a'.fs) a'.sp) :: (o.key, sob ES 30 (svs o.fs) o.sp) :: (frs 5 a'.fs ++ (frs 5 o.fs ++ R)))) := by
  subst hn0
  refine enter (n := 40) Tryd.func14 rfl rfl (Nat.le_of_ble_eq_true rfl) ?_
  refine seqRegion ?_
  refine sq (r_assign (v := .nilIface) rfl) ?_
  refine wend ?_
  refine seqAny ?_
  refine seqRegion ?_
  refine sq (r_move (v := i64 ((1 : Int))) rfl) ?_
  refine sq ((r_neqI (a := (1 : Int)) (b := (0 : Int)) rfl rfl).as (v' := .bool (true)) (by rfl)) ?_
  refine sq (r_move (v := .bool (true)) rfl) ?_
  refine sqAny (v := i64 ((1 : Int))) (w' := w) (wantedSome (d' := 9) (b := true) rfl rfl rfl) (r_move (v := i64 ((1 : Int))) rfl) ?_
  refine sqAny (v := .bool (false)) (w' := w) (wantedSome (d' := 9) (b := true) rfl rfl rfl) ((r_neqI (a := (1 : Int)) (b := (1 : Int)) rfl rfl).as (v' := .bool (false)) (by rfl)) ?_
  refine sq (r_pickT (u := .bool (false)) rfl rfl) ?_
  refine wend ?_
  refine condFalse rfl ?_
  refine skipAny ?_
  refine thenNormal ?_
  refine seqAny ?_
  refine seqRegion ?_
  refine sq (r_move (v := .pointer (some ⟨b, 0, none⟩)) rfl) ?_
  refine sq (r_move (v := i64 ((1 : Int))) rfl) ?_
  refine sq (r_nilCheck rfl) ?_
  refine sq (r_fieldAddr (off' := 0) fld76_0 (by decide) (b := b) (off := 0) rfl (by omega)) ?_
  refine sq (r_indexA (off' := 1) (j := 1) arr74 (b := b) (off := 0) rfl rfl (by first | rfl | omega | (simp; omega)) (by omega) (by omega)) ?_
  refine sq (r_loadC (v := .slice (ownA a.key) a.fs.length a.c) one22 (H.get (k := 0) rfl) (off := 1) rfl (by rfl)) ?_
  refine sq (r_lenS sli22 (a := ownA a.key) (m := a.fs.length) (c := a.c) rfl) ?_
  refine sq ((r_geqI (a := (a.fs.length : Nat)) (b := (64 : Int)) rfl rfl).as (v' := .bool (false)) (by exact congrArg Value.bool (decide_eq_false (by omega)))) ?_
  refine wend ?_
  refine condFalse rfl ?_
  refine skipAny ?_
  refine thenNormal ?_
  refine seqAny ?_
  refine drawC (m := 16) [0, 0, 0, 0, 4, 20, 60, 124, 0, 256, 768, 2044, 1, 4097, 16383, 32767] [9, 10, 11, 15] (fun q vs w' => match q, vs with | 0, [] => Hp No w₀ w' ((some b, .cells #[.slice (ownA o.key) o.fs.length o.c, .slice (ownA a.key) a.fs.length a.c] 76 (0, 0)) :: (a.key, sob ES 30 (svs a.fs) a.sp) :: (o.key, sob ES 30 (svs o.fs) o.sp) :: (frs 5 a.fs ++ (frs 5 o.fs ++ R))) | 1, [v0] => ∃ (key6 : Option Nat) (c7 : Nat) (sp8 : List Value), v0 = .slice (ownA key6) bs.length c7 ∧ Sl E8 key6 bs c7 sp8 ∧ Hp No w₀ w' ((key6, sob E8 5 bs sp8) :: (some b, .cells #[.slice (ownA o.key) o.fs.length o.c, .slice (ownA a.key) a.fs.length a.c] 76 (0, 0)) :: (a.key, sob ES 30 (svs a.fs) a.sp) :: (o.key, sob ES 30 (svs o.fs) o.sp) :: (frs 5 a.fs ++ (frs 5 o.fs ++ R))) | 2, [v0, v1] => ∃ (key6 : Option Nat) (c7 : Nat) (sp8 : List Value) (b16 : Nat), v0 = .slice (ownA key6) bs.length c7 ∧ v1 = .slice (ownA (some b16)) 1 1 ∧ Sl ES (some b16) ([⟨ownA key6, bs.length, c7⟩] : List SlV) 1 ([]) ∧ Sl E8 key6 bs c7 sp8 ∧ Hp No w₀ w' (((some b16), sob ES 30 ([⟨ownA key6, bs.length, c7⟩] : List SlV) ([])) :: (key6, sob E8 5 bs sp8) :: (some b, .cells #[.slice (ownA o.key) o.fs.length o.c, .slice (ownA a.key) a.fs.length a.c] 76 (0, 0)) :: (a.key, sob ES 30 (svs a.fs) a.sp) :: (o.key, sob ES 30 (svs o.fs) o.sp) :: (frs 5 a.fs ++ (frs 5 o.fs ++ R))) | 3, [v0, v1, v2] => ∃ (key6 : Option Nat) (c7 : Nat) (sp8 : List Value) (b16 : Nat) (key24 : Option Nat) (c25 : Nat) (sp26 : List Value), v0 = .slice (ownA key6) bs.length c7 ∧ v1 = .slice (ownA (some b16)) 1 1 ∧ v2 = .slice (ownA key24) (a.fs.length + 1) c25 ∧ Sl ES (some b16) ([⟨ownA key6, bs.length, c7⟩] : List SlV) 1 ([]) ∧ Sl E8 key6 bs c7 sp8 ∧ Sl ES key24 ((svs a.fs) ++ ([⟨ownA key6, bs.length, c7⟩] : List SlV)) c25 sp26 ∧ Hp No w₀ w' (((some b16), sob ES 30 ([⟨ownA key6, bs.length, c7⟩] : List SlV) ([])) :: (key6, sob E8 5 bs sp8) :: (some b, .cells #[.slice (ownA o.key) o.fs.length o.c, .slice (ownA a.key) a.fs.length a.c] 76 (0, 0)) :: (key24, sob ES 30 ((svs a.fs) ++ ([⟨ownA key6, bs.length, c7⟩] : List SlV)) sp26) :: (o.key, sob ES 30 (svs o.fs) o.sp) :: (frs 5 a.fs ++ (frs 5 o.fs ++ R))) | 4, [v0, v1, v2, _] => ∃ (key6 : Option Nat) (c7 : Nat) (sp8 : List Value) (b16 : Nat) (key24 : Option Nat) (c25 : Nat) (sp26 : List Value), v0 = .slice (ownA key6) bs.length c7 ∧ v1 = .slice (ownA (some b16)) 1 1 ∧ v2 = .slice (ownA key24) (a.fs.length + 1) c25 ∧ True ∧ Sl ES (some b16) ([⟨ownA key6, bs.length, c7⟩] : List SlV) 1 ([]) ∧ Sl E8 key6 bs c7 sp8 ∧ Sl ES key24 ((svs a.fs) ++ ([⟨ownA key6, bs.length, c7⟩] : List SlV)) c25 sp26 ∧ Hp No w₀ w' (((some b16), sob ES 30 ([⟨ownA key6, bs.length, c7⟩] : List SlV) ([])) :: (key6, sob E8 5 bs sp8) :: (some b, .cells #[.slice (ownA o.key) o.fs.length o.c, .slice (ownA key24) (a.fs.length + 1) c25] 76 (0, 0)) :: (key24, sob ES 30 ((svs a.fs) ++ ([⟨ownA key6, bs.length, c7⟩] : List SlV)) sp26) :: (o.key, sob ES 30 (svs o.fs) o.sp) :: (frs 5 a.fs ++ (frs 5 o.fs ++ R))) | _, _ => False) mixed (by kernel_rfl) (by kernel_rfl) H.drew ?_
  refine WalkC.look rfl (fun _ => .pointer (some ⟨b, 0, none⟩)) (fun _ _ _ => rfl) (fun q r uw _ _ _ _ => Gives.run rfl (r_move (v := .pointer (some ⟨b, 0, none⟩)) rfl) ⟨rfl, rfl⟩) ?_
  refine WalkC.look rfl (fun _ => i64 ((1 : Int))) (fun _ _ _ => rfl) (fun q r uw _ _ _ _ => Gives.run rfl (r_move (v := i64 ((1 : Int))) rfl) ⟨rfl, rfl⟩) ?_
  refine WalkC.look rfl (fun _ => .pointer (some ⟨b, 0, none⟩)) (fun _ _ _ => rfl) (fun q r uw _ _ _ _ => Gives.run rfl (r_move (v := .pointer (some ⟨b, 0, none⟩)) rfl) ⟨rfl, rfl⟩) ?_
  refine WalkC.look rfl (fun _ => i64 ((1 : Int))) (fun _ _ _ => rfl) (fun q r uw _ _ _ _ => Gives.run rfl (r_move (v := i64 ((1 : Int))) rfl) ⟨rfl, rfl⟩) ?_
  refine WalkC.look rfl (fun _ => .pointer (some ⟨b, 0, none⟩)) (fun _ _ _ => rfl) (fun q r uw _ _ _ _ => Gives.run rfl (r_nilCheck rfl) ⟨rfl, rfl⟩) ?_
  refine WalkC.look rfl (fun _ => .pointer (some ⟨b, 0, none⟩)) (fun _ _ _ => rfl) (fun q r uw _ _ _ _ => Gives.run rfl (r_fieldAddr (off' := 0) fld76_0 (by decide) (b := b) (off := 0) rfl (by omega)) ⟨rfl, rfl⟩) ?_
  refine WalkC.look rfl (fun _ => .pointer (some ⟨b, 1, none⟩)) (fun _ _ _ => rfl) (fun q r uw _ _ _ _ => Gives.run rfl (r_indexA (off' := 1) (j := 1) arr74 (b := b) (off := 0) rfl rfl (by first | rfl | omega | (simp; omega)) (by omega) (by omega)) ⟨rfl, rfl⟩) ?_
  refine WalkC.look rfl (fun _ => .slice (ownA a.key) a.fs.length a.c) (fun _ _ _ => rfl) (fun q r uw hlo hhi hle hF => ?_) ?_
  · skip
    have h1 : 0 ≤ q := Nat.zero_le _
    have h2 : q ≤ 2 := hhi 2 11 rfl rfl
    rcases (show q = 0 ∨ q = 1 ∨ q = 2 by omega) with rfl | rfl | rfl
    · skip
      have HH := hF
      exact Gives.run rfl (r_loadC (v := .slice (ownA a.key) a.fs.length a.c) one22 (HH.get (k := 0) rfl) (off := 1) rfl (by rfl)) ⟨rfl, rfl⟩
    · skip
      obtain ⟨key6, c7, sp8, e9, hS9, HH⟩ := hF
      exact Gives.run rfl (r_loadC (v := .slice (ownA a.key) a.fs.length a.c) one22 (HH.get (k := 1) rfl) (off := 1) rfl (by rfl)) ⟨rfl, rfl⟩
    · skip
      obtain ⟨key6, c7, sp8, b16, e9, e10, hS17, hS9, HH⟩ := hF
      exact Gives.run rfl (r_loadC (v := .slice (ownA a.key) a.fs.length a.c) one22 (HH.get (k := 2) rfl) (off := 1) rfl (by rfl)) ⟨rfl, rfl⟩
  refine WalkC.look rfl (fun _ => .slice a0 bs.length c0) (fun _ _ _ => rfl) (fun q r uw _ _ _ _ => Gives.run rfl (r_move (v := .slice a0 bs.length c0) rfl) ⟨rfl, rfl⟩) ?_
  refine WalkC.eff 0 rfl (fun r uw1 hF3 => ?_) ?_
  · skip
    have H2 := hF3
    dsimp only [List.take, List.map, List.cons_append, List.nil_append]
    refine Gives.ofW (d := 34) rfl rfl (fun Q' hK => ?_)
    refine c_call (vs := [.slice a0 bs.length c0]) call35 rfl (clone8_ok bs (by omega) a0 bs.length c0 (by rfl) uw1 (hW _ H2)) ?_
    rintro _ w4 ⟨⟨key6, c7, sp8, rfl, hS9, hk10⟩, hE11⟩
    rw [show bs.length = bs.length from rfl]
    have H12 := H2.add hE11 hk10
    exact hK _ _ ⟨key6, c7, sp8, rfl, hS9, H12⟩
  refine WalkC.eff 1 rfl (fun r uw13 hF15 => ?_) ?_
  · skip
    obtain ⟨key6, c7, sp8, e9, hS9, H14⟩ := hF15
    dsimp only [List.take, List.map, List.cons_append, List.nil_append]
    rw [e9]
    refine Gives.ofW (d := 35) rfl rfl (fun Q' hK => ?_)
    refine q_buildSlice (E := ES) (l := ([⟨ownA key6, bs.length, c7⟩] : List SlV)) H14 sli22 zer30 (Nat.le_of_ble_eq_true rfl) (ps := [(0, .slice (ownA key6) bs.length c7)]) rfl (by exact fillAll rfl rfl) rfl ?_
    intro b16 w18 hS17 H19 hE20
    exact hK _ _ ⟨key6, c7, sp8, b16, rfl, rfl, hS17, hS9, H19⟩
  refine WalkC.eff 2 rfl (fun r uw21 hF23 => ?_) ?_
  · skip
    obtain ⟨key6, c7, sp8, b16, e9, e10, hS17, hS9, H22⟩ := hF23
    dsimp only [List.take, List.map, List.cons_append, List.nil_append]
    rw [e9, e10]
    refine Gives.ofW (d := 36) rfl rfl (fun Q' hK => ?_)
    refine q_append (E := ES) (k := 3) (l := svs a.fs) (l2 := ([⟨ownA key6, bs.length, c7⟩] : List SlV)) H22 rfl ha.sl sli22 zer30 rfl byt30 (H22.rd (k := 0) rfl hS17) rfl (by exact (svs_len _).symm) rfl (by rfl) (by omega) ?_
    intro key24 c25 sp26 w28 hS27 hne30 H29
    have H29' := H29.as (L' := (((some b16), sob ES 30 ([⟨ownA key6, bs.length, c7⟩] : List SlV) ([])) :: (key6, sob E8 5 bs sp8) :: (some b, .cells #[.slice (ownA o.key) o.fs.length o.c, .slice (ownA a.key) a.fs.length a.c] 76 (0, 0)) :: (key24, sob ES 30 ((svs a.fs) ++ ([⟨ownA key6, bs.length, c7⟩] : List SlV)) sp26) :: (o.key, sob ES 30 (svs o.fs) o.sp) :: (frs 5 a.fs ++ (frs 5 o.fs ++ R)))) rfl
    clear H29
    exact hK _ _ ⟨key6, c7, sp8, b16, key24, c25, sp26, rfl, rfl, rfl, hS17, hS9, hS27, H29'⟩
  refine WalkC.look rfl (fun _ => .pointer (some ⟨b, 0, none⟩)) (fun _ _ _ => rfl) (fun q r uw _ _ _ _ => Gives.run rfl (r_nilCheck rfl) ⟨rfl, rfl⟩) ?_
  refine WalkC.look rfl (fun _ => .pointer (some ⟨b, 0, none⟩)) (fun _ _ _ => rfl) (fun q r uw _ _ _ _ => Gives.run rfl (r_fieldAddr (off' := 0) fld76_0 (by decide) (b := b) (off := 0) rfl (by omega)) ⟨rfl, rfl⟩) ?_
  refine WalkC.look rfl (fun _ => .pointer (some ⟨b, 1, none⟩)) (fun _ _ _ => rfl) (fun q r uw _ _ _ _ => Gives.run rfl (r_indexA (off' := 1) (j := 1) arr74 (b := b) (off := 0) rfl rfl (by first | rfl | omega | (simp; omega)) (by omega) (by omega)) ⟨rfl, rfl⟩) ?_
  refine WalkC.eff 3 rfl (fun r uw31 hF33 => ?_) ?_
  · skip
    obtain ⟨key6, c7, sp8, b16, key24, c25, sp26, e9, e10, e11, hS17, hS9, hS27, H32⟩ := hF33
    dsimp only [List.take, List.map, List.cons_append, List.nil_append]
    rw [e9, e10, e11]
    refine Gives.ofW0 rfl (fun Q' hK => ?_)
    refine d_store (k := 2) (v := .slice (ownA key24) (a.fs.length + 1) c25) (cs' := #[.slice (ownA o.key) o.fs.length o.c, .slice (ownA key24) (a.fs.length + 1) c25]) H32 rfl rfl rfl siz22 (by rfl) (by intro u hu; simp [Value.cells] at hu; first | (subst hu; rfl) | (rcases hu with rfl <;> rfl)) (by exact Nat.le_of_ble_eq_true rfl) (by rfl) ?_
    intro w34 H35 hC36
    have H35' := H35.as (L' := (((some b16), sob ES 30 ([⟨ownA key6, bs.length, c7⟩] : List SlV) ([])) :: (key6, sob E8 5 bs sp8) :: (some b, .cells #[.slice (ownA o.key) o.fs.length o.c, .slice (ownA key24) (a.fs.length + 1) c25] 76 (0, 0)) :: (key24, sob ES 30 ((svs a.fs) ++ ([⟨ownA key6, bs.length, c7⟩] : List SlV)) sp26) :: (o.key, sob ES 30 (svs o.fs) o.sp) :: (frs 5 a.fs ++ (frs 5 o.fs ++ R)))) rfl
    clear H35
    exact hK _ (fun _ => ⟨key6, c7, sp8, b16, key24, c25, sp26, rfl, rfl, rfl, trivial, hS17, hS9, hS27, H35'⟩)
  refine WalkC.nil ?_
  intro r37 w38 hF40
  obtain ⟨key6, c7, sp8, b16, key24, c25, sp26, e9, e10, e11, e15, hS17, hS9, hS27, H39⟩ := hF40
  dsimp only
  rw [e9, e10, e11]
  refine wnil ?_
  refine thenNormal ?_
  refine seqRegion ?_
  refine sq (r_assign (v := .nilIface) rfl) ?_
  refine wend ?_
  refine retAny ?_
  refine retG (rs := [.tmp 6]) (vs := [.nilIface]) rfl ⟨⟨rfl, rfl⟩, trivial⟩ ?_
  have hfin := ((H39.dropk 0))
  refine ⟨_, rfl, rfl, ⟨key24, c25, sp26, a.fs ++ [⟨key6, bs, c7, sp8⟩]⟩, ⟨by dsimp only; rw [svs_snoc]; exact hS27, fun x hx => ?_⟩, bss_snoc _ _, ?_⟩
  · rcases List.mem_append.1 hx with h | h
    · exact ha.each x h
    · rw [List.mem_singleton.1 h]; exact hS9
  · have := hfin.intoFs (f := (⟨key6, bs, c7, sp8⟩ : Fr)) (T := 5)
    dsimp only
    rw [svs_snoc, List.length_append, List.length_singleton]; exact this

theorem send_full_0 (b : Nat) (a o : Wy) (w : World) (fv : Value) (hG : Gl w) (hb : w.heap[b]? = some (.cells #[.slice (ownA a.key) a.fs.length a.c, .slice (ownA o.key) o.fs.length o.c] 76 (0, 0))) (hlen : 64 ≤ a.fs.length) : Calls Tryd.prog 14 [.pointer (some ⟨b, 0, none⟩), i64 ((0 : Int)), fv].toArray w (Ret fun v w' => (∃ ev, v = ev ∧ Er w.heap.size w' 5 1 ev) ∧ Ext w w') := by
  have H := Hp.start No w
  refine enter (n := 40) Tryd.func14 rfl rfl (Nat.le_of_ble_eq_true rfl) ?_
  refine seqRegion ?_
  refine sq (r_assign (v := .nilIface) rfl) ?_
  refine wend ?_
  refine seqAny ?_
  refine seqRegion ?_
  refine sq (r_move (v := i64 ((0 : Int))) rfl) ?_
  refine sq ((r_neqI (a := (0 : Int)) (b := (0 : Int)) rfl rfl).as (v' := .bool (false)) (by rfl)) ?_
  refine sq (r_move (v := .bool (false)) rfl) ?_
  refine skAny (wantedSome (d' := 9) (b := false) rfl rfl rfl) ?_
  refine skAny (wantedSome (d' := 9) (b := false) rfl rfl rfl) ?_
  refine sq (r_pickF (v := .bool (false)) rfl rfl) ?_
  refine wend ?_
  refine condFalse rfl ?_
  refine skipAny ?_
  refine thenNormal ?_
  refine seqAny ?_
  refine seqRegion ?_
  refine sq (r_move (v := .pointer (some ⟨b, 0, none⟩)) rfl) ?_
  refine sq (r_move (v := i64 ((0 : Int))) rfl) ?_
  refine sq (r_nilCheck rfl) ?_
  refine sq (r_fieldAddr (off' := 0) fld76_0 (by decide) (b := b) (off := 0) rfl (by omega)) ?_
  refine sq (r_indexA (off' := 0) (j := 0) arr74 (b := b) (off := 0) rfl rfl (by first | rfl | omega | (simp; omega)) (by omega) (by omega)) ?_
  refine sq (r_loadC (v := .slice (ownA a.key) a.fs.length a.c) one22 (H.keepE hb) (off := 0) rfl (by rfl)) ?_
  refine sq (r_lenS sli22 (a := ownA a.key) (m := a.fs.length) (c := a.c) rfl) ?_
  refine sq ((r_geqI (a := (a.fs.length : Nat)) (b := (64 : Int)) rfl rfl).as (v' := .bool (true)) (by exact congrArg Value.bool (decide_eq_true (by omega)))) ?_
  refine wend ?_
  refine condTrue rfl ?_
  refine seqRegion ?_
  refine sq (r_move (v := i64 ((0 : Int))) rfl) ?_
  refine c_call (vs := [i64 ((5 : Int)), i64 ((0 : Int))]) call34 rfl (nbad_ok (5 : Int) (0 : Int) w (Chg.gl H.chg (fun x => x) hG)) ?_
  rintro v3 w1 ⟨hEr4, hE5⟩
  have H6 := H.ext hE5
  obtain ⟨T7, x8, rfl⟩ := hEr4.iface
  refine sq (r_assign (v := .iface T7 (x8)) rfl) ?_
  refine wend ?_
  refine retAny ?_
  refine thenRet ?_
  refine retG (rs := [.tmp 6]) (vs := [.iface T7 (x8)]) rfl ⟨⟨rfl, rfl⟩, trivial⟩ ?_
  exact ⟨_, rfl, ⟨_, rfl, hEr4.mono H.chg.size⟩, H6.chg⟩

theorem send_full_1 (b : Nat) (a o : Wy) (w : World) (fv : Value) (hG : Gl w) (hb : w.heap[b]? = some (.cells #[.slice (ownA o.key) o.fs.length o.c, .slice (ownA a.key) a.fs.length a.c] 76 (0, 0))) (hlen : 64 ≤ a.fs.length) : Calls Tryd.prog 14 [.pointer (some ⟨b, 0, none⟩), i64 ((1 : Int)), fv].toArray w (Ret fun v w' => (∃ ev, v = ev ∧ Er w.heap.size w' 5 1 ev) ∧ Ext w w') := by
  have H := Hp.start No w
  refine enter (n := 40) Tryd.func14 rfl rfl (Nat.le_of_ble_eq_true rfl) ?_
  refine seqRegion ?_
  refine sq (r_assign (v := .nilIface) rfl) ?_
  refine wend ?_
  refine seqAny ?_
  refine seqRegion ?_
  refine sq (r_move (v := i64 ((1 : Int))) rfl) ?_
  refine sq ((r_neqI (a := (1 : Int)) (b := (0 : Int)) rfl rfl).as (v' := .bool (true)) (by rfl)) ?_
  refine sq (r_move (v := .bool (true)) rfl) ?_
  refine sqAny (v := i64 ((1 : Int))) (w' := w) (wantedSome (d' := 9) (b := true) rfl rfl rfl) (r_move (v := i64 ((1 : Int))) rfl) ?_
  refine sqAny (v := .bool (false)) (w' := w) (wantedSome (d' := 9) (b := true) rfl rfl rfl) ((r_neqI (a := (1 : Int)) (b := (1 : Int)) rfl rfl).as (v' := .bool (false)) (by rfl)) ?_
  refine sq (r_pickT (u := .bool (false)) rfl rfl) ?_
  refine wend ?_
  refine condFalse rfl ?_
  refine skipAny ?_
  refine thenNormal ?_
  refine seqAny ?_
  refine seqRegion ?_
  refine sq (r_move (v := .pointer (some ⟨b, 0, none⟩)) rfl) ?_
  refine sq (r_move (v := i64 ((1 : Int))) rfl) ?_
  refine sq (r_nilCheck rfl) ?_
  refine sq (r_fieldAddr (off' := 0) fld76_0 (by decide) (b := b) (off := 0) rfl (by omega)) ?_
  refine sq (r_indexA (off' := 1) (j := 1) arr74 (b := b) (off := 0) rfl rfl (by first | rfl | omega | (simp; omega)) (by omega) (by omega)) ?_
  refine sq (r_loadC (v := .slice (ownA a.key) a.fs.length a.c) one22 (H.keepE hb) (off := 1) rfl (by rfl)) ?_
  refine sq (r_lenS sli22 (a := ownA a.key) (m := a.fs.length) (c := a.c) rfl) ?_
  refine sq ((r_geqI (a := (a.fs.length : Nat)) (b := (64 : Int)) rfl rfl).as (v' := .bool (true)) (by exact congrArg Value.bool (decide_eq_true (by omega)))) ?_
  refine wend ?_
  refine condTrue rfl ?_
  refine seqRegion ?_
  refine sq (r_move (v := i64 ((1 : Int))) rfl) ?_
  refine c_call (vs := [i64 ((5 : Int)), i64 ((1 : Int))]) call34 rfl (nbad_ok (5 : Int) (1 : Int) w (Chg.gl H.chg (fun x => x) hG)) ?_
  rintro v3 w1 ⟨hEr4, hE5⟩
  have H6 := H.ext hE5
  obtain ⟨T7, x8, rfl⟩ := hEr4.iface
  refine sq (r_assign (v := .iface T7 (x8)) rfl) ?_
  refine wend ?_
  refine retAny ?_
  refine thenRet ?_
  refine retG (rs := [.tmp 6]) (vs := [.iface T7 (x8)]) rfl ⟨⟨rfl, rfl⟩, trivial⟩ ?_
  exact ⟨_, rfl, ⟨_, rfl, hEr4.mono H.chg.size⟩, H6.chg⟩

theorem send_range (b : Nat) (way : Int) (h0 : way ≠ 0) (h1 : way ≠ 1) (fv : Value) (w : World) (hG : Gl w) : Calls Tryd.prog 14 [.pointer (some ⟨b, 0, none⟩), i64 (way), fv].toArray w (Ret fun v w' => (∃ ev, v = ev ∧ Er w.heap.size w' 1 1 ev) ∧ Ext w w') := by
  have H := Hp.start No w
  refine enter (n := 40) Tryd.func14 rfl rfl (Nat.le_of_ble_eq_true rfl) ?_
  refine seqRegion ?_
  refine sq (r_assign (v := .nilIface) rfl) ?_
  refine wend ?_
  refine seqAny ?_
  refine seqRegion ?_
  refine sq (r_move (v := i64 (way)) rfl) ?_
  refine sq ((r_neqI (a := way) (b := (0 : Int)) rfl rfl).as (v' := .bool (true)) (by simp [h0])) ?_
  refine sq (r_move (v := .bool (true)) rfl) ?_
  refine sqAny (v := i64 (way)) (w' := w) (wantedSome (d' := 9) (b := true) rfl rfl rfl) (r_move (v := i64 (way)) rfl) ?_
  refine sqAny (v := .bool (true)) (w' := w) (wantedSome (d' := 9) (b := true) rfl rfl rfl) ((r_neqI (a := way) (b := (1 : Int)) rfl rfl).as (v' := .bool (true)) (by simp [h1])) ?_
  refine sq (r_pickT (u := .bool (true)) rfl rfl) ?_
  refine wend ?_
  refine condTrue rfl ?_
  refine seqRegion ?_
  refine sq (r_move (v := i64 (way)) rfl) ?_
  refine c_call (vs := [i64 ((1 : Int)), i64 (way)]) call34 rfl (nbad_ok (1 : Int) way w (Chg.gl H.chg (fun x => x) hG)) ?_
  rintro v3 w1 ⟨hEr4, hE5⟩
  have H6 := H.ext hE5
  obtain ⟨T7, x8, rfl⟩ := hEr4.iface
  refine sq (r_assign (v := .iface T7 (x8)) rfl) ?_
  refine wend ?_
  refine retAny ?_
  refine thenRet ?_
  refine retG (rs := [.tmp 6]) (vs := [.iface T7 (x8)]) rfl ⟨⟨rfl, rfl⟩, trivial⟩ ?_
  exact ⟨_, rfl, ⟨_, rfl, hEr4.mono H.chg.size⟩, H6.chg⟩
end Go.Proofs.YtpmmhpgfbfehmaaDoor.Nt
