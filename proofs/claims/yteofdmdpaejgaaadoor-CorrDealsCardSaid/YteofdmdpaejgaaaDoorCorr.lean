/- The walks of the stocks. -/
import Derived.Test.YteofdmdpaejgaaaDoorFault
import Derived.Test.YteofdmdpaejgaaaDoorFaultC
import Derived.Test.YteofdmdpaejgaaaDoorTapeW
import Derived.Test.YteofdmdpaejgaaaDoorCorrSpec
import Derived.Test.YteofdmdpaejgaaaDoorVcNet
import Derived.Test.YteofdmdpaejgaaaDoorVcChain
import Derived.Test.YteofdmdpaejgaaaDoorVcAppN
import Derived.Test.YteofdmdpaejgaaaDoorVcJoin
import Derived.Test.YteofdmdpaejgaaaDoorProg
namespace Go.Proofs.YteofdmdpaejgaaaDoor.Co
open Go Go.Proofs.YteofdmdpaejgaaaDoor.Vc Go.Proofs.YteofdmdpaejgaaaDoor.Er
set_option linter.unusedVariables false
theorem agg136 : isAgg' Tryd.prog 136 = true := by kernel_rfl
theorem agg34 : isAgg' Tryd.prog 34 = true := by kernel_rfl
theorem agg41 : isAgg' Tryd.prog 41 = true := by kernel_rfl
theorem arr136 : arr Tryd.prog 136 = some (5, 1) := by kernel_rfl
theorem byt34 : byt Tryd.prog 34 = some 24 := by kernel_rfl
theorem byt41 : byt Tryd.prog 41 = some 40 := by kernel_rfl
theorem call63 : callable Tryd.prog 63 = true := by kernel_rfl
theorem call67 : callable Tryd.prog 67 = true := by kernel_rfl
theorem call68 : callable Tryd.prog 68 = true := by kernel_rfl
theorem call97 : callable Tryd.prog 97 = true := by kernel_rfl
theorem fits34 : Fits Tryd.prog 34 ETr := fitsTr (by kernel_rfl) (by kernel_rfl)
theorem fits41 : Fits Tryd.prog 41 EOt := fitsOt (by kernel_rfl) (by kernel_rfl)
theorem fld131_0 : fld Tryd.prog 131 0 = some (0, 1, 49) := by kernel_rfl
theorem fld133_0 : fld Tryd.prog 133 0 = some (0, 1, 50) := by kernel_rfl
theorem fld135_0 : fld Tryd.prog 135 0 = some (0, 1, 131) := by kernel_rfl
theorem fld135_1 : fld Tryd.prog 135 1 = some (1, 1, 131) := by kernel_rfl
theorem fld135_2 : fld Tryd.prog 135 2 = some (2, 1, 133) := by kernel_rfl
theorem mixed : Tryd.prog.follows .mixedOrders = true := by kernel_rfl
theorem one49 : isOne Tryd.prog 49 = true := by kernel_rfl
theorem one50 : isOne Tryd.prog 50 = true := by kernel_rfl
theorem siz136 : siz Tryd.prog 136 = some 5 := by kernel_rfl
theorem siz32 : siz Tryd.prog 32 = some 1 := by kernel_rfl
theorem siz34 : siz Tryd.prog 34 = some 3 := by kernel_rfl
theorem siz41 : siz Tryd.prog 41 = some 5 := by kernel_rfl
theorem siz49 : siz Tryd.prog 49 = some 1 := by kernel_rfl
theorem siz50 : siz Tryd.prog 50 = some 1 := by kernel_rfl
theorem sli49 : sli Tryd.prog 49 = some (34, 3) := by kernel_rfl
theorem sli50 : sli Tryd.prog 50 = some (41, 5) := by kernel_rfl
theorem und49 : Tryd.prog.underlying 49 = some (.slice 34) := by kernel_rfl
theorem und50 : Tryd.prog.underlying 50 = some (.slice 41) := by kernel_rfl
theorem und57 : Tryd.prog.underlying 57 = some (.int .i64) := by kernel_rfl
theorem zer136 : zer Tryd.prog 136 = some (.agg (List.replicate 5 (.int .u64 0)).toArray) := by kernel_rfl
theorem zer34 : zer Tryd.prog 34 = some (.agg #[.int .u64 0, .int .u64 0, .int .u64 0]) := by kernel_rfl
theorem zer41 : zer Tryd.prog 41 = some (.agg #[.int .u64 0, .int .u64 0, .int .u64 0, .int .u64 0, .bool false]) := by kernel_rfl
theorem clonetr_ok (bs : List Tr) (hroom : bs.length * 24 ≤ 140737488355328) (a0 : Option Addr) (n0 c0 : Nat) (hn0 : n0 = bs.length) (w : World) (hW : Rd ETr w a0 bs) : Calls Tryd.prog 69 [.slice a0 n0 c0].toArray w (Ret fun v w' => SlRes ETr 34 bs w v w' ∧ Ext w w') := by
  subst hn0
  have H := Hp.start No w
  refine enter (n := 8) Tryd.func69 rfl rfl (Nat.le_of_ble_eq_true rfl) ?_
  refine seqRegion ?_
  refine sq (r_assign (v := .slice none 0 0) rfl) ?_
  refine wend ?_
  refine seqAny ?_
  refine seqRegion ?_
  refine sq (r_move (v := .slice a0 bs.length c0) rfl) ?_
  refine sq (r_eqlSN und49 rfl rfl) ?_
  refine wend ?_
  refine condBool (a0.isNone) rfl (fun c4 => ?_) (fun c4 => ?_)
  · skip
    refine seqRegion ?_
    refine sq (r_assign (v := .slice none 0 0) rfl) ?_
    refine wend ?_
    refine retAny ?_
    refine thenRet ?_
    refine retG (rs := [.tmp 2]) (vs := [.slice none 0 0]) rfl ⟨⟨rfl, rfl⟩, trivial⟩ ?_
    obtain rfl := nilOfRd hW c4
    exact ⟨_, rfl, ⟨none, 0, [], rfl, Sl.none, fun _ h => by cases h⟩, H.chg⟩
  · skip
    refine skipAny ?_
    refine thenNormal ?_
    refine seqRegion ?_
    refine q_buildSlice (E := ETr) (l := ([] : List Tr)) H sli49 zer34 (Nat.le_of_ble_eq_true rfl) (ps := []) rfl (by exact fillAll rfl rfl) rfl ?_
    intro b1 w3 hS2 H4 hE5
    refine sq (r_move (v := .slice a0 bs.length c0) rfl) ?_
    refine q_append (E := ETr) (k := 0) (l := ([] : List Tr)) (l2 := bs) H4 rfl hS2 sli49 zer34 rfl byt34 (hW.ext H4.chg) rfl (by rfl) rfl (by rfl) (by omega) ?_
    intro key6 c7 sp8 w10 hS9 hne12 H11
    have H11' := H11.as (L' := [(key6, sob ETr 34 (([] : List Tr) ++ bs) sp8)]) rfl
    clear H11
    have e13 : ([] : List Tr) ++ bs = bs := by rw [List.nil_append]
    have hS14 := hS9
    rw [e13] at hS14
    have H15 := H11'.as (L' := [(key6, sob ETr 34 bs sp8)]) (by rw [e13])
    refine sq (r_assign (v := .slice (ownA key6) (0 + bs.length) c7) rfl) ?_
    refine wend ?_
    refine retAny ?_
    refine retG (rs := [.tmp 2]) (vs := [.slice (ownA key6) (0 + bs.length) c7]) rfl ⟨⟨rfl, rfl⟩, trivial⟩ ?_
    exact ⟨_, rfl, H15.resN (k := 0) rfl hS14 (Nat.zero_add _), H15.chg⟩

theorem cloneot_ok (bs : List Ot) (hroom : bs.length * 40 ≤ 140737488355328) (a0 : Option Addr) (n0 c0 : Nat) (hn0 : n0 = bs.length) (w : World) (hW : Rd EOt w a0 bs) : Calls Tryd.prog 70 [.slice a0 n0 c0].toArray w (Ret fun v w' => SlRes EOt 41 bs w v w' ∧ Ext w w') := by
  subst hn0
  have H := Hp.start No w
  refine enter (n := 8) Tryd.func70 rfl rfl (Nat.le_of_ble_eq_true rfl) ?_
  refine seqRegion ?_
  refine sq (r_assign (v := .slice none 0 0) rfl) ?_
  refine wend ?_
  refine seqAny ?_
  refine seqRegion ?_
  refine sq (r_move (v := .slice a0 bs.length c0) rfl) ?_
  refine sq (r_eqlSN und50 rfl rfl) ?_
  refine wend ?_
  refine condBool (a0.isNone) rfl (fun c4 => ?_) (fun c4 => ?_)
  · skip
    refine seqRegion ?_
    refine sq (r_assign (v := .slice none 0 0) rfl) ?_
    refine wend ?_
    refine retAny ?_
    refine thenRet ?_
    refine retG (rs := [.tmp 2]) (vs := [.slice none 0 0]) rfl ⟨⟨rfl, rfl⟩, trivial⟩ ?_
    obtain rfl := nilOfRd hW c4
    exact ⟨_, rfl, ⟨none, 0, [], rfl, Sl.none, fun _ h => by cases h⟩, H.chg⟩
  · skip
    refine skipAny ?_
    refine thenNormal ?_
    refine seqRegion ?_
    refine q_buildSlice (E := EOt) (l := ([] : List Ot)) H sli50 zer41 (Nat.le_of_ble_eq_true rfl) (ps := []) rfl (by exact fillAll rfl rfl) rfl ?_
    intro b1 w3 hS2 H4 hE5
    refine sq (r_move (v := .slice a0 bs.length c0) rfl) ?_
    refine q_append (E := EOt) (k := 0) (l := ([] : List Ot)) (l2 := bs) H4 rfl hS2 sli50 zer41 rfl byt41 (hW.ext H4.chg) rfl (by rfl) rfl (by rfl) (by omega) ?_
    intro key6 c7 sp8 w10 hS9 hne12 H11
    have H11' := H11.as (L' := [(key6, sob EOt 41 (([] : List Ot) ++ bs) sp8)]) rfl
    clear H11
    have e13 : ([] : List Ot) ++ bs = bs := by rw [List.nil_append]
    have hS14 := hS9
    rw [e13] at hS14
    have H15 := H11'.as (L' := [(key6, sob EOt 41 bs sp8)]) (by rw [e13])
    refine sq (r_assign (v := .slice (ownA key6) (0 + bs.length) c7) rfl) ?_
    refine wend ?_
    refine retAny ?_
    refine retG (rs := [.tmp 2]) (vs := [.slice (ownA key6) (0 + bs.length) c7]) rfl ⟨⟨rfl, rfl⟩, trivial⟩ ?_
    exact ⟨_, rfl, H15.resN (k := 0) rfl hS14 (Nat.zero_add _), H15.chg⟩

theorem five_ok (b : Nat) (key : Option Nat) (c : Nat) (sp : List Value) (ws : List (BitVec 64)) (hSw : Sl E64 key ws c sp) (hlen : ws.length ≤ 140737488355328) (u : Nat) (hu : u + 5 ≤ ws.length) (R : List (Option Nat × Obj)) (w₀ w : World) (H : Hp No w₀ w ((some b, .cells #[.slice (ownA key) ws.length c, .pointer none, i64 ((ws.length : Nat)), i64 ((u : Nat))] 141 (0, 0)) :: (key, sob E64 32 ws sp) :: R)) : Calls Tryd.prog 65 [.pointer (some ⟨b, 0, none⟩)].toArray w (Ret fun v w' => v = .agg (cel E64 [ws.getD u 0#64, ws.getD (u + 1) 0#64, ws.getD (u + 2) 0#64, ws.getD (u + 3) 0#64, ws.getD (u + 4) 0#64]).toArray ∧ Hp No w₀ w' ((some b, .cells #[.slice (ownA key) ws.length c, .pointer none, i64 ((ws.length : Nat)), i64 ((u + 5 : Nat))] 141 (0, 0)) :: (key, sob E64 32 ws sp) :: R)) := by
  skip
  refine enter (n := 17) Tryd.func65 rfl rfl (Nat.le_of_ble_eq_true rfl) ?_
  refine seqRegion ?_
  refine q_alloc (o := .cells (cel E64 (List.replicate 5 0#64)).toArray 136 (0, 0)) H zer136 (by kernel_rfl) ?_
  intro b1 w2 hb1 H3 hE4
  refine wend ?_
  refine seqRegion ?_
  refine q_alloc (o := .cells (cel E64 (List.replicate 5 0#64)).toArray 136 (0, 0)) H3 zer136 (by kernel_rfl) ?_
  intro b5 w6 hb5 H7 hE8
  refine wend ?_
  refine seqAny ?_
  refine seqRegion ?_
  refine sq (r_move (v := i64 ((0 : Int))) rfl) ?_
  refine wend ?_
  refine blockAny ?_
  refine loopAny (σ := Nat) (fun q => [(0, .pointer (some ⟨b, 0, none⟩)), (2, .pointer (some ⟨b1, 0, none⟩)), (3, .pointer (some ⟨b5, 0, none⟩)), (5, i64 ((q : Nat)))]) (fun q w' => q ≤ 5 ∧ Hp No w₀ w' ((some b5, .cells (cel E64 (fiveL ws u q)).toArray 136 (0, 0)) :: (some b1, .cells (cel E64 (List.replicate 5 0#64)).toArray 136 (0, 0)) :: (some b, .cells #[.slice (ownA key) ws.length c, .pointer none, i64 ((ws.length : Nat)), i64 ((u + q : Nat))] 141 (0, 0)) :: (key, sob E64 32 ws sp) :: R)) (fun q => 5 - q) (0) ?_ ?_ ?_
  · exact ⟨rfl, rfl, rfl, rfl, trivial⟩
  · exact ⟨by omega, H7⟩
  rintro q ρ w9 ⟨hq, HL⟩
  refine seqRegion ?_
  refine sq (r_lssI (a := (q : Nat)) (b := (5 : Int)) rfl rfl) ?_
  refine wend ?_
  refine seqAny ?_
  refine condProp (((q : Nat) : Int) < (5 : Int)) rfl (fun c6 => ?_) (fun c6 => ?_)
  · skip
    have c6 : q < 5 := by omega
    refine skipAny ?_
    refine thenNormal ?_
    refine seqAny ?_
    refine blockAny ?_
    refine seqRegion ?_
    refine sq (r_move (v := i64 ((q : Nat))) rfl) ?_
    refine sq (r_assign (v := i64 ((q : Nat))) rfl) ?_
    refine wend ?_
    refine oneRegion ?_
    refine sq (r_move (v := i64 ((q : Nat))) rfl) ?_
    refine sq (r_move (v := .pointer (some ⟨b, 0, none⟩)) rfl) ?_
    refine c_call (vs := [.pointer (some ⟨b, 0, none⟩)]) call97 rfl (next_hit b c (u + q) (ownA key) ws w9 (HL.get (k := 2) rfl) (hpRdSt HL (i := 2) (j := 3) rfl rfl rfl hSw) (by omega) (by omega)) ?_
    rintro _ w11 ⟨rfl, hC13, hn14⟩
    have H15 := (HL.set (k := 2) rfl hC13 hn14).as (L' := ((some b5, .cells (cel E64 (fiveL ws u q)).toArray 136 (0, 0)) :: (some b1, .cells (cel E64 (List.replicate 5 0#64)).toArray 136 (0, 0)) :: (some b, .cells #[.slice (ownA key) ws.length c, .pointer none, i64 ((ws.length : Nat)), i64 ((u + q + 1 : Nat))] 141 (0, 0)) :: (key, sob E64 32 ws sp) :: R)) rfl
    refine sq (r_move (v := .tuple #[u64 (ws.getD (u + q) 0#64), .nilIface]) rfl) ?_
    refine sq (r_extract (vs := #[u64 (ws.getD (u + q) 0#64), .nilIface]) rfl rfl) ?_
    refine sq (r_extract (vs := #[u64 (ws.getD (u + q) 0#64), .nilIface]) rfl rfl) ?_
    refine sq (r_indexA (off' := q) (j := q) arr136 (b := b5) (off := 0) rfl rfl (by first | rfl | omega | (simp; omega)) (by omega) (by omega)) ?_
    refine d_store (k := 0) (v := u64 (ws.getD (u + q) 0#64)) (cs' := (cel E64 ((fiveL ws u q).set q (ws.getD (u + q) 0#64))).toArray) H15 rfl rfl rfl siz32 (by rfl) (by exact E64.one _) (by rw [List.size_toArray, cel_length]; show _ ≤ _ * 1; rw [fiveL_len]; omega) (by exact put1 (E := E64) rfl _ _ _) ?_
    intro w16 H17 hC18
    have H17' := H17.as (L' := ((some b5, .cells (cel E64 ((fiveL ws u q).set q (ws.getD (u + q) 0#64))).toArray 136 (0, 0)) :: (some b1, .cells (cel E64 (List.replicate 5 0#64)).toArray 136 (0, 0)) :: (some b, .cells #[.slice (ownA key) ws.length c, .pointer none, i64 ((ws.length : Nat)), i64 ((u + q + 1 : Nat))] 141 (0, 0)) :: (key, sob E64 32 ws sp) :: R)) rfl
    clear H17
    refine wnil ?_
    refine blockNormal ?_
    refine thenNormal ?_
    refine oneRegion ?_
    refine sq (r_addI (a := (q : Nat)) (b := (1 : Int)) rfl rfl (by omega)) ?_
    refine sq (r_move (v := i64 ((q : Nat) + (1 : Int))) rfl) ?_
    refine wnil ?_
    refine thenNormal ?_
    rw [five_set (ws := ws) (u := u) c6] at H17'
    exact ⟨q + 1, _, rfl, ⟨rfl, rfl, rfl, rfl, trivial⟩, ⟨by omega, H17'⟩, by show 5 - (q + 1) < 5 - q; omega⟩
  · skip
    obtain rfl : q = 5 := by omega
    refine exitAny ?_
    refine thenExit ?_
    refine thenExit ?_
    refine blockHere ?_
    refine thenNormal ?_
    refine seqRegion ?_
    refine sq ((r_loadA (cs' := (cel E64 (fiveL ws u 5)).toArray) agg136 siz136 (HL.get (k := 0) rfl) (off := 0) rfl (by rw [List.size_toArray, cel_length, fiveL_len]; exact Nat.le_refl _) (by exact ext_all (by rw [cel_length, fiveL_len]; rfl))).as (v' := .agg (cel E64 [ws.getD u 0#64, ws.getD (u + 1) 0#64, ws.getD (u + 2) 0#64, ws.getD (u + 3) 0#64, ws.getD (u + 4) 0#64]).toArray) (by rfl)) ?_
    refine d_store (k := 1) (v := .agg (cel E64 [ws.getD u 0#64, ws.getD (u + 1) 0#64, ws.getD (u + 2) 0#64, ws.getD (u + 3) 0#64, ws.getD (u + 4) 0#64]).toArray) (cs' := (cel E64 ([ws.getD u 0#64, ws.getD (u + 1) 0#64, ws.getD (u + 2) 0#64, ws.getD (u + 3) 0#64, ws.getD (u + 4) 0#64])).toArray) HL rfl rfl rfl siz136 (by exact celSize (by first | rfl | (show _ * 1 = _; omega))) (by exact celOne _) (by rw [List.size_toArray, cel_length]; show _ ≤ _ * 1; first | omega | (simp only [List.length_set]; omega) | exact Nat.le_of_ble_eq_true rfl | (simp <;> omega)) (by exact putAll (by first | rfl | omega | (simp <;> omega))) ?_
    intro w19 H20 hC21
    have H20' := H20.as (L' := ((some b5, .cells (cel E64 (fiveL ws u 5)).toArray 136 (0, 0)) :: (some b1, .cells (cel E64 ([ws.getD u 0#64, ws.getD (u + 1) 0#64, ws.getD (u + 2) 0#64, ws.getD (u + 3) 0#64, ws.getD (u + 4) 0#64])).toArray 136 (0, 0)) :: (some b, .cells #[.slice (ownA key) ws.length c, .pointer none, i64 ((ws.length : Nat)), i64 ((u + 5 : Nat))] 141 (0, 0)) :: (key, sob E64 32 ws sp) :: R)) rfl
    clear H20
    refine wend ?_
    refine retAny ?_
    refine retG (rs := [.cell 2 136]) (vs := [.agg (cel E64 ([ws.getD u 0#64, ws.getD (u + 1) 0#64, ws.getD (u + 2) 0#64, ws.getD (u + 3) 0#64, ws.getD (u + 4) 0#64])).toArray]) rfl ⟨r_loadA (cs' := (cel E64 ([ws.getD u 0#64, ws.getD (u + 1) 0#64, ws.getD (u + 2) 0#64, ws.getD (u + 3) 0#64, ws.getD (u + 4) 0#64])).toArray) agg136 siz136 (H20'.get (k := 1) rfl) (off := 0) rfl (by exact Nat.le_of_ble_eq_true rfl) (by exact ext_all rfl), trivial⟩ ?_
    exact ⟨_, rfl, rfl, ((H20'.dropk 1).dropk 0)⟩

theorem next0_hit (b : Nat) (s : Sk) (hs : s.ok) (R : List (Option Nat × Obj)) (w₀ w : World) (H : Hp No w₀ w (skR 34 41 135 b s ++ R)) (kd : Int) (hl : 0 < s.t.l.length) : Calls Tryd.prog 67 [.pointer (some ⟨b, 0, none⟩), i64 (kd)].toArray w (Ret fun v w' => v = .tuple #[.agg #[u64 ((s.t.l).getD 0 tr0).a, u64 ((s.t.l).getD 0 tr0).b, u64 ((s.t.l).getD 0 tr0).c], .nilIface] ∧ ∃ s' : Sk, Hp No w₀ w' (skR 34 41 135 b s' ++ R) ∧ s'.ok ∧ s'.t.l = s.t.l.drop 1 ∧ s'.b = s.b ∧ s'.o = s.o) := by
  have hct := hs.t.cap
  have hcb := hs.b.cap
  have hco := hs.o.cap
  have H := H.as (L' := ((some b, .cells #[.slice s.t.a s.t.l.length s.t.c, .slice s.b.a s.b.l.length s.b.c, .slice s.o.a s.o.l.length s.o.c] 135 (0, 0)) :: (s.t.key, sobP ETr 34 s.t.pre s.t.l s.t.sp) :: (s.b.key, sobP ETr 34 s.b.pre s.b.l s.b.sp) :: (s.o.key, sobP EOt 41 s.o.pre s.o.l s.o.sp) :: R)) rfl
  refine enter (n := 33) Tryd.func67 rfl rfl (Nat.le_of_ble_eq_true rfl) ?_
  refine seqRegion ?_
  refine q_alloc (o := .cells #[u64 (0#64), u64 (0#64), u64 (0#64)] 34 (0, 0)) H zer34 (by kernel_rfl) ?_
  intro b1 w2 hb1 H3 hE4
  refine sq (r_assign (v := .nilIface) rfl) ?_
  refine wend ?_
  refine seqRegion ?_
  refine q_alloc (o := .cells #[u64 (0#64), u64 (0#64), u64 (0#64)] 34 (0, 0)) H3 zer34 (by kernel_rfl) ?_
  intro b5 w6 hb5 H7 hE8
  refine wend ?_
  refine seqAny ?_
  refine seqRegion ?_
  refine sq (r_move (v := .pointer (some ⟨b, 0, none⟩)) rfl) ?_
  refine sq (r_nilCheck rfl) ?_
  refine sq (r_fieldAddr (off' := 0) fld131_0 (by decide) (b := b) (off := 0) rfl (by omega)) ?_
  refine sq (r_loadC (v := .slice s.t.a s.t.l.length s.t.c) one49 (H7.get (k := 2) rfl) (off := 0) rfl (by rfl)) ?_
  refine sq (r_lenS sli49 (a := s.t.a) (m := s.t.l.length) (c := s.t.c) rfl) ?_
  refine sq ((r_eqlI (a := (s.t.l.length : Nat)) (b := (0 : Int)) rfl rfl).as (v' := .bool (false)) (by exact congrArg Value.bool (decide_eq_false (by omega)))) ?_
  refine wend ?_
  refine condFalse rfl ?_
  refine skipAny ?_
  refine thenNormal ?_
  refine seqRegion ?_
  refine sq (r_move (v := .pointer (some ⟨b, 0, none⟩)) rfl) ?_
  refine sq (r_nilCheck rfl) ?_
  refine sq (r_fieldAddr (off' := 0) fld131_0 (by decide) (b := b) (off := 0) rfl (by omega)) ?_
  refine sq (r_loadC (v := .slice s.t.a s.t.l.length s.t.c) one49 (H7.get (k := 2) rfl) (off := 0) rfl (by rfl)) ?_
  refine sq (r_idxS (E := ETr) (l := s.t.l) (j := 0) sli49 (H7.rdP (k := 3) rfl hs.t) rfl rfl (by first | rfl | omega | (simp; omega)) (by rfl) (by omega)) ?_
  refine sq (((r_ldS (E := ETr) (l := s.t.l) (j := 0) (v := (s.t.l).getD 0 tr0) fits34 (H7.rdP (k := 3) rfl hs.t) rfl rfl (at_getD (by omega))).as (v' := .agg #[u64 (((s.t.l).getD 0 tr0).a), u64 (((s.t.l).getD 0 tr0).b), u64 (((s.t.l).getD 0 tr0).c)]) rfl).as (v' := .agg #[u64 ((s.t.l).getD 0 tr0).a, u64 ((s.t.l).getD 0 tr0).b, u64 ((s.t.l).getD 0 tr0).c]) (by rfl)) ?_
  refine q_alloc (o := .cells #[u64 (0#64), u64 (0#64), u64 (0#64)] 34 (0, 0)) H7 zer34 (by kernel_rfl) ?_
  intro b9 w10 hb9 H11 hE12
  refine d_store (k := 0) (v := .agg #[u64 ((s.t.l).getD 0 tr0).a, u64 ((s.t.l).getD 0 tr0).b, u64 ((s.t.l).getD 0 tr0).c]) (cs' := #[u64 (((s.t.l).getD 0 tr0).a), u64 (((s.t.l).getD 0 tr0).b), u64 (((s.t.l).getD 0 tr0).c)]) H11 rfl rfl rfl siz34 (by rfl) (by intro u hu; simp [Value.cells] at hu; first | (subst hu; rfl) | (rcases hu with rfl | rfl | rfl <;> rfl)) (by exact Nat.le_of_ble_eq_true rfl) (by rfl) ?_
  intro w13 H14 hC15
  have H14' := H14.as (L' := ((some b9, .cells #[u64 (((s.t.l).getD 0 tr0).a), u64 (((s.t.l).getD 0 tr0).b), u64 (((s.t.l).getD 0 tr0).c)] 34 (0, 0)) :: (some b5, .cells #[u64 (0#64), u64 (0#64), u64 (0#64)] 34 (0, 0)) :: (some b1, .cells #[u64 (0#64), u64 (0#64), u64 (0#64)] 34 (0, 0)) :: (some b, .cells #[.slice s.t.a s.t.l.length s.t.c, .slice s.b.a s.b.l.length s.b.c, .slice s.o.a s.o.l.length s.o.c] 135 (0, 0)) :: (s.t.key, sobP ETr 34 s.t.pre s.t.l s.t.sp) :: (s.b.key, sobP ETr 34 s.b.pre s.b.l s.b.sp) :: (s.o.key, sobP EOt 41 s.o.pre s.o.l s.o.sp) :: R)) rfl
  clear H14
  refine wend ?_
  refine seqRegion ?_
  refine sq (r_move (v := .pointer (some ⟨b, 0, none⟩)) rfl) ?_
  refine sq (r_move (v := .pointer (some ⟨b, 0, none⟩)) rfl) ?_
  refine sq (r_nilCheck rfl) ?_
  refine sq (r_fieldAddr (off' := 0) fld131_0 (by decide) (b := b) (off := 0) rfl (by omega)) ?_
  refine sq (r_loadC (v := .slice s.t.a s.t.l.length s.t.c) one49 (H14'.get (k := 3) rfl) (off := 0) rfl (by rfl)) ?_
  refine sq ((r_sliceS (l := 1) (h := s.t.l.length) sli49 rfl (.inl ⟨_, _, _, rfl, rfl, by first | rfl | omega | (simp; omega)⟩) (.inr ⟨rfl, rfl⟩) (by omega) (by omega)).as (v' := .slice (if s.t.c = 1 then s.t.a else adr s.t.a (1 * 3)) (s.t.l.length - 1) (s.t.c - 1)) (by first | rfl | (congr 1; omega) | (simp; omega) | simp)) ?_
  refine sq (r_nilCheck rfl) ?_
  refine sq (r_fieldAddr (off' := 0) fld131_0 (by decide) (b := b) (off := 0) rfl (by omega)) ?_
  refine d_store (k := 3) (v := .slice (if s.t.c = 1 then s.t.a else adr s.t.a (1 * 3)) (s.t.l.length - 1) (s.t.c - 1)) (cs' := #[.slice (if s.t.c = 1 then s.t.a else adr s.t.a (1 * 3)) (s.t.l.length - 1) (s.t.c - 1), .slice s.b.a s.b.l.length s.b.c, .slice s.o.a s.o.l.length s.o.c]) H14' rfl rfl rfl siz49 (by rfl) (by intro u hu; simp [Value.cells] at hu; first | (subst hu; rfl) | (rcases hu with rfl <;> rfl)) (by exact Nat.le_of_ble_eq_true rfl) (by rfl) ?_
  intro w16 H17 hC18
  have H17' := H17.as (L' := ((some b9, .cells #[u64 (((s.t.l).getD 0 tr0).a), u64 (((s.t.l).getD 0 tr0).b), u64 (((s.t.l).getD 0 tr0).c)] 34 (0, 0)) :: (some b5, .cells #[u64 (0#64), u64 (0#64), u64 (0#64)] 34 (0, 0)) :: (some b1, .cells #[u64 (0#64), u64 (0#64), u64 (0#64)] 34 (0, 0)) :: (some b, .cells #[.slice (if s.t.c = 1 then s.t.a else adr s.t.a (1 * 3)) (s.t.l.length - 1) (s.t.c - 1), .slice s.b.a s.b.l.length s.b.c, .slice s.o.a s.o.l.length s.o.c] 135 (0, 0)) :: (s.t.key, sobP ETr 34 s.t.pre s.t.l s.t.sp) :: (s.b.key, sobP ETr 34 s.b.pre s.b.l s.b.sp) :: (s.o.key, sobP EOt 41 s.o.pre s.o.l s.o.sp) :: R)) rfl
  clear H17
  refine wend ?_
  refine seqRegion ?_
  refine sq (r_loadA (cs' := #[u64 (((s.t.l).getD 0 tr0).a), u64 (((s.t.l).getD 0 tr0).b), u64 (((s.t.l).getD 0 tr0).c)]) agg34 siz34 (H17'.get (k := 0) rfl) (off := 0) rfl (by exact Nat.le_of_ble_eq_true rfl) (by rfl)) ?_
  refine d_store (k := 2) (v := .agg #[u64 (((s.t.l).getD 0 tr0).a), u64 (((s.t.l).getD 0 tr0).b), u64 (((s.t.l).getD 0 tr0).c)]) (cs' := #[u64 (((s.t.l).getD 0 tr0).a), u64 (((s.t.l).getD 0 tr0).b), u64 (((s.t.l).getD 0 tr0).c)]) H17' rfl rfl rfl siz34 (by rfl) (by intro u hu; simp [Value.cells] at hu; first | (subst hu; rfl) | (rcases hu with rfl | rfl | rfl <;> rfl)) (by exact Nat.le_of_ble_eq_true rfl) (by rfl) ?_
  intro w19 H20 hC21
  have H20' := H20.as (L' := ((some b9, .cells #[u64 (((s.t.l).getD 0 tr0).a), u64 (((s.t.l).getD 0 tr0).b), u64 (((s.t.l).getD 0 tr0).c)] 34 (0, 0)) :: (some b5, .cells #[u64 (0#64), u64 (0#64), u64 (0#64)] 34 (0, 0)) :: (some b1, .cells #[u64 (((s.t.l).getD 0 tr0).a), u64 (((s.t.l).getD 0 tr0).b), u64 (((s.t.l).getD 0 tr0).c)] 34 (0, 0)) :: (some b, .cells #[.slice (if s.t.c = 1 then s.t.a else adr s.t.a (1 * 3)) (s.t.l.length - 1) (s.t.c - 1), .slice s.b.a s.b.l.length s.b.c, .slice s.o.a s.o.l.length s.o.c] 135 (0, 0)) :: (s.t.key, sobP ETr 34 s.t.pre s.t.l s.t.sp) :: (s.b.key, sobP ETr 34 s.b.pre s.b.l s.b.sp) :: (s.o.key, sobP EOt 41 s.o.pre s.o.l s.o.sp) :: R)) rfl
  clear H20
  refine sq (r_assign (v := .nilIface) rfl) ?_
  refine wend ?_
  refine retAny ?_
  refine retG (rs := [.cell 4 34, .tmp 5]) (vs := [.agg #[u64 (((s.t.l).getD 0 tr0).a), u64 (((s.t.l).getD 0 tr0).b), u64 (((s.t.l).getD 0 tr0).c)], .nilIface]) rfl ⟨r_loadA (cs' := #[u64 (((s.t.l).getD 0 tr0).a), u64 (((s.t.l).getD 0 tr0).b), u64 (((s.t.l).getD 0 tr0).c)]) agg34 siz34 (H20'.get (k := 2) rfl) (off := 0) rfl (by exact Nat.le_of_ble_eq_true rfl) (by rfl), ⟨rfl, rfl⟩, trivial⟩ ?_
  refine ⟨_, rfl, rfl, { s with t := s.t.cut ETr }, ?_, ⟨Cp.cut_ok hs.t (by omega), hs.b, hs.o⟩, rfl, rfl, rfl⟩
  unfold skR Sk.ob
  dsimp only
  rw [Cp.cut_row (E := ETr) (by omega)]
  unfold Cp.cut
  dsimp only
  rw [List.length_drop]
  exact (((H20'.dropk 2).dropk 1).dropk 0)

theorem next0_end (b : Nat) (s : Sk) (w : World) (hb : w.heap[b]? = some (s.ob 135)) (hG : Gl w) (kd : Int) (hl : s.t.l.length = 0) : Calls Tryd.prog 67 [.pointer (some ⟨b, 0, none⟩), i64 (kd)].toArray w (Ret fun v w' => (∃ ev, v = .tuple #[.agg #[u64 (0#64), u64 (0#64), u64 (0#64)], ev] ∧ Er w.heap.size w' 80 1 ev) ∧ Ext w w') := by
  have H := Hp.start No w
  unfold Sk.ob at hb
  refine enter (n := 33) Tryd.func67 rfl rfl (Nat.le_of_ble_eq_true rfl) ?_
  refine seqRegion ?_
  refine q_alloc (o := .cells #[u64 (0#64), u64 (0#64), u64 (0#64)] 34 (0, 0)) H zer34 (by kernel_rfl) ?_
  intro b1 w2 hb1 H3 hE4
  refine sq (r_assign (v := .nilIface) rfl) ?_
  refine wend ?_
  refine seqRegion ?_
  refine q_alloc (o := .cells #[u64 (0#64), u64 (0#64), u64 (0#64)] 34 (0, 0)) H3 zer34 (by kernel_rfl) ?_
  intro b5 w6 hb5 H7 hE8
  refine wend ?_
  refine seqAny ?_
  refine seqRegion ?_
  refine sq (r_move (v := .pointer (some ⟨b, 0, none⟩)) rfl) ?_
  refine sq (r_nilCheck rfl) ?_
  refine sq (r_fieldAddr (off' := 0) fld131_0 (by decide) (b := b) (off := 0) rfl (by omega)) ?_
  refine sq (r_loadC (v := .slice s.t.a s.t.l.length s.t.c) one49 (H7.keepE hb) (off := 0) rfl (by rfl)) ?_
  refine sq (r_lenS sli49 (a := s.t.a) (m := s.t.l.length) (c := s.t.c) rfl) ?_
  refine sq ((r_eqlI (a := (s.t.l.length : Nat)) (b := (0 : Int)) rfl rfl).as (v' := .bool (true)) (by exact congrArg Value.bool (decide_eq_true (by omega)))) ?_
  refine wend ?_
  refine condTrue rfl ?_
  refine seqAny ?_
  refine drawC (m := 6) [0, 0, 0, 6, 15, 31] [3, 4] (fun q vs w' => match q, vs with | 0, [] => Ext w6 w' ∧ Hp No w w' [(some b5, .cells #[u64 (0#64), u64 (0#64), u64 (0#64)] 34 (0, 0)), (some b1, .cells #[u64 (0#64), u64 (0#64), u64 (0#64)] 34 (0, 0))] | 1, [v0] => ∃ (lo20 : Nat) (T18 : TypeId) (x19 : Value), v0 = .iface T18 (x19) ∧ Er lo20 w' (80 : Int) 1 (.iface T18 x19) ∧ w.heap.size ≤ lo20 ∧ b5 < lo20 ∧ b1 < lo20 ∧ Ext w6 w' ∧ Hp No w w' [(some b5, .cells #[u64 (0#64), u64 (0#64), u64 (0#64)] 34 (0, 0)), (some b1, .cells #[u64 (0#64), u64 (0#64), u64 (0#64)] 34 (0, 0))] | 2, [v0, _] => ∃ (lo20 : Nat) (T18 : TypeId) (x19 : Value), v0 = .iface T18 (x19) ∧ True ∧ Er lo20 w' (80 : Int) 1 (.iface T18 x19) ∧ w.heap.size ≤ lo20 ∧ b5 < lo20 ∧ b1 < lo20 ∧ Chg (· = b1) w6 w' ∧ Hp No w w' [(some b5, .cells #[u64 (0#64), u64 (0#64), u64 (0#64)] 34 (0, 0)), (some b1, .cells #[u64 (0#64), u64 (0#64), u64 (0#64)] 34 (0, 0))] | _, _ => False) mixed (by kernel_rfl) (by kernel_rfl) ⟨Ext.drew _, H7.drew⟩ ?_
  refine WalkC.look rfl (fun _ => .agg #[u64 (0#64), u64 (0#64), u64 (0#64)]) (fun _ _ _ => rfl) (fun q r uw hlo hhi hle hF => ?_) ?_
  · skip
    have h1 : 0 ≤ q := Nat.zero_le _
    have h2 : q ≤ 1 := hhi 1 4 rfl rfl
    rcases (show q = 0 ∨ q = 1 by omega) with rfl | rfl
    · skip
      obtain ⟨hX, HH⟩ := hF
      exact Gives.run rfl (r_loadA (cs' := #[u64 (0#64), u64 (0#64), u64 (0#64)]) agg34 siz34 (HH.get (k := 0) rfl) (off := 0) rfl (by exact Nat.le_of_ble_eq_true rfl) (by rfl)) ⟨rfl, rfl⟩
    · skip
      obtain ⟨lo20, T18, x19, e3, hEr15, hle22, hlt23, hlt24, hX, HH⟩ := hF
      exact Gives.run rfl (r_loadA (cs' := #[u64 (0#64), u64 (0#64), u64 (0#64)]) agg34 siz34 (HH.get (k := 0) rfl) (off := 0) rfl (by exact Nat.le_of_ble_eq_true rfl) (by rfl)) ⟨rfl, rfl⟩
  refine WalkC.look rfl (fun _ => .iface 57 (i64 ((80 : Int)))) (fun _ _ _ => rfl) (fun q r uw _ _ _ _ => Gives.run rfl (r_mkI und57 (xv := i64 ((80 : Int))) rfl) ⟨rfl, rfl⟩) ?_
  refine WalkC.look rfl (fun _ => i64 (kd)) (fun _ _ _ => rfl) (fun q r uw _ _ _ _ => Gives.run rfl (r_move (v := i64 (kd)) rfl) ⟨rfl, rfl⟩) ?_
  refine WalkC.eff 0 rfl (fun r uw9 hF11 => ?_) ?_
  · skip
    obtain ⟨hX, H10⟩ := hF11
    dsimp only [List.take, List.map, List.cons_append, List.nil_append]
    refine Gives.ofW (d := 17) rfl rfl (fun Q' hK => ?_)
    have := H10.lt (List.mem_of_getElem? (i := 0) rfl) rfl
    have := H10.lt (List.mem_of_getElem? (i := 1) rfl) rfl
    refine c_call (vs := [.iface 57 (i64 ((80 : Int))), .string ({data := #[115, 116, 111, 99, 107]}), i64 (kd)]) call63 rfl (wrap0_ok (80 : Int) kd ({data := #[115, 116, 111, 99, 107]}) uw9 (Chg.gl H10.chg (fun x => x) hG)) ?_
    rintro v14 w12 ⟨hEr15, hE16⟩
    have H17 := H10.ext hE16
    obtain ⟨T18, x19, rfl⟩ := hEr15.iface
    obtain ⟨lo20, hlo21⟩ : ∃ lo, lo = uw9.heap.size := ⟨_, rfl⟩
    have hle22 : w.heap.size ≤ lo20 := by rw [hlo21]; exact H10.chg.size
    rw [← hlo21] at hEr15
    have hlt23 : b5 < lo20 := by omega
    have hlt24 : b1 < lo20 := by omega
    exact hK _ _ ⟨lo20, T18, x19, rfl, hEr15, hle22, hlt23, hlt24, (hX.trans hE16), H17⟩
  refine WalkC.eff 1 rfl (fun r uw25 hF27 => ?_) ?_
  · skip
    obtain ⟨lo20, T18, x19, e3, hEr15, hle22, hlt23, hlt24, hX, H26⟩ := hF27
    dsimp only [List.take, List.map, List.cons_append, List.nil_append]
    rw [e3]
    refine Gives.ofW0 rfl (fun Q' hK => ?_)
    refine d_store (k := 1) (v := .agg #[u64 (0#64), u64 (0#64), u64 (0#64)]) (cs' := #[u64 (0#64), u64 (0#64), u64 (0#64)]) H26 rfl rfl rfl siz34 (by rfl) (by intro u hu; simp [Value.cells] at hu; first | (subst hu; rfl) | (rcases hu with rfl | rfl | rfl <;> rfl)) (by exact Nat.le_of_ble_eq_true rfl) (by rfl) ?_
    intro w28 H29 hC30
    have H29' := H29.as (L' := [(some b5, .cells #[u64 (0#64), u64 (0#64), u64 (0#64)] 34 (0, 0)), (some b1, .cells #[u64 (0#64), u64 (0#64), u64 (0#64)] 34 (0, 0))]) rfl
    clear H29
    exact hK _ (fun _ => ⟨lo20, T18, x19, rfl, trivial, (Er.chgs (hC30.mono (M' := fun x => x = b1) (fun _ h => by subst h; simp)) (fun x h1 h2 h3 => by have := hC30.size; rcases h3 with rfl <;> omega) hEr15), hle22, hlt23, hlt24, ((Ext.chg hX).trans hC30), H29'⟩)
  refine WalkC.look rfl (fun r => r 3) (fun r r' h => h 3 (by decide) rfl) (fun q r uw _ _ _ _ => Gives.run rfl (r_assign rfl) ⟨rfl, rfl⟩) ?_
  refine WalkC.nil ?_
  intro r31 w32 hF34
  obtain ⟨lo20, T18, x19, e3, e4, hEr15, hle22, hlt23, hlt24, hX, H33⟩ := hF34
  dsimp only
  rw [e3]
  refine wnil ?_
  refine thenNormal ?_
  refine retAny ?_
  refine thenRet ?_
  refine retG (rs := [.cell 4 34, .tmp 5]) (vs := [.agg #[u64 (0#64), u64 (0#64), u64 (0#64)], .iface T18 (x19)]) rfl ⟨r_loadA (cs' := #[u64 (0#64), u64 (0#64), u64 (0#64)]) agg34 siz34 (H33.get (k := 1) rfl) (off := 0) rfl (by exact Nat.le_of_ble_eq_true rfl) (by rfl), ⟨rfl, rfl⟩, trivial⟩ ?_
  exact ⟨_, rfl, ⟨_, rfl, hEr15.mono hle22⟩, H33.chg⟩

theorem take0_hit (b : Nat) (s : Sk) (hs : s.ok) (R : List (Option Nat × Obj)) (w₀ w : World) (H : Hp No w₀ w (skR 34 41 135 b s ++ R)) (hl : 0 < s.t.l.length) : Calls Tryd.prog 18 [.pointer (some ⟨b, 0, none⟩)].toArray w (Ret fun v w' => v = .tuple #[.agg #[u64 ((s.t.l).getD 0 tr0).a, u64 ((s.t.l).getD 0 tr0).b, u64 ((s.t.l).getD 0 tr0).c], .nilIface] ∧ ∃ s' : Sk, Hp No w₀ w' (skR 34 41 135 b s' ++ R) ∧ s'.ok ∧ s'.t.l = s.t.l.drop 1 ∧ s'.b = s.b ∧ s'.o = s.o) := by
  have hct := hs.t.cap
  have hcb := hs.b.cap
  have hco := hs.o.cap
  have H := H.as (L' := ((some b, .cells #[.slice s.t.a s.t.l.length s.t.c, .slice s.b.a s.b.l.length s.b.c, .slice s.o.a s.o.l.length s.o.c] 135 (0, 0)) :: (s.t.key, sobP ETr 34 s.t.pre s.t.l s.t.sp) :: (s.b.key, sobP ETr 34 s.b.pre s.b.l s.b.sp) :: (s.o.key, sobP EOt 41 s.o.pre s.o.l s.o.sp) :: R)) rfl
  refine enter (n := 10) Tryd.func18 rfl rfl (Nat.le_of_ble_eq_true rfl) ?_
  refine seqRegion ?_
  refine q_alloc (o := .cells #[u64 (0#64), u64 (0#64), u64 (0#64)] 34 (0, 0)) H zer34 (by kernel_rfl) ?_
  intro b1 w2 hb1 H3 hE4
  refine sq (r_assign (v := .nilIface) rfl) ?_
  refine wend ?_
  refine seqRegion ?_
  refine sq (r_move (v := .pointer (some ⟨b, 0, none⟩)) rfl) ?_
  refine sq (r_nilCheck rfl) ?_
  refine sq (r_fieldAddr (off' := 0) fld135_0 (by decide) (b := b) (off := 0) rfl (by omega)) ?_
  have H5 := (Hp.midQ (X := [(some b1, .cells #[u64 (0#64), u64 (0#64), u64 (0#64)] 34 (0, 0))]) (A := skR 34 41 135 b s) (Y := R) H3).as (L' := skR 34 41 135 b s ++ ([(some b1, .cells #[u64 (0#64), u64 (0#64), u64 (0#64)] 34 (0, 0))] ++ R)) rfl
  refine c_call (vs := [.pointer (some ⟨b, 0, none⟩), i64 ((0 : Int))]) call67 rfl (next0_hit b s hs ([(some b1, .cells #[u64 (0#64), u64 (0#64), u64 (0#64)] 34 (0, 0))] ++ R) w₀ w2 H5 (0 : Int) hl) ?_
  rintro _ w6 ⟨rfl, s8, HN9, hok10, hd11, he12, he13⟩
  have H14 := (Hp.midQ (X := skR 34 41 135 b s8) (A := [(some b1, .cells #[u64 (0#64), u64 (0#64), u64 (0#64)] 34 (0, 0))]) (Y := R) HN9).as (L' := ((some b1, .cells #[u64 (0#64), u64 (0#64), u64 (0#64)] 34 (0, 0)) :: (skR 34 41 135 b s8 ++ R))) rfl
  refine sq (r_extract (vs := #[.agg #[u64 ((s.t.l).getD 0 tr0).a, u64 ((s.t.l).getD 0 tr0).b, u64 ((s.t.l).getD 0 tr0).c], .nilIface]) rfl rfl) ?_
  refine sq (r_extract (vs := #[.agg #[u64 ((s.t.l).getD 0 tr0).a, u64 ((s.t.l).getD 0 tr0).b, u64 ((s.t.l).getD 0 tr0).c], .nilIface]) rfl rfl) ?_
  refine d_store (k := 0) (v := .agg #[u64 ((s.t.l).getD 0 tr0).a, u64 ((s.t.l).getD 0 tr0).b, u64 ((s.t.l).getD 0 tr0).c]) (cs' := #[u64 (((s.t.l).getD 0 tr0).a), u64 (((s.t.l).getD 0 tr0).b), u64 (((s.t.l).getD 0 tr0).c)]) H14 rfl rfl rfl siz34 (by rfl) (by intro u hu; simp [Value.cells] at hu; first | (subst hu; rfl) | (rcases hu with rfl | rfl | rfl <;> rfl)) (by exact Nat.le_of_ble_eq_true rfl) (by rfl) ?_
  intro w15 H16 hC17
  have H16' := H16.as (L' := ((some b1, .cells #[u64 (((s.t.l).getD 0 tr0).a), u64 (((s.t.l).getD 0 tr0).b), u64 (((s.t.l).getD 0 tr0).c)] 34 (0, 0)) :: (skR 34 41 135 b s8 ++ R))) rfl
  clear H16
  refine sq (r_assign (v := .nilIface) rfl) ?_
  refine wend ?_
  refine retAny ?_
  refine retG (rs := [.cell 2 34, .tmp 3]) (vs := [.agg #[u64 (((s.t.l).getD 0 tr0).a), u64 (((s.t.l).getD 0 tr0).b), u64 (((s.t.l).getD 0 tr0).c)], .nilIface]) rfl ⟨r_loadA (cs' := #[u64 (((s.t.l).getD 0 tr0).a), u64 (((s.t.l).getD 0 tr0).b), u64 (((s.t.l).getD 0 tr0).c)]) agg34 siz34 (H16'.get (k := 0) rfl) (off := 0) rfl (by exact Nat.le_of_ble_eq_true rfl) (by rfl), ⟨rfl, rfl⟩, trivial⟩ ?_
  exact ⟨_, rfl, rfl, s8, (H16'.dropk 0), hok10, hd11, he12, he13⟩

theorem take0_end (b : Nat) (s : Sk) (w : World) (hb : w.heap[b]? = some (s.ob 135)) (hG : Gl w) (hl : s.t.l.length = 0) : Calls Tryd.prog 18 [.pointer (some ⟨b, 0, none⟩)].toArray w (Ret fun v w' => (∃ ev, v = .tuple #[.agg #[u64 (0#64), u64 (0#64), u64 (0#64)], ev] ∧ Er w.heap.size w' 80 1 ev) ∧ Ext w w') := by
  have H := Hp.start No w
  have hb0 := hb
  unfold Sk.ob at hb
  refine enter (n := 10) Tryd.func18 rfl rfl (Nat.le_of_ble_eq_true rfl) ?_
  refine seqRegion ?_
  refine q_alloc (o := .cells #[u64 (0#64), u64 (0#64), u64 (0#64)] 34 (0, 0)) H zer34 (by kernel_rfl) ?_
  intro b1 w2 hb1 H3 hE4
  refine sq (r_assign (v := .nilIface) rfl) ?_
  refine wend ?_
  refine seqRegion ?_
  refine sq (r_move (v := .pointer (some ⟨b, 0, none⟩)) rfl) ?_
  refine sq (r_nilCheck rfl) ?_
  refine sq (r_fieldAddr (off' := 0) fld135_0 (by decide) (b := b) (off := 0) rfl (by omega)) ?_
  have := H3.lt (List.mem_of_getElem? (i := 0) rfl) rfl
  refine c_call (vs := [.pointer (some ⟨b, 0, none⟩), i64 ((0 : Int))]) call67 rfl (next0_end b s w2 (H3.keepE hb0) (Chg.gl H3.chg (fun x => x) hG) (0 : Int) hl) ?_
  rintro _ w5 ⟨⟨v7, rfl, hEr8⟩, hE9⟩
  have H10 := H3.ext hE9
  obtain ⟨T11, x12, rfl⟩ := hEr8.iface
  refine sq (r_extract (vs := #[.agg #[u64 (0#64), u64 (0#64), u64 (0#64)], .iface T11 (x12)]) rfl rfl) ?_
  refine sq (r_extract (vs := #[.agg #[u64 (0#64), u64 (0#64), u64 (0#64)], .iface T11 (x12)]) rfl rfl) ?_
  refine d_store (k := 0) (v := .agg #[u64 (0#64), u64 (0#64), u64 (0#64)]) (cs' := #[u64 (0#64), u64 (0#64), u64 (0#64)]) H10 rfl rfl rfl siz34 (by rfl) (by intro u hu; simp [Value.cells] at hu; first | (subst hu; rfl) | (rcases hu with rfl | rfl | rfl <;> rfl)) (by exact Nat.le_of_ble_eq_true rfl) (by rfl) ?_
  intro w13 H14 hC15
  have H14' := H14.as (L' := [(some b1, .cells #[u64 (0#64), u64 (0#64), u64 (0#64)] 34 (0, 0))]) rfl
  clear H14
  refine sq (r_assign (v := .iface T11 (x12)) rfl) ?_
  refine wend ?_
  refine retAny ?_
  refine retG (rs := [.cell 2 34, .tmp 3]) (vs := [.agg #[u64 (0#64), u64 (0#64), u64 (0#64)], .iface T11 (x12)]) rfl ⟨r_loadA (cs' := #[u64 (0#64), u64 (0#64), u64 (0#64)]) agg34 siz34 (H14'.get (k := 0) rfl) (off := 0) rfl (by exact Nat.le_of_ble_eq_true rfl) (by rfl), ⟨rfl, rfl⟩, trivial⟩ ?_
  exact ⟨_, rfl, ⟨_, rfl, (Er.chgs (hC15.mono (M' := fun x => x = b1) (fun _ h => by subst h; simp)) (fun x h1 h2 h3 => by have := hC15.size; rcases h3 with rfl <;> omega) hEr8).mono H3.chg.size⟩, H14'.chg⟩

theorem next1_hit (b : Nat) (s : Sk) (hs : s.ok) (R : List (Option Nat × Obj)) (w₀ w : World) (H : Hp No w₀ w (skR 34 41 135 b s ++ R)) (kd : Int) (hl : 0 < s.b.l.length) : Calls Tryd.prog 67 [.pointer (some ⟨b, 1, none⟩), i64 (kd)].toArray w (Ret fun v w' => v = .tuple #[.agg #[u64 ((s.b.l).getD 0 tr0).a, u64 ((s.b.l).getD 0 tr0).b, u64 ((s.b.l).getD 0 tr0).c], .nilIface] ∧ ∃ s' : Sk, Hp No w₀ w' (skR 34 41 135 b s' ++ R) ∧ s'.ok ∧ s'.b.l = s.b.l.drop 1 ∧ s'.t = s.t ∧ s'.o = s.o) := by
  have hct := hs.t.cap
  have hcb := hs.b.cap
  have hco := hs.o.cap
  have H := H.as (L' := ((some b, .cells #[.slice s.t.a s.t.l.length s.t.c, .slice s.b.a s.b.l.length s.b.c, .slice s.o.a s.o.l.length s.o.c] 135 (0, 0)) :: (s.t.key, sobP ETr 34 s.t.pre s.t.l s.t.sp) :: (s.b.key, sobP ETr 34 s.b.pre s.b.l s.b.sp) :: (s.o.key, sobP EOt 41 s.o.pre s.o.l s.o.sp) :: R)) rfl
  refine enter (n := 33) Tryd.func67 rfl rfl (Nat.le_of_ble_eq_true rfl) ?_
  refine seqRegion ?_
  refine q_alloc (o := .cells #[u64 (0#64), u64 (0#64), u64 (0#64)] 34 (0, 0)) H zer34 (by kernel_rfl) ?_
  intro b1 w2 hb1 H3 hE4
  refine sq (r_assign (v := .nilIface) rfl) ?_
  refine wend ?_
  refine seqRegion ?_
  refine q_alloc (o := .cells #[u64 (0#64), u64 (0#64), u64 (0#64)] 34 (0, 0)) H3 zer34 (by kernel_rfl) ?_
  intro b5 w6 hb5 H7 hE8
  refine wend ?_
  refine seqAny ?_
  refine seqRegion ?_
  refine sq (r_move (v := .pointer (some ⟨b, 1, none⟩)) rfl) ?_
  refine sq (r_nilCheck rfl) ?_
  refine sq (r_fieldAddr (off' := 1) fld131_0 (by decide) (b := b) (off := 1) rfl (by omega)) ?_
  refine sq (r_loadC (v := .slice s.b.a s.b.l.length s.b.c) one49 (H7.get (k := 2) rfl) (off := 1) rfl (by rfl)) ?_
  refine sq (r_lenS sli49 (a := s.b.a) (m := s.b.l.length) (c := s.b.c) rfl) ?_
  refine sq ((r_eqlI (a := (s.b.l.length : Nat)) (b := (0 : Int)) rfl rfl).as (v' := .bool (false)) (by exact congrArg Value.bool (decide_eq_false (by omega)))) ?_
  refine wend ?_
  refine condFalse rfl ?_
  refine skipAny ?_
  refine thenNormal ?_
  refine seqRegion ?_
  refine sq (r_move (v := .pointer (some ⟨b, 1, none⟩)) rfl) ?_
  refine sq (r_nilCheck rfl) ?_
  refine sq (r_fieldAddr (off' := 1) fld131_0 (by decide) (b := b) (off := 1) rfl (by omega)) ?_
  refine sq (r_loadC (v := .slice s.b.a s.b.l.length s.b.c) one49 (H7.get (k := 2) rfl) (off := 1) rfl (by rfl)) ?_
  refine sq (r_idxS (E := ETr) (l := s.b.l) (j := 0) sli49 (H7.rdP (k := 4) rfl hs.b) rfl rfl (by first | rfl | omega | (simp; omega)) (by rfl) (by omega)) ?_
  refine sq (((r_ldS (E := ETr) (l := s.b.l) (j := 0) (v := (s.b.l).getD 0 tr0) fits34 (H7.rdP (k := 4) rfl hs.b) rfl rfl (at_getD (by omega))).as (v' := .agg #[u64 (((s.b.l).getD 0 tr0).a), u64 (((s.b.l).getD 0 tr0).b), u64 (((s.b.l).getD 0 tr0).c)]) rfl).as (v' := .agg #[u64 ((s.b.l).getD 0 tr0).a, u64 ((s.b.l).getD 0 tr0).b, u64 ((s.b.l).getD 0 tr0).c]) (by rfl)) ?_
  refine q_alloc (o := .cells #[u64 (0#64), u64 (0#64), u64 (0#64)] 34 (0, 0)) H7 zer34 (by kernel_rfl) ?_
  intro b9 w10 hb9 H11 hE12
  refine d_store (k := 0) (v := .agg #[u64 ((s.b.l).getD 0 tr0).a, u64 ((s.b.l).getD 0 tr0).b, u64 ((s.b.l).getD 0 tr0).c]) (cs' := #[u64 (((s.b.l).getD 0 tr0).a), u64 (((s.b.l).getD 0 tr0).b), u64 (((s.b.l).getD 0 tr0).c)]) H11 rfl rfl rfl siz34 (by rfl) (by intro u hu; simp [Value.cells] at hu; first | (subst hu; rfl) | (rcases hu with rfl | rfl | rfl <;> rfl)) (by exact Nat.le_of_ble_eq_true rfl) (by rfl) ?_
  intro w13 H14 hC15
  have H14' := H14.as (L' := ((some b9, .cells #[u64 (((s.b.l).getD 0 tr0).a), u64 (((s.b.l).getD 0 tr0).b), u64 (((s.b.l).getD 0 tr0).c)] 34 (0, 0)) :: (some b5, .cells #[u64 (0#64), u64 (0#64), u64 (0#64)] 34 (0, 0)) :: (some b1, .cells #[u64 (0#64), u64 (0#64), u64 (0#64)] 34 (0, 0)) :: (some b, .cells #[.slice s.t.a s.t.l.length s.t.c, .slice s.b.a s.b.l.length s.b.c, .slice s.o.a s.o.l.length s.o.c] 135 (0, 0)) :: (s.t.key, sobP ETr 34 s.t.pre s.t.l s.t.sp) :: (s.b.key, sobP ETr 34 s.b.pre s.b.l s.b.sp) :: (s.o.key, sobP EOt 41 s.o.pre s.o.l s.o.sp) :: R)) rfl
  clear H14
  refine wend ?_
  refine seqRegion ?_
  refine sq (r_move (v := .pointer (some ⟨b, 1, none⟩)) rfl) ?_
  refine sq (r_move (v := .pointer (some ⟨b, 1, none⟩)) rfl) ?_
  refine sq (r_nilCheck rfl) ?_
  refine sq (r_fieldAddr (off' := 1) fld131_0 (by decide) (b := b) (off := 1) rfl (by omega)) ?_
  refine sq (r_loadC (v := .slice s.b.a s.b.l.length s.b.c) one49 (H14'.get (k := 3) rfl) (off := 1) rfl (by rfl)) ?_
  refine sq ((r_sliceS (l := 1) (h := s.b.l.length) sli49 rfl (.inl ⟨_, _, _, rfl, rfl, by first | rfl | omega | (simp; omega)⟩) (.inr ⟨rfl, rfl⟩) (by omega) (by omega)).as (v' := .slice (if s.b.c = 1 then s.b.a else adr s.b.a (1 * 3)) (s.b.l.length - 1) (s.b.c - 1)) (by first | rfl | (congr 1; omega) | (simp; omega) | simp)) ?_
  refine sq (r_nilCheck rfl) ?_
  refine sq (r_fieldAddr (off' := 1) fld131_0 (by decide) (b := b) (off := 1) rfl (by omega)) ?_
  refine d_store (k := 3) (v := .slice (if s.b.c = 1 then s.b.a else adr s.b.a (1 * 3)) (s.b.l.length - 1) (s.b.c - 1)) (cs' := #[.slice s.t.a s.t.l.length s.t.c, .slice (if s.b.c = 1 then s.b.a else adr s.b.a (1 * 3)) (s.b.l.length - 1) (s.b.c - 1), .slice s.o.a s.o.l.length s.o.c]) H14' rfl rfl rfl siz49 (by rfl) (by intro u hu; simp [Value.cells] at hu; first | (subst hu; rfl) | (rcases hu with rfl <;> rfl)) (by exact Nat.le_of_ble_eq_true rfl) (by rfl) ?_
  intro w16 H17 hC18
  have H17' := H17.as (L' := ((some b9, .cells #[u64 (((s.b.l).getD 0 tr0).a), u64 (((s.b.l).getD 0 tr0).b), u64 (((s.b.l).getD 0 tr0).c)] 34 (0, 0)) :: (some b5, .cells #[u64 (0#64), u64 (0#64), u64 (0#64)] 34 (0, 0)) :: (some b1, .cells #[u64 (0#64), u64 (0#64), u64 (0#64)] 34 (0, 0)) :: (some b, .cells #[.slice s.t.a s.t.l.length s.t.c, .slice (if s.b.c = 1 then s.b.a else adr s.b.a (1 * 3)) (s.b.l.length - 1) (s.b.c - 1), .slice s.o.a s.o.l.length s.o.c] 135 (0, 0)) :: (s.t.key, sobP ETr 34 s.t.pre s.t.l s.t.sp) :: (s.b.key, sobP ETr 34 s.b.pre s.b.l s.b.sp) :: (s.o.key, sobP EOt 41 s.o.pre s.o.l s.o.sp) :: R)) rfl
  clear H17
  refine wend ?_
  refine seqRegion ?_
  refine sq (r_loadA (cs' := #[u64 (((s.b.l).getD 0 tr0).a), u64 (((s.b.l).getD 0 tr0).b), u64 (((s.b.l).getD 0 tr0).c)]) agg34 siz34 (H17'.get (k := 0) rfl) (off := 0) rfl (by exact Nat.le_of_ble_eq_true rfl) (by rfl)) ?_
  refine d_store (k := 2) (v := .agg #[u64 (((s.b.l).getD 0 tr0).a), u64 (((s.b.l).getD 0 tr0).b), u64 (((s.b.l).getD 0 tr0).c)]) (cs' := #[u64 (((s.b.l).getD 0 tr0).a), u64 (((s.b.l).getD 0 tr0).b), u64 (((s.b.l).getD 0 tr0).c)]) H17' rfl rfl rfl siz34 (by rfl) (by intro u hu; simp [Value.cells] at hu; first | (subst hu; rfl) | (rcases hu with rfl | rfl | rfl <;> rfl)) (by exact Nat.le_of_ble_eq_true rfl) (by rfl) ?_
  intro w19 H20 hC21
  have H20' := H20.as (L' := ((some b9, .cells #[u64 (((s.b.l).getD 0 tr0).a), u64 (((s.b.l).getD 0 tr0).b), u64 (((s.b.l).getD 0 tr0).c)] 34 (0, 0)) :: (some b5, .cells #[u64 (0#64), u64 (0#64), u64 (0#64)] 34 (0, 0)) :: (some b1, .cells #[u64 (((s.b.l).getD 0 tr0).a), u64 (((s.b.l).getD 0 tr0).b), u64 (((s.b.l).getD 0 tr0).c)] 34 (0, 0)) :: (some b, .cells #[.slice s.t.a s.t.l.length s.t.c, .slice (if s.b.c = 1 then s.b.a else adr s.b.a (1 * 3)) (s.b.l.length - 1) (s.b.c - 1), .slice s.o.a s.o.l.length s.o.c] 135 (0, 0)) :: (s.t.key, sobP ETr 34 s.t.pre s.t.l s.t.sp) :: (s.b.key, sobP ETr 34 s.b.pre s.b.l s.b.sp) :: (s.o.key, sobP EOt 41 s.o.pre s.o.l s.o.sp) :: R)) rfl
  clear H20
  refine sq (r_assign (v := .nilIface) rfl) ?_
  refine wend ?_
  refine retAny ?_
  refine retG (rs := [.cell 4 34, .tmp 5]) (vs := [.agg #[u64 (((s.b.l).getD 0 tr0).a), u64 (((s.b.l).getD 0 tr0).b), u64 (((s.b.l).getD 0 tr0).c)], .nilIface]) rfl ⟨r_loadA (cs' := #[u64 (((s.b.l).getD 0 tr0).a), u64 (((s.b.l).getD 0 tr0).b), u64 (((s.b.l).getD 0 tr0).c)]) agg34 siz34 (H20'.get (k := 2) rfl) (off := 0) rfl (by exact Nat.le_of_ble_eq_true rfl) (by rfl), ⟨rfl, rfl⟩, trivial⟩ ?_
  refine ⟨_, rfl, rfl, { s with b := s.b.cut ETr }, ?_, ⟨hs.t, Cp.cut_ok hs.b (by omega), hs.o⟩, rfl, rfl, rfl⟩
  unfold skR Sk.ob
  dsimp only
  rw [Cp.cut_row (E := ETr) (by omega)]
  unfold Cp.cut
  dsimp only
  rw [List.length_drop]
  exact (((H20'.dropk 2).dropk 1).dropk 0)

theorem next1_end (b : Nat) (s : Sk) (w : World) (hb : w.heap[b]? = some (s.ob 135)) (hG : Gl w) (kd : Int) (hl : s.b.l.length = 0) : Calls Tryd.prog 67 [.pointer (some ⟨b, 1, none⟩), i64 (kd)].toArray w (Ret fun v w' => (∃ ev, v = .tuple #[.agg #[u64 (0#64), u64 (0#64), u64 (0#64)], ev] ∧ Er w.heap.size w' 80 1 ev) ∧ Ext w w') := by
  have H := Hp.start No w
  unfold Sk.ob at hb
  refine enter (n := 33) Tryd.func67 rfl rfl (Nat.le_of_ble_eq_true rfl) ?_
  refine seqRegion ?_
  refine q_alloc (o := .cells #[u64 (0#64), u64 (0#64), u64 (0#64)] 34 (0, 0)) H zer34 (by kernel_rfl) ?_
  intro b1 w2 hb1 H3 hE4
  refine sq (r_assign (v := .nilIface) rfl) ?_
  refine wend ?_
  refine seqRegion ?_
  refine q_alloc (o := .cells #[u64 (0#64), u64 (0#64), u64 (0#64)] 34 (0, 0)) H3 zer34 (by kernel_rfl) ?_
  intro b5 w6 hb5 H7 hE8
  refine wend ?_
  refine seqAny ?_
  refine seqRegion ?_
  refine sq (r_move (v := .pointer (some ⟨b, 1, none⟩)) rfl) ?_
  refine sq (r_nilCheck rfl) ?_
  refine sq (r_fieldAddr (off' := 1) fld131_0 (by decide) (b := b) (off := 1) rfl (by omega)) ?_
  refine sq (r_loadC (v := .slice s.b.a s.b.l.length s.b.c) one49 (H7.keepE hb) (off := 1) rfl (by rfl)) ?_
  refine sq (r_lenS sli49 (a := s.b.a) (m := s.b.l.length) (c := s.b.c) rfl) ?_
  refine sq ((r_eqlI (a := (s.b.l.length : Nat)) (b := (0 : Int)) rfl rfl).as (v' := .bool (true)) (by exact congrArg Value.bool (decide_eq_true (by omega)))) ?_
  refine wend ?_
  refine condTrue rfl ?_
  refine seqAny ?_
  refine drawC (m := 6) [0, 0, 0, 6, 15, 31] [3, 4] (fun q vs w' => match q, vs with | 0, [] => Ext w6 w' ∧ Hp No w w' [(some b5, .cells #[u64 (0#64), u64 (0#64), u64 (0#64)] 34 (0, 0)), (some b1, .cells #[u64 (0#64), u64 (0#64), u64 (0#64)] 34 (0, 0))] | 1, [v0] => ∃ (lo20 : Nat) (T18 : TypeId) (x19 : Value), v0 = .iface T18 (x19) ∧ Er lo20 w' (80 : Int) 1 (.iface T18 x19) ∧ w.heap.size ≤ lo20 ∧ b5 < lo20 ∧ b1 < lo20 ∧ Ext w6 w' ∧ Hp No w w' [(some b5, .cells #[u64 (0#64), u64 (0#64), u64 (0#64)] 34 (0, 0)), (some b1, .cells #[u64 (0#64), u64 (0#64), u64 (0#64)] 34 (0, 0))] | 2, [v0, _] => ∃ (lo20 : Nat) (T18 : TypeId) (x19 : Value), v0 = .iface T18 (x19) ∧ True ∧ Er lo20 w' (80 : Int) 1 (.iface T18 x19) ∧ w.heap.size ≤ lo20 ∧ b5 < lo20 ∧ b1 < lo20 ∧ Chg (· = b1) w6 w' ∧ Hp No w w' [(some b5, .cells #[u64 (0#64), u64 (0#64), u64 (0#64)] 34 (0, 0)), (some b1, .cells #[u64 (0#64), u64 (0#64), u64 (0#64)] 34 (0, 0))] | _, _ => False) mixed (by kernel_rfl) (by kernel_rfl) ⟨Ext.drew _, H7.drew⟩ ?_
  refine WalkC.look rfl (fun _ => .agg #[u64 (0#64), u64 (0#64), u64 (0#64)]) (fun _ _ _ => rfl) (fun q r uw hlo hhi hle hF => ?_) ?_
  · skip
    have h1 : 0 ≤ q := Nat.zero_le _
    have h2 : q ≤ 1 := hhi 1 4 rfl rfl
    rcases (show q = 0 ∨ q = 1 by omega) with rfl | rfl
    · skip
      obtain ⟨hX, HH⟩ := hF
      exact Gives.run rfl (r_loadA (cs' := #[u64 (0#64), u64 (0#64), u64 (0#64)]) agg34 siz34 (HH.get (k := 0) rfl) (off := 0) rfl (by exact Nat.le_of_ble_eq_true rfl) (by rfl)) ⟨rfl, rfl⟩
    · skip
      obtain ⟨lo20, T18, x19, e3, hEr15, hle22, hlt23, hlt24, hX, HH⟩ := hF
      exact Gives.run rfl (r_loadA (cs' := #[u64 (0#64), u64 (0#64), u64 (0#64)]) agg34 siz34 (HH.get (k := 0) rfl) (off := 0) rfl (by exact Nat.le_of_ble_eq_true rfl) (by rfl)) ⟨rfl, rfl⟩
  refine WalkC.look rfl (fun _ => .iface 57 (i64 ((80 : Int)))) (fun _ _ _ => rfl) (fun q r uw _ _ _ _ => Gives.run rfl (r_mkI und57 (xv := i64 ((80 : Int))) rfl) ⟨rfl, rfl⟩) ?_
  refine WalkC.look rfl (fun _ => i64 (kd)) (fun _ _ _ => rfl) (fun q r uw _ _ _ _ => Gives.run rfl (r_move (v := i64 (kd)) rfl) ⟨rfl, rfl⟩) ?_
  refine WalkC.eff 0 rfl (fun r uw9 hF11 => ?_) ?_
  · skip
    obtain ⟨hX, H10⟩ := hF11
    dsimp only [List.take, List.map, List.cons_append, List.nil_append]
    refine Gives.ofW (d := 17) rfl rfl (fun Q' hK => ?_)
    have := H10.lt (List.mem_of_getElem? (i := 0) rfl) rfl
    have := H10.lt (List.mem_of_getElem? (i := 1) rfl) rfl
    refine c_call (vs := [.iface 57 (i64 ((80 : Int))), .string ({data := #[115, 116, 111, 99, 107]}), i64 (kd)]) call63 rfl (wrap0_ok (80 : Int) kd ({data := #[115, 116, 111, 99, 107]}) uw9 (Chg.gl H10.chg (fun x => x) hG)) ?_
    rintro v14 w12 ⟨hEr15, hE16⟩
    have H17 := H10.ext hE16
    obtain ⟨T18, x19, rfl⟩ := hEr15.iface
    obtain ⟨lo20, hlo21⟩ : ∃ lo, lo = uw9.heap.size := ⟨_, rfl⟩
    have hle22 : w.heap.size ≤ lo20 := by rw [hlo21]; exact H10.chg.size
    rw [← hlo21] at hEr15
    have hlt23 : b5 < lo20 := by omega
    have hlt24 : b1 < lo20 := by omega
    exact hK _ _ ⟨lo20, T18, x19, rfl, hEr15, hle22, hlt23, hlt24, (hX.trans hE16), H17⟩
  refine WalkC.eff 1 rfl (fun r uw25 hF27 => ?_) ?_
  · skip
    obtain ⟨lo20, T18, x19, e3, hEr15, hle22, hlt23, hlt24, hX, H26⟩ := hF27
    dsimp only [List.take, List.map, List.cons_append, List.nil_append]
    rw [e3]
    refine Gives.ofW0 rfl (fun Q' hK => ?_)
    refine d_store (k := 1) (v := .agg #[u64 (0#64), u64 (0#64), u64 (0#64)]) (cs' := #[u64 (0#64), u64 (0#64), u64 (0#64)]) H26 rfl rfl rfl siz34 (by rfl) (by intro u hu; simp [Value.cells] at hu; first | (subst hu; rfl) | (rcases hu with rfl | rfl | rfl <;> rfl)) (by exact Nat.le_of_ble_eq_true rfl) (by rfl) ?_
    intro w28 H29 hC30
    have H29' := H29.as (L' := [(some b5, .cells #[u64 (0#64), u64 (0#64), u64 (0#64)] 34 (0, 0)), (some b1, .cells #[u64 (0#64), u64 (0#64), u64 (0#64)] 34 (0, 0))]) rfl
    clear H29
    exact hK _ (fun _ => ⟨lo20, T18, x19, rfl, trivial, (Er.chgs (hC30.mono (M' := fun x => x = b1) (fun _ h => by subst h; simp)) (fun x h1 h2 h3 => by have := hC30.size; rcases h3 with rfl <;> omega) hEr15), hle22, hlt23, hlt24, ((Ext.chg hX).trans hC30), H29'⟩)
  refine WalkC.look rfl (fun r => r 3) (fun r r' h => h 3 (by decide) rfl) (fun q r uw _ _ _ _ => Gives.run rfl (r_assign rfl) ⟨rfl, rfl⟩) ?_
  refine WalkC.nil ?_
  intro r31 w32 hF34
  obtain ⟨lo20, T18, x19, e3, e4, hEr15, hle22, hlt23, hlt24, hX, H33⟩ := hF34
  dsimp only
  rw [e3]
  refine wnil ?_
  refine thenNormal ?_
  refine retAny ?_
  refine thenRet ?_
  refine retG (rs := [.cell 4 34, .tmp 5]) (vs := [.agg #[u64 (0#64), u64 (0#64), u64 (0#64)], .iface T18 (x19)]) rfl ⟨r_loadA (cs' := #[u64 (0#64), u64 (0#64), u64 (0#64)]) agg34 siz34 (H33.get (k := 1) rfl) (off := 0) rfl (by exact Nat.le_of_ble_eq_true rfl) (by rfl), ⟨rfl, rfl⟩, trivial⟩ ?_
  exact ⟨_, rfl, ⟨_, rfl, hEr15.mono hle22⟩, H33.chg⟩

theorem take1_hit (b : Nat) (s : Sk) (hs : s.ok) (R : List (Option Nat × Obj)) (w₀ w : World) (H : Hp No w₀ w (skR 34 41 135 b s ++ R)) (hl : 0 < s.b.l.length) : Calls Tryd.prog 19 [.pointer (some ⟨b, 0, none⟩)].toArray w (Ret fun v w' => v = .tuple #[.agg #[u64 ((s.b.l).getD 0 tr0).a, u64 ((s.b.l).getD 0 tr0).b, u64 ((s.b.l).getD 0 tr0).c], .nilIface] ∧ ∃ s' : Sk, Hp No w₀ w' (skR 34 41 135 b s' ++ R) ∧ s'.ok ∧ s'.b.l = s.b.l.drop 1 ∧ s'.t = s.t ∧ s'.o = s.o) := by
  have hct := hs.t.cap
  have hcb := hs.b.cap
  have hco := hs.o.cap
  have H := H.as (L' := ((some b, .cells #[.slice s.t.a s.t.l.length s.t.c, .slice s.b.a s.b.l.length s.b.c, .slice s.o.a s.o.l.length s.o.c] 135 (0, 0)) :: (s.t.key, sobP ETr 34 s.t.pre s.t.l s.t.sp) :: (s.b.key, sobP ETr 34 s.b.pre s.b.l s.b.sp) :: (s.o.key, sobP EOt 41 s.o.pre s.o.l s.o.sp) :: R)) rfl
  refine enter (n := 10) Tryd.func19 rfl rfl (Nat.le_of_ble_eq_true rfl) ?_
  refine seqRegion ?_
  refine q_alloc (o := .cells #[u64 (0#64), u64 (0#64), u64 (0#64)] 34 (0, 0)) H zer34 (by kernel_rfl) ?_
  intro b1 w2 hb1 H3 hE4
  refine sq (r_assign (v := .nilIface) rfl) ?_
  refine wend ?_
  refine seqRegion ?_
  refine sq (r_move (v := .pointer (some ⟨b, 0, none⟩)) rfl) ?_
  refine sq (r_nilCheck rfl) ?_
  refine sq (r_fieldAddr (off' := 1) fld135_1 (by decide) (b := b) (off := 0) rfl (by omega)) ?_
  have H5 := (Hp.midQ (X := [(some b1, .cells #[u64 (0#64), u64 (0#64), u64 (0#64)] 34 (0, 0))]) (A := skR 34 41 135 b s) (Y := R) H3).as (L' := skR 34 41 135 b s ++ ([(some b1, .cells #[u64 (0#64), u64 (0#64), u64 (0#64)] 34 (0, 0))] ++ R)) rfl
  refine c_call (vs := [.pointer (some ⟨b, 1, none⟩), i64 ((1 : Int))]) call67 rfl (next1_hit b s hs ([(some b1, .cells #[u64 (0#64), u64 (0#64), u64 (0#64)] 34 (0, 0))] ++ R) w₀ w2 H5 (1 : Int) hl) ?_
  rintro _ w6 ⟨rfl, s8, HN9, hok10, hd11, he12, he13⟩
  have H14 := (Hp.midQ (X := skR 34 41 135 b s8) (A := [(some b1, .cells #[u64 (0#64), u64 (0#64), u64 (0#64)] 34 (0, 0))]) (Y := R) HN9).as (L' := ((some b1, .cells #[u64 (0#64), u64 (0#64), u64 (0#64)] 34 (0, 0)) :: (skR 34 41 135 b s8 ++ R))) rfl
  refine sq (r_extract (vs := #[.agg #[u64 ((s.b.l).getD 0 tr0).a, u64 ((s.b.l).getD 0 tr0).b, u64 ((s.b.l).getD 0 tr0).c], .nilIface]) rfl rfl) ?_
  refine sq (r_extract (vs := #[.agg #[u64 ((s.b.l).getD 0 tr0).a, u64 ((s.b.l).getD 0 tr0).b, u64 ((s.b.l).getD 0 tr0).c], .nilIface]) rfl rfl) ?_
  refine d_store (k := 0) (v := .agg #[u64 ((s.b.l).getD 0 tr0).a, u64 ((s.b.l).getD 0 tr0).b, u64 ((s.b.l).getD 0 tr0).c]) (cs' := #[u64 (((s.b.l).getD 0 tr0).a), u64 (((s.b.l).getD 0 tr0).b), u64 (((s.b.l).getD 0 tr0).c)]) H14 rfl rfl rfl siz34 (by rfl) (by intro u hu; simp [Value.cells] at hu; first | (subst hu; rfl) | (rcases hu with rfl | rfl | rfl <;> rfl)) (by exact Nat.le_of_ble_eq_true rfl) (by rfl) ?_
  intro w15 H16 hC17
  have H16' := H16.as (L' := ((some b1, .cells #[u64 (((s.b.l).getD 0 tr0).a), u64 (((s.b.l).getD 0 tr0).b), u64 (((s.b.l).getD 0 tr0).c)] 34 (0, 0)) :: (skR 34 41 135 b s8 ++ R))) rfl
  clear H16
  refine sq (r_assign (v := .nilIface) rfl) ?_
  refine wend ?_
  refine retAny ?_
  refine retG (rs := [.cell 2 34, .tmp 3]) (vs := [.agg #[u64 (((s.b.l).getD 0 tr0).a), u64 (((s.b.l).getD 0 tr0).b), u64 (((s.b.l).getD 0 tr0).c)], .nilIface]) rfl ⟨r_loadA (cs' := #[u64 (((s.b.l).getD 0 tr0).a), u64 (((s.b.l).getD 0 tr0).b), u64 (((s.b.l).getD 0 tr0).c)]) agg34 siz34 (H16'.get (k := 0) rfl) (off := 0) rfl (by exact Nat.le_of_ble_eq_true rfl) (by rfl), ⟨rfl, rfl⟩, trivial⟩ ?_
  exact ⟨_, rfl, rfl, s8, (H16'.dropk 0), hok10, hd11, he12, he13⟩

theorem take1_end (b : Nat) (s : Sk) (w : World) (hb : w.heap[b]? = some (s.ob 135)) (hG : Gl w) (hl : s.b.l.length = 0) : Calls Tryd.prog 19 [.pointer (some ⟨b, 0, none⟩)].toArray w (Ret fun v w' => (∃ ev, v = .tuple #[.agg #[u64 (0#64), u64 (0#64), u64 (0#64)], ev] ∧ Er w.heap.size w' 80 1 ev) ∧ Ext w w') := by
  have H := Hp.start No w
  have hb0 := hb
  unfold Sk.ob at hb
  refine enter (n := 10) Tryd.func19 rfl rfl (Nat.le_of_ble_eq_true rfl) ?_
  refine seqRegion ?_
  refine q_alloc (o := .cells #[u64 (0#64), u64 (0#64), u64 (0#64)] 34 (0, 0)) H zer34 (by kernel_rfl) ?_
  intro b1 w2 hb1 H3 hE4
  refine sq (r_assign (v := .nilIface) rfl) ?_
  refine wend ?_
  refine seqRegion ?_
  refine sq (r_move (v := .pointer (some ⟨b, 0, none⟩)) rfl) ?_
  refine sq (r_nilCheck rfl) ?_
  refine sq (r_fieldAddr (off' := 1) fld135_1 (by decide) (b := b) (off := 0) rfl (by omega)) ?_
  have := H3.lt (List.mem_of_getElem? (i := 0) rfl) rfl
  refine c_call (vs := [.pointer (some ⟨b, 1, none⟩), i64 ((1 : Int))]) call67 rfl (next1_end b s w2 (H3.keepE hb0) (Chg.gl H3.chg (fun x => x) hG) (1 : Int) hl) ?_
  rintro _ w5 ⟨⟨v7, rfl, hEr8⟩, hE9⟩
  have H10 := H3.ext hE9
  obtain ⟨T11, x12, rfl⟩ := hEr8.iface
  refine sq (r_extract (vs := #[.agg #[u64 (0#64), u64 (0#64), u64 (0#64)], .iface T11 (x12)]) rfl rfl) ?_
  refine sq (r_extract (vs := #[.agg #[u64 (0#64), u64 (0#64), u64 (0#64)], .iface T11 (x12)]) rfl rfl) ?_
  refine d_store (k := 0) (v := .agg #[u64 (0#64), u64 (0#64), u64 (0#64)]) (cs' := #[u64 (0#64), u64 (0#64), u64 (0#64)]) H10 rfl rfl rfl siz34 (by rfl) (by intro u hu; simp [Value.cells] at hu; first | (subst hu; rfl) | (rcases hu with rfl | rfl | rfl <;> rfl)) (by exact Nat.le_of_ble_eq_true rfl) (by rfl) ?_
  intro w13 H14 hC15
  have H14' := H14.as (L' := [(some b1, .cells #[u64 (0#64), u64 (0#64), u64 (0#64)] 34 (0, 0))]) rfl
  clear H14
  refine sq (r_assign (v := .iface T11 (x12)) rfl) ?_
  refine wend ?_
  refine retAny ?_
  refine retG (rs := [.cell 2 34, .tmp 3]) (vs := [.agg #[u64 (0#64), u64 (0#64), u64 (0#64)], .iface T11 (x12)]) rfl ⟨r_loadA (cs' := #[u64 (0#64), u64 (0#64), u64 (0#64)]) agg34 siz34 (H14'.get (k := 0) rfl) (off := 0) rfl (by exact Nat.le_of_ble_eq_true rfl) (by rfl), ⟨rfl, rfl⟩, trivial⟩ ?_
  exact ⟨_, rfl, ⟨_, rfl, (Er.chgs (hC15.mono (M' := fun x => x = b1) (fun _ h => by subst h; simp)) (fun x h1 h2 h3 => by have := hC15.size; rcases h3 with rfl <;> omega) hEr8).mono H3.chg.size⟩, H14'.chg⟩

theorem next2_hit (b : Nat) (s : Sk) (hs : s.ok) (R : List (Option Nat × Obj)) (w₀ w : World) (H : Hp No w₀ w (skR 34 41 135 b s ++ R)) (kd : Int) (hl : 0 < s.o.l.length) : Calls Tryd.prog 68 [.pointer (some ⟨b, 2, none⟩), i64 (kd)].toArray w (Ret fun v w' => v = .tuple #[.agg #[u64 (((s.o.l).getD 0 ot0).p), u64 (((s.o.l).getD 0 ot0).q), u64 (((s.o.l).getD 0 ot0).r), u64 (((s.o.l).getD 0 ot0).s), .bool (((s.o.l).getD 0 ot0).ch)], .nilIface] ∧ ∃ s' : Sk, Hp No w₀ w' (skR 34 41 135 b s' ++ R) ∧ s'.ok ∧ s'.o.l = s.o.l.drop 1 ∧ s'.t = s.t ∧ s'.b = s.b) := by
  have hct := hs.t.cap
  have hcb := hs.b.cap
  have hco := hs.o.cap
  have H := H.as (L' := ((some b, .cells #[.slice s.t.a s.t.l.length s.t.c, .slice s.b.a s.b.l.length s.b.c, .slice s.o.a s.o.l.length s.o.c] 135 (0, 0)) :: (s.t.key, sobP ETr 34 s.t.pre s.t.l s.t.sp) :: (s.b.key, sobP ETr 34 s.b.pre s.b.l s.b.sp) :: (s.o.key, sobP EOt 41 s.o.pre s.o.l s.o.sp) :: R)) rfl
  refine enter (n := 33) Tryd.func68 rfl rfl (Nat.le_of_ble_eq_true rfl) ?_
  refine seqRegion ?_
  refine q_alloc (o := .cells #[u64 (0#64), u64 (0#64), u64 (0#64), u64 (0#64), .bool (false)] 41 (0, 0)) H zer41 (by kernel_rfl) ?_
  intro b1 w2 hb1 H3 hE4
  refine sq (r_assign (v := .nilIface) rfl) ?_
  refine wend ?_
  refine seqRegion ?_
  refine q_alloc (o := .cells #[u64 (0#64), u64 (0#64), u64 (0#64), u64 (0#64), .bool (false)] 41 (0, 0)) H3 zer41 (by kernel_rfl) ?_
  intro b5 w6 hb5 H7 hE8
  refine wend ?_
  refine seqAny ?_
  refine seqRegion ?_
  refine sq (r_move (v := .pointer (some ⟨b, 2, none⟩)) rfl) ?_
  refine sq (r_nilCheck rfl) ?_
  refine sq (r_fieldAddr (off' := 2) fld133_0 (by decide) (b := b) (off := 2) rfl (by omega)) ?_
  refine sq (r_loadC (v := .slice s.o.a s.o.l.length s.o.c) one50 (H7.get (k := 2) rfl) (off := 2) rfl (by rfl)) ?_
  refine sq (r_lenS sli50 (a := s.o.a) (m := s.o.l.length) (c := s.o.c) rfl) ?_
  refine sq ((r_eqlI (a := (s.o.l.length : Nat)) (b := (0 : Int)) rfl rfl).as (v' := .bool (false)) (by exact congrArg Value.bool (decide_eq_false (by omega)))) ?_
  refine wend ?_
  refine condFalse rfl ?_
  refine skipAny ?_
  refine thenNormal ?_
  refine seqRegion ?_
  refine sq (r_move (v := .pointer (some ⟨b, 2, none⟩)) rfl) ?_
  refine sq (r_nilCheck rfl) ?_
  refine sq (r_fieldAddr (off' := 2) fld133_0 (by decide) (b := b) (off := 2) rfl (by omega)) ?_
  refine sq (r_loadC (v := .slice s.o.a s.o.l.length s.o.c) one50 (H7.get (k := 2) rfl) (off := 2) rfl (by rfl)) ?_
  refine sq (r_idxS (E := EOt) (l := s.o.l) (j := 0) sli50 (H7.rdP (k := 5) rfl hs.o) rfl rfl (by first | rfl | omega | (simp; omega)) (by rfl) (by omega)) ?_
  refine sq (((r_ldS (E := EOt) (l := s.o.l) (j := 0) (v := (s.o.l).getD 0 ot0) fits41 (H7.rdP (k := 5) rfl hs.o) rfl rfl (at_getD (by omega))).as (v' := .agg #[u64 (((s.o.l).getD 0 ot0).p), u64 (((s.o.l).getD 0 ot0).q), u64 (((s.o.l).getD 0 ot0).r), u64 (((s.o.l).getD 0 ot0).s), .bool (((s.o.l).getD 0 ot0).ch)]) rfl).as (v' := .agg #[u64 (((s.o.l).getD 0 ot0).p), u64 (((s.o.l).getD 0 ot0).q), u64 (((s.o.l).getD 0 ot0).r), u64 (((s.o.l).getD 0 ot0).s), .bool (((s.o.l).getD 0 ot0).ch)]) (by rfl)) ?_
  refine q_alloc (o := .cells #[u64 (0#64), u64 (0#64), u64 (0#64), u64 (0#64), .bool (false)] 41 (0, 0)) H7 zer41 (by kernel_rfl) ?_
  intro b9 w10 hb9 H11 hE12
  refine d_store (k := 0) (v := .agg #[u64 (((s.o.l).getD 0 ot0).p), u64 (((s.o.l).getD 0 ot0).q), u64 (((s.o.l).getD 0 ot0).r), u64 (((s.o.l).getD 0 ot0).s), .bool (((s.o.l).getD 0 ot0).ch)]) (cs' := #[u64 (((s.o.l).getD 0 ot0).p), u64 (((s.o.l).getD 0 ot0).q), u64 (((s.o.l).getD 0 ot0).r), u64 (((s.o.l).getD 0 ot0).s), .bool (((s.o.l).getD 0 ot0).ch)]) H11 rfl rfl rfl siz41 (by rfl) (by intro u hu; simp [Value.cells] at hu; first | (subst hu; rfl) | (rcases hu with rfl | rfl | rfl | rfl | rfl <;> rfl)) (by exact Nat.le_of_ble_eq_true rfl) (by rfl) ?_
  intro w13 H14 hC15
  have H14' := H14.as (L' := ((some b9, .cells #[u64 (((s.o.l).getD 0 ot0).p), u64 (((s.o.l).getD 0 ot0).q), u64 (((s.o.l).getD 0 ot0).r), u64 (((s.o.l).getD 0 ot0).s), .bool (((s.o.l).getD 0 ot0).ch)] 41 (0, 0)) :: (some b5, .cells #[u64 (0#64), u64 (0#64), u64 (0#64), u64 (0#64), .bool (false)] 41 (0, 0)) :: (some b1, .cells #[u64 (0#64), u64 (0#64), u64 (0#64), u64 (0#64), .bool (false)] 41 (0, 0)) :: (some b, .cells #[.slice s.t.a s.t.l.length s.t.c, .slice s.b.a s.b.l.length s.b.c, .slice s.o.a s.o.l.length s.o.c] 135 (0, 0)) :: (s.t.key, sobP ETr 34 s.t.pre s.t.l s.t.sp) :: (s.b.key, sobP ETr 34 s.b.pre s.b.l s.b.sp) :: (s.o.key, sobP EOt 41 s.o.pre s.o.l s.o.sp) :: R)) rfl
  clear H14
  refine wend ?_
  refine seqRegion ?_
  refine sq (r_move (v := .pointer (some ⟨b, 2, none⟩)) rfl) ?_
  refine sq (r_move (v := .pointer (some ⟨b, 2, none⟩)) rfl) ?_
  refine sq (r_nilCheck rfl) ?_
  refine sq (r_fieldAddr (off' := 2) fld133_0 (by decide) (b := b) (off := 2) rfl (by omega)) ?_
  refine sq (r_loadC (v := .slice s.o.a s.o.l.length s.o.c) one50 (H14'.get (k := 3) rfl) (off := 2) rfl (by rfl)) ?_
  refine sq ((r_sliceS (l := 1) (h := s.o.l.length) sli50 rfl (.inl ⟨_, _, _, rfl, rfl, by first | rfl | omega | (simp; omega)⟩) (.inr ⟨rfl, rfl⟩) (by omega) (by omega)).as (v' := .slice (if s.o.c = 1 then s.o.a else adr s.o.a (1 * 5)) (s.o.l.length - 1) (s.o.c - 1)) (by first | rfl | (congr 1; omega) | (simp; omega) | simp)) ?_
  refine sq (r_nilCheck rfl) ?_
  refine sq (r_fieldAddr (off' := 2) fld133_0 (by decide) (b := b) (off := 2) rfl (by omega)) ?_
  refine d_store (k := 3) (v := .slice (if s.o.c = 1 then s.o.a else adr s.o.a (1 * 5)) (s.o.l.length - 1) (s.o.c - 1)) (cs' := #[.slice s.t.a s.t.l.length s.t.c, .slice s.b.a s.b.l.length s.b.c, .slice (if s.o.c = 1 then s.o.a else adr s.o.a (1 * 5)) (s.o.l.length - 1) (s.o.c - 1)]) H14' rfl rfl rfl siz50 (by rfl) (by intro u hu; simp [Value.cells] at hu; first | (subst hu; rfl) | (rcases hu with rfl <;> rfl)) (by exact Nat.le_of_ble_eq_true rfl) (by rfl) ?_
  intro w16 H17 hC18
  have H17' := H17.as (L' := ((some b9, .cells #[u64 (((s.o.l).getD 0 ot0).p), u64 (((s.o.l).getD 0 ot0).q), u64 (((s.o.l).getD 0 ot0).r), u64 (((s.o.l).getD 0 ot0).s), .bool (((s.o.l).getD 0 ot0).ch)] 41 (0, 0)) :: (some b5, .cells #[u64 (0#64), u64 (0#64), u64 (0#64), u64 (0#64), .bool (false)] 41 (0, 0)) :: (some b1, .cells #[u64 (0#64), u64 (0#64), u64 (0#64), u64 (0#64), .bool (false)] 41 (0, 0)) :: (some b, .cells #[.slice s.t.a s.t.l.length s.t.c, .slice s.b.a s.b.l.length s.b.c, .slice (if s.o.c = 1 then s.o.a else adr s.o.a (1 * 5)) (s.o.l.length - 1) (s.o.c - 1)] 135 (0, 0)) :: (s.t.key, sobP ETr 34 s.t.pre s.t.l s.t.sp) :: (s.b.key, sobP ETr 34 s.b.pre s.b.l s.b.sp) :: (s.o.key, sobP EOt 41 s.o.pre s.o.l s.o.sp) :: R)) rfl
  clear H17
  refine wend ?_
  refine seqRegion ?_
  refine sq (r_loadA (cs' := #[u64 (((s.o.l).getD 0 ot0).p), u64 (((s.o.l).getD 0 ot0).q), u64 (((s.o.l).getD 0 ot0).r), u64 (((s.o.l).getD 0 ot0).s), .bool (((s.o.l).getD 0 ot0).ch)]) agg41 siz41 (H17'.get (k := 0) rfl) (off := 0) rfl (by exact Nat.le_of_ble_eq_true rfl) (by rfl)) ?_
  refine d_store (k := 2) (v := .agg #[u64 (((s.o.l).getD 0 ot0).p), u64 (((s.o.l).getD 0 ot0).q), u64 (((s.o.l).getD 0 ot0).r), u64 (((s.o.l).getD 0 ot0).s), .bool (((s.o.l).getD 0 ot0).ch)]) (cs' := #[u64 (((s.o.l).getD 0 ot0).p), u64 (((s.o.l).getD 0 ot0).q), u64 (((s.o.l).getD 0 ot0).r), u64 (((s.o.l).getD 0 ot0).s), .bool (((s.o.l).getD 0 ot0).ch)]) H17' rfl rfl rfl siz41 (by rfl) (by intro u hu; simp [Value.cells] at hu; first | (subst hu; rfl) | (rcases hu with rfl | rfl | rfl | rfl | rfl <;> rfl)) (by exact Nat.le_of_ble_eq_true rfl) (by rfl) ?_
  intro w19 H20 hC21
  have H20' := H20.as (L' := ((some b9, .cells #[u64 (((s.o.l).getD 0 ot0).p), u64 (((s.o.l).getD 0 ot0).q), u64 (((s.o.l).getD 0 ot0).r), u64 (((s.o.l).getD 0 ot0).s), .bool (((s.o.l).getD 0 ot0).ch)] 41 (0, 0)) :: (some b5, .cells #[u64 (0#64), u64 (0#64), u64 (0#64), u64 (0#64), .bool (false)] 41 (0, 0)) :: (some b1, .cells #[u64 (((s.o.l).getD 0 ot0).p), u64 (((s.o.l).getD 0 ot0).q), u64 (((s.o.l).getD 0 ot0).r), u64 (((s.o.l).getD 0 ot0).s), .bool (((s.o.l).getD 0 ot0).ch)] 41 (0, 0)) :: (some b, .cells #[.slice s.t.a s.t.l.length s.t.c, .slice s.b.a s.b.l.length s.b.c, .slice (if s.o.c = 1 then s.o.a else adr s.o.a (1 * 5)) (s.o.l.length - 1) (s.o.c - 1)] 135 (0, 0)) :: (s.t.key, sobP ETr 34 s.t.pre s.t.l s.t.sp) :: (s.b.key, sobP ETr 34 s.b.pre s.b.l s.b.sp) :: (s.o.key, sobP EOt 41 s.o.pre s.o.l s.o.sp) :: R)) rfl
  clear H20
  refine sq (r_assign (v := .nilIface) rfl) ?_
  refine wend ?_
  refine retAny ?_
  refine retG (rs := [.cell 4 41, .tmp 5]) (vs := [.agg #[u64 (((s.o.l).getD 0 ot0).p), u64 (((s.o.l).getD 0 ot0).q), u64 (((s.o.l).getD 0 ot0).r), u64 (((s.o.l).getD 0 ot0).s), .bool (((s.o.l).getD 0 ot0).ch)], .nilIface]) rfl ⟨r_loadA (cs' := #[u64 (((s.o.l).getD 0 ot0).p), u64 (((s.o.l).getD 0 ot0).q), u64 (((s.o.l).getD 0 ot0).r), u64 (((s.o.l).getD 0 ot0).s), .bool (((s.o.l).getD 0 ot0).ch)]) agg41 siz41 (H20'.get (k := 2) rfl) (off := 0) rfl (by exact Nat.le_of_ble_eq_true rfl) (by rfl), ⟨rfl, rfl⟩, trivial⟩ ?_
  refine ⟨_, rfl, rfl, { s with o := s.o.cut EOt }, ?_, ⟨hs.t, hs.b, Cp.cut_ok hs.o (by omega)⟩, rfl, rfl, rfl⟩
  unfold skR Sk.ob
  dsimp only
  rw [Cp.cut_row (E := EOt) (by omega)]
  unfold Cp.cut
  dsimp only
  rw [List.length_drop]
  exact (((H20'.dropk 2).dropk 1).dropk 0)

theorem next2_end (b : Nat) (s : Sk) (w : World) (hb : w.heap[b]? = some (s.ob 135)) (hG : Gl w) (kd : Int) (hl : s.o.l.length = 0) : Calls Tryd.prog 68 [.pointer (some ⟨b, 2, none⟩), i64 (kd)].toArray w (Ret fun v w' => (∃ ev, v = .tuple #[.agg #[u64 (0#64), u64 (0#64), u64 (0#64), u64 (0#64), .bool (false)], ev] ∧ Er w.heap.size w' 80 1 ev) ∧ Ext w w') := by
  have H := Hp.start No w
  unfold Sk.ob at hb
  refine enter (n := 33) Tryd.func68 rfl rfl (Nat.le_of_ble_eq_true rfl) ?_
  refine seqRegion ?_
  refine q_alloc (o := .cells #[u64 (0#64), u64 (0#64), u64 (0#64), u64 (0#64), .bool (false)] 41 (0, 0)) H zer41 (by kernel_rfl) ?_
  intro b1 w2 hb1 H3 hE4
  refine sq (r_assign (v := .nilIface) rfl) ?_
  refine wend ?_
  refine seqRegion ?_
  refine q_alloc (o := .cells #[u64 (0#64), u64 (0#64), u64 (0#64), u64 (0#64), .bool (false)] 41 (0, 0)) H3 zer41 (by kernel_rfl) ?_
  intro b5 w6 hb5 H7 hE8
  refine wend ?_
  refine seqAny ?_
  refine seqRegion ?_
  refine sq (r_move (v := .pointer (some ⟨b, 2, none⟩)) rfl) ?_
  refine sq (r_nilCheck rfl) ?_
  refine sq (r_fieldAddr (off' := 2) fld133_0 (by decide) (b := b) (off := 2) rfl (by omega)) ?_
  refine sq (r_loadC (v := .slice s.o.a s.o.l.length s.o.c) one50 (H7.keepE hb) (off := 2) rfl (by rfl)) ?_
  refine sq (r_lenS sli50 (a := s.o.a) (m := s.o.l.length) (c := s.o.c) rfl) ?_
  refine sq ((r_eqlI (a := (s.o.l.length : Nat)) (b := (0 : Int)) rfl rfl).as (v' := .bool (true)) (by exact congrArg Value.bool (decide_eq_true (by omega)))) ?_
  refine wend ?_
  refine condTrue rfl ?_
  refine seqAny ?_
  refine drawC (m := 6) [0, 0, 0, 6, 15, 31] [3, 4] (fun q vs w' => match q, vs with | 0, [] => Ext w6 w' ∧ Hp No w w' [(some b5, .cells #[u64 (0#64), u64 (0#64), u64 (0#64), u64 (0#64), .bool (false)] 41 (0, 0)), (some b1, .cells #[u64 (0#64), u64 (0#64), u64 (0#64), u64 (0#64), .bool (false)] 41 (0, 0))] | 1, [v0] => ∃ (lo20 : Nat) (T18 : TypeId) (x19 : Value), v0 = .iface T18 (x19) ∧ Er lo20 w' (80 : Int) 1 (.iface T18 x19) ∧ w.heap.size ≤ lo20 ∧ b5 < lo20 ∧ b1 < lo20 ∧ Ext w6 w' ∧ Hp No w w' [(some b5, .cells #[u64 (0#64), u64 (0#64), u64 (0#64), u64 (0#64), .bool (false)] 41 (0, 0)), (some b1, .cells #[u64 (0#64), u64 (0#64), u64 (0#64), u64 (0#64), .bool (false)] 41 (0, 0))] | 2, [v0, _] => ∃ (lo20 : Nat) (T18 : TypeId) (x19 : Value), v0 = .iface T18 (x19) ∧ True ∧ Er lo20 w' (80 : Int) 1 (.iface T18 x19) ∧ w.heap.size ≤ lo20 ∧ b5 < lo20 ∧ b1 < lo20 ∧ Chg (· = b1) w6 w' ∧ Hp No w w' [(some b5, .cells #[u64 (0#64), u64 (0#64), u64 (0#64), u64 (0#64), .bool (false)] 41 (0, 0)), (some b1, .cells #[u64 (0#64), u64 (0#64), u64 (0#64), u64 (0#64), .bool (false)] 41 (0, 0))] | _, _ => False) mixed (by kernel_rfl) (by kernel_rfl) ⟨Ext.drew _, H7.drew⟩ ?_
  refine WalkC.look rfl (fun _ => .agg #[u64 (0#64), u64 (0#64), u64 (0#64), u64 (0#64), .bool (false)]) (fun _ _ _ => rfl) (fun q r uw hlo hhi hle hF => ?_) ?_
  · skip
    have h1 : 0 ≤ q := Nat.zero_le _
    have h2 : q ≤ 1 := hhi 1 4 rfl rfl
    rcases (show q = 0 ∨ q = 1 by omega) with rfl | rfl
    · skip
      obtain ⟨hX, HH⟩ := hF
      exact Gives.run rfl (r_loadA (cs' := #[u64 (0#64), u64 (0#64), u64 (0#64), u64 (0#64), .bool (false)]) agg41 siz41 (HH.get (k := 0) rfl) (off := 0) rfl (by exact Nat.le_of_ble_eq_true rfl) (by rfl)) ⟨rfl, rfl⟩
    · skip
      obtain ⟨lo20, T18, x19, e3, hEr15, hle22, hlt23, hlt24, hX, HH⟩ := hF
      exact Gives.run rfl (r_loadA (cs' := #[u64 (0#64), u64 (0#64), u64 (0#64), u64 (0#64), .bool (false)]) agg41 siz41 (HH.get (k := 0) rfl) (off := 0) rfl (by exact Nat.le_of_ble_eq_true rfl) (by rfl)) ⟨rfl, rfl⟩
  refine WalkC.look rfl (fun _ => .iface 57 (i64 ((80 : Int)))) (fun _ _ _ => rfl) (fun q r uw _ _ _ _ => Gives.run rfl (r_mkI und57 (xv := i64 ((80 : Int))) rfl) ⟨rfl, rfl⟩) ?_
  refine WalkC.look rfl (fun _ => i64 (kd)) (fun _ _ _ => rfl) (fun q r uw _ _ _ _ => Gives.run rfl (r_move (v := i64 (kd)) rfl) ⟨rfl, rfl⟩) ?_
  refine WalkC.eff 0 rfl (fun r uw9 hF11 => ?_) ?_
  · skip
    obtain ⟨hX, H10⟩ := hF11
    dsimp only [List.take, List.map, List.cons_append, List.nil_append]
    refine Gives.ofW (d := 17) rfl rfl (fun Q' hK => ?_)
    have := H10.lt (List.mem_of_getElem? (i := 0) rfl) rfl
    have := H10.lt (List.mem_of_getElem? (i := 1) rfl) rfl
    refine c_call (vs := [.iface 57 (i64 ((80 : Int))), .string ({data := #[115, 116, 111, 99, 107]}), i64 (kd)]) call63 rfl (wrap0_ok (80 : Int) kd ({data := #[115, 116, 111, 99, 107]}) uw9 (Chg.gl H10.chg (fun x => x) hG)) ?_
    rintro v14 w12 ⟨hEr15, hE16⟩
    have H17 := H10.ext hE16
    obtain ⟨T18, x19, rfl⟩ := hEr15.iface
    obtain ⟨lo20, hlo21⟩ : ∃ lo, lo = uw9.heap.size := ⟨_, rfl⟩
    have hle22 : w.heap.size ≤ lo20 := by rw [hlo21]; exact H10.chg.size
    rw [← hlo21] at hEr15
    have hlt23 : b5 < lo20 := by omega
    have hlt24 : b1 < lo20 := by omega
    exact hK _ _ ⟨lo20, T18, x19, rfl, hEr15, hle22, hlt23, hlt24, (hX.trans hE16), H17⟩
  refine WalkC.eff 1 rfl (fun r uw25 hF27 => ?_) ?_
  · skip
    obtain ⟨lo20, T18, x19, e3, hEr15, hle22, hlt23, hlt24, hX, H26⟩ := hF27
    dsimp only [List.take, List.map, List.cons_append, List.nil_append]
    rw [e3]
    refine Gives.ofW0 rfl (fun Q' hK => ?_)
    refine d_store (k := 1) (v := .agg #[u64 (0#64), u64 (0#64), u64 (0#64), u64 (0#64), .bool (false)]) (cs' := #[u64 (0#64), u64 (0#64), u64 (0#64), u64 (0#64), .bool (false)]) H26 rfl rfl rfl siz41 (by rfl) (by intro u hu; simp [Value.cells] at hu; first | (subst hu; rfl) | (rcases hu with rfl | rfl | rfl | rfl | rfl <;> rfl)) (by exact Nat.le_of_ble_eq_true rfl) (by rfl) ?_
    intro w28 H29 hC30
    have H29' := H29.as (L' := [(some b5, .cells #[u64 (0#64), u64 (0#64), u64 (0#64), u64 (0#64), .bool (false)] 41 (0, 0)), (some b1, .cells #[u64 (0#64), u64 (0#64), u64 (0#64), u64 (0#64), .bool (false)] 41 (0, 0))]) rfl
    clear H29
    exact hK _ (fun _ => ⟨lo20, T18, x19, rfl, trivial, (Er.chgs (hC30.mono (M' := fun x => x = b1) (fun _ h => by subst h; simp)) (fun x h1 h2 h3 => by have := hC30.size; rcases h3 with rfl <;> omega) hEr15), hle22, hlt23, hlt24, ((Ext.chg hX).trans hC30), H29'⟩)
  refine WalkC.look rfl (fun r => r 3) (fun r r' h => h 3 (by decide) rfl) (fun q r uw _ _ _ _ => Gives.run rfl (r_assign rfl) ⟨rfl, rfl⟩) ?_
  refine WalkC.nil ?_
  intro r31 w32 hF34
  obtain ⟨lo20, T18, x19, e3, e4, hEr15, hle22, hlt23, hlt24, hX, H33⟩ := hF34
  dsimp only
  rw [e3]
  refine wnil ?_
  refine thenNormal ?_
  refine retAny ?_
  refine thenRet ?_
  refine retG (rs := [.cell 4 41, .tmp 5]) (vs := [.agg #[u64 (0#64), u64 (0#64), u64 (0#64), u64 (0#64), .bool (false)], .iface T18 (x19)]) rfl ⟨r_loadA (cs' := #[u64 (0#64), u64 (0#64), u64 (0#64), u64 (0#64), .bool (false)]) agg41 siz41 (H33.get (k := 1) rfl) (off := 0) rfl (by exact Nat.le_of_ble_eq_true rfl) (by rfl), ⟨rfl, rfl⟩, trivial⟩ ?_
  exact ⟨_, rfl, ⟨_, rfl, hEr15.mono hle22⟩, H33.chg⟩

theorem take2_hit (b : Nat) (s : Sk) (hs : s.ok) (R : List (Option Nat × Obj)) (w₀ w : World) (H : Hp No w₀ w (skR 34 41 135 b s ++ R)) (hl : 0 < s.o.l.length) : Calls Tryd.prog 20 [.pointer (some ⟨b, 0, none⟩)].toArray w (Ret fun v w' => v = .tuple #[.agg #[u64 (((s.o.l).getD 0 ot0).p), u64 (((s.o.l).getD 0 ot0).q), u64 (((s.o.l).getD 0 ot0).r), u64 (((s.o.l).getD 0 ot0).s), .bool (((s.o.l).getD 0 ot0).ch)], .nilIface] ∧ ∃ s' : Sk, Hp No w₀ w' (skR 34 41 135 b s' ++ R) ∧ s'.ok ∧ s'.o.l = s.o.l.drop 1 ∧ s'.t = s.t ∧ s'.b = s.b) := by
  have hct := hs.t.cap
  have hcb := hs.b.cap
  have hco := hs.o.cap
  have H := H.as (L' := ((some b, .cells #[.slice s.t.a s.t.l.length s.t.c, .slice s.b.a s.b.l.length s.b.c, .slice s.o.a s.o.l.length s.o.c] 135 (0, 0)) :: (s.t.key, sobP ETr 34 s.t.pre s.t.l s.t.sp) :: (s.b.key, sobP ETr 34 s.b.pre s.b.l s.b.sp) :: (s.o.key, sobP EOt 41 s.o.pre s.o.l s.o.sp) :: R)) rfl
  refine enter (n := 10) Tryd.func20 rfl rfl (Nat.le_of_ble_eq_true rfl) ?_
  refine seqRegion ?_
  refine q_alloc (o := .cells #[u64 (0#64), u64 (0#64), u64 (0#64), u64 (0#64), .bool (false)] 41 (0, 0)) H zer41 (by kernel_rfl) ?_
  intro b1 w2 hb1 H3 hE4
  refine sq (r_assign (v := .nilIface) rfl) ?_
  refine wend ?_
  refine seqRegion ?_
  refine sq (r_move (v := .pointer (some ⟨b, 0, none⟩)) rfl) ?_
  refine sq (r_nilCheck rfl) ?_
  refine sq (r_fieldAddr (off' := 2) fld135_2 (by decide) (b := b) (off := 0) rfl (by omega)) ?_
  have H5 := (Hp.midQ (X := [(some b1, .cells #[u64 (0#64), u64 (0#64), u64 (0#64), u64 (0#64), .bool (false)] 41 (0, 0))]) (A := skR 34 41 135 b s) (Y := R) H3).as (L' := skR 34 41 135 b s ++ ([(some b1, .cells #[u64 (0#64), u64 (0#64), u64 (0#64), u64 (0#64), .bool (false)] 41 (0, 0))] ++ R)) rfl
  refine c_call (vs := [.pointer (some ⟨b, 2, none⟩), i64 ((2 : Int))]) call68 rfl (next2_hit b s hs ([(some b1, .cells #[u64 (0#64), u64 (0#64), u64 (0#64), u64 (0#64), .bool (false)] 41 (0, 0))] ++ R) w₀ w2 H5 (2 : Int) hl) ?_
  rintro _ w6 ⟨rfl, s8, HN9, hok10, hd11, he12, he13⟩
  have H14 := (Hp.midQ (X := skR 34 41 135 b s8) (A := [(some b1, .cells #[u64 (0#64), u64 (0#64), u64 (0#64), u64 (0#64), .bool (false)] 41 (0, 0))]) (Y := R) HN9).as (L' := ((some b1, .cells #[u64 (0#64), u64 (0#64), u64 (0#64), u64 (0#64), .bool (false)] 41 (0, 0)) :: (skR 34 41 135 b s8 ++ R))) rfl
  refine sq (r_extract (vs := #[.agg #[u64 (((s.o.l).getD 0 ot0).p), u64 (((s.o.l).getD 0 ot0).q), u64 (((s.o.l).getD 0 ot0).r), u64 (((s.o.l).getD 0 ot0).s), .bool (((s.o.l).getD 0 ot0).ch)], .nilIface]) rfl rfl) ?_
  refine sq (r_extract (vs := #[.agg #[u64 (((s.o.l).getD 0 ot0).p), u64 (((s.o.l).getD 0 ot0).q), u64 (((s.o.l).getD 0 ot0).r), u64 (((s.o.l).getD 0 ot0).s), .bool (((s.o.l).getD 0 ot0).ch)], .nilIface]) rfl rfl) ?_
  refine d_store (k := 0) (v := .agg #[u64 (((s.o.l).getD 0 ot0).p), u64 (((s.o.l).getD 0 ot0).q), u64 (((s.o.l).getD 0 ot0).r), u64 (((s.o.l).getD 0 ot0).s), .bool (((s.o.l).getD 0 ot0).ch)]) (cs' := #[u64 (((s.o.l).getD 0 ot0).p), u64 (((s.o.l).getD 0 ot0).q), u64 (((s.o.l).getD 0 ot0).r), u64 (((s.o.l).getD 0 ot0).s), .bool (((s.o.l).getD 0 ot0).ch)]) H14 rfl rfl rfl siz41 (by rfl) (by intro u hu; simp [Value.cells] at hu; first | (subst hu; rfl) | (rcases hu with rfl | rfl | rfl | rfl | rfl <;> rfl)) (by exact Nat.le_of_ble_eq_true rfl) (by rfl) ?_
  intro w15 H16 hC17
  have H16' := H16.as (L' := ((some b1, .cells #[u64 (((s.o.l).getD 0 ot0).p), u64 (((s.o.l).getD 0 ot0).q), u64 (((s.o.l).getD 0 ot0).r), u64 (((s.o.l).getD 0 ot0).s), .bool (((s.o.l).getD 0 ot0).ch)] 41 (0, 0)) :: (skR 34 41 135 b s8 ++ R))) rfl
  clear H16
  refine sq (r_assign (v := .nilIface) rfl) ?_
  refine wend ?_
  refine retAny ?_
  refine retG (rs := [.cell 2 41, .tmp 3]) (vs := [.agg #[u64 (((s.o.l).getD 0 ot0).p), u64 (((s.o.l).getD 0 ot0).q), u64 (((s.o.l).getD 0 ot0).r), u64 (((s.o.l).getD 0 ot0).s), .bool (((s.o.l).getD 0 ot0).ch)], .nilIface]) rfl ⟨r_loadA (cs' := #[u64 (((s.o.l).getD 0 ot0).p), u64 (((s.o.l).getD 0 ot0).q), u64 (((s.o.l).getD 0 ot0).r), u64 (((s.o.l).getD 0 ot0).s), .bool (((s.o.l).getD 0 ot0).ch)]) agg41 siz41 (H16'.get (k := 0) rfl) (off := 0) rfl (by exact Nat.le_of_ble_eq_true rfl) (by rfl), ⟨rfl, rfl⟩, trivial⟩ ?_
  exact ⟨_, rfl, rfl, s8, (H16'.dropk 0), hok10, hd11, he12, he13⟩

theorem take2_end (b : Nat) (s : Sk) (w : World) (hb : w.heap[b]? = some (s.ob 135)) (hG : Gl w) (hl : s.o.l.length = 0) : Calls Tryd.prog 20 [.pointer (some ⟨b, 0, none⟩)].toArray w (Ret fun v w' => (∃ ev, v = .tuple #[.agg #[u64 (0#64), u64 (0#64), u64 (0#64), u64 (0#64), .bool (false)], ev] ∧ Er w.heap.size w' 80 1 ev) ∧ Ext w w') := by
  have H := Hp.start No w
  have hb0 := hb
  unfold Sk.ob at hb
  refine enter (n := 10) Tryd.func20 rfl rfl (Nat.le_of_ble_eq_true rfl) ?_
  refine seqRegion ?_
  refine q_alloc (o := .cells #[u64 (0#64), u64 (0#64), u64 (0#64), u64 (0#64), .bool (false)] 41 (0, 0)) H zer41 (by kernel_rfl) ?_
  intro b1 w2 hb1 H3 hE4
  refine sq (r_assign (v := .nilIface) rfl) ?_
  refine wend ?_
  refine seqRegion ?_
  refine sq (r_move (v := .pointer (some ⟨b, 0, none⟩)) rfl) ?_
  refine sq (r_nilCheck rfl) ?_
  refine sq (r_fieldAddr (off' := 2) fld135_2 (by decide) (b := b) (off := 0) rfl (by omega)) ?_
  have := H3.lt (List.mem_of_getElem? (i := 0) rfl) rfl
  refine c_call (vs := [.pointer (some ⟨b, 2, none⟩), i64 ((2 : Int))]) call68 rfl (next2_end b s w2 (H3.keepE hb0) (Chg.gl H3.chg (fun x => x) hG) (2 : Int) hl) ?_
  rintro _ w5 ⟨⟨v7, rfl, hEr8⟩, hE9⟩
  have H10 := H3.ext hE9
  obtain ⟨T11, x12, rfl⟩ := hEr8.iface
  refine sq (r_extract (vs := #[.agg #[u64 (0#64), u64 (0#64), u64 (0#64), u64 (0#64), .bool (false)], .iface T11 (x12)]) rfl rfl) ?_
  refine sq (r_extract (vs := #[.agg #[u64 (0#64), u64 (0#64), u64 (0#64), u64 (0#64), .bool (false)], .iface T11 (x12)]) rfl rfl) ?_
  refine d_store (k := 0) (v := .agg #[u64 (0#64), u64 (0#64), u64 (0#64), u64 (0#64), .bool (false)]) (cs' := #[u64 (0#64), u64 (0#64), u64 (0#64), u64 (0#64), .bool (false)]) H10 rfl rfl rfl siz41 (by rfl) (by intro u hu; simp [Value.cells] at hu; first | (subst hu; rfl) | (rcases hu with rfl | rfl | rfl | rfl | rfl <;> rfl)) (by exact Nat.le_of_ble_eq_true rfl) (by rfl) ?_
  intro w13 H14 hC15
  have H14' := H14.as (L' := [(some b1, .cells #[u64 (0#64), u64 (0#64), u64 (0#64), u64 (0#64), .bool (false)] 41 (0, 0))]) rfl
  clear H14
  refine sq (r_assign (v := .iface T11 (x12)) rfl) ?_
  refine wend ?_
  refine retAny ?_
  refine retG (rs := [.cell 2 41, .tmp 3]) (vs := [.agg #[u64 (0#64), u64 (0#64), u64 (0#64), u64 (0#64), .bool (false)], .iface T11 (x12)]) rfl ⟨r_loadA (cs' := #[u64 (0#64), u64 (0#64), u64 (0#64), u64 (0#64), .bool (false)]) agg41 siz41 (H14'.get (k := 0) rfl) (off := 0) rfl (by exact Nat.le_of_ble_eq_true rfl) (by rfl), ⟨rfl, rfl⟩, trivial⟩ ?_
  exact ⟨_, rfl, ⟨_, rfl, (Er.chgs (hC15.mono (M' := fun x => x = b1) (fun _ h => by subst h; simp)) (fun x h1 h2 h3 => by have := hC15.size; rcases h3 with rfl <;> omega) hEr8).mono H3.chg.size⟩, H14'.chg⟩

theorem left3_ok (b : Nat) (s : Sk) (w : World) (hb : w.heap[b]? = some (s.ob 135)) : Calls Tryd.prog 21 [.pointer (some ⟨b, 0, none⟩)].toArray w (Ret fun v w' => v = .tuple #[i64 (s.t.l.length : Nat), i64 (s.b.l.length : Nat), i64 (s.o.l.length : Nat)] ∧ Ext w w') := by
  have H := Hp.start No w
  unfold Sk.ob at hb
  refine enter (n := 23) Tryd.func21 rfl rfl (Nat.le_of_ble_eq_true rfl) ?_
  refine seqRegion ?_
  refine sq (r_assign (v := i64 ((0 : Int))) rfl) ?_
  refine sq (r_assign (v := i64 ((0 : Int))) rfl) ?_
  refine sq (r_assign (v := i64 ((0 : Int))) rfl) ?_
  refine wend ?_
  refine seqAny ?_
  refine drawAny (K := [none, none, none, none, none, none, none, none, none, none, none, none, none, none, none, none, none, none, none, none, none]) [0, 1, 3, 7, 15, 31, 0, 64, 192, 448, 960, 1984, 0, 4096, 12288, 28672, 61440, 126976, 63, 266239, 1048575] (fun w' => Ext w w') (fun w' w'' => Ext w' w'') mixed (by kernel_rfl) (Ext.drew _) (fun _ _ h h' => h.trans h') ?_ ?_
  · exact relNone (by decide)
  refine ⟨.pointer (some ⟨b, 0, none⟩), fun _ uw1 hC2 _ => Gives.run rfl (r_move (v := .pointer (some ⟨b, 0, none⟩)) rfl) ⟨rfl, Chg.refl _ _⟩, ?_⟩
  refine ⟨.pointer (some ⟨b, 0, none⟩), fun _ uw3 hC4 _ => Gives.run rfl (r_nilCheck rfl) ⟨rfl, Chg.refl _ _⟩, ?_⟩
  refine ⟨.pointer (some ⟨b, 0, none⟩), fun _ uw5 hC6 _ => Gives.run rfl (r_fieldAddr (off' := 0) fld135_0 (by decide) (b := b) (off := 0) rfl (by omega)) ⟨rfl, Chg.refl _ _⟩, ?_⟩
  refine ⟨.pointer (some ⟨b, 0, none⟩), fun _ uw7 hC8 _ => Gives.run rfl (r_fieldAddr (off' := 0) fld131_0 (by decide) (b := b) (off := 0) rfl (by omega)) ⟨rfl, Chg.refl _ _⟩, ?_⟩
  refine ⟨.slice s.t.a s.t.l.length s.t.c, fun _ uw9 hC10 _ => Gives.run rfl (r_loadC (v := .slice s.t.a s.t.l.length s.t.c) one49 ((H.ext hC10).keepE hb) (off := 0) rfl (by rfl)) ⟨rfl, Chg.refl _ _⟩, ?_⟩
  refine ⟨i64 ((s.t.l.length : Nat)), fun _ uw11 hC12 _ => Gives.run rfl (r_lenS sli49 (a := s.t.a) (m := s.t.l.length) (c := s.t.c) rfl) ⟨rfl, Chg.refl _ _⟩, ?_⟩
  refine ⟨.pointer (some ⟨b, 0, none⟩), fun _ uw13 hC14 _ => Gives.run rfl (r_move (v := .pointer (some ⟨b, 0, none⟩)) rfl) ⟨rfl, Chg.refl _ _⟩, ?_⟩
  refine ⟨.pointer (some ⟨b, 0, none⟩), fun _ uw15 hC16 _ => Gives.run rfl (r_nilCheck rfl) ⟨rfl, Chg.refl _ _⟩, ?_⟩
  refine ⟨.pointer (some ⟨b, 1, none⟩), fun _ uw17 hC18 _ => Gives.run rfl (r_fieldAddr (off' := 1) fld135_1 (by decide) (b := b) (off := 0) rfl (by omega)) ⟨rfl, Chg.refl _ _⟩, ?_⟩
  refine ⟨.pointer (some ⟨b, 1, none⟩), fun _ uw19 hC20 _ => Gives.run rfl (r_fieldAddr (off' := 1) fld131_0 (by decide) (b := b) (off := 1) rfl (by omega)) ⟨rfl, Chg.refl _ _⟩, ?_⟩
  refine ⟨.slice s.b.a s.b.l.length s.b.c, fun _ uw21 hC22 _ => Gives.run rfl (r_loadC (v := .slice s.b.a s.b.l.length s.b.c) one49 ((H.ext hC22).keepE hb) (off := 1) rfl (by rfl)) ⟨rfl, Chg.refl _ _⟩, ?_⟩
  refine ⟨i64 ((s.b.l.length : Nat)), fun _ uw23 hC24 _ => Gives.run rfl (r_lenS sli49 (a := s.b.a) (m := s.b.l.length) (c := s.b.c) rfl) ⟨rfl, Chg.refl _ _⟩, ?_⟩
  refine ⟨.pointer (some ⟨b, 0, none⟩), fun _ uw25 hC26 _ => Gives.run rfl (r_move (v := .pointer (some ⟨b, 0, none⟩)) rfl) ⟨rfl, Chg.refl _ _⟩, ?_⟩
  refine ⟨.pointer (some ⟨b, 0, none⟩), fun _ uw27 hC28 _ => Gives.run rfl (r_nilCheck rfl) ⟨rfl, Chg.refl _ _⟩, ?_⟩
  refine ⟨.pointer (some ⟨b, 2, none⟩), fun _ uw29 hC30 _ => Gives.run rfl (r_fieldAddr (off' := 2) fld135_2 (by decide) (b := b) (off := 0) rfl (by omega)) ⟨rfl, Chg.refl _ _⟩, ?_⟩
  refine ⟨.pointer (some ⟨b, 2, none⟩), fun _ uw31 hC32 _ => Gives.run rfl (r_fieldAddr (off' := 2) fld133_0 (by decide) (b := b) (off := 2) rfl (by omega)) ⟨rfl, Chg.refl _ _⟩, ?_⟩
  refine ⟨.slice s.o.a s.o.l.length s.o.c, fun _ uw33 hC34 _ => Gives.run rfl (r_loadC (v := .slice s.o.a s.o.l.length s.o.c) one50 ((H.ext hC34).keepE hb) (off := 2) rfl (by rfl)) ⟨rfl, Chg.refl _ _⟩, ?_⟩
  refine ⟨i64 ((s.o.l.length : Nat)), fun _ uw35 hC36 _ => Gives.run rfl (r_lenS sli50 (a := s.o.a) (m := s.o.l.length) (c := s.o.c) rfl) ⟨rfl, Chg.refl _ _⟩, ?_⟩
  refine ⟨i64 ((s.t.l.length : Nat)), fun _ uw37 hC38 _ => Gives.run rfl (r_assign (v := i64 ((s.t.l.length : Nat))) rfl) ⟨rfl, Chg.refl _ _⟩, ?_⟩
  refine ⟨i64 ((s.b.l.length : Nat)), fun _ uw39 hC40 _ => Gives.run rfl (r_assign (v := i64 ((s.b.l.length : Nat))) rfl) ⟨rfl, Chg.refl _ _⟩, ?_⟩
  refine ⟨i64 ((s.o.l.length : Nat)), fun _ uw41 hC42 _ => Gives.run rfl (r_assign (v := i64 ((s.o.l.length : Nat))) rfl) ⟨rfl, Chg.refl _ _⟩, ?_⟩
  intro r46 w43 hE45 hF
  have H44 := H.ext hE45
  refine wnil ?_
  refine thenNormal ?_
  refine retAny ?_
  refine retG (rs := [.tmp 2, .tmp 3, .tmp 4]) (vs := [i64 ((s.t.l.length : Nat)), i64 ((s.b.l.length : Nat)), i64 ((s.o.l.length : Nat))]) rfl ⟨⟨rfl, rfl⟩, ⟨rfl, rfl⟩, ⟨rfl, rfl⟩, trivial⟩ ?_
  exact ⟨_, rfl, rfl, H44.chg⟩
end Go.Proofs.YteofdmdpaejgaaaDoor.Co
