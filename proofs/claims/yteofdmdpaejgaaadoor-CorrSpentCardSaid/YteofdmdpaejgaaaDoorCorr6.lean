/- The walks of the stocks. -/
import Derived.Test.YteofdmdpaejgaaaDoorCorr3
namespace Go.Proofs.YteofdmdpaejgaaaDoor.Co
open Go Go.Proofs.YteofdmdpaejgaaaDoor.Vc Go.Proofs.YteofdmdpaejgaaaDoor.Er
set_option linter.unusedVariables false
theorem call15 : callable Tryd.prog 15 = true := by kernel_rfl
theorem call19 : callable Tryd.prog 19 = true := by kernel_rfl
theorem call20 : callable Tryd.prog 20 = true := by kernel_rfl
theorem call21 : callable Tryd.prog 21 = true := by kernel_rfl
theorem call22 : callable Tryd.prog 22 = true := by kernel_rfl
theorem fld34_0 : fld Tryd.prog 34 0 = some (0, 1, 32) := by kernel_rfl
theorem fld34_1 : fld Tryd.prog 34 1 = some (1, 1, 32) := by kernel_rfl
theorem fld34_2 : fld Tryd.prog 34 2 = some (2, 1, 32) := by kernel_rfl
theorem fld41_1 : fld Tryd.prog 41 1 = some (4, 1, 4) := by kernel_rfl
theorem gty38 : Tryd.prog.eqGuardType Tryd.prog.depth 38 = false := by kernel_rfl
theorem one32 : isOne Tryd.prog 32 = true := by kernel_rfl
theorem one4 : isOne Tryd.prog 4 = true := by kernel_rfl
theorem und3 : Tryd.prog.underlying 3 = some (.int .i64) := by kernel_rfl
theorem und4 : Tryd.prog.underlying 4 = some .bool := by kernel_rfl
theorem und45 : Tryd.prog.underlying 45 = some (.int .u64) := by kernel_rfl
set_option maxRecDepth 20000 in
set_option maxHeartbeats 1000000 in
theorem corrspent_ok (ts bs : List Tr) (xa ya : Option Addr) (xc yc : Nat) (x3 : Int) (w₀ : World) (hG : Gl w₀) (hT : Rd ETr w₀ xa ts) (hB : Rd ETr w₀ ya bs) (hlt : ts.length * 24 ≤ 140737488355328) (hlb : bs.length * 24 ≤ 140737488355328) : Calls Tryd.prog 6 [.slice xa ts.length xc, .slice ya bs.length yc, i64 (x3)].toArray w₀ (Ret fun v w' => v = .bool true ∧ Ext w₀ w') := by
  have H := Hp.start No w₀
  refine enter (n := 110) Tryd.func6 rfl rfl (Nat.le_of_ble_eq_true rfl) ?_
  refine seqRegion ?_
  refine sq (r_assign (v := .bool (false)) rfl) ?_
  refine wend ?_
  refine seqAny ?_
  refine seqRegion ?_
  refine c_call (vs := []) call15 rfl (cawake_ok w₀ (Chg.gl H.chg (fun x => x) hG)) ?_
  rintro _ w1 ⟨rfl, hE2⟩
  have H3 := H.ext hE2
  refine sq (r_notT rfl) ?_
  refine sq (r_move (v := .bool (false)) rfl) ?_
  refine sqAny (v := .slice xa ts.length xc) (w' := w1) (wantedSome (d' := 21) (b := false) rfl rfl rfl) (r_move (v := .slice xa ts.length xc) rfl) ?_
  refine sqAny (v := i64 ((ts.length : Nat))) (w' := w1) (wantedSome (d' := 21) (b := false) rfl rfl rfl) (r_lenS sli49 (a := xa) (m := ts.length) (c := xc) rfl) ?_
  refine sqAny (v := .slice ya bs.length yc) (w' := w1) (wantedSome (d' := 21) (b := false) rfl rfl rfl) (r_move (v := .slice ya bs.length yc) rfl) ?_
  refine sqAny (v := i64 ((bs.length : Nat))) (w' := w1) (wantedSome (d' := 21) (b := false) rfl rfl rfl) (r_lenS sli49 (a := ya) (m := bs.length) (c := yc) rfl) ?_
  refine sqAny (v := i64 ((ts.length : Nat) + (bs.length : Nat))) (w' := w1) (wantedSome (d' := 21) (b := false) rfl rfl rfl) (r_addI (a := (ts.length : Nat)) (b := (bs.length : Nat)) rfl rfl (by omega)) ?_
  refine sqAny (v := .bool (decide (((200 : Int) : Int) < ((ts.length : Nat) + (bs.length : Nat))))) (w' := w1) (wantedSome (d' := 21) (b := false) rfl rfl rfl) (r_gtrI (a := (ts.length : Nat) + (bs.length : Nat)) (b := (200 : Int)) rfl rfl) ?_
  refine sq (r_pickF (v := .bool (decide (((200 : Int) : Int) < ((ts.length : Nat) + (bs.length : Nat))))) rfl rfl) ?_
  refine wend ?_
  refine condProp (((200 : Int) : Int) < ((ts.length : Nat) + (bs.length : Nat))) rfl (fun c28 => ?_) (fun c28 => ?_)
  · skip
    refine seqRegion ?_
    refine c_call (vs := []) call15 rfl (cawake_ok w1 (Chg.gl H3.chg (fun x => x) hG)) ?_
    rintro _ w4 ⟨rfl, hE5⟩
    have H6 := H3.ext hE5
    refine sq (r_assign (v := .bool (true)) rfl) ?_
    refine wend ?_
    refine retAny ?_
    refine thenRet ?_
    refine retG (rs := [.tmp 6]) (vs := [.bool (true)]) rfl ⟨⟨rfl, rfl⟩, trivial⟩ ?_
    exact ⟨_, rfl, rfl, H6.chg⟩
  · skip
    refine skipAny ?_
    refine thenNormal ?_
    refine seqRegion ?_
    refine sq (r_move (v := .slice xa ts.length xc) rfl) ?_
    refine sq (r_move (v := .slice ya bs.length yc) rfl) ?_
    refine c_call (vs := [.slice xa ts.length xc, .slice ya bs.length yc, .slice none 0 0]) call22 rfl (cload_ok ts bs ([] : List Ot) xa ya none xc yc 0 w1 (hT.ext H3.chg) (hB.ext H3.chg) Rd.nil (by first | omega | simp) (by first | omega | simp) (by first | omega | simp) ) ?_
    rintro _ w7 ⟨⟨b9, s10, rfl, hok11, hf12, hf13, hf14, HN15⟩, hE16⟩
    have H17 := (H3.join HN15).as (L' := [(some b9, .cells #[.slice s10.t.a s10.t.l.length s10.t.c, .slice s10.b.a s10.b.l.length s10.b.c, .slice s10.o.a s10.o.l.length s10.o.c] 135 (0, 0)), (s10.t.key, sobP ETr 34 s10.t.pre s10.t.l s10.t.sp), (s10.b.key, sobP ETr 34 s10.b.pre s10.b.l s10.b.sp), (s10.o.key, sobP EOt 41 s10.o.pre s10.o.l s10.o.sp)]) rfl
    refine sq (r_assign (v := .pointer (some ⟨b9, 0, none⟩)) rfl) ?_
    refine wend ?_
    refine seqAny ?_
    refine seqRegion ?_
    refine sq (r_move (v := .pointer (some ⟨b9, 0, none⟩)) rfl) ?_
    refine sq (r_eqlPN und24 rfl rfl) ?_
    refine wend ?_
    refine condFalse rfl ?_
    refine skipAny ?_
    refine thenNormal ?_
    refine seqRegion ?_
    refine sq (r_move (v := i64 (x3)) rfl) ?_
    refine sq (r_Ito64 und3 und45 (a := x3) rfl) ?_
    refine sq (r_move (v := .slice xa ts.length xc) rfl) ?_
    refine sq (r_lenS sli49 (a := xa) (m := ts.length) (c := xc) rfl) ?_
    refine sq ((r_addI (a := (ts.length : Nat)) (b := (3 : Int)) rfl rfl (by omega)).as (v' := i64 (((ts.length + 3) : Nat))) (by exact congrArg i64 (by omega))) ?_
    refine sq (r_Ito64 und3 und45 (a := ((ts.length + 3) : Nat)) rfl) ?_
    obtain ⟨n, hn, hn2⟩ := modBig (BitVec.ofInt 64 x3) _ (ts.length + 3) (by omega) (by omega) rfl
    refine sq (r_rem64 (a := BitVec.ofInt 64 x3) (b := BitVec.ofInt 64 ((ts.length + 3) : Nat)) rfl rfl (by exact ofInt_neBig _ (by omega) (by omega))) ?_
    refine sq ((r_64toI und45 und3 (a := (BitVec.ofInt 64 x3) % (BitVec.ofInt 64 ((ts.length + 3) : Nat))) rfl).as (v' := i64 ((n : Nat))) (by exact congrArg i64 hn)) ?_
    refine sq (r_assign (v := i64 ((n : Nat))) rfl) ?_
    refine wend ?_
    refine seqAny ?_
    refine seqRegion ?_
    refine sq (r_assign (v := i64 ((0 : Int))) rfl) ?_
    refine wend ?_
    refine blockAny ?_
    refine loopAny (σ := Nat × Sk) (fun (zi, x1) => [(0, .slice xa ts.length xc), (1, .slice ya bs.length yc), (2, i64 ((n : Nat))), (7, .pointer (some ⟨b9, 0, none⟩)), (8, i64 ((zi : Nat)))]) (fun (zi, x1) w' => (zi ≤ n ∧ x1.ok ∧ x1.t.l = (ts).drop zi ∧ x1.b.l = bs ∧ x1.o.l = ([] : List Ot)) ∧ Hp No w₀ w' [(some b9, .cells #[.slice x1.t.a x1.t.l.length x1.t.c, .slice x1.b.a x1.b.l.length x1.b.c, .slice x1.o.a x1.o.l.length x1.o.c] 135 (0, 0)), (x1.t.key, sobP ETr 34 x1.t.pre x1.t.l x1.t.sp), (x1.b.key, sobP ETr 34 x1.b.pre x1.b.l x1.b.sp), (x1.o.key, sobP EOt 41 x1.o.pre x1.o.l x1.o.sp)]) (fun (zi, x1) => n - zi) ((0, s10)) ?_ ?_ ?_
    · exact ⟨rfl, rfl, rfl, rfl, rfl, trivial⟩
    · exact ⟨⟨Nat.zero_le _, hok11, hf12, hf13, hf14⟩, H17⟩
    rintro ⟨zi, x1⟩ ρ w18 ⟨⟨hzi, hkx1, hftx1, hfbx1, hfox1⟩, HLx1⟩
    refine seqAny ?_
    refine seqRegion ?_
    refine sq (r_move (v := i64 ((zi : Nat))) rfl) ?_
    refine sq (r_move (v := i64 ((n : Nat))) rfl) ?_
    refine sq (r_lssI (a := (zi : Nat)) (b := (n : Nat)) rfl rfl) ?_
    refine wend ?_
    refine condProp (((zi : Nat) : Int) < (n : Nat)) rfl (fun c45 => ?_) (fun c45 => ?_)
    · skip
      refine skipAny ?_
      refine thenNormal ?_
      refine seqAny ?_
      refine blockAny ?_
      by_cases hA : zi < ts.length
      · skip
        refine seqRegion ?_
        refine sq (r_move (v := .pointer (some ⟨b9, 0, none⟩)) rfl) ?_
        have H20 := (HLx1).as (L' := skR 34 41 135 b9 x1 ++ []) rfl
        refine c_call (vs := [.pointer (some ⟨b9, 0, none⟩)]) call18 rfl (take0_hit b9 x1 hkx1 [] w₀ w18 H20 (by rw [hftx1]; rw [List.length_drop]; omega)) ?_
        rintro _ w21 ⟨rfl, s23, HN24, hok25, hd26, he27, he28⟩
        have H29 := HN24.as (L' := [(some b9, .cells #[.slice s23.t.a s23.t.l.length s23.t.c, .slice s23.b.a s23.b.l.length s23.b.c, .slice s23.o.a s23.o.l.length s23.o.c] 135 (0, 0)), (s23.t.key, sobP ETr 34 s23.t.pre s23.t.l s23.t.sp), (s23.b.key, sobP ETr 34 s23.b.pre s23.b.l s23.b.sp), (s23.o.key, sobP EOt 41 s23.o.pre s23.o.l s23.o.sp)]) rfl
        rw [hftx1]
        have hf30 : s23.b.l = bs := by rw [he27]; exact hfbx1
        have hf31 : s23.o.l = ([] : List Ot) := by rw [he28]; exact hfox1
        have hf32 : s23.t.l = (ts).drop (zi + 1) := by rw [hd26, hftx1, List.drop_drop]
        refine sq (r_move (v := .tuple #[.agg #[u64 (((ts).drop zi).getD 0 tr0).a, u64 (((ts).drop zi).getD 0 tr0).b, u64 (((ts).drop zi).getD 0 tr0).c], .nilIface]) rfl) ?_
        refine sq (r_extract (vs := #[.agg #[u64 (((ts).drop zi).getD 0 tr0).a, u64 (((ts).drop zi).getD 0 tr0).b, u64 (((ts).drop zi).getD 0 tr0).c], .nilIface]) rfl rfl) ?_
        refine sq (r_extract (vs := #[.agg #[u64 (((ts).drop zi).getD 0 tr0).a, u64 (((ts).drop zi).getD 0 tr0).b, u64 (((ts).drop zi).getD 0 tr0).c], .nilIface]) rfl rfl) ?_
        refine q_alloc (o := .cells #[u64 (0#64), u64 (0#64), u64 (0#64)] 34 (0, 0)) H29 zer34 (by kernel_rfl) ?_
        intro b33 w34 hb33 H35 hE36
        refine d_store (k := 0) (v := .agg #[u64 (((ts).drop zi).getD 0 tr0).a, u64 (((ts).drop zi).getD 0 tr0).b, u64 (((ts).drop zi).getD 0 tr0).c]) (cs' := #[u64 ((((ts).drop zi).getD 0 tr0).a), u64 ((((ts).drop zi).getD 0 tr0).b), u64 ((((ts).drop zi).getD 0 tr0).c)]) H35 rfl rfl rfl siz34 (by rfl) (by intro u hu; simp [Value.cells] at hu; first | (subst hu; rfl) | (rcases hu with rfl | rfl | rfl <;> rfl)) (by exact Nat.le_of_ble_eq_true rfl) (by rfl) ?_
        intro w37 H38 hC39
        have H38' := H38.as (L' := [(some b33, .cells #[u64 ((((ts).drop zi).getD 0 tr0).a), u64 ((((ts).drop zi).getD 0 tr0).b), u64 ((((ts).drop zi).getD 0 tr0).c)] 34 (0, 0)), (some b9, .cells #[.slice s23.t.a s23.t.l.length s23.t.c, .slice s23.b.a s23.b.l.length s23.b.c, .slice s23.o.a s23.o.l.length s23.o.c] 135 (0, 0)), (s23.t.key, sobP ETr 34 s23.t.pre s23.t.l s23.t.sp), (s23.b.key, sobP ETr 34 s23.b.pre s23.b.l s23.b.sp), (s23.o.key, sobP EOt 41 s23.o.pre s23.o.l s23.o.sp)]) rfl
        clear H38
        refine sq (r_assign (v := .nilIface) rfl) ?_
        refine wend ?_
        refine seqRegion ?_
        refine sq (r_move (v := .nilIface) rfl) ?_
        refine sq (r_eqlNN isI27 rfl rfl) ?_
        refine sq (r_move (v := i64 ((zi : Nat))) rfl) ?_
        refine sq (r_move (v := .slice xa ts.length xc) rfl) ?_
        refine sq (r_lenS sli49 (a := xa) (m := ts.length) (c := xc) rfl) ?_
        refine sq (r_lssI (a := (zi : Nat)) (b := (ts.length : Nat)) rfl rfl) ?_
        refine sq ((r_neqB und4 (a := true) (b := decide (((zi : Nat) : Int) < (ts.length : Nat))) rfl rfl).as (v' := .bool (false)) (by exact congrArg Value.bool (by rw [decide_eq_true (by omega)]; rfl))) ?_
        refine wend ?_
        refine condFalse rfl ?_
        refine skipAny ?_
        refine blockNormal ?_
        refine thenNormal ?_
        refine oneRegion ?_
        refine sq (r_move (v := i64 ((zi : Nat))) rfl) ?_
        refine sq (r_addI (a := (zi : Nat)) (b := (1 : Int)) rfl rfl (by omega)) ?_
        refine sq (r_assign (v := i64 ((zi : Nat) + (1 : Int))) rfl) ?_
        refine wnil ?_
        refine thenNormal ?_
        exact ⟨(zi + 1, s23), _, rfl, ⟨rfl, rfl, rfl, rfl, rfl, trivial⟩, ⟨⟨by omega, hok25, hf32, hf30, hf31⟩, (H38'.dropk 0)⟩, by show n - (zi + 1) < n - zi; omega⟩
      · skip
        refine seqRegion ?_
        refine sq (r_move (v := .pointer (some ⟨b9, 0, none⟩)) rfl) ?_
        have := HLx1.lt (List.mem_of_getElem? (i := 0) rfl) rfl
        refine c_call (vs := [.pointer (some ⟨b9, 0, none⟩)]) call18 rfl (take0_end b9 x1 w18 (HLx1.get (k := 0) rfl) (Chg.gl HLx1.chg (fun x => x) hG) (by rw [hftx1]; first | (rw [List.length_drop]; omega) | rfl)) ?_
        rintro _ w41 ⟨⟨v43, rfl, hEr44⟩, hE45⟩
        have H46 := HLx1.ext hE45
        obtain ⟨T47, x48, rfl⟩ := hEr44.iface
        refine sq (r_move (v := .tuple #[.agg #[u64 (0#64), u64 (0#64), u64 (0#64)], .iface T47 (x48)]) rfl) ?_
        refine sq (r_extract (vs := #[.agg #[u64 (0#64), u64 (0#64), u64 (0#64)], .iface T47 (x48)]) rfl rfl) ?_
        refine sq (r_extract (vs := #[.agg #[u64 (0#64), u64 (0#64), u64 (0#64)], .iface T47 (x48)]) rfl rfl) ?_
        refine q_alloc (o := .cells #[u64 (0#64), u64 (0#64), u64 (0#64)] 34 (0, 0)) H46 zer34 (by kernel_rfl) ?_
        intro b49 w50 hb49 H51 hE52
        refine d_store (k := 0) (v := .agg #[u64 (0#64), u64 (0#64), u64 (0#64)]) (cs' := #[u64 (0#64), u64 (0#64), u64 (0#64)]) H51 rfl rfl rfl siz34 (by rfl) (by intro u hu; simp [Value.cells] at hu; first | (subst hu; rfl) | (rcases hu with rfl | rfl | rfl <;> rfl)) (by exact Nat.le_of_ble_eq_true rfl) (by rfl) ?_
        intro w53 H54 hC55
        have H54' := H54.as (L' := [(some b49, .cells #[u64 (0#64), u64 (0#64), u64 (0#64)] 34 (0, 0)), (some b9, .cells #[.slice x1.t.a x1.t.l.length x1.t.c, .slice x1.b.a x1.b.l.length x1.b.c, .slice x1.o.a x1.o.l.length x1.o.c] 135 (0, 0)), (x1.t.key, sobP ETr 34 x1.t.pre x1.t.l x1.t.sp), (x1.b.key, sobP ETr 34 x1.b.pre x1.b.l x1.b.sp), (x1.o.key, sobP EOt 41 x1.o.pre x1.o.l x1.o.sp)]) rfl
        clear H54
        refine sq (r_assign (v := .iface T47 (x48)) rfl) ?_
        refine wend ?_
        refine seqRegion ?_
        refine sq (r_move (v := .iface T47 (x48)) rfl) ?_
        refine sq (r_eqlIN isI27 rfl rfl) ?_
        refine sq (r_move (v := i64 ((zi : Nat))) rfl) ?_
        refine sq (r_move (v := .slice xa ts.length xc) rfl) ?_
        refine sq (r_lenS sli49 (a := xa) (m := ts.length) (c := xc) rfl) ?_
        refine sq (r_lssI (a := (zi : Nat)) (b := (ts.length : Nat)) rfl rfl) ?_
        refine sq ((r_neqB und4 (a := false) (b := decide (((zi : Nat) : Int) < (ts.length : Nat))) rfl rfl).as (v' := .bool (false)) (by exact congrArg Value.bool (by rw [decide_eq_false (by omega)]; rfl))) ?_
        refine wend ?_
        refine condFalse rfl ?_
        refine skipAny ?_
        refine blockNormal ?_
        refine thenNormal ?_
        refine oneRegion ?_
        refine sq (r_move (v := i64 ((zi : Nat))) rfl) ?_
        refine sq (r_addI (a := (zi : Nat)) (b := (1 : Int)) rfl rfl (by omega)) ?_
        refine sq (r_assign (v := i64 ((zi : Nat) + (1 : Int))) rfl) ?_
        refine wnil ?_
        refine thenNormal ?_
        have hf56 : x1.t.l = ts.drop (zi + 1) := by rw [hftx1]; exact drop_past (by omega)
        exact ⟨(zi + 1, x1), _, rfl, ⟨rfl, rfl, rfl, rfl, rfl, trivial⟩, ⟨⟨by omega, hkx1, hf56, hfbx1, hfox1⟩, (H54'.dropk 0)⟩, by show n - (zi + 1) < n - zi; omega⟩
    · skip
      obtain rfl : n = zi := by omega
      refine exitAny ?_
      refine thenExit ?_
      refine thenExit ?_
      refine blockHere ?_
      refine thenNormal ?_
      refine seqAny ?_
      refine seqRegion ?_
      refine sq (r_move (v := .pointer (some ⟨b9, 0, none⟩)) rfl) ?_
      have := HLx1.lt (List.mem_of_getElem? (i := 0) rfl) rfl
      refine c_call (vs := [.pointer (some ⟨b9, 0, none⟩)]) call20 rfl (take2_end b9 x1 w18 (HLx1.get (k := 0) rfl) (Chg.gl HLx1.chg (fun x => x) hG) (by rw [hfox1]; first | (rw [List.length_drop]; omega) | rfl)) ?_
      rintro _ w58 ⟨⟨v60, rfl, hEr61⟩, hE62⟩
      have H63 := HLx1.ext hE62
      obtain ⟨T64, x65, rfl⟩ := hEr61.iface
      refine sq (r_move (v := .tuple #[.agg #[u64 (0#64), u64 (0#64), u64 (0#64), u64 (0#64), .bool (false)], .iface T64 (x65)]) rfl) ?_
      refine sq (r_extract (vs := #[.agg #[u64 (0#64), u64 (0#64), u64 (0#64), u64 (0#64), .bool (false)], .iface T64 (x65)]) rfl rfl) ?_
      refine sq (r_extract (vs := #[.agg #[u64 (0#64), u64 (0#64), u64 (0#64), u64 (0#64), .bool (false)], .iface T64 (x65)]) rfl rfl) ?_
      refine q_alloc (o := .cells #[u64 (0#64), u64 (0#64), u64 (0#64), u64 (0#64), .bool (false)] 41 (0, 0)) H63 zer41 (by kernel_rfl) ?_
      intro b66 w67 hb66 H68 hE69
      refine d_store (k := 0) (v := .agg #[u64 (0#64), u64 (0#64), u64 (0#64), u64 (0#64), .bool (false)]) (cs' := #[u64 (0#64), u64 (0#64), u64 (0#64), u64 (0#64), .bool (false)]) H68 rfl rfl rfl siz41 (by rfl) (by intro u hu; simp [Value.cells] at hu; first | (subst hu; rfl) | (rcases hu with rfl | rfl | rfl | rfl | rfl <;> rfl)) (by exact Nat.le_of_ble_eq_true rfl) (by rfl) ?_
      intro w70 H71 hC72
      have H71' := H71.as (L' := [(some b66, .cells #[u64 (0#64), u64 (0#64), u64 (0#64), u64 (0#64), .bool (false)] 41 (0, 0)), (some b9, .cells #[.slice x1.t.a x1.t.l.length x1.t.c, .slice x1.b.a x1.b.l.length x1.b.c, .slice x1.o.a x1.o.l.length x1.o.c] 135 (0, 0)), (x1.t.key, sobP ETr 34 x1.t.pre x1.t.l x1.t.sp), (x1.b.key, sobP ETr 34 x1.b.pre x1.b.l x1.b.sp), (x1.o.key, sobP EOt 41 x1.o.pre x1.o.l x1.o.sp)]) rfl
      clear H71
      refine sq (r_assign (v := .iface T64 (x65)) rfl) ?_
      refine wend ?_
      refine seqRegion ?_
      refine sq (r_move (v := .iface T64 (x65)) rfl) ?_
      refine c_call (vs := [.iface T64 (x65), i64 ((80 : Int))]) call24 rfl (is_ok 80 (80 : Int) 1 (.iface T64 (x65)) w18.heap.size w70 ((Er.chgs ((Ext.chg (M := fun x => x = b66) hE69).trans (hC72.mono (M' := fun x => x = b66) (fun _ h => by subst h; simp))) (fun x h1 h2 h3 => by have := hE69.size; have := hC72.size; rcases h3 with rfl <;> omega) hEr61))) ?_
      rintro _ w73 ⟨rfl, hE74⟩
      have H75 := H71'.ext hE74
      refine sq (r_notT rfl) ?_
      refine wend ?_
      refine condFalse rfl ?_
      refine skipAny ?_
      refine thenNormal ?_
      refine seqAny ?_
      refine seqRegion ?_
      refine sq (r_move (v := .slice ya bs.length yc) rfl) ?_
      refine sq (r_lenS sli49 (a := ya) (m := bs.length) (c := yc) rfl) ?_
      refine sq (r_move (v := i64 ((0 : Int))) rfl) ?_
      refine wend ?_
      refine blockAny ?_
      refine loopAny (σ := Nat × Sk) (fun (qi, x2) => [(0, .slice xa ts.length xc), (1, .slice ya bs.length yc), (2, i64 ((n : Nat))), (7, .pointer (some ⟨b9, 0, none⟩)), (69, i64 ((bs.length : Nat))), (70, i64 ((qi : Nat)))]) (fun (qi, x2) w' => (qi ≤ bs.length ∧ x2.ok ∧ x2.t.l = (ts).drop n ∧ x2.b.l = (bs).drop qi ∧ x2.o.l = ([] : List Ot)) ∧ Hp No w₀ w' [(some b9, .cells #[.slice x2.t.a x2.t.l.length x2.t.c, .slice x2.b.a x2.b.l.length x2.b.c, .slice x2.o.a x2.o.l.length x2.o.c] 135 (0, 0)), (x2.t.key, sobP ETr 34 x2.t.pre x2.t.l x2.t.sp), (x2.b.key, sobP ETr 34 x2.b.pre x2.b.l x2.b.sp), (x2.o.key, sobP EOt 41 x2.o.pre x2.o.l x2.o.sp)]) (fun (qi, x2) => bs.length - qi) ((0, x1)) ?_ ?_ ?_
      · exact ⟨rfl, rfl, rfl, rfl, rfl, rfl, trivial⟩
      · exact ⟨⟨Nat.zero_le _, hkx1, hftx1, hfbx1, hfox1⟩, (H75.dropk 0)⟩
      rintro ⟨qi, x2⟩ ρ w76 ⟨⟨hqi, hkx2, hftx2, hfbx2, hfox2⟩, HLx2⟩
      refine seqRegion ?_
      refine sq (r_lssI (a := (qi : Nat)) (b := (bs.length : Nat)) rfl rfl) ?_
      refine wend ?_
      refine seqAny ?_
      refine condProp (((qi : Nat) : Int) < (bs.length : Nat)) rfl (fun c71 => ?_) (fun c71 => ?_)
      · skip
        refine skipAny ?_
        refine thenNormal ?_
        refine seqAny ?_
        refine blockAny ?_
        refine seqRegion ?_
        refine sq (r_move (v := i64 ((qi : Nat))) rfl) ?_
        refine sq (r_assign (v := i64 ((qi : Nat))) rfl) ?_
        refine wend ?_
        refine seqRegion ?_
        refine sq (r_move (v := .pointer (some ⟨b9, 0, none⟩)) rfl) ?_
        have H78 := (HLx2).as (L' := skR 34 41 135 b9 x2 ++ []) rfl
        refine c_call (vs := [.pointer (some ⟨b9, 0, none⟩)]) call19 rfl (take1_hit b9 x2 hkx2 [] w₀ w76 H78 (by rw [hfbx2]; rw [List.length_drop]; omega)) ?_
        rintro _ w79 ⟨rfl, s81, HN82, hok83, hd84, he85, he86⟩
        have H87 := HN82.as (L' := [(some b9, .cells #[.slice s81.t.a s81.t.l.length s81.t.c, .slice s81.b.a s81.b.l.length s81.b.c, .slice s81.o.a s81.o.l.length s81.o.c] 135 (0, 0)), (s81.t.key, sobP ETr 34 s81.t.pre s81.t.l s81.t.sp), (s81.b.key, sobP ETr 34 s81.b.pre s81.b.l s81.b.sp), (s81.o.key, sobP EOt 41 s81.o.pre s81.o.l s81.o.sp)]) rfl
        rw [hfbx2]
        rw [show ((bs).drop qi).getD 0 tr0 = (bs).getD qi tr0 from by exact drop_getD]
        have hf88 : s81.t.l = (ts).drop n := by rw [he85]; exact hftx2
        have hf89 : s81.o.l = ([] : List Ot) := by rw [he86]; exact hfox2
        have hf90 : s81.b.l = (bs).drop (qi + 1) := by rw [hd84, hfbx2, List.drop_drop]
        refine sq (r_move (v := .tuple #[.agg #[u64 ((bs).getD qi tr0).a, u64 ((bs).getD qi tr0).b, u64 ((bs).getD qi tr0).c], .nilIface]) rfl) ?_
        refine sq (r_extract (vs := #[.agg #[u64 ((bs).getD qi tr0).a, u64 ((bs).getD qi tr0).b, u64 ((bs).getD qi tr0).c], .nilIface]) rfl rfl) ?_
        refine sq (r_extract (vs := #[.agg #[u64 ((bs).getD qi tr0).a, u64 ((bs).getD qi tr0).b, u64 ((bs).getD qi tr0).c], .nilIface]) rfl rfl) ?_
        refine q_alloc (o := .cells #[u64 (0#64), u64 (0#64), u64 (0#64)] 34 (0, 0)) H87 zer34 (by kernel_rfl) ?_
        intro b91 w92 hb91 H93 hE94
        refine d_store (k := 0) (v := .agg #[u64 ((bs).getD qi tr0).a, u64 ((bs).getD qi tr0).b, u64 ((bs).getD qi tr0).c]) (cs' := #[u64 (((bs).getD qi tr0).a), u64 (((bs).getD qi tr0).b), u64 (((bs).getD qi tr0).c)]) H93 rfl rfl rfl siz34 (by rfl) (by intro u hu; simp [Value.cells] at hu; first | (subst hu; rfl) | (rcases hu with rfl | rfl | rfl <;> rfl)) (by exact Nat.le_of_ble_eq_true rfl) (by rfl) ?_
        intro w95 H96 hC97
        have H96' := H96.as (L' := [(some b91, .cells #[u64 (((bs).getD qi tr0).a), u64 (((bs).getD qi tr0).b), u64 (((bs).getD qi tr0).c)] 34 (0, 0)), (some b9, .cells #[.slice s81.t.a s81.t.l.length s81.t.c, .slice s81.b.a s81.b.l.length s81.b.c, .slice s81.o.a s81.o.l.length s81.o.c] 135 (0, 0)), (s81.t.key, sobP ETr 34 s81.t.pre s81.t.l s81.t.sp), (s81.b.key, sobP ETr 34 s81.b.pre s81.b.l s81.b.sp), (s81.o.key, sobP EOt 41 s81.o.pre s81.o.l s81.o.sp)]) rfl
        clear H96
        refine sq (r_assign (v := .nilIface) rfl) ?_
        refine wend ?_
        refine seqAny ?_
        refine drawAny (K := [none, none, none, none, none, none, none, none, none, none]) [0, 1, 3, 7, 7, 7, 55, 119, 255, 511] (fun w' => Ext w95 w') (fun w' w'' => Ext w' w'') mixed (by kernel_rfl) (Ext.drew _) (fun _ _ h h' => h.trans h') ?_ ?_
        · exact relNone (by decide)
        refine ⟨.nilIface, fun _ uw98 hC99 _ => Gives.run rfl (r_move (v := .nilIface) rfl) ⟨rfl, Chg.refl _ _⟩, ?_⟩
        refine ⟨.bool (false), fun _ uw100 hC101 _ => Gives.run rfl (r_neqNN isI27 rfl rfl) ⟨rfl, Chg.refl _ _⟩, ?_⟩
        refine ⟨.bool (false), fun _ uw102 hC103 _ => Gives.run rfl (r_move (v := .bool (false)) rfl) ⟨rfl, Chg.refl _ _⟩, ?_⟩
        refine ⟨.agg #[u64 (((bs).getD qi tr0).a), u64 (((bs).getD qi tr0).b), u64 (((bs).getD qi tr0).c)], fun _ uw104 hC105 _ => Gives.runW (wantedSome (d' := 80) (b := false) rfl rfl rfl) (r_loadA (cs' := #[u64 (((bs).getD qi tr0).a), u64 (((bs).getD qi tr0).b), u64 (((bs).getD qi tr0).c)]) agg34 siz34 ((H96'.ext hC105).get (k := 0) rfl) (off := 0) rfl (by exact Nat.le_of_ble_eq_true rfl) (by rfl)) ⟨rfl, Chg.refl _ _⟩, ?_⟩
        refine ⟨.slice ya bs.length yc, fun _ uw106 hC107 _ => Gives.runW (wantedSome (d' := 80) (b := false) rfl rfl rfl) (r_move (v := .slice ya bs.length yc) rfl) ⟨rfl, Chg.refl _ _⟩, ?_⟩
        refine ⟨i64 ((qi : Nat)), fun _ uw108 hC109 _ => Gives.runW (wantedSome (d' := 80) (b := false) rfl rfl rfl) (r_move (v := i64 ((qi : Nat))) rfl) ⟨rfl, Chg.refl _ _⟩, ?_⟩
        refine ⟨.pointer (adr ya (qi * 3)), fun _ uw110 hC111 _ => Gives.runW (wantedSome (d' := 80) (b := false) rfl rfl rfl) (r_idxS (E := ETr) (l := bs) (j := qi) sli49 (hB.ext (H96'.ext hC111).chg) rfl rfl (by first | rfl | omega | (simp; omega)) (by rfl) (by omega)) ⟨rfl, Chg.refl _ _⟩, ?_⟩
        refine ⟨.agg #[u64 (((bs).getD qi tr0).a), u64 (((bs).getD qi tr0).b), u64 (((bs).getD qi tr0).c)], fun _ uw112 hC113 _ => Gives.runW (wantedSome (d' := 80) (b := false) rfl rfl rfl) ((r_ldS (E := ETr) (l := bs) (j := qi) (v := (bs).getD qi tr0) fits34 (hB.ext (H96'.ext hC113).chg) rfl rfl (at_getD (by omega))).as (v' := .agg #[u64 (((bs).getD qi tr0).a), u64 (((bs).getD qi tr0).b), u64 (((bs).getD qi tr0).c)]) rfl) ⟨rfl, Chg.refl _ _⟩, ?_⟩
        refine ⟨.bool (false), fun _ uw114 hC115 _ => Gives.runW (wantedSome (d' := 80) (b := false) rfl rfl rfl) (r_neqSame34 rfl rfl) ⟨rfl, Chg.refl _ _⟩, ?_⟩
        refine ⟨.bool (false), fun _ uw116 hC117 _ => Gives.run rfl (r_pickF (v := .bool (false)) rfl rfl) ⟨rfl, Chg.refl _ _⟩, ?_⟩
        intro r121 w118 hE120 hF
        have H119 := H96'.ext hE120
        refine wnil ?_
        refine thenNormal ?_
        refine condFalse rfl ?_
        refine skipAny ?_
        refine blockNormal ?_
        refine thenNormal ?_
        refine oneRegion ?_
        refine sq (r_addI (a := (qi : Nat)) (b := (1 : Int)) rfl rfl (by omega)) ?_
        refine sq (r_move (v := i64 ((qi : Nat) + (1 : Int))) rfl) ?_
        refine wnil ?_
        refine thenNormal ?_
        exact ⟨(qi + 1, s81), _, rfl, ⟨rfl, rfl, rfl, rfl, rfl, rfl, trivial⟩, ⟨⟨by omega, hok83, hf88, hf90, hf89⟩, (H119.dropk 0)⟩, by show bs.length - (qi + 1) < bs.length - qi; omega⟩
      · skip
        have hqe : qi = bs.length := by omega
        refine exitAny ?_
        refine thenExit ?_
        refine thenExit ?_
        refine blockHere ?_
        refine thenNormal ?_
        refine seqRegion ?_
        refine sq (r_move (v := .pointer (some ⟨b9, 0, none⟩)) rfl) ?_
        refine c_call (vs := [.pointer (some ⟨b9, 0, none⟩)]) call21 rfl (left3_ok b9 x2 w76 (HLx2.get (k := 0) rfl)) ?_
        rintro _ w122 ⟨rfl, hE123⟩
        have H124 := HLx2.ext hE123
        refine sq (r_move (v := .tuple #[i64 ((x2.t.l.length : Nat)), i64 ((x2.b.l.length : Nat)), i64 ((x2.o.l.length : Nat))]) rfl) ?_
        refine sq (r_extract (vs := #[i64 ((x2.t.l.length : Nat)), i64 ((x2.b.l.length : Nat)), i64 ((x2.o.l.length : Nat))]) rfl rfl) ?_
        refine sq (r_extract (vs := #[i64 ((x2.t.l.length : Nat)), i64 ((x2.b.l.length : Nat)), i64 ((x2.o.l.length : Nat))]) rfl rfl) ?_
        refine sq (r_extract (vs := #[i64 ((x2.t.l.length : Nat)), i64 ((x2.b.l.length : Nat)), i64 ((x2.o.l.length : Nat))]) rfl rfl) ?_
        refine sq (r_assign (v := i64 ((x2.t.l.length : Nat))) rfl) ?_
        refine sq (r_assign (v := i64 ((x2.b.l.length : Nat))) rfl) ?_
        refine sq (r_assign (v := i64 ((x2.o.l.length : Nat))) rfl) ?_
        refine wend ?_
        refine seqRegion ?_
        refine sq (r_move (v := i64 ((x2.t.l.length : Nat))) rfl) ?_
        refine sq (r_move (v := .slice xa ts.length xc) rfl) ?_
        refine sq (r_lenS sli49 (a := xa) (m := ts.length) (c := xc) rfl) ?_
        refine sq (r_move (v := i64 ((n : Nat))) rfl) ?_
        refine sq (r_subI (a := (ts.length : Nat)) (b := (n : Nat)) rfl rfl (by omega)) ?_
        refine sq (r_maxI (a := (0 : Int)) (b := (ts.length : Nat) - (n : Nat)) rfl rfl) ?_
        refine sq ((r_eqlI (a := (x2.t.l.length : Nat)) (b := max (0 : Int) ((ts.length : Nat) - (n : Nat))) rfl rfl).as (v' := .bool (true)) (by exact congrArg Value.bool (decide_eq_true (by rw [hftx2, List.length_drop]; omega)))) ?_
        refine sq (r_move (v := .bool (true)) rfl) ?_
        refine sqAny (v := i64 ((x2.b.l.length : Nat))) (w' := w122) (wantedSome (d' := 102) (b := true) rfl rfl rfl) (r_move (v := i64 ((x2.b.l.length : Nat))) rfl) ?_
        refine sqAny (v := .bool (true)) (w' := w122) (wantedSome (d' := 102) (b := true) rfl rfl rfl) ((r_eqlI (a := (x2.b.l.length : Nat)) (b := (0 : Int)) rfl rfl).as (v' := .bool (true)) (by exact congrArg Value.bool (decide_eq_true (by rw [hfbx2, List.length_drop]; omega)))) ?_
        refine sq (r_pickT (u := .bool (true)) rfl rfl) ?_
        refine sq (r_move (v := .bool (true)) rfl) ?_
        refine sqAny (v := i64 ((x2.o.l.length : Nat))) (w' := w122) (wantedSome (d' := 106) (b := true) rfl rfl rfl) (r_move (v := i64 ((x2.o.l.length : Nat))) rfl) ?_
        refine sqAny (v := .bool (true)) (w' := w122) (wantedSome (d' := 106) (b := true) rfl rfl rfl) ((r_eqlI (a := (x2.o.l.length : Nat)) (b := (0 : Int)) rfl rfl).as (v' := .bool (true)) (by exact congrArg Value.bool (decide_eq_true (by rw [hfox2]; rfl)))) ?_
        refine sq (r_pickT (u := .bool (true)) rfl rfl) ?_
        refine sq (r_assign (v := .bool (true)) rfl) ?_
        refine wend ?_
        refine retAny ?_
        refine retG (rs := [.tmp 6]) (vs := [.bool (true)]) rfl ⟨⟨rfl, rfl⟩, trivial⟩ ?_
        exact ⟨_, rfl, rfl, H124.chg⟩
end Go.Proofs.YteofdmdpaejgaaaDoor.Co
