/- The walks of the nets. -/
import Derived.Test.YtpmmhpgfbfehmaaDoorNet4
import Derived.Test.YtpmmhpgfbfehmaaDoorNetSpec
namespace Go.Proofs.YtpmmhpgfbfehmaaDoor.Nt
open Go Go.Proofs.YtpmmhpgfbfehmaaDoor.Vc Go.Proofs.YtpmmhpgfbfehmaaDoor.Er
theorem call13 : callable Tryd.prog 13 = true := by kernel_rfl
theorem call16 : callable Tryd.prog 16 = true := by kernel_rfl
theorem call19 : callable Tryd.prog 19 = true := by kernel_rfl
theorem und26 : Tryd.prog.underlying 26 = some (.int .u64) := by kernel_rfl
theorem und3 : Tryd.prog.underlying 3 = some (.int .i64) := by kernel_rfl
theorem netfull_ok (bs : List (BitVec 8)) (fa : Option Addr) (fc : Nat) (way i : Int) (w₀ : World) (hG : Gl w₀) (hF : Rd E8 w₀ fa bs) (hbl : bs.length ≤ 140737488355328) : Calls Tryd.prog 8 [.slice fa bs.length fc, i64 (way), i64 (i)].toArray w₀ (Ret fun v w' => v = .bool true ∧ Ext w₀ w') := by
  obtain ⟨k, hk⟩ := way_bool way
  obtain ⟨r, hr, hr2⟩ := mod_nat (BitVec.ofInt 64 i) 64 (by decide) (by decide) 64#64 rfl
  have H := Hp.start No w₀
  refine enter (n := 78) Tryd.func8 rfl rfl (Nat.le_of_ble_eq_true rfl) ?_
  refine seqRegion ?_
  refine sq (r_assign (v := .bool (false)) rfl) ?_
  refine wend ?_
  refine seqRegion ?_
  refine c_call (vs := []) call12 rfl (nnew_ok w₀) ?_
  rintro _ w1 ⟨⟨b3, rfl, HN4⟩, hE5⟩
  have H6 := (H.join HN4).as (L' := ((some b3, .cells (nv false wy0 wy0) 76 (0, 0)) :: (wy0.key, sob ES 30 (svs wy0.fs) wy0.sp) :: (wy0.key, sob ES 30 (svs wy0.fs) wy0.sp) :: (frs 5 wy0.fs ++ (frs 5 wy0.fs ++ [])))) rfl
  refine sq (r_assign (v := .pointer (some ⟨b3, 0, none⟩)) rfl) ?_
  refine wend ?_
  refine seqAny ?_
  refine seqRegion ?_
  refine c_call (vs := []) call13 rfl (nawake_ok w1 (Chg.gl H6.chg (fun x => x) hG)) ?_
  rintro _ w7 ⟨rfl, hE8⟩
  have H9 := H6.ext hE8
  refine sq (r_notT rfl) ?_
  refine sq (r_move (v := .bool (false)) rfl) ?_
  refine sqAny (v := .pointer (some ⟨b3, 0, none⟩)) (w' := w7) (wantedSome (d' := 12) (b := false) rfl rfl rfl) (r_move (v := .pointer (some ⟨b3, 0, none⟩)) rfl) ?_
  refine sqAny (v := .bool (false)) (w' := w7) (wantedSome (d' := 12) (b := false) rfl rfl rfl) (r_eqlPN und23 rfl rfl) ?_
  refine sq (r_pickF (v := .bool (false)) rfl rfl) ?_
  refine wend ?_
  refine condFalse rfl ?_
  refine skipAny ?_
  refine thenNormal ?_
  refine seqRegion ?_
  refine sq (r_move (v := i64 (way)) rfl) ?_
  refine sq (r_Ito64 und3 und26 (a := way) rfl) ?_
  refine sq (r_rem64 (a := BitVec.ofInt 64 way) (b := 2#64) rfl rfl (by decide)) ?_
  refine sq ((r_64toI und26 und3 (a := (BitVec.ofInt 64 way) % (2#64)) rfl).as (v' := i64 (wI k)) (by exact congrArg i64 hk)) ?_
  refine sq (r_assign (v := i64 (wI k)) rfl) ?_
  have H10 := H9.as (L' := ((some b3, .cells (nv k wy0 wy0) 76 (0, 0)) :: (wy0.key, sob ES 30 (svs wy0.fs) wy0.sp) :: (wy0.key, sob ES 30 (svs wy0.fs) wy0.sp) :: (frs 5 wy0.fs ++ (frs 5 wy0.fs ++ [])))) (by cases k <;> rfl)
  refine wend ?_
  refine seqAny ?_
  refine seqRegion ?_
  refine sq (r_assign (v := i64 ((0 : Int))) rfl) ?_
  refine wend ?_
  refine blockAny ?_
  refine loopAny (σ := Nat × Wy) (fun (q, x) => [(0, .slice fa bs.length fc), (1, i64 (wI k)), (2, i64 (i)), (7, .pointer (some ⟨b3, 0, none⟩)), (8, i64 ((q : Nat)))]) (fun (q, x) w' => q ≤ 64 ∧ x.ok ∧ bss x.fs = List.replicate q bs ∧ Hp No w₀ w' ((some b3, .cells (nv k x wy0) 76 (0, 0)) :: (x.key, sob ES 30 (svs x.fs) x.sp) :: (wy0.key, sob ES 30 (svs wy0.fs) wy0.sp) :: (frs 5 x.fs ++ (frs 5 wy0.fs ++ [])))) (fun (q, x) => 64 - q) ((0, wy0)) ?_ ?_ ?_
  · exact ⟨rfl, rfl, rfl, rfl, rfl, trivial⟩
  · exact ⟨by omega, wy0_ok, rfl, H10⟩
  rintro ⟨q, x⟩ ρ w11 ⟨hq, hxok, hxb, HL⟩
  refine seqAny ?_
  refine seqRegion ?_
  refine sq (r_move (v := i64 ((q : Nat))) rfl) ?_
  refine sq (r_lssI (a := (q : Nat)) (b := (64 : Int)) rfl rfl) ?_
  refine wend ?_
  refine condProp (((q : Nat) : Int) < (64 : Int)) rfl (fun hk21 => ?_) (fun hk21 => ?_)
  · skip
    refine skipAny ?_
    refine thenNormal ?_
    refine seqAny ?_
    refine blockAny ?_
    refine seqRegion ?_
    refine sq (r_move (v := .pointer (some ⟨b3, 0, none⟩)) rfl) ?_
    refine sq (r_move (v := i64 (wI k)) rfl) ?_
    refine sq (r_move (v := .slice fa bs.length fc) rfl) ?_
    refine c_call (vs := [.pointer (some ⟨b3, 0, none⟩), i64 (wI k), .slice fa bs.length fc]) call14 rfl (send_ok k b3 x wy0 hxok ([]) w₀ w11 bs (by first | omega | exact Nat.le_of_ble_eq_true rfl | (simp; omega)) fa bs.length fc (by rfl) HL (fun w1 HX => hF.ext HX.chg) (by have := congrArg List.length hxb; simp at this; omega)) ?_
    rintro _ w13 ⟨rfl, a15, hok16, hbs17, HN18⟩
    have H19 := HN18.as (L' := ((some b3, .cells (nv k a15 wy0) 76 (0, 0)) :: (a15.key, sob ES 30 (svs a15.fs) a15.sp) :: (wy0.key, sob ES 30 (svs wy0.fs) wy0.sp) :: (frs 5 a15.fs ++ (frs 5 wy0.fs ++ [])))) rfl
    refine sq (r_neqNN isI28 rfl rfl) ?_
    refine wend ?_
    refine condFalse rfl ?_
    refine skipAny ?_
    refine blockNormal ?_
    refine thenNormal ?_
    refine oneRegion ?_
    refine sq (r_move (v := i64 ((q : Nat))) rfl) ?_
    refine sq (r_addI (a := (q : Nat)) (b := (1 : Int)) rfl rfl (by omega)) ?_
    refine sq (r_assign (v := i64 ((q : Nat) + (1 : Int))) rfl) ?_
    refine wnil ?_
    refine thenNormal ?_
    exact ⟨(q + 1, a15), _, rfl, ⟨rfl, rfl, rfl, rfl, rfl, trivial⟩, ⟨by omega, hok16, by rw [hbs17, hxb, ← List.replicate_succ'], H19⟩, by show 64 - (q + 1) < 64 - q; omega⟩
  · skip
    obtain rfl : q = 64 := by omega
    refine exitAny ?_
    refine thenExit ?_
    refine thenExit ?_
    refine blockHere ?_
    refine thenNormal ?_
    refine seqRegion ?_
    refine sq (r_move (v := i64 (i)) rfl) ?_
    refine sq (r_Ito64 und3 und26 (a := i) rfl) ?_
    refine sq (r_rem64 (a := BitVec.ofInt 64 i) (b := 64#64) rfl rfl (by decide)) ?_
    refine sq ((r_64toI und26 und3 (a := (BitVec.ofInt 64 i) % (64#64)) rfl).as (v' := i64 ((r : Nat))) (by exact congrArg i64 hr)) ?_
    refine sq (r_assign (v := i64 ((r : Nat))) rfl) ?_
    refine wend ?_
    refine seqRegion ?_
    refine sq (r_move (v := .pointer (some ⟨b3, 0, none⟩)) rfl) ?_
    refine sq (r_move (v := i64 (wI k)) rfl) ?_
    refine sq (r_move (v := .slice fa bs.length fc) rfl) ?_
    have := HL.lt (List.mem_of_getElem? (i := 0) rfl) rfl
    refine c_call (vs := [.pointer (some ⟨b3, 0, none⟩), i64 (wI k), .slice fa bs.length fc]) call14 rfl (send_full k b3 x wy0 w11 (.slice fa bs.length fc) (Chg.gl HL.chg (fun x => x) hG) (HL.get (k := 0) rfl) (by have := congrArg List.length hxb; simp at this; omega)) ?_
    rintro _ w20 ⟨⟨v22, rfl, hEr23⟩, hE24⟩
    have H25 := HL.ext hE24
    obtain ⟨T26, x27, rfl⟩ := hEr23.iface
    refine c_call (vs := [.iface T26 (x27), i64 ((5 : Int))]) call18 rfl (is_ok 5 (5 : Int) 1 (.iface T26 (x27)) w11.heap.size w20 (hEr23)) ?_
    rintro _ w28 ⟨rfl, hE29⟩
    have H30 := H25.ext hE29
    refine sq (r_move (v := .bool (true)) rfl) ?_
    refine sqAny (v := .pointer (some ⟨b3, 0, none⟩)) (w' := w28) (wantedSome (d' := 38) (b := true) rfl rfl rfl) (r_move (v := .pointer (some ⟨b3, 0, none⟩)) rfl) ?_
    refine sqAny (v := i64 (wI k)) (w' := w28) (wantedSome (d' := 38) (b := true) rfl rfl rfl) (r_move (v := i64 (wI k)) rfl) ?_
    refine sqAny (v := i64 ((r : Nat))) (w' := w28) (wantedSome (d' := 38) (b := true) rfl rfl rfl) (r_move (v := i64 ((r : Nat))) rfl) ?_
    obtain ⟨f31, hf32, hfb33⟩ := bss_at (F := x.fs) (i := r) (b := bs) (by rw [hxb, List.getElem?_replicate, if_pos hr2])
    have fok34 := hxok.each _ (List.mem_of_getElem? hf32)
    have hif31 := (List.getElem?_eq_some_iff.1 hf32).1
    have := H30.lt (List.mem_of_getElem? (i := 0) rfl) rfl
    refine caAny (wantedSome (d' := 38) (b := true) rfl rfl rfl) (Enters.callL (vs := [.pointer (some ⟨b3, 0, none⟩), i64 (wI k), i64 ((r : Nat))]) call19 rfl) (copy_full k b3 x wy0 w28 r hif31 f31 hf32 (Chg.gl H30.chg (fun x => x) hG) (H30.get (k := 0) rfl) (H30.rd (k := 1) rfl hxok.sl) (by have := congrArg List.length hxb; simp at this; omega)) ?_
    rintro _ w35 ⟨⟨v37, rfl, hEr38⟩, hE39⟩
    have H40 := H30.ext hE39
    obtain ⟨T41, x42, rfl⟩ := hEr38.iface
    refine caAny (wantedSome (d' := 38) (b := true) rfl rfl rfl) (Enters.callL (vs := [.iface T41 (x42), i64 ((5 : Int))]) call18 rfl) (is_ok 5 (5 : Int) 1 (.iface T41 (x42)) w28.heap.size w35 (hEr38)) ?_
    rintro _ w43 ⟨rfl, hE44⟩
    have H45 := H40.ext hE44
    refine sq (r_pickT (u := .bool (true)) rfl rfl) ?_
    refine sq (r_move (v := .bool (true)) rfl) ?_
    refine sqAny (v := .pointer (some ⟨b3, 0, none⟩)) (w' := w43) (wantedSome (d' := 45) (b := true) rfl rfl rfl) (r_move (v := .pointer (some ⟨b3, 0, none⟩)) rfl) ?_
    refine sqAny (v := i64 (wI k)) (w' := w43) (wantedSome (d' := 45) (b := true) rfl rfl rfl) (r_move (v := i64 (wI k)) rfl) ?_
    have := H45.lt (List.mem_of_getElem? (i := 0) rfl) rfl
    refine caAny (wantedSome (d' := 45) (b := true) rfl rfl rfl) (Enters.callL (vs := [.pointer (some ⟨b3, 0, none⟩), i64 (wI k), i64 ((64 : Int))]) call19 rfl) (copy_miss k b3 x wy0 w43 (64 : Int) (Chg.gl H45.chg (fun x => x) hG) (H45.get (k := 0) rfl) (by have := congrArg List.length hxb; simp at this; omega)) ?_
    rintro _ w46 ⟨⟨v48, rfl, hEr49⟩, hE50⟩
    have H51 := H45.ext hE50
    obtain ⟨T52, x53, rfl⟩ := hEr49.iface
    refine caAny (wantedSome (d' := 45) (b := true) rfl rfl rfl) (Enters.callL (vs := [.iface T52 (x53), i64 ((4 : Int))]) call18 rfl) (is_ok 4 (4 : Int) 1 (.iface T52 (x53)) w43.heap.size w46 (hEr49)) ?_
    rintro _ w54 ⟨rfl, hE55⟩
    have H56 := H51.ext hE55
    refine sq (r_pickT (u := .bool (true)) rfl rfl) ?_
    refine sq (r_move (v := .bool (true)) rfl) ?_
    refine sqAny (v := .pointer (some ⟨b3, 0, none⟩)) (w' := w54) (wantedSome (d' := 51) (b := true) rfl rfl rfl) (r_move (v := .pointer (some ⟨b3, 0, none⟩)) rfl) ?_
    refine sqAny (v := i64 (wI k)) (w' := w54) (wantedSome (d' := 51) (b := true) rfl rfl rfl) (r_move (v := i64 (wI k)) rfl) ?_
    refine sqAny (v := i64 (wI (!k))) (w' := w54) (wantedSome (d' := 51) (b := true) rfl rfl rfl) ((r_subI (a := (1 : Int)) (b := wI k) rfl rfl (by cases k <;> decide)).as (v' := i64 (wI (!k))) (by exact congrArg i64 (wI_not k))) ?_
    refine sqAny (v := .slice fa bs.length fc) (w' := w54) (wantedSome (d' := 51) (b := true) rfl rfl rfl) (r_move (v := .slice fa bs.length fc) rfl) ?_
    have H57 := H56.swapWy (F := frs 5 x.fs) (G := frs 5 wy0.fs)
    rw [nv_swap] at H57
    have H58 := H57.as (L' := ((some b3, .cells (nv (!k) wy0 x) 76 (0, 0)) :: (wy0.key, sob ES 30 (svs wy0.fs) wy0.sp) :: (x.key, sob ES 30 (svs x.fs) x.sp) :: (frs 5 wy0.fs ++ (frs 5 x.fs ++ [])))) rfl
    refine caAny (wantedSome (d' := 51) (b := true) rfl rfl rfl) (Enters.callL (vs := [.pointer (some ⟨b3, 0, none⟩), i64 (wI (!k)), .slice fa bs.length fc]) call14 rfl) (send_ok (!k) b3 wy0 x wy0_ok ([]) w₀ w54 bs (by first | omega | exact Nat.le_of_ble_eq_true rfl | (simp; omega)) fa bs.length fc (by rfl) H58 (fun w1 HX => hF.ext HX.chg) (by decide)) ?_
    rintro _ w59 ⟨rfl, a61, hok62, hbs63, HN64⟩
    have H65 := HN64.as (L' := ((some b3, .cells (nv (!k) a61 x) 76 (0, 0)) :: (a61.key, sob ES 30 (svs a61.fs) a61.sp) :: (x.key, sob ES 30 (svs x.fs) x.sp) :: (frs 5 a61.fs ++ (frs 5 x.fs ++ [])))) rfl
    have H66 := H65.swapWy (F := frs 5 a61.fs) (G := frs 5 x.fs)
    rw [nv_swap] at H66
    rw [Bool.not_not] at H66
    have H67 := H66.as (L' := ((some b3, .cells (nv k x a61) 76 (0, 0)) :: (x.key, sob ES 30 (svs x.fs) x.sp) :: (a61.key, sob ES 30 (svs a61.fs) a61.sp) :: (frs 5 x.fs ++ (frs 5 a61.fs ++ [])))) rfl
    refine sqAny (v := .bool (true)) (w' := w59) (wantedSome (d' := 51) (b := true) rfl rfl rfl) (r_eqlNN isI28 rfl rfl) ?_
    refine sq (r_pickT (u := .bool (true)) rfl rfl) ?_
    refine sq (r_move (v := .bool (true)) rfl) ?_
    refine sqAny (v := .pointer (some ⟨b3, 0, none⟩)) (w' := w59) (wantedSome (d' := 59) (b := true) rfl rfl rfl) (r_move (v := .pointer (some ⟨b3, 0, none⟩)) rfl) ?_
    refine sqAny (v := i64 (wI k)) (w' := w59) (wantedSome (d' := 59) (b := true) rfl rfl rfl) (r_move (v := i64 (wI k)) rfl) ?_
    refine sqAny (v := i64 ((r : Nat))) (w' := w59) (wantedSome (d' := 59) (b := true) rfl rfl rfl) (r_move (v := i64 ((r : Nat))) rfl) ?_
    obtain ⟨f68, hf69, hfb70⟩ := bss_at (F := x.fs) (i := r) (b := bs) (by rw [hxb, List.getElem?_replicate, if_pos hr2])
    have fok71 := hxok.each _ (List.mem_of_getElem? hf69)
    have hif68 := (List.getElem?_eq_some_iff.1 hf69).1
    refine caAny (wantedSome (d' := 59) (b := true) rfl rfl rfl) (Enters.callL (vs := [.pointer (some ⟨b3, 0, none⟩), i64 (wI k), i64 ((r : Nat))]) call16 rfl) (drop_ok k b3 x a61 hxok ([]) w₀ w59 r hif68 f68 hf69 (by have := congrArg List.length hxb; simp at this; omega) H67) ?_
    rintro _ w72 ⟨rfl, a74, hok75, hbs76, HN77⟩
    have H78 := HN77.as (L' := ((some b3, .cells (nv k a74 a61) 76 (0, 0)) :: (a74.key, sob ES 30 (svs a74.fs) a74.sp) :: (a61.key, sob ES 30 (svs a61.fs) a61.sp) :: (frs 5 a74.fs ++ (frs 5 a61.fs ++ [])))) rfl
    have hx2 : bss a74.fs = List.replicate 63 bs := by rw [hbs76, hxb]; exact erase_rep bs 63 r hr2
    refine sqAny (v := .bool (true)) (w' := w72) (wantedSome (d' := 59) (b := true) rfl rfl rfl) (r_eqlNN isI28 rfl rfl) ?_
    refine sq (r_pickT (u := .bool (true)) rfl rfl) ?_
    refine sq (r_move (v := .bool (true)) rfl) ?_
    refine sqAny (v := .pointer (some ⟨b3, 0, none⟩)) (w' := w72) (wantedSome (d' := 66) (b := true) rfl rfl rfl) (r_move (v := .pointer (some ⟨b3, 0, none⟩)) rfl) ?_
    refine sqAny (v := i64 (wI k)) (w' := w72) (wantedSome (d' := 66) (b := true) rfl rfl rfl) (r_move (v := i64 (wI k)) rfl) ?_
    obtain ⟨f79, hf80, hfb81⟩ := bss_at (F := a74.fs) (i := 0) (b := bs) (by rw [hx2]; rfl)
    have fok82 := hok75.each _ (List.mem_of_getElem? hf80)
    have hif79 := (List.getElem?_eq_some_iff.1 hf80).1
    refine caAny (wantedSome (d' := 66) (b := true) rfl rfl rfl) (Enters.callL (vs := [.pointer (some ⟨b3, 0, none⟩), i64 (wI k), i64 ((0 : Int))]) call19 rfl) (copy_ok k b3 a74 a61 hok75 ([]) w₀ w72 0 hif79 f79 hf80 (by rw [hfb81]; exact hbl) (by have := congrArg List.length hx2; simp at this; omega) H78) ?_
    rintro _ w83 ⟨rfl, a85, hok86, hbs87, HN88⟩
    have H89 := HN88.as (L' := ((some b3, .cells (nv k a85 a61) 76 (0, 0)) :: (a85.key, sob ES 30 (svs a85.fs) a85.sp) :: (a61.key, sob ES 30 (svs a61.fs) a61.sp) :: (frs 5 a85.fs ++ (frs 5 a61.fs ++ [])))) rfl
    refine sqAny (v := .bool (true)) (w' := w83) (wantedSome (d' := 66) (b := true) rfl rfl rfl) (r_eqlNN isI28 rfl rfl) ?_
    refine sq (r_pickT (u := .bool (true)) rfl rfl) ?_
    refine sq (r_move (v := .bool (true)) rfl) ?_
    refine sqAny (v := .pointer (some ⟨b3, 0, none⟩)) (w' := w83) (wantedSome (d' := 72) (b := true) rfl rfl rfl) (r_move (v := .pointer (some ⟨b3, 0, none⟩)) rfl) ?_
    refine sqAny (v := i64 (wI k)) (w' := w83) (wantedSome (d' := 72) (b := true) rfl rfl rfl) (r_move (v := i64 (wI k)) rfl) ?_
    refine caAny (wantedSome (d' := 72) (b := true) rfl rfl rfl) (Enters.callL (vs := [.pointer (some ⟨b3, 0, none⟩), i64 (wI k)]) call15 rfl) (len k b3 a85 a61 w83 (H89.get (k := 0) rfl)) ?_
    rintro _ w90 ⟨rfl, hE91⟩
    have H92 := H89.ext hE91
    refine sqAny (v := .bool (true)) (w' := w90) (wantedSome (d' := 72) (b := true) rfl rfl rfl) ((r_eqlI (a := (a85.fs.length : Nat)) (b := (64 : Int)) rfl rfl).as (v' := .bool (true)) (by have h1 := congrArg List.length hbs87; have h2 := congrArg List.length hx2; simp at h1 h2; exact congrArg Value.bool (decide_eq_true (by omega)))) ?_
    refine sq (r_pickT (u := .bool (true)) rfl rfl) ?_
    refine sq (r_assign (v := .bool (true)) rfl) ?_
    refine wend ?_
    refine retAny ?_
    refine retG (rs := [.tmp 6]) (vs := [.bool (true)]) rfl ⟨⟨rfl, rfl⟩, trivial⟩ ?_
    exact ⟨_, rfl, rfl, H92.chg⟩
end Go.Proofs.YtpmmhpgfbfehmaaDoor.Nt
