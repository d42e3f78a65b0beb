/- The walks of the nets. -/
import Derived.Test.YtpmmhpgfbfehmaaDoorNet2
namespace Go.Proofs.YtpmmhpgfbfehmaaDoor.Nt
open Go Go.Proofs.YtpmmhpgfbfehmaaDoor.Vc Go.Proofs.YtpmmhpgfbfehmaaDoor.Er
theorem call14 : callable Tryd.prog 14 = true := by kernel_rfl
theorem fits5 : Fits Tryd.prog 5 E8 := fits8 (by kernel_rfl) (by kernel_rfl)
theorem siz5 : siz Tryd.prog 5 = some 1 := by kernel_rfl
theorem copy_ok_0 (b : Nat) (a o : Wy) (ha : a.ok) (R : List (Option Nat × Obj)) (w₀ w : World) (i : Nat) (hi : i < a.fs.length) (f : Fr) (hf : a.fs[i]? = some f) (hfl : f.bs.length ≤ 140737488355328) (hlen : a.fs.length < 64) (H : Hp No w₀ w ((some b, .cells #[.slice (ownA a.key) a.fs.length a.c, .slice (ownA o.key) o.fs.length o.c] 76 (0, 0)) :: (a.key, sob ES 30 (svs a.fs) a.sp) :: (o.key, sob ES 30 (svs o.fs) o.sp) :: (frs 5 a.fs ++ (frs 5 o.fs ++ R)))) : Calls Tryd.prog 19 [.pointer (some ⟨b, 0, none⟩), i64 ((0 : Int)), i64 ((i : Nat))].toArray w (Ret fun v w' => v = .nilIface ∧ ∃ a' : Wy, a'.ok ∧ bss a'.fs = bss a.fs ++ [f.bs] ∧ Hp No w₀ w' ((some b, .cells #[.slice (ownA a'.key) a'.fs.length a'.c, .slice (ownA o.key) o.fs.length o.c] 76 (0, 0)) :: (a'.key, sob ES 30 (svs a'.fs) a'.sp) :: (o.key, sob ES 30 (svs o.fs) o.sp) :: (frs 5 a'.fs ++ (frs 5 o.fs ++ R)))) := by
  skip
  refine enter (n := 28) Tryd.func19 rfl rfl (Nat.le_of_ble_eq_true rfl) ?_
  refine seqRegion ?_
  refine sq (r_assign (v := .nilIface) rfl) ?_
  refine wend ?_
  refine seqRegion ?_
  refine sq (r_move (v := .pointer (some ⟨b, 0, none⟩)) rfl) ?_
  refine sq (r_move (v := i64 ((0 : Int))) rfl) ?_
  refine sq (r_move (v := i64 ((i : Nat))) rfl) ?_
  refine c_call (vs := [.pointer (some ⟨b, 0, none⟩), i64 ((0 : Int)), i64 ((i : Nat))]) call36 rfl (find_hit_0 b a o w i (H.get (k := 0) rfl) hi) ?_
  rintro _ w1 ⟨rfl, hE2⟩
  have H3 := H.ext hE2
  refine sq (r_move (v := .tuple #[.pointer (some ⟨b, 0, none⟩), .nilIface]) rfl) ?_
  refine sq (r_extract (vs := #[.pointer (some ⟨b, 0, none⟩), .nilIface]) rfl rfl) ?_
  refine sq (r_extract (vs := #[.pointer (some ⟨b, 0, none⟩), .nilIface]) rfl rfl) ?_
  refine sq (r_assign (v := .pointer (some ⟨b, 0, none⟩)) rfl) ?_
  refine sq (r_assign (v := .nilIface) rfl) ?_
  refine wend ?_
  refine seqAny ?_
  refine seqRegion ?_
  refine sq (r_move (v := .nilIface) rfl) ?_
  refine sq (r_neqNN isI28 rfl rfl) ?_
  refine wend ?_
  refine condFalse rfl ?_
  refine skipAny ?_
  refine thenNormal ?_
  refine seqRegion ?_
  refine sq (r_move (v := .pointer (some ⟨b, 0, none⟩)) rfl) ?_
  refine sq (r_move (v := i64 ((0 : Int))) rfl) ?_
  refine sq (r_move (v := .pointer (some ⟨b, 0, none⟩)) rfl) ?_
  refine sq (r_nilCheck rfl) ?_
  refine sq (r_loadC (v := .slice (ownA a.key) a.fs.length a.c) one22 (H3.get (k := 0) rfl) (off := 0) rfl (by rfl)) ?_
  refine sq (r_move (v := i64 ((i : Nat))) rfl) ?_
  refine sq (r_idxS (E := ES) (l := svs a.fs) (j := i) sli22 (H3.rd (k := 1) rfl ha.sl) rfl rfl (by first | rfl | omega | (simp; omega)) (by exact (svs_len _).symm) (by rw [svs_len]; exact hi)) ?_
  refine sq ((r_ldS (E := ES) (l := svs a.fs) (j := i) (v := (svs a.fs).getD i sv0) fits30 (H3.rd (k := 1) rfl ha.sl) rfl rfl (at_getD (by rw [svs_len]; exact hi))).as (v' := .slice (ownA f.key) f.bs.length f.c) (by rw [svs_get hf]; rfl)) ?_
  refine c_call (vs := [.pointer (some ⟨b, 0, none⟩), i64 ((0 : Int)), .slice (ownA f.key) f.bs.length f.c]) call14 rfl (send_ok_0 b a o ha R w₀ w1 f.bs hfl (ownA f.key) f.bs.length f.c rfl H3 (fun w1 HX => HX.rdF (T := 5) (ha.each f (List.mem_of_getElem? hf)) (List.mem_cons_of_mem _ (List.mem_cons_of_mem _ (List.mem_cons_of_mem _ (List.mem_append_left _ (frs_mem hf)))))) hlen) ?_
  rintro _ w4 ⟨rfl, a', hok, hbs, HN⟩
  have H6 := HN.as (L' := ((some b, .cells #[.slice (ownA a'.key) a'.fs.length a'.c, .slice (ownA o.key) o.fs.length o.c] 76 (0, 0)) :: (a'.key, sob ES 30 (svs a'.fs) a'.sp) :: (o.key, sob ES 30 (svs o.fs) o.sp) :: (frs 5 a'.fs ++ (frs 5 o.fs ++ R)))) rfl
  refine sq (r_assign (v := .nilIface) rfl) ?_
  refine wend ?_
  refine retAny ?_
  refine retG (rs := [.tmp 6]) (vs := [.nilIface]) rfl ⟨⟨rfl, rfl⟩, trivial⟩ ?_
  exact ⟨_, rfl, rfl, a', hok, hbs, H6⟩

theorem copy_full_0 (b : Nat) (a o : Wy) (w : World) (i : Nat) (hi : i < a.fs.length) (f : Fr) (hf : a.fs[i]? = some f) (hG : Gl w) (hb : w.heap[b]? = some (.cells #[.slice (ownA a.key) a.fs.length a.c, .slice (ownA o.key) o.fs.length o.c] 76 (0, 0))) (haR : Rd ES w (ownA a.key) (svs a.fs)) (hfull : 64 ≤ a.fs.length) : Calls Tryd.prog 19 [.pointer (some ⟨b, 0, none⟩), i64 ((0 : Int)), i64 ((i : Nat))].toArray w (Ret fun v w' => (∃ ev, v = ev ∧ Er w.heap.size w' 5 1 ev) ∧ Ext w w') := by
  have H := Hp.start No w
  refine enter (n := 28) Tryd.func19 rfl rfl (Nat.le_of_ble_eq_true rfl) ?_
  refine seqRegion ?_
  refine sq (r_assign (v := .nilIface) rfl) ?_
  refine wend ?_
  refine seqRegion ?_
  refine sq (r_move (v := .pointer (some ⟨b, 0, none⟩)) rfl) ?_
  refine sq (r_move (v := i64 ((0 : Int))) rfl) ?_
  refine sq (r_move (v := i64 ((i : Nat))) rfl) ?_
  refine c_call (vs := [.pointer (some ⟨b, 0, none⟩), i64 ((0 : Int)), i64 ((i : Nat))]) call36 rfl (find_hit_0 b a o w i (H.keepE hb) hi) ?_
  rintro _ w1 ⟨rfl, hE2⟩
  have H3 := H.ext hE2
  refine sq (r_move (v := .tuple #[.pointer (some ⟨b, 0, none⟩), .nilIface]) rfl) ?_
  refine sq (r_extract (vs := #[.pointer (some ⟨b, 0, none⟩), .nilIface]) rfl rfl) ?_
  refine sq (r_extract (vs := #[.pointer (some ⟨b, 0, none⟩), .nilIface]) rfl rfl) ?_
  refine sq (r_assign (v := .pointer (some ⟨b, 0, none⟩)) rfl) ?_
  refine sq (r_assign (v := .nilIface) rfl) ?_
  refine wend ?_
  refine seqAny ?_
  refine seqRegion ?_
  refine sq (r_move (v := .nilIface) rfl) ?_
  refine sq (r_neqNN isI28 rfl rfl) ?_
  refine wend ?_
  refine condFalse rfl ?_
  refine skipAny ?_
  refine thenNormal ?_
  refine seqRegion ?_
  refine sq (r_move (v := .pointer (some ⟨b, 0, none⟩)) rfl) ?_
  refine sq (r_move (v := i64 ((0 : Int))) rfl) ?_
  refine sq (r_move (v := .pointer (some ⟨b, 0, none⟩)) rfl) ?_
  refine sq (r_nilCheck rfl) ?_
  refine sq (r_loadC (v := .slice (ownA a.key) a.fs.length a.c) one22 (H3.keepE hb) (off := 0) rfl (by rfl)) ?_
  refine sq (r_move (v := i64 ((i : Nat))) rfl) ?_
  refine sq (r_idxS (E := ES) (l := svs a.fs) (j := i) sli22 (haR.ext H3.chg) rfl rfl (by first | rfl | omega | (simp; omega)) (by exact (svs_len _).symm) (by rw [svs_len]; exact hi)) ?_
  refine sq ((r_ldS (E := ES) (l := svs a.fs) (j := i) (v := (svs a.fs).getD i sv0) fits30 (haR.ext H3.chg) rfl rfl (at_getD (by rw [svs_len]; exact hi))).as (v' := .slice (ownA f.key) f.bs.length f.c) (by rw [svs_get hf]; rfl)) ?_
  refine c_call (vs := [.pointer (some ⟨b, 0, none⟩), i64 ((0 : Int)), .slice (ownA f.key) f.bs.length f.c]) call14 rfl (send_full_0 b a o w1 (.slice (ownA f.key) f.bs.length f.c) (Chg.gl H3.chg (fun x => x) hG) (H3.keepE hb) hfull) ?_
  rintro _ w4 ⟨⟨v6, rfl, hEr7⟩, hE8⟩
  have H9 := H3.ext hE8
  obtain ⟨T10, x11, rfl⟩ := hEr7.iface
  refine sq (r_assign (v := .iface T10 (x11)) rfl) ?_
  refine wend ?_
  refine retAny ?_
  refine retG (rs := [.tmp 6]) (vs := [.iface T10 (x11)]) rfl ⟨⟨rfl, rfl⟩, trivial⟩ ?_
  exact ⟨_, rfl, ⟨_, rfl, hEr7.mono H3.chg.size⟩, H9.chg⟩

theorem copy_ok_1 (b : Nat) (a o : Wy) (ha : a.ok) (R : List (Option Nat × Obj)) (w₀ w : World) (i : Nat) (hi : i < a.fs.length) (f : Fr) (hf : a.fs[i]? = some f) (hfl : f.bs.length ≤ 140737488355328) (hlen : a.fs.length < 64) (H : Hp No w₀ w ((some b, .cells #[.slice (ownA o.key) o.fs.length o.c, .slice (ownA a.key) a.fs.length a.c] 76 (0, 0)) :: (a.key, sob ES 30 (svs a.fs) a.sp) :: (o.key, sob ES 30 (svs o.fs) o.sp) :: (frs 5 a.fs ++ (frs 5 o.fs ++ R)))) : Calls Tryd.prog 19 [.pointer (some ⟨b, 0, none⟩), i64 ((1 : Int)), i64 ((i : Nat))].toArray w (Ret fun v w' => v = .nilIface ∧ ∃ a' : Wy, a'.ok ∧ bss a'.fs = bss a.fs ++ [f.bs] ∧ Hp No w₀ w' ((some b, .cells #[.slice (ownA o.key) o.fs.length o.c, .slice (ownA a'.key) a'.fs.length a'.c] 76 (0, 0)) :: (a'.key, sob ES 30 (svs a'.fs) a'.sp) :: (o.key, sob ES 30 (svs o.fs) o.sp) :: (frs 5 a'.fs ++ (frs 5 o.fs ++ R)))) := by
  skip
  refine enter (n := 28) Tryd.func19 rfl rfl (Nat.le_of_ble_eq_true rfl) ?_
  refine seqRegion ?_
  refine sq (r_assign (v := .nilIface) rfl) ?_
  refine wend ?_
  refine seqRegion ?_
  refine sq (r_move (v := .pointer (some ⟨b, 0, none⟩)) rfl) ?_
  refine sq (r_move (v := i64 ((1 : Int))) rfl) ?_
  refine sq (r_move (v := i64 ((i : Nat))) rfl) ?_
  refine c_call (vs := [.pointer (some ⟨b, 0, none⟩), i64 ((1 : Int)), i64 ((i : Nat))]) call36 rfl (find_hit_1 b a o w i (H.get (k := 0) rfl) hi) ?_
  rintro _ w1 ⟨rfl, hE2⟩
  have H3 := H.ext hE2
  refine sq (r_move (v := .tuple #[.pointer (some ⟨b, 1, none⟩), .nilIface]) rfl) ?_
  refine sq (r_extract (vs := #[.pointer (some ⟨b, 1, none⟩), .nilIface]) rfl rfl) ?_
  refine sq (r_extract (vs := #[.pointer (some ⟨b, 1, none⟩), .nilIface]) rfl rfl) ?_
  refine sq (r_assign (v := .pointer (some ⟨b, 1, none⟩)) rfl) ?_
  refine sq (r_assign (v := .nilIface) rfl) ?_
  refine wend ?_
  refine seqAny ?_
  refine seqRegion ?_
  refine sq (r_move (v := .nilIface) rfl) ?_
  refine sq (r_neqNN isI28 rfl rfl) ?_
  refine wend ?_
  refine condFalse rfl ?_
  refine skipAny ?_
  refine thenNormal ?_
  refine seqRegion ?_
  refine sq (r_move (v := .pointer (some ⟨b, 0, none⟩)) rfl) ?_
  refine sq (r_move (v := i64 ((1 : Int))) rfl) ?_
  refine sq (r_move (v := .pointer (some ⟨b, 1, none⟩)) rfl) ?_
  refine sq (r_nilCheck rfl) ?_
  refine sq (r_loadC (v := .slice (ownA a.key) a.fs.length a.c) one22 (H3.get (k := 0) rfl) (off := 1) rfl (by rfl)) ?_
  refine sq (r_move (v := i64 ((i : Nat))) rfl) ?_
  refine sq (r_idxS (E := ES) (l := svs a.fs) (j := i) sli22 (H3.rd (k := 1) rfl ha.sl) rfl rfl (by first | rfl | omega | (simp; omega)) (by exact (svs_len _).symm) (by rw [svs_len]; exact hi)) ?_
  refine sq ((r_ldS (E := ES) (l := svs a.fs) (j := i) (v := (svs a.fs).getD i sv0) fits30 (H3.rd (k := 1) rfl ha.sl) rfl rfl (at_getD (by rw [svs_len]; exact hi))).as (v' := .slice (ownA f.key) f.bs.length f.c) (by rw [svs_get hf]; rfl)) ?_
  refine c_call (vs := [.pointer (some ⟨b, 0, none⟩), i64 ((1 : Int)), .slice (ownA f.key) f.bs.length f.c]) call14 rfl (send_ok_1 b a o ha R w₀ w1 f.bs hfl (ownA f.key) f.bs.length f.c rfl H3 (fun w1 HX => HX.rdF (T := 5) (ha.each f (List.mem_of_getElem? hf)) (List.mem_cons_of_mem _ (List.mem_cons_of_mem _ (List.mem_cons_of_mem _ (List.mem_append_left _ (frs_mem hf)))))) hlen) ?_
  rintro _ w4 ⟨rfl, a', hok, hbs, HN⟩
  have H6 := HN.as (L' := ((some b, .cells #[.slice (ownA o.key) o.fs.length o.c, .slice (ownA a'.key) a'.fs.length a'.c] 76 (0, 0)) :: (a'.key, sob ES 30 (svs a'.fs) a'.sp) :: (o.key, sob ES 30 (svs o.fs) o.sp) :: (frs 5 a'.fs ++ (frs 5 o.fs ++ R)))) rfl
  refine sq (r_assign (v := .nilIface) rfl) ?_
  refine wend ?_
  refine retAny ?_
  refine retG (rs := [.tmp 6]) (vs := [.nilIface]) rfl ⟨⟨rfl, rfl⟩, trivial⟩ ?_
  exact ⟨_, rfl, rfl, a', hok, hbs, H6⟩

theorem copy_full_1 (b : Nat) (a o : Wy) (w : World) (i : Nat) (hi : i < a.fs.length) (f : Fr) (hf : a.fs[i]? = some f) (hG : Gl w) (hb : w.heap[b]? = some (.cells #[.slice (ownA o.key) o.fs.length o.c, .slice (ownA a.key) a.fs.length a.c] 76 (0, 0))) (haR : Rd ES w (ownA a.key) (svs a.fs)) (hfull : 64 ≤ a.fs.length) : Calls Tryd.prog 19 [.pointer (some ⟨b, 0, none⟩), i64 ((1 : Int)), i64 ((i : Nat))].toArray w (Ret fun v w' => (∃ ev, v = ev ∧ Er w.heap.size w' 5 1 ev) ∧ Ext w w') := by
  have H := Hp.start No w
  refine enter (n := 28) Tryd.func19 rfl rfl (Nat.le_of_ble_eq_true rfl) ?_
  refine seqRegion ?_
  refine sq (r_assign (v := .nilIface) rfl) ?_
  refine wend ?_
  refine seqRegion ?_
  refine sq (r_move (v := .pointer (some ⟨b, 0, none⟩)) rfl) ?_
  refine sq (r_move (v := i64 ((1 : Int))) rfl) ?_
  refine sq (r_move (v := i64 ((i : Nat))) rfl) ?_
  refine c_call (vs := [.pointer (some ⟨b, 0, none⟩), i64 ((1 : Int)), i64 ((i : Nat))]) call36 rfl (find_hit_1 b a o w i (H.keepE hb) hi) ?_
  rintro _ w1 ⟨rfl, hE2⟩
  have H3 := H.ext hE2
  refine sq (r_move (v := .tuple #[.pointer (some ⟨b, 1, none⟩), .nilIface]) rfl) ?_
  refine sq (r_extract (vs := #[.pointer (some ⟨b, 1, none⟩), .nilIface]) rfl rfl) ?_
  refine sq (r_extract (vs := #[.pointer (some ⟨b, 1, none⟩), .nilIface]) rfl rfl) ?_
  refine sq (r_assign (v := .pointer (some ⟨b, 1, none⟩)) rfl) ?_
  refine sq (r_assign (v := .nilIface) rfl) ?_
  refine wend ?_
  refine seqAny ?_
  refine seqRegion ?_
  refine sq (r_move (v := .nilIface) rfl) ?_
  refine sq (r_neqNN isI28 rfl rfl) ?_
  refine wend ?_
  refine condFalse rfl ?_
  refine skipAny ?_
  refine thenNormal ?_
  refine seqRegion ?_
  refine sq (r_move (v := .pointer (some ⟨b, 0, none⟩)) rfl) ?_
  refine sq (r_move (v := i64 ((1 : Int))) rfl) ?_
  refine sq (r_move (v := .pointer (some ⟨b, 1, none⟩)) rfl) ?_
  refine sq (r_nilCheck rfl) ?_
  refine sq (r_loadC (v := .slice (ownA a.key) a.fs.length a.c) one22 (H3.keepE hb) (off := 1) rfl (by rfl)) ?_
  refine sq (r_move (v := i64 ((i : Nat))) rfl) ?_
  refine sq (r_idxS (E := ES) (l := svs a.fs) (j := i) sli22 (haR.ext H3.chg) rfl rfl (by first | rfl | omega | (simp; omega)) (by exact (svs_len _).symm) (by rw [svs_len]; exact hi)) ?_
  refine sq ((r_ldS (E := ES) (l := svs a.fs) (j := i) (v := (svs a.fs).getD i sv0) fits30 (haR.ext H3.chg) rfl rfl (at_getD (by rw [svs_len]; exact hi))).as (v' := .slice (ownA f.key) f.bs.length f.c) (by rw [svs_get hf]; rfl)) ?_
  refine c_call (vs := [.pointer (some ⟨b, 0, none⟩), i64 ((1 : Int)), .slice (ownA f.key) f.bs.length f.c]) call14 rfl (send_full_1 b a o w1 (.slice (ownA f.key) f.bs.length f.c) (Chg.gl H3.chg (fun x => x) hG) (H3.keepE hb) hfull) ?_
  rintro _ w4 ⟨⟨v6, rfl, hEr7⟩, hE8⟩
  have H9 := H3.ext hE8
  obtain ⟨T10, x11, rfl⟩ := hEr7.iface
  refine sq (r_assign (v := .iface T10 (x11)) rfl) ?_
  refine wend ?_
  refine retAny ?_
  refine retG (rs := [.tmp 6]) (vs := [.iface T10 (x11)]) rfl ⟨⟨rfl, rfl⟩, trivial⟩ ?_
  exact ⟨_, rfl, ⟨_, rfl, hEr7.mono H3.chg.size⟩, H9.chg⟩

theorem copy_miss_0 (b : Nat) (a o : Wy) (w : World) (i : Int) (hG : Gl w) (hb : w.heap[b]? = some (.cells #[.slice (ownA a.key) a.fs.length a.c, .slice (ownA o.key) o.fs.length o.c] 76 (0, 0))) (hi : i < 0 ∨ (a.fs.length : Int) ≤ i) : Calls Tryd.prog 19 [.pointer (some ⟨b, 0, none⟩), i64 ((0 : Int)), i64 (i)].toArray w (Ret fun v w' => (∃ ev, v = ev ∧ Er w.heap.size w' 4 1 ev) ∧ Ext w w') := by
  have H := Hp.start No w
  refine enter (n := 28) Tryd.func19 rfl rfl (Nat.le_of_ble_eq_true rfl) ?_
  refine seqRegion ?_
  refine sq (r_assign (v := .nilIface) rfl) ?_
  refine wend ?_
  refine seqRegion ?_
  refine sq (r_move (v := .pointer (some ⟨b, 0, none⟩)) rfl) ?_
  refine sq (r_move (v := i64 ((0 : Int))) rfl) ?_
  refine sq (r_move (v := i64 (i)) rfl) ?_
  refine c_call (vs := [.pointer (some ⟨b, 0, none⟩), i64 ((0 : Int)), i64 (i)]) call36 rfl (find_miss_0 b a o w i (Chg.gl H.chg (fun x => x) hG) (H.keepE hb) hi) ?_
  rintro _ w1 ⟨⟨v3, rfl, hEr4⟩, hE5⟩
  have H6 := H.ext hE5
  obtain ⟨T7, x8, rfl⟩ := hEr4.iface
  refine sq (r_move (v := .tuple #[.pointer none, .iface T7 (x8)]) rfl) ?_
  refine sq (r_extract (vs := #[.pointer none, .iface T7 (x8)]) rfl rfl) ?_
  refine sq (r_extract (vs := #[.pointer none, .iface T7 (x8)]) rfl rfl) ?_
  refine sq (r_assign (v := .pointer none) rfl) ?_
  refine sq (r_assign (v := .iface T7 (x8)) rfl) ?_
  refine wend ?_
  refine seqAny ?_
  refine seqRegion ?_
  refine sq (r_move (v := .iface T7 (x8)) rfl) ?_
  refine sq (r_neqIN isI28 rfl rfl) ?_
  refine wend ?_
  refine condTrue rfl ?_
  refine seqRegion ?_
  refine sq (r_move (v := .iface T7 (x8)) rfl) ?_
  refine sq (r_assign (v := .iface T7 (x8)) rfl) ?_
  refine wend ?_
  refine retAny ?_
  refine thenRet ?_
  refine retG (rs := [.tmp 6]) (vs := [.iface T7 (x8)]) rfl ⟨⟨rfl, rfl⟩, trivial⟩ ?_
  exact ⟨_, rfl, ⟨_, rfl, hEr4.mono H.chg.size⟩, H6.chg⟩

theorem copy_miss_1 (b : Nat) (a o : Wy) (w : World) (i : Int) (hG : Gl w) (hb : w.heap[b]? = some (.cells #[.slice (ownA o.key) o.fs.length o.c, .slice (ownA a.key) a.fs.length a.c] 76 (0, 0))) (hi : i < 0 ∨ (a.fs.length : Int) ≤ i) : Calls Tryd.prog 19 [.pointer (some ⟨b, 0, none⟩), i64 ((1 : Int)), i64 (i)].toArray w (Ret fun v w' => (∃ ev, v = ev ∧ Er w.heap.size w' 4 1 ev) ∧ Ext w w') := by
  have H := Hp.start No w
  refine enter (n := 28) Tryd.func19 rfl rfl (Nat.le_of_ble_eq_true rfl) ?_
  refine seqRegion ?_
  refine sq (r_assign (v := .nilIface) rfl) ?_
  refine wend ?_
  refine seqRegion ?_
  refine sq (r_move (v := .pointer (some ⟨b, 0, none⟩)) rfl) ?_
  refine sq (r_move (v := i64 ((1 : Int))) rfl) ?_
  refine sq (r_move (v := i64 (i)) rfl) ?_
  refine c_call (vs := [.pointer (some ⟨b, 0, none⟩), i64 ((1 : Int)), i64 (i)]) call36 rfl (find_miss_1 b a o w i (Chg.gl H.chg (fun x => x) hG) (H.keepE hb) hi) ?_
  rintro _ w1 ⟨⟨v3, rfl, hEr4⟩, hE5⟩
  have H6 := H.ext hE5
  obtain ⟨T7, x8, rfl⟩ := hEr4.iface
  refine sq (r_move (v := .tuple #[.pointer none, .iface T7 (x8)]) rfl) ?_
  refine sq (r_extract (vs := #[.pointer none, .iface T7 (x8)]) rfl rfl) ?_
  refine sq (r_extract (vs := #[.pointer none, .iface T7 (x8)]) rfl rfl) ?_
  refine sq (r_assign (v := .pointer none) rfl) ?_
  refine sq (r_assign (v := .iface T7 (x8)) rfl) ?_
  refine wend ?_
  refine seqAny ?_
  refine seqRegion ?_
  refine sq (r_move (v := .iface T7 (x8)) rfl) ?_
  refine sq (r_neqIN isI28 rfl rfl) ?_
  refine wend ?_
  refine condTrue rfl ?_
  refine seqRegion ?_
  refine sq (r_move (v := .iface T7 (x8)) rfl) ?_
  refine sq (r_assign (v := .iface T7 (x8)) rfl) ?_
  refine wend ?_
  refine retAny ?_
  refine thenRet ?_
  refine retG (rs := [.tmp 6]) (vs := [.iface T7 (x8)]) rfl ⟨⟨rfl, rfl⟩, trivial⟩ ?_
  exact ⟨_, rfl, ⟨_, rfl, hEr4.mono H.chg.size⟩, H6.chg⟩

theorem copy_range (b : Nat) (way : Int) (h0 : way ≠ 0) (h1 : way ≠ 1) (i : Int) (w : World) (hG : Gl w) : Calls Tryd.prog 19 [.pointer (some ⟨b, 0, none⟩), i64 (way), i64 (i)].toArray w (Ret fun v w' => (∃ ev, v = ev ∧ Er w.heap.size w' 1 1 ev) ∧ Ext w w') := by
  have H := Hp.start No w
  refine enter (n := 28) Tryd.func19 rfl rfl (Nat.le_of_ble_eq_true rfl) ?_
  refine seqRegion ?_
  refine sq (r_assign (v := .nilIface) rfl) ?_
  refine wend ?_
  refine seqRegion ?_
  refine sq (r_move (v := .pointer (some ⟨b, 0, none⟩)) rfl) ?_
  refine sq (r_move (v := i64 (way)) rfl) ?_
  refine sq (r_move (v := i64 (i)) rfl) ?_
  refine c_call (vs := [.pointer (some ⟨b, 0, none⟩), i64 (way), i64 (i)]) call36 rfl (find_range b way h0 h1 i w (Chg.gl H.chg (fun x => x) hG)) ?_
  rintro _ w1 ⟨⟨v3, rfl, hEr4⟩, hE5⟩
  have H6 := H.ext hE5
  obtain ⟨T7, x8, rfl⟩ := hEr4.iface
  refine sq (r_move (v := .tuple #[.pointer none, .iface T7 (x8)]) rfl) ?_
  refine sq (r_extract (vs := #[.pointer none, .iface T7 (x8)]) rfl rfl) ?_
  refine sq (r_extract (vs := #[.pointer none, .iface T7 (x8)]) rfl rfl) ?_
  refine sq (r_assign (v := .pointer none) rfl) ?_
  refine sq (r_assign (v := .iface T7 (x8)) rfl) ?_
  refine wend ?_
  refine seqAny ?_
  refine seqRegion ?_
  refine sq (r_move (v := .iface T7 (x8)) rfl) ?_
  refine sq (r_neqIN isI28 rfl rfl) ?_
  refine wend ?_
  refine condTrue rfl ?_
  refine seqRegion ?_
  refine sq (r_move (v := .iface T7 (x8)) rfl) ?_
  refine sq (r_assign (v := .iface T7 (x8)) rfl) ?_
  refine wend ?_
  refine retAny ?_
  refine thenRet ?_
  refine retG (rs := [.tmp 6]) (vs := [.iface T7 (x8)]) rfl ⟨⟨rfl, rfl⟩, trivial⟩ ?_
  exact ⟨_, rfl, ⟨_, rfl, hEr4.mono H.chg.size⟩, H6.chg⟩

def flipB (l : List (BitVec 8)) (bit : Nat) : List (BitVec 8) := l.set (bit / 8) (l.getD (bit / 8) 0#8 ^^^ 1#8 <<< (bit % 8))

theorem flip_ok_0 (b : Nat) (a o : Wy) (ha : a.ok) (R : List (Option Nat × Obj)) (w₀ w : World) (i : Nat) (hi : i < a.fs.length) (f : Fr) (hf : a.fs[i]? = some f) (hfl : f.bs.length ≤ 140737488355328) (bit : Nat) (hbit : bit / 8 < f.bs.length) (H : Hp No w₀ w ((some b, .cells #[.slice (ownA a.key) a.fs.length a.c, .slice (ownA o.key) o.fs.length o.c] 76 (0, 0)) :: (a.key, sob ES 30 (svs a.fs) a.sp) :: (o.key, sob ES 30 (svs o.fs) o.sp) :: (frs 5 a.fs ++ (frs 5 o.fs ++ R)))) : Calls Tryd.prog 21 [.pointer (some ⟨b, 0, none⟩), i64 ((0 : Int)), i64 ((i : Nat)), i64 ((bit : Nat))].toArray w (Ret fun v w' => v = .nilIface ∧ ∃ a' : Wy, a'.ok ∧ bss a'.fs = (bss a.fs).set i (flipB f.bs bit) ∧ Hp No w₀ w' ((some b, .cells #[.slice (ownA a'.key) a'.fs.length a'.c, .slice (ownA o.key) o.fs.length o.c] 76 (0, 0)) :: (a'.key, sob ES 30 (svs a'.fs) a'.sp) :: (o.key, sob ES 30 (svs o.fs) o.sp) :: (frs 5 a'.fs ++ (frs 5 o.fs ++ R)))) := by
  skip
  refine enter (n := 49) Tryd.func21 rfl rfl (Nat.le_of_ble_eq_true rfl) ?_
  refine seqRegion ?_
  refine sq (r_assign (v := .nilIface) rfl) ?_
  refine wend ?_
  refine seqRegion ?_
  refine sq (r_move (v := .pointer (some ⟨b, 0, none⟩)) rfl) ?_
  refine sq (r_move (v := i64 ((0 : Int))) rfl) ?_
  refine sq (r_move (v := i64 ((i : Nat))) rfl) ?_
  refine c_call (vs := [.pointer (some ⟨b, 0, none⟩), i64 ((0 : Int)), i64 ((i : Nat))]) call36 rfl (find_hit_0 b a o w i (H.get (k := 0) rfl) hi) ?_
  rintro _ w1 ⟨rfl, hE2⟩
  have H3 := H.ext hE2
  refine sq (r_move (v := .tuple #[.pointer (some ⟨b, 0, none⟩), .nilIface]) rfl) ?_
  refine sq (r_extract (vs := #[.pointer (some ⟨b, 0, none⟩), .nilIface]) rfl rfl) ?_
  refine sq (r_extract (vs := #[.pointer (some ⟨b, 0, none⟩), .nilIface]) rfl rfl) ?_
  refine sq (r_assign (v := .pointer (some ⟨b, 0, none⟩)) rfl) ?_
  refine sq (r_assign (v := .nilIface) rfl) ?_
  refine wend ?_
  refine seqAny ?_
  refine seqRegion ?_
  refine sq (r_move (v := .nilIface) rfl) ?_
  refine sq (r_neqNN isI28 rfl rfl) ?_
  refine wend ?_
  refine condFalse rfl ?_
  refine skipAny ?_
  refine thenNormal ?_
  refine seqRegion ?_
  refine sq (r_move (v := .pointer (some ⟨b, 0, none⟩)) rfl) ?_
  refine sq (r_nilCheck rfl) ?_
  refine sq (r_loadC (v := .slice (ownA a.key) a.fs.length a.c) one22 (H3.get (k := 0) rfl) (off := 0) rfl (by rfl)) ?_
  refine sq (r_move (v := i64 ((i : Nat))) rfl) ?_
  refine sq (r_idxS (E := ES) (l := svs a.fs) (j := i) sli22 (H3.rd (k := 1) rfl ha.sl) rfl rfl (by first | rfl | omega | (simp; omega)) (by exact (svs_len _).symm) (by rw [svs_len]; exact hi)) ?_
  refine sq ((r_ldS (E := ES) (l := svs a.fs) (j := i) (v := (svs a.fs).getD i sv0) fits30 (H3.rd (k := 1) rfl ha.sl) rfl rfl (at_getD (by rw [svs_len]; exact hi))).as (v' := .slice (ownA f.key) f.bs.length f.c) (by rw [svs_get hf]; rfl)) ?_
  refine sq (r_assign (v := .slice (ownA f.key) f.bs.length f.c) rfl) ?_
  have hfok := ha.each f (List.mem_of_getElem? hf)
  have H4 := (H3.outFs (i := i) hf).as (L' := ((f.key, sob E8 5 f.bs f.sp) :: (some b, .cells #[.slice (ownA a.key) a.fs.length a.c, .slice (ownA o.key) o.fs.length o.c] 76 (0, 0)) :: (a.key, sob ES 30 (svs a.fs) a.sp) :: (o.key, sob ES 30 (svs o.fs) o.sp) :: (frs 5 (a.fs.eraseIdx i) ++ (frs 5 o.fs ++ R)))) rfl
  refine wend ?_
  refine seqAny ?_
  refine seqRegion ?_
  refine sq (r_move (v := i64 ((bit : Nat))) rfl) ?_
  refine sq ((r_lssI (a := (bit : Nat)) (b := (0 : Int)) rfl rfl).as (v' := .bool (false)) (by exact congrArg Value.bool (decide_eq_false (by omega)))) ?_
  refine sq (r_move (v := .bool (false)) rfl) ?_
  refine sqAny (v := i64 ((bit : Nat))) (w' := w1) (wantedSome (d' := 30) (b := false) rfl rfl rfl) (r_move (v := i64 ((bit : Nat))) rfl) ?_
  refine sqAny (v := i64 ((bit : Nat) / (8 : Int))) (w' := w1) (wantedSome (d' := 30) (b := false) rfl rfl rfl) (r_quoI (a := (bit : Nat)) (b := (8 : Int)) rfl rfl (by omega)) ?_
  refine sqAny (v := .slice (ownA f.key) f.bs.length f.c) (w' := w1) (wantedSome (d' := 30) (b := false) rfl rfl rfl) (r_move (v := .slice (ownA f.key) f.bs.length f.c) rfl) ?_
  refine sqAny (v := i64 ((f.bs.length : Nat))) (w' := w1) (wantedSome (d' := 30) (b := false) rfl rfl rfl) (r_lenS sli30 (a := ownA f.key) (m := f.bs.length) (c := f.c) rfl) ?_
  refine sqAny (v := .bool (false)) (w' := w1) (wantedSome (d' := 30) (b := false) rfl rfl rfl) ((r_geqI (a := (bit : Nat) / (8 : Int)) (b := (f.bs.length : Nat)) rfl rfl).as (v' := .bool (false)) (by exact congrArg Value.bool (decide_eq_false (by omega)))) ?_
  refine sq (r_pickF (v := .bool (false)) rfl rfl) ?_
  refine wend ?_
  refine condFalse rfl ?_
  refine skipAny ?_
  refine thenNormal ?_
  refine seqAny ?_
  refine drawC (m := 11) [0, 0, 2, 7, 15, 0, 32, 96, 255, 511, 1023] [10] (fun q vs w' => match q, vs with | 0, [] => Hp No w₀ w' ((f.key, sob E8 5 f.bs f.sp) :: (some b, .cells #[.slice (ownA a.key) a.fs.length a.c, .slice (ownA o.key) o.fs.length o.c] 76 (0, 0)) :: (a.key, sob ES 30 (svs a.fs) a.sp) :: (o.key, sob ES 30 (svs o.fs) o.sp) :: (frs 5 (a.fs.eraseIdx i) ++ (frs 5 o.fs ++ R))) | 1, [_] => True ∧ Sl E8 f.key (f.bs.set (bit / 8) (((f.bs).getD (bit / 8) 0#8) ^^^ ((1#8) <<< (bit % 8 : Nat)))) f.c f.sp ∧ Hp No w₀ w' ((f.key, sob E8 5 (f.bs.set (bit / 8) (((f.bs).getD (bit / 8) 0#8) ^^^ ((1#8) <<< (bit % 8 : Nat)))) f.sp) :: (some b, .cells #[.slice (ownA a.key) a.fs.length a.c, .slice (ownA o.key) o.fs.length o.c] 76 (0, 0)) :: (a.key, sob ES 30 (svs a.fs) a.sp) :: (o.key, sob ES 30 (svs o.fs) o.sp) :: (frs 5 (a.fs.eraseIdx i) ++ (frs 5 o.fs ++ R))) | _, _ => False) mixed (by kernel_rfl) (by kernel_rfl) H4.drew ?_
  refine WalkC.look rfl (fun _ => .slice (ownA f.key) f.bs.length f.c) (fun _ _ _ => rfl) (fun q r uw _ _ _ _ => Gives.run rfl (r_move (v := .slice (ownA f.key) f.bs.length f.c) rfl) ⟨rfl, rfl⟩) ?_
  refine WalkC.look rfl (fun _ => i64 ((bit : Nat))) (fun _ _ _ => rfl) (fun q r uw _ _ _ _ => Gives.run rfl (r_move (v := i64 ((bit : Nat))) rfl) ⟨rfl, rfl⟩) ?_
  refine WalkC.look rfl (fun _ => i64 ((bit : Nat) / (8 : Int))) (fun _ _ _ => rfl) (fun q r uw _ _ _ _ => Gives.run rfl (r_quoI (a := (bit : Nat)) (b := (8 : Int)) rfl rfl (by omega)) ⟨rfl, rfl⟩) ?_
  refine WalkC.look rfl (fun _ => .pointer (adr (ownA f.key) ((bit / 8) * 1))) (fun _ _ _ => rfl) (fun q r uw hlo hhi hle hF => ?_) ?_
  · skip
    have h1 : 0 ≤ q := Nat.zero_le _
    have h2 : q ≤ 0 := hhi 0 10 rfl rfl
    rcases (show q = 0 by omega) with rfl
    · skip
      have HH := hF
      exact Gives.run rfl (r_idxS (E := E8) (l := f.bs) (j := bit / 8) sli30 (HH.rd (k := 0) rfl hfok) rfl rfl (by first | rfl | omega | (simp; omega)) (by rfl) (by omega)) ⟨rfl, rfl⟩
  refine WalkC.look rfl (fun _ => u8 ((f.bs).getD (bit / 8) 0#8)) (fun _ _ _ => rfl) (fun q r uw hlo hhi hle hF => ?_) ?_
  · skip
    have h1 : 0 ≤ q := Nat.zero_le _
    have h2 : q ≤ 0 := hhi 0 10 rfl rfl
    rcases (show q = 0 by omega) with rfl
    · skip
      have HH := hF
      exact Gives.run rfl (r_ldS (E := E8) (l := f.bs) (j := bit / 8) (v := (f.bs).getD (bit / 8) 0#8) fits5 (HH.rd (k := 0) rfl hfok) rfl rfl (at_getD (by omega))) ⟨rfl, rfl⟩
  refine WalkC.look rfl (fun _ => i64 ((bit : Nat))) (fun _ _ _ => rfl) (fun q r uw _ _ _ _ => Gives.run rfl (r_move (v := i64 ((bit : Nat))) rfl) ⟨rfl, rfl⟩) ?_
  refine WalkC.look rfl (fun _ => i64 ((bit : Nat) % (8 : Int))) (fun _ _ _ => rfl) (fun q r uw _ _ _ _ => Gives.run rfl (r_remI (a := (bit : Nat)) (b := (8 : Int)) rfl rfl (by omega)) ⟨rfl, rfl⟩) ?_
  refine WalkC.look rfl (fun _ => u8 ((1#8) <<< (bit % 8 : Nat))) (fun _ _ _ => rfl) (fun q r uw _ _ _ _ => Gives.run rfl (r_shl8 (a := 1#8) (c := bit % 8) rfl rfl) ⟨rfl, rfl⟩) ?_
  refine WalkC.look rfl (fun _ => u8 (((f.bs).getD (bit / 8) 0#8) ^^^ ((1#8) <<< (bit % 8 : Nat)))) (fun _ _ _ => rfl) (fun q r uw _ _ _ _ => Gives.run rfl (r_xor8 (a := (f.bs).getD (bit / 8) 0#8) (b := (1#8) <<< (bit % 8 : Nat)) rfl rfl) ⟨rfl, rfl⟩) ?_
  refine WalkC.look rfl (fun _ => .pointer (adr (ownA f.key) ((bit / 8) * 1))) (fun _ _ _ => rfl) (fun q r uw hlo hhi hle hF => ?_) ?_
  · skip
    have h1 : 0 ≤ q := Nat.zero_le _
    have h2 : q ≤ 0 := hhi 0 10 rfl rfl
    rcases (show q = 0 by omega) with rfl
    · skip
      have HH := hF
      exact Gives.run rfl (r_idxS (E := E8) (l := f.bs) (j := bit / 8) sli30 (HH.rd (k := 0) rfl hfok) rfl rfl (by first | rfl | omega | (simp; omega)) (by rfl) (by omega)) ⟨rfl, rfl⟩
  refine WalkC.eff 0 rfl (fun r uw5 hF7 => ?_) ?_
  · skip
    have H6 := hF7
    dsimp only [List.take, List.map, List.cons_append, List.nil_append]
    refine Gives.ofW0 rfl (fun Q' hK => ?_)
    refine d_storeS (E := E8) (k := 0) (l := f.bs) (j := bit / 8) (b := ((f.bs).getD (bit / 8) 0#8) ^^^ ((1#8) <<< (bit % 8 : Nat))) (a := (f.bs).getD (bit / 8) 0#8) H6 rfl hfok rfl rfl rfl rfl siz5 (at_getD (by omega)) ?_
    intro w9 hS8 H10
    have H10' := H10.as (L' := ((f.key, sob E8 5 (f.bs.set (bit / 8) (((f.bs).getD (bit / 8) 0#8) ^^^ ((1#8) <<< (bit % 8 : Nat)))) f.sp) :: (some b, .cells #[.slice (ownA a.key) a.fs.length a.c, .slice (ownA o.key) o.fs.length o.c] 76 (0, 0)) :: (a.key, sob ES 30 (svs a.fs) a.sp) :: (o.key, sob ES 30 (svs o.fs) o.sp) :: (frs 5 (a.fs.eraseIdx i) ++ (frs 5 o.fs ++ R)))) rfl
    clear H10
    exact hK _ (fun _ => ⟨trivial, hS8, H10'⟩)
  refine WalkC.nil ?_
  intro r11 w12 hF14
  obtain ⟨e10, hS8, H13⟩ := hF14
  dsimp only
  refine wnil ?_
  refine thenNormal ?_
  refine seqRegion ?_
  refine sq (r_assign (v := .nilIface) rfl) ?_
  refine wend ?_
  refine retAny ?_
  refine retG (rs := [.tmp 8]) (vs := [.nilIface]) rfl ⟨⟨rfl, rfl⟩, trivial⟩ ?_
  have hsv : (⟨f.key, flipB f.bs bit, f.c, f.sp⟩ : Fr).sv = f.sv := by simp [Fr.sv, flipB]
  refine ⟨_, rfl, rfl, ⟨a.key, a.c, a.sp, a.fs.set i (⟨f.key, flipB f.bs bit, f.c, f.sp⟩ : Fr)⟩, ⟨by dsimp only; rw [svs_set hf hsv]; exact ha.sl, fun x hx => ?_⟩, bss_set _ _ _, ?_⟩
  · rcases List.mem_or_eq_of_mem_set hx with h | rfl
    · exact ha.each x h
    · exact hS8
  · have := H13.backFs (f' := (⟨f.key, flipB f.bs bit, f.c, f.sp⟩ : Fr)) hi
    dsimp only
    rw [svs_set hf hsv, List.length_set]
    exact this

theorem flip_bit_0 (b : Nat) (a o : Wy) (w : World) (i : Nat) (hi : i < a.fs.length) (f : Fr) (hf : a.fs[i]? = some f) (bit : Int) (hb64 : bit ≤ 9223372036854775807) (hG : Gl w) (hb : w.heap[b]? = some (.cells #[.slice (ownA a.key) a.fs.length a.c, .slice (ownA o.key) o.fs.length o.c] 76 (0, 0))) (haR : Rd ES w (ownA a.key) (svs a.fs)) (hbit : bit < 0 ∨ (f.bs.length : Int) ≤ bit / 8) : Calls Tryd.prog 21 [.pointer (some ⟨b, 0, none⟩), i64 ((0 : Int)), i64 ((i : Nat)), i64 (bit)].toArray w (Ret fun v w' => (∃ ev, v = ev ∧ Er w.heap.size w' 1 1 ev) ∧ Ext w w') := by
  have H := Hp.start No w
  refine enter (n := 49) Tryd.func21 rfl rfl (Nat.le_of_ble_eq_true rfl) ?_
  refine seqRegion ?_
  refine sq (r_assign (v := .nilIface) rfl) ?_
  refine wend ?_
  refine seqRegion ?_
  refine sq (r_move (v := .pointer (some ⟨b, 0, none⟩)) rfl) ?_
  refine sq (r_move (v := i64 ((0 : Int))) rfl) ?_
  refine sq (r_move (v := i64 ((i : Nat))) rfl) ?_
  refine c_call (vs := [.pointer (some ⟨b, 0, none⟩), i64 ((0 : Int)), i64 ((i : Nat))]) call36 rfl (find_hit_0 b a o w i (H.keepE hb) hi) ?_
  rintro _ w1 ⟨rfl, hE2⟩
  have H3 := H.ext hE2
  refine sq (r_move (v := .tuple #[.pointer (some ⟨b, 0, none⟩), .nilIface]) rfl) ?_
  refine sq (r_extract (vs := #[.pointer (some ⟨b, 0, none⟩), .nilIface]) rfl rfl) ?_
  refine sq (r_extract (vs := #[.pointer (some ⟨b, 0, none⟩), .nilIface]) rfl rfl) ?_
  refine sq (r_assign (v := .pointer (some ⟨b, 0, none⟩)) rfl) ?_
  refine sq (r_assign (v := .nilIface) rfl) ?_
  refine wend ?_
  refine seqAny ?_
  refine seqRegion ?_
  refine sq (r_move (v := .nilIface) rfl) ?_
  refine sq (r_neqNN isI28 rfl rfl) ?_
  refine wend ?_
  refine condFalse rfl ?_
  refine skipAny ?_
  refine thenNormal ?_
  refine seqRegion ?_
  refine sq (r_move (v := .pointer (some ⟨b, 0, none⟩)) rfl) ?_
  refine sq (r_nilCheck rfl) ?_
  refine sq (r_loadC (v := .slice (ownA a.key) a.fs.length a.c) one22 (H3.keepE hb) (off := 0) rfl (by rfl)) ?_
  refine sq (r_move (v := i64 ((i : Nat))) rfl) ?_
  refine sq (r_idxS (E := ES) (l := svs a.fs) (j := i) sli22 (haR.ext H3.chg) rfl rfl (by first | rfl | omega | (simp; omega)) (by exact (svs_len _).symm) (by rw [svs_len]; exact hi)) ?_
  refine sq ((r_ldS (E := ES) (l := svs a.fs) (j := i) (v := (svs a.fs).getD i sv0) fits30 (haR.ext H3.chg) rfl rfl (at_getD (by rw [svs_len]; exact hi))).as (v' := .slice (ownA f.key) f.bs.length f.c) (by rw [svs_get hf]; rfl)) ?_
  refine sq (r_assign (v := .slice (ownA f.key) f.bs.length f.c) rfl) ?_
  refine wend ?_
  refine seqAny ?_
  refine seqRegion ?_
  refine sq (r_move (v := i64 (bit)) rfl) ?_
  refine sq (r_lssI (a := bit) (b := (0 : Int)) rfl rfl) ?_
  refine sq (r_move (v := .bool (decide ((bit : Int) < (0 : Int)))) rfl) ?_
  by_cases g4 : (bit : Int) < (0 : Int)
  · skip
    refine skAny (wantedSome (d' := 30) (b := true) rfl rfl (congrArg Value.bool (decide_eq_true g4))) ?_
    refine skAny (wantedSome (d' := 30) (b := true) rfl rfl (congrArg Value.bool (decide_eq_true g4))) ?_
    refine skAny (wantedSome (d' := 30) (b := true) rfl rfl (congrArg Value.bool (decide_eq_true g4))) ?_
    refine skAny (wantedSome (d' := 30) (b := true) rfl rfl (congrArg Value.bool (decide_eq_true g4))) ?_
    refine skAny (wantedSome (d' := 30) (b := true) rfl rfl (congrArg Value.bool (decide_eq_true g4))) ?_
    refine sq (r_pickT (u := .bool (true)) (congrArg Value.bool (decide_eq_true g4)) rfl) ?_
    refine wend ?_
    refine condTrue rfl ?_
    refine seqRegion ?_
    refine sq (r_move (v := i64 (bit)) rfl) ?_
    refine c_call (vs := [i64 ((1 : Int)), i64 (bit)]) call34 rfl (nbad_ok (1 : Int) bit w1 (Chg.gl H3.chg (fun x => x) hG)) ?_
    rintro v7 w5 ⟨hEr8, hE9⟩
    have H10 := H3.ext hE9
    obtain ⟨T11, x12, rfl⟩ := hEr8.iface
    refine sq (r_assign (v := .iface T11 (x12)) rfl) ?_
    refine wend ?_
    refine retAny ?_
    refine thenRet ?_
    refine retG (rs := [.tmp 8]) (vs := [.iface T11 (x12)]) rfl ⟨⟨rfl, rfl⟩, trivial⟩ ?_
    exact ⟨_, rfl, ⟨_, rfl, hEr8.mono H3.chg.size⟩, H10.chg⟩
  · skip
    refine sqAny (v := i64 (bit)) (w' := w1) (wantedSome (d' := 30) (b := false) rfl rfl (congrArg Value.bool (decide_eq_false g4))) (r_move (v := i64 (bit)) rfl) ?_
    refine sqAny (v := i64 (bit / (8 : Int))) (w' := w1) (wantedSome (d' := 30) (b := false) rfl rfl (congrArg Value.bool (decide_eq_false g4))) (r_quoI (a := bit) (b := (8 : Int)) rfl rfl (by omega)) ?_
    refine sqAny (v := .slice (ownA f.key) f.bs.length f.c) (w' := w1) (wantedSome (d' := 30) (b := false) rfl rfl (congrArg Value.bool (decide_eq_false g4))) (r_move (v := .slice (ownA f.key) f.bs.length f.c) rfl) ?_
    refine sqAny (v := i64 ((f.bs.length : Nat))) (w' := w1) (wantedSome (d' := 30) (b := false) rfl rfl (congrArg Value.bool (decide_eq_false g4))) (r_lenS sli30 (a := ownA f.key) (m := f.bs.length) (c := f.c) rfl) ?_
    refine sqAny (v := .bool (true)) (w' := w1) (wantedSome (d' := 30) (b := false) rfl rfl (congrArg Value.bool (decide_eq_false g4))) ((r_geqI (a := bit / (8 : Int)) (b := (f.bs.length : Nat)) rfl rfl).as (v' := .bool (true)) (by exact congrArg Value.bool (decide_eq_true (by omega)))) ?_
    refine sq (r_pickF (v := .bool (true)) (congrArg Value.bool (decide_eq_false g4)) rfl) ?_
    refine wend ?_
    refine condTrue rfl ?_
    refine seqRegion ?_
    refine sq (r_move (v := i64 (bit)) rfl) ?_
    refine c_call (vs := [i64 ((1 : Int)), i64 (bit)]) call34 rfl (nbad_ok (1 : Int) bit w1 (Chg.gl H3.chg (fun x => x) hG)) ?_
    rintro v15 w13 ⟨hEr16, hE17⟩
    have H18 := H3.ext hE17
    obtain ⟨T19, x20, rfl⟩ := hEr16.iface
    refine sq (r_assign (v := .iface T19 (x20)) rfl) ?_
    refine wend ?_
    refine retAny ?_
    refine thenRet ?_
    refine retG (rs := [.tmp 8]) (vs := [.iface T19 (x20)]) rfl ⟨⟨rfl, rfl⟩, trivial⟩ ?_
    exact ⟨_, rfl, ⟨_, rfl, hEr16.mono H3.chg.size⟩, H18.chg⟩

theorem flip_ok_1 (b : Nat) (a o : Wy) (ha : a.ok) (R : List (Option Nat × Obj)) (w₀ w : World) (i : Nat) (hi : i < a.fs.length) (f : Fr) (hf : a.fs[i]? = some f) (hfl : f.bs.length ≤ 140737488355328) (bit : Nat) (hbit : bit / 8 < f.bs.length) (H : Hp No w₀ w ((some b, .cells #[.slice (ownA o.key) o.fs.length o.c, .slice (ownA a.key) a.fs.length a.c] 76 (0, 0)) :: (a.key, sob ES 30 (svs a.fs) a.sp) :: (o.key, sob ES 30 (svs o.fs) o.sp) :: (frs 5 a.fs ++ (frs 5 o.fs ++ R)))) : Calls Tryd.prog 21 [.pointer (some ⟨b, 0, none⟩), i64 ((1 : Int)), i64 ((i : Nat)), i64 ((bit : Nat))].toArray w (Ret fun v w' => v = .nilIface ∧ ∃ a' : Wy, a'.ok ∧ bss a'.fs = (bss a.fs).set i (flipB f.bs bit) ∧ Hp No w₀ w' ((some b, .cells #[.slice (ownA o.key) o.fs.length o.c, .slice (ownA a'.key) a'.fs.length a'.c] 76 (0, 0)) :: (a'.key, sob ES 30 (svs a'.fs) a'.sp) :: (o.key, sob ES 30 (svs o.fs) o.sp) :: (frs 5 a'.fs ++ (frs 5 o.fs ++ R)))) := by
  skip
  refine enter (n := 49) Tryd.func21 rfl rfl (Nat.le_of_ble_eq_true rfl) ?_
  refine seqRegion ?_
  refine sq (r_assign (v := .nilIface) rfl) ?_
  refine wend ?_
  refine seqRegion ?_
  refine sq (r_move (v := .pointer (some ⟨b, 0, none⟩)) rfl) ?_
  refine sq (r_move (v := i64 ((1 : Int))) rfl) ?_
  refine sq (r_move (v := i64 ((i : Nat))) rfl) ?_
  refine c_call (vs := [.pointer (some ⟨b, 0, none⟩), i64 ((1 : Int)), i64 ((i : Nat))]) call36 rfl (find_hit_1 b a o w i (H.get (k := 0) rfl) hi) ?_
  rintro _ w1 ⟨rfl, hE2⟩
  have H3 := H.ext hE2
  refine sq (r_move (v := .tuple #[.pointer (some ⟨b, 1, none⟩), .nilIface]) rfl) ?_
  refine sq (r_extract (vs := #[.pointer (some ⟨b, 1, none⟩), .nilIface]) rfl rfl) ?_
  refine sq (r_extract (vs := #[.pointer (some ⟨b, 1, none⟩), .nilIface]) rfl rfl) ?_
  refine sq (r_assign (v := .pointer (some ⟨b, 1, none⟩)) rfl) ?_
  refine sq (r_assign (v := .nilIface) rfl) ?_
  refine wend ?_
  refine seqAny ?_
  refine seqRegion ?_
  refine sq (r_move (v := .nilIface) rfl) ?_
  refine sq (r_neqNN isI28 rfl rfl) ?_
  refine wend ?_
  refine condFalse rfl ?_
  refine skipAny ?_
  refine thenNormal ?_
  refine seqRegion ?_
  refine sq (r_move (v := .pointer (some ⟨b, 1, none⟩)) rfl) ?_
  refine sq (r_nilCheck rfl) ?_
  refine sq (r_loadC (v := .slice (ownA a.key) a.fs.length a.c) one22 (H3.get (k := 0) rfl) (off := 1) rfl (by rfl)) ?_
  refine sq (r_move (v := i64 ((i : Nat))) rfl) ?_
  refine sq (r_idxS (E := ES) (l := svs a.fs) (j := i) sli22 (H3.rd (k := 1) rfl ha.sl) rfl rfl (by first | rfl | omega | (simp; omega)) (by exact (svs_len _).symm) (by rw [svs_len]; exact hi)) ?_
  refine sq ((r_ldS (E := ES) (l := svs a.fs) (j := i) (v := (svs a.fs).getD i sv0) fits30 (H3.rd (k := 1) rfl ha.sl) rfl rfl (at_getD (by rw [svs_len]; exact hi))).as (v' := .slice (ownA f.key) f.bs.length f.c) (by rw [svs_get hf]; rfl)) ?_
  refine sq (r_assign (v := .slice (ownA f.key) f.bs.length f.c) rfl) ?_
  have hfok := ha.each f (List.mem_of_getElem? hf)
  have H4 := (H3.outFs (i := i) hf).as (L' := ((f.key, sob E8 5 f.bs f.sp) :: (some b, .cells #[.slice (ownA o.key) o.fs.length o.c, .slice (ownA a.key) a.fs.length a.c] 76 (0, 0)) :: (a.key, sob ES 30 (svs a.fs) a.sp) :: (o.key, sob ES 30 (svs o.fs) o.sp) :: (frs 5 (a.fs.eraseIdx i) ++ (frs 5 o.fs ++ R)))) rfl
  refine wend ?_
  refine seqAny ?_
  refine seqRegion ?_
  refine sq (r_move (v := i64 ((bit : Nat))) rfl) ?_
  refine sq ((r_lssI (a := (bit : Nat)) (b := (0 : Int)) rfl rfl).as (v' := .bool (false)) (by exact congrArg Value.bool (decide_eq_false (by omega)))) ?_
  refine sq (r_move (v := .bool (false)) rfl) ?_
  refine sqAny (v := i64 ((bit : Nat))) (w' := w1) (wantedSome (d' := 30) (b := false) rfl rfl rfl) (r_move (v := i64 ((bit : Nat))) rfl) ?_
  refine sqAny (v := i64 ((bit : Nat) / (8 : Int))) (w' := w1) (wantedSome (d' := 30) (b := false) rfl rfl rfl) (r_quoI (a := (bit : Nat)) (b := (8 : Int)) rfl rfl (by omega)) ?_
  refine sqAny (v := .slice (ownA f.key) f.bs.length f.c) (w' := w1) (wantedSome (d' := 30) (b := false) rfl rfl rfl) (r_move (v := .slice (ownA f.key) f.bs.length f.c) rfl) ?_
  refine sqAny (v := i64 ((f.bs.length : Nat))) (w' := w1) (wantedSome (d' := 30) (b := false) rfl rfl rfl) (r_lenS sli30 (a := ownA f.key) (m := f.bs.length) (c := f.c) rfl) ?_
  refine sqAny (v := .bool (false)) (w' := w1) (wantedSome (d' := 30) (b := false) rfl rfl rfl) ((r_geqI (a := (bit : Nat) / (8 : Int)) (b := (f.bs.length : Nat)) rfl rfl).as (v' := .bool (false)) (by exact congrArg Value.bool (decide_eq_false (by omega)))) ?_
  refine sq (r_pickF (v := .bool (false)) rfl rfl) ?_
  refine wend ?_
  refine condFalse rfl ?_
  refine skipAny ?_
  refine thenNormal ?_
  refine seqAny ?_
  refine drawC (m := 11) [0, 0, 2, 7, 15, 0, 32, 96, 255, 511, 1023] [10] (fun q vs w' => match q, vs with | 0, [] => Hp No w₀ w' ((f.key, sob E8 5 f.bs f.sp) :: (some b, .cells #[.slice (ownA o.key) o.fs.length o.c, .slice (ownA a.key) a.fs.length a.c] 76 (0, 0)) :: (a.key, sob ES 30 (svs a.fs) a.sp) :: (o.key, sob ES 30 (svs o.fs) o.sp) :: (frs 5 (a.fs.eraseIdx i) ++ (frs 5 o.fs ++ R))) | 1, [_] => True ∧ Sl E8 f.key (f.bs.set (bit / 8) (((f.bs).getD (bit / 8) 0#8) ^^^ ((1#8) <<< (bit % 8 : Nat)))) f.c f.sp ∧ Hp No w₀ w' ((f.key, sob E8 5 (f.bs.set (bit / 8) (((f.bs).getD (bit / 8) 0#8) ^^^ ((1#8) <<< (bit % 8 : Nat)))) f.sp) :: (some b, .cells #[.slice (ownA o.key) o.fs.length o.c, .slice (ownA a.key) a.fs.length a.c] 76 (0, 0)) :: (a.key, sob ES 30 (svs a.fs) a.sp) :: (o.key, sob ES 30 (svs o.fs) o.sp) :: (frs 5 (a.fs.eraseIdx i) ++ (frs 5 o.fs ++ R))) | _, _ => False) mixed (by kernel_rfl) (by kernel_rfl) H4.drew ?_
  refine WalkC.look rfl (fun _ => .slice (ownA f.key) f.bs.length f.c) (fun _ _ _ => rfl) (fun q r uw _ _ _ _ => Gives.run rfl (r_move (v := .slice (ownA f.key) f.bs.length f.c) rfl) ⟨rfl, rfl⟩) ?_
  refine WalkC.look rfl (fun _ => i64 ((bit : Nat))) (fun _ _ _ => rfl) (fun q r uw _ _ _ _ => Gives.run rfl (r_move (v := i64 ((bit : Nat))) rfl) ⟨rfl, rfl⟩) ?_
  refine WalkC.look rfl (fun _ => i64 ((bit : Nat) / (8 : Int))) (fun _ _ _ => rfl) (fun q r uw _ _ _ _ => Gives.run rfl (r_quoI (a := (bit : Nat)) (b := (8 : Int)) rfl rfl (by omega)) ⟨rfl, rfl⟩) ?_
  refine WalkC.look rfl (fun _ => .pointer (adr (ownA f.key) ((bit / 8) * 1))) (fun _ _ _ => rfl) (fun q r uw hlo hhi hle hF => ?_) ?_
  · skip
    have h1 : 0 ≤ q := Nat.zero_le _
    have h2 : q ≤ 0 := hhi 0 10 rfl rfl
    rcases (show q = 0 by omega) with rfl
    · skip
      have HH := hF
      exact Gives.run rfl (r_idxS (E := E8) (l := f.bs) (j := bit / 8) sli30 (HH.rd (k := 0) rfl hfok) rfl rfl (by first | rfl | omega | (simp; omega)) (by rfl) (by omega)) ⟨rfl, rfl⟩
  refine WalkC.look rfl (fun _ => u8 ((f.bs).getD (bit / 8) 0#8)) (fun _ _ _ => rfl) (fun q r uw hlo hhi hle hF => ?_) ?_
  · skip
    have h1 : 0 ≤ q := Nat.zero_le _
    have h2 : q ≤ 0 := hhi 0 10 rfl rfl
    rcases (show q = 0 by omega) with rfl
    · skip
      have HH := hF
      exact Gives.run rfl (r_ldS (E := E8) (l := f.bs) (j := bit / 8) (v := (f.bs).getD (bit / 8) 0#8) fits5 (HH.rd (k := 0) rfl hfok) rfl rfl (at_getD (by omega))) ⟨rfl, rfl⟩
  refine WalkC.look rfl (fun _ => i64 ((bit : Nat))) (fun _ _ _ => rfl) (fun q r uw _ _ _ _ => Gives.run rfl (r_move (v := i64 ((bit : Nat))) rfl) ⟨rfl, rfl⟩) ?_
  refine WalkC.look rfl (fun _ => i64 ((bit : Nat) % (8 : Int))) (fun _ _ _ => rfl) (fun q r uw _ _ _ _ => Gives.run rfl (r_remI (a := (bit : Nat)) (b := (8 : Int)) rfl rfl (by omega)) ⟨rfl, rfl⟩) ?_
  refine WalkC.look rfl (fun _ => u8 ((1#8) <<< (bit % 8 : Nat))) (fun _ _ _ => rfl) (fun q r uw _ _ _ _ => Gives.run rfl (r_shl8 (a := 1#8) (c := bit % 8) rfl rfl) ⟨rfl, rfl⟩) ?_
  refine WalkC.look rfl (fun _ => u8 (((f.bs).getD (bit / 8) 0#8) ^^^ ((1#8) <<< (bit % 8 : Nat)))) (fun _ _ _ => rfl) (fun q r uw _ _ _ _ => Gives.run rfl (r_xor8 (a := (f.bs).getD (bit / 8) 0#8) (b := (1#8) <<< (bit % 8 : Nat)) rfl rfl) ⟨rfl, rfl⟩) ?_
  refine WalkC.look rfl (fun _ => .pointer (adr (ownA f.key) ((bit / 8) * 1))) (fun _ _ _ => rfl) (fun q r uw hlo hhi hle hF => ?_) ?_
  · skip
    have h1 : 0 ≤ q := Nat.zero_le _
    have h2 : q ≤ 0 := hhi 0 10 rfl rfl
    rcases (show q = 0 by omega) with rfl
    · skip
      have HH := hF
      exact Gives.run rfl (r_idxS (E := E8) (l := f.bs) (j := bit / 8) sli30 (HH.rd (k := 0) rfl hfok) rfl rfl (by first | rfl | omega | (simp; omega)) (by rfl) (by omega)) ⟨rfl, rfl⟩
  refine WalkC.eff 0 rfl (fun r uw5 hF7 => ?_) ?_
  · skip
    have H6 := hF7
    dsimp only [List.take, List.map, List.cons_append, List.nil_append]
    refine Gives.ofW0 rfl (fun Q' hK => ?_)
    refine d_storeS (E := E8) (k := 0) (l := f.bs) (j := bit / 8) (b := ((f.bs).getD (bit / 8) 0#8) ^^^ ((1#8) <<< (bit % 8 : Nat))) (a := (f.bs).getD (bit / 8) 0#8) H6 rfl hfok rfl rfl rfl rfl siz5 (at_getD (by omega)) ?_
    intro w9 hS8 H10
    have H10' := H10.as (L' := ((f.key, sob E8 5 (f.bs.set (bit / 8) (((f.bs).getD (bit / 8) 0#8) ^^^ ((1#8) <<< (bit % 8 : Nat)))) f.sp) :: (some b, .cells #[.slice (ownA o.key) o.fs.length o.c, .slice (ownA a.key) a.fs.length a.c] 76 (0, 0)) :: (a.key, sob ES 30 (svs a.fs) a.sp) :: (o.key, sob ES 30 (svs o.fs) o.sp) :: (frs 5 (a.fs.eraseIdx i) ++ (frs 5 o.fs ++ R)))) rfl
    clear H10
    exact hK _ (fun _ => ⟨trivial, hS8, H10'⟩)
  refine WalkC.nil ?_
  intro r11 w12 hF14
  obtain ⟨e10, hS8, H13⟩ := hF14
  dsimp only
  refine wnil ?_
  refine thenNormal ?_
  refine seqRegion ?_
  refine sq (r_assign (v := .nilIface) rfl) ?_
  refine wend ?_
  refine retAny ?_
  refine retG (rs := [.tmp 8]) (vs := [.nilIface]) rfl ⟨⟨rfl, rfl⟩, trivial⟩ ?_
  have hsv : (⟨f.key, flipB f.bs bit, f.c, f.sp⟩ : Fr).sv = f.sv := by simp [Fr.sv, flipB]
  refine ⟨_, rfl, rfl, ⟨a.key, a.c, a.sp, a.fs.set i (⟨f.key, flipB f.bs bit, f.c, f.sp⟩ : Fr)⟩, ⟨by dsimp only; rw [svs_set hf hsv]; exact ha.sl, fun x hx => ?_⟩, bss_set _ _ _, ?_⟩
  · rcases List.mem_or_eq_of_mem_set hx with h | rfl
    · exact ha.each x h
    · exact hS8
  · have := H13.backFs (f' := (⟨f.key, flipB f.bs bit, f.c, f.sp⟩ : Fr)) hi
    dsimp only
    rw [svs_set hf hsv, List.length_set]
    exact this

theorem flip_bit_1 (b : Nat) (a o : Wy) (w : World) (i : Nat) (hi : i < a.fs.length) (f : Fr) (hf : a.fs[i]? = some f) (bit : Int) (hb64 : bit ≤ 9223372036854775807) (hG : Gl w) (hb : w.heap[b]? = some (.cells #[.slice (ownA o.key) o.fs.length o.c, .slice (ownA a.key) a.fs.length a.c] 76 (0, 0))) (haR : Rd ES w (ownA a.key) (svs a.fs)) (hbit : bit < 0 ∨ (f.bs.length : Int) ≤ bit / 8) : Calls Tryd.prog 21 [.pointer (some ⟨b, 0, none⟩), i64 ((1 : Int)), i64 ((i : Nat)), i64 (bit)].toArray w (Ret fun v w' => (∃ ev, v = ev ∧ Er w.heap.size w' 1 1 ev) ∧ Ext w w') := by
  have H := Hp.start No w
  refine enter (n := 49) Tryd.func21 rfl rfl (Nat.le_of_ble_eq_true rfl) ?_
  refine seqRegion ?_
  refine sq (r_assign (v := .nilIface) rfl) ?_
  refine wend ?_
  refine seqRegion ?_
  refine sq (r_move (v := .pointer (some ⟨b, 0, none⟩)) rfl) ?_
  refine sq (r_move (v := i64 ((1 : Int))) rfl) ?_
  refine sq (r_move (v := i64 ((i : Nat))) rfl) ?_
  refine c_call (vs := [.pointer (some ⟨b, 0, none⟩), i64 ((1 : Int)), i64 ((i : Nat))]) call36 rfl (find_hit_1 b a o w i (H.keepE hb) hi) ?_
  rintro _ w1 ⟨rfl, hE2⟩
  have H3 := H.ext hE2
  refine sq (r_move (v := .tuple #[.pointer (some ⟨b, 1, none⟩), .nilIface]) rfl) ?_
  refine sq (r_extract (vs := #[.pointer (some ⟨b, 1, none⟩), .nilIface]) rfl rfl) ?_
  refine sq (r_extract (vs := #[.pointer (some ⟨b, 1, none⟩), .nilIface]) rfl rfl) ?_
  refine sq (r_assign (v := .pointer (some ⟨b, 1, none⟩)) rfl) ?_
  refine sq (r_assign (v := .nilIface) rfl) ?_
  refine wend ?_
  refine seqAny ?_
  refine seqRegion ?_
  refine sq (r_move (v := .nilIface) rfl) ?_
  refine sq (r_neqNN isI28 rfl rfl) ?_
  refine wend ?_
  refine condFalse rfl ?_
  refine skipAny ?_
  refine thenNormal ?_
  refine seqRegion ?_
  refine sq (r_move (v := .pointer (some ⟨b, 1, none⟩)) rfl) ?_
  refine sq (r_nilCheck rfl) ?_
  refine sq (r_loadC (v := .slice (ownA a.key) a.fs.length a.c) one22 (H3.keepE hb) (off := 1) rfl (by rfl)) ?_
  refine sq (r_move (v := i64 ((i : Nat))) rfl) ?_
  refine sq (r_idxS (E := ES) (l := svs a.fs) (j := i) sli22 (haR.ext H3.chg) rfl rfl (by first | rfl | omega | (simp; omega)) (by exact (svs_len _).symm) (by rw [svs_len]; exact hi)) ?_
  refine sq ((r_ldS (E := ES) (l := svs a.fs) (j := i) (v := (svs a.fs).getD i sv0) fits30 (haR.ext H3.chg) rfl rfl (at_getD (by rw [svs_len]; exact hi))).as (v' := .slice (ownA f.key) f.bs.length f.c) (by rw [svs_get hf]; rfl)) ?_
  refine sq (r_assign (v := .slice (ownA f.key) f.bs.length f.c) rfl) ?_
  refine wend ?_
  refine seqAny ?_
  refine seqRegion ?_
  refine sq (r_move (v := i64 (bit)) rfl) ?_
  refine sq (r_lssI (a := bit) (b := (0 : Int)) rfl rfl) ?_
  refine sq (r_move (v := .bool (decide ((bit : Int) < (0 : Int)))) rfl) ?_
  by_cases g4 : (bit : Int) < (0 : Int)
  · skip
    refine skAny (wantedSome (d' := 30) (b := true) rfl rfl (congrArg Value.bool (decide_eq_true g4))) ?_
    refine skAny (wantedSome (d' := 30) (b := true) rfl rfl (congrArg Value.bool (decide_eq_true g4))) ?_
    refine skAny (wantedSome (d' := 30) (b := true) rfl rfl (congrArg Value.bool (decide_eq_true g4))) ?_
    refine skAny (wantedSome (d' := 30) (b := true) rfl rfl (congrArg Value.bool (decide_eq_true g4))) ?_
    refine skAny (wantedSome (d' := 30) (b := true) rfl rfl (congrArg Value.bool (decide_eq_true g4))) ?_
    refine sq (r_pickT (u := .bool (true)) (congrArg Value.bool (decide_eq_true g4)) rfl) ?_
    refine wend ?_
    refine condTrue rfl ?_
    refine seqRegion ?_
    refine sq (r_move (v := i64 (bit)) rfl) ?_
    refine c_call (vs := [i64 ((1 : Int)), i64 (bit)]) call34 rfl (nbad_ok (1 : Int) bit w1 (Chg.gl H3.chg (fun x => x) hG)) ?_
    rintro v7 w5 ⟨hEr8, hE9⟩
    have H10 := H3.ext hE9
    obtain ⟨T11, x12, rfl⟩ := hEr8.iface
    refine sq (r_assign (v := .iface T11 (x12)) rfl) ?_
    refine wend ?_
    refine retAny ?_
    refine thenRet ?_
    refine retG (rs := [.tmp 8]) (vs := [.iface T11 (x12)]) rfl ⟨⟨rfl, rfl⟩, trivial⟩ ?_
    exact ⟨_, rfl, ⟨_, rfl, hEr8.mono H3.chg.size⟩, H10.chg⟩
  · skip
    refine sqAny (v := i64 (bit)) (w' := w1) (wantedSome (d' := 30) (b := false) rfl rfl (congrArg Value.bool (decide_eq_false g4))) (r_move (v := i64 (bit)) rfl) ?_
    refine sqAny (v := i64 (bit / (8 : Int))) (w' := w1) (wantedSome (d' := 30) (b := false) rfl rfl (congrArg Value.bool (decide_eq_false g4))) (r_quoI (a := bit) (b := (8 : Int)) rfl rfl (by omega)) ?_
    refine sqAny (v := .slice (ownA f.key) f.bs.length f.c) (w' := w1) (wantedSome (d' := 30) (b := false) rfl rfl (congrArg Value.bool (decide_eq_false g4))) (r_move (v := .slice (ownA f.key) f.bs.length f.c) rfl) ?_
    refine sqAny (v := i64 ((f.bs.length : Nat))) (w' := w1) (wantedSome (d' := 30) (b := false) rfl rfl (congrArg Value.bool (decide_eq_false g4))) (r_lenS sli30 (a := ownA f.key) (m := f.bs.length) (c := f.c) rfl) ?_
    refine sqAny (v := .bool (true)) (w' := w1) (wantedSome (d' := 30) (b := false) rfl rfl (congrArg Value.bool (decide_eq_false g4))) ((r_geqI (a := bit / (8 : Int)) (b := (f.bs.length : Nat)) rfl rfl).as (v' := .bool (true)) (by exact congrArg Value.bool (decide_eq_true (by omega)))) ?_
    refine sq (r_pickF (v := .bool (true)) (congrArg Value.bool (decide_eq_false g4)) rfl) ?_
    refine wend ?_
    refine condTrue rfl ?_
    refine seqRegion ?_
    refine sq (r_move (v := i64 (bit)) rfl) ?_
    refine c_call (vs := [i64 ((1 : Int)), i64 (bit)]) call34 rfl (nbad_ok (1 : Int) bit w1 (Chg.gl H3.chg (fun x => x) hG)) ?_
    rintro v15 w13 ⟨hEr16, hE17⟩
    have H18 := H3.ext hE17
    obtain ⟨T19, x20, rfl⟩ := hEr16.iface
    refine sq (r_assign (v := .iface T19 (x20)) rfl) ?_
    refine wend ?_
    refine retAny ?_
    refine thenRet ?_
    refine retG (rs := [.tmp 8]) (vs := [.iface T19 (x20)]) rfl ⟨⟨rfl, rfl⟩, trivial⟩ ?_
    exact ⟨_, rfl, ⟨_, rfl, hEr16.mono H3.chg.size⟩, H18.chg⟩

theorem flip_miss_0 (b : Nat) (a o : Wy) (w : World) (i : Int) (bit : Int) (hG : Gl w) (hb : w.heap[b]? = some (.cells #[.slice (ownA a.key) a.fs.length a.c, .slice (ownA o.key) o.fs.length o.c] 76 (0, 0))) (hi : i < 0 ∨ (a.fs.length : Int) ≤ i) : Calls Tryd.prog 21 [.pointer (some ⟨b, 0, none⟩), i64 ((0 : Int)), i64 (i), i64 (bit)].toArray w (Ret fun v w' => (∃ ev, v = ev ∧ Er w.heap.size w' 4 1 ev) ∧ Ext w w') := by
  have H := Hp.start No w
  refine enter (n := 49) Tryd.func21 rfl rfl (Nat.le_of_ble_eq_true rfl) ?_
  refine seqRegion ?_
  refine sq (r_assign (v := .nilIface) rfl) ?_
  refine wend ?_
  refine seqRegion ?_
  refine sq (r_move (v := .pointer (some ⟨b, 0, none⟩)) rfl) ?_
  refine sq (r_move (v := i64 ((0 : Int))) rfl) ?_
  refine sq (r_move (v := i64 (i)) rfl) ?_
  refine c_call (vs := [.pointer (some ⟨b, 0, none⟩), i64 ((0 : Int)), i64 (i)]) call36 rfl (find_miss_0 b a o w i (Chg.gl H.chg (fun x => x) hG) (H.keepE hb) hi) ?_
  rintro _ w1 ⟨⟨v3, rfl, hEr4⟩, hE5⟩
  have H6 := H.ext hE5
  obtain ⟨T7, x8, rfl⟩ := hEr4.iface
  refine sq (r_move (v := .tuple #[.pointer none, .iface T7 (x8)]) rfl) ?_
  refine sq (r_extract (vs := #[.pointer none, .iface T7 (x8)]) rfl rfl) ?_
  refine sq (r_extract (vs := #[.pointer none, .iface T7 (x8)]) rfl rfl) ?_
  refine sq (r_assign (v := .pointer none) rfl) ?_
  refine sq (r_assign (v := .iface T7 (x8)) rfl) ?_
  refine wend ?_
  refine seqAny ?_
  refine seqRegion ?_
  refine sq (r_move (v := .iface T7 (x8)) rfl) ?_
  refine sq (r_neqIN isI28 rfl rfl) ?_
  refine wend ?_
  refine condTrue rfl ?_
  refine seqRegion ?_
  refine sq (r_move (v := .iface T7 (x8)) rfl) ?_
  refine sq (r_assign (v := .iface T7 (x8)) rfl) ?_
  refine wend ?_
  refine retAny ?_
  refine thenRet ?_
  refine retG (rs := [.tmp 8]) (vs := [.iface T7 (x8)]) rfl ⟨⟨rfl, rfl⟩, trivial⟩ ?_
  exact ⟨_, rfl, ⟨_, rfl, hEr4.mono H.chg.size⟩, H6.chg⟩

theorem flip_miss_1 (b : Nat) (a o : Wy) (w : World) (i : Int) (bit : Int) (hG : Gl w) (hb : w.heap[b]? = some (.cells #[.slice (ownA o.key) o.fs.length o.c, .slice (ownA a.key) a.fs.length a.c] 76 (0, 0))) (hi : i < 0 ∨ (a.fs.length : Int) ≤ i) : Calls Tryd.prog 21 [.pointer (some ⟨b, 0, none⟩), i64 ((1 : Int)), i64 (i), i64 (bit)].toArray w (Ret fun v w' => (∃ ev, v = ev ∧ Er w.heap.size w' 4 1 ev) ∧ Ext w w') := by
  have H := Hp.start No w
  refine enter (n := 49) Tryd.func21 rfl rfl (Nat.le_of_ble_eq_true rfl) ?_
  refine seqRegion ?_
  refine sq (r_assign (v := .nilIface) rfl) ?_
  refine wend ?_
  refine seqRegion ?_
  refine sq (r_move (v := .pointer (some ⟨b, 0, none⟩)) rfl) ?_
  refine sq (r_move (v := i64 ((1 : Int))) rfl) ?_
  refine sq (r_move (v := i64 (i)) rfl) ?_
  refine c_call (vs := [.pointer (some ⟨b, 0, none⟩), i64 ((1 : Int)), i64 (i)]) call36 rfl (find_miss_1 b a o w i (Chg.gl H.chg (fun x => x) hG) (H.keepE hb) hi) ?_
  rintro _ w1 ⟨⟨v3, rfl, hEr4⟩, hE5⟩
  have H6 := H.ext hE5
  obtain ⟨T7, x8, rfl⟩ := hEr4.iface
  refine sq (r_move (v := .tuple #[.pointer none, .iface T7 (x8)]) rfl) ?_
  refine sq (r_extract (vs := #[.pointer none, .iface T7 (x8)]) rfl rfl) ?_
  refine sq (r_extract (vs := #[.pointer none, .iface T7 (x8)]) rfl rfl) ?_
  refine sq (r_assign (v := .pointer none) rfl) ?_
  refine sq (r_assign (v := .iface T7 (x8)) rfl) ?_
  refine wend ?_
  refine seqAny ?_
  refine seqRegion ?_
  refine sq (r_move (v := .iface T7 (x8)) rfl) ?_
  refine sq (r_neqIN isI28 rfl rfl) ?_
  refine wend ?_
  refine condTrue rfl ?_
  refine seqRegion ?_
  refine sq (r_move (v := .iface T7 (x8)) rfl) ?_
  refine sq (r_assign (v := .iface T7 (x8)) rfl) ?_
  refine wend ?_
  refine retAny ?_
  refine thenRet ?_
  refine retG (rs := [.tmp 8]) (vs := [.iface T7 (x8)]) rfl ⟨⟨rfl, rfl⟩, trivial⟩ ?_
  exact ⟨_, rfl, ⟨_, rfl, hEr4.mono H.chg.size⟩, H6.chg⟩

theorem flip_range (b : Nat) (way : Int) (h0 : way ≠ 0) (h1 : way ≠ 1) (i : Int) (bit : Int) (w : World) (hG : Gl w) : Calls Tryd.prog 21 [.pointer (some ⟨b, 0, none⟩), i64 (way), i64 (i), i64 (bit)].toArray w (Ret fun v w' => (∃ ev, v = ev ∧ Er w.heap.size w' 1 1 ev) ∧ Ext w w') := by
  have H := Hp.start No w
  refine enter (n := 49) Tryd.func21 rfl rfl (Nat.le_of_ble_eq_true rfl) ?_
  refine seqRegion ?_
  refine sq (r_assign (v := .nilIface) rfl) ?_
  refine wend ?_
  refine seqRegion ?_
  refine sq (r_move (v := .pointer (some ⟨b, 0, none⟩)) rfl) ?_
  refine sq (r_move (v := i64 (way)) rfl) ?_
  refine sq (r_move (v := i64 (i)) rfl) ?_
  refine c_call (vs := [.pointer (some ⟨b, 0, none⟩), i64 (way), i64 (i)]) call36 rfl (find_range b way h0 h1 i w (Chg.gl H.chg (fun x => x) hG)) ?_
  rintro _ w1 ⟨⟨v3, rfl, hEr4⟩, hE5⟩
  have H6 := H.ext hE5
  obtain ⟨T7, x8, rfl⟩ := hEr4.iface
  refine sq (r_move (v := .tuple #[.pointer none, .iface T7 (x8)]) rfl) ?_
  refine sq (r_extract (vs := #[.pointer none, .iface T7 (x8)]) rfl rfl) ?_
  refine sq (r_extract (vs := #[.pointer none, .iface T7 (x8)]) rfl rfl) ?_
  refine sq (r_assign (v := .pointer none) rfl) ?_
  refine sq (r_assign (v := .iface T7 (x8)) rfl) ?_
  refine wend ?_
  refine seqAny ?_
  refine seqRegion ?_
  refine sq (r_move (v := .iface T7 (x8)) rfl) ?_
  refine sq (r_neqIN isI28 rfl rfl) ?_
  refine wend ?_
  refine condTrue rfl ?_
  refine seqRegion ?_
  refine sq (r_move (v := .iface T7 (x8)) rfl) ?_
  refine sq (r_assign (v := .iface T7 (x8)) rfl) ?_
  refine wend ?_
  refine retAny ?_
  refine thenRet ?_
  refine retG (rs := [.tmp 8]) (vs := [.iface T7 (x8)]) rfl ⟨⟨rfl, rfl⟩, trivial⟩ ?_
  exact ⟨_, rfl, ⟨_, rfl, hEr4.mono H.chg.size⟩, H6.chg⟩
end Go.Proofs.YtpmmhpgfbfehmaaDoor.Nt
