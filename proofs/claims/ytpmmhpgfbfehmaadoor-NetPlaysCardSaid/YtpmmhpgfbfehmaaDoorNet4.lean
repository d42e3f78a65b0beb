/- The walks of the nets. -/
import Derived.Test.YtpmmhpgfbfehmaaDoorNet3
namespace Go.Proofs.YtpmmhpgfbfehmaaDoor.Nt
open Go Go.Proofs.YtpmmhpgfbfehmaaDoor.Vc Go.Proofs.YtpmmhpgfbfehmaaDoor.Er
theorem call12 : callable Tryd.prog 12 = true := by kernel_rfl
theorem call15 : callable Tryd.prog 15 = true := by kernel_rfl
theorem call18 : callable Tryd.prog 18 = true := by kernel_rfl
theorem call20 : callable Tryd.prog 20 = true := by kernel_rfl
theorem call21 : callable Tryd.prog 21 = true := by kernel_rfl
theorem pls76 : pls Tryd.prog 76 = some #[(0, 2)] := by kernel_rfl
theorem und23 : Tryd.prog.underlying 23 = some (.pointer 76) := by kernel_rfl
theorem und5 : Tryd.prog.underlying 5 = some (.int .u8) := by kernel_rfl
theorem und9 : Tryd.prog.underlying 9 = some .string := by kernel_rfl
theorem zer76 : zer Tryd.prog 76 = some (.agg #[.slice none 0 0, .slice none 0 0]) := by kernel_rfl
theorem call13 : callable Tryd.prog 13 = true := by kernel_rfl
theorem call16 : callable Tryd.prog 16 = true := by kernel_rfl
theorem call19 : callable Tryd.prog 19 = true := by kernel_rfl
theorem und26 : Tryd.prog.underlying 26 = some (.int .u64) := by kernel_rfl
theorem und3 : Tryd.prog.underlying 3 = some (.int .i64) := by kernel_rfl
def nv (k : Bool) (a o : Wy) : Array Value := bif k then #[.slice (ownA o.key) o.fs.length o.c, .slice (ownA a.key) a.fs.length a.c] else #[.slice (ownA a.key) a.fs.length a.c, .slice (ownA o.key) o.fs.length o.c]
theorem nv_swap (k : Bool) (a o : Wy) : nv k a o = nv (!k) o a := by cases k <;> rfl

theorem len (k : Bool) (b : Nat) (a o : Wy) (w : World) (hb : w.heap[b]? = some (.cells (nv k a o) 76 (0, 0))) : Calls Tryd.prog 15 [.pointer (some ⟨b, 0, none⟩), i64 (wI k)].toArray w (Ret fun v w' => v = i64 (a.fs.length : Nat) ∧ Ext w w') := by
  cases k
  · exact len_0 b a o w hb
  · exact len_1 b a o w hb

theorem at_hit (k : Bool) (b : Nat) (a o : Wy) (w : World) (i : Nat) (hi : i < a.fs.length) (f : Fr) (hf : a.fs[i]? = some f) (hfl : f.bs.length ≤ 140737488355328) (hb : w.heap[b]? = some (.cells (nv k a o) 76 (0, 0))) (haR : Rd ES w (ownA a.key) (svs a.fs)) (hfR : Rd E8 w (ownA f.key) f.bs) : Calls Tryd.prog 20 [.pointer (some ⟨b, 0, none⟩), i64 (wI k), i64 ((i : Nat))].toArray w (Ret fun v w' => (∃ key c sp, v = .tuple #[.slice (ownA key) f.bs.length c, .nilIface] ∧ Sl E8 key f.bs c sp ∧ ∀ g, key = some g → w.heap.size ≤ g ∧ w'.heap[g]? = some (sob E8 5 f.bs sp)) ∧ Ext w w') := by
  cases k
  · exact at_hit_0 b a o w i hi f hf hfl hb haR hfR
  · exact at_hit_1 b a o w i hi f hf hfl hb haR hfR

theorem at_miss (k : Bool) (b : Nat) (a o : Wy) (w : World) (i : Int) (hG : Gl w) (hb : w.heap[b]? = some (.cells (nv k a o) 76 (0, 0))) (hi : i < 0 ∨ (a.fs.length : Int) ≤ i) : Calls Tryd.prog 20 [.pointer (some ⟨b, 0, none⟩), i64 (wI k), i64 (i)].toArray w (Ret fun v w' => (∃ ev, v = .tuple #[.slice none 0 0, ev] ∧ Er w.heap.size w' 4 1 ev) ∧ Ext w w') := by
  cases k
  · exact at_miss_0 b a o w i hG hb hi
  · exact at_miss_1 b a o w i hG hb hi

theorem send_ok (k : Bool) (b : Nat) (a o : Wy) (ha : a.ok) (R : List (Option Nat × Obj)) (w₀ w : World) (bs : List (BitVec 8)) (hroom : bs.length ≤ 140737488355328) (a0 : Option Addr) (n0 c0 : Nat) (hn0 : n0 = bs.length) (H : Hp No w₀ w ((some b, .cells (nv k a o) 76 (0, 0)) :: (a.key, sob ES 30 (svs a.fs) a.sp) :: (o.key, sob ES 30 (svs o.fs) o.sp) :: (frs 5 a.fs ++ (frs 5 o.fs ++ R)))) (hW : ∀ w1, Hp No w₀ w1 ((some b, .cells (nv k a o) 76 (0, 0)) :: (a.key, sob ES 30 (svs a.fs) a.sp) :: (o.key, sob ES 30 (svs o.fs) o.sp) :: (frs 5 a.fs ++ (frs 5 o.fs ++ R))) → Rd E8 w1 a0 bs) (hlen : a.fs.length < 64) : Calls Tryd.prog 14 [.pointer (some ⟨b, 0, none⟩), i64 (wI k), .slice a0 n0 c0].toArray w (Ret fun v w' => v = .nilIface ∧ ∃ a' : Wy, a'.ok ∧ bss a'.fs = bss a.fs ++ [bs] ∧ Hp No w₀ w' ((some b, .cells (nv k a' o) 76 (0, 0)) :: (a'.key, sob ES 30 (svs a'.fs) a'.sp) :: (o.key, sob ES 30 (svs o.fs) o.sp) :: (frs 5 a'.fs ++ (frs 5 o.fs ++ R)))) := by
  cases k
  · exact send_ok_0 b a o ha R w₀ w bs hroom a0 n0 c0 hn0 H hW hlen
  · exact send_ok_1 b a o ha R w₀ w bs hroom a0 n0 c0 hn0 H hW hlen

theorem send_full (k : Bool) (b : Nat) (a o : Wy) (w : World) (fv : Value) (hG : Gl w) (hb : w.heap[b]? = some (.cells (nv k a o) 76 (0, 0))) (hlen : 64 ≤ a.fs.length) : Calls Tryd.prog 14 [.pointer (some ⟨b, 0, none⟩), i64 (wI k), fv].toArray w (Ret fun v w' => (∃ ev, v = ev ∧ Er w.heap.size w' 5 1 ev) ∧ Ext w w') := by
  cases k
  · exact send_full_0 b a o w fv hG hb hlen
  · exact send_full_1 b a o w fv hG hb hlen

theorem deliver_ok (k : Bool) (b : Nat) (a o : Wy) (ha : a.ok) (R : List (Option Nat × Obj)) (w₀ w : World) (i : Nat) (hi : i < a.fs.length) (f : Fr) (hf : a.fs[i]? = some f) (hl64 : a.fs.length ≤ 64) (H : Hp No w₀ w ((some b, .cells (nv k a o) 76 (0, 0)) :: (a.key, sob ES 30 (svs a.fs) a.sp) :: (o.key, sob ES 30 (svs o.fs) o.sp) :: (frs 5 a.fs ++ (frs 5 o.fs ++ R)))) : Calls Tryd.prog 17 [.pointer (some ⟨b, 0, none⟩), i64 (wI k), i64 ((i : Nat))].toArray w (Ret fun v w' => v = .tuple #[.slice (ownA f.key) f.bs.length f.c, .nilIface] ∧ ∃ a' : Wy, a'.ok ∧ bss a'.fs = (bss a.fs).eraseIdx i ∧ Hp No w₀ w' (f.row 5 :: (some b, .cells (nv k a' o) 76 (0, 0)) :: (a'.key, sob ES 30 (svs a'.fs) a'.sp) :: (o.key, sob ES 30 (svs o.fs) o.sp) :: (frs 5 a'.fs ++ (frs 5 o.fs ++ R)))) := by
  cases k
  · exact deliver_ok_0 b a o ha R w₀ w i hi f hf hl64 H
  · exact deliver_ok_1 b a o ha R w₀ w i hi f hf hl64 H

theorem deliver_miss (k : Bool) (b : Nat) (a o : Wy) (w : World) (i : Int) (hG : Gl w) (hb : w.heap[b]? = some (.cells (nv k a o) 76 (0, 0))) (hi : i < 0 ∨ (a.fs.length : Int) ≤ i) : Calls Tryd.prog 17 [.pointer (some ⟨b, 0, none⟩), i64 (wI k), i64 (i)].toArray w (Ret fun v w' => (∃ ev, v = .tuple #[.slice none 0 0, ev] ∧ Er w.heap.size w' 4 1 ev) ∧ Ext w w') := by
  cases k
  · exact deliver_miss_0 b a o w i hG hb hi
  · exact deliver_miss_1 b a o w i hG hb hi

theorem drop_ok (k : Bool) (b : Nat) (a o : Wy) (ha : a.ok) (R : List (Option Nat × Obj)) (w₀ w : World) (i : Nat) (hi : i < a.fs.length) (f : Fr) (hf : a.fs[i]? = some f) (hl64 : a.fs.length ≤ 64) (H : Hp No w₀ w ((some b, .cells (nv k a o) 76 (0, 0)) :: (a.key, sob ES 30 (svs a.fs) a.sp) :: (o.key, sob ES 30 (svs o.fs) o.sp) :: (frs 5 a.fs ++ (frs 5 o.fs ++ R)))) : Calls Tryd.prog 16 [.pointer (some ⟨b, 0, none⟩), i64 (wI k), i64 ((i : Nat))].toArray w (Ret fun v w' => v = .nilIface ∧ ∃ a' : Wy, a'.ok ∧ bss a'.fs = (bss a.fs).eraseIdx i ∧ Hp No w₀ w' ((some b, .cells (nv k a' o) 76 (0, 0)) :: (a'.key, sob ES 30 (svs a'.fs) a'.sp) :: (o.key, sob ES 30 (svs o.fs) o.sp) :: (frs 5 a'.fs ++ (frs 5 o.fs ++ R)))) := by
  cases k
  · exact drop_ok_0 b a o ha R w₀ w i hi f hf hl64 H
  · exact drop_ok_1 b a o ha R w₀ w i hi f hf hl64 H

theorem drop_miss (k : Bool) (b : Nat) (a o : Wy) (w : World) (i : Int) (hG : Gl w) (hb : w.heap[b]? = some (.cells (nv k a o) 76 (0, 0))) (hi : i < 0 ∨ (a.fs.length : Int) ≤ i) : Calls Tryd.prog 16 [.pointer (some ⟨b, 0, none⟩), i64 (wI k), i64 (i)].toArray w (Ret fun v w' => (∃ ev, v = ev ∧ Er w.heap.size w' 4 1 ev) ∧ Ext w w') := by
  cases k
  · exact drop_miss_0 b a o w i hG hb hi
  · exact drop_miss_1 b a o w i hG hb hi

theorem copy_ok (k : Bool) (b : Nat) (a o : Wy) (ha : a.ok) (R : List (Option Nat × Obj)) (w₀ w : World) (i : Nat) (hi : i < a.fs.length) (f : Fr) (hf : a.fs[i]? = some f) (hfl : f.bs.length ≤ 140737488355328) (hlen : a.fs.length < 64) (H : Hp No w₀ w ((some b, .cells (nv k a o) 76 (0, 0)) :: (a.key, sob ES 30 (svs a.fs) a.sp) :: (o.key, sob ES 30 (svs o.fs) o.sp) :: (frs 5 a.fs ++ (frs 5 o.fs ++ R)))) : Calls Tryd.prog 19 [.pointer (some ⟨b, 0, none⟩), i64 (wI k), i64 ((i : Nat))].toArray w (Ret fun v w' => v = .nilIface ∧ ∃ a' : Wy, a'.ok ∧ bss a'.fs = bss a.fs ++ [f.bs] ∧ Hp No w₀ w' ((some b, .cells (nv k a' o) 76 (0, 0)) :: (a'.key, sob ES 30 (svs a'.fs) a'.sp) :: (o.key, sob ES 30 (svs o.fs) o.sp) :: (frs 5 a'.fs ++ (frs 5 o.fs ++ R)))) := by
  cases k
  · exact copy_ok_0 b a o ha R w₀ w i hi f hf hfl hlen H
  · exact copy_ok_1 b a o ha R w₀ w i hi f hf hfl hlen H

theorem copy_full (k : Bool) (b : Nat) (a o : Wy) (w : World) (i : Nat) (hi : i < a.fs.length) (f : Fr) (hf : a.fs[i]? = some f) (hG : Gl w) (hb : w.heap[b]? = some (.cells (nv k a o) 76 (0, 0))) (haR : Rd ES w (ownA a.key) (svs a.fs)) (hfull : 64 ≤ a.fs.length) : Calls Tryd.prog 19 [.pointer (some ⟨b, 0, none⟩), i64 (wI k), i64 ((i : Nat))].toArray w (Ret fun v w' => (∃ ev, v = ev ∧ Er w.heap.size w' 5 1 ev) ∧ Ext w w') := by
  cases k
  · exact copy_full_0 b a o w i hi f hf hG hb haR hfull
  · exact copy_full_1 b a o w i hi f hf hG hb haR hfull

theorem copy_miss (k : Bool) (b : Nat) (a o : Wy) (w : World) (i : Int) (hG : Gl w) (hb : w.heap[b]? = some (.cells (nv k a o) 76 (0, 0))) (hi : i < 0 ∨ (a.fs.length : Int) ≤ i) : Calls Tryd.prog 19 [.pointer (some ⟨b, 0, none⟩), i64 (wI k), i64 (i)].toArray w (Ret fun v w' => (∃ ev, v = ev ∧ Er w.heap.size w' 4 1 ev) ∧ Ext w w') := by
  cases k
  · exact copy_miss_0 b a o w i hG hb hi
  · exact copy_miss_1 b a o w i hG hb hi

theorem flip_ok (k : Bool) (b : Nat) (a o : Wy) (ha : a.ok) (R : List (Option Nat × Obj)) (w₀ w : World) (i : Nat) (hi : i < a.fs.length) (f : Fr) (hf : a.fs[i]? = some f) (hfl : f.bs.length ≤ 140737488355328) (bit : Nat) (hbit : bit / 8 < f.bs.length) (H : Hp No w₀ w ((some b, .cells (nv k a o) 76 (0, 0)) :: (a.key, sob ES 30 (svs a.fs) a.sp) :: (o.key, sob ES 30 (svs o.fs) o.sp) :: (frs 5 a.fs ++ (frs 5 o.fs ++ R)))) : Calls Tryd.prog 21 [.pointer (some ⟨b, 0, none⟩), i64 (wI k), i64 ((i : Nat)), i64 ((bit : Nat))].toArray w (Ret fun v w' => v = .nilIface ∧ ∃ a' : Wy, a'.ok ∧ bss a'.fs = (bss a.fs).set i (flipB f.bs bit) ∧ Hp No w₀ w' ((some b, .cells (nv k a' o) 76 (0, 0)) :: (a'.key, sob ES 30 (svs a'.fs) a'.sp) :: (o.key, sob ES 30 (svs o.fs) o.sp) :: (frs 5 a'.fs ++ (frs 5 o.fs ++ R)))) := by
  cases k
  · exact flip_ok_0 b a o ha R w₀ w i hi f hf hfl bit hbit H
  · exact flip_ok_1 b a o ha R w₀ w i hi f hf hfl bit hbit H

theorem flip_bit (k : Bool) (b : Nat) (a o : Wy) (w : World) (i : Nat) (hi : i < a.fs.length) (f : Fr) (hf : a.fs[i]? = some f) (bit : Int) (hb64 : bit ≤ 9223372036854775807) (hG : Gl w) (hb : w.heap[b]? = some (.cells (nv k a o) 76 (0, 0))) (haR : Rd ES w (ownA a.key) (svs a.fs)) (hbit : bit < 0 ∨ (f.bs.length : Int) ≤ bit / 8) : Calls Tryd.prog 21 [.pointer (some ⟨b, 0, none⟩), i64 (wI k), i64 ((i : Nat)), i64 (bit)].toArray w (Ret fun v w' => (∃ ev, v = ev ∧ Er w.heap.size w' 1 1 ev) ∧ Ext w w') := by
  cases k
  · exact flip_bit_0 b a o w i hi f hf bit hb64 hG hb haR hbit
  · exact flip_bit_1 b a o w i hi f hf bit hb64 hG hb haR hbit

theorem flip_miss (k : Bool) (b : Nat) (a o : Wy) (w : World) (i : Int) (bit : Int) (hG : Gl w) (hb : w.heap[b]? = some (.cells (nv k a o) 76 (0, 0))) (hi : i < 0 ∨ (a.fs.length : Int) ≤ i) : Calls Tryd.prog 21 [.pointer (some ⟨b, 0, none⟩), i64 (wI k), i64 (i), i64 (bit)].toArray w (Ret fun v w' => (∃ ev, v = ev ∧ Er w.heap.size w' 4 1 ev) ∧ Ext w w') := by
  cases k
  · exact flip_miss_0 b a o w i bit hG hb hi
  · exact flip_miss_1 b a o w i bit hG hb hi

theorem nnew_ok (w : World) : Calls Tryd.prog 12 [].toArray w (Ret fun v w' => (∃ b, v = .pointer (some ⟨b, 0, none⟩) ∧ Hp No w w' [(some b, .cells (nv false wy0 wy0) 76 (0, 0)), (wy0.key, sob ES 30 (svs wy0.fs) wy0.sp), (wy0.key, sob ES 30 (svs wy0.fs) wy0.sp)]) ∧ Ext w w') := by
  have H := Hp.start No w
  refine enter (n := 3) Tryd.func12 rfl rfl (Nat.le_of_ble_eq_true rfl) ?_
  refine seqRegion ?_
  refine sq (r_assign (v := .pointer none) rfl) ?_
  refine wend ?_
  refine seqRegion ?_
  refine sq (r_build (cs' := #[.slice none 0 0, .slice none 0 0]) (ps := []) zer76 pls76 rfl (by rfl)) ?_
  refine q_box (v := .agg #[.slice none 0 0, .slice none 0 0]) (o := .cells #[.slice none 0 0, .slice none 0 0] 76 (0, 0)) H rfl (by rfl) ?_
  intro b1 w2 hb1 H3 hE4
  refine sq (r_assign (v := .pointer (some ⟨b1, 0, none⟩)) rfl) ?_
  refine wend ?_
  refine retAny ?_
  refine retG (rs := [.tmp 0]) (vs := [.pointer (some ⟨b1, 0, none⟩)]) rfl ⟨⟨rfl, rfl⟩, trivial⟩ ?_
  refine ⟨_, rfl, ⟨_, rfl, ?_⟩, H3.chg⟩
  have h := ((H3.nil (sob ES 30 (svs wy0.fs) wy0.sp)).nil (sob ES 30 (svs wy0.fs) wy0.sp)).pull (k := 2) rfl
  exact h

theorem nawake_ok (w₀ : World) (hG : Gl w₀) : Calls Tryd.prog 13 [].toArray w₀ (Ret fun v w' => v = .bool true ∧ Ext w₀ w') := by
  have H := Hp.start No w₀
  refine enter (n := 46) Tryd.func13 rfl rfl (Nat.le_of_ble_eq_true rfl) ?_
  refine seqRegion ?_
  refine sq (r_assign (v := .bool (false)) rfl) ?_
  refine wend ?_
  refine seqRegion ?_
  refine c_call (vs := []) call12 rfl (nnew_ok w₀) ?_
  rintro _ w1 ⟨⟨b3, rfl, HN4⟩, hE5⟩
  have H6 := (H.join HN4).as (L' := ((some b3, .cells (nv false wy0 wy0) 76 (0, 0)) :: (wy0.key, sob ES 30 (svs wy0.fs) wy0.sp) :: (wy0.key, sob ES 30 (svs wy0.fs) wy0.sp) :: (frs 5 wy0.fs ++ (frs 5 wy0.fs ++ [])))) rfl
  refine sq (r_assign (v := .pointer (some ⟨b3, 0, none⟩)) rfl) ?_
  refine wend ?_
  refine seqAny ?_
  refine seqRegion ?_
  refine sq (r_move (v := .pointer (some ⟨b3, 0, none⟩)) rfl) ?_
  refine sq (r_eqlPN und23 rfl rfl) ?_
  refine sq (r_move (v := .bool (false)) rfl) ?_
  refine sqAny (v := .pointer (some ⟨b3, 0, none⟩)) (w' := w1) (wantedSome (d' := 7) (b := false) rfl rfl rfl) (r_move (v := .pointer (some ⟨b3, 0, none⟩)) rfl) ?_
  refine q_buildSliceG (E := E8) (l := [1#8, 2#8]) (wantedSome (d' := 7) (b := false) rfl rfl rfl) H6 sli30 zer5 (Nat.le_of_ble_eq_true rfl) (ps := [(0, u8 (1#8)), (1, u8 (2#8))]) rfl (by exact fillAll rfl rfl) rfl ?_
  intro b7 w9 hS8 H10 hE11
  have H12 := Hp.toR [((some b7), sob E8 5 ([1#8, 2#8]) ([]))] (F := frs 5 wy0.fs) (G := frs 5 wy0.fs) (X := []) H10
  refine caAny (wantedSome (d' := 7) (b := false) rfl rfl rfl) (Enters.callL (vs := [.pointer (some ⟨b3, 0, none⟩), i64 ((0 : Int)), .slice (ownA (some b7)) 2 2]) call14 rfl) (send_ok false b3 wy0 wy0 wy0_ok ([((some b7), sob E8 5 ([1#8, 2#8]) ([]))] ++ []) w₀ w9 ([1#8, 2#8]) (by first | omega | exact Nat.le_of_ble_eq_true rfl | (simp; omega)) (ownA (some b7)) 2 2 (by rfl) H12 (fun w1 HX => HX.rdm (T := 5) hS8 (by simp)) (by decide)) ?_
  rintro _ w13 ⟨rfl, a15, hok16, hbs17, HN18⟩
  have H19 := (Hp.fromR [((some b7), sob E8 5 ([1#8, 2#8]) ([]))] (F := frs 5 a15.fs) (G := frs 5 wy0.fs) (X := []) HN18).as (L' := (((some b7), sob E8 5 ([1#8, 2#8]) ([])) :: (some b3, .cells (nv false a15 wy0) 76 (0, 0)) :: (a15.key, sob ES 30 (svs a15.fs) a15.sp) :: (wy0.key, sob ES 30 (svs wy0.fs) wy0.sp) :: (frs 5 a15.fs ++ (frs 5 wy0.fs ++ [])))) rfl
  refine sqAny (v := .bool (false)) (w' := w13) (wantedSome (d' := 7) (b := false) rfl rfl rfl) (r_neqNN isI28 rfl rfl) ?_
  refine sq (r_pickF (v := .bool (false)) rfl rfl) ?_
  have hx1 : bss a15.fs = [[1#8, 2#8]] := hbs17
  refine sq (r_move (v := .bool (false)) rfl) ?_
  refine sqAny (v := .pointer (some ⟨b3, 0, none⟩)) (w' := w13) (wantedSome (d' := 13) (b := false) rfl rfl rfl) (r_move (v := .pointer (some ⟨b3, 0, none⟩)) rfl) ?_
  refine q_buildSliceG (E := E8) (l := [3#8]) (wantedSome (d' := 13) (b := false) rfl rfl rfl) H19 sli30 zer5 (Nat.le_of_ble_eq_true rfl) (ps := [(0, u8 (3#8))]) rfl (by exact fillAll rfl rfl) rfl ?_
  intro b20 w22 hS21 H23 hE24
  have H25 := Hp.toR [((some b20), sob E8 5 ([3#8]) ([])), ((some b7), sob E8 5 ([1#8, 2#8]) ([]))] (F := frs 5 a15.fs) (G := frs 5 wy0.fs) (X := []) H23
  refine caAny (wantedSome (d' := 13) (b := false) rfl rfl rfl) (Enters.callL (vs := [.pointer (some ⟨b3, 0, none⟩), i64 ((0 : Int)), .slice (ownA (some b20)) 1 1]) call14 rfl) (send_ok false b3 a15 wy0 hok16 ([((some b20), sob E8 5 ([3#8]) ([])), ((some b7), sob E8 5 ([1#8, 2#8]) ([]))] ++ []) w₀ w22 ([3#8]) (by first | omega | exact Nat.le_of_ble_eq_true rfl | (simp; omega)) (ownA (some b20)) 1 1 (by rfl) H25 (fun w1 HX => HX.rdm (T := 5) hS21 (by simp)) (by have := congrArg List.length hx1; simp at this; omega)) ?_
  rintro _ w26 ⟨rfl, a28, hok29, hbs30, HN31⟩
  have H32 := (Hp.fromR [((some b20), sob E8 5 ([3#8]) ([])), ((some b7), sob E8 5 ([1#8, 2#8]) ([]))] (F := frs 5 a28.fs) (G := frs 5 wy0.fs) (X := []) HN31).as (L' := (((some b20), sob E8 5 ([3#8]) ([])) :: ((some b7), sob E8 5 ([1#8, 2#8]) ([])) :: (some b3, .cells (nv false a28 wy0) 76 (0, 0)) :: (a28.key, sob ES 30 (svs a28.fs) a28.sp) :: (wy0.key, sob ES 30 (svs wy0.fs) wy0.sp) :: (frs 5 a28.fs ++ (frs 5 wy0.fs ++ [])))) rfl
  refine sqAny (v := .bool (false)) (w' := w26) (wantedSome (d' := 13) (b := false) rfl rfl rfl) (r_neqNN isI28 rfl rfl) ?_
  refine sq (r_pickF (v := .bool (false)) rfl rfl) ?_
  have hx2 : bss a28.fs = [[1#8, 2#8], [3#8]] := by rw [hbs30, hx1]; rfl
  refine sq (r_move (v := .bool (false)) rfl) ?_
  refine sqAny (v := .pointer (some ⟨b3, 0, none⟩)) (w' := w26) (wantedSome (d' := 19) (b := false) rfl rfl rfl) (r_move (v := .pointer (some ⟨b3, 0, none⟩)) rfl) ?_
  obtain ⟨f33, hf34, hfb35⟩ := bss_at (F := a28.fs) (i := 0) (b := [1#8, 2#8]) (by rw [hx2]; rfl)
  have fok36 := hok29.each _ (List.mem_of_getElem? hf34)
  have hif33 := (List.getElem?_eq_some_iff.1 hf34).1
  have H37 := Hp.toR [((some b20), sob E8 5 ([3#8]) ([])), ((some b7), sob E8 5 ([1#8, 2#8]) ([]))] (F := frs 5 a28.fs) (G := frs 5 wy0.fs) (X := []) H32
  refine caAny (wantedSome (d' := 19) (b := false) rfl rfl rfl) (Enters.callL (vs := [.pointer (some ⟨b3, 0, none⟩), i64 ((0 : Int)), i64 ((0 : Int)), i64 ((8 : Int))]) call21 rfl) (flip_ok false b3 a28 wy0 hok29 ([((some b20), sob E8 5 ([3#8]) ([])), ((some b7), sob E8 5 ([1#8, 2#8]) ([]))] ++ []) w₀ w26 0 hif33 f33 hf34 (by rw [hfb35]; decide) 8 (by rw [hfb35]; decide) H37) ?_
  rintro _ w38 ⟨rfl, a40, hok41, hbs42, HN43⟩
  have H44 := (Hp.fromR [((some b20), sob E8 5 ([3#8]) ([])), ((some b7), sob E8 5 ([1#8, 2#8]) ([]))] (F := frs 5 a40.fs) (G := frs 5 wy0.fs) (X := []) HN43).as (L' := (((some b20), sob E8 5 ([3#8]) ([])) :: ((some b7), sob E8 5 ([1#8, 2#8]) ([])) :: (some b3, .cells (nv false a40 wy0) 76 (0, 0)) :: (a40.key, sob ES 30 (svs a40.fs) a40.sp) :: (wy0.key, sob ES 30 (svs wy0.fs) wy0.sp) :: (frs 5 a40.fs ++ (frs 5 wy0.fs ++ [])))) rfl
  refine sqAny (v := .bool (false)) (w' := w38) (wantedSome (d' := 19) (b := false) rfl rfl rfl) (r_neqNN isI28 rfl rfl) ?_
  have hx3 : bss a40.fs = [[1#8, 3#8], [3#8]] := by rw [hbs42, hx2, hfb35]; rfl
  refine sq (r_pickF (v := .bool (false)) rfl rfl) ?_
  refine wend ?_
  refine condFalse rfl ?_
  refine skipAny ?_
  refine thenNormal ?_
  refine seqRegion ?_
  refine sq (r_move (v := .pointer (some ⟨b3, 0, none⟩)) rfl) ?_
  obtain ⟨f45, hf46, hfb47⟩ := bss_at (F := a40.fs) (i := 0) (b := [1#8, 3#8]) (by rw [hx3]; rfl)
  have fok48 := hok41.each _ (List.mem_of_getElem? hf46)
  have hif45 := (List.getElem?_eq_some_iff.1 hf46).1
  refine c_call (vs := [.pointer (some ⟨b3, 0, none⟩), i64 ((0 : Int)), i64 ((0 : Int))]) call20 rfl (at_hit false b3 a40 wy0 w38 0 hif45 f45 hf46 (by rw [hfb47]; decide) (H44.get (k := 2) rfl) (H44.rd (k := 3) rfl hok41.sl) (H44.rdF (T := 5) fok48 (List.mem_cons_of_mem _ (List.mem_cons_of_mem _ (List.mem_cons_of_mem _ (List.mem_cons_of_mem _ (List.mem_cons_of_mem _ (List.mem_append_left _ (frs_mem hf46))))))))) ?_
  rintro _ w49 ⟨⟨key51, c52, sp53, rfl, hS54, hk55⟩, hE56⟩
  have H57 := H44.add hE56 hk55
  refine sq (r_move (v := .tuple #[.slice (ownA key51) f45.bs.length c52, .nilIface]) rfl) ?_
  refine sq (r_extract (vs := #[.slice (ownA key51) f45.bs.length c52, .nilIface]) rfl rfl) ?_
  refine sq (r_extract (vs := #[.slice (ownA key51) f45.bs.length c52, .nilIface]) rfl rfl) ?_
  refine sq (r_assign (v := .slice (ownA key51) f45.bs.length c52) rfl) ?_
  refine sq (r_assign (v := .nilIface) rfl) ?_
  refine wend ?_
  refine seqRegion ?_
  refine sq (r_move (v := .nilIface) rfl) ?_
  refine sq (r_eqlNN isI28 rfl rfl) ?_
  refine sq (r_move (v := .bool (true)) rfl) ?_
  refine sqAny (v := .slice (ownA key51) f45.bs.length c52) (w' := w49) (wantedSome (d' := 31) (b := true) rfl rfl rfl) (r_move (v := .slice (ownA key51) f45.bs.length c52) rfl) ?_
  refine sqAny (v := .string (strB f45.bs)) (w' := w49) (wantedSome (d' := 31) (b := true) rfl rfl rfl) (r_toStr (l := f45.bs) und30 und5 und9 (H57.rd (k := 0) rfl hS54) rfl (by rfl)) ?_
  refine sqAny (v := .bool (true)) (w' := w49) (wantedSome (d' := 31) (b := true) rfl rfl rfl) ((r_eqlStr (s := strB f45.bs) (s' := {data := #[1, 3]}) rfl rfl).as (v' := .bool (true)) (by rw [hfb47, show strB [1#8, 3#8] = { data := #[1, 3] } from rfl]; simp)) ?_
  refine sq (r_pickT (u := .bool (true)) rfl rfl) ?_
  refine sq (r_move (v := .bool (true)) rfl) ?_
  refine sqAny (v := .pointer (some ⟨b3, 0, none⟩)) (w' := w49) (wantedSome (d' := 36) (b := true) rfl rfl rfl) (r_move (v := .pointer (some ⟨b3, 0, none⟩)) rfl) ?_
  refine caAny (wantedSome (d' := 36) (b := true) rfl rfl rfl) (Enters.callL (vs := [.pointer (some ⟨b3, 0, none⟩), i64 ((0 : Int))]) call15 rfl) (len false b3 a40 wy0 w49 (H57.get (k := 3) rfl)) ?_
  rintro _ w58 ⟨rfl, hE59⟩
  have H60 := H57.ext hE59
  refine sqAny (v := .bool (true)) (w' := w58) (wantedSome (d' := 36) (b := true) rfl rfl rfl) ((r_eqlI (a := (a40.fs.length : Nat)) (b := (2 : Int)) rfl rfl).as (v' := .bool (true)) (by have := congrArg List.length hx3; simp at this; simp [this])) ?_
  refine sq (r_pickT (u := .bool (true)) rfl rfl) ?_
  refine sq (r_move (v := .bool (true)) rfl) ?_
  refine sqAny (v := .pointer (some ⟨b3, 0, none⟩)) (w' := w58) (wantedSome (d' := 41) (b := true) rfl rfl rfl) (r_move (v := .pointer (some ⟨b3, 0, none⟩)) rfl) ?_
  have := H60.lt (List.mem_of_getElem? (i := 3) rfl) rfl
  refine caAny (wantedSome (d' := 41) (b := true) rfl rfl rfl) (Enters.callL (vs := [.pointer (some ⟨b3, 0, none⟩), i64 ((2 : Int)), .slice none 0 0]) call14 rfl) (send_range b3 (2 : Int) (by decide) (by decide) (.slice none 0 0) w58 (Chg.gl H60.chg (fun x => x) hG)) ?_
  rintro _ w61 ⟨⟨v63, rfl, hEr64⟩, hE65⟩
  have H66 := H60.ext hE65
  obtain ⟨T67, x68, rfl⟩ := hEr64.iface
  refine caAny (wantedSome (d' := 41) (b := true) rfl rfl rfl) (Enters.callL (vs := [.iface T67 (x68), i64 ((1 : Int))]) call18 rfl) (is_ok 1 (1 : Int) 1 (.iface T67 (x68)) w58.heap.size w61 (hEr64)) ?_
  rintro _ w69 ⟨rfl, hE70⟩
  have H71 := H66.ext hE70
  refine sq (r_pickT (u := .bool (true)) rfl rfl) ?_
  refine sq (r_assign (v := .bool (true)) rfl) ?_
  refine wend ?_
  refine retAny ?_
  refine retG (rs := [.tmp 0]) (vs := [.bool (true)]) rfl ⟨⟨rfl, rfl⟩, trivial⟩ ?_
  exact ⟨_, rfl, rfl, H71.chg⟩
end Go.Proofs.YtpmmhpgfbfehmaaDoor.Nt
