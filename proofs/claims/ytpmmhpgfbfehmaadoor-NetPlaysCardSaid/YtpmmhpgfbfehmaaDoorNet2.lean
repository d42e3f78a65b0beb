/- The walks of the nets. -/
import Derived.Test.YtpmmhpgfbfehmaaDoorNet
namespace Go.Proofs.YtpmmhpgfbfehmaaDoor.Nt
open Go Go.Proofs.YtpmmhpgfbfehmaaDoor.Vc Go.Proofs.YtpmmhpgfbfehmaaDoor.Er
theorem call17 : callable Tryd.prog 17 = true := by kernel_rfl
theorem call37 : callable Tryd.prog 37 = true := by kernel_rfl
theorem delete_ok (key : Option Nat) (c : Nat) (l : List SlV) (n0 : Nat) (hn0 : n0 = l.length) (sp : List Value) (i : Nat) (hi : i < l.length) (hS : Sl ES key l c sp) (hl : l.length ≤ 4611686018427387904) (hl2 : l.length * 24 ≤ 140737488355328) (X : List (Option Nat × Obj)) (w₀ w : World) (H : Hp No w₀ w ((key, sob ES 30 l sp) :: X)) : Calls Tryd.prog 37 [.slice (ownA key) n0 c, i64 (i : Nat), i64 ((i + 1 : Nat))].toArray w (Ret fun v w' => v = .slice (ownA key) (n0 - 1) c ∧ ∃ sp', Sl ES key (l.eraseIdx i) c sp' ∧ Hp No w₀ w' ((key, sob ES 30 (l.eraseIdx i) sp') :: X)) := by
  subst hn0
  have hkn : key ≠ none := fun e => by have := (hS.nil e).1; rw [this] at hi; exact absurd hi (Nat.not_lt_zero _)
  have hlc : l.length ≤ c := hS.cap
  refine enter (n := 33) Tryd.func37 rfl rfl (Nat.le_of_ble_eq_true rfl) ?_
  refine seqRegion ?_
  refine sq (r_assign (v := .slice none 0 0) rfl) ?_
  refine wend ?_
  refine seqRegion ?_
  refine sq (r_move (v := .slice (ownA key) l.length c) rfl) ?_
  refine sq (r_move (v := i64 ((i : Nat))) rfl) ?_
  refine sq (r_move (v := i64 ((i + 1 : Nat))) rfl) ?_
  refine sq (r_move (v := .slice (ownA key) l.length c) rfl) ?_
  refine sq (r_lenS sli22 (a := ownA key) (m := l.length) (c := c) rfl) ?_
  refine sq (r_slice3 (l := i) (h := i + 1) (q := l.length) sli22 rfl rfl rfl rfl (by first | rfl | omega) (by first | rfl | omega) (by first | rfl | omega) (by omega) (by omega) (by omega)) ?_
  refine wend ?_
  refine seqAny ?_
  refine seqRegion ?_
  refine sq (r_move (v := i64 ((i : Nat))) rfl) ?_
  refine sq (r_move (v := i64 ((i + 1 : Nat))) rfl) ?_
  refine sq ((r_eqlI (a := (i : Nat)) (b := (i + 1 : Nat)) rfl rfl).as (v' := .bool (false)) (by exact congrArg Value.bool (decide_eq_false (by omega)))) ?_
  refine wend ?_
  refine condFalse rfl ?_
  refine skipAny ?_
  refine thenNormal ?_
  refine seqRegion ?_
  refine sq (r_move (v := .slice (ownA key) l.length c) rfl) ?_
  refine sq (r_lenS sli22 (a := ownA key) (m := l.length) (c := c) rfl) ?_
  refine sq (r_assign (v := i64 ((l.length : Nat))) rfl) ?_
  refine wend ?_
  refine seqAny ?_
  refine drawC (m := 8) [0, 0, 3, 0, 0, 24, 63, 127] [6] (fun q vs w' => match q, vs with | 0, [] => Hp No w₀ w' ((key, sob ES 30 l sp) :: X) | 1, [v0] => ∃ (sp4 : List Value), v0 = .slice (ownA key) (i + (l.length - (i + 1))) c ∧ Sl ES key (l.eraseIdx i) c sp4 ∧ ES.s ≤ sp4.length ∧ Hp No w₀ w' ((key, sob ES 30 (l.eraseIdx i) sp4) :: X) | _, _ => False) mixed (by kernel_rfl) (by kernel_rfl) H.drew ?_
  refine WalkC.look rfl (fun _ => .slice (ownA key) l.length c) (fun _ _ _ => rfl) (fun q r uw _ _ _ _ => Gives.run rfl (r_move (v := .slice (ownA key) l.length c) rfl) ⟨rfl, rfl⟩) ?_
  refine WalkC.look rfl (fun _ => i64 ((i : Nat))) (fun _ _ _ => rfl) (fun q r uw _ _ _ _ => Gives.run rfl (r_move (v := i64 ((i : Nat))) rfl) ⟨rfl, rfl⟩) ?_
  refine WalkC.look rfl (fun _ => .slice (ownA key) i c) (fun _ _ _ => rfl) (fun q r uw _ _ _ _ => Gives.run rfl (((r_sliceS (l := 0) (h := i) sli22 rfl (.inr ⟨rfl, rfl⟩) (.inl ⟨_, _, _, rfl, rfl, by first | rfl | omega | (simp; omega)⟩) (by omega) (by omega)).as (v' := .slice (if c = 0 then ownA key else adr (ownA key) (0 * 1)) i (c - 0)) (by first | rfl | (congr 1; omega) | (simp; omega) | simp)).as (v' := .slice (ownA key) i c) (by rw [ite_adr0, Nat.sub_zero])) ⟨rfl, rfl⟩) ?_
  refine WalkC.look rfl (fun _ => .slice (ownA key) l.length c) (fun _ _ _ => rfl) (fun q r uw _ _ _ _ => Gives.run rfl (r_move (v := .slice (ownA key) l.length c) rfl) ⟨rfl, rfl⟩) ?_
  refine WalkC.look rfl (fun _ => i64 ((i + 1 : Nat))) (fun _ _ _ => rfl) (fun q r uw _ _ _ _ => Gives.run rfl (r_move (v := i64 ((i + 1 : Nat))) rfl) ⟨rfl, rfl⟩) ?_
  refine WalkC.look rfl (fun _ => .slice (if c = i + 1 then ownA key else adr (ownA key) ((i + 1) * 1)) (l.length - (i + 1)) (c - (i + 1))) (fun _ _ _ => rfl) (fun q r uw _ _ _ _ => Gives.run rfl ((r_sliceS (l := i + 1) (h := l.length) sli22 rfl (.inl ⟨_, _, _, rfl, rfl, by first | rfl | omega | (simp; omega)⟩) (.inr ⟨rfl, rfl⟩) (by omega) (by omega)).as (v' := .slice (if c = i + 1 then ownA key else adr (ownA key) ((i + 1) * 1)) (l.length - (i + 1)) (c - (i + 1))) (by first | rfl | (congr 1; omega) | (simp; omega) | simp)) ⟨rfl, rfl⟩) ?_
  refine WalkC.eff 0 rfl (fun r uw1 hF3 => ?_) ?_
  · skip
    have H2 := hF3
    dsimp only [List.take, List.map, List.cons_append, List.nil_append]
    refine Gives.ofW (d := 26) rfl rfl (fun Q' hK => ?_)
    refine q_appOver (E := ES) (k := 0) (l := l) (i := i) (m := i) (m2 := l.length - (i + 1)) (a2 := if c = i + 1 then ownA key else adr (ownA key) ((i + 1) * 1)) H2 rfl hS sli22 zer30 rfl byt30 hi (by have h := (Rd.sub (H2.rd (k := 0) rfl hS) (i + 1) (l.length - (i + 1)) (m := c) (fun e => by first | exact absurd e (by omega) | (rw [show l.length - (i + 1) = 0 by omega]; rfl))); rwa [List.take_of_length_le (by rw [List.length_drop]; omega)] at h) rfl (by omega) rfl (by omega) (by omega) ?_
    intro sp4 w7 hS5 hlen6 H8
    have H8' := H8.as (L' := ((key, sob ES 30 (l.eraseIdx i) sp4) :: X)) rfl
    clear H8
    exact hK _ _ ⟨sp4, rfl, hS5, hlen6, H8'⟩
  refine WalkC.look rfl (fun r => r 6) (fun r r' h => h 6 (by decide) rfl) (fun q r uw _ _ _ _ => Gives.run rfl (r_assign rfl) ⟨rfl, rfl⟩) ?_
  refine WalkC.nil ?_
  intro r9 w10 hF12
  obtain ⟨sp4, e6, hS5, hlen6, H11⟩ := hF12
  dsimp only
  rw [e6]
  refine wnil ?_
  refine thenNormal ?_
  refine seqRegion ?_
  refine sq (r_move (v := .slice (ownA key) (i + (l.length - (i + 1))) c) rfl) ?_
  refine sq (r_move (v := .slice (ownA key) (i + (l.length - (i + 1))) c) rfl) ?_
  refine sq (r_lenS sli22 (a := ownA key) (m := i + (l.length - (i + 1))) (c := c) rfl) ?_
  refine sq (r_move (v := i64 ((l.length : Nat))) rfl) ?_
  refine sq (((r_sliceS (l := i + (l.length - (i + 1))) (h := l.length) sli22 rfl (.inl ⟨_, _, _, rfl, rfl, by first | rfl | omega | (simp; omega)⟩) (.inl ⟨_, _, _, rfl, rfl, by first | rfl | omega | (simp; omega)⟩) (by omega) (by omega)).as (v' := .slice (if c = i + (l.length - (i + 1)) then ownA key else adr (ownA key) ((i + (l.length - (i + 1))) * 1)) (l.length - (i + (l.length - (i + 1)))) (c - (i + (l.length - (i + 1))))) (by first | rfl | (congr 1; omega) | (simp; omega) | simp)).as (v' := .slice (adr (ownA key) (l.length - 1)) 1 (c - (l.length - 1))) (by rw [if_neg (by omega), show i + (l.length - (i + 1)) = l.length - 1 by omega, Nat.mul_one, show l.length - (l.length - 1) = 1 by omega])) ?_
  refine q_clear1 (E := ES) (k := 0) (l := l.eraseIdx i) (m := l.length - 1) H11 rfl hS5 rfl hlen6 sli22 zer30 rfl rfl rfl (by rw [List.length_eraseIdx_of_lt hi]) hkn ?_
  intro sp13 w15 hS14 H16
  have H16' := H16.as (L' := ((key, sob ES 30 (l.eraseIdx i) sp13) :: X)) rfl
  clear H16
  refine wend ?_
  refine seqRegion ?_
  refine sq (r_move (v := .slice (ownA key) (i + (l.length - (i + 1))) c) rfl) ?_
  refine sq (r_assign (v := .slice (ownA key) (i + (l.length - (i + 1))) c) rfl) ?_
  refine wend ?_
  refine retAny ?_
  refine retG (rs := [.tmp 6]) (vs := [.slice (ownA key) (i + (l.length - (i + 1))) c]) rfl ⟨⟨rfl, rfl⟩, trivial⟩ ?_
  exact ⟨_, rfl, congrArg (fun q => Value.slice (ownA key) q c) (by omega), sp13, hS14, H16'⟩

theorem deliver_ok_0 (b : Nat) (a o : Wy) (ha : a.ok) (R : List (Option Nat × Obj)) (w₀ w : World) (i : Nat) (hi : i < a.fs.length) (f : Fr) (hf : a.fs[i]? = some f) (hl64 : a.fs.length ≤ 64) (H : Hp No w₀ w ((some b, .cells #[.slice (ownA a.key) a.fs.length a.c, .slice (ownA o.key) o.fs.length o.c] 76 (0, 0)) :: (a.key, sob ES 30 (svs a.fs) a.sp) :: (o.key, sob ES 30 (svs o.fs) o.sp) :: (frs 5 a.fs ++ (frs 5 o.fs ++ R)))) : Calls Tryd.prog 17 [.pointer (some ⟨b, 0, none⟩), i64 ((0 : Int)), i64 ((i : Nat))].toArray w (Ret fun v w' => v = .tuple #[.slice (ownA f.key) f.bs.length f.c, .nilIface] ∧ ∃ a' : Wy, a'.ok ∧ bss a'.fs = (bss a.fs).eraseIdx i ∧ Hp No w₀ w' (f.row 5 :: (some b, .cells #[.slice (ownA a'.key) a'.fs.length a'.c, .slice (ownA o.key) o.fs.length o.c] 76 (0, 0)) :: (a'.key, sob ES 30 (svs a'.fs) a'.sp) :: (o.key, sob ES 30 (svs o.fs) o.sp) :: (frs 5 a'.fs ++ (frs 5 o.fs ++ R)))) := by
  skip
  refine enter (n := 37) Tryd.func17 rfl rfl (Nat.le_of_ble_eq_true rfl) ?_
  refine seqRegion ?_
  refine sq (r_assign (v := .slice none 0 0) rfl) ?_
  refine sq (r_assign (v := .nilIface) rfl) ?_
  refine wend ?_
  refine seqRegion ?_
  refine sq (r_move (v := .pointer (some ⟨b, 0, none⟩)) rfl) ?_
  refine sq (r_move (v := i64 ((0 : Int))) rfl) ?_
  refine sq (r_move (v := i64 ((i : Nat))) rfl) ?_
  refine c_call (vs := [.pointer (some ⟨b, 0, none⟩), i64 ((0 : Int)), i64 ((i : Nat))]) call36 rfl (find_hit_0 b a o w i (H.get (k := 0) rfl) hi) ?_
  rintro _ w1 ⟨rfl, hE2⟩
  have H3 := H.ext hE2
  refine sq (r_move (v := .tuple #[.pointer (some ⟨b, 0, none⟩), .nilIface]) rfl) ?_
  refine sq (r_extract (vs := #[.pointer (some ⟨b, 0, none⟩), .nilIface]) rfl rfl) ?_
  refine sq (r_extract (vs := #[.pointer (some ⟨b, 0, none⟩), .nilIface]) rfl rfl) ?_
  refine sq (r_assign (v := .pointer (some ⟨b, 0, none⟩)) rfl) ?_
  refine sq (r_assign (v := .nilIface) rfl) ?_
  refine wend ?_
  refine seqAny ?_
  refine seqRegion ?_
  refine sq (r_move (v := .nilIface) rfl) ?_
  refine sq (r_neqNN isI28 rfl rfl) ?_
  refine wend ?_
  refine condFalse rfl ?_
  refine skipAny ?_
  refine thenNormal ?_
  refine seqRegion ?_
  refine sq (r_move (v := .pointer (some ⟨b, 0, none⟩)) rfl) ?_
  refine sq (r_nilCheck rfl) ?_
  refine sq (r_loadC (v := .slice (ownA a.key) a.fs.length a.c) one22 (H3.get (k := 0) rfl) (off := 0) rfl (by rfl)) ?_
  refine sq (r_move (v := i64 ((i : Nat))) rfl) ?_
  refine sq (r_idxS (E := ES) (l := svs a.fs) (j := i) sli22 (H3.rd (k := 1) rfl ha.sl) rfl rfl (by first | rfl | omega | (simp; omega)) (by exact (svs_len _).symm) (by rw [svs_len]; exact hi)) ?_
  refine sq ((r_ldS (E := ES) (l := svs a.fs) (j := i) (v := (svs a.fs).getD i sv0) fits30 (H3.rd (k := 1) rfl ha.sl) rfl rfl (at_getD (by rw [svs_len]; exact hi))).as (v' := .slice (ownA f.key) f.bs.length f.c) (by rw [svs_get hf]; rfl)) ?_
  refine sq (r_assign (v := .slice (ownA f.key) f.bs.length f.c) rfl) ?_
  refine wend ?_
  refine seqRegion ?_
  refine sq (r_move (v := .pointer (some ⟨b, 0, none⟩)) rfl) ?_
  refine sq (r_move (v := .pointer (some ⟨b, 0, none⟩)) rfl) ?_
  refine sq (r_nilCheck rfl) ?_
  refine sq (r_loadC (v := .slice (ownA a.key) a.fs.length a.c) one22 (H3.get (k := 0) rfl) (off := 0) rfl (by rfl)) ?_
  refine sq (r_move (v := i64 ((i : Nat))) rfl) ?_
  refine sq (r_move (v := i64 ((i : Nat))) rfl) ?_
  refine sq (r_addI (a := (i : Nat)) (b := (1 : Int)) rfl rfl (by omega)) ?_
  have H4 := (H3.pull (k := 1) rfl).as (L' := ((a.key, sob ES 30 (svs a.fs) a.sp) :: (some b, .cells #[.slice (ownA a.key) a.fs.length a.c, .slice (ownA o.key) o.fs.length o.c] 76 (0, 0)) :: (o.key, sob ES 30 (svs o.fs) o.sp) :: (frs 5 a.fs ++ (frs 5 o.fs ++ R)))) rfl
  refine c_call (vs := [.slice (ownA a.key) a.fs.length a.c, i64 ((i : Nat)), i64 ((i : Nat) + (1 : Int))]) call37 rfl (delete_ok a.key a.c (svs a.fs) a.fs.length (svs_len _).symm a.sp i (by rw [svs_len]; exact hi) ha.sl (by rw [svs_len]; omega) (by rw [svs_len]; omega) _ w₀ w1 H4) ?_
  rintro _ w5 ⟨rfl, sp7, hS8, HN9⟩
  have H10 := (HN9.pull (k := 1) rfl).as (L' := ((some b, .cells #[.slice (ownA a.key) a.fs.length a.c, .slice (ownA o.key) o.fs.length o.c] 76 (0, 0)) :: (a.key, sob ES 30 ((svs a.fs).eraseIdx i) sp7) :: (o.key, sob ES 30 (svs o.fs) o.sp) :: (frs 5 a.fs ++ (frs 5 o.fs ++ R)))) rfl
  refine sq (r_nilCheck rfl) ?_
  refine d_store (k := 0) (v := .slice (ownA a.key) (a.fs.length - 1) a.c) (cs' := #[.slice (ownA a.key) (a.fs.length - 1) a.c, .slice (ownA o.key) o.fs.length o.c]) H10 rfl rfl rfl siz22 (by rfl) (by intro u hu; simp [Value.cells] at hu; first | (subst hu; rfl) | (rcases hu with rfl <;> rfl)) (by exact Nat.le_of_ble_eq_true rfl) (by rfl) ?_
  intro w11 H12 hC13
  have H12' := H12.as (L' := ((some b, .cells #[.slice (ownA a.key) (a.fs.length - 1) a.c, .slice (ownA o.key) o.fs.length o.c] 76 (0, 0)) :: (a.key, sob ES 30 ((svs a.fs).eraseIdx i) sp7) :: (o.key, sob ES 30 (svs o.fs) o.sp) :: (frs 5 a.fs ++ (frs 5 o.fs ++ R)))) rfl
  clear H12
  refine wend ?_
  refine seqRegion ?_
  refine sq (r_move (v := .slice (ownA f.key) f.bs.length f.c) rfl) ?_
  refine sq (r_assign (v := .slice (ownA f.key) f.bs.length f.c) rfl) ?_
  refine sq (r_assign (v := .nilIface) rfl) ?_
  refine wend ?_
  refine retAny ?_
  refine retG (rs := [.tmp 6, .tmp 7]) (vs := [.slice (ownA f.key) f.bs.length f.c, .nilIface]) rfl ⟨⟨rfl, rfl⟩, ⟨rfl, rfl⟩, trivial⟩ ?_
  refine ⟨_, rfl, rfl, ⟨a.key, a.c, sp7, a.fs.eraseIdx i⟩, ⟨by dsimp only; rw [svs_erase]; exact hS8, fun x hx => ha.each x (List.mem_of_mem_eraseIdx hx)⟩, bss_erase _ _, ?_⟩
  have := H12'.outFs (i := i) hf
  dsimp only
  rw [svs_erase, List.length_eraseIdx_of_lt hi]
  exact this

theorem deliver_ok_1 (b : Nat) (a o : Wy) (ha : a.ok) (R : List (Option Nat × Obj)) (w₀ w : World) (i : Nat) (hi : i < a.fs.length) (f : Fr) (hf : a.fs[i]? = some f) (hl64 : a.fs.length ≤ 64) (H : Hp No w₀ w ((some b, .cells #[.slice (ownA o.key) o.fs.length o.c, .slice (ownA a.key) a.fs.length a.c] 76 (0, 0)) :: (a.key, sob ES 30 (svs a.fs) a.sp) :: (o.key, sob ES 30 (svs o.fs) o.sp) :: (frs 5 a.fs ++ (frs 5 o.fs ++ R)))) : Calls Tryd.prog 17 [.pointer (some ⟨b, 0, none⟩), i64 ((1 : Int)), i64 ((i : Nat))].toArray w (Ret fun v w' => v = .tuple #[.slice (ownA f.key) f.bs.length f.c, .nilIface] ∧ ∃ a' : Wy, a'.ok ∧ bss a'.fs = (bss a.fs).eraseIdx i ∧ Hp No w₀ w' (f.row 5 :: (some b, .cells #[.slice (ownA o.key) o.fs.length o.c, .slice (ownA a'.key) a'.fs.length a'.c] 76 (0, 0)) :: (a'.key, sob ES 30 (svs a'.fs) a'.sp) :: (o.key, sob ES 30 (svs o.fs) o.sp) :: (frs 5 a'.fs ++ (frs 5 o.fs ++ R)))) := by
  skip
  refine enter (n := 37) Tryd.func17 rfl rfl (Nat.le_of_ble_eq_true rfl) ?_
  refine seqRegion ?_
  refine sq (r_assign (v := .slice none 0 0) rfl) ?_
  refine sq (r_assign (v := .nilIface) rfl) ?_
  refine wend ?_
  refine seqRegion ?_
  refine sq (r_move (v := .pointer (some ⟨b, 0, none⟩)) rfl) ?_
  refine sq (r_move (v := i64 ((1 : Int))) rfl) ?_
  refine sq (r_move (v := i64 ((i : Nat))) rfl) ?_
  refine c_call (vs := [.pointer (some ⟨b, 0, none⟩), i64 ((1 : Int)), i64 ((i : Nat))]) call36 rfl (find_hit_1 b a o w i (H.get (k := 0) rfl) hi) ?_
  rintro _ w1 ⟨rfl, hE2⟩
  have H3 := H.ext hE2
  refine sq (r_move (v := .tuple #[.pointer (some ⟨b, 1, none⟩), .nilIface]) rfl) ?_
  refine sq (r_extract (vs := #[.pointer (some ⟨b, 1, none⟩), .nilIface]) rfl rfl) ?_
  refine sq (r_extract (vs := #[.pointer (some ⟨b, 1, none⟩), .nilIface]) rfl rfl) ?_
  refine sq (r_assign (v := .pointer (some ⟨b, 1, none⟩)) rfl) ?_
  refine sq (r_assign (v := .nilIface) rfl) ?_
  refine wend ?_
  refine seqAny ?_
  refine seqRegion ?_
  refine sq (r_move (v := .nilIface) rfl) ?_
  refine sq (r_neqNN isI28 rfl rfl) ?_
  refine wend ?_
  refine condFalse rfl ?_
  refine skipAny ?_
  refine thenNormal ?_
  refine seqRegion ?_
  refine sq (r_move (v := .pointer (some ⟨b, 1, none⟩)) rfl) ?_
  refine sq (r_nilCheck rfl) ?_
  refine sq (r_loadC (v := .slice (ownA a.key) a.fs.length a.c) one22 (H3.get (k := 0) rfl) (off := 1) rfl (by rfl)) ?_
  refine sq (r_move (v := i64 ((i : Nat))) rfl) ?_
  refine sq (r_idxS (E := ES) (l := svs a.fs) (j := i) sli22 (H3.rd (k := 1) rfl ha.sl) rfl rfl (by first | rfl | omega | (simp; omega)) (by exact (svs_len _).symm) (by rw [svs_len]; exact hi)) ?_
  refine sq ((r_ldS (E := ES) (l := svs a.fs) (j := i) (v := (svs a.fs).getD i sv0) fits30 (H3.rd (k := 1) rfl ha.sl) rfl rfl (at_getD (by rw [svs_len]; exact hi))).as (v' := .slice (ownA f.key) f.bs.length f.c) (by rw [svs_get hf]; rfl)) ?_
  refine sq (r_assign (v := .slice (ownA f.key) f.bs.length f.c) rfl) ?_
  refine wend ?_
  refine seqRegion ?_
  refine sq (r_move (v := .pointer (some ⟨b, 1, none⟩)) rfl) ?_
  refine sq (r_move (v := .pointer (some ⟨b, 1, none⟩)) rfl) ?_
  refine sq (r_nilCheck rfl) ?_
  refine sq (r_loadC (v := .slice (ownA a.key) a.fs.length a.c) one22 (H3.get (k := 0) rfl) (off := 1) rfl (by rfl)) ?_
  refine sq (r_move (v := i64 ((i : Nat))) rfl) ?_
  refine sq (r_move (v := i64 ((i : Nat))) rfl) ?_
  refine sq (r_addI (a := (i : Nat)) (b := (1 : Int)) rfl rfl (by omega)) ?_
  have H4 := (H3.pull (k := 1) rfl).as (L' := ((a.key, sob ES 30 (svs a.fs) a.sp) :: (some b, .cells #[.slice (ownA o.key) o.fs.length o.c, .slice (ownA a.key) a.fs.length a.c] 76 (0, 0)) :: (o.key, sob ES 30 (svs o.fs) o.sp) :: (frs 5 a.fs ++ (frs 5 o.fs ++ R)))) rfl
  refine c_call (vs := [.slice (ownA a.key) a.fs.length a.c, i64 ((i : Nat)), i64 ((i : Nat) + (1 : Int))]) call37 rfl (delete_ok a.key a.c (svs a.fs) a.fs.length (svs_len _).symm a.sp i (by rw [svs_len]; exact hi) ha.sl (by rw [svs_len]; omega) (by rw [svs_len]; omega) _ w₀ w1 H4) ?_
  rintro _ w5 ⟨rfl, sp7, hS8, HN9⟩
  have H10 := (HN9.pull (k := 1) rfl).as (L' := ((some b, .cells #[.slice (ownA o.key) o.fs.length o.c, .slice (ownA a.key) a.fs.length a.c] 76 (0, 0)) :: (a.key, sob ES 30 ((svs a.fs).eraseIdx i) sp7) :: (o.key, sob ES 30 (svs o.fs) o.sp) :: (frs 5 a.fs ++ (frs 5 o.fs ++ R)))) rfl
  refine sq (r_nilCheck rfl) ?_
  refine d_store (k := 0) (v := .slice (ownA a.key) (a.fs.length - 1) a.c) (cs' := #[.slice (ownA o.key) o.fs.length o.c, .slice (ownA a.key) (a.fs.length - 1) a.c]) H10 rfl rfl rfl siz22 (by rfl) (by intro u hu; simp [Value.cells] at hu; first | (subst hu; rfl) | (rcases hu with rfl <;> rfl)) (by exact Nat.le_of_ble_eq_true rfl) (by rfl) ?_
  intro w11 H12 hC13
  have H12' := H12.as (L' := ((some b, .cells #[.slice (ownA o.key) o.fs.length o.c, .slice (ownA a.key) (a.fs.length - 1) a.c] 76 (0, 0)) :: (a.key, sob ES 30 ((svs a.fs).eraseIdx i) sp7) :: (o.key, sob ES 30 (svs o.fs) o.sp) :: (frs 5 a.fs ++ (frs 5 o.fs ++ R)))) rfl
  clear H12
  refine wend ?_
  refine seqRegion ?_
  refine sq (r_move (v := .slice (ownA f.key) f.bs.length f.c) rfl) ?_
  refine sq (r_assign (v := .slice (ownA f.key) f.bs.length f.c) rfl) ?_
  refine sq (r_assign (v := .nilIface) rfl) ?_
  refine wend ?_
  refine retAny ?_
  refine retG (rs := [.tmp 6, .tmp 7]) (vs := [.slice (ownA f.key) f.bs.length f.c, .nilIface]) rfl ⟨⟨rfl, rfl⟩, ⟨rfl, rfl⟩, trivial⟩ ?_
  refine ⟨_, rfl, rfl, ⟨a.key, a.c, sp7, a.fs.eraseIdx i⟩, ⟨by dsimp only; rw [svs_erase]; exact hS8, fun x hx => ha.each x (List.mem_of_mem_eraseIdx hx)⟩, bss_erase _ _, ?_⟩
  have := H12'.outFs (i := i) hf
  dsimp only
  rw [svs_erase, List.length_eraseIdx_of_lt hi]
  exact this

theorem deliver_miss_0 (b : Nat) (a o : Wy) (w : World) (i : Int) (hG : Gl w) (hb : w.heap[b]? = some (.cells #[.slice (ownA a.key) a.fs.length a.c, .slice (ownA o.key) o.fs.length o.c] 76 (0, 0))) (hi : i < 0 ∨ (a.fs.length : Int) ≤ i) : Calls Tryd.prog 17 [.pointer (some ⟨b, 0, none⟩), i64 ((0 : Int)), i64 (i)].toArray w (Ret fun v w' => (∃ ev, v = .tuple #[.slice none 0 0, ev] ∧ Er w.heap.size w' 4 1 ev) ∧ Ext w w') := by
  have H := Hp.start No w
  refine enter (n := 37) Tryd.func17 rfl rfl (Nat.le_of_ble_eq_true rfl) ?_
  refine seqRegion ?_
  refine sq (r_assign (v := .slice none 0 0) rfl) ?_
  refine sq (r_assign (v := .nilIface) rfl) ?_
  refine wend ?_
  refine seqRegion ?_
  refine sq (r_move (v := .pointer (some ⟨b, 0, none⟩)) rfl) ?_
  refine sq (r_move (v := i64 ((0 : Int))) rfl) ?_
  refine sq (r_move (v := i64 (i)) rfl) ?_
  refine c_call (vs := [.pointer (some ⟨b, 0, none⟩), i64 ((0 : Int)), i64 (i)]) call36 rfl (find_miss_0 b a o w i (Chg.gl H.chg (fun x => x) hG) (H.keepE hb) hi) ?_
  rintro _ w1 ⟨⟨v3, rfl, hEr4⟩, hE5⟩
  have H6 := H.ext hE5
  obtain ⟨T7, x8, rfl⟩ := hEr4.iface
  refine sq (r_move (v := .tuple #[.pointer none, .iface T7 (x8)]) rfl) ?_
  refine sq (r_extract (vs := #[.pointer none, .iface T7 (x8)]) rfl rfl) ?_
  refine sq (r_extract (vs := #[.pointer none, .iface T7 (x8)]) rfl rfl) ?_
  refine sq (r_assign (v := .pointer none) rfl) ?_
  refine sq (r_assign (v := .iface T7 (x8)) rfl) ?_
  refine wend ?_
  refine seqAny ?_
  refine seqRegion ?_
  refine sq (r_move (v := .iface T7 (x8)) rfl) ?_
  refine sq (r_neqIN isI28 rfl rfl) ?_
  refine wend ?_
  refine condTrue rfl ?_
  refine seqRegion ?_
  refine sq (r_move (v := .iface T7 (x8)) rfl) ?_
  refine sq (r_assign (v := .slice none 0 0) rfl) ?_
  refine sq (r_assign (v := .iface T7 (x8)) rfl) ?_
  refine wend ?_
  refine retAny ?_
  refine thenRet ?_
  refine retG (rs := [.tmp 6, .tmp 7]) (vs := [.slice none 0 0, .iface T7 (x8)]) rfl ⟨⟨rfl, rfl⟩, ⟨rfl, rfl⟩, trivial⟩ ?_
  exact ⟨_, rfl, ⟨_, rfl, hEr4.mono H.chg.size⟩, H6.chg⟩

theorem deliver_miss_1 (b : Nat) (a o : Wy) (w : World) (i : Int) (hG : Gl w) (hb : w.heap[b]? = some (.cells #[.slice (ownA o.key) o.fs.length o.c, .slice (ownA a.key) a.fs.length a.c] 76 (0, 0))) (hi : i < 0 ∨ (a.fs.length : Int) ≤ i) : Calls Tryd.prog 17 [.pointer (some ⟨b, 0, none⟩), i64 ((1 : Int)), i64 (i)].toArray w (Ret fun v w' => (∃ ev, v = .tuple #[.slice none 0 0, ev] ∧ Er w.heap.size w' 4 1 ev) ∧ Ext w w') := by
  have H := Hp.start No w
  refine enter (n := 37) Tryd.func17 rfl rfl (Nat.le_of_ble_eq_true rfl) ?_
  refine seqRegion ?_
  refine sq (r_assign (v := .slice none 0 0) rfl) ?_
  refine sq (r_assign (v := .nilIface) rfl) ?_
  refine wend ?_
  refine seqRegion ?_
  refine sq (r_move (v := .pointer (some ⟨b, 0, none⟩)) rfl) ?_
  refine sq (r_move (v := i64 ((1 : Int))) rfl) ?_
  refine sq (r_move (v := i64 (i)) rfl) ?_
  refine c_call (vs := [.pointer (some ⟨b, 0, none⟩), i64 ((1 : Int)), i64 (i)]) call36 rfl (find_miss_1 b a o w i (Chg.gl H.chg (fun x => x) hG) (H.keepE hb) hi) ?_
  rintro _ w1 ⟨⟨v3, rfl, hEr4⟩, hE5⟩
  have H6 := H.ext hE5
  obtain ⟨T7, x8, rfl⟩ := hEr4.iface
  refine sq (r_move (v := .tuple #[.pointer none, .iface T7 (x8)]) rfl) ?_
  refine sq (r_extract (vs := #[.pointer none, .iface T7 (x8)]) rfl rfl) ?_
  refine sq (r_extract (vs := #[.pointer none, .iface T7 (x8)]) rfl rfl) ?_
  refine sq (r_assign (v := .pointer none) rfl) ?_
  refine sq (r_assign (v := .iface T7 (x8)) rfl) ?_
  refine wend ?_
  refine seqAny ?_
  refine seqRegion ?_
  refine sq (r_move (v := .iface T7 (x8)) rfl) ?_
  refine sq (r_neqIN isI28 rfl rfl) ?_
  refine wend ?_
  refine condTrue rfl ?_
  refine seqRegion ?_
  refine sq (r_move (v := .iface T7 (x8)) rfl) ?_
  refine sq (r_assign (v := .slice none 0 0) rfl) ?_
  refine sq (r_assign (v := .iface T7 (x8)) rfl) ?_
  refine wend ?_
  refine retAny ?_
  refine thenRet ?_
  refine retG (rs := [.tmp 6, .tmp 7]) (vs := [.slice none 0 0, .iface T7 (x8)]) rfl ⟨⟨rfl, rfl⟩, ⟨rfl, rfl⟩, trivial⟩ ?_
  exact ⟨_, rfl, ⟨_, rfl, hEr4.mono H.chg.size⟩, H6.chg⟩

theorem deliver_range (b : Nat) (way : Int) (h0 : way ≠ 0) (h1 : way ≠ 1) (i : Int) (w : World) (hG : Gl w) : Calls Tryd.prog 17 [.pointer (some ⟨b, 0, none⟩), i64 (way), i64 (i)].toArray w (Ret fun v w' => (∃ ev, v = .tuple #[.slice none 0 0, ev] ∧ Er w.heap.size w' 1 1 ev) ∧ Ext w w') := by
  have H := Hp.start No w
  refine enter (n := 37) Tryd.func17 rfl rfl (Nat.le_of_ble_eq_true rfl) ?_
  refine seqRegion ?_
  refine sq (r_assign (v := .slice none 0 0) rfl) ?_
  refine sq (r_assign (v := .nilIface) rfl) ?_
  refine wend ?_
  refine seqRegion ?_
  refine sq (r_move (v := .pointer (some ⟨b, 0, none⟩)) rfl) ?_
  refine sq (r_move (v := i64 (way)) rfl) ?_
  refine sq (r_move (v := i64 (i)) rfl) ?_
  refine c_call (vs := [.pointer (some ⟨b, 0, none⟩), i64 (way), i64 (i)]) call36 rfl (find_range b way h0 h1 i w (Chg.gl H.chg (fun x => x) hG)) ?_
  rintro _ w1 ⟨⟨v3, rfl, hEr4⟩, hE5⟩
  have H6 := H.ext hE5
  obtain ⟨T7, x8, rfl⟩ := hEr4.iface
  refine sq (r_move (v := .tuple #[.pointer none, .iface T7 (x8)]) rfl) ?_
  refine sq (r_extract (vs := #[.pointer none, .iface T7 (x8)]) rfl rfl) ?_
  refine sq (r_extract (vs := #[.pointer none, .iface T7 (x8)]) rfl rfl) ?_
  refine sq (r_assign (v := .pointer none) rfl) ?_
  refine sq (r_assign (v := .iface T7 (x8)) rfl) ?_
  refine wend ?_
  refine seqAny ?_
  refine seqRegion ?_
  refine sq (r_move (v := .iface T7 (x8)) rfl) ?_
  refine sq (r_neqIN isI28 rfl rfl) ?_
  refine wend ?_
  refine condTrue rfl ?_
  refine seqRegion ?_
  refine sq (r_move (v := .iface T7 (x8)) rfl) ?_
  refine sq (r_assign (v := .slice none 0 0) rfl) ?_
  refine sq (r_assign (v := .iface T7 (x8)) rfl) ?_
  refine wend ?_
  refine retAny ?_
  refine thenRet ?_
  refine retG (rs := [.tmp 6, .tmp 7]) (vs := [.slice none 0 0, .iface T7 (x8)]) rfl ⟨⟨rfl, rfl⟩, ⟨rfl, rfl⟩, trivial⟩ ?_
  exact ⟨_, rfl, ⟨_, rfl, hEr4.mono H.chg.size⟩, H6.chg⟩

theorem drop_ok_0 (b : Nat) (a o : Wy) (ha : a.ok) (R : List (Option Nat × Obj)) (w₀ w : World) (i : Nat) (hi : i < a.fs.length) (f : Fr) (hf : a.fs[i]? = some f) (hl64 : a.fs.length ≤ 64) (H : Hp No w₀ w ((some b, .cells #[.slice (ownA a.key) a.fs.length a.c, .slice (ownA o.key) o.fs.length o.c] 76 (0, 0)) :: (a.key, sob ES 30 (svs a.fs) a.sp) :: (o.key, sob ES 30 (svs o.fs) o.sp) :: (frs 5 a.fs ++ (frs 5 o.fs ++ R)))) : Calls Tryd.prog 16 [.pointer (some ⟨b, 0, none⟩), i64 ((0 : Int)), i64 ((i : Nat))].toArray w (Ret fun v w' => v = .nilIface ∧ ∃ a' : Wy, a'.ok ∧ bss a'.fs = (bss a.fs).eraseIdx i ∧ Hp No w₀ w' ((some b, .cells #[.slice (ownA a'.key) a'.fs.length a'.c, .slice (ownA o.key) o.fs.length o.c] 76 (0, 0)) :: (a'.key, sob ES 30 (svs a'.fs) a'.sp) :: (o.key, sob ES 30 (svs o.fs) o.sp) :: (frs 5 a'.fs ++ (frs 5 o.fs ++ R)))) := by
  skip
  refine enter (n := 17) Tryd.func16 rfl rfl (Nat.le_of_ble_eq_true rfl) ?_
  refine seqRegion ?_
  refine sq (r_assign (v := .nilIface) rfl) ?_
  refine wend ?_
  refine seqRegion ?_
  refine sq (r_move (v := .pointer (some ⟨b, 0, none⟩)) rfl) ?_
  refine sq (r_move (v := i64 ((0 : Int))) rfl) ?_
  refine sq (r_move (v := i64 ((i : Nat))) rfl) ?_
  refine c_call (vs := [.pointer (some ⟨b, 0, none⟩), i64 ((0 : Int)), i64 ((i : Nat))]) call17 rfl (deliver_ok_0 b a o ha R w₀ w i hi f hf hl64 H) ?_
  rintro _ w1 ⟨rfl, a', hok, hbs, HN⟩
  have H3 := HN.as (L' := ((f.key, sob E8 5 f.bs f.sp) :: (some b, .cells #[.slice (ownA a'.key) a'.fs.length a'.c, .slice (ownA o.key) o.fs.length o.c] 76 (0, 0)) :: (a'.key, sob ES 30 (svs a'.fs) a'.sp) :: (o.key, sob ES 30 (svs o.fs) o.sp) :: (frs 5 a'.fs ++ (frs 5 o.fs ++ R)))) rfl
  refine sq (r_move (v := .tuple #[.slice (ownA f.key) f.bs.length f.c, .nilIface]) rfl) ?_
  refine sq (r_extract (vs := #[.slice (ownA f.key) f.bs.length f.c, .nilIface]) rfl rfl) ?_
  refine sq (r_extract (vs := #[.slice (ownA f.key) f.bs.length f.c, .nilIface]) rfl rfl) ?_
  refine sq (r_assign (v := .slice (ownA f.key) f.bs.length f.c) rfl) ?_
  refine sq (r_assign (v := .nilIface) rfl) ?_
  refine wend ?_
  refine seqRegion ?_
  refine sq (r_move (v := .nilIface) rfl) ?_
  refine sq (r_assign (v := .nilIface) rfl) ?_
  refine wend ?_
  refine retAny ?_
  refine retG (rs := [.tmp 6]) (vs := [.nilIface]) rfl ⟨⟨rfl, rfl⟩, trivial⟩ ?_
  exact ⟨_, rfl, rfl, a', hok, hbs, (H3.dropk 0)⟩

theorem drop_ok_1 (b : Nat) (a o : Wy) (ha : a.ok) (R : List (Option Nat × Obj)) (w₀ w : World) (i : Nat) (hi : i < a.fs.length) (f : Fr) (hf : a.fs[i]? = some f) (hl64 : a.fs.length ≤ 64) (H : Hp No w₀ w ((some b, .cells #[.slice (ownA o.key) o.fs.length o.c, .slice (ownA a.key) a.fs.length a.c] 76 (0, 0)) :: (a.key, sob ES 30 (svs a.fs) a.sp) :: (o.key, sob ES 30 (svs o.fs) o.sp) :: (frs 5 a.fs ++ (frs 5 o.fs ++ R)))) : Calls Tryd.prog 16 [.pointer (some ⟨b, 0, none⟩), i64 ((1 : Int)), i64 ((i : Nat))].toArray w (Ret fun v w' => v = .nilIface ∧ ∃ a' : Wy, a'.ok ∧ bss a'.fs = (bss a.fs).eraseIdx i ∧ Hp No w₀ w' ((some b, .cells #[.slice (ownA o.key) o.fs.length o.c, .slice (ownA a'.key) a'.fs.length a'.c] 76 (0, 0)) :: (a'.key, sob ES 30 (svs a'.fs) a'.sp) :: (o.key, sob ES 30 (svs o.fs) o.sp) :: (frs 5 a'.fs ++ (frs 5 o.fs ++ R)))) := by
  skip
  refine enter (n := 17) Tryd.func16 rfl rfl (Nat.le_of_ble_eq_true rfl) ?_
  refine seqRegion ?_
  refine sq (r_assign (v := .nilIface) rfl) ?_
  refine wend ?_
  refine seqRegion ?_
  refine sq (r_move (v := .pointer (some ⟨b, 0, none⟩)) rfl) ?_
  refine sq (r_move (v := i64 ((1 : Int))) rfl) ?_
  refine sq (r_move (v := i64 ((i : Nat))) rfl) ?_
  refine c_call (vs := [.pointer (some ⟨b, 0, none⟩), i64 ((1 : Int)), i64 ((i : Nat))]) call17 rfl (deliver_ok_1 b a o ha R w₀ w i hi f hf hl64 H) ?_
  rintro _ w1 ⟨rfl, a', hok, hbs, HN⟩
  have H3 := HN.as (L' := ((f.key, sob E8 5 f.bs f.sp) :: (some b, .cells #[.slice (ownA o.key) o.fs.length o.c, .slice (ownA a'.key) a'.fs.length a'.c] 76 (0, 0)) :: (a'.key, sob ES 30 (svs a'.fs) a'.sp) :: (o.key, sob ES 30 (svs o.fs) o.sp) :: (frs 5 a'.fs ++ (frs 5 o.fs ++ R)))) rfl
  refine sq (r_move (v := .tuple #[.slice (ownA f.key) f.bs.length f.c, .nilIface]) rfl) ?_
  refine sq (r_extract (vs := #[.slice (ownA f.key) f.bs.length f.c, .nilIface]) rfl rfl) ?_
  refine sq (r_extract (vs := #[.slice (ownA f.key) f.bs.length f.c, .nilIface]) rfl rfl) ?_
  refine sq (r_assign (v := .slice (ownA f.key) f.bs.length f.c) rfl) ?_
  refine sq (r_assign (v := .nilIface) rfl) ?_
  refine wend ?_
  refine seqRegion ?_
  refine sq (r_move (v := .nilIface) rfl) ?_
  refine sq (r_assign (v := .nilIface) rfl) ?_
  refine wend ?_
  refine retAny ?_
  refine retG (rs := [.tmp 6]) (vs := [.nilIface]) rfl ⟨⟨rfl, rfl⟩, trivial⟩ ?_
  exact ⟨_, rfl, rfl, a', hok, hbs, (H3.dropk 0)⟩

theorem drop_miss_0 (b : Nat) (a o : Wy) (w : World) (i : Int) (hG : Gl w) (hb : w.heap[b]? = some (.cells #[.slice (ownA a.key) a.fs.length a.c, .slice (ownA o.key) o.fs.length o.c] 76 (0, 0))) (hi : i < 0 ∨ (a.fs.length : Int) ≤ i) : Calls Tryd.prog 16 [.pointer (some ⟨b, 0, none⟩), i64 ((0 : Int)), i64 (i)].toArray w (Ret fun v w' => (∃ ev, v = ev ∧ Er w.heap.size w' 4 1 ev) ∧ Ext w w') := by
  have H := Hp.start No w
  refine enter (n := 17) Tryd.func16 rfl rfl (Nat.le_of_ble_eq_true rfl) ?_
  refine seqRegion ?_
  refine sq (r_assign (v := .nilIface) rfl) ?_
  refine wend ?_
  refine seqRegion ?_
  refine sq (r_move (v := .pointer (some ⟨b, 0, none⟩)) rfl) ?_
  refine sq (r_move (v := i64 ((0 : Int))) rfl) ?_
  refine sq (r_move (v := i64 (i)) rfl) ?_
  refine c_call (vs := [.pointer (some ⟨b, 0, none⟩), i64 ((0 : Int)), i64 (i)]) call17 rfl (deliver_miss_0 b a o w i (Chg.gl H.chg (fun x => x) hG) (H.keepE hb) hi) ?_
  rintro _ w1 ⟨⟨v3, rfl, hEr4⟩, hE5⟩
  have H6 := H.ext hE5
  obtain ⟨T7, x8, rfl⟩ := hEr4.iface
  refine sq (r_move (v := .tuple #[.slice none 0 0, .iface T7 (x8)]) rfl) ?_
  refine sq (r_extract (vs := #[.slice none 0 0, .iface T7 (x8)]) rfl rfl) ?_
  refine sq (r_extract (vs := #[.slice none 0 0, .iface T7 (x8)]) rfl rfl) ?_
  refine sq (r_assign (v := .slice none 0 0) rfl) ?_
  refine sq (r_assign (v := .iface T7 (x8)) rfl) ?_
  refine wend ?_
  refine seqRegion ?_
  refine sq (r_move (v := .iface T7 (x8)) rfl) ?_
  refine sq (r_assign (v := .iface T7 (x8)) rfl) ?_
  refine wend ?_
  refine retAny ?_
  refine retG (rs := [.tmp 6]) (vs := [.iface T7 (x8)]) rfl ⟨⟨rfl, rfl⟩, trivial⟩ ?_
  exact ⟨_, rfl, ⟨_, rfl, hEr4.mono H.chg.size⟩, H6.chg⟩

theorem drop_miss_1 (b : Nat) (a o : Wy) (w : World) (i : Int) (hG : Gl w) (hb : w.heap[b]? = some (.cells #[.slice (ownA o.key) o.fs.length o.c, .slice (ownA a.key) a.fs.length a.c] 76 (0, 0))) (hi : i < 0 ∨ (a.fs.length : Int) ≤ i) : Calls Tryd.prog 16 [.pointer (some ⟨b, 0, none⟩), i64 ((1 : Int)), i64 (i)].toArray w (Ret fun v w' => (∃ ev, v = ev ∧ Er w.heap.size w' 4 1 ev) ∧ Ext w w') := by
  have H := Hp.start No w
  refine enter (n := 17) Tryd.func16 rfl rfl (Nat.le_of_ble_eq_true rfl) ?_
  refine seqRegion ?_
  refine sq (r_assign (v := .nilIface) rfl) ?_
  refine wend ?_
  refine seqRegion ?_
  refine sq (r_move (v := .pointer (some ⟨b, 0, none⟩)) rfl) ?_
  refine sq (r_move (v := i64 ((1 : Int))) rfl) ?_
  refine sq (r_move (v := i64 (i)) rfl) ?_
  refine c_call (vs := [.pointer (some ⟨b, 0, none⟩), i64 ((1 : Int)), i64 (i)]) call17 rfl (deliver_miss_1 b a o w i (Chg.gl H.chg (fun x => x) hG) (H.keepE hb) hi) ?_
  rintro _ w1 ⟨⟨v3, rfl, hEr4⟩, hE5⟩
  have H6 := H.ext hE5
  obtain ⟨T7, x8, rfl⟩ := hEr4.iface
  refine sq (r_move (v := .tuple #[.slice none 0 0, .iface T7 (x8)]) rfl) ?_
  refine sq (r_extract (vs := #[.slice none 0 0, .iface T7 (x8)]) rfl rfl) ?_
  refine sq (r_extract (vs := #[.slice none 0 0, .iface T7 (x8)]) rfl rfl) ?_
  refine sq (r_assign (v := .slice none 0 0) rfl) ?_
  refine sq (r_assign (v := .iface T7 (x8)) rfl) ?_
  refine wend ?_
  refine seqRegion ?_
  refine sq (r_move (v := .iface T7 (x8)) rfl) ?_
  refine sq (r_assign (v := .iface T7 (x8)) rfl) ?_
  refine wend ?_
  refine retAny ?_
  refine retG (rs := [.tmp 6]) (vs := [.iface T7 (x8)]) rfl ⟨⟨rfl, rfl⟩, trivial⟩ ?_
  exact ⟨_, rfl, ⟨_, rfl, hEr4.mono H.chg.size⟩, H6.chg⟩

theorem drop_range (b : Nat) (way : Int) (h0 : way ≠ 0) (h1 : way ≠ 1) (i : Int) (w : World) (hG : Gl w) : Calls Tryd.prog 16 [.pointer (some ⟨b, 0, none⟩), i64 (way), i64 (i)].toArray w (Ret fun v w' => (∃ ev, v = ev ∧ Er w.heap.size w' 1 1 ev) ∧ Ext w w') := by
  have H := Hp.start No w
  refine enter (n := 17) Tryd.func16 rfl rfl (Nat.le_of_ble_eq_true rfl) ?_
  refine seqRegion ?_
  refine sq (r_assign (v := .nilIface) rfl) ?_
  refine wend ?_
  refine seqRegion ?_
  refine sq (r_move (v := .pointer (some ⟨b, 0, none⟩)) rfl) ?_
  refine sq (r_move (v := i64 (way)) rfl) ?_
  refine sq (r_move (v := i64 (i)) rfl) ?_
  refine c_call (vs := [.pointer (some ⟨b, 0, none⟩), i64 (way), i64 (i)]) call17 rfl (deliver_range b way h0 h1 i w (Chg.gl H.chg (fun x => x) hG)) ?_
  rintro _ w1 ⟨⟨v3, rfl, hEr4⟩, hE5⟩
  have H6 := H.ext hE5
  obtain ⟨T7, x8, rfl⟩ := hEr4.iface
  refine sq (r_move (v := .tuple #[.slice none 0 0, .iface T7 (x8)]) rfl) ?_
  refine sq (r_extract (vs := #[.slice none 0 0, .iface T7 (x8)]) rfl rfl) ?_
  refine sq (r_extract (vs := #[.slice none 0 0, .iface T7 (x8)]) rfl rfl) ?_
  refine sq (r_assign (v := .slice none 0 0) rfl) ?_
  refine sq (r_assign (v := .iface T7 (x8)) rfl) ?_
  refine wend ?_
  refine seqRegion ?_
  refine sq (r_move (v := .iface T7 (x8)) rfl) ?_
  refine sq (r_assign (v := .iface T7 (x8)) rfl) ?_
  refine wend ?_
  refine retAny ?_
  refine retG (rs := [.tmp 6]) (vs := [.iface T7 (x8)]) rfl ⟨⟨rfl, rfl⟩, trivial⟩ ?_
  exact ⟨_, rfl, ⟨_, rfl, hEr4.mono H.chg.size⟩, H6.chg⟩
end Go.Proofs.YtpmmhpgfbfehmaaDoor.Nt
