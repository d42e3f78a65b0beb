/- The walks of the links. -/
import Derived.Test.YtpmmhpgfbfehmaaDoorLink12
namespace Go.Proofs.YtpmmhpgfbfehmaaDoor.Lk
open Go Go.Proofs.YtpmmhpgfbfehmaaDoor.Vc Go.Proofs.YtpmmhpgfbfehmaaDoor.Er
set_option linter.unusedVariables false

set_option maxHeartbeats 1000000 in
theorem sure_1 (xl : List OpQ) (cont : Nat → List (BitVec 8)) (xa : Option Addr) (xc : Nat) (w₀ : World) (hG : Gl w₀) (hSr : Rd EQ w₀ xa xl) (hxl : xl.length ≤ 140737488355328) (hop : ∀ i, i < xl.length → (xl.getD i oq0).bit ≤ 9223372036854775807 ∧ (xl.getD i oq0).fr.n = (cont i).length ∧ Rd E8 w₀ (xl.getD i oq0).fr.a (cont i) ∧ (cont i).length ≤ 140737488355328) (bA bB bE bW bS bC : Nat) (bO z : Nat) (hz3 : z < 360) (hzl : z < xl.length) (u v : En) (G : List (Option Nat × Obj)) (wa wb sa sb ca cb : Tx) (hu : u.ok 5 G) (hv : v.ok 5 G) (hs : Sv z u v wa wb sa sb ca cb) {Q : Exit → Act → World → Prop} (hj : ∀ s ρ w, Keeps ρ [(0, .slice xa xl.length xc), (3, .pointer (some ⟨bE, 0, none⟩)), (4, .pointer (some ⟨bW, 0, none⟩)), (5, .pointer (some ⟨bS, 0, none⟩)), (6, .pointer (some ⟨bC, 0, none⟩)), (7, i64 ((z : Nat)))] → J3 w₀ bA bB bE bW bS bC z s w → c35.wp Tryd.prog Q (Vc.St 289 ρ) w) (hr : ∀ (_ : Unit) ρ w, Keeps ρ [(2, .bool true)] → (∃ L, Hp No w₀ w L) → Q .ret (Vc.St 289 ρ) w) (w : World) (H : Hp No w₀ w ((some bO, .cells #[i64 (((xl).getD z oq0).kd), i64 (((xl).getD z oq0).i), i64 (((xl).getD z oq0).bit), .slice (((xl).getD z oq0).fr.a) ((cont z).length) (((xl).getD z oq0).fr.c)] 51 (0, 0)) :: (some bE, .cells #[.pointer (some ⟨bA, 0, none⟩), .pointer (some ⟨bB, 0, none⟩)] 49 (0, 0)) :: (some bW, .cells #[.slice (ownA wa.key) wa.l.length wa.c, .slice (ownA wb.key) wb.l.length wb.c] 40 (0, 0)) :: (some bS, .cells #[.slice (ownA sa.key) sa.l.length sa.c, .slice (ownA sb.key) sb.l.length sb.c] 40 (0, 0)) :: (some bC, .cells #[.slice (ownA ca.key) ca.l.length ca.c, .slice (ownA cb.key) cb.l.length cb.c] 40 (0, 0)) :: (wa.key, sob ET 9 wa.l wa.sp) :: (wb.key, sob ET 9 wb.l wb.sp) :: (sa.key, sob ET 9 sa.l sa.sp) :: (sb.key, sob ET 9 sb.l sb.sp) :: (ca.key, sob ET 9 ca.l ca.sp) :: (cb.key, sob ET 9 cb.l cb.sp) :: (endR 30 53 89 bA u ++ (endR 30 53 89 bB v ++ G)))) : ∀ ρ, c10.wp Tryd.prog Q (Vc.St 289 (setAll ρ [(0, .slice xa xl.length xc), (3, .pointer (some ⟨bE, 0, none⟩)), (4, .pointer (some ⟨bW, 0, none⟩)), (5, .pointer (some ⟨bS, 0, none⟩)), (6, .pointer (some ⟨bC, 0, none⟩)), (7, i64 ((z : Nat))), (8, .pointer (some ⟨bO, 0, none⟩)), (9, i64 ((1 : Nat)))])) w := by
  have hwl := hs.hb.wl
  have hsl := hs.hb.sl
  have hol := hs.hb.ol
  have howl := hs.ha.wl
  intro ρ
  refine seqRegion ?_
  refine sq (r_assign (v := i64 ((-1 : Int))) rfl) ?_
  refine wend ?_
  refine seqJoin (σ := Int) (fun at_ => [(0, .slice xa xl.length xc), (3, .pointer (some ⟨bE, 0, none⟩)), (4, .pointer (some ⟨bW, 0, none⟩)), (5, .pointer (some ⟨bS, 0, none⟩)), (6, .pointer (some ⟨bC, 0, none⟩)), (7, i64 ((z : Nat))), (8, .pointer (some ⟨bO, 0, none⟩)), (9, i64 ((1 : Nat))), (10, i64 (at_))]) (fun at_ w' => (-1 ≤ at_ ∧ at_ < (wb.l.length : Int)) ∧ Hp No w₀ w' ((some bO, .cells #[i64 (((xl).getD z oq0).kd), i64 (((xl).getD z oq0).i), i64 (((xl).getD z oq0).bit), .slice (((xl).getD z oq0).fr.a) ((cont z).length) (((xl).getD z oq0).fr.c)] 51 (0, 0)) :: (some bE, .cells #[.pointer (some ⟨bA, 0, none⟩), .pointer (some ⟨bB, 0, none⟩)] 49 (0, 0)) :: (some bW, .cells #[.slice (ownA wa.key) wa.l.length wa.c, .slice (ownA wb.key) wb.l.length wb.c] 40 (0, 0)) :: (some bS, .cells #[.slice (ownA sa.key) sa.l.length sa.c, .slice (ownA sb.key) sb.l.length sb.c] 40 (0, 0)) :: (some bC, .cells #[.slice (ownA ca.key) ca.l.length ca.c, .slice (ownA cb.key) cb.l.length cb.c] 40 (0, 0)) :: (wa.key, sob ET 9 wa.l wa.sp) :: (wb.key, sob ET 9 wb.l wb.sp) :: (sa.key, sob ET 9 sa.l sa.sp) :: (sb.key, sob ET 9 sb.l sb.sp) :: (ca.key, sob ET 9 ca.l ca.sp) :: (cb.key, sob ET 9 cb.l cb.sp) :: (endR 30 53 89 bA u ++ (endR 30 53 89 bB v ++ G)))) ?_ (fun hj1 => ?_)
  · skip
    rintro at_ ρ w2 ⟨⟨ha1, ha2⟩, H3⟩
    refine seqAny ?_
    refine blockAny ?_
    refine seqRegion ?_
    refine sq (r_fieldAddr (off' := 0) fld51_0 (by decide) (b := bO) (off := 0) rfl (by omega)) ?_
    refine sq (r_loadC (v := i64 (((xl).getD z oq0).kd)) one3 (H3.get (k := 0) rfl) (off := 0) rfl (by rfl)) ?_
    refine sq (r_eqlI (a := ((xl).getD z oq0).kd) (b := (1 : Int)) rfl rfl) ?_
    refine sq (r_assign (v := .bool (decide ((((xl).getD z oq0).kd : Int) = (1 : Int)))) rfl) ?_
    refine wend ?_
    refine condProp ((((xl).getD z oq0).kd : Int) = (1 : Int)) rfl (fun c93 => ?_) (fun c93 => ?_)
    · skip
      by_cases hgo : (isDead v.err = false ∧ (cont z).length ≤ 1048576 ∧ v.q.fs.length < 64)
      · skip
        refine seqAny ?_
        by_cases hgo : (isDead v.err = false ∧ (cont z).length ≤ 1048576 ∧ v.q.fs.length < 64)
        · skip
          refine drawC (m := 9) [0, 1, 3, 0, 0, 16, 56, 127, 255] [3, 6, 7] (fun q vs w' => match q, vs with | 0, [] => Hp No w₀ w' ((some bO, .cells #[i64 (((xl).getD z oq0).kd), i64 (((xl).getD z oq0).i), i64 (((xl).getD z oq0).bit), .slice (((xl).getD z oq0).fr.a) ((cont z).length) (((xl).getD z oq0).fr.c)] 51 (0, 0)) :: (some bE, .cells #[.pointer (some ⟨bA, 0, none⟩), .pointer (some ⟨bB, 0, none⟩)] 49 (0, 0)) :: (some bW, .cells #[.slice (ownA wa.key) wa.l.length wa.c, .slice (ownA wb.key) wb.l.length wb.c] 40 (0, 0)) :: (some bS, .cells #[.slice (ownA sa.key) sa.l.length sa.c, .slice (ownA sb.key) sb.l.length sb.c] 40 (0, 0)) :: (some bC, .cells #[.slice (ownA ca.key) ca.l.length ca.c, .slice (ownA cb.key) cb.l.length cb.c] 40 (0, 0)) :: (wa.key, sob ET 9 wa.l wa.sp) :: (wb.key, sob ET 9 wb.l wb.sp) :: (sa.key, sob ET 9 sa.l sa.sp) :: (sb.key, sob ET 9 sb.l sb.sp) :: (ca.key, sob ET 9 ca.l ca.sp) :: (cb.key, sob ET 9 cb.l cb.sp) :: (endR 30 53 89 bA u ++ (endR 30 53 89 bB v ++ G))) | 1, [v0] => ∃ (b7 : Nat), v0 = .slice (ownA (some b7)) 0 0 ∧ Sl E8 (some b7) ([]) 0 ([]) ∧ Hp No w₀ w' (((some b7), sob E8 5 ([]) ([])) :: (some bO, .cells #[i64 (((xl).getD z oq0).kd), i64 (((xl).getD z oq0).i), i64 (((xl).getD z oq0).bit), .slice (((xl).getD z oq0).fr.a) ((cont z).length) (((xl).getD z oq0).fr.c)] 51 (0, 0)) :: (some bE, .cells #[.pointer (some ⟨bA, 0, none⟩), .pointer (some ⟨bB, 0, none⟩)] 49 (0, 0)) :: (some bW, .cells #[.slice (ownA wa.key) wa.l.length wa.c, .slice (ownA wb.key) wb.l.length wb.c] 40 (0, 0)) :: (some bS, .cells #[.slice (ownA sa.key) sa.l.length sa.c, .slice (ownA sb.key) sb.l.length sb.c] 40 (0, 0)) :: (some bC, .cells #[.slice (ownA ca.key) ca.l.length ca.c, .slice (ownA cb.key) cb.l.length cb.c] 40 (0, 0)) :: (wa.key, sob ET 9 wa.l wa.sp) :: (wb.key, sob ET 9 wb.l wb.sp) :: (sa.key, sob ET 9 sa.l sa.sp) :: (sb.key, sob ET 9 sb.l sb.sp) :: (ca.key, sob ET 9 ca.l ca.sp) :: (cb.key, sob ET 9 cb.l cb.sp) :: (endR 30 53 89 bA u ++ (endR 30 53 89 bB v ++ G))) | 2, [v0, v1] => ∃ (b7 : Nat) (key15 : Option Nat) (c16 : Nat) (sp17 : List Value), v0 = .slice (ownA (some b7)) 0 0 ∧ v1 = .slice (ownA key15) (0 + ((cont z).length)) c16 ∧ Sl E8 key15 (cont z) c16 sp17 ∧ Hp No w₀ w' ((key15, sob E8 5 (cont z) sp17) :: (some bO, .cells #[i64 (((xl).getD z oq0).kd), i64 (((xl).getD z oq0).i), i64 (((xl).getD z oq0).bit), .slice (((xl).getD z oq0).fr.a) ((cont z).length) (((xl).getD z oq0).fr.c)] 51 (0, 0)) :: (some bE, .cells #[.pointer (some ⟨bA, 0, none⟩), .pointer (some ⟨bB, 0, none⟩)] 49 (0, 0)) :: (some bW, .cells #[.slice (ownA wa.key) wa.l.length wa.c, .slice (ownA wb.key) wb.l.length wb.c] 40 (0, 0)) :: (some bS, .cells #[.slice (ownA sa.key) sa.l.length sa.c, .slice (ownA sb.key) sb.l.length sb.c] 40 (0, 0)) :: (some bC, .cells #[.slice (ownA ca.key) ca.l.length ca.c, .slice (ownA cb.key) cb.l.length cb.c] 40 (0, 0)) :: (wa.key, sob ET 9 wa.l wa.sp) :: (wb.key, sob ET 9 wb.l wb.sp) :: (sa.key, sob ET 9 sa.l sa.sp) :: (sb.key, sob ET 9 sb.l sb.sp) :: (ca.key, sob ET 9 ca.l ca.sp) :: (cb.key, sob ET 9 cb.l cb.sp) :: (endR 30 53 89 bA u ++ (endR 30 53 89 bB v ++ G))) | 3, [v0, v1, v2] => ∃ (b7 : Nat) (key15 : Option Nat) (c16 : Nat) (sp17 : List Value) (e31 : En) (F37 : List (Option Nat × Obj)), v0 = .slice (ownA (some b7)) 0 0 ∧ v1 = .slice (ownA key15) (0 + ((cont z).length)) c16 ∧ v2 = .nilIface ∧ Sl E8 key15 (cont z) c16 sp17 ∧ e31.ok 5 F37 ∧ (∀ x ∈ G, x ∈ F37) ∧ u.ok 5 F37 ∧ abs e31 = sendS (abs v) (cont z) ∧ Hp No w₀ w' ((key15, sob E8 5 (cont z) sp17) :: (some bO, .cells #[i64 (((xl).getD z oq0).kd), i64 (((xl).getD z oq0).i), i64 (((xl).getD z oq0).bit), .slice (((xl).getD z oq0).fr.a) ((cont z).length) (((xl).getD z oq0).fr.c)] 51 (0, 0)) :: (some bE, .cells #[.pointer (some ⟨bA, 0, none⟩), .pointer (some ⟨bB, 0, none⟩)] 49 (0, 0)) :: (some bW, .cells #[.slice (ownA wa.key) wa.l.length wa.c, .slice (ownA wb.key) wb.l.length wb.c] 40 (0, 0)) :: (some bS, .cells #[.slice (ownA sa.key) sa.l.length sa.c, .slice (ownA sb.key) sb.l.length sb.c] 40 (0, 0)) :: (some bC, .cells #[.slice (ownA ca.key) ca.l.length ca.c, .slice (ownA cb.key) cb.l.length cb.c] 40 (0, 0)) :: (wa.key, sob ET 9 wa.l wa.sp) :: (wb.key, sob ET 9 wb.l wb.sp) :: (sa.key, sob ET 9 sa.l sa.sp) :: (sb.key, sob ET 9 sb.l sb.sp) :: (ca.key, sob ET 9 ca.l ca.sp) :: (cb.key, sob ET 9 cb.l cb.sp) :: (endR 30 53 89 bA u ++ (endR 30 53 89 bB e31 ++ F37))) | _, _ => False) mixed (by kernel_rfl) (by kernel_rfl) H3.drew ?_
          refine WalkC.look rfl (fun _ => i64 ((1 : Nat))) (fun _ _ _ => rfl) (fun q r uw _ _ _ _ => Gives.run rfl (r_move (v := i64 ((1 : Nat))) rfl) ⟨rfl, rfl⟩) ?_
          refine WalkC.look rfl (fun _ => .pointer (some ⟨bE, 1, none⟩)) (fun _ _ _ => rfl) (fun q r uw _ _ _ _ => Gives.run rfl (r_indexA (off' := 1) (j := 1) arr49 (b := bE) (off := 0) rfl rfl (by first | rfl | omega | (simp; omega)) (by omega) (by omega)) ⟨rfl, rfl⟩) ?_
          refine WalkC.look rfl (fun _ => .pointer (some ⟨bB, 0, none⟩)) (fun _ _ _ => rfl) (fun q r uw hlo hhi hle hF => ?_) ?_
          · skip
            have h1 : 0 ≤ q := Nat.zero_le _
            have h2 : q ≤ 2 := hhi 2 7 rfl rfl
            rcases (show q = 0 ∨ q = 1 ∨ q = 2 by omega) with rfl | rfl | rfl
            · skip
              have HH := hF
              exact Gives.run rfl (r_loadC (v := .pointer (some ⟨bB, 0, none⟩)) one47 (HH.get (k := 1) rfl) (off := 1) rfl (by rfl)) ⟨rfl, rfl⟩
            · skip
              obtain ⟨b7, e3, hS8, HH⟩ := hF
              exact Gives.run rfl (r_loadC (v := .pointer (some ⟨bB, 0, none⟩)) one47 (HH.get (k := 2) rfl) (off := 1) rfl (by rfl)) ⟨rfl, rfl⟩
            · skip
              obtain ⟨b7, key15, c16, sp17, e3, e6, hS23, HH⟩ := hF
              exact Gives.run rfl (r_loadC (v := .pointer (some ⟨bB, 0, none⟩)) one47 (HH.get (k := 2) rfl) (off := 1) rfl (by rfl)) ⟨rfl, rfl⟩
          refine WalkC.eff 0 rfl (fun r uw4 hF6 => ?_) ?_
          · skip
            have H5 := hF6
            dsimp only [List.take, List.map, List.cons_append, List.nil_append]
            refine Gives.ofW (d := 100) rfl rfl (fun Q' hK => ?_)
            refine q_buildSlice (E := E8) (l := []) H5 sli30 zer5 (Nat.le_of_ble_eq_true rfl) (ps := []) rfl (by exact fillAll rfl rfl) rfl ?_
            intro b7 w9 hS8 H10 hE11
            exact hK _ _ ⟨b7, rfl, hS8, H10⟩
          refine WalkC.look rfl (fun _ => .pointer (some ⟨bO, 3, none⟩)) (fun _ _ _ => rfl) (fun q r uw _ _ _ _ => Gives.run rfl (r_fieldAddr (off' := 3) fld51_3 (by decide) (b := bO) (off := 0) rfl (by omega)) ⟨rfl, rfl⟩) ?_
          refine WalkC.look rfl (fun _ => .slice (((xl).getD z oq0).fr.a) ((cont z).length) (((xl).getD z oq0).fr.c)) (fun _ _ _ => rfl) (fun q r uw hlo hhi hle hF => ?_) ?_
          · skip
            have h1 : 0 ≤ q := Nat.zero_le _
            have h2 : q ≤ 1 := hhi 1 6 rfl rfl
            rcases (show q = 0 ∨ q = 1 by omega) with rfl | rfl
            · skip
              have HH := hF
              exact Gives.run rfl (r_loadC (v := .slice (((xl).getD z oq0).fr.a) ((cont z).length) (((xl).getD z oq0).fr.c)) one30 (HH.get (k := 0) rfl) (off := 3) rfl (by rfl)) ⟨rfl, rfl⟩
            · skip
              obtain ⟨b7, e3, hS8, HH⟩ := hF
              exact Gives.run rfl (r_loadC (v := .slice (((xl).getD z oq0).fr.a) ((cont z).length) (((xl).getD z oq0).fr.c)) one30 (HH.get (k := 1) rfl) (off := 3) rfl (by rfl)) ⟨rfl, rfl⟩
          refine WalkC.eff 1 rfl (fun r uw12 hF14 => ?_) ?_
          · skip
            obtain ⟨b7, e3, hS8, H13⟩ := hF14
            dsimp only [List.take, List.map, List.cons_append, List.nil_append]
            rw [e3]
            refine Gives.ofW (d := 103) rfl rfl (fun Q' hK => ?_)
            refine q_append (E := E8) (k := 0) (l := []) (l2 := cont z) H13 rfl hS8 sli30 zer5 rfl byt5 ((hop z (by omega)).2.2.1.ext H13.chg) rfl (by rfl) rfl (by rfl) (by have := (hop z (by omega)).2.2.2; omega) ?_
            intro key15 c16 sp17 w19 hS18 hne21 H20
            have H20' := H20.as (L' := ((key15, sob E8 5 (([]) ++ (cont z)) sp17) :: (some bO, .cells #[i64 (((xl).getD z oq0).kd), i64 (((xl).getD z oq0).i), i64 (((xl).getD z oq0).bit), .slice (((xl).getD z oq0).fr.a) ((cont z).length) (((xl).getD z oq0).fr.c)] 51 (0, 0)) :: (some bE, .cells #[.pointer (some ⟨bA, 0, none⟩), .pointer (some ⟨bB, 0, none⟩)] 49 (0, 0)) :: (some bW, .cells #[.slice (ownA wa.key) wa.l.length wa.c, .slice (ownA wb.key) wb.l.length wb.c] 40 (0, 0)) :: (some bS, .cells #[.slice (ownA sa.key) sa.l.length sa.c, .slice (ownA sb.key) sb.l.length sb.c] 40 (0, 0)) :: (some bC, .cells #[.slice (ownA ca.key) ca.l.length ca.c, .slice (ownA cb.key) cb.l.length cb.c] 40 (0, 0)) :: (wa.key, sob ET 9 wa.l wa.sp) :: (wb.key, sob ET 9 wb.l wb.sp) :: (sa.key, sob ET 9 sa.l sa.sp) :: (sb.key, sob ET 9 sb.l sb.sp) :: (ca.key, sob ET 9 ca.l ca.sp) :: (cb.key, sob ET 9 cb.l cb.sp) :: (endR 30 53 89 bA u ++ (endR 30 53 89 bB v ++ G)))) rfl
            clear H20
            have e22 : ([]) ++ (cont z) = cont z := by rw [List.nil_append]
            have hS23 := hS18
            rw [e22] at hS23
            have H24 := H20'.as (L' := ((key15, sob E8 5 (cont z) sp17) :: (some bO, .cells #[i64 (((xl).getD z oq0).kd), i64 (((xl).getD z oq0).i), i64 (((xl).getD z oq0).bit), .slice (((xl).getD z oq0).fr.a) ((cont z).length) (((xl).getD z oq0).fr.c)] 51 (0, 0)) :: (some bE, .cells #[.pointer (some ⟨bA, 0, none⟩), .pointer (some ⟨bB, 0, none⟩)] 49 (0, 0)) :: (some bW, .cells #[.slice (ownA wa.key) wa.l.length wa.c, .slice (ownA wb.key) wb.l.length wb.c] 40 (0, 0)) :: (some bS, .cells #[.slice (ownA sa.key) sa.l.length sa.c, .slice (ownA sb.key) sb.l.length sb.c] 40 (0, 0)) :: (some bC, .cells #[.slice (ownA ca.key) ca.l.length ca.c, .slice (ownA cb.key) cb.l.length cb.c] 40 (0, 0)) :: (wa.key, sob ET 9 wa.l wa.sp) :: (wb.key, sob ET 9 wb.l wb.sp) :: (sa.key, sob ET 9 sa.l sa.sp) :: (sb.key, sob ET 9 sb.l sb.sp) :: (ca.key, sob ET 9 ca.l ca.sp) :: (cb.key, sob ET 9 cb.l cb.sp) :: (endR 30 53 89 bA u ++ (endR 30 53 89 bB v ++ G)))) (by rw [e22])
            exact hK _ _ ⟨b7, key15, c16, sp17, rfl, rfl, hS23, H24⟩
          refine WalkC.eff 2 rfl (fun r uw25 hF27 => ?_) ?_
          · skip
            obtain ⟨b7, key15, c16, sp17, e3, e6, hS23, H26⟩ := hF27
            dsimp only [List.take, List.map, List.cons_append, List.nil_append]
            rw [e3, e6]
            refine Gives.ofW (d := 104) rfl rfl (fun Q' hK => ?_)
            have H28 := Hp.midB (R := [(key15, sob E8 5 (cont z) sp17), (some bO, .cells #[i64 (((xl).getD z oq0).kd), i64 (((xl).getD z oq0).i), i64 (((xl).getD z oq0).bit), .slice (((xl).getD z oq0).fr.a) ((cont z).length) (((xl).getD z oq0).fr.c)] 51 (0, 0)), (some bE, .cells #[.pointer (some ⟨bA, 0, none⟩), .pointer (some ⟨bB, 0, none⟩)] 49 (0, 0)), (some bW, .cells #[.slice (ownA wa.key) wa.l.length wa.c, .slice (ownA wb.key) wb.l.length wb.c] 40 (0, 0)), (some bS, .cells #[.slice (ownA sa.key) sa.l.length sa.c, .slice (ownA sb.key) sb.l.length sb.c] 40 (0, 0)), (some bC, .cells #[.slice (ownA ca.key) ca.l.length ca.c, .slice (ownA cb.key) cb.l.length cb.c] 40 (0, 0)), (wa.key, sob ET 9 wa.l wa.sp), (wb.key, sob ET 9 wb.l wb.sp), (sa.key, sob ET 9 sa.l sa.sp), (sb.key, sob ET 9 sb.l sb.sp), (ca.key, sob ET 9 ca.l ca.sp), (cb.key, sob ET 9 cb.l cb.sp)]) (A := endR 30 53 89 bA u) (B := endR 30 53 89 bB v) (F := G) H26
            refine c_call (vs := [.pointer (some ⟨bB, 0, none⟩), .slice (ownA key15) (0 + ((cont z).length)) c16]) call25 rfl (send_ok bB v G ([(key15, sob E8 5 (cont z) sp17), (some bO, .cells #[i64 (((xl).getD z oq0).kd), i64 (((xl).getD z oq0).i), i64 (((xl).getD z oq0).bit), .slice (((xl).getD z oq0).fr.a) ((cont z).length) (((xl).getD z oq0).fr.c)] 51 (0, 0)), (some bE, .cells #[.pointer (some ⟨bA, 0, none⟩), .pointer (some ⟨bB, 0, none⟩)] 49 (0, 0)), (some bW, .cells #[.slice (ownA wa.key) wa.l.length wa.c, .slice (ownA wb.key) wb.l.length wb.c] 40 (0, 0)), (some bS, .cells #[.slice (ownA sa.key) sa.l.length sa.c, .slice (ownA sb.key) sb.l.length sb.c] 40 (0, 0)), (some bC, .cells #[.slice (ownA ca.key) ca.l.length ca.c, .slice (ownA cb.key) cb.l.length cb.c] 40 (0, 0)), (wa.key, sob ET 9 wa.l wa.sp), (wb.key, sob ET 9 wb.l wb.sp), (sa.key, sob ET 9 sa.l sa.sp), (sb.key, sob ET 9 sb.l sb.sp), (ca.key, sob ET 9 ca.l ca.sp), (cb.key, sob ET 9 cb.l cb.sp)] ++ (endR 30 53 89 bA u ++ G)) hv (fun x h => List.mem_append_right _ (List.mem_append_right _ h)) w₀ uw25 H28 hgo.1 (cont z) (ownA key15) (0 + ((cont z).length)) c16 (by rw [Nat.zero_add]) (H26.rd (k := 0) rfl hS23) hgo.2.1 hgo.2.2) ?_
            rintro _ w29 ⟨rfl, e31, X32, HN33, hok34, hab35⟩
            have H36 := Hp.backB (R := [(key15, sob E8 5 (cont z) sp17), (some bO, .cells #[i64 (((xl).getD z oq0).kd), i64 (((xl).getD z oq0).i), i64 (((xl).getD z oq0).bit), .slice (((xl).getD z oq0).fr.a) ((cont z).length) (((xl).getD z oq0).fr.c)] 51 (0, 0)), (some bE, .cells #[.pointer (some ⟨bA, 0, none⟩), .pointer (some ⟨bB, 0, none⟩)] 49 (0, 0)), (some bW, .cells #[.slice (ownA wa.key) wa.l.length wa.c, .slice (ownA wb.key) wb.l.length wb.c] 40 (0, 0)), (some bS, .cells #[.slice (ownA sa.key) sa.l.length sa.c, .slice (ownA sb.key) sb.l.length sb.c] 40 (0, 0)), (some bC, .cells #[.slice (ownA ca.key) ca.l.length ca.c, .slice (ownA cb.key) cb.l.length cb.c] 40 (0, 0)), (wa.key, sob ET 9 wa.l wa.sp), (wb.key, sob ET 9 wb.l wb.sp), (sa.key, sob ET 9 sa.l sa.sp), (sb.key, sob ET 9 sb.l sb.sp), (ca.key, sob ET 9 ca.l ca.sp), (cb.key, sob ET 9 cb.l cb.sp)]) (A := endR 30 53 89 bA u) (B := endR 30 53 89 bB e31) (X := X32) (F := G) HN33
            obtain ⟨F37, hF38⟩ : ∃ F2, F2 = X32 ++ G := ⟨_, rfl⟩
            rw [← hF38] at H36 hok34
            have hsub39 : ∀ x ∈ G, x ∈ F37 := fun x h => by rw [hF38]; exact List.mem_append_right _ h
            have ok41 := hu.mono hsub39
            have H40 := H36.as (L' := ((key15, sob E8 5 (cont z) sp17) :: (some bO, .cells #[i64 (((xl).getD z oq0).kd), i64 (((xl).getD z oq0).i), i64 (((xl).getD z oq0).bit), .slice (((xl).getD z oq0).fr.a) ((cont z).length) (((xl).getD z oq0).fr.c)] 51 (0, 0)) :: (some bE, .cells #[.pointer (some ⟨bA, 0, none⟩), .pointer (some ⟨bB, 0, none⟩)] 49 (0, 0)) :: (some bW, .cells #[.slice (ownA wa.key) wa.l.length wa.c, .slice (ownA wb.key) wb.l.length wb.c] 40 (0, 0)) :: (some bS, .cells #[.slice (ownA sa.key) sa.l.length sa.c, .slice (ownA sb.key) sb.l.length sb.c] 40 (0, 0)) :: (some bC, .cells #[.slice (ownA ca.key) ca.l.length ca.c, .slice (ownA cb.key) cb.l.length cb.c] 40 (0, 0)) :: (wa.key, sob ET 9 wa.l wa.sp) :: (wb.key, sob ET 9 wb.l wb.sp) :: (sa.key, sob ET 9 sa.l sa.sp) :: (sb.key, sob ET 9 sb.l sb.sp) :: (ca.key, sob ET 9 ca.l ca.sp) :: (cb.key, sob ET 9 cb.l cb.sp) :: (endR 30 53 89 bA u ++ (endR 30 53 89 bB e31 ++ F37)))) rfl
            exact hK _ _ ⟨b7, key15, c16, sp17, e31, F37, rfl, rfl, rfl, hS23, hok34, hsub39, ok41, hab35, H40⟩
          refine WalkC.look rfl (fun _ => .bool (true)) (fun _ _ _ => rfl) (fun q r uw hlo hhi hle hF => ?_) ?_
          · skip
            have h1 : 3 ≤ q := hlo 2 7 rfl rfl
            have h2 : q ≤ 3 := hle
            rcases (show q = 3 by omega) with rfl
            · skip
              obtain ⟨b7, key15, c16, sp17, e31, F37, e3, e6, e7, hS23, hok34, hsub39, ok41, hab35, HH⟩ := hF
              dsimp only
              rw [e7]
              exact Gives.run rfl (r_eqlNN isI28 rfl rfl) ⟨rfl, rfl⟩
          refine WalkC.nil ?_
          intro r42 w43 hF45
          obtain ⟨b7, key15, c16, sp17, e31, F37, e3, e6, e7, hS23, hok34, hsub39, ok41, hab35, H44⟩ := hF45
          dsimp only
          rw [e3, e6, e7]
          refine wnil ?_
          refine thenNormal ?_
          refine condTrue rfl ?_
          refine drawC (m := 11) [0, 0, 2, 6, 0, 16, 48, 112, 254, 511, 1023] [7, 8, 10] (fun q vs w' => match q, vs with | 0, [] => Hp No w₀ w' ((key15, sob E8 5 (cont z) sp17) :: (some bO, .cells #[i64 (((xl).getD z oq0).kd), i64 (((xl).getD z oq0).i), i64 (((xl).getD z oq0).bit), .slice (((xl).getD z oq0).fr.a) ((cont z).length) (((xl).getD z oq0).fr.c)] 51 (0, 0)) :: (some bE, .cells #[.pointer (some ⟨bA, 0, none⟩), .pointer (some ⟨bB, 0, none⟩)] 49 (0, 0)) :: (some bW, .cells #[.slice (ownA wa.key) wa.l.length wa.c, .slice (ownA wb.key) wb.l.length wb.c] 40 (0, 0)) :: (some bS, .cells #[.slice (ownA sa.key) sa.l.length sa.c, .slice (ownA sb.key) sb.l.length sb.c] 40 (0, 0)) :: (some bC, .cells #[.slice (ownA ca.key) ca.l.length ca.c, .slice (ownA cb.key) cb.l.length cb.c] 40 (0, 0)) :: (wa.key, sob ET 9 wa.l wa.sp) :: (wb.key, sob ET 9 wb.l wb.sp) :: (sa.key, sob ET 9 sa.l sa.sp) :: (sb.key, sob ET 9 sb.l sb.sp) :: (ca.key, sob ET 9 ca.l ca.sp) :: (cb.key, sob ET 9 cb.l cb.sp) :: (endR 30 53 89 bA u ++ (endR 30 53 89 bB e31 ++ F37))) | 1, [v0] => ∃ (b49 : Nat), v0 = .slice (ownA (some b49)) 1 1 ∧ Sl ET (some b49) ([cont z] : List (List (BitVec 8))) 1 ([]) ∧ Hp No w₀ w' (((some b49), sob ET 9 ([cont z] : List (List (BitVec 8))) ([])) :: (key15, sob E8 5 (cont z) sp17) :: (some bO, .cells #[i64 (((xl).getD z oq0).kd), i64 (((xl).getD z oq0).i), i64 (((xl).getD z oq0).bit), .slice (((xl).getD z oq0).fr.a) ((cont z).length) (((xl).getD z oq0).fr.c)] 51 (0, 0)) :: (some bE, .cells #[.pointer (some ⟨bA, 0, none⟩), .pointer (some ⟨bB, 0, none⟩)] 49 (0, 0)) :: (some bW, .cells #[.slice (ownA wa.key) wa.l.length wa.c, .slice (ownA wb.key) wb.l.length wb.c] 40 (0, 0)) :: (some bS, .cells #[.slice (ownA sa.key) sa.l.length sa.c, .slice (ownA sb.key) sb.l.length sb.c] 40 (0, 0)) :: (some bC, .cells #[.slice (ownA ca.key) ca.l.length ca.c, .slice (ownA cb.key) cb.l.length cb.c] 40 (0, 0)) :: (wa.key, sob ET 9 wa.l wa.sp) :: (wb.key, sob ET 9 wb.l wb.sp) :: (sa.key, sob ET 9 sa.l sa.sp) :: (sb.key, sob ET 9 sb.l sb.sp) :: (ca.key, sob ET 9 ca.l ca.sp) :: (cb.key, sob ET 9 cb.l cb.sp) :: (endR 30 53 89 bA u ++ (endR 30 53 89 bB e31 ++ F37))) | 2, [v0, v1] => ∃ (b49 : Nat) (key57 : Option Nat) (c58 : Nat) (sp59 : List Value), v0 = .slice (ownA (some b49)) 1 1 ∧ v1 = .slice (ownA key57) (sb.l.length + 1) c58 ∧ Sl ET (some b49) ([cont z] : List (List (BitVec 8))) 1 ([]) ∧ Sl ET key57 (sb.l ++ ([cont z] : List (List (BitVec 8)))) c58 sp59 ∧ Hp No w₀ w' (((some b49), sob ET 9 ([cont z] : List (List (BitVec 8))) ([])) :: (key15, sob E8 5 (cont z) sp17) :: (some bO, .cells #[i64 (((xl).getD z oq0).kd), i64 (((xl).getD z oq0).i), i64 (((xl).getD z oq0).bit), .slice (((xl).getD z oq0).fr.a) ((cont z).length) (((xl).getD z oq0).fr.c)] 51 (0, 0)) :: (some bE, .cells #[.pointer (some ⟨bA, 0, none⟩), .pointer (some ⟨bB, 0, none⟩)] 49 (0, 0)) :: (some bW, .cells #[.slice (ownA wa.key) wa.l.length wa.c, .slice (ownA wb.key) wb.l.length wb.c] 40 (0, 0)) :: (some bS, .cells #[.slice (ownA sa.key) sa.l.length sa.c, .slice (ownA sb.key) sb.l.length sb.c] 40 (0, 0)) :: (some bC, .cells #[.slice (ownA ca.key) ca.l.length ca.c, .slice (ownA cb.key) cb.l.length cb.c] 40 (0, 0)) :: (wa.key, sob ET 9 wa.l wa.sp) :: (wb.key, sob ET 9 wb.l wb.sp) :: (sa.key, sob ET 9 sa.l sa.sp) :: (key57, sob ET 9 (sb.l ++ ([cont z] : List (List (BitVec 8)))) sp59) :: (ca.key, sob ET 9 ca.l ca.sp) :: (cb.key, sob ET 9 cb.l cb.sp) :: (endR 30 53 89 bA u ++ (endR 30 53 89 bB e31 ++ F37))) | 3, [v0, v1, _] => ∃ (b49 : Nat) (key57 : Option Nat) (c58 : Nat) (sp59 : List Value), v0 = .slice (ownA (some b49)) 1 1 ∧ v1 = .slice (ownA key57) (sb.l.length + 1) c58 ∧ True ∧ Sl ET (some b49) ([cont z] : List (List (BitVec 8))) 1 ([]) ∧ Sl ET key57 (sb.l ++ ([cont z] : List (List (BitVec 8)))) c58 sp59 ∧ Hp No w₀ w' (((some b49), sob ET 9 ([cont z] : List (List (BitVec 8))) ([])) :: (key15, sob E8 5 (cont z) sp17) :: (some bO, .cells #[i64 (((xl).getD z oq0).kd), i64 (((xl).getD z oq0).i), i64 (((xl).getD z oq0).bit), .slice (((xl).getD z oq0).fr.a) ((cont z).length) (((xl).getD z oq0).fr.c)] 51 (0, 0)) :: (some bE, .cells #[.pointer (some ⟨bA, 0, none⟩), .pointer (some ⟨bB, 0, none⟩)] 49 (0, 0)) :: (some bW, .cells #[.slice (ownA wa.key) wa.l.length wa.c, .slice (ownA wb.key) wb.l.length wb.c] 40 (0, 0)) :: (some bS, .cells #[.slice (ownA sa.key) sa.l.length sa.c, .slice (ownA key57) (sb.l.length + 1) c58] 40 (0, 0)) :: (some bC, .cells #[.slice (ownA ca.key) ca.l.length ca.c, .slice (ownA cb.key) cb.l.length cb.c] 40 (0, 0)) :: (wa.key, sob ET 9 wa.l wa.sp) :: (wb.key, sob ET 9 wb.l wb.sp) :: (sa.key, sob ET 9 sa.l sa.sp) :: (key57, sob ET 9 (sb.l ++ ([cont z] : List (List (BitVec 8)))) sp59) :: (ca.key, sob ET 9 ca.l ca.sp) :: (cb.key, sob ET 9 cb.l cb.sp) :: (endR 30 53 89 bA u ++ (endR 30 53 89 bB e31 ++ F37))) | _, _ => False) mixed (by kernel_rfl) (by kernel_rfl) H44.drew ?_
          refine WalkC.look rfl (fun _ => i64 ((1 : Nat))) (fun _ _ _ => rfl) (fun q r uw _ _ _ _ => Gives.run rfl (r_move (v := i64 ((1 : Nat))) rfl) ⟨rfl, rfl⟩) ?_
          refine WalkC.look rfl (fun _ => i64 ((1 : Nat))) (fun _ _ _ => rfl) (fun q r uw _ _ _ _ => Gives.run rfl (r_move (v := i64 ((1 : Nat))) rfl) ⟨rfl, rfl⟩) ?_
          refine WalkC.look rfl (fun _ => .pointer (some ⟨bS, 1, none⟩)) (fun _ _ _ => rfl) (fun q r uw _ _ _ _ => Gives.run rfl (r_indexA (off' := 1) (j := 1) arr40 (b := bS) (off := 0) rfl rfl (by first | rfl | omega | (simp; omega)) (by omega) (by omega)) ⟨rfl, rfl⟩) ?_
          refine WalkC.look rfl (fun _ => .slice (ownA sb.key) sb.l.length sb.c) (fun _ _ _ => rfl) (fun q r uw hlo hhi hle hF => ?_) ?_
          · skip
            have h1 : 0 ≤ q := Nat.zero_le _
            have h2 : q ≤ 1 := hhi 1 8 rfl rfl
            rcases (show q = 0 ∨ q = 1 by omega) with rfl | rfl
            · skip
              have HH := hF
              exact Gives.run rfl (r_loadC (v := .slice (ownA sb.key) sb.l.length sb.c) one39 (HH.get (k := 4) rfl) (off := 1) rfl (by rfl)) ⟨rfl, rfl⟩
            · skip
              obtain ⟨b49, e7, hS50, HH⟩ := hF
              exact Gives.run rfl (r_loadC (v := .slice (ownA sb.key) sb.l.length sb.c) one39 (HH.get (k := 5) rfl) (off := 1) rfl (by rfl)) ⟨rfl, rfl⟩
          refine WalkC.look rfl (fun _ => .pointer (some ⟨bO, 3, none⟩)) (fun _ _ _ => rfl) (fun q r uw _ _ _ _ => Gives.run rfl (r_fieldAddr (off' := 3) fld51_3 (by decide) (b := bO) (off := 0) rfl (by omega)) ⟨rfl, rfl⟩) ?_
          refine WalkC.look rfl (fun _ => .slice (((xl).getD z oq0).fr.a) ((cont z).length) (((xl).getD z oq0).fr.c)) (fun _ _ _ => rfl) (fun q r uw hlo hhi hle hF => ?_) ?_
          · skip
            have h1 : 0 ≤ q := Nat.zero_le _
            have h2 : q ≤ 0 := hhi 0 7 rfl rfl
            rcases (show q = 0 by omega) with rfl
            · skip
              have HH := hF
              exact Gives.run rfl (r_loadC (v := .slice (((xl).getD z oq0).fr.a) ((cont z).length) (((xl).getD z oq0).fr.c)) one30 (HH.get (k := 1) rfl) (off := 3) rfl (by rfl)) ⟨rfl, rfl⟩
          refine WalkC.look rfl (fun _ => .string (strB (cont z))) (fun _ _ _ => rfl) (fun q r uw hlo hhi hle hF => ?_) ?_
          · skip
            have h1 : 0 ≤ q := Nat.zero_le _
            have h2 : q ≤ 0 := hhi 0 7 rfl rfl
            rcases (show q = 0 by omega) with rfl
            · skip
              have HH := hF
              exact Gives.run rfl (r_toStr (l := cont z) und30 und5 und9 ((hop z (by omega)).2.2.1.ext HH.chg) rfl (by rfl)) ⟨rfl, rfl⟩
          refine WalkC.eff 0 rfl (fun r uw46 hF48 => ?_) ?_
          · skip
            have H47 := hF48
            dsimp only [List.take, List.map, List.cons_append, List.nil_append]
            refine Gives.ofW (d := 113) rfl rfl (fun Q' hK => ?_)
            refine q_buildSlice (E := ET) (l := ([cont z] : List (List (BitVec 8)))) H47 sli39 zer9 (Nat.le_of_ble_eq_true rfl) (ps := [(0, .string (strB (cont z)))]) rfl (by exact fillAll rfl rfl) rfl ?_
            intro b49 w51 hS50 H52 hE53
            exact hK _ _ ⟨b49, rfl, hS50, H52⟩
          refine WalkC.eff 1 rfl (fun r uw54 hF56 => ?_) ?_
          · skip
            obtain ⟨b49, e7, hS50, H55⟩ := hF56
            dsimp only [List.take, List.map, List.cons_append, List.nil_append]
            rw [e7]
            refine Gives.ofW (d := 114) rfl rfl (fun Q' hK => ?_)
            refine q_append (E := ET) (k := 10) (l := sb.l) (l2 := ([cont z] : List (List (BitVec 8)))) H55 rfl hs.t3 sli39 zer9 rfl byt9 (H55.rd (k := 0) rfl hS50) rfl (by rfl) rfl (by rfl) (by omega) ?_
            intro key57 c58 sp59 w61 hS60 hne63 H62
            have H62' := H62.as (L' := (((some b49), sob ET 9 ([cont z] : List (List (BitVec 8))) ([])) :: (key15, sob E8 5 (cont z) sp17) :: (some bO, .cells #[i64 (((xl).getD z oq0).kd), i64 (((xl).getD z oq0).i), i64 (((xl).getD z oq0).bit), .slice (((xl).getD z oq0).fr.a) ((cont z).length) (((xl).getD z oq0).fr.c)] 51 (0, 0)) :: (some bE, .cells #[.pointer (some ⟨bA, 0, none⟩), .pointer (some ⟨bB, 0, none⟩)] 49 (0, 0)) :: (some bW, .cells #[.slice (ownA wa.key) wa.l.length wa.c, .slice (ownA wb.key) wb.l.length wb.c] 40 (0, 0)) :: (some bS, .cells #[.slice (ownA sa.key) sa.l.length sa.c, .slice (ownA sb.key) sb.l.length sb.c] 40 (0, 0)) :: (some bC, .cells #[.slice (ownA ca.key) ca.l.length ca.c, .slice (ownA cb.key) cb.l.length cb.c] 40 (0, 0)) :: (wa.key, sob ET 9 wa.l wa.sp) :: (wb.key, sob ET 9 wb.l wb.sp) :: (sa.key, sob ET 9 sa.l sa.sp) :: (key57, sob ET 9 (sb.l ++ ([cont z] : List (List (BitVec 8)))) sp59) :: (ca.key, sob ET 9 ca.l ca.sp) :: (cb.key, sob ET 9 cb.l cb.sp) :: (endR 30 53 89 bA u ++ (endR 30 53 89 bB e31 ++ F37)))) rfl
            clear H62
            exact hK _ _ ⟨b49, key57, c58, sp59, rfl, rfl, hS50, hS60, H62'⟩
          refine WalkC.look rfl (fun _ => .pointer (some ⟨bS, 1, none⟩)) (fun _ _ _ => rfl) (fun q r uw _ _ _ _ => Gives.run rfl (r_indexA (off' := 1) (j := 1) arr40 (b := bS) (off := 0) rfl rfl (by first | rfl | omega | (simp; omega)) (by omega) (by omega)) ⟨rfl, rfl⟩) ?_
          refine WalkC.eff 2 rfl (fun r uw64 hF66 => ?_) ?_
          · skip
            obtain ⟨b49, key57, c58, sp59, e7, e8, hS50, hS60, H65⟩ := hF66
            dsimp only [List.take, List.map, List.cons_append, List.nil_append]
            rw [e7, e8]
            refine Gives.ofW0 rfl (fun Q' hK => ?_)
            refine d_store (k := 5) (v := .slice (ownA key57) (sb.l.length + 1) c58) (cs' := #[.slice (ownA sa.key) sa.l.length sa.c, .slice (ownA key57) (sb.l.length + 1) c58]) H65 rfl rfl rfl siz39 (by rfl) (by intro u hu; simp [Value.cells] at hu; first | (subst hu; rfl) | (rcases hu with rfl <;> rfl)) (by exact Nat.le_of_ble_eq_true rfl) (by rfl) ?_
            intro w67 H68 hC69
            have H68' := H68.as (L' := (((some b49), sob ET 9 ([cont z] : List (List (BitVec 8))) ([])) :: (key15, sob E8 5 (cont z) sp17) :: (some bO, .cells #[i64 (((xl).getD z oq0).kd), i64 (((xl).getD z oq0).i), i64 (((xl).getD z oq0).bit), .slice (((xl).getD z oq0).fr.a) ((cont z).length) (((xl).getD z oq0).fr.c)] 51 (0, 0)) :: (some bE, .cells #[.pointer (some ⟨bA, 0, none⟩), .pointer (some ⟨bB, 0, none⟩)] 49 (0, 0)) :: (some bW, .cells #[.slice (ownA wa.key) wa.l.length wa.c, .slice (ownA wb.key) wb.l.length wb.c] 40 (0, 0)) :: (some bS, .cells #[.slice (ownA sa.key) sa.l.length sa.c, .slice (ownA key57) (sb.l.length + 1) c58] 40 (0, 0)) :: (some bC, .cells #[.slice (ownA ca.key) ca.l.length ca.c, .slice (ownA cb.key) cb.l.length cb.c] 40 (0, 0)) :: (wa.key, sob ET 9 wa.l wa.sp) :: (wb.key, sob ET 9 wb.l wb.sp) :: (sa.key, sob ET 9 sa.l sa.sp) :: (key57, sob ET 9 (sb.l ++ ([cont z] : List (List (BitVec 8)))) sp59) :: (ca.key, sob ET 9 ca.l ca.sp) :: (cb.key, sob ET 9 cb.l cb.sp) :: (endR 30 53 89 bA u ++ (endR 30 53 89 bB e31 ++ F37)))) rfl
            clear H68
            exact hK _ (fun _ => ⟨b49, key57, c58, sp59, rfl, rfl, trivial, hS50, hS60, H68'⟩)
          refine WalkC.nil ?_
          intro r70 w71 hF73
          obtain ⟨b49, key57, c58, sp59, e7, e8, e10, hS50, hS60, H72⟩ := hF73
          dsimp only
          rw [e7, e8]
          refine wnil ?_
          refine blockNormal ?_
          refine thenNormal ?_
          rw [show sb.l.length + 1 = (sb.l ++ ([cont z] : List (List (BitVec 8)))).length from by first | (rw [List.length_append, List.length_singleton]; done) | (rw [List.length_set]; done) | (rw [List.length_eraseIdx_of_lt hjl]; omega)] at H72
          have hh74 : Half (z + 1) (abs e31) wb.l (sb.l ++ ([cont z] : List (List (BitVec 8)))) cb.l sa.l := by rw [hab35]; exact hs.hb.send (cont z)
          have hh75 : Half (z + 1) (abs u) wa.l sa.l ca.l (sb.l ++ ([cont z] : List (List (BitVec 8)))) := hs.ha.other (cont z)
          exact hj (u, e31, F37, ⟨wa.key, wa.c, wa.sp, wa.l⟩, ⟨wb.key, wb.c, wb.sp, wb.l⟩, ⟨sa.key, sa.c, sa.sp, sa.l⟩, ⟨key57, c58, sp59, sb.l ++ ([cont z] : List (List (BitVec 8)))⟩, ⟨ca.key, ca.c, ca.sp, ca.l⟩, ⟨cb.key, cb.c, cb.sp, cb.l⟩) _ _ ⟨rfl, rfl, rfl, rfl, rfl, rfl, trivial⟩ ⟨⟨ok41, hok34, ⟨hh75, hh74, hs.t0, hs.t1, hs.t2, hS60, hs.t4, hs.t5⟩⟩, (((H72.dropk 2).dropk 1).dropk 0)⟩
        · skip
          refine drawC (m := 9) [0, 1, 3, 0, 0, 16, 56, 127, 255] [3, 6, 7] (fun q vs w' => match q, vs with | 0, [] => Hp No w₀ w' ((some bO, .cells #[i64 (((xl).getD z oq0).kd), i64 (((xl).getD z oq0).i), i64 (((xl).getD z oq0).bit), .slice (((xl).getD z oq0).fr.a) ((cont z).length) (((xl).getD z oq0).fr.c)] 51 (0, 0)) :: (some bE, .cells #[.pointer (some ⟨bA, 0, none⟩), .pointer (some ⟨bB, 0, none⟩)] 49 (0, 0)) :: (some bW, .cells #[.slice (ownA wa.key) wa.l.length wa.c, .slice (ownA wb.key) wb.l.length wb.c] 40 (0, 0)) :: (some bS, .cells #[.slice (ownA sa.key) sa.l.length sa.c, .slice (ownA sb.key) sb.l.length sb.c] 40 (0, 0)) :: (some bC, .cells #[.slice (ownA ca.key) ca.l.length ca.c, .slice (ownA cb.key) cb.l.length cb.c] 40 (0, 0)) :: (wa.key, sob ET 9 wa.l wa.sp) :: (wb.key, sob ET 9 wb.l wb.sp) :: (sa.key, sob ET 9 sa.l sa.sp) :: (sb.key, sob ET 9 sb.l sb.sp) :: (ca.key, sob ET 9 ca.l ca.sp) :: (cb.key, sob ET 9 cb.l cb.sp) :: (endR 30 53 89 bA u ++ (endR 30 53 89 bB v ++ G))) | 1, [v0] => ∃ (b79 : Nat), v0 = .slice (ownA (some b79)) 0 0 ∧ Sl E8 (some b79) ([]) 0 ([]) ∧ Hp No w₀ w' (((some b79), sob E8 5 ([]) ([])) :: (some bO, .cells #[i64 (((xl).getD z oq0).kd), i64 (((xl).getD z oq0).i), i64 (((xl).getD z oq0).bit), .slice (((xl).getD z oq0).fr.a) ((cont z).length) (((xl).getD z oq0).fr.c)] 51 (0, 0)) :: (some bE, .cells #[.pointer (some ⟨bA, 0, none⟩), .pointer (some ⟨bB, 0, none⟩)] 49 (0, 0)) :: (some bW, .cells #[.slice (ownA wa.key) wa.l.length wa.c, .slice (ownA wb.key) wb.l.length wb.c] 40 (0, 0)) :: (some bS, .cells #[.slice (ownA sa.key) sa.l.length sa.c, .slice (ownA sb.key) sb.l.length sb.c] 40 (0, 0)) :: (some bC, .cells #[.slice (ownA ca.key) ca.l.length ca.c, .slice (ownA cb.key) cb.l.length cb.c] 40 (0, 0)) :: (wa.key, sob ET 9 wa.l wa.sp) :: (wb.key, sob ET 9 wb.l wb.sp) :: (sa.key, sob ET 9 sa.l sa.sp) :: (sb.key, sob ET 9 sb.l sb.sp) :: (ca.key, sob ET 9 ca.l ca.sp) :: (cb.key, sob ET 9 cb.l cb.sp) :: (endR 30 53 89 bA u ++ (endR 30 53 89 bB v ++ G))) | 2, [v0, v1] => ∃ (b79 : Nat) (key87 : Option Nat) (c88 : Nat) (sp89 : List Value), v0 = .slice (ownA (some b79)) 0 0 ∧ v1 = .slice (ownA key87) (0 + ((cont z).length)) c88 ∧ Sl E8 key87 (cont z) c88 sp89 ∧ Hp No w₀ w' ((key87, sob E8 5 (cont z) sp89) :: (some bO, .cells #[i64 (((xl).getD z oq0).kd), i64 (((xl).getD z oq0).i), i64 (((xl).getD z oq0).bit), .slice (((xl).getD z oq0).fr.a) ((cont z).length) (((xl).getD z oq0).fr.c)] 51 (0, 0)) :: (some bE, .cells #[.pointer (some ⟨bA, 0, none⟩), .pointer (some ⟨bB, 0, none⟩)] 49 (0, 0)) :: (some bW, .cells #[.slice (ownA wa.key) wa.l.length wa.c, .slice (ownA wb.key) wb.l.length wb.c] 40 (0, 0)) :: (some bS, .cells #[.slice (ownA sa.key) sa.l.length sa.c, .slice (ownA sb.key) sb.l.length sb.c] 40 (0, 0)) :: (some bC, .cells #[.slice (ownA ca.key) ca.l.length ca.c, .slice (ownA cb.key) cb.l.length cb.c] 40 (0, 0)) :: (wa.key, sob ET 9 wa.l wa.sp) :: (wb.key, sob ET 9 wb.l wb.sp) :: (sa.key, sob ET 9 sa.l sa.sp) :: (sb.key, sob ET 9 sb.l sb.sp) :: (ca.key, sob ET 9 ca.l ca.sp) :: (cb.key, sob ET 9 cb.l cb.sp) :: (endR 30 53 89 bA u ++ (endR 30 53 89 bB v ++ G))) | 3, [v0, v1, v2] => ∃ (b79 : Nat) (key87 : Option Nat) (c88 : Nat) (sp89 : List Value) (T103 : TypeId) (x104 : Value), v0 = .slice (ownA (some b79)) 0 0 ∧ v1 = .slice (ownA key87) (0 + ((cont z).length)) c88 ∧ v2 = .iface T103 (x104) ∧ Sl E8 key87 (cont z) c88 sp89 ∧ Hp No w₀ w' ((key87, sob E8 5 (cont z) sp89) :: (some bO, .cells #[i64 (((xl).getD z oq0).kd), i64 (((xl).getD z oq0).i), i64 (((xl).getD z oq0).bit), .slice (((xl).getD z oq0).fr.a) ((cont z).length) (((xl).getD z oq0).fr.c)] 51 (0, 0)) :: (some bE, .cells #[.pointer (some ⟨bA, 0, none⟩), .pointer (some ⟨bB, 0, none⟩)] 49 (0, 0)) :: (some bW, .cells #[.slice (ownA wa.key) wa.l.length wa.c, .slice (ownA wb.key) wb.l.length wb.c] 40 (0, 0)) :: (some bS, .cells #[.slice (ownA sa.key) sa.l.length sa.c, .slice (ownA sb.key) sb.l.length sb.c] 40 (0, 0)) :: (some bC, .cells #[.slice (ownA ca.key) ca.l.length ca.c, .slice (ownA cb.key) cb.l.length cb.c] 40 (0, 0)) :: (wa.key, sob ET 9 wa.l wa.sp) :: (wb.key, sob ET 9 wb.l wb.sp) :: (sa.key, sob ET 9 sa.l sa.sp) :: (sb.key, sob ET 9 sb.l sb.sp) :: (ca.key, sob ET 9 ca.l ca.sp) :: (cb.key, sob ET 9 cb.l cb.sp) :: (endR 30 53 89 bA u ++ (endR 30 53 89 bB v ++ G))) | _, _ => False) mixed (by kernel_rfl) (by kernel_rfl) H3.drew ?_
          refine WalkC.look rfl (fun _ => i64 ((1 : Nat))) (fun _ _ _ => rfl) (fun q r uw _ _ _ _ => Gives.run rfl (r_move (v := i64 ((1 : Nat))) rfl) ⟨rfl, rfl⟩) ?_
          refine WalkC.look rfl (fun _ => .pointer (some ⟨bE, 1, none⟩)) (fun _ _ _ => rfl) (fun q r uw _ _ _ _ => Gives.run rfl (r_indexA (off' := 1) (j := 1) arr49 (b := bE) (off := 0) rfl rfl (by first | rfl | omega | (simp; omega)) (by omega) (by omega)) ⟨rfl, rfl⟩) ?_
          refine WalkC.look rfl (fun _ => .pointer (some ⟨bB, 0, none⟩)) (fun _ _ _ => rfl) (fun q r uw hlo hhi hle hF => ?_) ?_
          · skip
            have h1 : 0 ≤ q := Nat.zero_le _
            have h2 : q ≤ 2 := hhi 2 7 rfl rfl
            rcases (show q = 0 ∨ q = 1 ∨ q = 2 by omega) with rfl | rfl | rfl
            · skip
              have HH := hF
              exact Gives.run rfl (r_loadC (v := .pointer (some ⟨bB, 0, none⟩)) one47 (HH.get (k := 1) rfl) (off := 1) rfl (by rfl)) ⟨rfl, rfl⟩
            · skip
              obtain ⟨b79, e3, hS80, HH⟩ := hF
              exact Gives.run rfl (r_loadC (v := .pointer (some ⟨bB, 0, none⟩)) one47 (HH.get (k := 2) rfl) (off := 1) rfl (by rfl)) ⟨rfl, rfl⟩
            · skip
              obtain ⟨b79, key87, c88, sp89, e3, e6, hS95, HH⟩ := hF
              exact Gives.run rfl (r_loadC (v := .pointer (some ⟨bB, 0, none⟩)) one47 (HH.get (k := 2) rfl) (off := 1) rfl (by rfl)) ⟨rfl, rfl⟩
          refine WalkC.eff 0 rfl (fun r uw76 hF78 => ?_) ?_
          · skip
            have H77 := hF78
            dsimp only [List.take, List.map, List.cons_append, List.nil_append]
            refine Gives.ofW (d := 100) rfl rfl (fun Q' hK => ?_)
            refine q_buildSlice (E := E8) (l := []) H77 sli30 zer5 (Nat.le_of_ble_eq_true rfl) (ps := []) rfl (by exact fillAll rfl rfl) rfl ?_
            intro b79 w81 hS80 H82 hE83
            exact hK _ _ ⟨b79, rfl, hS80, H82⟩
          refine WalkC.look rfl (fun _ => .pointer (some ⟨bO, 3, none⟩)) (fun _ _ _ => rfl) (fun q r uw _ _ _ _ => Gives.run rfl (r_fieldAddr (off' := 3) fld51_3 (by decide) (b := bO) (off := 0) rfl (by omega)) ⟨rfl, rfl⟩) ?_
          refine WalkC.look rfl (fun _ => .slice (((xl).getD z oq0).fr.a) ((cont z).length) (((xl).getD z oq0).fr.c)) (fun _ _ _ => rfl) (fun q r uw hlo hhi hle hF => ?_) ?_
          · skip
            have h1 : 0 ≤ q := Nat.zero_le _
            have h2 : q ≤ 1 := hhi 1 6 rfl rfl
            rcases (show q = 0 ∨ q = 1 by omega) with rfl | rfl
            · skip
              have HH := hF
              exact Gives.run rfl (r_loadC (v := .slice (((xl).getD z oq0).fr.a) ((cont z).length) (((xl).getD z oq0).fr.c)) one30 (HH.get (k := 0) rfl) (off := 3) rfl (by rfl)) ⟨rfl, rfl⟩
            · skip
              obtain ⟨b79, e3, hS80, HH⟩ := hF
              exact Gives.run rfl (r_loadC (v := .slice (((xl).getD z oq0).fr.a) ((cont z).length) (((xl).getD z oq0).fr.c)) one30 (HH.get (k := 1) rfl) (off := 3) rfl (by rfl)) ⟨rfl, rfl⟩
          refine WalkC.eff 1 rfl (fun r uw84 hF86 => ?_) ?_
          · skip
            obtain ⟨b79, e3, hS80, H85⟩ := hF86
            dsimp only [List.take, List.map, List.cons_append, List.nil_append]
            rw [e3]
            refine Gives.ofW (d := 103) rfl rfl (fun Q' hK => ?_)
            refine q_append (E := E8) (k := 0) (l := []) (l2 := cont z) H85 rfl hS80 sli30 zer5 rfl byt5 ((hop z (by omega)).2.2.1.ext H85.chg) rfl (by rfl) rfl (by rfl) (by have := (hop z (by omega)).2.2.2; omega) ?_
            intro key87 c88 sp89 w91 hS90 hne93 H92
            have H92' := H92.as (L' := ((key87, sob E8 5 (([]) ++ (cont z)) sp89) :: (some bO, .cells #[i64 (((xl).getD z oq0).kd), i64 (((xl).getD z oq0).i), i64 (((xl).getD z oq0).bit), .slice (((xl).getD z oq0).fr.a) ((cont z).length) (((xl).getD z oq0).fr.c)] 51 (0, 0)) :: (some bE, .cells #[.pointer (some ⟨bA, 0, none⟩), .pointer (some ⟨bB, 0, none⟩)] 49 (0, 0)) :: (some bW, .cells #[.slice (ownA wa.key) wa.l.length wa.c, .slice (ownA wb.key) wb.l.length wb.c] 40 (0, 0)) :: (some bS, .cells #[.slice (ownA sa.key) sa.l.length sa.c, .slice (ownA sb.key) sb.l.length sb.c] 40 (0, 0)) :: (some bC, .cells #[.slice (ownA ca.key) ca.l.length ca.c, .slice (ownA cb.key) cb.l.length cb.c] 40 (0, 0)) :: (wa.key, sob ET 9 wa.l wa.sp) :: (wb.key, sob ET 9 wb.l wb.sp) :: (sa.key, sob ET 9 sa.l sa.sp) :: (sb.key, sob ET 9 sb.l sb.sp) :: (ca.key, sob ET 9 ca.l ca.sp) :: (cb.key, sob ET 9 cb.l cb.sp) :: (endR 30 53 89 bA u ++ (endR 30 53 89 bB v ++ G)))) rfl
            clear H92
            have e94 : ([]) ++ (cont z) = cont z := by rw [List.nil_append]
            have hS95 := hS90
            rw [e94] at hS95
            have H96 := H92'.as (L' := ((key87, sob E8 5 (cont z) sp89) :: (some bO, .cells #[i64 (((xl).getD z oq0).kd), i64 (((xl).getD z oq0).i), i64 (((xl).getD z oq0).bit), .slice (((xl).getD z oq0).fr.a) ((cont z).length) (((xl).getD z oq0).fr.c)] 51 (0, 0)) :: (some bE, .cells #[.pointer (some ⟨bA, 0, none⟩), .pointer (some ⟨bB, 0, none⟩)] 49 (0, 0)) :: (some bW, .cells #[.slice (ownA wa.key) wa.l.length wa.c, .slice (ownA wb.key) wb.l.length wb.c] 40 (0, 0)) :: (some bS, .cells #[.slice (ownA sa.key) sa.l.length sa.c, .slice (ownA sb.key) sb.l.length sb.c] 40 (0, 0)) :: (some bC, .cells #[.slice (ownA ca.key) ca.l.length ca.c, .slice (ownA cb.key) cb.l.length cb.c] 40 (0, 0)) :: (wa.key, sob ET 9 wa.l wa.sp) :: (wb.key, sob ET 9 wb.l wb.sp) :: (sa.key, sob ET 9 sa.l sa.sp) :: (sb.key, sob ET 9 sb.l sb.sp) :: (ca.key, sob ET 9 ca.l ca.sp) :: (cb.key, sob ET 9 cb.l cb.sp) :: (endR 30 53 89 bA u ++ (endR 30 53 89 bB v ++ G)))) (by rw [e94])
            exact hK _ _ ⟨b79, key87, c88, sp89, rfl, rfl, hS95, H96⟩
          refine WalkC.eff 2 rfl (fun r uw97 hF99 => ?_) ?_
          · skip
            obtain ⟨b79, key87, c88, sp89, e3, e6, hS95, H98⟩ := hF99
            dsimp only [List.take, List.map, List.cons_append, List.nil_append]
            rw [e3, e6]
            refine Gives.ofW (d := 104) rfl rfl (fun Q' hK => ?_)
            have H100 := Hp.midB (R := [(key87, sob E8 5 (cont z) sp89), (some bO, .cells #[i64 (((xl).getD z oq0).kd), i64 (((xl).getD z oq0).i), i64 (((xl).getD z oq0).bit), .slice (((xl).getD z oq0).fr.a) ((cont z).length) (((xl).getD z oq0).fr.c)] 51 (0, 0)), (some bE, .cells #[.pointer (some ⟨bA, 0, none⟩), .pointer (some ⟨bB, 0, none⟩)] 49 (0, 0)), (some bW, .cells #[.slice (ownA wa.key) wa.l.length wa.c, .slice (ownA wb.key) wb.l.length wb.c] 40 (0, 0)), (some bS, .cells #[.slice (ownA sa.key) sa.l.length sa.c, .slice (ownA sb.key) sb.l.length sb.c] 40 (0, 0)), (some bC, .cells #[.slice (ownA ca.key) ca.l.length ca.c, .slice (ownA cb.key) cb.l.length cb.c] 40 (0, 0)), (wa.key, sob ET 9 wa.l wa.sp), (wb.key, sob ET 9 wb.l wb.sp), (sa.key, sob ET 9 sa.l sa.sp), (sb.key, sob ET 9 sb.l sb.sp), (ca.key, sob ET 9 ca.l ca.sp), (cb.key, sob ET 9 cb.l cb.sp)]) (A := endR 30 53 89 bA u) (B := endR 30 53 89 bB v) (F := G) H98
            refine c_call (vs := [.pointer (some ⟨bB, 0, none⟩), .slice (ownA key87) (0 + ((cont z).length)) c88]) call25 rfl (send_no bB v G ([(key87, sob E8 5 (cont z) sp89), (some bO, .cells #[i64 (((xl).getD z oq0).kd), i64 (((xl).getD z oq0).i), i64 (((xl).getD z oq0).bit), .slice (((xl).getD z oq0).fr.a) ((cont z).length) (((xl).getD z oq0).fr.c)] 51 (0, 0)), (some bE, .cells #[.pointer (some ⟨bA, 0, none⟩), .pointer (some ⟨bB, 0, none⟩)] 49 (0, 0)), (some bW, .cells #[.slice (ownA wa.key) wa.l.length wa.c, .slice (ownA wb.key) wb.l.length wb.c] 40 (0, 0)), (some bS, .cells #[.slice (ownA sa.key) sa.l.length sa.c, .slice (ownA sb.key) sb.l.length sb.c] 40 (0, 0)), (some bC, .cells #[.slice (ownA ca.key) ca.l.length ca.c, .slice (ownA cb.key) cb.l.length cb.c] 40 (0, 0)), (wa.key, sob ET 9 wa.l wa.sp), (wb.key, sob ET 9 wb.l wb.sp), (sa.key, sob ET 9 sa.l sa.sp), (sb.key, sob ET 9 sb.l sb.sp), (ca.key, sob ET 9 ca.l ca.sp), (cb.key, sob ET 9 cb.l cb.sp)] ++ (endR 30 53 89 bA u ++ G)) hv (fun x h => List.mem_append_right _ (List.mem_append_right _ h)) w₀ uw97 H100 hG (cont z) (ownA key87) (0 + ((cont z).length)) c88 (by rw [Nat.zero_add]) hgo) ?_
            rintro _ w101 ⟨T103, x104, rfl, hE105⟩
            have H106 := H98.ext hE105
            exact hK _ _ ⟨b79, key87, c88, sp89, T103, x104, rfl, rfl, rfl, hS95, H106⟩
          refine WalkC.look rfl (fun _ => .bool (false)) (fun _ _ _ => rfl) (fun q r uw hlo hhi hle hF => ?_) ?_
          · skip
            have h1 : 3 ≤ q := hlo 2 7 rfl rfl
            have h2 : q ≤ 3 := hle
            rcases (show q = 3 by omega) with rfl
            · skip
              obtain ⟨b79, key87, c88, sp89, T103, x104, e3, e6, e7, hS95, HH⟩ := hF
              dsimp only
              rw [e7]
              exact Gives.run rfl (r_eqlIN isI28 rfl rfl) ⟨rfl, rfl⟩
          refine WalkC.nil ?_
          intro r107 w108 hF110
          obtain ⟨b79, key87, c88, sp89, T103, x104, e3, e6, e7, hS95, H109⟩ := hF110
          dsimp only
          rw [e3, e6, e7]
          refine wnil ?_
          refine thenNormal ?_
          refine condFalse rfl ?_
          refine skipAny ?_
          refine blockNormal ?_
          refine thenNormal ?_
          have hh111 : Half (z + 1) (abs v) wb.l sb.l cb.l sa.l := hs.hb.mono (Nat.le_succ z)
          have hh112 : Half (z + 1) (abs u) wa.l sa.l ca.l sb.l := hs.ha.mono (Nat.le_succ z)
          exact hj (u, v, G, ⟨wa.key, wa.c, wa.sp, wa.l⟩, ⟨wb.key, wb.c, wb.sp, wb.l⟩, ⟨sa.key, sa.c, sa.sp, sa.l⟩, ⟨sb.key, sb.c, sb.sp, sb.l⟩, ⟨ca.key, ca.c, ca.sp, ca.l⟩, ⟨cb.key, cb.c, cb.sp, cb.l⟩) _ _ ⟨rfl, rfl, rfl, rfl, rfl, rfl, trivial⟩ ⟨⟨hu, hv, ⟨hh112, hh111, hs.t0, hs.t1, hs.t2, hs.t3, hs.t4, hs.t5⟩⟩, ((H109.dropk 1).dropk 0)⟩
      · skip
        refine seqAny ?_
        by_cases hgo : (isDead v.err = false ∧ (cont z).length ≤ 1048576 ∧ v.q.fs.length < 64)
        · skip
          refine drawC (m := 9) [0, 1, 3, 0, 0, 16, 56, 127, 255] [3, 6, 7] (fun q vs w' => match q, vs with | 0, [] => Hp No w₀ w' ((some bO, .cells #[i64 (((xl).getD z oq0).kd), i64 (((xl).getD z oq0).i), i64 (((xl).getD z oq0).bit), .slice (((xl).getD z oq0).fr.a) ((cont z).length) (((xl).getD z oq0).fr.c)] 51 (0, 0)) :: (some bE, .cells #[.pointer (some ⟨bA, 0, none⟩), .pointer (some ⟨bB, 0, none⟩)] 49 (0, 0)) :: (some bW, .cells #[.slice (ownA wa.key) wa.l.length wa.c, .slice (ownA wb.key) wb.l.length wb.c] 40 (0, 0)) :: (some bS, .cells #[.slice (ownA sa.key) sa.l.length sa.c, .slice (ownA sb.key) sb.l.length sb.c] 40 (0, 0)) :: (some bC, .cells #[.slice (ownA ca.key) ca.l.length ca.c, .slice (ownA cb.key) cb.l.length cb.c] 40 (0, 0)) :: (wa.key, sob ET 9 wa.l wa.sp) :: (wb.key, sob ET 9 wb.l wb.sp) :: (sa.key, sob ET 9 sa.l sa.sp) :: (sb.key, sob ET 9 sb.l sb.sp) :: (ca.key, sob ET 9 ca.l ca.sp) :: (cb.key, sob ET 9 cb.l cb.sp) :: (endR 30 53 89 bA u ++ (endR 30 53 89 bB v ++ G))) | 1, [v0] => ∃ (b116 : Nat), v0 = .slice (ownA (some b116)) 0 0 ∧ Sl E8 (some b116) ([]) 0 ([]) ∧ Hp No w₀ w' (((some b116), sob E8 5 ([]) ([])) :: (some bO, .cells #[i64 (((xl).getD z oq0).kd), i64 (((xl).getD z oq0).i), i64 (((xl).getD z oq0).bit), .slice (((xl).getD z oq0).fr.a) ((cont z).length) (((xl).getD z oq0).fr.c)] 51 (0, 0)) :: (some bE, .cells #[.pointer (some ⟨bA, 0, none⟩), .pointer (some ⟨bB, 0, none⟩)] 49 (0, 0)) :: (some bW, .cells #[.slice (ownA wa.key) wa.l.length wa.c, .slice (ownA wb.key) wb.l.length wb.c] 40 (0, 0)) :: (some bS, .cells #[.slice (ownA sa.key) sa.l.length sa.c, .slice (ownA sb.key) sb.l.length sb.c] 40 (0, 0)) :: (some bC, .cells #[.slice (ownA ca.key) ca.l.length ca.c, .slice (ownA cb.key) cb.l.length cb.c] 40 (0, 0)) :: (wa.key, sob ET 9 wa.l wa.sp) :: (wb.key, sob ET 9 wb.l wb.sp) :: (sa.key, sob ET 9 sa.l sa.sp) :: (sb.key, sob ET 9 sb.l sb.sp) :: (ca.key, sob ET 9 ca.l ca.sp) :: (cb.key, sob ET 9 cb.l cb.sp) :: (endR 30 53 89 bA u ++ (endR 30 53 89 bB v ++ G))) | 2, [v0, v1] => ∃ (b116 : Nat) (key124 : Option Nat) (c125 : Nat) (sp126 : List Value), v0 = .slice (ownA (some b116)) 0 0 ∧ v1 = .slice (ownA key124) (0 + ((cont z).length)) c125 ∧ Sl E8 key124 (cont z) c125 sp126 ∧ Hp No w₀ w' ((key124, sob E8 5 (cont z) sp126) :: (some bO, .cells #[i64 (((xl).getD z oq0).kd), i64 (((xl).getD z oq0).i), i64 (((xl).getD z oq0).bit), .slice (((xl).getD z oq0).fr.a) ((cont z).length) (((xl).getD z oq0).fr.c)] 51 (0, 0)) :: (some bE, .cells #[.pointer (some ⟨bA, 0, none⟩), .pointer (some ⟨bB, 0, none⟩)] 49 (0, 0)) :: (some bW, .cells #[.slice (ownA wa.key) wa.l.length wa.c, .slice (ownA wb.key) wb.l.length wb.c] 40 (0, 0)) :: (some bS, .cells #[.slice (ownA sa.key) sa.l.length sa.c, .slice (ownA sb.key) sb.l.length sb.c] 40 (0, 0)) :: (some bC, .cells #[.slice (ownA ca.key) ca.l.length ca.c, .slice (ownA cb.key) cb.l.length cb.c] 40 (0, 0)) :: (wa.key, sob ET 9 wa.l wa.sp) :: (wb.key, sob ET 9 wb.l wb.sp) :: (sa.key, sob ET 9 sa.l sa.sp) :: (sb.key, sob ET 9 sb.l sb.sp) :: (ca.key, sob ET 9 ca.l ca.sp) :: (cb.key, sob ET 9 cb.l cb.sp) :: (endR 30 53 89 bA u ++ (endR 30 53 89 bB v ++ G))) | 3, [v0, v1, v2] => ∃ (b116 : Nat) (key124 : Option Nat) (c125 : Nat) (sp126 : List Value) (e140 : En) (F146 : List (Option Nat × Obj)), v0 = .slice (ownA (some b116)) 0 0 ∧ v1 = .slice (ownA key124) (0 + ((cont z).length)) c125 ∧ v2 = .nilIface ∧ Sl E8 key124 (cont z) c125 sp126 ∧ e140.ok 5 F146 ∧ (∀ x ∈ G, x ∈ F146) ∧ u.ok 5 F146 ∧ abs e140 = sendS (abs v) (cont z) ∧ Hp No w₀ w' ((key124, sob E8 5 (cont z) sp126) :: (some bO, .cells #[i64 (((xl).getD z oq0).kd), i64 (((xl).getD z oq0).i), i64 (((xl).getD z oq0).bit), .slice (((xl).getD z oq0).fr.a) ((cont z).length) (((xl).getD z oq0).fr.c)] 51 (0, 0)) :: (some bE, .cells #[.pointer (some ⟨bA, 0, none⟩), .pointer (some ⟨bB, 0, none⟩)] 49 (0, 0)) :: (some bW, .cells #[.slice (ownA wa.key) wa.l.length wa.c, .slice (ownA wb.key) wb.l.length wb.c] 40 (0, 0)) :: (some bS, .cells #[.slice (ownA sa.key) sa.l.length sa.c, .slice (ownA sb.key) sb.l.length sb.c] 40 (0, 0)) :: (some bC, .cells #[.slice (ownA ca.key) ca.l.length ca.c, .slice (ownA cb.key) cb.l.length cb.c] 40 (0, 0)) :: (wa.key, sob ET 9 wa.l wa.sp) :: (wb.key, sob ET 9 wb.l wb.sp) :: (sa.key, sob ET 9 sa.l sa.sp) :: (sb.key, sob ET 9 sb.l sb.sp) :: (ca.key, sob ET 9 ca.l ca.sp) :: (cb.key, sob ET 9 cb.l cb.sp) :: (endR 30 53 89 bA u ++ (endR 30 53 89 bB e140 ++ F146))) | _, _ => False) mixed (by kernel_rfl) (by kernel_rfl) H3.drew ?_
          refine WalkC.look rfl (fun _ => i64 ((1 : Nat))) (fun _ _ _ => rfl) (fun q r uw _ _ _ _ => Gives.run rfl (r_move (v := i64 ((1 : Nat))) rfl) ⟨rfl, rfl⟩) ?_
          refine WalkC.look rfl (fun _ => .pointer (some ⟨bE, 1, none⟩)) (fun _ _ _ => rfl) (fun q r uw _ _ _ _ => Gives.run rfl (r_indexA (off' := 1) (j := 1) arr49 (b := bE) (off := 0) rfl rfl (by first | rfl | omega | (simp; omega)) (by omega) (by omega)) ⟨rfl, rfl⟩) ?_
          refine WalkC.look rfl (fun _ => .pointer (some ⟨bB, 0, none⟩)) (fun _ _ _ => rfl) (fun q r uw hlo hhi hle hF => ?_) ?_
          · skip
            have h1 : 0 ≤ q := Nat.zero_le _
            have h2 : q ≤ 2 := hhi 2 7 rfl rfl
            rcases (show q = 0 ∨ q = 1 ∨ q = 2 by omega) with rfl | rfl | rfl
            · skip
              have HH := hF
              exact Gives.run rfl (r_loadC (v := .pointer (some ⟨bB, 0, none⟩)) one47 (HH.get (k := 1) rfl) (off := 1) rfl (by rfl)) ⟨rfl, rfl⟩
            · skip
              obtain ⟨b116, e3, hS117, HH⟩ := hF
              exact Gives.run rfl (r_loadC (v := .pointer (some ⟨bB, 0, none⟩)) one47 (HH.get (k := 2) rfl) (off := 1) rfl (by rfl)) ⟨rfl, rfl⟩
            · skip
              obtain ⟨b116, key124, c125, sp126, e3, e6, hS132, HH⟩ := hF
              exact Gives.run rfl (r_loadC (v := .pointer (some ⟨bB, 0, none⟩)) one47 (HH.get (k := 2) rfl) (off := 1) rfl (by rfl)) ⟨rfl, rfl⟩
          refine WalkC.eff 0 rfl (fun r uw113 hF115 => ?_) ?_
          · skip
            have H114 := hF115
            dsimp only [List.take, List.map, List.cons_append, List.nil_append]
            refine Gives.ofW (d := 100) rfl rfl (fun Q' hK => ?_)
            refine q_buildSlice (E := E8) (l := []) H114 sli30 zer5 (Nat.le_of_ble_eq_true rfl) (ps := []) rfl (by exact fillAll rfl rfl) rfl ?_
            intro b116 w118 hS117 H119 hE120
            exact hK _ _ ⟨b116, rfl, hS117, H119⟩
          refine WalkC.look rfl (fun _ => .pointer (some ⟨bO, 3, none⟩)) (fun _ _ _ => rfl) (fun q r uw _ _ _ _ => Gives.run rfl (r_fieldAddr (off' := 3) fld51_3 (by decide) (b := bO) (off := 0) rfl (by omega)) ⟨rfl, rfl⟩) ?_
          refine WalkC.look rfl (fun _ => .slice (((xl).getD z oq0).fr.a) ((cont z).length) (((xl).getD z oq0).fr.c)) (fun _ _ _ => rfl) (fun q r uw hlo hhi hle hF => ?_) ?_
          · skip
            have h1 : 0 ≤ q := Nat.zero_le _
            have h2 : q ≤ 1 := hhi 1 6 rfl rfl
            rcases (show q = 0 ∨ q = 1 by omega) with rfl | rfl
            · skip
              have HH := hF
              exact Gives.run rfl (r_loadC (v := .slice (((xl).getD z oq0).fr.a) ((cont z).length) (((xl).getD z oq0).fr.c)) one30 (HH.get (k := 0) rfl) (off := 3) rfl (by rfl)) ⟨rfl, rfl⟩
            · skip
              obtain ⟨b116, e3, hS117, HH⟩ := hF
              exact Gives.run rfl (r_loadC (v := .slice (((xl).getD z oq0).fr.a) ((cont z).length) (((xl).getD z oq0).fr.c)) one30 (HH.get (k := 1) rfl) (off := 3) rfl (by rfl)) ⟨rfl, rfl⟩
          refine WalkC.eff 1 rfl (fun r uw121 hF123 => ?_) ?_
          · skip
            obtain ⟨b116, e3, hS117, H122⟩ := hF123
            dsimp only [List.take, List.map, List.cons_append, List.nil_append]
            rw [e3]
            refine Gives.ofW (d := 103) rfl rfl (fun Q' hK => ?_)
            refine q_append (E := E8) (k := 0) (l := []) (l2 := cont z) H122 rfl hS117 sli30 zer5 rfl byt5 ((hop z (by omega)).2.2.1.ext H122.chg) rfl (by rfl) rfl (by rfl) (by have := (hop z (by omega)).2.2.2; omega) ?_
            intro key124 c125 sp126 w128 hS127 hne130 H129
            have H129' := H129.as (L' := ((key124, sob E8 5 (([]) ++ (cont z)) sp126) :: (some bO, .cells #[i64 (((xl).getD z oq0).kd), i64 (((xl).getD z oq0).i), i64 (((xl).getD z oq0).bit), .slice (((xl).getD z oq0).fr.a) ((cont z).length) (((xl).getD z oq0).fr.c)] 51 (0, 0)) :: (some bE, .cells #[.pointer (some ⟨bA, 0, none⟩), .pointer (some ⟨bB, 0, none⟩)] 49 (0, 0)) :: (some bW, .cells #[.slice (ownA wa.key) wa.l.length wa.c, .slice (ownA wb.key) wb.l.length wb.c] 40 (0, 0)) :: (some bS, .cells #[.slice (ownA sa.key) sa.l.length sa.c, .slice (ownA sb.key) sb.l.length sb.c] 40 (0, 0)) :: (some bC, .cells #[.slice (ownA ca.key) ca.l.length ca.c, .slice (ownA cb.key) cb.l.length cb.c] 40 (0, 0)) :: (wa.key, sob ET 9 wa.l wa.sp) :: (wb.key, sob ET 9 wb.l wb.sp) :: (sa.key, sob ET 9 sa.l sa.sp) :: (sb.key, sob ET 9 sb.l sb.sp) :: (ca.key, sob ET 9 ca.l ca.sp) :: (cb.key, sob ET 9 cb.l cb.sp) :: (endR 30 53 89 bA u ++ (endR 30 53 89 bB v ++ G)))) rfl
            clear H129
            have e131 : ([]) ++ (cont z) = cont z := by rw [List.nil_append]
            have hS132 := hS127
            rw [e131] at hS132
            have H133 := H129'.as (L' := ((key124, sob E8 5 (cont z) sp126) :: (some bO, .cells #[i64 (((xl).getD z oq0).kd), i64 (((xl).getD z oq0).i), i64 (((xl).getD z oq0).bit), .slice (((xl).getD z oq0).fr.a) ((cont z).length) (((xl).getD z oq0).fr.c)] 51 (0, 0)) :: (some bE, .cells #[.pointer (some ⟨bA, 0, none⟩), .pointer (some ⟨bB, 0, none⟩)] 49 (0, 0)) :: (some bW, .cells #[.slice (ownA wa.key) wa.l.length wa.c, .slice (ownA wb.key) wb.l.length wb.c] 40 (0, 0)) :: (some bS, .cells #[.slice (ownA sa.key) sa.l.length sa.c, .slice (ownA sb.key) sb.l.length sb.c] 40 (0, 0)) :: (some bC, .cells #[.slice (ownA ca.key) ca.l.length ca.c, .slice (ownA cb.key) cb.l.length cb.c] 40 (0, 0)) :: (wa.key, sob ET 9 wa.l wa.sp) :: (wb.key, sob ET 9 wb.l wb.sp) :: (sa.key, sob ET 9 sa.l sa.sp) :: (sb.key, sob ET 9 sb.l sb.sp) :: (ca.key, sob ET 9 ca.l ca.sp) :: (cb.key, sob ET 9 cb.l cb.sp) :: (endR 30 53 89 bA u ++ (endR 30 53 89 bB v ++ G)))) (by rw [e131])
            exact hK _ _ ⟨b116, key124, c125, sp126, rfl, rfl, hS132, H133⟩
          refine WalkC.eff 2 rfl (fun r uw134 hF136 => ?_) ?_
          · skip
            obtain ⟨b116, key124, c125, sp126, e3, e6, hS132, H135⟩ := hF136
            dsimp only [List.take, List.map, List.cons_append, List.nil_append]
            rw [e3, e6]
            refine Gives.ofW (d := 104) rfl rfl (fun Q' hK => ?_)
            have H137 := Hp.midB (R := [(key124, sob E8 5 (cont z) sp126), (some bO, .cells #[i64 (((xl).getD z oq0).kd), i64 (((xl).getD z oq0).i), i64 (((xl).getD z oq0).bit), .slice (((xl).getD z oq0).fr.a) ((cont z).length) (((xl).getD z oq0).fr.c)] 51 (0, 0)), (some bE, .cells #[.pointer (some ⟨bA, 0, none⟩), .pointer (some ⟨bB, 0, none⟩)] 49 (0, 0)), (some bW, .cells #[.slice (ownA wa.key) wa.l.length wa.c, .slice (ownA wb.key) wb.l.length wb.c] 40 (0, 0)), (some bS, .cells #[.slice (ownA sa.key) sa.l.length sa.c, .slice (ownA sb.key) sb.l.length sb.c] 40 (0, 0)), (some bC, .cells #[.slice (ownA ca.key) ca.l.length ca.c, .slice (ownA cb.key) cb.l.length cb.c] 40 (0, 0)), (wa.key, sob ET 9 wa.l wa.sp), (wb.key, sob ET 9 wb.l wb.sp), (sa.key, sob ET 9 sa.l sa.sp), (sb.key, sob ET 9 sb.l sb.sp), (ca.key, sob ET 9 ca.l ca.sp), (cb.key, sob ET 9 cb.l cb.sp)]) (A := endR 30 53 89 bA u) (B := endR 30 53 89 bB v) (F := G) H135
            refine c_call (vs := [.pointer (some ⟨bB, 0, none⟩), .slice (ownA key124) (0 + ((cont z).length)) c125]) call25 rfl (send_ok bB v G ([(key124, sob E8 5 (cont z) sp126), (some bO, .cells #[i64 (((xl).getD z oq0).kd), i64 (((xl).getD z oq0).i), i64 (((xl).getD z oq0).bit), .slice (((xl).getD z oq0).fr.a) ((cont z).length) (((xl).getD z oq0).fr.c)] 51 (0, 0)), (some bE, .cells #[.pointer (some ⟨bA, 0, none⟩), .pointer (some ⟨bB, 0, none⟩)] 49 (0, 0)), (some bW, .cells #[.slice (ownA wa.key) wa.l.length wa.c, .slice (ownA wb.key) wb.l.length wb.c] 40 (0, 0)), (some bS, .cells #[.slice (ownA sa.key) sa.l.length sa.c, .slice (ownA sb.key) sb.l.length sb.c] 40 (0, 0)), (some bC, .cells #[.slice (ownA ca.key) ca.l.length ca.c, .slice (ownA cb.key) cb.l.length cb.c] 40 (0, 0)), (wa.key, sob ET 9 wa.l wa.sp), (wb.key, sob ET 9 wb.l wb.sp), (sa.key, sob ET 9 sa.l sa.sp), (sb.key, sob ET 9 sb.l sb.sp), (ca.key, sob ET 9 ca.l ca.sp), (cb.key, sob ET 9 cb.l cb.sp)] ++ (endR 30 53 89 bA u ++ G)) hv (fun x h => List.mem_append_right _ (List.mem_append_right _ h)) w₀ uw134 H137 hgo.1 (cont z) (ownA key124) (0 + ((cont z).length)) c125 (by rw [Nat.zero_add]) (H135.rd (k := 0) rfl hS132) hgo.2.1 hgo.2.2) ?_
            rintro _ w138 ⟨rfl, e140, X141, HN142, hok143, hab144⟩
            have H145 := Hp.backB (R := [(key124, sob E8 5 (cont z) sp126), (some bO, .cells #[i64 (((xl).getD z oq0).kd), i64 (((xl).getD z oq0).i), i64 (((xl).getD z oq0).bit), .slice (((xl).getD z oq0).fr.a) ((cont z).length) (((xl).getD z oq0).fr.c)] 51 (0, 0)), (some bE, .cells #[.pointer (some ⟨bA, 0, none⟩), .pointer (some ⟨bB, 0, none⟩)] 49 (0, 0)), (some bW, .cells #[.slice (ownA wa.key) wa.l.length wa.c, .slice (ownA wb.key) wb.l.length wb.c] 40 (0, 0)), (some bS, .cells #[.slice (ownA sa.key) sa.l.length sa.c, .slice (ownA sb.key) sb.l.length sb.c] 40 (0, 0)), (some bC, .cells #[.slice (ownA ca.key) ca.l.length ca.c, .slice (ownA cb.key) cb.l.length cb.c] 40 (0, 0)), (wa.key, sob ET 9 wa.l wa.sp), (wb.key, sob ET 9 wb.l wb.sp), (sa.key, sob ET 9 sa.l sa.sp), (sb.key, sob ET 9 sb.l sb.sp), (ca.key, sob ET 9 ca.l ca.sp), (cb.key, sob ET 9 cb.l cb.sp)]) (A := endR 30 53 89 bA u) (B := endR 30 53 89 bB e140) (X := X141) (F := G) HN142
            obtain ⟨F146, hF147⟩ : ∃ F2, F2 = X141 ++ G := ⟨_, rfl⟩
            rw [← hF147] at H145 hok143
            have hsub148 : ∀ x ∈ G, x ∈ F146 := fun x h => by rw [hF147]; exact List.mem_append_right _ h
            have ok150 := hu.mono hsub148
            have H149 := H145.as (L' := ((key124, sob E8 5 (cont z) sp126) :: (some bO, .cells #[i64 (((xl).getD z oq0).kd), i64 (((xl).getD z oq0).i), i64 (((xl).getD z oq0).bit), .slice (((xl).getD z oq0).fr.a) ((cont z).length) (((xl).getD z oq0).fr.c)] 51 (0, 0)) :: (some bE, .cells #[.pointer (some ⟨bA, 0, none⟩), .pointer (some ⟨bB, 0, none⟩)] 49 (0, 0)) :: (some bW, .cells #[.slice (ownA wa.key) wa.l.length wa.c, .slice (ownA wb.key) wb.l.length wb.c] 40 (0, 0)) :: (some bS, .cells #[.slice (ownA sa.key) sa.l.length sa.c, .slice (ownA sb.key) sb.l.length sb.c] 40 (0, 0)) :: (some bC, .cells #[.slice (ownA ca.key) ca.l.length ca.c, .slice (ownA cb.key) cb.l.length cb.c] 40 (0, 0)) :: (wa.key, sob ET 9 wa.l wa.sp) :: (wb.key, sob ET 9 wb.l wb.sp) :: (sa.key, sob ET 9 sa.l sa.sp) :: (sb.key, sob ET 9 sb.l sb.sp) :: (ca.key, sob ET 9 ca.l ca.sp) :: (cb.key, sob ET 9 cb.l cb.sp) :: (endR 30 53 89 bA u ++ (endR 30 53 89 bB e140 ++ F146)))) rfl
            exact hK _ _ ⟨b116, key124, c125, sp126, e140, F146, rfl, rfl, rfl, hS132, hok143, hsub148, ok150, hab144, H149⟩
          refine WalkC.look rfl (fun _ => .bool (true)) (fun _ _ _ => rfl) (fun q r uw hlo hhi hle hF => ?_) ?_
          · skip
            have h1 : 3 ≤ q := hlo 2 7 rfl rfl
            have h2 : q ≤ 3 := hle
            rcases (show q = 3 by omega) with rfl
            · skip
              obtain ⟨b116, key124, c125, sp126, e140, F146, e3, e6, e7, hS132, hok143, hsub148, ok150, hab144, HH⟩ := hF
              dsimp only
              rw [e7]
              exact Gives.run rfl (r_eqlNN isI28 rfl rfl) ⟨rfl, rfl⟩
          refine WalkC.nil ?_
          intro r151 w152 hF154
          obtain ⟨b116, key124, c125, sp126, e140, F146, e3, e6, e7, hS132, hok143, hsub148, ok150, hab144, H153⟩ := hF154
          dsimp only
          rw [e3, e6, e7]
          refine wnil ?_
          refine thenNormal ?_
          refine condTrue rfl ?_
          refine drawC (m := 11) [0, 0, 2, 6, 0, 16, 48, 112, 254, 511, 1023] [7, 8, 10] (fun q vs w' => match q, vs with | 0, [] => Hp No w₀ w' ((key124, sob E8 5 (cont z) sp126) :: (some bO, .cells #[i64 (((xl).getD z oq0).kd), i64 (((xl).getD z oq0).i), i64 (((xl).getD z oq0).bit), .slice (((xl).getD z oq0).fr.a) ((cont z).length) (((xl).getD z oq0).fr.c)] 51 (0, 0)) :: (some bE, .cells #[.pointer (some ⟨bA, 0, none⟩), .pointer (some ⟨bB, 0, none⟩)] 49 (0, 0)) :: (some bW, .cells #[.slice (ownA wa.key) wa.l.length wa.c, .slice (ownA wb.key) wb.l.length wb.c] 40 (0, 0)) :: (some bS, .cells #[.slice (ownA sa.key) sa.l.length sa.c, .slice (ownA sb.key) sb.l.length sb.c] 40 (0, 0)) :: (some bC, .cells #[.slice (ownA ca.key) ca.l.length ca.c, .slice (ownA cb.key) cb.l.length cb.c] 40 (0, 0)) :: (wa.key, sob ET 9 wa.l wa.sp) :: (wb.key, sob ET 9 wb.l wb.sp) :: (sa.key, sob ET 9 sa.l sa.sp) :: (sb.key, sob ET 9 sb.l sb.sp) :: (ca.key, sob ET 9 ca.l ca.sp) :: (cb.key, sob ET 9 cb.l cb.sp) :: (endR 30 53 89 bA u ++ (endR 30 53 89 bB e140 ++ F146))) | 1, [v0] => ∃ (b158 : Nat), v0 = .slice (ownA (some b158)) 1 1 ∧ Sl ET (some b158) ([cont z] : List (List (BitVec 8))) 1 ([]) ∧ Hp No w₀ w' (((some b158), sob ET 9 ([cont z] : List (List (BitVec 8))) ([])) :: (key124, sob E8 5 (cont z) sp126) :: (some bO, .cells #[i64 (((xl).getD z oq0).kd), i64 (((xl).getD z oq0).i), i64 (((xl).getD z oq0).bit), .slice (((xl).getD z oq0).fr.a) ((cont z).length) (((xl).getD z oq0).fr.c)] 51 (0, 0)) :: (some bE, .cells #[.pointer (some ⟨bA, 0, none⟩), .pointer (some ⟨bB, 0, none⟩)] 49 (0, 0)) :: (some bW, .cells #[.slice (ownA wa.key) wa.l.length wa.c, .slice (ownA wb.key) wb.l.length wb.c] 40 (0, 0)) :: (some bS, .cells #[.slice (ownA sa.key) sa.l.length sa.c, .slice (ownA sb.key) sb.l.length sb.c] 40 (0, 0)) :: (some bC, .cells #[.slice (ownA ca.key) ca.l.length ca.c, .slice (ownA cb.key) cb.l.length cb.c] 40 (0, 0)) :: (wa.key, sob ET 9 wa.l wa.sp) :: (wb.key, sob ET 9 wb.l wb.sp) :: (sa.key, sob ET 9 sa.l sa.sp) :: (sb.key, sob ET 9 sb.l sb.sp) :: (ca.key, sob ET 9 ca.l ca.sp) :: (cb.key, sob ET 9 cb.l cb.sp) :: (endR 30 53 89 bA u ++ (endR 30 53 89 bB e140 ++ F146))) | 2, [v0, v1] => ∃ (b158 : Nat) (key166 : Option Nat) (c167 : Nat) (sp168 : List Value), v0 = .slice (ownA (some b158)) 1 1 ∧ v1 = .slice (ownA key166) (sb.l.length + 1) c167 ∧ Sl ET (some b158) ([cont z] : List (List (BitVec 8))) 1 ([]) ∧ Sl ET key166 (sb.l ++ ([cont z] : List (List (BitVec 8)))) c167 sp168 ∧ Hp No w₀ w' (((some b158), sob ET 9 ([cont z] : List (List (BitVec 8))) ([])) :: (key124, sob E8 5 (cont z) sp126) :: (some bO, .cells #[i64 (((xl).getD z oq0).kd), i64 (((xl).getD z oq0).i), i64 (((xl).getD z oq0).bit), .slice (((xl).getD z oq0).fr.a) ((cont z).length) (((xl).getD z oq0).fr.c)] 51 (0, 0)) :: (some bE, .cells #[.pointer (some ⟨bA, 0, none⟩), .pointer (some ⟨bB, 0, none⟩)] 49 (0, 0)) :: (some bW, .cells #[.slice (ownA wa.key) wa.l.length wa.c, .slice (ownA wb.key) wb.l.length wb.c] 40 (0, 0)) :: (some bS, .cells #[.slice (ownA sa.key) sa.l.length sa.c, .slice (ownA sb.key) sb.l.length sb.c] 40 (0, 0)) :: (some bC, .cells #[.slice (ownA ca.key) ca.l.length ca.c, .slice (ownA cb.key) cb.l.length cb.c] 40 (0, 0)) :: (wa.key, sob ET 9 wa.l wa.sp) :: (wb.key, sob ET 9 wb.l wb.sp) :: (sa.key, sob ET 9 sa.l sa.sp) :: (key166, sob ET 9 (sb.l ++ ([cont z] : List (List (BitVec 8)))) sp168) :: (ca.key, sob ET 9 ca.l ca.sp) :: (cb.key, sob ET 9 cb.l cb.sp) :: (endR 30 53 89 bA u ++ (endR 30 53 89 bB e140 ++ F146))) | 3, [v0, v1, _] => ∃ (b158 : Nat) (key166 : Option Nat) (c167 : Nat) (sp168 : List Value), v0 = .slice (ownA (some b158)) 1 1 ∧ v1 = .slice (ownA key166) (sb.l.length + 1) c167 ∧ True ∧ Sl ET (some b158) ([cont z] : List (List (BitVec 8))) 1 ([]) ∧ Sl ET key166 (sb.l ++ ([cont z] : List (List (BitVec 8)))) c167 sp168 ∧ Hp No w₀ w' (((some b158), sob ET 9 ([cont z] : List (List (BitVec 8))) ([])) :: (key124, sob E8 5 (cont z) sp126) :: (some bO, .cells #[i64 (((xl).getD z oq0).kd), i64 (((xl).getD z oq0).i), i64 (((xl).getD z oq0).bit), .slice (((xl).getD z oq0).fr.a) ((cont z).length) (((xl).getD z oq0).fr.c)] 51 (0, 0)) :: (some bE, .cells #[.pointer (some ⟨bA, 0, none⟩), .pointer (some ⟨bB, 0, none⟩)] 49 (0, 0)) :: (some bW, .cells #[.slice (ownA wa.key) wa.l.length wa.c, .slice (ownA wb.key) wb.l.length wb.c] 40 (0, 0)) :: (some bS, .cells #[.slice (ownA sa.key) sa.l.length sa.c, .slice (ownA key166) (sb.l.length + 1) c167] 40 (0, 0)) :: (some bC, .cells #[.slice (ownA ca.key) ca.l.length ca.c, .slice (ownA cb.key) cb.l.length cb.c] 40 (0, 0)) :: (wa.key, sob ET 9 wa.l wa.sp) :: (wb.key, sob ET 9 wb.l wb.sp) :: (sa.key, sob ET 9 sa.l sa.sp) :: (key166, sob ET 9 (sb.l ++ ([cont z] : List (List (BitVec 8)))) sp168) :: (ca.key, sob ET 9 ca.l ca.sp) :: (cb.key, sob ET 9 cb.l cb.sp) :: (endR 30 53 89 bA u ++ (endR 30 53 89 bB e140 ++ F146))) | _, _ => False) mixed (by kernel_rfl) (by kernel_rfl) H153.drew ?_
          refine WalkC.look rfl (fun _ => i64 ((1 : Nat))) (fun _ _ _ => rfl) (fun q r uw _ _ _ _ => Gives.run rfl (r_move (v := i64 ((1 : Nat))) rfl) ⟨rfl, rfl⟩) ?_
          refine WalkC.look rfl (fun _ => i64 ((1 : Nat))) (fun _ _ _ => rfl) (fun q r uw _ _ _ _ => Gives.run rfl (r_move (v := i64 ((1 : Nat))) rfl) ⟨rfl, rfl⟩) ?_
          refine WalkC.look rfl (fun _ => .pointer (some ⟨bS, 1, none⟩)) (fun _ _ _ => rfl) (fun q r uw _ _ _ _ => Gives.run rfl (r_indexA (off' := 1) (j := 1) arr40 (b := bS) (off := 0) rfl rfl (by first | rfl | omega | (simp; omega)) (by omega) (by omega)) ⟨rfl, rfl⟩) ?_
          refine WalkC.look rfl (fun _ => .slice (ownA sb.key) sb.l.length sb.c) (fun _ _ _ => rfl) (fun q r uw hlo hhi hle hF => ?_) ?_
          · skip
            have h1 : 0 ≤ q := Nat.zero_le _
            have h2 : q ≤ 1 := hhi 1 8 rfl rfl
            rcases (show q = 0 ∨ q = 1 by omega) with rfl | rfl
            · skip
              have HH := hF
              exact Gives.run rfl (r_loadC (v := .slice (ownA sb.key) sb.l.length sb.c) one39 (HH.get (k := 4) rfl) (off := 1) rfl (by rfl)) ⟨rfl, rfl⟩
            · skip
              obtain ⟨b158, e7, hS159, HH⟩ := hF
              exact Gives.run rfl (r_loadC (v := .slice (ownA sb.key) sb.l.length sb.c) one39 (HH.get (k := 5) rfl) (off := 1) rfl (by rfl)) ⟨rfl, rfl⟩
          refine WalkC.look rfl (fun _ => .pointer (some ⟨bO, 3, none⟩)) (fun _ _ _ => rfl) (fun q r uw _ _ _ _ => Gives.run rfl (r_fieldAddr (off' := 3) fld51_3 (by decide) (b := bO) (off := 0) rfl (by omega)) ⟨rfl, rfl⟩) ?_
          refine WalkC.look rfl (fun _ => .slice (((xl).getD z oq0).fr.a) ((cont z).length) (((xl).getD z oq0).fr.c)) (fun _ _ _ => rfl) (fun q r uw hlo hhi hle hF => ?_) ?_
          · skip
            have h1 : 0 ≤ q := Nat.zero_le _
            have h2 : q ≤ 0 := hhi 0 7 rfl rfl
            rcases (show q = 0 by omega) with rfl
            · skip
              have HH := hF
              exact Gives.run rfl (r_loadC (v := .slice (((xl).getD z oq0).fr.a) ((cont z).length) (((xl).getD z oq0).fr.c)) one30 (HH.get (k := 1) rfl) (off := 3) rfl (by rfl)) ⟨rfl, rfl⟩
          refine WalkC.look rfl (fun _ => .string (strB (cont z))) (fun _ _ _ => rfl) (fun q r uw hlo hhi hle hF => ?_) ?_
          · skip
            have h1 : 0 ≤ q := Nat.zero_le _
            have h2 : q ≤ 0 := hhi 0 7 rfl rfl
            rcases (show q = 0 by omega) with rfl
            · skip
              have HH := hF
              exact Gives.run rfl (r_toStr (l := cont z) und30 und5 und9 ((hop z (by omega)).2.2.1.ext HH.chg) rfl (by rfl)) ⟨rfl, rfl⟩
          refine WalkC.eff 0 rfl (fun r uw155 hF157 => ?_) ?_
          · skip
            have H156 := hF157
            dsimp only [List.take, List.map, List.cons_append, List.nil_append]
            refine Gives.ofW (d := 113) rfl rfl (fun Q' hK => ?_)
            refine q_buildSlice (E := ET) (l := ([cont z] : List (List (BitVec 8)))) H156 sli39 zer9 (Nat.le_of_ble_eq_true rfl) (ps := [(0, .string (strB (cont z)))]) rfl (by exact fillAll rfl rfl) rfl ?_
            intro b158 w160 hS159 H161 hE162
            exact hK _ _ ⟨b158, rfl, hS159, H161⟩
          refine WalkC.eff 1 rfl (fun r uw163 hF165 => ?_) ?_
          · skip
            obtain ⟨b158, e7, hS159, H164⟩ := hF165
            dsimp only [List.take, List.map, List.cons_append, List.nil_append]
            rw [e7]
            refine Gives.ofW (d := 114) rfl rfl (fun Q' hK => ?_)
            refine q_append (E := ET) (k := 10) (l := sb.l) (l2 := ([cont z] : List (List (BitVec 8)))) H164 rfl hs.t3 sli39 zer9 rfl byt9 (H164.rd (k := 0) rfl hS159) rfl (by rfl) rfl (by rfl) (by omega) ?_
            intro key166 c167 sp168 w170 hS169 hne172 H171
            have H171' := H171.as (L' := (((some b158), sob ET 9 ([cont z] : List (List (BitVec 8))) ([])) :: (key124, sob E8 5 (cont z) sp126) :: (some bO, .cells #[i64 (((xl).getD z oq0).kd), i64 (((xl).getD z oq0).i), i64 (((xl).getD z oq0).bit), .slice (((xl).getD z oq0).fr.a) ((cont z).length) (((xl).getD z oq0).fr.c)] 51 (0, 0)) :: (some bE, .cells #[.pointer (some ⟨bA, 0, none⟩), .pointer (some ⟨bB, 0, none⟩)] 49 (0, 0)) :: (some bW, .cells #[.slice (ownA wa.key) wa.l.length wa.c, .slice (ownA wb.key) wb.l.length wb.c] 40 (0, 0)) :: (some bS, .cells #[.slice (ownA sa.key) sa.l.length sa.c, .slice (ownA sb.key) sb.l.length sb.c] 40 (0, 0)) :: (some bC, .cells #[.slice (ownA ca.key) ca.l.length ca.c, .slice (ownA cb.key) cb.l.length cb.c] 40 (0, 0)) :: (wa.key, sob ET 9 wa.l wa.sp) :: (wb.key, sob ET 9 wb.l wb.sp) :: (sa.key, sob ET 9 sa.l sa.sp) :: (key166, sob ET 9 (sb.l ++ ([cont z] : List (List (BitVec 8)))) sp168) :: (ca.key, sob ET 9 ca.l ca.sp) :: (cb.key, sob ET 9 cb.l cb.sp) :: (endR 30 53 89 bA u ++ (endR 30 53 89 bB e140 ++ F146)))) rfl
            clear H171
            exact hK _ _ ⟨b158, key166, c167, sp168, rfl, rfl, hS159, hS169, H171'⟩
          refine WalkC.look rfl (fun _ => .pointer (some ⟨bS, 1, none⟩)) (fun _ _ _ => rfl) (fun q r uw _ _ _ _ => Gives.run rfl (r_indexA (off' := 1) (j := 1) arr40 (b := bS) (off := 0) rfl rfl (by first | rfl | omega | (simp; omega)) (by omega) (by omega)) ⟨rfl, rfl⟩) ?_
          refine WalkC.eff 2 rfl (fun r uw173 hF175 => ?_) ?_
          · skip
            obtain ⟨b158, key166, c167, sp168, e7, e8, hS159, hS169, H174⟩ := hF175
            dsimp only [List.take, List.map, List.cons_append, List.nil_append]
            rw [e7, e8]
            refine Gives.ofW0 rfl (fun Q' hK => ?_)
            refine d_store (k := 5) (v := .slice (ownA key166) (sb.l.length + 1) c167) (cs' := #[.slice (ownA sa.key) sa.l.length sa.c, .slice (ownA key166) (sb.l.length + 1) c167]) H174 rfl rfl rfl siz39 (by rfl) (by intro u hu; simp [Value.cells] at hu; first | (subst hu; rfl) | (rcases hu with rfl <;> rfl)) (by exact Nat.le_of_ble_eq_true rfl) (by rfl) ?_
            intro w176 H177 hC178
            have H177' := H177.as (L' := (((some b158), sob ET 9 ([cont z] : List (List (BitVec 8))) ([])) :: (key124, sob E8 5 (cont z) sp126) :: (some bO, .cells #[i64 (((xl).getD z oq0).kd), i64 (((xl).getD z oq0).i), i64 (((xl).getD z oq0).bit), .slice (((xl).getD z oq0).fr.a) ((cont z).length) (((xl).getD z oq0).fr.c)] 51 (0, 0)) :: (some bE, .cells #[.pointer (some ⟨bA, 0, none⟩), .pointer (some ⟨bB, 0, none⟩)] 49 (0, 0)) :: (some bW, .cells #[.slice (ownA wa.key) wa.l.length wa.c, .slice (ownA wb.key) wb.l.length wb.c] 40 (0, 0)) :: (some bS, .cells #[.slice (ownA sa.key) sa.l.length sa.c, .slice (ownA key166) (sb.l.length + 1) c167] 40 (0, 0)) :: (some bC, .cells #[.slice (ownA ca.key) ca.l.length ca.c, .slice (ownA cb.key) cb.l.length cb.c] 40 (0, 0)) :: (wa.key, sob ET 9 wa.l wa.sp) :: (wb.key, sob ET 9 wb.l wb.sp) :: (sa.key, sob ET 9 sa.l sa.sp) :: (key166, sob ET 9 (sb.l ++ ([cont z] : List (List (BitVec 8)))) sp168) :: (ca.key, sob ET 9 ca.l ca.sp) :: (cb.key, sob ET 9 cb.l cb.sp) :: (endR 30 53 89 bA u ++ (endR 30 53 89 bB e140 ++ F146)))) rfl
            clear H177
            exact hK _ (fun _ => ⟨b158, key166, c167, sp168, rfl, rfl, trivial, hS159, hS169, H177'⟩)
          refine WalkC.nil ?_
          intro r179 w180 hF182
          obtain ⟨b158, key166, c167, sp168, e7, e8, e10, hS159, hS169, H181⟩ := hF182
          dsimp only
          rw [e7, e8]
          refine wnil ?_
          refine blockNormal ?_
          refine thenNormal ?_
          rw [show sb.l.length + 1 = (sb.l ++ ([cont z] : List (List (BitVec 8)))).length from by first | (rw [List.length_append, List.length_singleton]; done) | (rw [List.length_set]; done) | (rw [List.length_eraseIdx_of_lt hjl]; omega)] at H181
          have hh183 : Half (z + 1) (abs e140) wb.l (sb.l ++ ([cont z] : List (List (BitVec 8)))) cb.l sa.l := by rw [hab144]; exact hs.hb.send (cont z)
          have hh184 : Half (z + 1) (abs u) wa.l sa.l ca.l (sb.l ++ ([cont z] : List (List (BitVec 8)))) := hs.ha.other (cont z)
          exact hj (u, e140, F146, ⟨wa.key, wa.c, wa.sp, wa.l⟩, ⟨wb.key, wb.c, wb.sp, wb.l⟩, ⟨sa.key, sa.c, sa.sp, sa.l⟩, ⟨key166, c167, sp168, sb.l ++ ([cont z] : List (List (BitVec 8)))⟩, ⟨ca.key, ca.c, ca.sp, ca.l⟩, ⟨cb.key, cb.c, cb.sp, cb.l⟩) _ _ ⟨rfl, rfl, rfl, rfl, rfl, rfl, trivial⟩ ⟨⟨ok150, hok143, ⟨hh184, hh183, hs.t0, hs.t1, hs.t2, hS169, hs.t4, hs.t5⟩⟩, (((H181.dropk 2).dropk 1).dropk 0)⟩
        · skip
          refine drawC (m := 9) [0, 1, 3, 0, 0, 16, 56, 127, 255] [3, 6, 7] (fun q vs w' => match q, vs with | 0, [] => Hp No w₀ w' ((some bO, .cells #[i64 (((xl).getD z oq0).kd), i64 (((xl).getD z oq0).i), i64 (((xl).getD z oq0).bit), .slice (((xl).getD z oq0).fr.a) ((cont z).length) (((xl).getD z oq0).fr.c)] 51 (0, 0)) :: (some bE, .cells #[.pointer (some ⟨bA, 0, none⟩), .pointer (some ⟨bB, 0, none⟩)] 49 (0, 0)) :: (some bW, .cells #[.slice (ownA wa.key) wa.l.length wa.c, .slice (ownA wb.key) wb.l.length wb.c] 40 (0, 0)) :: (some bS, .cells #[.slice (ownA sa.key) sa.l.length sa.c, .slice (ownA sb.key) sb.l.length sb.c] 40 (0, 0)) :: (some bC, .cells #[.slice (ownA ca.key) ca.l.length ca.c, .slice (ownA cb.key) cb.l.length cb.c] 40 (0, 0)) :: (wa.key, sob ET 9 wa.l wa.sp) :: (wb.key, sob ET 9 wb.l wb.sp) :: (sa.key, sob ET 9 sa.l sa.sp) :: (sb.key, sob ET 9 sb.l sb.sp) :: (ca.key, sob ET 9 ca.l ca.sp) :: (cb.key, sob ET 9 cb.l cb.sp) :: (endR 30 53 89 bA u ++ (endR 30 53 89 bB v ++ G))) | 1, [v0] => ∃ (b188 : Nat), v0 = .slice (ownA (some b188)) 0 0 ∧ Sl E8 (some b188) ([]) 0 ([]) ∧ Hp No w₀ w' (((some b188), sob E8 5 ([]) ([])) :: (some bO, .cells #[i64 (((xl).getD z oq0).kd), i64 (((xl).getD z oq0).i), i64 (((xl).getD z oq0).bit), .slice (((xl).getD z oq0).fr.a) ((cont z).length) (((xl).getD z oq0).fr.c)] 51 (0, 0)) :: (some bE, .cells #[.pointer (some ⟨bA, 0, none⟩), .pointer (some ⟨bB, 0, none⟩)] 49 (0, 0)) :: (some bW, .cells #[.slice (ownA wa.key) wa.l.length wa.c, .slice (ownA wb.key) wb.l.length wb.c] 40 (0, 0)) :: (some bS, .cells #[.slice (ownA sa.key) sa.l.length sa.c, .slice (ownA sb.key) sb.l.length sb.c] 40 (0, 0)) :: (some bC, .cells #[.slice (ownA ca.key) ca.l.length ca.c, .slice (ownA cb.key) cb.l.length cb.c] 40 (0, 0)) :: (wa.key, sob ET 9 wa.l wa.sp) :: (wb.key, sob ET 9 wb.l wb.sp) :: (sa.key, sob ET 9 sa.l sa.sp) :: (sb.key, sob ET 9 sb.l sb.sp) :: (ca.key, sob ET 9 ca.l ca.sp) :: (cb.key, sob ET 9 cb.l cb.sp) :: (endR 30 53 89 bA u ++ (endR 30 53 89 bB v ++ G))) | 2, [v0, v1] => ∃ (b188 : Nat) (key196 : Option Nat) (c197 : Nat) (sp198 : List Value), v0 = .slice (ownA (some b188)) 0 0 ∧ v1 = .slice (ownA key196) (0 + ((cont z).length)) c197 ∧ Sl E8 key196 (cont z) c197 sp198 ∧ Hp No w₀ w' ((key196, sob E8 5 (cont z) sp198) :: (some bO, .cells #[i64 (((xl).getD z oq0).kd), i64 (((xl).getD z oq0).i), i64 (((xl).getD z oq0).bit), .slice (((xl).getD z oq0).fr.a) ((cont z).length) (((xl).getD z oq0).fr.c)] 51 (0, 0)) :: (some bE, .cells #[.pointer (some ⟨bA, 0, none⟩), .pointer (some ⟨bB, 0, none⟩)] 49 (0, 0)) :: (some bW, .cells #[.slice (ownA wa.key) wa.l.length wa.c, .slice (ownA wb.key) wb.l.length wb.c] 40 (0, 0)) :: (some bS, .cells #[.slice (ownA sa.key) sa.l.length sa.c, .slice (ownA sb.key) sb.l.length sb.c] 40 (0, 0)) :: (some bC, .cells #[.slice (ownA ca.key) ca.l.length ca.c, .slice (ownA cb.key) cb.l.length cb.c] 40 (0, 0)) :: (wa.key, sob ET 9 wa.l wa.sp) :: (wb.key, sob ET 9 wb.l wb.sp) :: (sa.key, sob ET 9 sa.l sa.sp) :: (sb.key, sob ET 9 sb.l sb.sp) :: (ca.key, sob ET 9 ca.l ca.sp) :: (cb.key, sob ET 9 cb.l cb.sp) :: (endR 30 53 89 bA u ++ (endR 30 53 89 bB v ++ G))) | 3, [v0, v1, v2] => ∃ (b188 : Nat) (key196 : Option Nat) (c197 : Nat) (sp198 : List Value) (T212 : TypeId) (x213 : Value), v0 = .slice (ownA (some b188)) 0 0 ∧ v1 = .slice (ownA key196) (0 + ((cont z).length)) c197 ∧ v2 = .iface T212 (x213) ∧ Sl E8 key196 (cont z) c197 sp198 ∧ Hp No w₀ w' ((key196, sob E8 5 (cont z) sp198) :: (some bO, .cells #[i64 (((xl).getD z oq0).kd), i64 (((xl).getD z oq0).i), i64 (((xl).getD z oq0).bit), .slice (((xl).getD z oq0).fr.a) ((cont z).length) (((xl).getD z oq0).fr.c)] 51 (0, 0)) :: (some bE, .cells #[.pointer (some ⟨bA, 0, none⟩), .pointer (some ⟨bB, 0, none⟩)] 49 (0, 0)) :: (some bW, .cells #[.slice (ownA wa.key) wa.l.length wa.c, .slice (ownA wb.key) wb.l.length wb.c] 40 (0, 0)) :: (some bS, .cells #[.slice (ownA sa.key) sa.l.length sa.c, .slice (ownA sb.key) sb.l.length sb.c] 40 (0, 0)) :: (some bC, .cells #[.slice (ownA ca.key) ca.l.length ca.c, .slice (ownA cb.key) cb.l.length cb.c] 40 (0, 0)) :: (wa.key, sob ET 9 wa.l wa.sp) :: (wb.key, sob ET 9 wb.l wb.sp) :: (sa.key, sob ET 9 sa.l sa.sp) :: (sb.key, sob ET 9 sb.l sb.sp) :: (ca.key, sob ET 9 ca.l ca.sp) :: (cb.key, sob ET 9 cb.l cb.sp) :: (endR 30 53 89 bA u ++ (endR 30 53 89 bB v ++ G))) | _, _ => False) mixed (by kernel_rfl) (by kernel_rfl) H3.drew ?_
          refine WalkC.look rfl (fun _ => i64 ((1 : Nat))) (fun _ _ _ => rfl) (fun q r uw _ _ _ _ => Gives.run rfl (r_move (v := i64 ((1 : Nat))) rfl) ⟨rfl, rfl⟩) ?_
          refine WalkC.look rfl (fun _ => .pointer (some ⟨bE, 1, none⟩)) (fun _ _ _ => rfl) (fun q r uw _ _ _ _ => Gives.run rfl (r_indexA (off' := 1) (j := 1) arr49 (b := bE) (off := 0) rfl rfl (by first | rfl | omega | (simp; omega)) (by omega) (by omega)) ⟨rfl, rfl⟩) ?_
          refine WalkC.look rfl (fun _ => .pointer (some ⟨bB, 0, none⟩)) (fun _ _ _ => rfl) (fun q r uw hlo hhi hle hF => ?_) ?_
          · skip
            have h1 : 0 ≤ q := Nat.zero_le _
            have h2 : q ≤ 2 := hhi 2 7 rfl rfl
            rcases (show q = 0 ∨ q = 1 ∨ q = 2 by omega) with rfl | rfl | rfl
            · skip
              have HH := hF
              exact Gives.run rfl (r_loadC (v := .pointer (some ⟨bB, 0, none⟩)) one47 (HH.get (k := 1) rfl) (off := 1) rfl (by rfl)) ⟨rfl, rfl⟩
            · skip
              obtain ⟨b188, e3, hS189, HH⟩ := hF
              exact Gives.run rfl (r_loadC (v := .pointer (some ⟨bB, 0, none⟩)) one47 (HH.get (k := 2) rfl) (off := 1) rfl (by rfl)) ⟨rfl, rfl⟩
            · skip
              obtain ⟨b188, key196, c197, sp198, e3, e6, hS204, HH⟩ := hF
              exact Gives.run rfl (r_loadC (v := .pointer (some ⟨bB, 0, none⟩)) one47 (HH.get (k := 2) rfl) (off := 1) rfl (by rfl)) ⟨rfl, rfl⟩
          refine WalkC.eff 0 rfl (fun r uw185 hF187 => ?_) ?_
          · skip
            have H186 := hF187
            dsimp only [List.take, List.map, List.cons_append, List.nil_append]
            refine Gives.ofW (d := 100) rfl rfl (fun Q' hK => ?_)
            refine q_buildSlice (E := E8) (l := []) H186 sli30 zer5 (Nat.le_of_ble_eq_true rfl) (ps := []) rfl (by exact fillAll rfl rfl) rfl ?_
            intro b188 w190 hS189 H191 hE192
            exact hK _ _ ⟨b188, rfl, hS189, H191⟩
          refine WalkC.look rfl (fun _ => .pointer (some ⟨bO, 3, none⟩)) (fun _ _ _ => rfl) (fun q r uw _ _ _ _ => Gives.run rfl (r_fieldAddr (off' := 3) fld51_3 (by decide) (b := bO) (off := 0) rfl (by omega)) ⟨rfl, rfl⟩) ?_
          refine WalkC.look rfl (fun _ => .slice (((xl).getD z oq0).fr.a) ((cont z).length) (((xl).getD z oq0).fr.c)) (fun _ _ _ => rfl) (fun q r uw hlo hhi hle hF => ?_) ?_
          · skip
            have h1 : 0 ≤ q := Nat.zero_le _
            have h2 : q ≤ 1 := hhi 1 6 rfl rfl
            rcases (show q = 0 ∨ q = 1 by omega) with rfl | rfl
            · skip
              have HH := hF
              exact Gives.run rfl (r_loadC (v := .slice (((xl).getD z oq0).fr.a) ((cont z).length) (((xl).getD z oq0).fr.c)) one30 (HH.get (k := 0) rfl) (off := 3) rfl (by rfl)) ⟨rfl, rfl⟩
            · skip
              obtain ⟨b188, e3, hS189, HH⟩ := hF
              exact Gives.run rfl (r_loadC (v := .slice (((xl).getD z oq0).fr.a) ((cont z).length) (((xl).getD z oq0).fr.c)) one30 (HH.get (k := 1) rfl) (off := 3) rfl (by rfl)) ⟨rfl, rfl⟩
          refine WalkC.eff 1 rfl (fun r uw193 hF195 => ?_) ?_
          · skip
            obtain ⟨b188, e3, hS189, H194⟩ := hF195
            dsimp only [List.take, List.map, List.cons_append, List.nil_append]
            rw [e3]
            refine Gives.ofW (d := 103) rfl rfl (fun Q' hK => ?_)
            refine q_append (E := E8) (k := 0) (l := []) (l2 := cont z) H194 rfl hS189 sli30 zer5 rfl byt5 ((hop z (by omega)).2.2.1.ext H194.chg) rfl (by rfl) rfl (by rfl) (by have := (hop z (by omega)).2.2.2; omega) ?_
            intro key196 c197 sp198 w200 hS199 hne202 H201
            have H201' := H201.as (L' := ((key196, sob E8 5 (([]) ++ (cont z)) sp198) :: (some bO, .cells #[i64 (((xl).getD z oq0).kd), i64 (((xl).getD z oq0).i), i64 (((xl).getD z oq0).bit), .slice (((xl).getD z oq0).fr.a) ((cont z).length) (((xl).getD z oq0).fr.c)] 51 (0, 0)) :: (some bE, .cells #[.pointer (some ⟨bA, 0, none⟩), .pointer (some ⟨bB, 0, none⟩)] 49 (0, 0)) :: (some bW, .cells #[.slice (ownA wa.key) wa.l.length wa.c, .slice (ownA wb.key) wb.l.length wb.c] 40 (0, 0)) :: (some bS, .cells #[.slice (ownA sa.key) sa.l.length sa.c, .slice (ownA sb.key) sb.l.length sb.c] 40 (0, 0)) :: (some bC, .cells #[.slice (ownA ca.key) ca.l.length ca.c, .slice (ownA cb.key) cb.l.length cb.c] 40 (0, 0)) :: (wa.key, sob ET 9 wa.l wa.sp) :: (wb.key, sob ET 9 wb.l wb.sp) :: (sa.key, sob ET 9 sa.l sa.sp) :: (sb.key, sob ET 9 sb.l sb.sp) :: (ca.key, sob ET 9 ca.l ca.sp) :: (cb.key, sob ET 9 cb.l cb.sp) :: (endR 30 53 89 bA u ++ (endR 30 53 89 bB v ++ G)))) rfl
            clear H201
            have e203 : ([]) ++ (cont z) = cont z := by rw [List.nil_append]
            have hS204 := hS199
            rw [e203] at hS204
            have H205 := H201'.as (L' := ((key196, sob E8 5 (cont z) sp198) :: (some bO, .cells #[i64 (((xl).getD z oq0).kd), i64 (((xl).getD z oq0).i), i64 (((xl).getD z oq0).bit), .slice (((xl).getD z oq0).fr.a) ((cont z).length) (((xl).getD z oq0).fr.c)] 51 (0, 0)) :: (some bE, .cells #[.pointer (some ⟨bA, 0, none⟩), .pointer (some ⟨bB, 0, none⟩)] 49 (0, 0)) :: (some bW, .cells #[.slice (ownA wa.key) wa.l.length wa.c, .slice (ownA wb.key) wb.l.length wb.c] 40 (0, 0)) :: (some bS, .cells #[.slice (ownA sa.key) sa.l.length sa.c, .slice (ownA sb.key) sb.l.length sb.c] 40 (0, 0)) :: (some bC, .cells #[.slice (ownA ca.key) ca.l.length ca.c, .slice (ownA cb.key) cb.l.length cb.c] 40 (0, 0)) :: (wa.key, sob ET 9 wa.l wa.sp) :: (wb.key, sob ET 9 wb.l wb.sp) :: (sa.key, sob ET 9 sa.l sa.sp) :: (sb.key, sob ET 9 sb.l sb.sp) :: (ca.key, sob ET 9 ca.l ca.sp) :: (cb.key, sob ET 9 cb.l cb.sp) :: (endR 30 53 89 bA u ++ (endR 30 53 89 bB v ++ G)))) (by rw [e203])
            exact hK _ _ ⟨b188, key196, c197, sp198, rfl, rfl, hS204, H205⟩
          refine WalkC.eff 2 rfl (fun r uw206 hF208 => ?_) ?_
          · skip
            obtain ⟨b188, key196, c197, sp198, e3, e6, hS204, H207⟩ := hF208
            dsimp only [List.take, List.map, List.cons_append, List.nil_append]
            rw [e3, e6]
            refine Gives.ofW (d := 104) rfl rfl (fun Q' hK => ?_)
            have H209 := Hp.midB (R := [(key196, sob E8 5 (cont z) sp198), (some bO, .cells #[i64 (((xl).getD z oq0).kd), i64 (((xl).getD z oq0).i), i64 (((xl).getD z oq0).bit), .slice (((xl).getD z oq0).fr.a) ((cont z).length) (((xl).getD z oq0).fr.c)] 51 (0, 0)), (some bE, .cells #[.pointer (some ⟨bA, 0, none⟩), .pointer (some ⟨bB, 0, none⟩)] 49 (0, 0)), (some bW, .cells #[.slice (ownA wa.key) wa.l.length wa.c, .slice (ownA wb.key) wb.l.length wb.c] 40 (0, 0)), (some bS, .cells #[.slice (ownA sa.key) sa.l.length sa.c, .slice (ownA sb.key) sb.l.length sb.c] 40 (0, 0)), (some bC, .cells #[.slice (ownA ca.key) ca.l.length ca.c, .slice (ownA cb.key) cb.l.length cb.c] 40 (0, 0)), (wa.key, sob ET 9 wa.l wa.sp), (wb.key, sob ET 9 wb.l wb.sp), (sa.key, sob ET 9 sa.l sa.sp), (sb.key, sob ET 9 sb.l sb.sp), (ca.key, sob ET 9 ca.l ca.sp), (cb.key, sob ET 9 cb.l cb.sp)]) (A := endR 30 53 89 bA u) (B := endR 30 53 89 bB v) (F := G) H207
            refine c_call (vs := [.pointer (some ⟨bB, 0, none⟩), .slice (ownA key196) (0 + ((cont z).length)) c197]) call25 rfl (send_no bB v G ([(key196, sob E8 5 (cont z) sp198), (some bO, .cells #[i64 (((xl).getD z oq0).kd), i64 (((xl).getD z oq0).i), i64 (((xl).getD z oq0).bit), .slice (((xl).getD z oq0).fr.a) ((cont z).length) (((xl).getD z oq0).fr.c)] 51 (0, 0)), (some bE, .cells #[.pointer (some ⟨bA, 0, none⟩), .pointer (some ⟨bB, 0, none⟩)] 49 (0, 0)), (some bW, .cells #[.slice (ownA wa.key) wa.l.length wa.c, .slice (ownA wb.key) wb.l.length wb.c] 40 (0, 0)), (some bS, .cells #[.slice (ownA sa.key) sa.l.length sa.c, .slice (ownA sb.key) sb.l.length sb.c] 40 (0, 0)), (some bC, .cells #[.slice (ownA ca.key) ca.l.length ca.c, .slice (ownA cb.key) cb.l.length cb.c] 40 (0, 0)), (wa.key, sob ET 9 wa.l wa.sp), (wb.key, sob ET 9 wb.l wb.sp), (sa.key, sob ET 9 sa.l sa.sp), (sb.key, sob ET 9 sb.l sb.sp), (ca.key, sob ET 9 ca.l ca.sp), (cb.key, sob ET 9 cb.l cb.sp)] ++ (endR 30 53 89 bA u ++ G)) hv (fun x h => List.mem_append_right _ (List.mem_append_right _ h)) w₀ uw206 H209 hG (cont z) (ownA key196) (0 + ((cont z).length)) c197 (by rw [Nat.zero_add]) hgo) ?_
            rintro _ w210 ⟨T212, x213, rfl, hE214⟩
            have H215 := H207.ext hE214
            exact hK _ _ ⟨b188, key196, c197, sp198, T212, x213, rfl, rfl, rfl, hS204, H215⟩
          refine WalkC.look rfl (fun _ => .bool (false)) (fun _ _ _ => rfl) (fun q r uw hlo hhi hle hF => ?_) ?_
          · skip
            have h1 : 3 ≤ q := hlo 2 7 rfl rfl
            have h2 : q ≤ 3 := hle
            rcases (show q = 3 by omega) with rfl
            · skip
              obtain ⟨b188, key196, c197, sp198, T212, x213, e3, e6, e7, hS204, HH⟩ := hF
              dsimp only
              rw [e7]
              exact Gives.run rfl (r_eqlIN isI28 rfl rfl) ⟨rfl, rfl⟩
          refine WalkC.nil ?_
          intro r216 w217 hF219
          obtain ⟨b188, key196, c197, sp198, T212, x213, e3, e6, e7, hS204, H218⟩ := hF219
          dsimp only
          rw [e3, e6, e7]
          refine wnil ?_
          refine thenNormal ?_
          refine condFalse rfl ?_
          refine skipAny ?_
          refine blockNormal ?_
          refine thenNormal ?_
          have hh220 : Half (z + 1) (abs v) wb.l sb.l cb.l sa.l := hs.hb.mono (Nat.le_succ z)
          have hh221 : Half (z + 1) (abs u) wa.l sa.l ca.l sb.l := hs.ha.mono (Nat.le_succ z)
          exact hj (u, v, G, ⟨wa.key, wa.c, wa.sp, wa.l⟩, ⟨wb.key, wb.c, wb.sp, wb.l⟩, ⟨sa.key, sa.c, sa.sp, sa.l⟩, ⟨sb.key, sb.c, sb.sp, sb.l⟩, ⟨ca.key, ca.c, ca.sp, ca.l⟩, ⟨cb.key, cb.c, cb.sp, cb.l⟩) _ _ ⟨rfl, rfl, rfl, rfl, rfl, rfl, trivial⟩ ⟨⟨hu, hv, ⟨hh221, hh220, hs.t0, hs.t1, hs.t2, hs.t3, hs.t4, hs.t5⟩⟩, ((H218.dropk 1).dropk 0)⟩
    · skip
      refine seqJoin (σ := Unit) (fun _ => [(0, .slice xa xl.length xc), (3, .pointer (some ⟨bE, 0, none⟩)), (4, .pointer (some ⟨bW, 0, none⟩)), (5, .pointer (some ⟨bS, 0, none⟩)), (6, .pointer (some ⟨bC, 0, none⟩)), (7, i64 ((z : Nat))), (8, .pointer (some ⟨bO, 0, none⟩)), (9, i64 ((1 : Nat))), (10, i64 (at_)), (116, .bool (decide (((xl).getD z oq0).kd = 4 ∧ 0 ≤ at_)))]) (fun _ w' => True ∧ Hp No w₀ w' ((some bO, .cells #[i64 (((xl).getD z oq0).kd), i64 (((xl).getD z oq0).i), i64 (((xl).getD z oq0).bit), .slice (((xl).getD z oq0).fr.a) ((cont z).length) (((xl).getD z oq0).fr.c)] 51 (0, 0)) :: (some bE, .cells #[.pointer (some ⟨bA, 0, none⟩), .pointer (some ⟨bB, 0, none⟩)] 49 (0, 0)) :: (some bW, .cells #[.slice (ownA wa.key) wa.l.length wa.c, .slice (ownA wb.key) wb.l.length wb.c] 40 (0, 0)) :: (some bS, .cells #[.slice (ownA sa.key) sa.l.length sa.c, .slice (ownA sb.key) sb.l.length sb.c] 40 (0, 0)) :: (some bC, .cells #[.slice (ownA ca.key) ca.l.length ca.c, .slice (ownA cb.key) cb.l.length cb.c] 40 (0, 0)) :: (wa.key, sob ET 9 wa.l wa.sp) :: (wb.key, sob ET 9 wb.l wb.sp) :: (sa.key, sob ET 9 sa.l sa.sp) :: (sb.key, sob ET 9 sb.l sb.sp) :: (ca.key, sob ET 9 ca.l ca.sp) :: (cb.key, sob ET 9 cb.l cb.sp) :: (endR 30 53 89 bA u ++ (endR 30 53 89 bB v ++ G)))) ?_ (fun hj222 => ?_)
      · skip
        rintro _ ρ w223 ⟨_, H224⟩
        refine condProp (((xl).getD z oq0).kd = 4 ∧ 0 ≤ at_) rfl (fun c116 => ?_) (fun c116 => ?_)
        · skip
          obtain ⟨j, rfl⟩ : ∃ j : Nat, at_ = (j : Int) := ⟨at_.toNat, by omega⟩
          have hjl : j < wb.l.length := by omega
          have hjc := hs.t1.cap
          have hfr := hs.hb.fr _ (getD_mem' hjl)
          refine drawC (m := 14) [0, 0, 2, 6, 0, 16, 48, 0, 240, 496, 1008, 2046, 4095, 8191] [10, 11, 13] (fun q vs w' => match q, vs with | 0, [] => Hp No w₀ w' ((some bO, .cells #[i64 (((xl).getD z oq0).kd), i64 (((xl).getD z oq0).i), i64 (((xl).getD z oq0).bit), .slice (((xl).getD z oq0).fr.a) ((cont z).length) (((xl).getD z oq0).fr.c)] 51 (0, 0)) :: (some bE, .cells #[.pointer (some ⟨bA, 0, none⟩), .pointer (some ⟨bB, 0, none⟩)] 49 (0, 0)) :: (some bW, .cells #[.slice (ownA wa.key) wa.l.length wa.c, .slice (ownA wb.key) wb.l.length wb.c] 40 (0, 0)) :: (some bS, .cells #[.slice (ownA sa.key) sa.l.length sa.c, .slice (ownA sb.key) sb.l.length sb.c] 40 (0, 0)) :: (some bC, .cells #[.slice (ownA ca.key) ca.l.length ca.c, .slice (ownA cb.key) cb.l.length cb.c] 40 (0, 0)) :: (wa.key, sob ET 9 wa.l wa.sp) :: (wb.key, sob ET 9 wb.l wb.sp) :: (sa.key, sob ET 9 sa.l sa.sp) :: (sb.key, sob ET 9 sb.l sb.sp) :: (ca.key, sob ET 9 ca.l ca.sp) :: (cb.key, sob ET 9 cb.l cb.sp) :: (endR 30 53 89 bA u ++ (endR 30 53 89 bB v ++ G))) | 1, [v0] => ∃ (b228 : Nat), v0 = .slice (ownA (some b228)) 1 1 ∧ Sl ET (some b228) ([(wb.l).getD j []] : List (List (BitVec 8))) 1 ([]) ∧ Hp No w₀ w' (((some b228), sob ET 9 ([(wb.l).getD j []] : List (List (BitVec 8))) ([])) :: (some bO, .cells #[i64 (((xl).getD z oq0).kd), i64 (((xl).getD z oq0).i), i64 (((xl).getD z oq0).bit), .slice (((xl).getD z oq0).fr.a) ((cont z).length) (((xl).getD z oq0).fr.c)] 51 (0, 0)) :: (some bE, .cells #[.pointer (some ⟨bA, 0, none⟩), .pointer (some ⟨bB, 0, none⟩)] 49 (0, 0)) :: (some bW, .cells #[.slice (ownA wa.key) wa.l.length wa.c, .slice (ownA wb.key) wb.l.length wb.c] 40 (0, 0)) :: (some bS, .cells #[.slice (ownA sa.key) sa.l.length sa.c, .slice (ownA sb.key) sb.l.length sb.c] 40 (0, 0)) :: (some bC, .cells #[.slice (ownA ca.key) ca.l.length ca.c, .slice (ownA cb.key) cb.l.length cb.c] 40 (0, 0)) :: (wa.key, sob ET 9 wa.l wa.sp) :: (wb.key, sob ET 9 wb.l wb.sp) :: (sa.key, sob ET 9 sa.l sa.sp) :: (sb.key, sob ET 9 sb.l sb.sp) :: (ca.key, sob ET 9 ca.l ca.sp) :: (cb.key, sob ET 9 cb.l cb.sp) :: (endR 30 53 89 bA u ++ (endR 30 53 89 bB v ++ G))) | 2, [v0, v1] => ∃ (b228 : Nat) (key236 : Option Nat) (c237 : Nat) (sp238 : List Value), v0 = .slice (ownA (some b228)) 1 1 ∧ v1 = .slice (ownA key236) (wb.l.length + 1) c237 ∧ Sl ET (some b228) ([(wb.l).getD j []] : List (List (BitVec 8))) 1 ([]) ∧ Sl ET key236 (wb.l ++ ([(wb.l).getD j []] : List (List (BitVec 8)))) c237 sp238 ∧ Hp No w₀ w' (((some b228), sob ET 9 ([(wb.l).getD j []] : List (List (BitVec 8))) ([])) :: (some bO, .cells #[i64 (((xl).getD z oq0).kd), i64 (((xl).getD z oq0).i), i64 (((xl).getD z oq0).bit), .slice (((xl).getD z oq0).fr.a) ((cont z).length) (((xl).getD z oq0).fr.c)] 51 (0, 0)) :: (some bE, .cells #[.pointer (some ⟨bA, 0, none⟩), .pointer (some ⟨bB, 0, none⟩)] 49 (0, 0)) :: (some bW, .cells #[.slice (ownA wa.key) wa.l.length wa.c, .slice (ownA wb.key) wb.l.length wb.c] 40 (0, 0)) :: (some bS, .cells #[.slice (ownA sa.key) sa.l.length sa.c, .slice (ownA sb.key) sb.l.length sb.c] 40 (0, 0)) :: (some bC, .cells #[.slice (ownA ca.key) ca.l.length ca.c, .slice (ownA cb.key) cb.l.length cb.c] 40 (0, 0)) :: (wa.key, sob ET 9 wa.l wa.sp) :: (key236, sob ET 9 (wb.l ++ ([(wb.l).getD j []] : List (List (BitVec 8)))) sp238) :: (sa.key, sob ET 9 sa.l sa.sp) :: (sb.key, sob ET 9 sb.l sb.sp) :: (ca.key, sob ET 9 ca.l ca.sp) :: (cb.key, sob ET 9 cb.l cb.sp) :: (endR 30 53 89 bA u ++ (endR 30 53 89 bB v ++ G))) | 3, [v0, v1, _] => ∃ (b228 : Nat) (key236 : Option Nat) (c237 : Nat) (sp238 : List Value), v0 = .slice (ownA (some b228)) 1 1 ∧ v1 = .slice (ownA key236) (wb.l.length + 1) c237 ∧ True ∧ Sl ET (some b228) ([(wb.l).getD j []] : List (List (BitVec 8))) 1 ([]) ∧ Sl ET key236 (wb.l ++ ([(wb.l).getD j []] : List (List (BitVec 8)))) c237 sp238 ∧ Hp No w₀ w' (((some b228), sob ET 9 ([(wb.l).getD j []] : List (List (BitVec 8))) ([])) :: (some bO, .cells #[i64 (((xl).getD z oq0).kd), i64 (((xl).getD z oq0).i), i64 (((xl).getD z oq0).bit), .slice (((xl).getD z oq0).fr.a) ((cont z).length) (((xl).getD z oq0).fr.c)] 51 (0, 0)) :: (some bE, .cells #[.pointer (some ⟨bA, 0, none⟩), .pointer (some ⟨bB, 0, none⟩)] 49 (0, 0)) :: (some bW, .cells #[.slice (ownA wa.key) wa.l.length wa.c, .slice (ownA key236) (wb.l.length + 1) c237] 40 (0, 0)) :: (some bS, .cells #[.slice (ownA sa.key) sa.l.length sa.c, .slice (ownA sb.key) sb.l.length sb.c] 40 (0, 0)) :: (some bC, .cells #[.slice (ownA ca.key) ca.l.length ca.c, .slice (ownA cb.key) cb.l.length cb.c] 40 (0, 0)) :: (wa.key, sob ET 9 wa.l wa.sp) :: (key236, sob ET 9 (wb.l ++ ([(wb.l).getD j []] : List (List (BitVec 8)))) sp238) :: (sa.key, sob ET 9 sa.l sa.sp) :: (sb.key, sob ET 9 sb.l sb.sp) :: (ca.key, sob ET 9 ca.l ca.sp) :: (cb.key, sob ET 9 cb.l cb.sp) :: (endR 30 53 89 bA u ++ (endR 30 53 89 bB v ++ G))) | _, _ => False) mixed (by kernel_rfl) (by kernel_rfl) H224.drew ?_
          refine WalkC.look rfl (fun _ => i64 ((1 : Nat))) (fun _ _ _ => rfl) (fun q r uw _ _ _ _ => Gives.run rfl (r_move (v := i64 ((1 : Nat))) rfl) ⟨rfl, rfl⟩) ?_
          refine WalkC.look rfl (fun _ => i64 ((1 : Nat))) (fun _ _ _ => rfl) (fun q r uw _ _ _ _ => Gives.run rfl (r_move (v := i64 ((1 : Nat))) rfl) ⟨rfl, rfl⟩) ?_
          refine WalkC.look rfl (fun _ => .pointer (some ⟨bW, 1, none⟩)) (fun _ _ _ => rfl) (fun q r uw _ _ _ _ => Gives.run rfl (r_indexA (off' := 1) (j := 1) arr40 (b := bW) (off := 0) rfl rfl (by first | rfl | omega | (simp; omega)) (by omega) (by omega)) ⟨rfl, rfl⟩) ?_
          refine WalkC.look rfl (fun _ => .slice (ownA wb.key) wb.l.length wb.c) (fun _ _ _ => rfl) (fun q r uw hlo hhi hle hF => ?_) ?_
          · skip
            have h1 : 0 ≤ q := Nat.zero_le _
            have h2 : q ≤ 1 := hhi 1 11 rfl rfl
            rcases (show q = 0 ∨ q = 1 by omega) with rfl | rfl
            · skip
              have HH := hF
              exact Gives.run rfl (r_loadC (v := .slice (ownA wb.key) wb.l.length wb.c) one39 (HH.get (k := 2) rfl) (off := 1) rfl (by rfl)) ⟨rfl, rfl⟩
            · skip
              obtain ⟨b228, e10, hS229, HH⟩ := hF
              exact Gives.run rfl (r_loadC (v := .slice (ownA wb.key) wb.l.length wb.c) one39 (HH.get (k := 3) rfl) (off := 1) rfl (by rfl)) ⟨rfl, rfl⟩
          refine WalkC.look rfl (fun _ => i64 ((1 : Nat))) (fun _ _ _ => rfl) (fun q r uw _ _ _ _ => Gives.run rfl (r_move (v := i64 ((1 : Nat))) rfl) ⟨rfl, rfl⟩) ?_
          refine WalkC.look rfl (fun _ => .pointer (some ⟨bW, 1, none⟩)) (fun _ _ _ => rfl) (fun q r uw _ _ _ _ => Gives.run rfl (r_indexA (off' := 1) (j := 1) arr40 (b := bW) (off := 0) rfl rfl (by first | rfl | omega | (simp; omega)) (by omega) (by omega)) ⟨rfl, rfl⟩) ?_
          refine WalkC.look rfl (fun _ => .slice (ownA wb.key) wb.l.length wb.c) (fun _ _ _ => rfl) (fun q r uw hlo hhi hle hF => ?_) ?_
          · skip
            have h1 : 0 ≤ q := Nat.zero_le _
            have h2 : q ≤ 0 := hhi 0 10 rfl rfl
            rcases (show q = 0 by omega) with rfl
            · skip
              have HH := hF
              exact Gives.run rfl (r_loadC (v := .slice (ownA wb.key) wb.l.length wb.c) one39 (HH.get (k := 2) rfl) (off := 1) rfl (by rfl)) ⟨rfl, rfl⟩
          refine WalkC.look rfl (fun _ => i64 ((j : Nat))) (fun _ _ _ => rfl) (fun q r uw _ _ _ _ => Gives.run rfl (r_move (v := i64 ((j : Nat))) rfl) ⟨rfl, rfl⟩) ?_
          refine WalkC.look rfl (fun _ => .pointer (adr (ownA wb.key) (j * 1))) (fun _ _ _ => rfl) (fun q r uw hlo hhi hle hF => ?_) ?_
          · skip
            have h1 : 0 ≤ q := Nat.zero_le _
            have h2 : q ≤ 0 := hhi 0 10 rfl rfl
            rcases (show q = 0 by omega) with rfl
            · skip
              have HH := hF
              exact Gives.run rfl (r_idxS (E := ET) (l := wb.l) (j := j) sli39 (HH.rd (k := 6) rfl hs.t1) rfl rfl (by first | rfl | omega | (simp; omega)) (by rfl) (by omega)) ⟨rfl, rfl⟩
          refine WalkC.look rfl (fun _ => .string (strB ((wb.l).getD j []))) (fun _ _ _ => rfl) (fun q r uw hlo hhi hle hF => ?_) ?_
          · skip
            have h1 : 0 ≤ q := Nat.zero_le _
            have h2 : q ≤ 0 := hhi 0 10 rfl rfl
            rcases (show q = 0 by omega) with rfl
            · skip
              have HH := hF
              exact Gives.run rfl (r_ldS (E := ET) (l := wb.l) (j := j) (v := (wb.l).getD j []) fits9 (HH.rd (k := 6) rfl hs.t1) rfl rfl (at_getD (by omega))) ⟨rfl, rfl⟩
          refine WalkC.eff 0 rfl (fun r uw225 hF227 => ?_) ?_
          · skip
            have H226 := hF227
            dsimp only [List.take, List.map, List.cons_append, List.nil_append]
            refine Gives.ofW (d := 134) rfl rfl (fun Q' hK => ?_)
            refine q_buildSlice (E := ET) (l := ([(wb.l).getD j []] : List (List (BitVec 8)))) H226 sli39 zer9 (Nat.le_of_ble_eq_true rfl) (ps := [(0, .string (strB ((wb.l).getD j [])))]) rfl (by exact fillAll rfl rfl) rfl ?_
            intro b228 w230 hS229 H231 hE232
            exact hK _ _ ⟨b228, rfl, hS229, H231⟩
          refine WalkC.eff 1 rfl (fun r uw233 hF235 => ?_) ?_
          · skip
            obtain ⟨b228, e10, hS229, H234⟩ := hF235
            dsimp only [List.take, List.map, List.cons_append, List.nil_append]
            rw [e10]
            refine Gives.ofW (d := 135) rfl rfl (fun Q' hK => ?_)
            refine q_append (E := ET) (k := 7) (l := wb.l) (l2 := ([(wb.l).getD j []] : List (List (BitVec 8)))) H234 rfl hs.t1 sli39 zer9 rfl byt9 (H234.rd (k := 0) rfl hS229) rfl (by rfl) rfl (by rfl) (by omega) ?_
            intro key236 c237 sp238 w240 hS239 hne242 H241
            have H241' := H241.as (L' := (((some b228), sob ET 9 ([(wb.l).getD j []] : List (List (BitVec 8))) ([])) :: (some bO, .cells #[i64 (((xl).getD z oq0).kd), i64 (((xl).getD z oq0).i), i64 (((xl).getD z oq0).bit), .slice (((xl).getD z oq0).fr.a) ((cont z).length) (((xl).getD z oq0).fr.c)] 51 (0, 0)) :: (some bE, .cells #[.pointer (some ⟨bA, 0, none⟩), .pointer (some ⟨bB, 0, none⟩)] 49 (0, 0)) :: (some bW, .cells #[.slice (ownA wa.key) wa.l.length wa.c, .slice (ownA wb.key) wb.l.length wb.c] 40 (0, 0)) :: (some bS, .cells #[.slice (ownA sa.key) sa.l.length sa.c, .slice (ownA sb.key) sb.l.length sb.c] 40 (0, 0)) :: (some bC, .cells #[.slice (ownA ca.key) ca.l.length ca.c, .slice (ownA cb.key) cb.l.length cb.c] 40 (0, 0)) :: (wa.key, sob ET 9 wa.l wa.sp) :: (key236, sob ET 9 (wb.l ++ ([(wb.l).getD j []] : List (List (BitVec 8)))) sp238) :: (sa.key, sob ET 9 sa.l sa.sp) :: (sb.key, sob ET 9 sb.l sb.sp) :: (ca.key, sob ET 9 ca.l ca.sp) :: (cb.key, sob ET 9 cb.l cb.sp) :: (endR 30 53 89 bA u ++ (endR 30 53 89 bB v ++ G)))) rfl
            clear H241
            exact hK _ _ ⟨b228, key236, c237, sp238, rfl, rfl, hS229, hS239, H241'⟩
          refine WalkC.look rfl (fun _ => .pointer (some ⟨bW, 1, none⟩)) (fun _ _ _ => rfl) (fun q r uw _ _ _ _ => Gives.run rfl (r_indexA (off' := 1) (j := 1) arr40 (b := bW) (off := 0) rfl rfl (by first | rfl | omega | (simp; omega)) (by omega) (by omega)) ⟨rfl, rfl⟩) ?_
          refine WalkC.eff 2 rfl (fun r uw243 hF245 => ?_) ?_
          · skip
            obtain ⟨b228, key236, c237, sp238, e10, e11, hS229, hS239, H244⟩ := hF245
            dsimp only [List.take, List.map, List.cons_append, List.nil_append]
            rw [e10, e11]
            refine Gives.ofW0 rfl (fun Q' hK => ?_)
            refine d_store (k := 3) (v := .slice (ownA key236) (wb.l.length + 1) c237) (cs' := #[.slice (ownA wa.key) wa.l.length wa.c, .slice (ownA key236) (wb.l.length + 1) c237]) H244 rfl rfl rfl siz39 (by rfl) (by intro u hu; simp [Value.cells] at hu; first | (subst hu; rfl) | (rcases hu with rfl <;> rfl)) (by exact Nat.le_of_ble_eq_true rfl) (by rfl) ?_
            intro w246 H247 hC248
            have H247' := H247.as (L' := (((some b228), sob ET 9 ([(wb.l).getD j []] : List (List (BitVec 8))) ([])) :: (some bO, .cells #[i64 (((xl).getD z oq0).kd), i64 (((xl).getD z oq0).i), i64 (((xl).getD z oq0).bit), .slice (((xl).getD z oq0).fr.a) ((cont z).length) (((xl).getD z oq0).fr.c)] 51 (0, 0)) :: (some bE, .cells #[.pointer (some ⟨bA, 0, none⟩), .pointer (some ⟨bB, 0, none⟩)] 49 (0, 0)) :: (some bW, .cells #[.slice (ownA wa.key) wa.l.length wa.c, .slice (ownA key236) (wb.l.length + 1) c237] 40 (0, 0)) :: (some bS, .cells #[.slice (ownA sa.key) sa.l.length sa.c, .slice (ownA sb.key) sb.l.length sb.c] 40 (0, 0)) :: (some bC, .cells #[.slice (ownA ca.key) ca.l.length ca.c, .slice (ownA cb.key) cb.l.length cb.c] 40 (0, 0)) :: (wa.key, sob ET 9 wa.l wa.sp) :: (key236, sob ET 9 (wb.l ++ ([(wb.l).getD j []] : List (List (BitVec 8)))) sp238) :: (sa.key, sob ET 9 sa.l sa.sp) :: (sb.key, sob ET 9 sb.l sb.sp) :: (ca.key, sob ET 9 ca.l ca.sp) :: (cb.key, sob ET 9 cb.l cb.sp) :: (endR 30 53 89 bA u ++ (endR 30 53 89 bB v ++ G)))) rfl
            clear H247
            exact hK _ (fun _ => ⟨b228, key236, c237, sp238, rfl, rfl, trivial, hS229, hS239, H247'⟩)
          refine WalkC.nil ?_
          intro r249 w250 hF252
          obtain ⟨b228, key236, c237, sp238, e10, e11, e13, hS229, hS239, H251⟩ := hF252
          dsimp only
          rw [e10, e11]
          refine wnil ?_
          refine blockNormal ?_
          refine thenNormal ?_
          rw [show wb.l.length + 1 = (wb.l ++ ([(wb.l).getD j []] : List (List (BitVec 8)))).length from by first | (rw [List.length_append, List.length_singleton]; done) | (rw [List.length_set]; done) | (rw [List.length_eraseIdx_of_lt hjl]; omega)] at H251
          have hh253 : Half (z + 1) (abs v) (wb.l ++ ([(wb.l).getD j []] : List (List (BitVec 8)))) sb.l cb.l sa.l := hs.hb.copy hjl
          have hh254 : Half (z + 1) (abs u) wa.l sa.l ca.l sb.l := hs.ha.mono (Nat.le_succ z)
          exact hj (u, v, G, ⟨wa.key, wa.c, wa.sp, wa.l⟩, ⟨key236, c237, sp238, wb.l ++ ([(wb.l).getD j []] : List (List (BitVec 8)))⟩, ⟨sa.key, sa.c, sa.sp, sa.l⟩, ⟨sb.key, sb.c, sb.sp, sb.l⟩, ⟨ca.key, ca.c, ca.sp, ca.l⟩, ⟨cb.key, cb.c, cb.sp, cb.l⟩) _ _ ⟨rfl, rfl, rfl, rfl, rfl, rfl, trivial⟩ ⟨⟨hu, hv, ⟨hh254, hh253, hs.t0, hS239, hs.t2, hs.t3, hs.t4, hs.t5⟩⟩, ((H251.dropk 1).dropk 0)⟩
        · skip
          refine seqJoin (σ := Unit) (fun _ => [(0, .slice xa xl.length xc), (3, .pointer (some ⟨bE, 0, none⟩)), (4, .pointer (some ⟨bW, 0, none⟩)), (5, .pointer (some ⟨bS, 0, none⟩)), (6, .pointer (some ⟨bC, 0, none⟩)), (7, i64 ((z : Nat))), (8, .pointer (some ⟨bO, 0, none⟩)), (9, i64 ((1 : Nat))), (10, i64 (at_)), (137, .bool (decide (((xl).getD z oq0).kd = 5 ∧ 0 ≤ at_)))]) (fun _ w' => True ∧ Hp No w₀ w' ((some bO, .cells #[i64 (((xl).getD z oq0).kd), i64 (((xl).getD z oq0).i), i64 (((xl).getD z oq0).bit), .slice (((xl).getD z oq0).fr.a) ((cont z).length) (((xl).getD z oq0).fr.c)] 51 (0, 0)) :: (some bE, .cells #[.pointer (some ⟨bA, 0, none⟩), .pointer (some ⟨bB, 0, none⟩)] 49 (0, 0)) :: (some bW, .cells #[.slice (ownA wa.key) wa.l.length wa.c, .slice (ownA wb.key) wb.l.length wb.c] 40 (0, 0)) :: (some bS, .cells #[.slice (ownA sa.key) sa.l.length sa.c, .slice (ownA sb.key) sb.l.length sb.c] 40 (0, 0)) :: (some bC, .cells #[.slice (ownA ca.key) ca.l.length ca.c, .slice (ownA cb.key) cb.l.length cb.c] 40 (0, 0)) :: (wa.key, sob ET 9 wa.l wa.sp) :: (wb.key, sob ET 9 wb.l wb.sp) :: (sa.key, sob ET 9 sa.l sa.sp) :: (sb.key, sob ET 9 sb.l sb.sp) :: (ca.key, sob ET 9 ca.l ca.sp) :: (cb.key, sob ET 9 cb.l cb.sp) :: (endR 30 53 89 bA u ++ (endR 30 53 89 bB v ++ G)))) ?_ (fun hj255 => ?_)
          · skip
            rintro _ ρ w256 ⟨_, H257⟩
            refine condProp (((xl).getD z oq0).kd = 5 ∧ 0 ≤ at_) rfl (fun c137 => ?_) (fun c137 => ?_)
            · skip
              obtain ⟨j, rfl⟩ : ∃ j : Nat, at_ = (j : Int) := ⟨at_.toNat, by omega⟩
              have hjl : j < wb.l.length := by omega
              have hjc := hs.t1.cap
              have hfr := hs.hb.fr _ (getD_mem' hjl)
              refine seqRegion ?_
              refine sq (r_move (v := i64 ((1 : Nat))) rfl) ?_
              refine sq (r_indexA (off' := 1) (j := 1) arr40 (b := bW) (off := 0) rfl rfl (by first | rfl | omega | (simp; omega)) (by omega) (by omega)) ?_
              refine sq (r_loadC (v := .slice (ownA wb.key) wb.l.length wb.c) one39 (H257.get (k := 2) rfl) (off := 1) rfl (by rfl)) ?_
              refine sq (r_move (v := i64 ((j : Nat))) rfl) ?_
              refine sq (r_idxS (E := ET) (l := wb.l) (j := j) sli39 (H257.rd (k := 6) rfl hs.t1) rfl rfl (by first | rfl | omega | (simp; omega)) (by rfl) (by omega)) ?_
              refine sq (r_ldS (E := ET) (l := wb.l) (j := j) (v := (wb.l).getD j []) fits9 (H257.rd (k := 6) rfl hs.t1) rfl rfl (at_getD (by omega))) ?_
              refine q_toBytesC (l := (wb.l).getD j []) H257 und9 und30 und5 rfl ?_
              intro g258 c259 sp260 w261 hc264 H262 hE263
              refine sq (r_assign (v := .slice (ownA (some g258)) (((wb.l).getD j []).length) c259) rfl) ?_
              have hfr9 := hfr.1
              have hfrb := hfr.2.1
              obtain ⟨y, hy, hyl⟩ := modBig (BitVec.ofInt 64 ((xl).getD z oq0).bit) _ (wb.l.getD j []).length (by omega) (by omega) rfl
              refine wend ?_
              refine seqAny ?_
              refine drawAny (K := [none, none, none, none, none, none, none, none, none, none, none, none, none, none, none, none, none, none]) [0, 0, 2, 6, 0, 16, 48, 126, 254, 511, 1023, 0, 2048, 6144, 14336, 30720, 65535, 131071, 262143] (fun w' => Ext w261 w') (fun w' w'' => Ext w' w'') mixed (by kernel_rfl) (Ext.drew _) (fun _ _ h h' => h.trans h') ?_ ?_
              · exact relNone (by decide)
              refine ⟨.slice (ownA (some g258)) (((wb.l).getD j []).length) c259, fun _ uw265 hC266 _ => Gives.run rfl (r_move (v := .slice (ownA (some g258)) (((wb.l).getD j []).length) c259) rfl) ⟨rfl, Chg.refl _ _⟩, ?_⟩
              refine ⟨.pointer (some ⟨bO, 2, none⟩), fun _ uw267 hC268 _ => Gives.run rfl (r_fieldAddr (off' := 2) fld51_2 (by decide) (b := bO) (off := 0) rfl (by omega)) ⟨rfl, Chg.refl _ _⟩, ?_⟩
              refine ⟨i64 (((xl).getD z oq0).bit), fun _ uw269 hC270 _ => Gives.run rfl (r_loadC (v := i64 (((xl).getD z oq0).bit)) one3 ((H262.ext hC270).get (k := 1) rfl) (off := 2) rfl (by rfl)) ⟨rfl, Chg.refl _ _⟩, ?_⟩
              refine ⟨u64 (BitVec.ofInt 64 (((xl).getD z oq0).bit)), fun _ uw271 hC272 _ => Gives.run rfl (r_Ito64 und3 und26 (a := ((xl).getD z oq0).bit) rfl) ⟨rfl, Chg.refl _ _⟩, ?_⟩
              refine ⟨.slice (ownA (some g258)) (((wb.l).getD j []).length) c259, fun _ uw273 hC274 _ => Gives.run rfl (r_move (v := .slice (ownA (some g258)) (((wb.l).getD j []).length) c259) rfl) ⟨rfl, Chg.refl _ _⟩, ?_⟩
              refine ⟨i64 ((((wb.l).getD j []).length : Nat)), fun _ uw275 hC276 _ => Gives.run rfl (r_lenS sli30 (a := ownA (some g258)) (m := ((wb.l).getD j []).length) (c := c259) rfl) ⟨rfl, Chg.refl _ _⟩, ?_⟩
              refine ⟨u64 (BitVec.ofInt 64 (((wb.l).getD j []).length : Nat)), fun _ uw277 hC278 _ => Gives.run rfl (r_Ito64 und3 und26 (a := (((wb.l).getD j []).length : Nat)) rfl) ⟨rfl, Chg.refl _ _⟩, ?_⟩
              refine ⟨u64 ((BitVec.ofInt 64 (((xl).getD z oq0).bit)) % (BitVec.ofInt 64 (((wb.l).getD j []).length : Nat))), fun _ uw279 hC280 _ => Gives.run rfl (r_rem64 (a := BitVec.ofInt 64 (((xl).getD z oq0).bit)) (b := BitVec.ofInt 64 (((wb.l).getD j []).length : Nat)) rfl rfl (by exact ofInt_neBig _ (by omega) (by omega))) ⟨rfl, Chg.refl _ _⟩, ?_⟩
              refine ⟨i64 ((y : Nat)), fun _ uw281 hC282 _ => Gives.run rfl ((r_64toI und26 und3 (a := (BitVec.ofInt 64 (((xl).getD z oq0).bit)) % (BitVec.ofInt 64 (((wb.l).getD j []).length : Nat))) rfl).as (v' := i64 ((y : Nat))) (by exact congrArg i64 hy)) ⟨rfl, Chg.refl _ _⟩, ?_⟩
              refine ⟨.pointer (adr (ownA (some g258)) (y * 1)), fun _ uw283 hC284 _ => Gives.run rfl (r_idxS (E := E8) (l := (wb.l).getD j []) (j := y) sli30 ((H262.ext hC284).rdZ (k := 0) rfl) rfl rfl (by first | rfl | omega | (simp; omega)) (by rfl) (by omega)) ⟨rfl, Chg.refl _ _⟩, ?_⟩
              refine ⟨u8 (((wb.l).getD j []).getD y 0#8), fun _ uw285 hC286 _ => Gives.run rfl (r_ldS (E := E8) (l := (wb.l).getD j []) (j := y) (v := ((wb.l).getD j []).getD y 0#8) fits5 ((H262.ext hC286).rdZ (k := 0) rfl) rfl rfl (at_getD (by omega))) ⟨rfl, Chg.refl _ _⟩, ?_⟩
              refine ⟨.pointer (some ⟨bO, 2, none⟩), fun _ uw287 hC288 _ => Gives.run rfl (r_fieldAddr (off' := 2) fld51_2 (by decide) (b := bO) (off := 0) rfl (by omega)) ⟨rfl, Chg.refl _ _⟩, ?_⟩
              refine ⟨i64 (((xl).getD z oq0).bit), fun _ uw289 hC290 _ => Gives.run rfl (r_loadC (v := i64 (((xl).getD z oq0).bit)) one3 ((H262.ext hC290).get (k := 1) rfl) (off := 2) rfl (by rfl)) ⟨rfl, Chg.refl _ _⟩, ?_⟩
              refine ⟨u64 (BitVec.ofInt 64 (((xl).getD z oq0).bit)), fun _ uw291 hC292 _ => Gives.run rfl (r_Ito64 und3 und26 (a := ((xl).getD z oq0).bit) rfl) ⟨rfl, Chg.refl _ _⟩, ?_⟩
              refine ⟨u64 ((BitVec.ofInt 64 (((xl).getD z oq0).bit)) % (8#64)), fun _ uw293 hC294 _ => Gives.run rfl (r_rem64 (a := BitVec.ofInt 64 (((xl).getD z oq0).bit)) (b := 8#64) rfl rfl (by decide)) ⟨rfl, Chg.refl _ _⟩, ?_⟩
              refine ⟨u8 ((1#8) <<< (((BitVec.ofInt 64 (((xl).getD z oq0).bit)) % (8#64)).toNat : Nat)), fun _ uw295 hC296 _ => Gives.run rfl (r_shl8 (a := 1#8) (c := ((BitVec.ofInt 64 (((xl).getD z oq0).bit)) % (8#64)).toNat) rfl rfl) ⟨rfl, Chg.refl _ _⟩, ?_⟩
              refine ⟨u8 ((((wb.l).getD j []).getD y 0#8) ^^^ ((1#8) <<< (((BitVec.ofInt 64 (((xl).getD z oq0).bit)) % (8#64)).toNat : Nat))), fun _ uw297 hC298 _ => Gives.run rfl (r_xor8 (a := ((wb.l).getD j []).getD y 0#8) (b := (1#8) <<< (((BitVec.ofInt 64 (((xl).getD z oq0).bit)) % (8#64)).toNat : Nat)) rfl rfl) ⟨rfl, Chg.refl _ _⟩, ?_⟩
              refine ⟨.pointer (adr (ownA (some g258)) (y * 1)), fun _ uw299 hC300 _ => Gives.run rfl (r_idxS (E := E8) (l := (wb.l).getD j []) (j := y) sli30 ((H262.ext hC300).rdZ (k := 0) rfl) rfl rfl (by first | rfl | omega | (simp; omega)) (by rfl) (by omega)) ⟨rfl, Chg.refl _ _⟩, ?_⟩
              intro r304 w301 hE303 hF
              have H302 := H262.ext hE303
              refine d_storeF (k := 0) (l := (wb.l).getD j []) (j := y) (b := (((wb.l).getD j []).getD y 0#8) ^^^ ((1#8) <<< (((BitVec.ofInt 64 (((xl).getD z oq0).bit)) % (8#64)).toNat : Nat))) H302 rfl rfl (Nat.mul_one _) rfl siz5 (by omega) ?_
              intro w306 H307
              have H307' := H307.as (L' := (((some g258), sobF 5 (((wb.l).getD j []).set y ((((wb.l).getD j []).getD y 0#8) ^^^ ((1#8) <<< (((BitVec.ofInt 64 (((xl).getD z oq0).bit)) % (8#64)).toNat : Nat)))) sp260) :: (some bO, .cells #[i64 (((xl).getD z oq0).kd), i64 (((xl).getD z oq0).i), i64 (((xl).getD z oq0).bit), .slice (((xl).getD z oq0).fr.a) ((cont z).length) (((xl).getD z oq0).fr.c)] 51 (0, 0)) :: (some bE, .cells #[.pointer (some ⟨bA, 0, none⟩), .pointer (some ⟨bB, 0, none⟩)] 49 (0, 0)) :: (some bW, .cells #[.slice (ownA wa.key) wa.l.length wa.c, .slice (ownA wb.key) wb.l.length wb.c] 40 (0, 0)) :: (some bS, .cells #[.slice (ownA sa.key) sa.l.length sa.c, .slice (ownA sb.key) sb.l.length sb.c] 40 (0, 0)) :: (some bC, .cells #[.slice (ownA ca.key) ca.l.length ca.c, .slice (ownA cb.key) cb.l.length cb.c] 40 (0, 0)) :: (wa.key, sob ET 9 wa.l wa.sp) :: (wb.key, sob ET 9 wb.l wb.sp) :: (sa.key, sob ET 9 sa.l sa.sp) :: (sb.key, sob ET 9 sb.l sb.sp) :: (ca.key, sob ET 9 ca.l ca.sp) :: (cb.key, sob ET 9 cb.l cb.sp) :: (endR 30 53 89 bA u ++ (endR 30 53 89 bB v ++ G)))) rfl
              clear H307
              have hbl : (((wb.l).getD j []).set y ((((wb.l).getD j []).getD y 0#8) ^^^ ((1#8) <<< (((BitVec.ofInt 64 (((xl).getD z oq0).bit)) % (8#64)).toNat : Nat)))).length = (wb.l.getD j []).length := by simp only [List.length_set]
              refine wnil ?_
              refine thenNormal ?_
              refine seqAny ?_
              by_cases hopn : opn (((wb.l).getD j []).set y ((((wb.l).getD j []).getD y 0#8) ^^^ ((1#8) <<< (((BitVec.ofInt 64 (((xl).getD z oq0).bit)) % (8#64)).toNat : Nat)))) = none
              · skip
                refine seqRegion ?_
                refine sq (r_move (v := .slice (ownA (some g258)) (((wb.l).getD j []).length) c259) rfl) ?_
                refine c_call (vs := [.slice (ownA (some g258)) (((wb.l).getD j []).length) c259]) call26 rfl (open_none (((wb.l).getD j []).set y ((((wb.l).getD j []).getD y 0#8) ^^^ ((1#8) <<< (((BitVec.ofInt 64 (((xl).getD z oq0).bit)) % (8#64)).toNat : Nat)))) (by (simp only [List.length_set]; have := hfr.2.1; omega)) (ownA (some g258)) (((wb.l).getD j []).length) c259 (by simp only [List.length_set]) w306 (H307'.rdZ (k := 0) rfl) (by (simp only [List.length_set]; exact hc264)) hopn) ?_
                rintro _ w308 ⟨rfl, hE309⟩
                have H310 := H307'.ext hE309
                refine sq (r_move (v := .tuple #[u8 (0#8), u32 (0#32), .slice none 0 0, .bool (false)]) rfl) ?_
                refine sq (r_extract (vs := #[u8 (0#8), u32 (0#32), .slice none 0 0, .bool (false)]) rfl rfl) ?_
                refine sq (r_extract (vs := #[u8 (0#8), u32 (0#32), .slice none 0 0, .bool (false)]) rfl rfl) ?_
                refine sq (r_extract (vs := #[u8 (0#8), u32 (0#32), .slice none 0 0, .bool (false)]) rfl rfl) ?_
                refine sq (r_extract (vs := #[u8 (0#8), u32 (0#32), .slice none 0 0, .bool (false)]) rfl rfl) ?_
                refine sq (r_assign (v := u8 (0#8)) rfl) ?_
                refine sq (r_assign (v := u32 (0#32)) rfl) ?_
                refine sq (r_assign (v := .slice none 0 0) rfl) ?_
                refine sq (r_assign (v := .bool (false)) rfl) ?_
                refine wend ?_
                refine seqRegion ?_
                refine sq (r_move (v := .bool (false)) rfl) ?_
                refine wend ?_
                refine condFalse rfl ?_
                refine skipAny ?_
                refine thenNormal ?_
                refine drawAny (K := [none, none, none, none, none, none, none]) [0, 1, 3, 0, 0, 16, 63, 127] (fun w' => Ext w308 w') (fun w' w'' => Ext w' w'') mixed (by kernel_rfl) (Ext.drew _) (fun _ _ h h' => h.trans h') ?_ ?_
                · exact relNone (by decide)
                refine ⟨i64 ((1 : Nat)), fun _ uw311 hC312 _ => Gives.run rfl (r_move (v := i64 ((1 : Nat))) rfl) ⟨rfl, Chg.refl _ _⟩, ?_⟩
                refine ⟨.pointer (some ⟨bW, 1, none⟩), fun _ uw313 hC314 _ => Gives.run rfl (r_indexA (off' := 1) (j := 1) arr40 (b := bW) (off := 0) rfl rfl (by first | rfl | omega | (simp; omega)) (by omega) (by omega)) ⟨rfl, Chg.refl _ _⟩, ?_⟩
                refine ⟨.slice (ownA wb.key) wb.l.length wb.c, fun _ uw315 hC316 _ => Gives.run rfl (r_loadC (v := .slice (ownA wb.key) wb.l.length wb.c) one39 ((H310.ext hC316).get (k := 3) rfl) (off := 1) rfl (by rfl)) ⟨rfl, Chg.refl _ _⟩, ?_⟩
                refine ⟨i64 ((j : Nat)), fun _ uw317 hC318 _ => Gives.run rfl (r_move (v := i64 ((j : Nat))) rfl) ⟨rfl, Chg.refl _ _⟩, ?_⟩
                refine ⟨.slice (ownA (some g258)) (((wb.l).getD j []).length) c259, fun _ uw319 hC320 _ => Gives.run rfl (r_move (v := .slice (ownA (some g258)) (((wb.l).getD j []).length) c259) rfl) ⟨rfl, Chg.refl _ _⟩, ?_⟩
                refine ⟨.string (strB (((wb.l).getD j []).set y ((((wb.l).getD j []).getD y 0#8) ^^^ ((1#8) <<< (((BitVec.ofInt 64 (((xl).getD z oq0).bit)) % (8#64)).toNat : Nat))))), fun _ uw321 hC322 _ => Gives.run rfl (r_toStr (l := ((wb.l).getD j []).set y ((((wb.l).getD j []).getD y 0#8) ^^^ ((1#8) <<< (((BitVec.ofInt 64 (((xl).getD z oq0).bit)) % (8#64)).toNat : Nat)))) und30 und5 und9 ((H310.ext hC322).rdZ (k := 0) rfl) rfl (by simp only [List.length_set])) ⟨rfl, Chg.refl _ _⟩, ?_⟩
                refine ⟨.pointer (adr (ownA wb.key) (j * 1)), fun _ uw323 hC324 _ => Gives.run rfl (r_idxS (E := ET) (l := wb.l) (j := j) sli39 ((H310.ext hC324).rd (k := 7) rfl hs.t1) rfl rfl (by first | rfl | omega | (simp; omega)) (by rfl) (by omega)) ⟨rfl, Chg.refl _ _⟩, ?_⟩
                intro r328 w325 hE327 hF
                have H326 := H310.ext hE327
                refine d_storeS (E := ET) (k := 7) (l := wb.l) (j := j) (b := ((wb.l).getD j []).set y ((((wb.l).getD j []).getD y 0#8) ^^^ ((1#8) <<< (((BitVec.ofInt 64 (((xl).getD z oq0).bit)) % (8#64)).toNat : Nat)))) (a := (wb.l).getD j []) H326 rfl hs.t1 rfl rfl rfl rfl siz9 (at_getD (by omega)) ?_
                intro w330 hS329 H331
                have H331' := H331.as (L' := (((some g258), sobF 5 (((wb.l).getD j []).set y ((((wb.l).getD j []).getD y 0#8) ^^^ ((1#8) <<< (((BitVec.ofInt 64 (((xl).getD z oq0).bit)) % (8#64)).toNat : Nat)))) sp260) :: (some bO, .cells #[i64 (((xl).getD z oq0).kd), i64 (((xl).getD z oq0).i), i64 (((xl).getD z oq0).bit), .slice (((xl).getD z oq0).fr.a) ((cont z).length) (((xl).getD z oq0).fr.c)] 51 (0, 0)) :: (some bE, .cells #[.pointer (some ⟨bA, 0, none⟩), .pointer (some ⟨bB, 0, none⟩)] 49 (0, 0)) :: (some bW, .cells #[.slice (ownA wa.key) wa.l.length wa.c, .slice (ownA wb.key) wb.l.length wb.c] 40 (0, 0)) :: (some bS, .cells #[.slice (ownA sa.key) sa.l.length sa.c, .slice (ownA sb.key) sb.l.length sb.c] 40 (0, 0)) :: (some bC, .cells #[.slice (ownA ca.key) ca.l.length ca.c, .slice (ownA cb.key) cb.l.length cb.c] 40 (0, 0)) :: (wa.key, sob ET 9 wa.l wa.sp) :: (wb.key, sob ET 9 (wb.l.set j (((wb.l).getD j []).set y ((((wb.l).getD j []).getD y 0#8) ^^^ ((1#8) <<< (((BitVec.ofInt 64 (((xl).getD z oq0).bit)) % (8#64)).toNat : Nat))))) wb.sp) :: (sa.key, sob ET 9 sa.l sa.sp) :: (sb.key, sob ET 9 sb.l sb.sp) :: (ca.key, sob ET 9 ca.l ca.sp) :: (cb.key, sob ET 9 cb.l cb.sp) :: (endR 30 53 89 bA u ++ (endR 30 53 89 bB v ++ G)))) rfl
                clear H331
                refine wnil ?_
                refine blockNormal ?_
                refine thenNormal ?_
                rw [show wb.l.length = (wb.l.set j (((wb.l).getD j []).set y ((((wb.l).getD j []).getD y 0#8) ^^^ ((1#8) <<< (((BitVec.ofInt 64 (((xl).getD z oq0).bit)) % (8#64)).toNat : Nat))))).length from by first | (rw [List.length_append, List.length_singleton]; done) | (rw [List.length_set]; done) | (rw [List.length_eraseIdx_of_lt hjl]; omega)] at H331'
                have hh332 : Half (z + 1) (abs v) (wb.l.set j (((wb.l).getD j []).set y ((((wb.l).getD j []).getD y 0#8) ^^^ ((1#8) <<< (((BitVec.ofInt 64 (((xl).getD z oq0).bit)) % (8#64)).toNat : Nat))))) sb.l cb.l sa.l := hs.hb.set hjl (by simp only [List.length_set]) hopn
                have hh333 : Half (z + 1) (abs u) wa.l sa.l ca.l sb.l := hs.ha.mono (Nat.le_succ z)
                exact hj (u, v, G, ⟨wa.key, wa.c, wa.sp, wa.l⟩, ⟨wb.key, wb.c, wb.sp, wb.l.set j (((wb.l).getD j []).set y ((((wb.l).getD j []).getD y 0#8) ^^^ ((1#8) <<< (((BitVec.ofInt 64 (((xl).getD z oq0).bit)) % (8#64)).toNat : Nat))))⟩, ⟨sa.key, sa.c, sa.sp, sa.l⟩, ⟨sb.key, sb.c, sb.sp, sb.l⟩, ⟨ca.key, ca.c, ca.sp, ca.l⟩, ⟨cb.key, cb.c, cb.sp, cb.l⟩) _ _ ⟨rfl, rfl, rfl, rfl, rfl, rfl, trivial⟩ ⟨⟨hu, hv, ⟨hh333, hh332, hs.t0, hS329, hs.t2, hs.t3, hs.t4, hs.t5⟩⟩, ((H331'.dropk 1).dropk 0)⟩
              · skip
                refine seqRegion ?_
                obtain ⟨kx, nx, px, hopn⟩ : ∃ k n p, opn (((wb.l).getD j []).set y ((((wb.l).getD j []).getD y 0#8) ^^^ ((1#8) <<< (((BitVec.ofInt 64 (((xl).getD z oq0).bit)) % (8#64)).toNat : Nat)))) = some (k, n, p) := by
                  rcases hx : opn (((wb.l).getD j []).set y ((((wb.l).getD j []).getD y 0#8) ^^^ ((1#8) <<< (((BitVec.ofInt 64 (((xl).getD z oq0).bit)) % (8#64)).toNat : Nat)))) with _ | ⟨k, n, p⟩
                  · exact absurd hx hopn
                  · exact ⟨k, n, p, rfl⟩
                refine sq (r_move (v := .slice (ownA (some g258)) (((wb.l).getD j []).length) c259) rfl) ?_
                refine c_call (vs := [.slice (ownA (some g258)) (((wb.l).getD j []).length) c259]) call26 rfl (open_some (((wb.l).getD j []).set y ((((wb.l).getD j []).getD y 0#8) ^^^ ((1#8) <<< (((BitVec.ofInt 64 (((xl).getD z oq0).bit)) % (8#64)).toNat : Nat)))) (by (simp only [List.length_set]; have := hfr.2.1; omega)) (ownA (some g258)) (((wb.l).getD j []).length) c259 (by simp only [List.length_set]) w306 (H307'.rdZ (k := 0) rfl) (by (simp only [List.length_set]; exact hc264)) kx nx px hopn) ?_
                rintro _ w334 ⟨⟨_, rfl, key336, c337, sp338, rfl, hS339, hk340⟩, hE341⟩
                have H342 := H307'.add hE341 hk340
                refine sq (r_move (v := .tuple #[u8 (kx), u32 (nx), .slice (ownA key336) px.length c337, .bool (true)]) rfl) ?_
                refine sq (r_extract (vs := #[u8 (kx), u32 (nx), .slice (ownA key336) px.length c337, .bool (true)]) rfl rfl) ?_
                refine sq (r_extract (vs := #[u8 (kx), u32 (nx), .slice (ownA key336) px.length c337, .bool (true)]) rfl rfl) ?_
                refine sq (r_extract (vs := #[u8 (kx), u32 (nx), .slice (ownA key336) px.length c337, .bool (true)]) rfl rfl) ?_
                refine sq (r_extract (vs := #[u8 (kx), u32 (nx), .slice (ownA key336) px.length c337, .bool (true)]) rfl rfl) ?_
                refine sq (r_assign (v := u8 (kx)) rfl) ?_
                refine sq (r_assign (v := u32 (nx)) rfl) ?_
                refine sq (r_assign (v := .slice (ownA key336) px.length c337) rfl) ?_
                refine sq (r_assign (v := .bool (true)) rfl) ?_
                refine wend ?_
                refine seqRegion ?_
                refine sq (r_move (v := .bool (true)) rfl) ?_
                refine wend ?_
                refine condTrue rfl ?_
                refine seqRegion ?_
                refine sq (r_assign (v := .bool (true)) rfl) ?_
                refine wend ?_
                refine retAny ?_
                refine thenRet ?_
                refine blockRet ?_
                refine thenRet ?_
                exact hr () _ _ ⟨rfl, trivial⟩ ⟨_, H342⟩
            · skip
              refine seqJoin (σ := Unit) (fun _ => [(0, .slice xa xl.length xc), (3, .pointer (some ⟨bE, 0, none⟩)), (4, .pointer (some ⟨bW, 0, none⟩)), (5, .pointer (some ⟨bS, 0, none⟩)), (6, .pointer (some ⟨bC, 0, none⟩)), (7, i64 ((z : Nat))), (8, .pointer (some ⟨bO, 0, none⟩)), (9, i64 ((1 : Nat))), (10, i64 (at_)), (185, .bool (decide ((((xl).getD z oq0).kd = 2 ∨ ((xl).getD z oq0).kd = 3) ∧ 0 ≤ at_)))]) (fun _ w' => True ∧ Hp No w₀ w' ((some bO, .cells #[i64 (((xl).getD z oq0).kd), i64 (((xl).getD z oq0).i), i64 (((xl).getD z oq0).bit), .slice (((xl).getD z oq0).fr.a) ((cont z).length) (((xl).getD z oq0).fr.c)] 51 (0, 0)) :: (some bE, .cells #[.pointer (some ⟨bA, 0, none⟩), .pointer (some ⟨bB, 0, none⟩)] 49 (0, 0)) :: (some bW, .cells #[.slice (ownA wa.key) wa.l.length wa.c, .slice (ownA wb.key) wb.l.length wb.c] 40 (0, 0)) :: (some bS, .cells #[.slice (ownA sa.key) sa.l.length sa.c, .slice (ownA sb.key) sb.l.length sb.c] 40 (0, 0)) :: (some bC, .cells #[.slice (ownA ca.key) ca.l.length ca.c, .slice (ownA cb.key) cb.l.length cb.c] 40 (0, 0)) :: (wa.key, sob ET 9 wa.l wa.sp) :: (wb.key, sob ET 9 wb.l wb.sp) :: (sa.key, sob ET 9 sa.l sa.sp) :: (sb.key, sob ET 9 sb.l sb.sp) :: (ca.key, sob ET 9 ca.l ca.sp) :: (cb.key, sob ET 9 cb.l cb.sp) :: (endR 30 53 89 bA u ++ (endR 30 53 89 bB v ++ G)))) ?_ (fun hj343 => ?_)
              · skip
                rintro _ ρ w344 ⟨_, H345⟩
                refine condProp ((((xl).getD z oq0).kd = 2 ∨ ((xl).getD z oq0).kd = 3) ∧ 0 ≤ at_) rfl (fun c185 => ?_) (fun c185 => ?_)
                · skip
                  obtain ⟨j, rfl⟩ : ∃ j : Nat, at_ = (j : Int) := ⟨at_.toNat, by omega⟩
                  have hjl : j < wb.l.length := by omega
                  have hjc := hs.t1.cap
                  have hfr := hs.hb.fr _ (getD_mem' hjl)
                  refine seqRegion ?_
                  refine sq (r_move (v := i64 ((1 : Nat))) rfl) ?_
                  refine sq (r_indexA (off' := 1) (j := 1) arr40 (b := bW) (off := 0) rfl rfl (by first | rfl | omega | (simp; omega)) (by omega) (by omega)) ?_
                  refine sq (r_loadC (v := .slice (ownA wb.key) wb.l.length wb.c) one39 (H345.get (k := 2) rfl) (off := 1) rfl (by rfl)) ?_
                  refine sq (r_move (v := i64 ((j : Nat))) rfl) ?_
                  refine sq (r_idxS (E := ET) (l := wb.l) (j := j) sli39 (H345.rd (k := 6) rfl hs.t1) rfl rfl (by first | rfl | omega | (simp; omega)) (by rfl) (by omega)) ?_
                  refine sq (r_ldS (E := ET) (l := wb.l) (j := j) (v := (wb.l).getD j []) fits9 (H345.rd (k := 6) rfl hs.t1) rfl rfl (at_getD (by omega))) ?_
                  refine sq (r_assign (v := .string (strB ((wb.l).getD j []))) rfl) ?_
                  refine wend ?_
                  refine seqAny ?_
                  refine drawC (m := 17) [0, 0, 0, 4, 12, 0, 60, 126, 0, 256, 768, 0, 2048, 7936, 16382, 32767, 65535] [1, 7, 14, 16] (fun q vs w' => match q, vs with | 0, [] => Hp No w₀ w' ((some bO, .cells #[i64 (((xl).getD z oq0).kd), i64 (((xl).getD z oq0).i), i64 (((xl).getD z oq0).bit), .slice (((xl).getD z oq0).fr.a) ((cont z).length) (((xl).getD z oq0).fr.c)] 51 (0, 0)) :: (some bE, .cells #[.pointer (some ⟨bA, 0, none⟩), .pointer (some ⟨bB, 0, none⟩)] 49 (0, 0)) :: (some bW, .cells #[.slice (ownA wa.key) wa.l.length wa.c, .slice (ownA wb.key) wb.l.length wb.c] 40 (0, 0)) :: (some bS, .cells #[.slice (ownA sa.key) sa.l.length sa.c, .slice (ownA sb.key) sb.l.length sb.c] 40 (0, 0)) :: (some bC, .cells #[.slice (ownA ca.key) ca.l.length ca.c, .slice (ownA cb.key) cb.l.length cb.c] 40 (0, 0)) :: (wa.key, sob ET 9 wa.l wa.sp) :: (wb.key, sob ET 9 wb.l wb.sp) :: (sa.key, sob ET 9 sa.l sa.sp) :: (sb.key, sob ET 9 sb.l sb.sp) :: (ca.key, sob ET 9 ca.l ca.sp) :: (cb.key, sob ET 9 cb.l cb.sp) :: (endR 30 53 89 bA u ++ (endR 30 53 89 bB v ++ G))) | 1, [v0] => ∃ (b349 : Nat), v0 = .slice (ownA (some b349)) 0 0 ∧ Sl ET (some b349) ([] : List (List (BitVec 8))) 0 ([]) ∧ Hp No w₀ w' (((some b349), sob ET 9 ([] : List (List (BitVec 8))) ([])) :: (some bO, .cells #[i64 (((xl).getD z oq0).kd), i64 (((xl).getD z oq0).i), i64 (((xl).getD z oq0).bit), .slice (((xl).getD z oq0).fr.a) ((cont z).length) (((xl).getD z oq0).fr.c)] 51 (0, 0)) :: (some bE, .cells #[.pointer (some ⟨bA, 0, none⟩), .pointer (some ⟨bB, 0, none⟩)] 49 (0, 0)) :: (some bW, .cells #[.slice (ownA wa.key) wa.l.length wa.c, .slice (ownA wb.key) wb.l.length wb.c] 40 (0, 0)) :: (some bS, .cells #[.slice (ownA sa.key) sa.l.length sa.c, .slice (ownA sb.key) sb.l.length sb.c] 40 (0, 0)) :: (some bC, .cells #[.slice (ownA ca.key) ca.l.length ca.c, .slice (ownA cb.key) cb.l.length cb.c] 40 (0, 0)) :: (wa.key, sob ET 9 wa.l wa.sp) :: (wb.key, sob ET 9 wb.l wb.sp) :: (sa.key, sob ET 9 sa.l sa.sp) :: (sb.key, sob ET 9 sb.l sb.sp) :: (ca.key, sob ET 9 ca.l ca.sp) :: (cb.key, sob ET 9 cb.l cb.sp) :: (endR 30 53 89 bA u ++ (endR 30 53 89 bB v ++ G))) | 2, [v0, v1] => ∃ (b349 : Nat) (key357 : Option Nat) (c358 : Nat) (sp359 : List Value), v0 = .slice (ownA (some b349)) 0 0 ∧ v1 = .slice (ownA key357) (0 + j) c358 ∧ Sl ET key357 (wb.l.take j) c358 sp359 ∧ Hp No w₀ w' ((key357, sob ET 9 (wb.l.take j) sp359) :: (some bO, .cells #[i64 (((xl).getD z oq0).kd), i64 (((xl).getD z oq0).i), i64 (((xl).getD z oq0).bit), .slice (((xl).getD z oq0).fr.a) ((cont z).length) (((xl).getD z oq0).fr.c)] 51 (0, 0)) :: (some bE, .cells #[.pointer (some ⟨bA, 0, none⟩), .pointer (some ⟨bB, 0, none⟩)] 49 (0, 0)) :: (some bW, .cells #[.slice (ownA wa.key) wa.l.length wa.c, .slice (ownA wb.key) wb.l.length wb.c] 40 (0, 0)) :: (some bS, .cells #[.slice (ownA sa.key) sa.l.length sa.c, .slice (ownA sb.key) sb.l.length sb.c] 40 (0, 0)) :: (some bC, .cells #[.slice (ownA ca.key) ca.l.length ca.c, .slice (ownA cb.key) cb.l.length cb.c] 40 (0, 0)) :: (wa.key, sob ET 9 wa.l wa.sp) :: (wb.key, sob ET 9 wb.l wb.sp) :: (sa.key, sob ET 9 sa.l sa.sp) :: (sb.key, sob ET 9 sb.l sb.sp) :: (ca.key, sob ET 9 ca.l ca.sp) :: (cb.key, sob ET 9 cb.l cb.sp) :: (endR 30 53 89 bA u ++ (endR 30 53 89 bB v ++ G))) | 3, [v0, v1, v2] => ∃ (b349 : Nat) (key357 : Option Nat) (c358 : Nat) (key370 : Option Nat) (c371 : Nat) (sp372 : List Value), v0 = .slice (ownA (some b349)) 0 0 ∧ v1 = .slice (ownA key357) (0 + j) c358 ∧ v2 = .slice (ownA key370) ((0 + j) + (wb.l.length - (j + 1))) c371 ∧ Sl ET key370 (wb.l.eraseIdx j) c371 sp372 ∧ Hp No w₀ w' ((key370, sob ET 9 (wb.l.eraseIdx j) sp372) :: (some bO, .cells #[i64 (((xl).getD z oq0).kd), i64 (((xl).getD z oq0).i), i64 (((xl).getD z oq0).bit), .slice (((xl).getD z oq0).fr.a) ((cont z).length) (((xl).getD z oq0).fr.c)] 51 (0, 0)) :: (some bE, .cells #[.pointer (some ⟨bA, 0, none⟩), .pointer (some ⟨bB, 0, none⟩)] 49 (0, 0)) :: (some bW, .cells #[.slice (ownA wa.key) wa.l.length wa.c, .slice (ownA wb.key) wb.l.length wb.c] 40 (0, 0)) :: (some bS, .cells #[.slice (ownA sa.key) sa.l.length sa.c, .slice (ownA sb.key) sb.l.length sb.c] 40 (0, 0)) :: (some bC, .cells #[.slice (ownA ca.key) ca.l.length ca.c, .slice (ownA cb.key) cb.l.length cb.c] 40 (0, 0)) :: (wa.key, sob ET 9 wa.l wa.sp) :: (wb.key, sob ET 9 wb.l wb.sp) :: (sa.key, sob ET 9 sa.l sa.sp) :: (sb.key, sob ET 9 sb.l sb.sp) :: (ca.key, sob ET 9 ca.l ca.sp) :: (cb.key, sob ET 9 cb.l cb.sp) :: (endR 30 53 89 bA u ++ (endR 30 53 89 bB v ++ G))) | 4, [v0, v1, v2, _] => ∃ (b349 : Nat) (key357 : Option Nat) (c358 : Nat) (key370 : Option Nat) (c371 : Nat) (sp372 : List Value), v0 = .slice (ownA (some b349)) 0 0 ∧ v1 = .slice (ownA key357) (0 + j) c358 ∧ v2 = .slice (ownA key370) ((0 + j) + (wb.l.length - (j + 1))) c371 ∧ True ∧ Sl ET key370 (wb.l.eraseIdx j) c371 sp372 ∧ Hp No w₀ w' ((key370, sob ET 9 (wb.l.eraseIdx j) sp372) :: (some bO, .cells #[i64 (((xl).getD z oq0).kd), i64 (((xl).getD z oq0).i), i64 (((xl).getD z oq0).bit), .slice (((xl).getD z oq0).fr.a) ((cont z).length) (((xl).getD z oq0).fr.c)] 51 (0, 0)) :: (some bE, .cells #[.pointer (some ⟨bA, 0, none⟩), .pointer (some ⟨bB, 0, none⟩)] 49 (0, 0)) :: (some bW, .cells #[.slice (ownA wa.key) wa.l.length wa.c, .slice (ownA key370) ((0 + j) + (wb.l.length - (j + 1))) c371] 40 (0, 0)) :: (some bS, .cells #[.slice (ownA sa.key) sa.l.length sa.c, .slice (ownA sb.key) sb.l.length sb.c] 40 (0, 0)) :: (some bC, .cells #[.slice (ownA ca.key) ca.l.length ca.c, .slice (ownA cb.key) cb.l.length cb.c] 40 (0, 0)) :: (wa.key, sob ET 9 wa.l wa.sp) :: (wb.key, sob ET 9 wb.l wb.sp) :: (sa.key, sob ET 9 sa.l sa.sp) :: (sb.key, sob ET 9 sb.l sb.sp) :: (ca.key, sob ET 9 ca.l ca.sp) :: (cb.key, sob ET 9 cb.l cb.sp) :: (endR 30 53 89 bA u ++ (endR 30 53 89 bB v ++ G))) | _, _ => False) mixed (by kernel_rfl) (by kernel_rfl) H345.drew ?_
                  refine WalkC.look rfl (fun _ => i64 ((1 : Nat))) (fun _ _ _ => rfl) (fun q r uw _ _ _ _ => Gives.run rfl (r_move (v := i64 ((1 : Nat))) rfl) ⟨rfl, rfl⟩) ?_
                  refine WalkC.eff 0 rfl (fun r uw346 hF348 => ?_) ?_
                  · skip
                    have H347 := hF348
                    dsimp only [List.take, List.map, List.cons_append, List.nil_append]
                    refine Gives.ofW (d := 205) rfl rfl (fun Q' hK => ?_)
                    refine q_buildSlice (E := ET) (l := ([] : List (List (BitVec 8)))) H347 sli39 zer9 (Nat.le_of_ble_eq_true rfl) (ps := []) rfl (by exact fillAll rfl rfl) rfl ?_
                    intro b349 w351 hS350 H352 hE353
                    exact hK _ _ ⟨b349, rfl, hS350, H352⟩
                  refine WalkC.look rfl (fun _ => i64 ((1 : Nat))) (fun _ _ _ => rfl) (fun q r uw _ _ _ _ => Gives.run rfl (r_move (v := i64 ((1 : Nat))) rfl) ⟨rfl, rfl⟩) ?_
                  refine WalkC.look rfl (fun _ => .pointer (some ⟨bW, 1, none⟩)) (fun _ _ _ => rfl) (fun q r uw _ _ _ _ => Gives.run rfl (r_indexA (off' := 1) (j := 1) arr40 (b := bW) (off := 0) rfl rfl (by first | rfl | omega | (simp; omega)) (by omega) (by omega)) ⟨rfl, rfl⟩) ?_
                  refine WalkC.look rfl (fun _ => .slice (ownA wb.key) wb.l.length wb.c) (fun _ _ _ => rfl) (fun q r uw hlo hhi hle hF => ?_) ?_
                  · skip
                    have h1 : 0 ≤ q := Nat.zero_le _
                    have h2 : q ≤ 1 := hhi 1 7 rfl rfl
                    rcases (show q = 0 ∨ q = 1 by omega) with rfl | rfl
                    · skip
                      have HH := hF
                      exact Gives.run rfl (r_loadC (v := .slice (ownA wb.key) wb.l.length wb.c) one39 (HH.get (k := 2) rfl) (off := 1) rfl (by rfl)) ⟨rfl, rfl⟩
                    · skip
                      obtain ⟨b349, e1, hS350, HH⟩ := hF
                      exact Gives.run rfl (r_loadC (v := .slice (ownA wb.key) wb.l.length wb.c) one39 (HH.get (k := 3) rfl) (off := 1) rfl (by rfl)) ⟨rfl, rfl⟩
                  refine WalkC.look rfl (fun _ => i64 ((j : Nat))) (fun _ _ _ => rfl) (fun q r uw _ _ _ _ => Gives.run rfl (r_move (v := i64 ((j : Nat))) rfl) ⟨rfl, rfl⟩) ?_
                  refine WalkC.look rfl (fun _ => .slice (if wb.c = 0 then ownA wb.key else adr (ownA wb.key) (0 * 1)) j (wb.c - 0)) (fun _ _ _ => rfl) (fun q r uw _ _ _ _ => Gives.run rfl ((r_sliceS (l := 0) (h := j) sli39 rfl (.inr ⟨rfl, rfl⟩) (.inl ⟨_, _, _, rfl, rfl, by first | rfl | omega | (simp; omega)⟩) (by omega) (by omega)).as (v' := .slice (if wb.c = 0 then ownA wb.key else adr (ownA wb.key) (0 * 1)) j (wb.c - 0)) (by first | rfl | (congr 1; omega) | (simp; omega) | simp)) ⟨rfl, rfl⟩) ?_
                  refine WalkC.eff 1 rfl (fun r uw354 hF356 => ?_) ?_
                  · skip
                    obtain ⟨b349, e1, hS350, H355⟩ := hF356
                    dsimp only [List.take, List.map, List.cons_append, List.nil_append]
                    rw [e1]
                    refine Gives.ofW (d := 211) rfl rfl (fun Q' hK => ?_)
                    refine q_append (E := ET) (k := 0) (l := ([] : List (List (BitVec 8)))) (l2 := (wb.l.drop 0).take (j)) H355 rfl hS350 sli39 zer9 rfl byt9 (Rd.sub (H355.rd (k := 7) rfl hs.t1) 0 (j) (m := wb.c) (fun e => by first | exact absurd e (by omega) | (rw [show j = 0 by omega]; rfl))) rfl (by rfl) rfl (by rw [List.length_take, List.length_drop]; omega) (by omega) ?_
                    intro key357 c358 sp359 w361 hS360 hne363 H362
                    have H362' := H362.as (L' := ((key357, sob ET 9 (([] : List (List (BitVec 8))) ++ ((wb.l.drop 0).take (j))) sp359) :: (some bO, .cells #[i64 (((xl).getD z oq0).kd), i64 (((xl).getD z oq0).i), i64 (((xl).getD z oq0).bit), .slice (((xl).getD z oq0).fr.a) ((cont z).length) (((xl).getD z oq0).fr.c)] 51 (0, 0)) :: (some bE, .cells #[.pointer (some ⟨bA, 0, none⟩), .pointer (some ⟨bB, 0, none⟩)] 49 (0, 0)) :: (some bW, .cells #[.slice (ownA wa.key) wa.l.length wa.c, .slice (ownA wb.key) wb.l.length wb.c] 40 (0, 0)) :: (some bS, .cells #[.slice (ownA sa.key) sa.l.length sa.c, .slice (ownA sb.key) sb.l.length sb.c] 40 (0, 0)) :: (some bC, .cells #[.slice (ownA ca.key) ca.l.length ca.c, .slice (ownA cb.key) cb.l.length cb.c] 40 (0, 0)) :: (wa.key, sob ET 9 wa.l wa.sp) :: (wb.key, sob ET 9 wb.l wb.sp) :: (sa.key, sob ET 9 sa.l sa.sp) :: (sb.key, sob ET 9 sb.l sb.sp) :: (ca.key, sob ET 9 ca.l ca.sp) :: (cb.key, sob ET 9 cb.l cb.sp) :: (endR 30 53 89 bA u ++ (endR 30 53 89 bB v ++ G)))) rfl
                    clear H362
                    have e364 : ([] : List (List (BitVec 8))) ++ ((wb.l.drop 0).take (j)) = wb.l.take j := by rw [List.nil_append, List.drop_zero]
                    have hS365 := hS360
                    rw [e364] at hS365
                    have H366 := H362'.as (L' := ((key357, sob ET 9 (wb.l.take j) sp359) :: (some bO, .cells #[i64 (((xl).getD z oq0).kd), i64 (((xl).getD z oq0).i), i64 (((xl).getD z oq0).bit), .slice (((xl).getD z oq0).fr.a) ((cont z).length) (((xl).getD z oq0).fr.c)] 51 (0, 0)) :: (some bE, .cells #[.pointer (some ⟨bA, 0, none⟩), .pointer (some ⟨bB, 0, none⟩)] 49 (0, 0)) :: (some bW, .cells #[.slice (ownA wa.key) wa.l.length wa.c, .slice (ownA wb.key) wb.l.length wb.c] 40 (0, 0)) :: (some bS, .cells #[.slice (ownA sa.key) sa.l.length sa.c, .slice (ownA sb.key) sb.l.length sb.c] 40 (0, 0)) :: (some bC, .cells #[.slice (ownA ca.key) ca.l.length ca.c, .slice (ownA cb.key) cb.l.length cb.c] 40 (0, 0)) :: (wa.key, sob ET 9 wa.l wa.sp) :: (wb.key, sob ET 9 wb.l wb.sp) :: (sa.key, sob ET 9 sa.l sa.sp) :: (sb.key, sob ET 9 sb.l sb.sp) :: (ca.key, sob ET 9 ca.l ca.sp) :: (cb.key, sob ET 9 cb.l cb.sp) :: (endR 30 53 89 bA u ++ (endR 30 53 89 bB v ++ G)))) (by rw [e364])
                    exact hK _ _ ⟨b349, key357, c358, sp359, rfl, rfl, hS365, H366⟩
                  refine WalkC.look rfl (fun _ => i64 ((1 : Nat))) (fun _ _ _ => rfl) (fun q r uw _ _ _ _ => Gives.run rfl (r_move (v := i64 ((1 : Nat))) rfl) ⟨rfl, rfl⟩) ?_
                  refine WalkC.look rfl (fun _ => .pointer (some ⟨bW, 1, none⟩)) (fun _ _ _ => rfl) (fun q r uw _ _ _ _ => Gives.run rfl (r_indexA (off' := 1) (j := 1) arr40 (b := bW) (off := 0) rfl rfl (by first | rfl | omega | (simp; omega)) (by omega) (by omega)) ⟨rfl, rfl⟩) ?_
                  refine WalkC.look rfl (fun _ => .slice (ownA wb.key) wb.l.length wb.c) (fun _ _ _ => rfl) (fun q r uw hlo hhi hle hF => ?_) ?_
                  · skip
                    have h1 : 0 ≤ q := Nat.zero_le _
                    have h2 : q ≤ 2 := hhi 2 14 rfl rfl
                    rcases (show q = 0 ∨ q = 1 ∨ q = 2 by omega) with rfl | rfl | rfl
                    · skip
                      have HH := hF
                      exact Gives.run rfl (r_loadC (v := .slice (ownA wb.key) wb.l.length wb.c) one39 (HH.get (k := 2) rfl) (off := 1) rfl (by rfl)) ⟨rfl, rfl⟩
                    · skip
                      obtain ⟨b349, e1, hS350, HH⟩ := hF
                      exact Gives.run rfl (r_loadC (v := .slice (ownA wb.key) wb.l.length wb.c) one39 (HH.get (k := 3) rfl) (off := 1) rfl (by rfl)) ⟨rfl, rfl⟩
                    · skip
                      obtain ⟨b349, key357, c358, sp359, e1, e7, hS365, HH⟩ := hF
                      exact Gives.run rfl (r_loadC (v := .slice (ownA wb.key) wb.l.length wb.c) one39 (HH.get (k := 3) rfl) (off := 1) rfl (by rfl)) ⟨rfl, rfl⟩
                  refine WalkC.look rfl (fun _ => i64 ((j : Nat))) (fun _ _ _ => rfl) (fun q r uw _ _ _ _ => Gives.run rfl (r_move (v := i64 ((j : Nat))) rfl) ⟨rfl, rfl⟩) ?_
                  refine WalkC.look rfl (fun _ => i64 ((j : Nat) + (1 : Int))) (fun _ _ _ => rfl) (fun q r uw _ _ _ _ => Gives.run rfl (r_addI (a := (j : Nat)) (b := (1 : Int)) rfl rfl (by omega)) ⟨rfl, rfl⟩) ?_
                  refine WalkC.look rfl (fun _ => .slice (if wb.c = j + 1 then ownA wb.key else adr (ownA wb.key) ((j + 1) * 1)) (wb.l.length - (j + 1)) (wb.c - (j + 1))) (fun _ _ _ => rfl) (fun q r uw _ _ _ _ => Gives.run rfl ((r_sliceS (l := j + 1) (h := wb.l.length) sli39 rfl (.inl ⟨_, _, _, rfl, rfl, by first | rfl | omega | (simp; omega)⟩) (.inr ⟨rfl, rfl⟩) (by omega) (by omega)).as (v' := .slice (if wb.c = j + 1 then ownA wb.key else adr (ownA wb.key) ((j + 1) * 1)) (wb.l.length - (j + 1)) (wb.c - (j + 1))) (by first | rfl | (congr 1; omega) | (simp; omega) | simp)) ⟨rfl, rfl⟩) ?_
                  refine WalkC.eff 2 rfl (fun r uw367 hF369 => ?_) ?_
                  · skip
                    obtain ⟨b349, key357, c358, sp359, e1, e7, hS365, H368⟩ := hF369
                    dsimp only [List.take, List.map, List.cons_append, List.nil_append]
                    rw [e1, e7]
                    refine Gives.ofW (d := 218) rfl rfl (fun Q' hK => ?_)
                    refine q_append (E := ET) (k := 0) (l := wb.l.take j) (l2 := (wb.l.drop (j + 1)).take (wb.l.length - (j + 1))) H368 rfl hS365 sli39 zer9 rfl byt9 (Rd.sub (H368.rd (k := 7) rfl hs.t1) (j + 1) (wb.l.length - (j + 1)) (m := wb.c) (fun e => by first | exact absurd e (by omega) | (rw [show wb.l.length - (j + 1) = 0 by omega]; rfl))) rfl (by rw [List.length_take]; omega) rfl (by rw [List.length_take, List.length_drop]; omega) (by omega) ?_
                    intro key370 c371 sp372 w374 hS373 hne376 H375
                    have H375' := H375.as (L' := ((key370, sob ET 9 ((wb.l.take j) ++ ((wb.l.drop (j + 1)).take (wb.l.length - (j + 1)))) sp372) :: (some bO, .cells #[i64 (((xl).getD z oq0).kd), i64 (((xl).getD z oq0).i), i64 (((xl).getD z oq0).bit), .slice (((xl).getD z oq0).fr.a) ((cont z).length) (((xl).getD z oq0).fr.c)] 51 (0, 0)) :: (some bE, .cells #[.pointer (some ⟨bA, 0, none⟩), .pointer (some ⟨bB, 0, none⟩)] 49 (0, 0)) :: (some bW, .cells #[.slice (ownA wa.key) wa.l.length wa.c, .slice (ownA wb.key) wb.l.length wb.c] 40 (0, 0)) :: (some bS, .cells #[.slice (ownA sa.key) sa.l.length sa.c, .slice (ownA sb.key) sb.l.length sb.c] 40 (0, 0)) :: (some bC, .cells #[.slice (ownA ca.key) ca.l.length ca.c, .slice (ownA cb.key) cb.l.length cb.c] 40 (0, 0)) :: (wa.key, sob ET 9 wa.l wa.sp) :: (wb.key, sob ET 9 wb.l wb.sp) :: (sa.key, sob ET 9 sa.l sa.sp) :: (sb.key, sob ET 9 sb.l sb.sp) :: (ca.key, sob ET 9 ca.l ca.sp) :: (cb.key, sob ET 9 cb.l cb.sp) :: (endR 30 53 89 bA u ++ (endR 30 53 89 bB v ++ G)))) rfl
                    clear H375
                    have e377 : (wb.l.take j) ++ ((wb.l.drop (j + 1)).take (wb.l.length - (j + 1))) = wb.l.eraseIdx j := by rw [List.take_of_length_le (l := wb.l.drop (j + 1)) (by rw [List.length_drop]; omega), ← List.eraseIdx_eq_take_drop_succ]
                    have hS378 := hS373
                    rw [e377] at hS378
                    have H379 := H375'.as (L' := ((key370, sob ET 9 (wb.l.eraseIdx j) sp372) :: (some bO, .cells #[i64 (((xl).getD z oq0).kd), i64 (((xl).getD z oq0).i), i64 (((xl).getD z oq0).bit), .slice (((xl).getD z oq0).fr.a) ((cont z).length) (((xl).getD z oq0).fr.c)] 51 (0, 0)) :: (some bE, .cells #[.pointer (some ⟨bA, 0, none⟩), .pointer (some ⟨bB, 0, none⟩)] 49 (0, 0)) :: (some bW, .cells #[.slice (ownA wa.key) wa.l.length wa.c, .slice (ownA wb.key) wb.l.length wb.c] 40 (0, 0)) :: (some bS, .cells #[.slice (ownA sa.key) sa.l.length sa.c, .slice (ownA sb.key) sb.l.length sb.c] 40 (0, 0)) :: (some bC, .cells #[.slice (ownA ca.key) ca.l.length ca.c, .slice (ownA cb.key) cb.l.length cb.c] 40 (0, 0)) :: (wa.key, sob ET 9 wa.l wa.sp) :: (wb.key, sob ET 9 wb.l wb.sp) :: (sa.key, sob ET 9 sa.l sa.sp) :: (sb.key, sob ET 9 sb.l sb.sp) :: (ca.key, sob ET 9 ca.l ca.sp) :: (cb.key, sob ET 9 cb.l cb.sp) :: (endR 30 53 89 bA u ++ (endR 30 53 89 bB v ++ G)))) (by rw [e377])
                    exact hK _ _ ⟨b349, key357, c358, key370, c371, sp372, rfl, rfl, rfl, hS378, H379⟩
                  refine WalkC.look rfl (fun _ => .pointer (some ⟨bW, 1, none⟩)) (fun _ _ _ => rfl) (fun q r uw _ _ _ _ => Gives.run rfl (r_indexA (off' := 1) (j := 1) arr40 (b := bW) (off := 0) rfl rfl (by first | rfl | omega | (simp; omega)) (by omega) (by omega)) ⟨rfl, rfl⟩) ?_
                  refine WalkC.eff 3 rfl (fun r uw380 hF382 => ?_) ?_
                  · skip
                    obtain ⟨b349, key357, c358, key370, c371, sp372, e1, e7, e14, hS378, H381⟩ := hF382
                    dsimp only [List.take, List.map, List.cons_append, List.nil_append]
                    rw [e1, e7, e14]
                    refine Gives.ofW0 rfl (fun Q' hK => ?_)
                    refine d_store (k := 3) (v := .slice (ownA key370) ((0 + j) + (wb.l.length - (j + 1))) c371) (cs' := #[.slice (ownA wa.key) wa.l.length wa.c, .slice (ownA key370) ((0 + j) + (wb.l.length - (j + 1))) c371]) H381 rfl rfl rfl siz39 (by rfl) (by intro u hu; simp [Value.cells] at hu; first | (subst hu; rfl) | (rcases hu with rfl <;> rfl)) (by exact Nat.le_of_ble_eq_true rfl) (by rfl) ?_
                    intro w383 H384 hC385
                    have H384' := H384.as (L' := ((key370, sob ET 9 (wb.l.eraseIdx j) sp372) :: (some bO, .cells #[i64 (((xl).getD z oq0).kd), i64 (((xl).getD z oq0).i), i64 (((xl).getD z oq0).bit), .slice (((xl).getD z oq0).fr.a) ((cont z).length) (((xl).getD z oq0).fr.c)] 51 (0, 0)) :: (some bE, .cells #[.pointer (some ⟨bA, 0, none⟩), .pointer (some ⟨bB, 0, none⟩)] 49 (0, 0)) :: (some bW, .cells #[.slice (ownA wa.key) wa.l.length wa.c, .slice (ownA key370) ((0 + j) + (wb.l.length - (j + 1))) c371] 40 (0, 0)) :: (some bS, .cells #[.slice (ownA sa.key) sa.l.length sa.c, .slice (ownA sb.key) sb.l.length sb.c] 40 (0, 0)) :: (some bC, .cells #[.slice (ownA ca.key) ca.l.length ca.c, .slice (ownA cb.key) cb.l.length cb.c] 40 (0, 0)) :: (wa.key, sob ET 9 wa.l wa.sp) :: (wb.key, sob ET 9 wb.l wb.sp) :: (sa.key, sob ET 9 sa.l sa.sp) :: (sb.key, sob ET 9 sb.l sb.sp) :: (ca.key, sob ET 9 ca.l ca.sp) :: (cb.key, sob ET 9 cb.l cb.sp) :: (endR 30 53 89 bA u ++ (endR 30 53 89 bB v ++ G)))) rfl
                    clear H384
                    exact hK _ (fun _ => ⟨b349, key357, c358, key370, c371, sp372, rfl, rfl, rfl, trivial, hS378, H384'⟩)
                  refine WalkC.nil ?_
                  intro r386 w387 hF389
                  obtain ⟨b349, key357, c358, key370, c371, sp372, e1, e7, e14, e16, hS378, H388⟩ := hF389
                  dsimp only
                  rw [e1, e7, e14]
                  refine wnil ?_
                  refine thenNormal ?_
                  refine seqRegion ?_
                  refine sq (r_fieldAddr (off' := 0) fld51_0 (by decide) (b := bO) (off := 0) rfl (by omega)) ?_
                  refine sq (r_loadC (v := i64 (((xl).getD z oq0).kd)) one3 (H388.get (k := 1) rfl) (off := 0) rfl (by rfl)) ?_
                  refine sq (r_eqlI (a := ((xl).getD z oq0).kd) (b := (2 : Int)) rfl rfl) ?_
                  refine wend ?_
                  refine condProp ((((xl).getD z oq0).kd : Int) = (2 : Int)) rfl (fun c222 => ?_) (fun c222 => ?_)
                  · skip
                    refine oneRegion ?_
                    refine sq (r_move (v := i64 ((1 : Nat))) rfl) ?_
                    refine sq (r_indexA (off' := 1) (j := 1) arr49 (b := bE) (off := 0) rfl rfl (by first | rfl | omega | (simp; omega)) (by omega) (by omega)) ?_
                    refine sq (r_loadC (v := .pointer (some ⟨bB, 0, none⟩)) one47 (H388.get (k := 2) rfl) (off := 1) rfl (by rfl)) ?_
                    refine sq (r_move (v := .string (strB ((wb.l).getD j []))) rfl) ?_
                    refine q_toBytesC (l := (wb.l).getD j []) H388 und9 und30 und5 rfl ?_
                    intro g390 c391 sp392 w393 hc396 H394 hE395
                    have H397 := Hp.midB (R := [((some g390), sobF 5 ((wb.l).getD j []) sp392), (key370, sob ET 9 (wb.l.eraseIdx j) sp372), (some bO, .cells #[i64 (((xl).getD z oq0).kd), i64 (((xl).getD z oq0).i), i64 (((xl).getD z oq0).bit), .slice (((xl).getD z oq0).fr.a) ((cont z).length) (((xl).getD z oq0).fr.c)] 51 (0, 0)), (some bE, .cells #[.pointer (some ⟨bA, 0, none⟩), .pointer (some ⟨bB, 0, none⟩)] 49 (0, 0)), (some bW, .cells #[.slice (ownA wa.key) wa.l.length wa.c, .slice (ownA key370) ((0 + j) + (wb.l.length - (j + 1))) c371] 40 (0, 0)), (some bS, .cells #[.slice (ownA sa.key) sa.l.length sa.c, .slice (ownA sb.key) sb.l.length sb.c] 40 (0, 0)), (some bC, .cells #[.slice (ownA ca.key) ca.l.length ca.c, .slice (ownA cb.key) cb.l.length cb.c] 40 (0, 0)), (wa.key, sob ET 9 wa.l wa.sp), (wb.key, sob ET 9 wb.l wb.sp), (sa.key, sob ET 9 sa.l sa.sp), (sb.key, sob ET 9 sb.l sb.sp), (ca.key, sob ET 9 ca.l ca.sp), (cb.key, sob ET 9 cb.l cb.sp)]) (A := endR 30 53 89 bA u) (B := endR 30 53 89 bB v) (F := G) H394
                    refine c_call (vs := [.pointer (some ⟨bB, 0, none⟩), .slice (ownA (some g390)) (((wb.l).getD j []).length) c391]) call27 rfl (hear_any bB v G ([((some g390), sobF 5 ((wb.l).getD j []) sp392), (key370, sob ET 9 (wb.l.eraseIdx j) sp372), (some bO, .cells #[i64 (((xl).getD z oq0).kd), i64 (((xl).getD z oq0).i), i64 (((xl).getD z oq0).bit), .slice (((xl).getD z oq0).fr.a) ((cont z).length) (((xl).getD z oq0).fr.c)] 51 (0, 0)), (some bE, .cells #[.pointer (some ⟨bA, 0, none⟩), .pointer (some ⟨bB, 0, none⟩)] 49 (0, 0)), (some bW, .cells #[.slice (ownA wa.key) wa.l.length wa.c, .slice (ownA key370) ((0 + j) + (wb.l.length - (j + 1))) c371] 40 (0, 0)), (some bS, .cells #[.slice (ownA sa.key) sa.l.length sa.c, .slice (ownA sb.key) sb.l.length sb.c] 40 (0, 0)), (some bC, .cells #[.slice (ownA ca.key) ca.l.length ca.c, .slice (ownA cb.key) cb.l.length cb.c] 40 (0, 0)), (wa.key, sob ET 9 wa.l wa.sp), (wb.key, sob ET 9 wb.l wb.sp), (sa.key, sob ET 9 sa.l sa.sp), (sb.key, sob ET 9 sb.l sb.sp), (ca.key, sob ET 9 ca.l ca.sp), (cb.key, sob ET 9 cb.l cb.sp)] ++ (endR 30 53 89 bA u ++ G)) hv (fun x h => List.mem_append_right _ (List.mem_append_right _ h)) w₀ w393 H397 ((wb.l).getD j []) (ownA (some g390)) (((wb.l).getD j []).length) c391 (by rfl) (by exact hc396) (by (have := hfr.2.1; omega)) (H394.rdZ (k := 0) rfl) (by show (abs v).owed.length ≤ 1000000; have := hs.hb.owl; omega) (by rw [← bss_len]; show (abs v).came.length ≤ 1000000; have := hs.hb.cl; omega)) ?_
                    rintro _ w398 ⟨rfl, e400, X401, HN402, hok403, hab404⟩
                    have H405 := Hp.backB (R := [((some g390), sobF 5 ((wb.l).getD j []) sp392), (key370, sob ET 9 (wb.l.eraseIdx j) sp372), (some bO, .cells #[i64 (((xl).getD z oq0).kd), i64 (((xl).getD z oq0).i), i64 (((xl).getD z oq0).bit), .slice (((xl).getD z oq0).fr.a) ((cont z).length) (((xl).getD z oq0).fr.c)] 51 (0, 0)), (some bE, .cells #[.pointer (some ⟨bA, 0, none⟩), .pointer (some ⟨bB, 0, none⟩)] 49 (0, 0)), (some bW, .cells #[.slice (ownA wa.key) wa.l.length wa.c, .slice (ownA key370) ((0 + j) + (wb.l.length - (j + 1))) c371] 40 (0, 0)), (some bS, .cells #[.slice (ownA sa.key) sa.l.length sa.c, .slice (ownA sb.key) sb.l.length sb.c] 40 (0, 0)), (some bC, .cells #[.slice (ownA ca.key) ca.l.length ca.c, .slice (ownA cb.key) cb.l.length cb.c] 40 (0, 0)), (wa.key, sob ET 9 wa.l wa.sp), (wb.key, sob ET 9 wb.l wb.sp), (sa.key, sob ET 9 sa.l sa.sp), (sb.key, sob ET 9 sb.l sb.sp), (ca.key, sob ET 9 ca.l ca.sp), (cb.key, sob ET 9 cb.l cb.sp)]) (A := endR 30 53 89 bA u) (B := endR 30 53 89 bB e400) (X := X401) (F := G) HN402
                    obtain ⟨F406, hF407⟩ : ∃ F2, F2 = X401 ++ G := ⟨_, rfl⟩
                    rw [← hF407] at H405 hok403
                    have hsub408 : ∀ x ∈ G, x ∈ F406 := fun x h => by rw [hF407]; exact List.mem_append_right _ h
                    have ok410 := hu.mono hsub408
                    have H409 := H405.as (L' := (((some g390), sobF 5 ((wb.l).getD j []) sp392) :: (key370, sob ET 9 (wb.l.eraseIdx j) sp372) :: (some bO, .cells #[i64 (((xl).getD z oq0).kd), i64 (((xl).getD z oq0).i), i64 (((xl).getD z oq0).bit), .slice (((xl).getD z oq0).fr.a) ((cont z).length) (((xl).getD z oq0).fr.c)] 51 (0, 0)) :: (some bE, .cells #[.pointer (some ⟨bA, 0, none⟩), .pointer (some ⟨bB, 0, none⟩)] 49 (0, 0)) :: (some bW, .cells #[.slice (ownA wa.key) wa.l.length wa.c, .slice (ownA key370) ((0 + j) + (wb.l.length - (j + 1))) c371] 40 (0, 0)) :: (some bS, .cells #[.slice (ownA sa.key) sa.l.length sa.c, .slice (ownA sb.key) sb.l.length sb.c] 40 (0, 0)) :: (some bC, .cells #[.slice (ownA ca.key) ca.l.length ca.c, .slice (ownA cb.key) cb.l.length cb.c] 40 (0, 0)) :: (wa.key, sob ET 9 wa.l wa.sp) :: (wb.key, sob ET 9 wb.l wb.sp) :: (sa.key, sob ET 9 sa.l sa.sp) :: (sb.key, sob ET 9 sb.l sb.sp) :: (ca.key, sob ET 9 ca.l ca.sp) :: (cb.key, sob ET 9 cb.l cb.sp) :: (endR 30 53 89 bA u ++ (endR 30 53 89 bB e400 ++ F406)))) rfl
                    refine wnil ?_
                    refine blockNormal ?_
                    refine thenNormal ?_
                    rw [show (0 + j) + (wb.l.length - (j + 1)) = (wb.l.eraseIdx j).length from by first | (rw [List.length_append, List.length_singleton]; done) | (rw [List.length_set]; done) | (rw [List.length_eraseIdx_of_lt hjl]; omega)] at H409
                    have hh411 : Half (z + 1) (abs e400) (wb.l.eraseIdx j) sb.l cb.l sa.l := by rw [hab404]; exact (hs.hb.erase j).hear (by omega) hfr
                    have hh412 : Half (z + 1) (abs u) wa.l sa.l ca.l sb.l := hs.ha.mono (Nat.le_succ z)
                    exact hj (u, e400, F406, ⟨wa.key, wa.c, wa.sp, wa.l⟩, ⟨key370, c371, sp372, wb.l.eraseIdx j⟩, ⟨sa.key, sa.c, sa.sp, sa.l⟩, ⟨sb.key, sb.c, sb.sp, sb.l⟩, ⟨ca.key, ca.c, ca.sp, ca.l⟩, ⟨cb.key, cb.c, cb.sp, cb.l⟩) _ _ ⟨rfl, rfl, rfl, rfl, rfl, rfl, trivial⟩ ⟨⟨ok410, hok403, ⟨hh412, hh411, hs.t0, hS378, hs.t2, hs.t3, hs.t4, hs.t5⟩⟩, (((((((((((((H409.dropk 8).dropk 2).dropk 0).pull (k := 9) rfl).pull (k := 9) rfl).pull (k := 9) rfl).pull (k := 9) rfl).pull (k := 4) rfl).pull (k := 9) rfl).pull (k := 9) rfl).pull (k := 9) rfl).pull (k := 9) rfl).pull (k := 9) rfl)⟩
                  · skip
                    refine skipAny ?_
                    refine blockNormal ?_
                    refine thenNormal ?_
                    rw [show (0 + j) + (wb.l.length - (j + 1)) = (wb.l.eraseIdx j).length from by first | (rw [List.length_append, List.length_singleton]; done) | (rw [List.length_set]; done) | (rw [List.length_eraseIdx_of_lt hjl]; omega)] at H388
                    have hh413 : Half (z + 1) (abs v) (wb.l.eraseIdx j) sb.l cb.l sa.l := (hs.hb.erase j).mono (Nat.le_succ z)
                    have hh414 : Half (z + 1) (abs u) wa.l sa.l ca.l sb.l := hs.ha.mono (Nat.le_succ z)
                    exact hj (u, v, G, ⟨wa.key, wa.c, wa.sp, wa.l⟩, ⟨key370, c371, sp372, wb.l.eraseIdx j⟩, ⟨sa.key, sa.c, sa.sp, sa.l⟩, ⟨sb.key, sb.c, sb.sp, sb.l⟩, ⟨ca.key, ca.c, ca.sp, ca.l⟩, ⟨cb.key, cb.c, cb.sp, cb.l⟩) _ _ ⟨rfl, rfl, rfl, rfl, rfl, rfl, trivial⟩ ⟨⟨hu, hv, ⟨hh414, hh413, hs.t0, hS378, hs.t2, hs.t3, hs.t4, hs.t5⟩⟩, ((((((((((((H388.dropk 7).dropk 1).pull (k := 9) rfl).pull (k := 9) rfl).pull (k := 9) rfl).pull (k := 9) rfl).pull (k := 4) rfl).pull (k := 9) rfl).pull (k := 9) rfl).pull (k := 9) rfl).pull (k := 9) rfl).pull (k := 9) rfl)⟩
                · skip
                  refine seqRegion ?_
                  refine sq (r_move (v := i64 ((1 : Nat))) rfl) ?_
                  refine sq (r_indexA (off' := 1) (j := 1) arr49 (b := bE) (off := 0) rfl rfl (by first | rfl | omega | (simp; omega)) (by omega) (by omega)) ?_
                  refine sq (r_loadC (v := .pointer (some ⟨bB, 0, none⟩)) one47 (H345.get (k := 1) rfl) (off := 1) rfl (by rfl)) ?_
                  have hst := hs.hb.stepLen
                  have hsaid := hs.hb.said (fun p hp => by obtain ⟨g, hg, rfl⟩ := List.mem_map.1 hp; exact hv.small g hg)
                  have hself : abs v = abs v := rfl
                  have H415 := Hp.midB (R := [(some bO, .cells #[i64 (((xl).getD z oq0).kd), i64 (((xl).getD z oq0).i), i64 (((xl).getD z oq0).bit), .slice (((xl).getD z oq0).fr.a) ((cont z).length) (((xl).getD z oq0).fr.c)] 51 (0, 0)), (some bE, .cells #[.pointer (some ⟨bA, 0, none⟩), .pointer (some ⟨bB, 0, none⟩)] 49 (0, 0)), (some bW, .cells #[.slice (ownA wa.key) wa.l.length wa.c, .slice (ownA wb.key) wb.l.length wb.c] 40 (0, 0)), (some bS, .cells #[.slice (ownA sa.key) sa.l.length sa.c, .slice (ownA sb.key) sb.l.length sb.c] 40 (0, 0)), (some bC, .cells #[.slice (ownA ca.key) ca.l.length ca.c, .slice (ownA cb.key) cb.l.length cb.c] 40 (0, 0)), (wa.key, sob ET 9 wa.l wa.sp), (wb.key, sob ET 9 wb.l wb.sp), (sa.key, sob ET 9 sa.l sa.sp), (sb.key, sob ET 9 sb.l sb.sp), (ca.key, sob ET 9 ca.l ca.sp), (cb.key, sob ET 9 cb.l cb.sp)]) (A := endR 30 53 89 bA u) (B := endR 30 53 89 bB v) (F := G) H345
                  refine c_call (vs := [.pointer (some ⟨bB, 0, none⟩)]) call28 rfl (step_any bB v G ([(some bO, .cells #[i64 (((xl).getD z oq0).kd), i64 (((xl).getD z oq0).i), i64 (((xl).getD z oq0).bit), .slice (((xl).getD z oq0).fr.a) ((cont z).length) (((xl).getD z oq0).fr.c)] 51 (0, 0)), (some bE, .cells #[.pointer (some ⟨bA, 0, none⟩), .pointer (some ⟨bB, 0, none⟩)] 49 (0, 0)), (some bW, .cells #[.slice (ownA wa.key) wa.l.length wa.c, .slice (ownA wb.key) wb.l.length wb.c] 40 (0, 0)), (some bS, .cells #[.slice (ownA sa.key) sa.l.length sa.c, .slice (ownA sb.key) sb.l.length sb.c] 40 (0, 0)), (some bC, .cells #[.slice (ownA ca.key) ca.l.length ca.c, .slice (ownA cb.key) cb.l.length cb.c] 40 (0, 0)), (wa.key, sob ET 9 wa.l wa.sp), (wb.key, sob ET 9 wb.l wb.sp), (sa.key, sob ET 9 sa.l sa.sp), (sb.key, sob ET 9 sb.l sb.sp), (ca.key, sob ET 9 ca.l ca.sp), (cb.key, sob ET 9 cb.l cb.sp)] ++ (endR 30 53 89 bA u ++ G)) hv (fun x h => List.mem_append_right _ (List.mem_append_right _ h)) w₀ w344 H415 hG (show (abs v).since < 1000000000 from by have := hs.hb.sinl; omega) (show (abs v).owed.length ≤ 1000000 from by have := hs.hb.owl; omega) (show (abs v).sends ≤ 8 from hs.hb.senl)) ?_
                  rintro _ w416 ⟨x418, e419, rfl, hx420, hxb421, hok422, hab423, HN424⟩
                  rw [hself] at hxb421 hab423
                  obtain ⟨X425, hX426⟩ : ∃ X, X = (x418.key, sob ES 30 (svs x418.fs) x418.sp) :: frs 5 x418.fs := ⟨_, rfl⟩
                  have hok422' := hok422.mono (F' := X425 ++ G) (fun x h => List.mem_append_right _ h)
                  have HN424' := HN424.as (L' := endR 30 53 89 bB e419 ++ (X425 ++ ([(some bO, .cells #[i64 (((xl).getD z oq0).kd), i64 (((xl).getD z oq0).i), i64 (((xl).getD z oq0).bit), .slice (((xl).getD z oq0).fr.a) ((cont z).length) (((xl).getD z oq0).fr.c)] 51 (0, 0)), (some bE, .cells #[.pointer (some ⟨bA, 0, none⟩), .pointer (some ⟨bB, 0, none⟩)] 49 (0, 0)), (some bW, .cells #[.slice (ownA wa.key) wa.l.length wa.c, .slice (ownA wb.key) wb.l.length wb.c] 40 (0, 0)), (some bS, .cells #[.slice (ownA sa.key) sa.l.length sa.c, .slice (ownA sb.key) sb.l.length sb.c] 40 (0, 0)), (some bC, .cells #[.slice (ownA ca.key) ca.l.length ca.c, .slice (ownA cb.key) cb.l.length cb.c] 40 (0, 0)), (wa.key, sob ET 9 wa.l wa.sp), (wb.key, sob ET 9 wb.l wb.sp), (sa.key, sob ET 9 sa.l sa.sp), (sb.key, sob ET 9 sb.l sb.sp), (ca.key, sob ET 9 ca.l ca.sp), (cb.key, sob ET 9 cb.l cb.sp)] ++ (endR 30 53 89 bA u ++ G)))) (by rw [hX426]; rfl)
                  have hxb421' := hxb421
                  have H428 := Hp.backB (R := [(some bO, .cells #[i64 (((xl).getD z oq0).kd), i64 (((xl).getD z oq0).i), i64 (((xl).getD z oq0).bit), .slice (((xl).getD z oq0).fr.a) ((cont z).length) (((xl).getD z oq0).fr.c)] 51 (0, 0)), (some bE, .cells #[.pointer (some ⟨bA, 0, none⟩), .pointer (some ⟨bB, 0, none⟩)] 49 (0, 0)), (some bW, .cells #[.slice (ownA wa.key) wa.l.length wa.c, .slice (ownA wb.key) wb.l.length wb.c] 40 (0, 0)), (some bS, .cells #[.slice (ownA sa.key) sa.l.length sa.c, .slice (ownA sb.key) sb.l.length sb.c] 40 (0, 0)), (some bC, .cells #[.slice (ownA ca.key) ca.l.length ca.c, .slice (ownA cb.key) cb.l.length cb.c] 40 (0, 0)), (wa.key, sob ET 9 wa.l wa.sp), (wb.key, sob ET 9 wb.l wb.sp), (sa.key, sob ET 9 sa.l sa.sp), (sb.key, sob ET 9 sb.l sb.sp), (ca.key, sob ET 9 ca.l ca.sp), (cb.key, sob ET 9 cb.l cb.sp)]) (A := endR 30 53 89 bA u) (B := endR 30 53 89 bB e419) (X := X425) (F := G) HN424'
                  obtain ⟨F429, hF430⟩ : ∃ F2, F2 = X425 ++ G := ⟨_, rfl⟩
                  rw [← hF430] at H428 hok422'
                  have hsub431 : ∀ x ∈ G, x ∈ F429 := fun x h => by rw [hF430]; exact List.mem_append_right _ h
                  have ok433 := hu.mono hsub431
                  have H432 := H428.as (L' := ((some bO, .cells #[i64 (((xl).getD z oq0).kd), i64 (((xl).getD z oq0).i), i64 (((xl).getD z oq0).bit), .slice (((xl).getD z oq0).fr.a) ((cont z).length) (((xl).getD z oq0).fr.c)] 51 (0, 0)) :: (some bE, .cells #[.pointer (some ⟨bA, 0, none⟩), .pointer (some ⟨bB, 0, none⟩)] 49 (0, 0)) :: (some bW, .cells #[.slice (ownA wa.key) wa.l.length wa.c, .slice (ownA wb.key) wb.l.length wb.c] 40 (0, 0)) :: (some bS, .cells #[.slice (ownA sa.key) sa.l.length sa.c, .slice (ownA sb.key) sb.l.length sb.c] 40 (0, 0)) :: (some bC, .cells #[.slice (ownA ca.key) ca.l.length ca.c, .slice (ownA cb.key) cb.l.length cb.c] 40 (0, 0)) :: (wa.key, sob ET 9 wa.l wa.sp) :: (wb.key, sob ET 9 wb.l wb.sp) :: (sa.key, sob ET 9 sa.l sa.sp) :: (sb.key, sob ET 9 sb.l sb.sp) :: (ca.key, sob ET 9 ca.l ca.sp) :: (cb.key, sob ET 9 cb.l cb.sp) :: (endR 30 53 89 bA u ++ (endR 30 53 89 bB e419 ++ F429)))) rfl
                  have hm434 : (x418.key, sob ES 30 (svs x418.fs) x418.sp) ∈ F429 := by rw [hF430, hX426]; exact List.mem_append_left _ (List.mem_cons_self ..)
                  have hmf435 : ∀ f ∈ x418.fs, f.row 5 ∈ F429 := fun f h => by rw [hF430, hX426]; exact List.mem_append_left _ (List.mem_cons_of_mem _ (List.mem_map_of_mem h))
                  refine sq (r_lenS sli22 (a := ownA x418.key) (m := x418.fs.length) (c := x418.c) rfl) ?_
                  refine sq (r_move (v := i64 ((0 : Int))) rfl) ?_
                  refine wend ?_
                  refine blockAny ?_
                  refine loopAny (σ := Nat × Tx) (fun (q, wx) => [(0, .slice xa xl.length xc), (3, .pointer (some ⟨bE, 0, none⟩)), (4, .pointer (some ⟨bW, 0, none⟩)), (5, .pointer (some ⟨bS, 0, none⟩)), (6, .pointer (some ⟨bC, 0, none⟩)), (7, i64 ((z : Nat))), (9, i64 ((1 : Nat))), (75, .slice (ownA x418.key) x418.fs.length x418.c), (76, i64 ((x418.fs.length : Nat))), (77, i64 ((q : Nat)))]) (fun (q, wx) w' => (q ≤ x418.fs.length ∧ Sl ET wx.key wx.l wx.c wx.sp ∧ wx.l = wa.l ++ (bss x418.fs).take q) ∧ Hp No w₀ w' ((some bO, .cells #[i64 (((xl).getD z oq0).kd), i64 (((xl).getD z oq0).i), i64 (((xl).getD z oq0).bit), .slice (((xl).getD z oq0).fr.a) ((cont z).length) (((xl).getD z oq0).fr.c)] 51 (0, 0)) :: (some bE, .cells #[.pointer (some ⟨bA, 0, none⟩), .pointer (some ⟨bB, 0, none⟩)] 49 (0, 0)) :: (some bW, .cells #[.slice (ownA wx.key) wx.l.length wx.c, .slice (ownA wb.key) wb.l.length wb.c] 40 (0, 0)) :: (some bS, .cells #[.slice (ownA sa.key) sa.l.length sa.c, .slice (ownA sb.key) sb.l.length sb.c] 40 (0, 0)) :: (some bC, .cells #[.slice (ownA ca.key) ca.l.length ca.c, .slice (ownA cb.key) cb.l.length cb.c] 40 (0, 0)) :: (wx.key, sob ET 9 wx.l wx.sp) :: (wb.key, sob ET 9 wb.l wb.sp) :: (sa.key, sob ET 9 sa.l sa.sp) :: (sb.key, sob ET 9 sb.l sb.sp) :: (ca.key, sob ET 9 ca.l ca.sp) :: (cb.key, sob ET 9 cb.l cb.sp) :: (endR 30 53 89 bA u ++ (endR 30 53 89 bB e419 ++ F429)))) (fun (q, wx) => x418.fs.length - q) ((0, wa)) ?_ ?_ ?_
                  · exact ⟨rfl, rfl, rfl, rfl, rfl, rfl, rfl, rfl, rfl, rfl, trivial⟩
                  · exact ⟨⟨Nat.zero_le _, hs.t0, by rw [List.take_zero, List.append_nil]⟩, H432⟩
                  rintro ⟨q, wx⟩ ρ w436 ⟨⟨hq, hwx, hwe⟩, HW⟩
                  have hlx := bss_len2 hxb421'
                  refine seqRegion ?_
                  refine sq (r_lssI (a := (q : Nat)) (b := (x418.fs.length : Nat)) rfl rfl) ?_
                  refine wend ?_
                  refine seqAny ?_
                  refine condProp (((q : Nat) : Int) < (x418.fs.length : Nat)) rfl (fun c78 => ?_) (fun c78 => ?_)
                  · skip
                    obtain ⟨f438, hf439⟩ : ∃ f, x418.fs[q]? = some f := ⟨_, List.getElem?_eq_getElem (by omega)⟩
                    have hfok440 := hx420.each _ (List.mem_of_getElem? hf439)
                    have hm441 := hmf435 _ (List.mem_of_getElem? hf439)
                    have hwl2 : wx.l.length ≤ 1000000 := by rw [hwe, List.length_append, List.length_take]; omega
                    refine skipAny ?_
                    refine thenNormal ?_
                    refine seqAny ?_
                    refine blockAny ?_
                    refine seqRegion ?_
                    refine sq (r_idxS (E := ES) (l := svs x418.fs) (j := q) sli22 (HW.rdm (T := 30) hx420.sl (List.mem_cons_of_mem _ (List.mem_cons_of_mem _ (List.mem_cons_of_mem _ (List.mem_cons_of_mem _ (List.mem_cons_of_mem _ (List.mem_cons_of_mem _ (List.mem_cons_of_mem _ (List.mem_cons_of_mem _ (List.mem_cons_of_mem _ (List.mem_cons_of_mem _ (List.mem_cons_of_mem _ (List.mem_append_right _ (List.mem_append_right _ hm434)))))))))))))) rfl rfl (by first | rfl | omega | (simp; omega)) (by exact (svs_len _).symm) (by rw [svs_len]; omega)) ?_
                    refine sq ((r_ldS (E := ES) (l := svs x418.fs) (j := q) (v := (svs x418.fs).getD q sv0) fits30 (HW.rdm (T := 30) hx420.sl (List.mem_cons_of_mem _ (List.mem_cons_of_mem _ (List.mem_cons_of_mem _ (List.mem_cons_of_mem _ (List.mem_cons_of_mem _ (List.mem_cons_of_mem _ (List.mem_cons_of_mem _ (List.mem_cons_of_mem _ (List.mem_cons_of_mem _ (List.mem_cons_of_mem _ (List.mem_cons_of_mem _ (List.mem_append_right _ (List.mem_append_right _ hm434)))))))))))))) rfl rfl (at_getD (by rw [svs_len]; omega))).as (v' := .slice (ownA f438.key) f438.bs.length f438.c) (by rw [svs_get hf439]; rfl)) ?_
                    refine sq (r_assign (v := .slice (ownA f438.key) f438.bs.length f438.c) rfl) ?_
                    refine wend ?_
                    refine drawC (m := 12) [0, 1, 0, 4, 12, 28, 0, 64, 192, 508, 1023, 2047] [8, 9, 11] (fun q vs w' => match q, vs with | 0, [] => Hp No w₀ w' ((some bO, .cells #[i64 (((xl).getD z oq0).kd), i64 (((xl).getD z oq0).i), i64 (((xl).getD z oq0).bit), .slice (((xl).getD z oq0).fr.a) ((cont z).length) (((xl).getD z oq0).fr.c)] 51 (0, 0)) :: (some bE, .cells #[.pointer (some ⟨bA, 0, none⟩), .pointer (some ⟨bB, 0, none⟩)] 49 (0, 0)) :: (some bW, .cells #[.slice (ownA wx.key) wx.l.length wx.c, .slice (ownA wb.key) wb.l.length wb.c] 40 (0, 0)) :: (some bS, .cells #[.slice (ownA sa.key) sa.l.length sa.c, .slice (ownA sb.key) sb.l.length sb.c] 40 (0, 0)) :: (some bC, .cells #[.slice (ownA ca.key) ca.l.length ca.c, .slice (ownA cb.key) cb.l.length cb.c] 40 (0, 0)) :: (wx.key, sob ET 9 wx.l wx.sp) :: (wb.key, sob ET 9 wb.l wb.sp) :: (sa.key, sob ET 9 sa.l sa.sp) :: (sb.key, sob ET 9 sb.l sb.sp) :: (ca.key, sob ET 9 ca.l ca.sp) :: (cb.key, sob ET 9 cb.l cb.sp) :: (endR 30 53 89 bA u ++ (endR 30 53 89 bB e419 ++ F429))) | 1, [v0] => ∃ (b445 : Nat), v0 = .slice (ownA (some b445)) 1 1 ∧ Sl ET (some b445) ([f438.bs] : List (List (BitVec 8))) 1 ([]) ∧ Hp No w₀ w' (((some b445), sob ET 9 ([f438.bs] : List (List (BitVec 8))) ([])) :: (some bO, .cells #[i64 (((xl).getD z oq0).kd), i64 (((xl).getD z oq0).i), i64 (((xl).getD z oq0).bit), .slice (((xl).getD z oq0).fr.a) ((cont z).length) (((xl).getD z oq0).fr.c)] 51 (0, 0)) :: (some bE, .cells #[.pointer (some ⟨bA, 0, none⟩), .pointer (some ⟨bB, 0, none⟩)] 49 (0, 0)) :: (some bW, .cells #[.slice (ownA wx.key) wx.l.length wx.c, .slice (ownA wb.key) wb.l.length wb.c] 40 (0, 0)) :: (some bS, .cells #[.slice (ownA sa.key) sa.l.length sa.c, .slice (ownA sb.key) sb.l.length sb.c] 40 (0, 0)) :: (some bC, .cells #[.slice (ownA ca.key) ca.l.length ca.c, .slice (ownA cb.key) cb.l.length cb.c] 40 (0, 0)) :: (wx.key, sob ET 9 wx.l wx.sp) :: (wb.key, sob ET 9 wb.l wb.sp) :: (sa.key, sob ET 9 sa.l sa.sp) :: (sb.key, sob ET 9 sb.l sb.sp) :: (ca.key, sob ET 9 ca.l ca.sp) :: (cb.key, sob ET 9 cb.l cb.sp) :: (endR 30 53 89 bA u ++ (endR 30 53 89 bB e419 ++ F429))) | 2, [v0, v1] => ∃ (b445 : Nat) (key453 : Option Nat) (c454 : Nat) (sp455 : List Value), v0 = .slice (ownA (some b445)) 1 1 ∧ v1 = .slice (ownA key453) (wx.l.length + 1) c454 ∧ Sl ET (some b445) ([f438.bs] : List (List (BitVec 8))) 1 ([]) ∧ Sl ET key453 (wx.l ++ ([f438.bs] : List (List (BitVec 8)))) c454 sp455 ∧ Hp No w₀ w' (((some b445), sob ET 9 ([f438.bs] : List (List (BitVec 8))) ([])) :: (some bO, .cells #[i64 (((xl).getD z oq0).kd), i64 (((xl).getD z oq0).i), i64 (((xl).getD z oq0).bit), .slice (((xl).getD z oq0).fr.a) ((cont z).length) (((xl).getD z oq0).fr.c)] 51 (0, 0)) :: (some bE, .cells #[.pointer (some ⟨bA, 0, none⟩), .pointer (some ⟨bB, 0, none⟩)] 49 (0, 0)) :: (some bW, .cells #[.slice (ownA wx.key) wx.l.length wx.c, .slice (ownA wb.key) wb.l.length wb.c] 40 (0, 0)) :: (some bS, .cells #[.slice (ownA sa.key) sa.l.length sa.c, .slice (ownA sb.key) sb.l.length sb.c] 40 (0, 0)) :: (some bC, .cells #[.slice (ownA ca.key) ca.l.length ca.c, .slice (ownA cb.key) cb.l.length cb.c] 40 (0, 0)) :: (key453, sob ET 9 (wx.l ++ ([f438.bs] : List (List (BitVec 8)))) sp455) :: (wb.key, sob ET 9 wb.l wb.sp) :: (sa.key, sob ET 9 sa.l sa.sp) :: (sb.key, sob ET 9 sb.l sb.sp) :: (ca.key, sob ET 9 ca.l ca.sp) :: (cb.key, sob ET 9 cb.l cb.sp) :: (endR 30 53 89 bA u ++ (endR 30 53 89 bB e419 ++ F429))) | 3, [v0, v1, _] => ∃ (b445 : Nat) (key453 : Option Nat) (c454 : Nat) (sp455 : List Value), v0 = .slice (ownA (some b445)) 1 1 ∧ v1 = .slice (ownA key453) (wx.l.length + 1) c454 ∧ True ∧ Sl ET (some b445) ([f438.bs] : List (List (BitVec 8))) 1 ([]) ∧ Sl ET key453 (wx.l ++ ([f438.bs] : List (List (BitVec 8)))) c454 sp455 ∧ Hp No w₀ w' (((some b445), sob ET 9 ([f438.bs] : List (List (BitVec 8))) ([])) :: (some bO, .cells #[i64 (((xl).getD z oq0).kd), i64 (((xl).getD z oq0).i), i64 (((xl).getD z oq0).bit), .slice (((xl).getD z oq0).fr.a) ((cont z).length) (((xl).getD z oq0).fr.c)] 51 (0, 0)) :: (some bE, .cells #[.pointer (some ⟨bA, 0, none⟩), .pointer (some ⟨bB, 0, none⟩)] 49 (0, 0)) :: (some bW, .cells #[.slice (ownA key453) (wx.l.length + 1) c454, .slice (ownA wb.key) wb.l.length wb.c] 40 (0, 0)) :: (some bS, .cells #[.slice (ownA sa.key) sa.l.length sa.c, .slice (ownA sb.key) sb.l.length sb.c] 40 (0, 0)) :: (some bC, .cells #[.slice (ownA ca.key) ca.l.length ca.c, .slice (ownA cb.key) cb.l.length cb.c] 40 (0, 0)) :: (key453, sob ET 9 (wx.l ++ ([f438.bs] : List (List (BitVec 8)))) sp455) :: (wb.key, sob ET 9 wb.l wb.sp) :: (sa.key, sob ET 9 sa.l sa.sp) :: (sb.key, sob ET 9 sb.l sb.sp) :: (ca.key, sob ET 9 ca.l ca.sp) :: (cb.key, sob ET 9 cb.l cb.sp) :: (endR 30 53 89 bA u ++ (endR 30 53 89 bB e419 ++ F429))) | _, _ => False) mixed (by kernel_rfl) (by kernel_rfl) HW.drew ?_
                    refine WalkC.look rfl (fun _ => i64 ((1 : Nat))) (fun _ _ _ => rfl) (fun q r uw _ _ _ _ => Gives.run rfl (r_move (v := i64 ((1 : Nat))) rfl) ⟨rfl, rfl⟩) ?_
                    refine WalkC.look rfl (fun _ => i64 ((0 : Nat))) (fun _ _ _ => rfl) (fun q r uw _ _ _ _ => Gives.run rfl ((r_subI (a := (1 : Int)) (b := (1 : Nat)) rfl rfl (by omega)).as (v' := i64 ((0 : Nat))) (by rfl)) ⟨rfl, rfl⟩) ?_
                    refine WalkC.look rfl (fun _ => i64 ((1 : Nat))) (fun _ _ _ => rfl) (fun q r uw _ _ _ _ => Gives.run rfl (r_move (v := i64 ((1 : Nat))) rfl) ⟨rfl, rfl⟩) ?_
                    refine WalkC.look rfl (fun _ => i64 ((0 : Nat))) (fun _ _ _ => rfl) (fun q r uw _ _ _ _ => Gives.run rfl ((r_subI (a := (1 : Int)) (b := (1 : Nat)) rfl rfl (by omega)).as (v' := i64 ((0 : Nat))) (by rfl)) ⟨rfl, rfl⟩) ?_
                    refine WalkC.look rfl (fun _ => .pointer (some ⟨bW, 0, none⟩)) (fun _ _ _ => rfl) (fun q r uw _ _ _ _ => Gives.run rfl (r_indexA (off' := 0) (j := 0) arr40 (b := bW) (off := 0) rfl rfl (by first | rfl | omega | (simp; omega)) (by omega) (by omega)) ⟨rfl, rfl⟩) ?_
                    refine WalkC.look rfl (fun _ => .slice (ownA wx.key) wx.l.length wx.c) (fun _ _ _ => rfl) (fun q r uw hlo hhi hle hF => ?_) ?_
                    · skip
                      have h1 : 0 ≤ q := Nat.zero_le _
                      have h2 : q ≤ 1 := hhi 1 9 rfl rfl
                      rcases (show q = 0 ∨ q = 1 by omega) with rfl | rfl
                      · skip
                        have HH := hF
                        exact Gives.run rfl (r_loadC (v := .slice (ownA wx.key) wx.l.length wx.c) one39 (HH.get (k := 2) rfl) (off := 0) rfl (by rfl)) ⟨rfl, rfl⟩
                      · skip
                        obtain ⟨b445, e8, hS446, HH⟩ := hF
                        exact Gives.run rfl (r_loadC (v := .slice (ownA wx.key) wx.l.length wx.c) one39 (HH.get (k := 3) rfl) (off := 0) rfl (by rfl)) ⟨rfl, rfl⟩
                    refine WalkC.look rfl (fun _ => .slice (ownA f438.key) f438.bs.length f438.c) (fun _ _ _ => rfl) (fun q r uw _ _ _ _ => Gives.run rfl (r_move (v := .slice (ownA f438.key) f438.bs.length f438.c) rfl) ⟨rfl, rfl⟩) ?_
                    refine WalkC.look rfl (fun _ => .string (strB f438.bs)) (fun _ _ _ => rfl) (fun q r uw hlo hhi hle hF => ?_) ?_
                    · skip
                      have h1 : 0 ≤ q := Nat.zero_le _
                      have h2 : q ≤ 0 := hhi 0 8 rfl rfl
                      rcases (show q = 0 by omega) with rfl
                      · skip
                        have HH := hF
                        exact Gives.run rfl (r_toStr (l := f438.bs) und30 und5 und9 (HH.rdm (T := 5) hfok440 (List.mem_cons_of_mem _ (List.mem_cons_of_mem _ (List.mem_cons_of_mem _ (List.mem_cons_of_mem _ (List.mem_cons_of_mem _ (List.mem_cons_of_mem _ (List.mem_cons_of_mem _ (List.mem_cons_of_mem _ (List.mem_cons_of_mem _ (List.mem_cons_of_mem _ (List.mem_cons_of_mem _ (List.mem_append_right _ (List.mem_append_right _ hm441)))))))))))))) rfl (by rfl)) ⟨rfl, rfl⟩
                    refine WalkC.eff 0 rfl (fun r uw442 hF444 => ?_) ?_
                    · skip
                      have H443 := hF444
                      dsimp only [List.take, List.map, List.cons_append, List.nil_append]
                      refine Gives.ofW (d := 89) rfl rfl (fun Q' hK => ?_)
                      refine q_buildSlice (E := ET) (l := ([f438.bs] : List (List (BitVec 8)))) H443 sli39 zer9 (Nat.le_of_ble_eq_true rfl) (ps := [(0, .string (strB f438.bs))]) rfl (by exact fillAll rfl rfl) rfl ?_
                      intro b445 w447 hS446 H448 hE449
                      exact hK _ _ ⟨b445, rfl, hS446, H448⟩
                    refine WalkC.eff 1 rfl (fun r uw450 hF452 => ?_) ?_
                    · skip
                      obtain ⟨b445, e8, hS446, H451⟩ := hF452
                      dsimp only [List.take, List.map, List.cons_append, List.nil_append]
                      rw [e8]
                      refine Gives.ofW (d := 90) rfl rfl (fun Q' hK => ?_)
                      refine q_append (E := ET) (k := 6) (l := wx.l) (l2 := ([f438.bs] : List (List (BitVec 8)))) H451 rfl hwx sli39 zer9 rfl byt9 (H451.rd (k := 0) rfl hS446) rfl (by rfl) rfl (by rfl) (by omega) ?_
                      intro key453 c454 sp455 w457 hS456 hne459 H458
                      have H458' := H458.as (L' := (((some b445), sob ET 9 ([f438.bs] : List (List (BitVec 8))) ([])) :: (some bO, .cells #[i64 (((xl).getD z oq0).kd), i64 (((xl).getD z oq0).i), i64 (((xl).getD z oq0).bit), .slice (((xl).getD z oq0).fr.a) ((cont z).length) (((xl).getD z oq0).fr.c)] 51 (0, 0)) :: (some bE, .cells #[.pointer (some ⟨bA, 0, none⟩), .pointer (some ⟨bB, 0, none⟩)] 49 (0, 0)) :: (some bW, .cells #[.slice (ownA wx.key) wx.l.length wx.c, .slice (ownA wb.key) wb.l.length wb.c] 40 (0, 0)) :: (some bS, .cells #[.slice (ownA sa.key) sa.l.length sa.c, .slice (ownA sb.key) sb.l.length sb.c] 40 (0, 0)) :: (some bC, .cells #[.slice (ownA ca.key) ca.l.length ca.c, .slice (ownA cb.key) cb.l.length cb.c] 40 (0, 0)) :: (key453, sob ET 9 (wx.l ++ ([f438.bs] : List (List (BitVec 8)))) sp455) :: (wb.key, sob ET 9 wb.l wb.sp) :: (sa.key, sob ET 9 sa.l sa.sp) :: (sb.key, sob ET 9 sb.l sb.sp) :: (ca.key, sob ET 9 ca.l ca.sp) :: (cb.key, sob ET 9 cb.l cb.sp) :: (endR 30 53 89 bA u ++ (endR 30 53 89 bB e419 ++ F429)))) rfl
                      clear H458
                      exact hK _ _ ⟨b445, key453, c454, sp455, rfl, rfl, hS446, hS456, H458'⟩
                    refine WalkC.look rfl (fun _ => .pointer (some ⟨bW, 0, none⟩)) (fun _ _ _ => rfl) (fun q r uw _ _ _ _ => Gives.run rfl (r_indexA (off' := 0) (j := 0) arr40 (b := bW) (off := 0) rfl rfl (by first | rfl | omega | (simp; omega)) (by omega) (by omega)) ⟨rfl, rfl⟩) ?_
                    refine WalkC.eff 2 rfl (fun r uw460 hF462 => ?_) ?_
                    · skip
                      obtain ⟨b445, key453, c454, sp455, e8, e9, hS446, hS456, H461⟩ := hF462
                      dsimp only [List.take, List.map, List.cons_append, List.nil_append]
                      rw [e8, e9]
                      refine Gives.ofW0 rfl (fun Q' hK => ?_)
                      refine d_store (k := 3) (v := .slice (ownA key453) (wx.l.length + 1) c454) (cs' := #[.slice (ownA key453) (wx.l.length + 1) c454, .slice (ownA wb.key) wb.l.length wb.c]) H461 rfl rfl rfl siz39 (by rfl) (by intro u hu; simp [Value.cells] at hu; first | (subst hu; rfl) | (rcases hu with rfl <;> rfl)) (by exact Nat.le_of_ble_eq_true rfl) (by rfl) ?_
                      intro w463 H464 hC465
                      have H464' := H464.as (L' := (((some b445), sob ET 9 ([f438.bs] : List (List (BitVec 8))) ([])) :: (some bO, .cells #[i64 (((xl).getD z oq0).kd), i64 (((xl).getD z oq0).i), i64 (((xl).getD z oq0).bit), .slice (((xl).getD z oq0).fr.a) ((cont z).length) (((xl).getD z oq0).fr.c)] 51 (0, 0)) :: (some bE, .cells #[.pointer (some ⟨bA, 0, none⟩), .pointer (some ⟨bB, 0, none⟩)] 49 (0, 0)) :: (some bW, .cells #[.slice (ownA key453) (wx.l.length + 1) c454, .slice (ownA wb.key) wb.l.length wb.c] 40 (0, 0)) :: (some bS, .cells #[.slice (ownA sa.key) sa.l.length sa.c, .slice (ownA sb.key) sb.l.length sb.c] 40 (0, 0)) :: (some bC, .cells #[.slice (ownA ca.key) ca.l.length ca.c, .slice (ownA cb.key) cb.l.length cb.c] 40 (0, 0)) :: (key453, sob ET 9 (wx.l ++ ([f438.bs] : List (List (BitVec 8)))) sp455) :: (wb.key, sob ET 9 wb.l wb.sp) :: (sa.key, sob ET 9 sa.l sa.sp) :: (sb.key, sob ET 9 sb.l sb.sp) :: (ca.key, sob ET 9 ca.l ca.sp) :: (cb.key, sob ET 9 cb.l cb.sp) :: (endR 30 53 89 bA u ++ (endR 30 53 89 bB e419 ++ F429)))) rfl
                      clear H464
                      exact hK _ (fun _ => ⟨b445, key453, c454, sp455, rfl, rfl, trivial, hS446, hS456, H464'⟩)
                    refine WalkC.nil ?_
                    intro r466 w467 hF469
                    obtain ⟨b445, key453, c454, sp455, e8, e9, e11, hS446, hS456, H468⟩ := hF469
                    dsimp only
                    rw [e8, e9]
                    refine wnil ?_
                    refine blockNormal ?_
                    refine thenNormal ?_
                    refine oneRegion ?_
                    refine sq (r_addI (a := (q : Nat)) (b := (1 : Int)) rfl rfl (by omega)) ?_
                    refine sq (r_move (v := i64 ((q : Nat) + (1 : Int))) rfl) ?_
                    refine wnil ?_
                    refine thenNormal ?_
                    rw [show wx.l.length + 1 = (wx.l ++ ([f438.bs] : List (List (BitVec 8)))).length from by first | (rw [List.length_append, List.length_singleton]; done) | (rw [List.length_set]; done) | (rw [List.length_eraseIdx_of_lt hjl]; omega)] at H468
                    exact ⟨(q + 1, ⟨key453, c454, sp455, wx.l ++ ([f438.bs] : List (List (BitVec 8)))⟩), _, rfl, ⟨rfl, rfl, rfl, rfl, rfl, rfl, rfl, rfl, rfl, rfl, trivial⟩, ⟨⟨by omega, hS456, by show wx.l ++ ([f438.bs] : List (List (BitVec 8))) = _; rw [hwe, List.append_assoc, ← bss_get hf439, take_snoc (by rw [bss_len]; omega)]⟩, (H468.dropk 0)⟩, by show x418.fs.length - (q + 1) < x418.fs.length - q; omega⟩
                  · skip
                    obtain rfl : q = x418.fs.length := by omega
                    rw [List.take_of_length_le (by rw [bss_len]; exact Nat.le_refl _), hxb421'] at hwe
                    refine exitAny ?_
                    refine thenExit ?_
                    refine thenExit ?_
                    refine blockHere ?_
                    refine blockNormal ?_
                    refine thenNormal ?_
                    have hh470 : Half (z + 1) (abs e419) wb.l sb.l cb.l sa.l := by rw [hab423]; exact hs.hb.step
                    have hh471 : Half (z + 1) (abs u) wx.l sa.l ca.l sb.l := by rw [hwe]; exact hs.ha.way' (by omega) hsaid
                    exact hj (u, e419, F429, ⟨wx.key, wx.c, wx.sp, wx.l⟩, ⟨wb.key, wb.c, wb.sp, wb.l⟩, ⟨sa.key, sa.c, sa.sp, sa.l⟩, ⟨sb.key, sb.c, sb.sp, sb.l⟩, ⟨ca.key, ca.c, ca.sp, ca.l⟩, ⟨cb.key, cb.c, cb.sp, cb.l⟩) _ _ ⟨rfl, rfl, rfl, rfl, rfl, rfl, trivial⟩ ⟨⟨ok433, hok422', ⟨hh471, hh470, hwx, hs.t1, hs.t2, hs.t3, hs.t4, hs.t5⟩⟩, (HW.dropk 0)⟩
              · skip
                refine oneRegion ?_
                refine sq (r_fieldAddr (off' := 0) fld51_0 (by decide) (b := bO) (off := 0) rfl (by omega)) ?_
                refine sq (r_loadC (v := i64 (((xl).getD z oq0).kd)) one3 (H257.get (k := 0) rfl) (off := 0) rfl (by rfl)) ?_
                refine sq (r_eqlI (a := ((xl).getD z oq0).kd) (b := (2 : Int)) rfl rfl) ?_
                refine sq (r_move (v := .bool (decide ((((xl).getD z oq0).kd : Int) = (2 : Int)))) rfl) ?_
                by_cases g472 : (((xl).getD z oq0).kd : Int) = (2 : Int)
                · skip
                  refine skAny (wantedSome (d' := 189) (b := true) rfl rfl (congrArg Value.bool (decide_eq_true g472))) ?_
                  refine skAny (wantedSome (d' := 189) (b := true) rfl rfl (congrArg Value.bool (decide_eq_true g472))) ?_
                  refine skAny (wantedSome (d' := 189) (b := true) rfl rfl (congrArg Value.bool (decide_eq_true g472))) ?_
                  refine sq (r_pickT (u := .bool (true)) (congrArg Value.bool (decide_eq_true g472)) rfl) ?_
                  refine sq (r_move (v := .bool (true)) rfl) ?_
                  refine sqAny (v := i64 (at_)) (w' := w256) (wantedSome (d' := 194) (b := true) rfl rfl rfl) (r_move (v := i64 (at_)) rfl) ?_
                  refine sqAny (v := .bool (decide (((0 : Int) : Int) ≤ at_))) (w' := w256) (wantedSome (d' := 194) (b := true) rfl rfl rfl) (r_geqI (a := at_) (b := (0 : Int)) rfl rfl) ?_
                  refine sq (r_pickT (u := .bool (decide (((0 : Int) : Int) ≤ at_))) rfl rfl) ?_
                  refine sq (r_assign (v := .bool (decide (((0 : Int) : Int) ≤ at_))) rfl) ?_
                  refine wnil ?_
                  refine thenNormal ?_
                  exact hj343 () _ _ ⟨rfl, rfl, rfl, rfl, rfl, rfl, rfl, rfl, rfl, congrArg Value.bool (show (decide (((0 : Int) : Int) ≤ at_)) = decide ((((xl).getD z oq0).kd = 2 ∨ ((xl).getD z oq0).kd = 3) ∧ 0 ≤ at_) from by rw [decide_eq_decide]; omega), trivial⟩ ⟨trivial, H257⟩
                · skip
                  refine sqAny (v := .pointer (some ⟨bO, 0, none⟩)) (w' := w256) (wantedSome (d' := 189) (b := false) rfl rfl (congrArg Value.bool (decide_eq_false g472))) (r_fieldAddr (off' := 0) fld51_0 (by decide) (b := bO) (off := 0) rfl (by omega)) ?_
                  refine sqAny (v := i64 (((xl).getD z oq0).kd)) (w' := w256) (wantedSome (d' := 189) (b := false) rfl rfl (congrArg Value.bool (decide_eq_false g472))) (r_loadC (v := i64 (((xl).getD z oq0).kd)) one3 (H257.get (k := 0) rfl) (off := 0) rfl (by rfl)) ?_
                  refine sqAny (v := .bool (decide ((((xl).getD z oq0).kd : Int) = (3 : Int)))) (w' := w256) (wantedSome (d' := 189) (b := false) rfl rfl (congrArg Value.bool (decide_eq_false g472))) (r_eqlI (a := ((xl).getD z oq0).kd) (b := (3 : Int)) rfl rfl) ?_
                  refine sq (r_pickF (v := .bool (decide ((((xl).getD z oq0).kd : Int) = (3 : Int)))) (congrArg Value.bool (decide_eq_false g472)) rfl) ?_
                  refine sq (r_move (v := .bool (decide ((((xl).getD z oq0).kd : Int) = (3 : Int)))) rfl) ?_
                  by_cases g473 : (((xl).getD z oq0).kd : Int) = (3 : Int)
                  · skip
                    refine sqAny (v := i64 (at_)) (w' := w256) (wantedSome (d' := 194) (b := true) rfl rfl (congrArg Value.bool (decide_eq_true g473))) (r_move (v := i64 (at_)) rfl) ?_
                    refine sqAny (v := .bool (decide (((0 : Int) : Int) ≤ at_))) (w' := w256) (wantedSome (d' := 194) (b := true) rfl rfl (congrArg Value.bool (decide_eq_true g473))) (r_geqI (a := at_) (b := (0 : Int)) rfl rfl) ?_
                    refine sq (r_pickT (u := .bool (decide (((0 : Int) : Int) ≤ at_))) (congrArg Value.bool (decide_eq_true g473)) rfl) ?_
                    refine sq (r_assign (v := .bool (decide (((0 : Int) : Int) ≤ at_))) rfl) ?_
                    refine wnil ?_
                    refine thenNormal ?_
                    exact hj343 () _ _ ⟨rfl, rfl, rfl, rfl, rfl, rfl, rfl, rfl, rfl, congrArg Value.bool (show (decide (((0 : Int) : Int) ≤ at_)) = decide ((((xl).getD z oq0).kd = 2 ∨ ((xl).getD z oq0).kd = 3) ∧ 0 ≤ at_) from by rw [decide_eq_decide]; omega), trivial⟩ ⟨trivial, H257⟩
                  · skip
                    refine skAny (wantedSome (d' := 194) (b := false) rfl rfl (congrArg Value.bool (decide_eq_false g473))) ?_
                    refine skAny (wantedSome (d' := 194) (b := false) rfl rfl (congrArg Value.bool (decide_eq_false g473))) ?_
                    refine sq (r_pickF (v := .bool (false)) (congrArg Value.bool (decide_eq_false g473)) rfl) ?_
                    refine sq (r_assign (v := .bool (false)) rfl) ?_
                    refine wnil ?_
                    refine thenNormal ?_
                    exact hj343 () _ _ ⟨rfl, rfl, rfl, rfl, rfl, rfl, rfl, rfl, rfl, congrArg Value.bool (show (false) = decide ((((xl).getD z oq0).kd = 2 ∨ ((xl).getD z oq0).kd = 3) ∧ 0 ≤ at_) from by exact (decide_eq_false (by omega)).symm), trivial⟩ ⟨trivial, H257⟩
          · skip
            refine oneRegion ?_
            refine sq (r_fieldAddr (off' := 0) fld51_0 (by decide) (b := bO) (off := 0) rfl (by omega)) ?_
            refine sq (r_loadC (v := i64 (((xl).getD z oq0).kd)) one3 (H224.get (k := 0) rfl) (off := 0) rfl (by rfl)) ?_
            refine sq (r_eqlI (a := ((xl).getD z oq0).kd) (b := (5 : Int)) rfl rfl) ?_
            refine sq (r_move (v := .bool (decide ((((xl).getD z oq0).kd : Int) = (5 : Int)))) rfl) ?_
            by_cases g474 : (((xl).getD z oq0).kd : Int) = (5 : Int)
            · skip
              refine sqAny (v := i64 (at_)) (w' := w223) (wantedSome (d' := 141) (b := true) rfl rfl (congrArg Value.bool (decide_eq_true g474))) (r_move (v := i64 (at_)) rfl) ?_
              refine sqAny (v := .bool (decide (((0 : Int) : Int) ≤ at_))) (w' := w223) (wantedSome (d' := 141) (b := true) rfl rfl (congrArg Value.bool (decide_eq_true g474))) (r_geqI (a := at_) (b := (0 : Int)) rfl rfl) ?_
              refine sq (r_pickT (u := .bool (decide (((0 : Int) : Int) ≤ at_))) (congrArg Value.bool (decide_eq_true g474)) rfl) ?_
              refine sq (r_assign (v := .bool (decide (((0 : Int) : Int) ≤ at_))) rfl) ?_
              refine wnil ?_
              refine thenNormal ?_
              exact hj255 () _ _ ⟨rfl, rfl, rfl, rfl, rfl, rfl, rfl, rfl, rfl, congrArg Value.bool (show (decide (((0 : Int) : Int) ≤ at_)) = decide (((xl).getD z oq0).kd = 5 ∧ 0 ≤ at_) from by rw [decide_eq_decide]; omega), trivial⟩ ⟨trivial, H224⟩
            · skip
              refine skAny (wantedSome (d' := 141) (b := false) rfl rfl (congrArg Value.bool (decide_eq_false g474))) ?_
              refine skAny (wantedSome (d' := 141) (b := false) rfl rfl (congrArg Value.bool (decide_eq_false g474))) ?_
              refine sq (r_pickF (v := .bool (false)) (congrArg Value.bool (decide_eq_false g474)) rfl) ?_
              refine sq (r_assign (v := .bool (false)) rfl) ?_
              refine wnil ?_
              refine thenNormal ?_
              exact hj255 () _ _ ⟨rfl, rfl, rfl, rfl, rfl, rfl, rfl, rfl, rfl, congrArg Value.bool (show (false) = decide (((xl).getD z oq0).kd = 5 ∧ 0 ≤ at_) from by exact (decide_eq_false (by omega)).symm), trivial⟩ ⟨trivial, H224⟩
      · skip
        refine oneRegion ?_
        refine sq (r_fieldAddr (off' := 0) fld51_0 (by decide) (b := bO) (off := 0) rfl (by omega)) ?_
        refine sq (r_loadC (v := i64 (((xl).getD z oq0).kd)) one3 (H3.get (k := 0) rfl) (off := 0) rfl (by rfl)) ?_
        refine sq (r_eqlI (a := ((xl).getD z oq0).kd) (b := (4 : Int)) rfl rfl) ?_
        refine sq (r_move (v := .bool (decide ((((xl).getD z oq0).kd : Int) = (4 : Int)))) rfl) ?_
        by_cases g475 : (((xl).getD z oq0).kd : Int) = (4 : Int)
        · skip
          refine sqAny (v := i64 (at_)) (w' := w2) (wantedSome (d' := 120) (b := true) rfl rfl (congrArg Value.bool (decide_eq_true g475))) (r_move (v := i64 (at_)) rfl) ?_
          refine sqAny (v := .bool (decide (((0 : Int) : Int) ≤ at_))) (w' := w2) (wantedSome (d' := 120) (b := true) rfl rfl (congrArg Value.bool (decide_eq_true g475))) (r_geqI (a := at_) (b := (0 : Int)) rfl rfl) ?_
          refine sq (r_pickT (u := .bool (decide (((0 : Int) : Int) ≤ at_))) (congrArg Value.bool (decide_eq_true g475)) rfl) ?_
          refine sq (r_assign (v := .bool (decide (((0 : Int) : Int) ≤ at_))) rfl) ?_
          refine wnil ?_
          refine thenNormal ?_
          exact hj222 () _ _ ⟨rfl, rfl, rfl, rfl, rfl, rfl, rfl, rfl, rfl, congrArg Value.bool (show (decide (((0 : Int) : Int) ≤ at_)) = decide (((xl).getD z oq0).kd = 4 ∧ 0 ≤ at_) from by rw [decide_eq_decide]; omega), trivial⟩ ⟨trivial, H3⟩
        · skip
          refine skAny (wantedSome (d' := 120) (b := false) rfl rfl (congrArg Value.bool (decide_eq_false g475))) ?_
          refine skAny (wantedSome (d' := 120) (b := false) rfl rfl (congrArg Value.bool (decide_eq_false g475))) ?_
          refine sq (r_pickF (v := .bool (false)) (congrArg Value.bool (decide_eq_false g475)) rfl) ?_
          refine sq (r_assign (v := .bool (false)) rfl) ?_
          refine wnil ?_
          refine thenNormal ?_
          exact hj222 () _ _ ⟨rfl, rfl, rfl, rfl, rfl, rfl, rfl, rfl, rfl, congrArg Value.bool (show (false) = decide (((xl).getD z oq0).kd = 4 ∧ 0 ≤ at_) from by exact (decide_eq_false (by omega)).symm), trivial⟩ ⟨trivial, H3⟩
  · skip
    refine seqRegion ?_
    refine sq (r_move (v := i64 ((1 : Nat))) rfl) ?_
    refine sq (r_indexA (off' := 1) (j := 1) arr40 (b := bW) (off := 0) rfl rfl (by first | rfl | omega | (simp; omega)) (by omega) (by omega)) ?_
    refine sq (r_loadC (v := .slice (ownA wb.key) wb.l.length wb.c) one39 (H.get (k := 2) rfl) (off := 1) rfl (by rfl)) ?_
    refine sq (r_lenS sli39 (a := ownA wb.key) (m := wb.l.length) (c := wb.c) rfl) ?_
    refine sq (r_gtrI (a := (wb.l.length : Nat)) (b := (0 : Int)) rfl rfl) ?_
    refine wend ?_
    refine condProp (((0 : Int) : Int) < (wb.l.length : Nat)) rfl (fun c61 => ?_) (fun c61 => ?_)
    · skip
      obtain ⟨y, hy, hyl⟩ := modBig (BitVec.ofInt 64 ((xl).getD z oq0).bit) _ wb.l.length (by omega) (by omega) rfl
      refine drawAny (K := [none, none, none, none, none, none, none, none, none, none, none]) [0, 1, 3, 0, 8, 24, 56, 120, 255, 511, 1023] (fun w' => Ext w w') (fun w' w'' => Ext w' w'') mixed (by kernel_rfl) (Ext.drew _) (fun _ _ h h' => h.trans h') ?_ ?_
      · exact relNone (by decide)
      refine ⟨.pointer (some ⟨bO, 2, none⟩), fun _ uw476 hC477 _ => Gives.run rfl (r_fieldAddr (off' := 2) fld51_2 (by decide) (b := bO) (off := 0) rfl (by omega)) ⟨rfl, Chg.refl _ _⟩, ?_⟩
      refine ⟨i64 (((xl).getD z oq0).bit), fun _ uw478 hC479 _ => Gives.run rfl (r_loadC (v := i64 (((xl).getD z oq0).bit)) one3 ((H.ext hC479).get (k := 0) rfl) (off := 2) rfl (by rfl)) ⟨rfl, Chg.refl _ _⟩, ?_⟩
      refine ⟨u64 (BitVec.ofInt 64 (((xl).getD z oq0).bit)), fun _ uw480 hC481 _ => Gives.run rfl (r_Ito64 und3 und26 (a := ((xl).getD z oq0).bit) rfl) ⟨rfl, Chg.refl _ _⟩, ?_⟩
      refine ⟨i64 ((1 : Nat)), fun _ uw482 hC483 _ => Gives.run rfl (r_move (v := i64 ((1 : Nat))) rfl) ⟨rfl, Chg.refl _ _⟩, ?_⟩
      refine ⟨.pointer (some ⟨bW, 1, none⟩), fun _ uw484 hC485 _ => Gives.run rfl (r_indexA (off' := 1) (j := 1) arr40 (b := bW) (off := 0) rfl rfl (by first | rfl | omega | (simp; omega)) (by omega) (by omega)) ⟨rfl, Chg.refl _ _⟩, ?_⟩
      refine ⟨.slice (ownA wb.key) wb.l.length wb.c, fun _ uw486 hC487 _ => Gives.run rfl (r_loadC (v := .slice (ownA wb.key) wb.l.length wb.c) one39 ((H.ext hC487).get (k := 2) rfl) (off := 1) rfl (by rfl)) ⟨rfl, Chg.refl _ _⟩, ?_⟩
      refine ⟨i64 ((wb.l.length : Nat)), fun _ uw488 hC489 _ => Gives.run rfl (r_lenS sli39 (a := ownA wb.key) (m := wb.l.length) (c := wb.c) rfl) ⟨rfl, Chg.refl _ _⟩, ?_⟩
      refine ⟨u64 (BitVec.ofInt 64 (wb.l.length : Nat)), fun _ uw490 hC491 _ => Gives.run rfl (r_Ito64 und3 und26 (a := (wb.l.length : Nat)) rfl) ⟨rfl, Chg.refl _ _⟩, ?_⟩
      refine ⟨u64 ((BitVec.ofInt 64 (((xl).getD z oq0).bit)) % (BitVec.ofInt 64 (wb.l.length : Nat))), fun _ uw492 hC493 _ => Gives.run rfl (r_rem64 (a := BitVec.ofInt 64 (((xl).getD z oq0).bit)) (b := BitVec.ofInt 64 (wb.l.length : Nat)) rfl rfl (by exact ofInt_neBig _ (by omega) (by omega))) ⟨rfl, Chg.refl _ _⟩, ?_⟩
      refine ⟨i64 ((y : Nat)), fun _ uw494 hC495 _ => Gives.run rfl ((r_64toI und26 und3 (a := (BitVec.ofInt 64 (((xl).getD z oq0).bit)) % (BitVec.ofInt 64 (wb.l.length : Nat))) rfl).as (v' := i64 ((y : Nat))) (by exact congrArg i64 hy)) ⟨rfl, Chg.refl _ _⟩, ?_⟩
      refine ⟨i64 ((y : Nat)), fun _ uw496 hC497 _ => Gives.run rfl (r_assign (v := i64 ((y : Nat))) rfl) ⟨rfl, Chg.refl _ _⟩, ?_⟩
      intro r501 w498 hE500 hF
      have H499 := H.ext hE500
      refine wnil ?_
      refine thenNormal ?_
      exact hj1 (y : Nat) _ _ ⟨rfl, rfl, rfl, rfl, rfl, rfl, rfl, rfl, rfl, trivial⟩ ⟨⟨by omega, by omega⟩, H499⟩
    · skip
      refine skipAny ?_
      refine thenNormal ?_
      exact hj1 (-1 : Int) _ _ ⟨rfl, rfl, rfl, rfl, rfl, rfl, rfl, rfl, rfl, trivial⟩ ⟨⟨by omega, by omega⟩, H⟩
end Go.Proofs.YtpmmhpgfbfehmaaDoor.Lk
