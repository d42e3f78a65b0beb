/- The walks of the nets. -/
import Derived.Test.YtpmmhpgfbfehmaaDoorNet8
namespace Go.Proofs.YtpmmhpgfbfehmaaDoor.Nt
open Go Go.Proofs.YtpmmhpgfbfehmaaDoor.Vc Go.Proofs.YtpmmhpgfbfehmaaDoor.Er
set_option linter.unusedVariables false
theorem call49 : callable Tryd.prog 49 = true := by kernel_rfl
theorem fld69_0 : fld Tryd.prog 69 0 = some (0, 1, 3) := by kernel_rfl
theorem fld69_1 : fld Tryd.prog 69 1 = some (1, 1, 3) := by kernel_rfl
theorem fld69_4 : fld Tryd.prog 69 4 = some (4, 1, 30) := by kernel_rfl
theorem one3 : isOne Tryd.prog 3 = true := by kernel_rfl
theorem one30 : isOne Tryd.prog 30 = true := by kernel_rfl
theorem und4 : Tryd.prog.underlying 4 = some .bool := by kernel_rfl
theorem play_send_0 (b : Nat) (a o : Wy) (ha : a.ok) (ho : o.ok) (ka ko : Option Nat) (ca co : Nat) (spa spo : List Value) (la lo : List (List (BitVec 8))) (hSa : Sl ET ka la ca spa) (hSo : Sl ET ko lo co spo) (hea : bss a.fs = la) (heo : bss o.fs = lo) (hla : la.length ≤ 64) (hza : ∀ q ∈ la, q.length ≤ 140737488351232) (X : List (Option Nat × Obj)) (fa : Option Addr) (fc : Nat) (bs : List (BitVec 8)) (hbl : bs.length ≤ 140737488351232) (i bit : Int) (w₀ w : World) (hG : Gl w₀) (hFr : Rd E8 w₀ fa bs) (H : Hp No w₀ w ((some b, .cells (nv false a o) 76 (0, 0)) :: (a.key, sob ES 30 (svs a.fs) a.sp) :: (o.key, sob ES 30 (svs o.fs) o.sp) :: (frs 5 a.fs ++ (frs 5 o.fs ++ ((ka, sob ET 9 la spa) :: (ko, sob ET 9 lo spo) :: X))))) (hlen : la.length < 64) : Calls Tryd.prog 31 [.pointer (some ⟨b, 0, none⟩), .agg #[.slice (ownA ka) la.length ca, .slice (ownA ko) lo.length co], .agg #[i64 ((1 : Int)), i64 ((0 : Int)), i64 (i), i64 (bit), .slice fa bs.length fc]].toArray w (Ret fun v w' => ∃ (a' : Wy) (ka' : Option Nat) (ca' : Nat) (spa' : List Value) (la' : List (List (BitVec 8))), v = .tuple #[.agg #[.slice (ownA ka') la'.length ca', .slice (ownA ko) lo.length co], .bool true] ∧ a'.ok ∧ Sl ET ka' la' ca' spa' ∧ bss a'.fs = la' ∧ la'.length ≤ 64 ∧ (∀ q ∈ la', q.length ≤ 140737488351232) ∧ Hp No w₀ w' ((some b, .cells (nv false a' o) 76 (0, 0)) :: (a'.key, sob ES 30 (svs a'.fs) a'.sp) :: (o.key, sob ES 30 (svs o.fs) o.sp) :: (frs 5 a'.fs ++ (frs 5 o.fs ++ ((ka', sob ET 9 la' spa') :: (ko, sob ET 9 lo spo) :: X))))) := by
  have H := (Hp.fromR [(ka, sob ET 9 la spa), (ko, sob ET 9 lo spo)] (F := frs 5 a.fs) (G := frs 5 o.fs) (X := X) H)
  refine enter (n := 163) Tryd.func31 rfl rfl (Nat.le_of_ble_eq_true rfl) ?_
  refine seqRegion ?_
  refine q_box (v := .agg #[.slice (ownA ka) la.length ca, .slice (ownA ko) lo.length co]) (o := .cells #[.slice (ownA ka) la.length ca, .slice (ownA ko) lo.length co] 42 (0, 0)) H rfl (by rfl) ?_
  intro b1 w2 hb1 H3 hE4
  refine q_box (v := .agg #[i64 ((1 : Int)), i64 ((0 : Int)), i64 (i), i64 (bit), .slice fa bs.length fc]) (o := .cells #[i64 ((1 : Int)), i64 ((0 : Int)), i64 (i), i64 (bit), .slice fa bs.length fc] 69 (0, 0)) H3 rfl (by rfl) ?_
  intro b5 w6 hb5 H7 hE8
  refine q_alloc (o := .cells #[.slice none 0 0, .slice none 0 0] 42 (0, 0)) H7 zer42 (by kernel_rfl) ?_
  intro b9 w10 hb9 H11 hE12
  refine sq (r_assign (v := .bool (false)) rfl) ?_
  refine wend ?_
  refine seqRegion ?_
  refine sq (r_assign (v := .nilIface) rfl) ?_
  refine wend ?_
  refine seqRegion ?_
  refine sq (r_assign (v := i64 ((0 : Int))) rfl) ?_
  refine wend ?_
  refine seqAny ?_
  refine seqRegion ?_
  refine sq (r_fieldAddr (off' := 0) fld69_0 (by decide) (b := b5) (off := 0) rfl (by omega)) ?_
  refine sq (r_loadC (v := i64 ((1 : Int))) one3 (H11.get (k := 1) rfl) (off := 0) rfl (by rfl)) ?_
  refine wend ?_
  refine blockAny ?_
  refine seqRegion ?_
  refine sq ((r_eqlI (a := (1 : Int)) (b := (1 : Int)) rfl rfl).as (v' := .bool (true)) (by rfl)) ?_
  refine sq (r_assign (v := .bool (true)) rfl) ?_
  refine wend ?_
  refine condTrue rfl ?_
  refine seqAny ?_
  refine drawC (m := 9) [0, 0, 2, 0, 0, 16, 56, 127, 255] [3, 6, 7] (fun q vs w' => match q, vs with | 0, [] => Hp No w₀ w' ((some b9, .cells #[.slice none 0 0, .slice none 0 0] 42 (0, 0)) :: (some b5, .cells #[i64 ((1 : Int)), i64 ((0 : Int)), i64 (i), i64 (bit), .slice fa bs.length fc] 69 (0, 0)) :: (some b1, .cells #[.slice (ownA ka) la.length ca, .slice (ownA ko) lo.length co] 42 (0, 0)) :: (ka, sob ET 9 la spa) :: (ko, sob ET 9 lo spo) :: (some b, .cells (nv false a o) 76 (0, 0)) :: (a.key, sob ES 30 (svs a.fs) a.sp) :: (o.key, sob ES 30 (svs o.fs) o.sp) :: (frs 5 a.fs ++ (frs 5 o.fs ++ X))) | 1, [v0] => ∃ (b16 : Nat), v0 = .slice (ownA (some b16)) 0 0 ∧ Sl E8 (some b16) ([]) 0 ([]) ∧ Hp No w₀ w' (((some b16), sob E8 5 ([]) ([])) :: (some b9, .cells #[.slice none 0 0, .slice none 0 0] 42 (0, 0)) :: (some b5, .cells #[i64 ((1 : Int)), i64 ((0 : Int)), i64 (i), i64 (bit), .slice fa bs.length fc] 69 (0, 0)) :: (some b1, .cells #[.slice (ownA ka) la.length ca, .slice (ownA ko) lo.length co] 42 (0, 0)) :: (ka, sob ET 9 la spa) :: (ko, sob ET 9 lo spo) :: (some b, .cells (nv false a o) 76 (0, 0)) :: (a.key, sob ES 30 (svs a.fs) a.sp) :: (o.key, sob ES 30 (svs o.fs) o.sp) :: (frs 5 a.fs ++ (frs 5 o.fs ++ X))) | 2, [v0, v1] => ∃ (b16 : Nat) (key24 : Option Nat) (c25 : Nat) (sp26 : List Value), v0 = .slice (ownA (some b16)) 0 0 ∧ v1 = .slice (ownA key24) (0 + bs.length) c25 ∧ Sl E8 key24 bs c25 sp26 ∧ Hp No w₀ w' ((key24, sob E8 5 bs sp26) :: (some b9, .cells #[.slice none 0 0, .slice none 0 0] 42 (0, 0)) :: (some b5, .cells #[i64 ((1 : Int)), i64 ((0 : Int)), i64 (i), i64 (bit), .slice fa bs.length fc] 69 (0, 0)) :: (some b1, .cells #[.slice (ownA ka) la.length ca, .slice (ownA ko) lo.length co] 42 (0, 0)) :: (ka, sob ET 9 la spa) :: (ko, sob ET 9 lo spo) :: (some b, .cells (nv false a o) 76 (0, 0)) :: (a.key, sob ES 30 (svs a.fs) a.sp) :: (o.key, sob ES 30 (svs o.fs) o.sp) :: (frs 5 a.fs ++ (frs 5 o.fs ++ X))) | 3, [v0, v1, v2] => ∃ (b16 : Nat) (key24 : Option Nat) (c25 : Nat) (sp26 : List Value) (a40 : Wy), v0 = .slice (ownA (some b16)) 0 0 ∧ v1 = .slice (ownA key24) (0 + bs.length) c25 ∧ v2 = .nilIface ∧ Sl E8 key24 bs c25 sp26 ∧ a40.ok ∧ bss a40.fs = bss a.fs ++ [bs] ∧ Hp No w₀ w' ((key24, sob E8 5 bs sp26) :: (some b9, .cells #[.slice none 0 0, .slice none 0 0] 42 (0, 0)) :: (some b5, .cells #[i64 ((1 : Int)), i64 ((0 : Int)), i64 (i), i64 (bit), .slice fa bs.length fc] 69 (0, 0)) :: (some b1, .cells #[.slice (ownA ka) la.length ca, .slice (ownA ko) lo.length co] 42 (0, 0)) :: (ka, sob ET 9 la spa) :: (ko, sob ET 9 lo spo) :: (some b, .cells (nv false a40 o) 76 (0, 0)) :: (a40.key, sob ES 30 (svs a40.fs) a40.sp) :: (o.key, sob ES 30 (svs o.fs) o.sp) :: (frs 5 a40.fs ++ (frs 5 o.fs ++ X))) | _, _ => False) mixed (by kernel_rfl) (by kernel_rfl) H11.drew ?_
  refine WalkC.look rfl (fun _ => .pointer (some ⟨b, 0, none⟩)) (fun _ _ _ => rfl) (fun q r uw _ _ _ _ => Gives.run rfl (r_move (v := .pointer (some ⟨b, 0, none⟩)) rfl) ⟨rfl, rfl⟩) ?_
  refine WalkC.look rfl (fun _ => .pointer (some ⟨b5, 1, none⟩)) (fun _ _ _ => rfl) (fun q r uw _ _ _ _ => Gives.run rfl (r_fieldAddr (off' := 1) fld69_1 (by decide) (b := b5) (off := 0) rfl (by omega)) ⟨rfl, rfl⟩) ?_
  refine WalkC.look rfl (fun _ => i64 ((0 : Int))) (fun _ _ _ => rfl) (fun q r uw hlo hhi hle hF => ?_) ?_
  · skip
    have h1 : 0 ≤ q := Nat.zero_le _
    have h2 : q ≤ 2 := hhi 2 7 rfl rfl
    rcases (show q = 0 ∨ q = 1 ∨ q = 2 by omega) with rfl | rfl | rfl
    · skip
      have HH := hF
      exact Gives.run rfl (r_loadC (v := i64 ((0 : Int))) one3 (HH.get (k := 1) rfl) (off := 1) rfl (by rfl)) ⟨rfl, rfl⟩
    · skip
      obtain ⟨b16, e3, hS17, HH⟩ := hF
      exact Gives.run rfl (r_loadC (v := i64 ((0 : Int))) one3 (HH.get (k := 2) rfl) (off := 1) rfl (by rfl)) ⟨rfl, rfl⟩
    · skip
      obtain ⟨b16, key24, c25, sp26, e3, e6, hS32, HH⟩ := hF
      exact Gives.run rfl (r_loadC (v := i64 ((0 : Int))) one3 (HH.get (k := 2) rfl) (off := 1) rfl (by rfl)) ⟨rfl, rfl⟩
  refine WalkC.eff 0 rfl (fun r uw13 hF15 => ?_) ?_
  · skip
    have H14 := hF15
    dsimp only [List.take, List.map, List.cons_append, List.nil_append]
    refine Gives.ofW (d := 44) rfl rfl (fun Q' hK => ?_)
    refine q_buildSlice (E := E8) (l := []) H14 sli30 zer5 (Nat.le_of_ble_eq_true rfl) (ps := []) rfl (by exact fillAll rfl rfl) rfl ?_
    intro b16 w18 hS17 H19 hE20
    exact hK _ _ ⟨b16, rfl, hS17, H19⟩
  refine WalkC.look rfl (fun _ => .pointer (some ⟨b5, 4, none⟩)) (fun _ _ _ => rfl) (fun q r uw _ _ _ _ => Gives.run rfl (r_fieldAddr (off' := 4) fld69_4 (by decide) (b := b5) (off := 0) rfl (by omega)) ⟨rfl, rfl⟩) ?_
  refine WalkC.look rfl (fun _ => .slice fa bs.length fc) (fun _ _ _ => rfl) (fun q r uw hlo hhi hle hF => ?_) ?_
  · skip
    have h1 : 0 ≤ q := Nat.zero_le _
    have h2 : q ≤ 1 := hhi 1 6 rfl rfl
    rcases (show q = 0 ∨ q = 1 by omega) with rfl | rfl
    · skip
      have HH := hF
      exact Gives.run rfl (r_loadC (v := .slice fa bs.length fc) one30 (HH.get (k := 1) rfl) (off := 4) rfl (by rfl)) ⟨rfl, rfl⟩
    · skip
      obtain ⟨b16, e3, hS17, HH⟩ := hF
      exact Gives.run rfl (r_loadC (v := .slice fa bs.length fc) one30 (HH.get (k := 2) rfl) (off := 4) rfl (by rfl)) ⟨rfl, rfl⟩
  refine WalkC.eff 1 rfl (fun r uw21 hF23 => ?_) ?_
  · skip
    obtain ⟨b16, e3, hS17, H22⟩ := hF23
    dsimp only [List.take, List.map, List.cons_append, List.nil_append]
    rw [e3]
    refine Gives.ofW (d := 47) rfl rfl (fun Q' hK => ?_)
    refine q_append (E := E8) (k := 0) (l := []) (l2 := bs) H22 rfl hS17 sli30 zer5 rfl byt5 (hFr.ext H22.chg) rfl (by rfl) rfl (by rfl) (by omega) ?_
    intro key24 c25 sp26 w28 hS27 hne30 H29
    have H29' := H29.as (L' := ((key24, sob E8 5 (([]) ++ bs) sp26) :: (some b9, .cells #[.slice none 0 0, .slice none 0 0] 42 (0, 0)) :: (some b5, .cells #[i64 ((1 : Int)), i64 ((0 : Int)), i64 (i), i64 (bit), .slice fa bs.length fc] 69 (0, 0)) :: (some b1, .cells #[.slice (ownA ka) la.length ca, .slice (ownA ko) lo.length co] 42 (0, 0)) :: (ka, sob ET 9 la spa) :: (ko, sob ET 9 lo spo) :: (some b, .cells (nv false a o) 76 (0, 0)) :: (a.key, sob ES 30 (svs a.fs) a.sp) :: (o.key, sob ES 30 (svs o.fs) o.sp) :: (frs 5 a.fs ++ (frs 5 o.fs ++ X)))) rfl
    clear H29
    have e31 : ([]) ++ bs = bs := by rw [List.nil_append]
    have hS32 := hS27
    rw [e31] at hS32
    have H33 := H29'.as (L' := ((key24, sob E8 5 bs sp26) :: (some b9, .cells #[.slice none 0 0, .slice none 0 0] 42 (0, 0)) :: (some b5, .cells #[i64 ((1 : Int)), i64 ((0 : Int)), i64 (i), i64 (bit), .slice fa bs.length fc] 69 (0, 0)) :: (some b1, .cells #[.slice (ownA ka) la.length ca, .slice (ownA ko) lo.length co] 42 (0, 0)) :: (ka, sob ET 9 la spa) :: (ko, sob ET 9 lo spo) :: (some b, .cells (nv false a o) 76 (0, 0)) :: (a.key, sob ES 30 (svs a.fs) a.sp) :: (o.key, sob ES 30 (svs o.fs) o.sp) :: (frs 5 a.fs ++ (frs 5 o.fs ++ X)))) (by rw [e31])
    exact hK _ _ ⟨b16, key24, c25, sp26, rfl, rfl, hS32, H33⟩
  refine WalkC.eff 2 rfl (fun r uw34 hF36 => ?_) ?_
  · skip
    obtain ⟨b16, key24, c25, sp26, e3, e6, hS32, H35⟩ := hF36
    dsimp only [List.take, List.map, List.cons_append, List.nil_append]
    rw [e3, e6]
    refine Gives.ofW (d := 48) rfl rfl (fun Q' hK => ?_)
    have H37 := Hp.toR [(key24, sob E8 5 bs sp26), (some b9, .cells #[.slice none 0 0, .slice none 0 0] 42 (0, 0)), (some b5, .cells #[i64 ((1 : Int)), i64 ((0 : Int)), i64 (i), i64 (bit), .slice fa bs.length fc] 69 (0, 0)), (some b1, .cells #[.slice (ownA ka) la.length ca, .slice (ownA ko) lo.length co] 42 (0, 0)), (ka, sob ET 9 la spa), (ko, sob ET 9 lo spo)] (F := frs 5 a.fs) (G := frs 5 o.fs) (X := X) H35
    refine c_call (vs := [.pointer (some ⟨b, 0, none⟩), i64 ((0 : Int)), .slice (ownA key24) (0 + bs.length) c25]) call14 rfl (send_ok false b a o ha ([(key24, sob E8 5 bs sp26), (some b9, .cells #[.slice none 0 0, .slice none 0 0] 42 (0, 0)), (some b5, .cells #[i64 ((1 : Int)), i64 ((0 : Int)), i64 (i), i64 (bit), .slice fa bs.length fc] 69 (0, 0)), (some b1, .cells #[.slice (ownA ka) la.length ca, .slice (ownA ko) lo.length co] 42 (0, 0)), (ka, sob ET 9 la spa), (ko, sob ET 9 lo spo)] ++ X) w₀ uw34 bs (by first | omega | exact Nat.le_of_ble_eq_true rfl | (simp; omega)) (ownA key24) (0 + bs.length) c25 (by exact Nat.zero_add _) H37 (fun w1 HX => HX.rdm (T := 5) hS32 (by simp)) (by have h := congrArg List.length hea; rw [bss_len] at h; omega)) ?_
    rintro _ w38 ⟨rfl, a40, hok41, hbs42, HN43⟩
    have H44 := (Hp.fromR [(key24, sob E8 5 bs sp26), (some b9, .cells #[.slice none 0 0, .slice none 0 0] 42 (0, 0)), (some b5, .cells #[i64 ((1 : Int)), i64 ((0 : Int)), i64 (i), i64 (bit), .slice fa bs.length fc] 69 (0, 0)), (some b1, .cells #[.slice (ownA ka) la.length ca, .slice (ownA ko) lo.length co] 42 (0, 0)), (ka, sob ET 9 la spa), (ko, sob ET 9 lo spo)] (F := frs 5 a40.fs) (G := frs 5 o.fs) (X := X) HN43).as (L' := ((key24, sob E8 5 bs sp26) :: (some b9, .cells #[.slice none 0 0, .slice none 0 0] 42 (0, 0)) :: (some b5, .cells #[i64 ((1 : Int)), i64 ((0 : Int)), i64 (i), i64 (bit), .slice fa bs.length fc] 69 (0, 0)) :: (some b1, .cells #[.slice (ownA ka) la.length ca, .slice (ownA ko) lo.length co] 42 (0, 0)) :: (ka, sob ET 9 la spa) :: (ko, sob ET 9 lo spo) :: (some b, .cells (nv false a40 o) 76 (0, 0)) :: (a40.key, sob ES 30 (svs a40.fs) a40.sp) :: (o.key, sob ES 30 (svs o.fs) o.sp) :: (frs 5 a40.fs ++ (frs 5 o.fs ++ X)))) rfl
    exact hK _ _ ⟨b16, key24, c25, sp26, a40, rfl, rfl, rfl, hS32, hok41, hbs42, H44⟩
  refine WalkC.look rfl (fun r => r 7) (fun r r' h => h 7 (by decide) rfl) (fun q r uw _ _ _ _ => Gives.run rfl (r_assign rfl) ⟨rfl, rfl⟩) ?_
  refine WalkC.nil ?_
  intro r45 w46 hF48
  obtain ⟨b16, key24, c25, sp26, a40, e3, e6, e7, hS32, hok41, hbs42, H47⟩ := hF48
  dsimp only
  rw [e3, e6, e7]
  refine wnil ?_
  refine thenNormal ?_
  refine oneRegion ?_
  refine sq (r_loadA (cs' := #[.slice (ownA ka) la.length ca, .slice (ownA ko) lo.length co]) agg42 siz42 (H47.get (k := 3) rfl) (off := 0) rfl (by exact Nat.le_of_ble_eq_true rfl) (by rfl)) ?_
  refine sq (r_fieldAddr (off' := 1) fld69_1 (by decide) (b := b5) (off := 0) rfl (by omega)) ?_
  refine sq (r_loadC (v := i64 ((0 : Int))) one3 (H47.get (k := 2) rfl) (off := 1) rfl (by rfl)) ?_
  refine sq (r_fieldAddr (off' := 4) fld69_4 (by decide) (b := b5) (off := 0) rfl (by omega)) ?_
  refine sq (r_loadC (v := .slice fa bs.length fc) one30 (H47.get (k := 2) rfl) (off := 4) rfl (by rfl)) ?_
  refine sq (r_toStr (l := bs) und30 und5 und9 (hFr.ext H47.chg) rfl (by rfl)) ?_
  refine c_call (vs := [.agg #[.slice (ownA ka) la.length ca, .slice (ownA ko) lo.length co], i64 ((0 : Int)), .string (strB bs)]) call46 rfl (rsend_ok_0 la (ownA ka) (ownA ko) ca lo.length co w46 bs hlen (H47.rd (k := 4) rfl hSa)) ?_
  rintro _ w49 ⟨⟨key51, c52, sp53, rfl, hS54, hk55⟩, hE56⟩
  have H57 := H47.add hE56 hk55
  refine sq (r_move (v := .tuple #[.agg #[.slice (ownA key51) ((la ++ [bs]).length) c52, .slice (ownA ko) lo.length co], i64 ((0 : Int))]) rfl) ?_
  refine sq (r_extract (vs := #[.agg #[.slice (ownA key51) ((la ++ [bs]).length) c52, .slice (ownA ko) lo.length co], i64 ((0 : Int))]) rfl rfl) ?_
  refine sq (r_extract (vs := #[.agg #[.slice (ownA key51) ((la ++ [bs]).length) c52, .slice (ownA ko) lo.length co], i64 ((0 : Int))]) rfl rfl) ?_
  refine d_store (k := 4) (v := .agg #[.slice (ownA key51) ((la ++ [bs]).length) c52, .slice (ownA ko) lo.length co]) (cs' := #[.slice (ownA key51) ((la ++ [bs]).length) c52, .slice (ownA ko) lo.length co]) H57 rfl rfl rfl siz42 (by rfl) (by intro u hu; simp [Value.cells] at hu; first | (subst hu; rfl) | (rcases hu with rfl | rfl <;> rfl)) (by exact Nat.le_of_ble_eq_true rfl) (by rfl) ?_
  intro w58 H59 hC60
  have H59' := H59.as (L' := ((key51, sob ET 9 (la ++ [bs]) sp53) :: (key24, sob E8 5 bs sp26) :: (some b9, .cells #[.slice none 0 0, .slice none 0 0] 42 (0, 0)) :: (some b5, .cells #[i64 ((1 : Int)), i64 ((0 : Int)), i64 (i), i64 (bit), .slice fa bs.length fc] 69 (0, 0)) :: (some b1, .cells #[.slice (ownA key51) ((la ++ [bs]).length) c52, .slice (ownA ko) lo.length co] 42 (0, 0)) :: (ka, sob ET 9 la spa) :: (ko, sob ET 9 lo spo) :: (some b, .cells (nv false a40 o) 76 (0, 0)) :: (a40.key, sob ES 30 (svs a40.fs) a40.sp) :: (o.key, sob ES 30 (svs o.fs) o.sp) :: (frs 5 a40.fs ++ (frs 5 o.fs ++ X)))) rfl
  clear H59
  refine sq (r_assign (v := i64 ((0 : Int))) rfl) ?_
  refine wnil ?_
  refine blockNormal ?_
  refine thenNormal ?_
  refine seqAny ?_
  have hlA : a40.fs.length = (la ++ [bs]).length := by have h := congrArg List.length (show bss a40.fs = la ++ [bs] from by rw [hbs42, hea]); rwa [bss_len] at h
  have hlO : o.fs.length = lo.length := by have h := congrArg List.length heo; rwa [bss_len] at h
  refine drawC (m := 32) [0, 0, 2, 0, 14, 30, 62, 126, 62, 318, 1022, 2046, 4094, 8190, 16382, 8190, 40958, 106494, 237566, 524286, 1048574, 2097150, 4194302, 8388606, 4194302, 20971518, 54525950, 121634814, 268435454, 536870910, 16777215, 2147483647] [2, 14, 23, 30] (fun q vs w' => match q, vs with | 0, [] => Ext w58 w' ∧ Hp No w₀ w' ((key51, sob ET 9 (la ++ [bs]) sp53) :: (key24, sob E8 5 bs sp26) :: (some b9, .cells #[.slice none 0 0, .slice none 0 0] 42 (0, 0)) :: (some b5, .cells #[i64 ((1 : Int)), i64 ((0 : Int)), i64 (i), i64 (bit), .slice fa bs.length fc] 69 (0, 0)) :: (some b1, .cells #[.slice (ownA key51) ((la ++ [bs]).length) c52, .slice (ownA ko) lo.length co] 42 (0, 0)) :: (ka, sob ET 9 la spa) :: (ko, sob ET 9 lo spo) :: (some b, .cells (nv false a40 o) 76 (0, 0)) :: (a40.key, sob ES 30 (svs a40.fs) a40.sp) :: (o.key, sob ES 30 (svs o.fs) o.sp) :: (frs 5 a40.fs ++ (frs 5 o.fs ++ X))) | 1, [v0] => v0 = i64 ((0 : Int)) ∧ Ext w58 w' ∧ Hp No w₀ w' ((key51, sob ET 9 (la ++ [bs]) sp53) :: (key24, sob E8 5 bs sp26) :: (some b9, .cells #[.slice none 0 0, .slice none 0 0] 42 (0, 0)) :: (some b5, .cells #[i64 ((1 : Int)), i64 ((0 : Int)), i64 (i), i64 (bit), .slice fa bs.length fc] 69 (0, 0)) :: (some b1, .cells #[.slice (ownA key51) ((la ++ [bs]).length) c52, .slice (ownA ko) lo.length co] 42 (0, 0)) :: (ka, sob ET 9 la spa) :: (ko, sob ET 9 lo spo) :: (some b, .cells (nv false a40 o) 76 (0, 0)) :: (a40.key, sob ES 30 (svs a40.fs) a40.sp) :: (o.key, sob ES 30 (svs o.fs) o.sp) :: (frs 5 a40.fs ++ (frs 5 o.fs ++ X))) | 2, [v0, v1] => v0 = i64 ((0 : Int)) ∧ v1 = i64 ((a40.fs.length : Nat)) ∧ Ext w58 w' ∧ Hp No w₀ w' ((key51, sob ET 9 (la ++ [bs]) sp53) :: (key24, sob E8 5 bs sp26) :: (some b9, .cells #[.slice none 0 0, .slice none 0 0] 42 (0, 0)) :: (some b5, .cells #[i64 ((1 : Int)), i64 ((0 : Int)), i64 (i), i64 (bit), .slice fa bs.length fc] 69 (0, 0)) :: (some b1, .cells #[.slice (ownA key51) ((la ++ [bs]).length) c52, .slice (ownA ko) lo.length co] 42 (0, 0)) :: (ka, sob ET 9 la spa) :: (ko, sob ET 9 lo spo) :: (some b, .cells (nv false a40 o) 76 (0, 0)) :: (a40.key, sob ES 30 (svs a40.fs) a40.sp) :: (o.key, sob ES 30 (svs o.fs) o.sp) :: (frs 5 a40.fs ++ (frs 5 o.fs ++ X))) | 3, [v0, v1, v2] => v0 = i64 ((0 : Int)) ∧ v1 = i64 ((a40.fs.length : Nat)) ∧ v2 = i64 ((o.fs.length : Nat)) ∧ Ext w58 w' ∧ Hp No w₀ w' ((key51, sob ET 9 (la ++ [bs]) sp53) :: (key24, sob E8 5 bs sp26) :: (some b9, .cells #[.slice none 0 0, .slice none 0 0] 42 (0, 0)) :: (some b5, .cells #[i64 ((1 : Int)), i64 ((0 : Int)), i64 (i), i64 (bit), .slice fa bs.length fc] 69 (0, 0)) :: (some b1, .cells #[.slice (ownA key51) ((la ++ [bs]).length) c52, .slice (ownA ko) lo.length co] 42 (0, 0)) :: (ka, sob ET 9 la spa) :: (ko, sob ET 9 lo spo) :: (some b, .cells (nv false a40 o) 76 (0, 0)) :: (a40.key, sob ES 30 (svs a40.fs) a40.sp) :: (o.key, sob ES 30 (svs o.fs) o.sp) :: (frs 5 a40.fs ++ (frs 5 o.fs ++ X))) | 4, [v0, v1, v2, _] => v0 = i64 ((0 : Int)) ∧ v1 = i64 ((a40.fs.length : Nat)) ∧ v2 = i64 ((o.fs.length : Nat)) ∧ True ∧ Chg (· = b9) w58 w' ∧ Hp No w₀ w' ((key51, sob ET 9 (la ++ [bs]) sp53) :: (key24, sob E8 5 bs sp26) :: (some b9, .cells #[.slice (ownA key51) ((la ++ [bs]).length) c52, .slice (ownA ko) lo.length co] 42 (0, 0)) :: (some b5, .cells #[i64 ((1 : Int)), i64 ((0 : Int)), i64 (i), i64 (bit), .slice fa bs.length fc] 69 (0, 0)) :: (some b1, .cells #[.slice (ownA key51) ((la ++ [bs]).length) c52, .slice (ownA ko) lo.length co] 42 (0, 0)) :: (ka, sob ET 9 la spa) :: (ko, sob ET 9 lo spo) :: (some b, .cells (nv false a40 o) 76 (0, 0)) :: (a40.key, sob ES 30 (svs a40.fs) a40.sp) :: (o.key, sob ES 30 (svs o.fs) o.sp) :: (frs 5 a40.fs ++ (frs 5 o.fs ++ X))) | _, _ => False) mixed (by kernel_rfl) (by kernel_rfl) ⟨Ext.drew _, H59'.drew⟩ ?_
  refine WalkC.look rfl (fun _ => .agg #[.slice (ownA key51) ((la ++ [bs]).length) c52, .slice (ownA ko) lo.length co]) (fun _ _ _ => rfl) (fun q r uw hlo hhi hle hF => ?_) ?_
  · skip
    have h1 : 0 ≤ q := Nat.zero_le _
    have h2 : q ≤ 3 := hhi 3 30 rfl rfl
    rcases (show q = 0 ∨ q = 1 ∨ q = 2 ∨ q = 3 by omega) with rfl | rfl | rfl | rfl
    · skip
      obtain ⟨hX, HH⟩ := hF
      exact Gives.run rfl (r_loadA (cs' := #[.slice (ownA key51) ((la ++ [bs]).length) c52, .slice (ownA ko) lo.length co]) agg42 siz42 (HH.get (k := 4) rfl) (off := 0) rfl (by exact Nat.le_of_ble_eq_true rfl) (by rfl)) ⟨rfl, rfl⟩
    · skip
      obtain ⟨e2, hX, HH⟩ := hF
      exact Gives.run rfl (r_loadA (cs' := #[.slice (ownA key51) ((la ++ [bs]).length) c52, .slice (ownA ko) lo.length co]) agg42 siz42 (HH.get (k := 4) rfl) (off := 0) rfl (by exact Nat.le_of_ble_eq_true rfl) (by rfl)) ⟨rfl, rfl⟩
    · skip
      obtain ⟨e2, e14, hX, HH⟩ := hF
      exact Gives.run rfl (r_loadA (cs' := #[.slice (ownA key51) ((la ++ [bs]).length) c52, .slice (ownA ko) lo.length co]) agg42 siz42 (HH.get (k := 4) rfl) (off := 0) rfl (by exact Nat.le_of_ble_eq_true rfl) (by rfl)) ⟨rfl, rfl⟩
    · skip
      obtain ⟨e2, e14, e23, hX, HH⟩ := hF
      exact Gives.run rfl (r_loadA (cs' := #[.slice (ownA key51) ((la ++ [bs]).length) c52, .slice (ownA ko) lo.length co]) agg42 siz42 (HH.get (k := 4) rfl) (off := 0) rfl (by exact Nat.le_of_ble_eq_true rfl) (by rfl)) ⟨rfl, rfl⟩
  refine WalkC.look rfl (fun _ => .nilIface) (fun _ _ _ => rfl) (fun q r uw _ _ _ _ => Gives.run rfl (r_move (v := .nilIface) rfl) ⟨rfl, rfl⟩) ?_
  refine WalkC.eff 0 rfl (fun r uw61 hF63 => ?_) ?_
  · skip
    obtain ⟨hX, H62⟩ := hF63
    dsimp only [List.take, List.map, List.cons_append, List.nil_append]
    refine Gives.ofW (d := 135) rfl rfl (fun Q' hK => ?_)
    refine c_call (vs := [.nilIface]) call49 rfl (codenil_ok uw61) ?_
    rintro _ w64 ⟨rfl, hE65⟩
    have H66 := H62.ext hE65
    exact hK _ _ ⟨rfl, (hX.trans hE65), H66⟩
  refine WalkC.look rfl (fun _ => i64 ((0 : Int))) (fun _ _ _ => rfl) (fun q r uw _ _ _ _ => Gives.run rfl (r_move (v := i64 ((0 : Int))) rfl) ⟨rfl, rfl⟩) ?_
  refine WalkC.look rfl (fun _ => .bool (true)) (fun _ _ _ => rfl) (fun q r uw hlo hhi hle hF => ?_) ?_
  · skip
    have h1 : 1 ≤ q := hlo 0 2 rfl rfl
    have h2 : q ≤ 1 := hhi 1 14 rfl rfl
    rcases (show q = 1 by omega) with rfl
    · skip
      obtain ⟨e2, hX, HH⟩ := hF
      dsimp only
      rw [e2]
      exact Gives.run rfl ((r_eqlI (a := (0 : Int)) (b := (0 : Int)) rfl rfl).as (v' := .bool (true)) (by rfl)) ⟨rfl, rfl⟩
  refine WalkC.look rfl (fun _ => .bool (true)) (fun _ _ _ => rfl) (fun q r uw _ _ _ _ => Gives.run rfl (r_move (v := .bool (true)) rfl) ⟨rfl, rfl⟩) ?_
  refine WalkC.look rfl (fun _ => .nilIface) (fun _ _ _ => rfl) (fun q r uw _ _ _ _ => Gives.runW (wantedSome (d' := 138) (b := true) rfl rfl rfl) (r_move (v := .nilIface) rfl) ⟨rfl, rfl⟩) ?_
  refine WalkC.look rfl (fun _ => .bool (true)) (fun _ _ _ => rfl) (fun q r uw _ _ _ _ => Gives.runW (wantedSome (d' := 138) (b := true) rfl rfl rfl) (r_eqlNN isI28 rfl rfl) ⟨rfl, rfl⟩) ?_
  refine WalkC.look rfl (fun _ => i64 ((0 : Int))) (fun _ _ _ => rfl) (fun q r uw _ _ _ _ => Gives.runW (wantedSome (d' := 138) (b := true) rfl rfl rfl) (r_move (v := i64 ((0 : Int))) rfl) ⟨rfl, rfl⟩) ?_
  refine WalkC.look rfl (fun _ => .bool (true)) (fun _ _ _ => rfl) (fun q r uw _ _ _ _ => Gives.runW (wantedSome (d' := 138) (b := true) rfl rfl rfl) ((r_eqlI (a := (0 : Int)) (b := (0 : Int)) rfl rfl).as (v' := .bool (true)) (by rfl)) ⟨rfl, rfl⟩) ?_
  refine WalkC.look rfl (fun _ => .bool (true)) (fun _ _ _ => rfl) (fun q r uw _ _ _ _ => Gives.runW (wantedSome (d' := 138) (b := true) rfl rfl rfl) ((r_eqlB und4 (a := true) (b := true) rfl rfl).as (v' := .bool (true)) (by rfl)) ⟨rfl, rfl⟩) ?_
  refine WalkC.look rfl (fun _ => .bool (true)) (fun _ _ _ => rfl) (fun q r uw _ _ _ _ => Gives.run rfl (r_pickT (u := .bool (true)) rfl rfl) ⟨rfl, rfl⟩) ?_
  refine WalkC.look rfl (fun _ => .bool (true)) (fun _ _ _ => rfl) (fun q r uw _ _ _ _ => Gives.run rfl (r_move (v := .bool (true)) rfl) ⟨rfl, rfl⟩) ?_
  refine WalkC.look rfl (fun _ => .pointer (some ⟨b, 0, none⟩)) (fun _ _ _ => rfl) (fun q r uw _ _ _ _ => Gives.runW (wantedSome (d' := 145) (b := true) rfl rfl rfl) (r_move (v := .pointer (some ⟨b, 0, none⟩)) rfl) ⟨rfl, rfl⟩) ?_
  refine WalkC.eff 1 rfl (fun r uw67 hF69 => ?_) ?_
  · skip
    obtain ⟨e2, hX, H68⟩ := hF69
    dsimp only [List.take, List.map, List.cons_append, List.nil_append]
    rw [e2]
    refine Gives.ofW (d := 147) rfl rfl (fun Q' hK => ?_)
    refine caAny (wantedSome (d' := 145) (b := true) rfl rfl rfl) (Enters.callL (vs := [.pointer (some ⟨b, 0, none⟩), i64 ((0 : Int))]) call15 rfl) (len_0 b a40 o uw67 (H68.get (k := 7) rfl)) ?_
    rintro _ w70 ⟨rfl, hE71⟩
    have H72 := H68.ext hE71
    exact hK _ _ ⟨rfl, rfl, (hX.trans hE71), H72⟩
  refine WalkC.look rfl (fun _ => .pointer (some ⟨b1, 0, none⟩)) (fun _ _ _ => rfl) (fun q r uw _ _ _ _ => Gives.runW (wantedSome (d' := 145) (b := true) rfl rfl rfl) (r_fieldAddr (off' := 0) fld42_0 (by decide) (b := b1) (off := 0) rfl (by omega)) ⟨rfl, rfl⟩) ?_
  refine WalkC.look rfl (fun _ => .pointer (some ⟨b1, 0, none⟩)) (fun _ _ _ => rfl) (fun q r uw _ _ _ _ => Gives.runW (wantedSome (d' := 145) (b := true) rfl rfl rfl) (r_indexA (off' := 0) (j := 0) arr40 (b := b1) (off := 0) rfl rfl (by first | rfl | omega | (simp; omega)) (by omega) (by omega)) ⟨rfl, rfl⟩) ?_
  refine WalkC.look rfl (fun _ => .slice (ownA key51) ((la ++ [bs]).length) c52) (fun _ _ _ => rfl) (fun q r uw hlo hhi hle hF => ?_) ?_
  · skip
    have h1 : 1 ≤ q := hlo 0 2 rfl rfl
    have h2 : q ≤ 2 := hhi 2 23 rfl rfl
    rcases (show q = 1 ∨ q = 2 by omega) with rfl | rfl
    · skip
      obtain ⟨e2, hX, HH⟩ := hF
      exact Gives.runW (wantedSome (d' := 145) (b := true) rfl rfl rfl) (r_loadC (v := .slice (ownA key51) ((la ++ [bs]).length) c52) one39 (HH.get (k := 4) rfl) (off := 0) rfl (by rfl)) ⟨rfl, rfl⟩
    · skip
      obtain ⟨e2, e14, hX, HH⟩ := hF
      exact Gives.runW (wantedSome (d' := 145) (b := true) rfl rfl rfl) (r_loadC (v := .slice (ownA key51) ((la ++ [bs]).length) c52) one39 (HH.get (k := 4) rfl) (off := 0) rfl (by rfl)) ⟨rfl, rfl⟩
  refine WalkC.look rfl (fun _ => i64 (((la ++ [bs]).length : Nat))) (fun _ _ _ => rfl) (fun q r uw _ _ _ _ => Gives.runW (wantedSome (d' := 145) (b := true) rfl rfl rfl) (r_lenS sli39 (a := ownA key51) (m := (la ++ [bs]).length) (c := c52) rfl) ⟨rfl, rfl⟩) ?_
  refine WalkC.look rfl (fun _ => .bool (true)) (fun _ _ _ => rfl) (fun q r uw hlo hhi hle hF => ?_) ?_
  · skip
    have h1 : 2 ≤ q := hlo 1 14 rfl rfl
    have h2 : q ≤ 2 := hhi 2 23 rfl rfl
    rcases (show q = 2 by omega) with rfl
    · skip
      obtain ⟨e2, e14, hX, HH⟩ := hF
      dsimp only
      rw [e14]
      exact Gives.runW (wantedSome (d' := 145) (b := true) rfl rfl rfl) ((r_eqlI (a := (a40.fs.length : Nat)) (b := ((la ++ [bs]).length : Nat)) rfl rfl).as (v' := .bool (true)) (by exact congrArg Value.bool (decide_eq_true (by first | exact congrArg (fun q : Nat => (q : Int)) hlA | exact congrArg (fun q : Nat => (q : Int)) hlO)))) ⟨rfl, rfl⟩
  refine WalkC.look rfl (fun _ => .bool (true)) (fun _ _ _ => rfl) (fun q r uw _ _ _ _ => Gives.run rfl (r_pickT (u := .bool (true)) rfl rfl) ⟨rfl, rfl⟩) ?_
  refine WalkC.look rfl (fun _ => .bool (true)) (fun _ _ _ => rfl) (fun q r uw _ _ _ _ => Gives.run rfl (r_move (v := .bool (true)) rfl) ⟨rfl, rfl⟩) ?_
  refine WalkC.look rfl (fun _ => .pointer (some ⟨b, 0, none⟩)) (fun _ _ _ => rfl) (fun q r uw _ _ _ _ => Gives.runW (wantedSome (d' := 154) (b := true) rfl rfl rfl) (r_move (v := .pointer (some ⟨b, 0, none⟩)) rfl) ⟨rfl, rfl⟩) ?_
  refine WalkC.eff 2 rfl (fun r uw73 hF75 => ?_) ?_
  · skip
    obtain ⟨e2, e14, hX, H74⟩ := hF75
    dsimp only [List.take, List.map, List.cons_append, List.nil_append]
    rw [e2, e14]
    refine Gives.ofW (d := 156) rfl rfl (fun Q' hK => ?_)
    refine caAny (wantedSome (d' := 154) (b := true) rfl rfl rfl) (Enters.callL (vs := [.pointer (some ⟨b, 0, none⟩), i64 ((1 : Int))]) call15 rfl) (len_1 b o a40 uw73 (H74.get (k := 7) rfl)) ?_
    rintro _ w76 ⟨rfl, hE77⟩
    have H78 := H74.ext hE77
    exact hK _ _ ⟨rfl, rfl, rfl, (hX.trans hE77), H78⟩
  refine WalkC.look rfl (fun _ => .pointer (some ⟨b1, 0, none⟩)) (fun _ _ _ => rfl) (fun q r uw _ _ _ _ => Gives.runW (wantedSome (d' := 154) (b := true) rfl rfl rfl) (r_fieldAddr (off' := 0) fld42_0 (by decide) (b := b1) (off := 0) rfl (by omega)) ⟨rfl, rfl⟩) ?_
  refine WalkC.look rfl (fun _ => .pointer (some ⟨b1, 1, none⟩)) (fun _ _ _ => rfl) (fun q r uw _ _ _ _ => Gives.runW (wantedSome (d' := 154) (b := true) rfl rfl rfl) (r_indexA (off' := 1) (j := 1) arr40 (b := b1) (off := 0) rfl rfl (by first | rfl | omega | (simp; omega)) (by omega) (by omega)) ⟨rfl, rfl⟩) ?_
  refine WalkC.look rfl (fun _ => .slice (ownA ko) lo.length co) (fun _ _ _ => rfl) (fun q r uw hlo hhi hle hF => ?_) ?_
  · skip
    have h1 : 2 ≤ q := hlo 1 14 rfl rfl
    have h2 : q ≤ 4 := hle
    rcases (show q = 2 ∨ q = 3 ∨ q = 4 by omega) with rfl | rfl | rfl
    · skip
      obtain ⟨e2, e14, hX, HH⟩ := hF
      exact Gives.runW (wantedSome (d' := 154) (b := true) rfl rfl rfl) (r_loadC (v := .slice (ownA ko) lo.length co) one39 (HH.get (k := 4) rfl) (off := 1) rfl (by rfl)) ⟨rfl, rfl⟩
    · skip
      obtain ⟨e2, e14, e23, hX, HH⟩ := hF
      exact Gives.runW (wantedSome (d' := 154) (b := true) rfl rfl rfl) (r_loadC (v := .slice (ownA ko) lo.length co) one39 (HH.get (k := 4) rfl) (off := 1) rfl (by rfl)) ⟨rfl, rfl⟩
    · skip
      obtain ⟨e2, e14, e23, e30, hX, HH⟩ := hF
      exact Gives.runW (wantedSome (d' := 154) (b := true) rfl rfl rfl) (r_loadC (v := .slice (ownA ko) lo.length co) one39 (HH.get (k := 4) rfl) (off := 1) rfl (by rfl)) ⟨rfl, rfl⟩
  refine WalkC.look rfl (fun _ => i64 ((lo.length : Nat))) (fun _ _ _ => rfl) (fun q r uw _ _ _ _ => Gives.runW (wantedSome (d' := 154) (b := true) rfl rfl rfl) (r_lenS sli39 (a := ownA ko) (m := lo.length) (c := co) rfl) ⟨rfl, rfl⟩) ?_
  refine WalkC.look rfl (fun _ => .bool (true)) (fun _ _ _ => rfl) (fun q r uw hlo hhi hle hF => ?_) ?_
  · skip
    have h1 : 3 ≤ q := hlo 2 23 rfl rfl
    have h2 : q ≤ 4 := hle
    rcases (show q = 3 ∨ q = 4 by omega) with rfl | rfl
    · skip
      obtain ⟨e2, e14, e23, hX, HH⟩ := hF
      dsimp only
      rw [e23]
      exact Gives.runW (wantedSome (d' := 154) (b := true) rfl rfl rfl) ((r_eqlI (a := (o.fs.length : Nat)) (b := (lo.length : Nat)) rfl rfl).as (v' := .bool (true)) (by exact congrArg Value.bool (decide_eq_true (by first | exact congrArg (fun q : Nat => (q : Int)) hlA | exact congrArg (fun q : Nat => (q : Int)) hlO)))) ⟨rfl, rfl⟩
    · skip
      obtain ⟨e2, e14, e23, e30, hX, HH⟩ := hF
      dsimp only
      rw [e23]
      exact Gives.runW (wantedSome (d' := 154) (b := true) rfl rfl rfl) ((r_eqlI (a := (o.fs.length : Nat)) (b := (lo.length : Nat)) rfl rfl).as (v' := .bool (true)) (by exact congrArg Value.bool (decide_eq_true (by first | exact congrArg (fun q : Nat => (q : Int)) hlA | exact congrArg (fun q : Nat => (q : Int)) hlO)))) ⟨rfl, rfl⟩
  refine WalkC.look rfl (fun _ => .bool (true)) (fun _ _ _ => rfl) (fun q r uw _ _ _ _ => Gives.run rfl (r_pickT (u := .bool (true)) rfl rfl) ⟨rfl, rfl⟩) ?_
  refine WalkC.eff 3 rfl (fun r uw79 hF81 => ?_) ?_
  · skip
    obtain ⟨e2, e14, e23, hX, H80⟩ := hF81
    dsimp only [List.take, List.map, List.cons_append, List.nil_append]
    rw [e2, e14, e23]
    refine Gives.ofW0 rfl (fun Q' hK => ?_)
    refine d_store (k := 2) (v := .agg #[.slice (ownA key51) ((la ++ [bs]).length) c52, .slice (ownA ko) lo.length co]) (cs' := #[.slice (ownA key51) ((la ++ [bs]).length) c52, .slice (ownA ko) lo.length co]) H80 rfl rfl rfl siz42 (by rfl) (by intro u hu; simp [Value.cells] at hu; first | (subst hu; rfl) | (rcases hu with rfl | rfl <;> rfl)) (by exact Nat.le_of_ble_eq_true rfl) (by rfl) ?_
    intro w82 H83 hC84
    have H83' := H83.as (L' := ((key51, sob ET 9 (la ++ [bs]) sp53) :: (key24, sob E8 5 bs sp26) :: (some b9, .cells #[.slice (ownA key51) ((la ++ [bs]).length) c52, .slice (ownA ko) lo.length co] 42 (0, 0)) :: (some b5, .cells #[i64 ((1 : Int)), i64 ((0 : Int)), i64 (i), i64 (bit), .slice fa bs.length fc] 69 (0, 0)) :: (some b1, .cells #[.slice (ownA key51) ((la ++ [bs]).length) c52, .slice (ownA ko) lo.length co] 42 (0, 0)) :: (ka, sob ET 9 la spa) :: (ko, sob ET 9 lo spo) :: (some b, .cells (nv false a40 o) 76 (0, 0)) :: (a40.key, sob ES 30 (svs a40.fs) a40.sp) :: (o.key, sob ES 30 (svs o.fs) o.sp) :: (frs 5 a40.fs ++ (frs 5 o.fs ++ X)))) rfl
    clear H83
    exact hK _ (fun _ => ⟨rfl, rfl, rfl, trivial, ((Ext.chg hX).trans hC84), H83'⟩)
  refine WalkC.look rfl (fun _ => .bool (true)) (fun _ _ _ => rfl) (fun q r uw _ _ _ _ => Gives.run rfl (r_assign (v := .bool (true)) rfl) ⟨rfl, rfl⟩) ?_
  refine WalkC.nil ?_
  intro r85 w86 hF88
  obtain ⟨e2, e14, e23, e30, hX, H87⟩ := hF88
  dsimp only
  rw [e2, e14, e23]
  refine wnil ?_
  refine thenNormal ?_
  refine retAny ?_
  refine retG (rs := [.cell 6 42, .tmp 7]) (vs := [.agg #[.slice (ownA key51) ((la ++ [bs]).length) c52, .slice (ownA ko) lo.length co], .bool (true)]) rfl ⟨r_loadA (cs' := #[.slice (ownA key51) ((la ++ [bs]).length) c52, .slice (ownA ko) lo.length co]) agg42 siz42 (H87.get (k := 2) rfl) (off := 0) rfl (by exact Nat.le_of_ble_eq_true rfl) (by rfl), ⟨rfl, rfl⟩, trivial⟩ ?_
  have H89 := (((((H87.dropk 5).dropk 4).dropk 3).dropk 2).dropk 1)
  have H90 := Hp.toR [(key51, sob ET 9 (la ++ [bs]) sp53), (ko, sob ET 9 lo spo)] (F := frs 5 a40.fs) (G := frs 5 o.fs) (X := X) H89
  exact ⟨_, rfl, a40, key51, c52, sp53, (la ++ [bs]), rfl, hok41, hS54, by rw [hbs42, hea], (by rw [List.length_append, List.length_singleton]; omega), by intro q hq; rcases List.mem_append.1 hq with h | h; exact hza q h; rw [List.mem_singleton.1 h]; exact hbl, H90⟩

theorem play_send_1 (b : Nat) (a o : Wy) (ha : a.ok) (ho : o.ok) (ka ko : Option Nat) (ca co : Nat) (spa spo : List Value) (la lo : List (List (BitVec 8))) (hSa : Sl ET ka la ca spa) (hSo : Sl ET ko lo co spo) (hea : bss a.fs = la) (heo : bss o.fs = lo) (hla : la.length ≤ 64) (hza : ∀ q ∈ la, q.length ≤ 140737488351232) (X : List (Option Nat × Obj)) (fa : Option Addr) (fc : Nat) (bs : List (BitVec 8)) (hbl : bs.length ≤ 140737488351232) (i bit : Int) (w₀ w : World) (hG : Gl w₀) (hFr : Rd E8 w₀ fa bs) (H : Hp No w₀ w ((some b, .cells (nv true a o) 76 (0, 0)) :: (a.key, sob ES 30 (svs a.fs) a.sp) :: (o.key, sob ES 30 (svs o.fs) o.sp) :: (frs 5 a.fs ++ (frs 5 o.fs ++ ((ka, sob ET 9 la spa) :: (ko, sob ET 9 lo spo) :: X))))) (hlen : la.length < 64) : Calls Tryd.prog 31 [.pointer (some ⟨b, 0, none⟩), .agg #[.slice (ownA ko) lo.length co, .slice (ownA ka) la.length ca], .agg #[i64 ((1 : Int)), i64 ((1 : Int)), i64 (i), i64 (bit), .slice fa bs.length fc]].toArray w (Ret fun v w' => ∃ (a' : Wy) (ka' : Option Nat) (ca' : Nat) (spa' : List Value) (la' : List (List (BitVec 8))), v = .tuple #[.agg #[.slice (ownA ko) lo.length co, .slice (ownA ka') la'.length ca'], .bool true] ∧ a'.ok ∧ Sl ET ka' la' ca' spa' ∧ bss a'.fs = la' ∧ la'.length ≤ 64 ∧ (∀ q ∈ la', q.length ≤ 140737488351232) ∧ Hp No w₀ w' ((some b, .cells (nv true a' o) 76 (0, 0)) :: (a'.key, sob ES 30 (svs a'.fs) a'.sp) :: (o.key, sob ES 30 (svs o.fs) o.sp) :: (frs 5 a'.fs ++ (frs 5 o.fs ++ ((ka', sob ET 9 la' spa') :: (ko, sob ET 9 lo spo) :: X))))) := by
  have H := (Hp.fromR [(ka, sob ET 9 la spa), (ko, sob ET 9 lo spo)] (F := frs 5 a.fs) (G := frs 5 o.fs) (X := X) H)
  refine enter (n := 163) Tryd.func31 rfl rfl (Nat.le_of_ble_eq_true rfl) ?_
  refine seqRegion ?_
  refine q_box (v := .agg #[.slice (ownA ko) lo.length co, .slice (ownA ka) la.length ca]) (o := .cells #[.slice (ownA ko) lo.length co, .slice (ownA ka) la.length ca] 42 (0, 0)) H rfl (by rfl) ?_
  intro b1 w2 hb1 H3 hE4
  refine q_box (v := .agg #[i64 ((1 : Int)), i64 ((1 : Int)), i64 (i), i64 (bit), .slice fa bs.length fc]) (o := .cells #[i64 ((1 : Int)), i64 ((1 : Int)), i64 (i), i64 (bit), .slice fa bs.length fc] 69 (0, 0)) H3 rfl (by rfl) ?_
  intro b5 w6 hb5 H7 hE8
  refine q_alloc (o := .cells #[.slice none 0 0, .slice none 0 0] 42 (0, 0)) H7 zer42 (by kernel_rfl) ?_
  intro b9 w10 hb9 H11 hE12
  refine sq (r_assign (v := .bool (false)) rfl) ?_
  refine wend ?_
  refine seqRegion ?_
  refine sq (r_assign (v := .nilIface) rfl) ?_
  refine wend ?_
  refine seqRegion ?_
  refine sq (r_assign (v := i64 ((0 : Int))) rfl) ?_
  refine wend ?_
  refine seqAny ?_
  refine seqRegion ?_
  refine sq (r_fieldAddr (off' := 0) fld69_0 (by decide) (b := b5) (off := 0) rfl (by omega)) ?_
  refine sq (r_loadC (v := i64 ((1 : Int))) one3 (H11.get (k := 1) rfl) (off := 0) rfl (by rfl)) ?_
  refine wend ?_
  refine blockAny ?_
  refine seqRegion ?_
  refine sq ((r_eqlI (a := (1 : Int)) (b := (1 : Int)) rfl rfl).as (v' := .bool (true)) (by rfl)) ?_
  refine sq (r_assign (v := .bool (true)) rfl) ?_
  refine wend ?_
  refine condTrue rfl ?_
  refine seqAny ?_
  refine drawC (m := 9) [0, 0, 2, 0, 0, 16, 56, 127, 255] [3, 6, 7] (fun q vs w' => match q, vs with | 0, [] => Hp No w₀ w' ((some b9, .cells #[.slice none 0 0, .slice none 0 0] 42 (0, 0)) :: (some b5, .cells #[i64 ((1 : Int)), i64 ((1 : Int)), i64 (i), i64 (bit), .slice fa bs.length fc] 69 (0, 0)) :: (some b1, .cells #[.slice (ownA ko) lo.length co, .slice (ownA ka) la.length ca] 42 (0, 0)) :: (ka, sob ET 9 la spa) :: (ko, sob ET 9 lo spo) :: (some b, .cells (nv true a o) 76 (0, 0)) :: (a.key, sob ES 30 (svs a.fs) a.sp) :: (o.key, sob ES 30 (svs o.fs) o.sp) :: (frs 5 a.fs ++ (frs 5 o.fs ++ X))) | 1, [v0] => ∃ (b16 : Nat), v0 = .slice (ownA (some b16)) 0 0 ∧ Sl E8 (some b16) ([]) 0 ([]) ∧ Hp No w₀ w' (((some b16), sob E8 5 ([]) ([])) :: (some b9, .cells #[.slice none 0 0, .slice none 0 0] 42 (0, 0)) :: (some b5, .cells #[i64 ((1 : Int)), i64 ((1 : Int)), i64 (i), i64 (bit), .slice fa bs.length fc] 69 (0, 0)) :: (some b1, .cells #[.slice (ownA ko) lo.length co, .slice (ownA ka) la.length ca] 42 (0, 0)) :: (ka, sob ET 9 la spa) :: (ko, sob ET 9 lo spo) :: (some b, .cells (nv true a o) 76 (0, 0)) :: (a.key, sob ES 30 (svs a.fs) a.sp) :: (o.key, sob ES 30 (svs o.fs) o.sp) :: (frs 5 a.fs ++ (frs 5 o.fs ++ X))) | 2, [v0, v1] => ∃ (b16 : Nat) (key24 : Option Nat) (c25 : Nat) (sp26 : List Value), v0 = .slice (ownA (some b16)) 0 0 ∧ v1 = .slice (ownA key24) (0 + bs.length) c25 ∧ Sl E8 key24 bs c25 sp26 ∧ Hp No w₀ w' ((key24, sob E8 5 bs sp26) :: (some b9, .cells #[.slice none 0 0, .slice none 0 0] 42 (0, 0)) :: (some b5, .cells #[i64 ((1 : Int)), i64 ((1 : Int)), i64 (i), i64 (bit), .slice fa bs.length fc] 69 (0, 0)) :: (some b1, .cells #[.slice (ownA ko) lo.length co, .slice (ownA ka) la.length ca] 42 (0, 0)) :: (ka, sob ET 9 la spa) :: (ko, sob ET 9 lo spo) :: (some b, .cells (nv true a o) 76 (0, 0)) :: (a.key, sob ES 30 (svs a.fs) a.sp) :: (o.key, sob ES 30 (svs o.fs) o.sp) :: (frs 5 a.fs ++ (frs 5 o.fs ++ X))) | 3, [v0, v1, v2] => ∃ (b16 : Nat) (key24 : Option Nat) (c25 : Nat) (sp26 : List Value) (a40 : Wy), v0 = .slice (ownA (some b16)) 0 0 ∧ v1 = .slice (ownA key24) (0 + bs.length) c25 ∧ v2 = .nilIface ∧ Sl E8 key24 bs c25 sp26 ∧ a40.ok ∧ bss a40.fs = bss a.fs ++ [bs] ∧ Hp No w₀ w' ((key24, sob E8 5 bs sp26) :: (some b9, .cells #[.slice none 0 0, .slice none 0 0] 42 (0, 0)) :: (some b5, .cells #[i64 ((1 : Int)), i64 ((1 : Int)), i64 (i), i64 (bit), .slice fa bs.length fc] 69 (0, 0)) :: (some b1, .cells #[.slice (ownA ko) lo.length co, .slice (ownA ka) la.length ca] 42 (0, 0)) :: (ka, sob ET 9 la spa) :: (ko, sob ET 9 lo spo) :: (some b, .cells (nv true a40 o) 76 (0, 0)) :: (a40.key, sob ES 30 (svs a40.fs) a40.sp) :: (o.key, sob ES 30 (svs o.fs) o.sp) :: (frs 5 a40.fs ++ (frs 5 o.fs ++ X))) | _, _ => False) mixed (by kernel_rfl) (by kernel_rfl) H11.drew ?_
  refine WalkC.look rfl (fun _ => .pointer (some ⟨b, 0, none⟩)) (fun _ _ _ => rfl) (fun q r uw _ _ _ _ => Gives.run rfl (r_move (v := .pointer (some ⟨b, 0, none⟩)) rfl) ⟨rfl, rfl⟩) ?_
  refine WalkC.look rfl (fun _ => .pointer (some ⟨b5, 1, none⟩)) (fun _ _ _ => rfl) (fun q r uw _ _ _ _ => Gives.run rfl (r_fieldAddr (off' := 1) fld69_1 (by decide) (b := b5) (off := 0) rfl (by omega)) ⟨rfl, rfl⟩) ?_
  refine WalkC.look rfl (fun _ => i64 ((1 : Int))) (fun _ _ _ => rfl) (fun q r uw hlo hhi hle hF => ?_) ?_
  · skip
    have h1 : 0 ≤ q := Nat.zero_le _
    have h2 : q ≤ 2 := hhi 2 7 rfl rfl
    rcases (show q = 0 ∨ q = 1 ∨ q = 2 by omega) with rfl | rfl | rfl
    · skip
      have HH := hF
      exact Gives.run rfl (r_loadC (v := i64 ((1 : Int))) one3 (HH.get (k := 1) rfl) (off := 1) rfl (by rfl)) ⟨rfl, rfl⟩
    · skip
      obtain ⟨b16, e3, hS17, HH⟩ := hF
      exact Gives.run rfl (r_loadC (v := i64 ((1 : Int))) one3 (HH.get (k := 2) rfl) (off := 1) rfl (by rfl)) ⟨rfl, rfl⟩
    · skip
      obtain ⟨b16, key24, c25, sp26, e3, e6, hS32, HH⟩ := hF
      exact Gives.run rfl (r_loadC (v := i64 ((1 : Int))) one3 (HH.get (k := 2) rfl) (off := 1) rfl (by rfl)) ⟨rfl, rfl⟩
  refine WalkC.eff 0 rfl (fun r uw13 hF15 => ?_) ?_
  · skip
    have H14 := hF15
    dsimp only [List.take, List.map, List.cons_append, List.nil_append]
    refine Gives.ofW (d := 44) rfl rfl (fun Q' hK => ?_)
    refine q_buildSlice (E := E8) (l := []) H14 sli30 zer5 (Nat.le_of_ble_eq_true rfl) (ps := []) rfl (by exact fillAll rfl rfl) rfl ?_
    intro b16 w18 hS17 H19 hE20
    exact hK _ _ ⟨b16, rfl, hS17, H19⟩
  refine WalkC.look rfl (fun _ => .pointer (some ⟨b5, 4, none⟩)) (fun _ _ _ => rfl) (fun q r uw _ _ _ _ => Gives.run rfl (r_fieldAddr (off' := 4) fld69_4 (by decide) (b := b5) (off := 0) rfl (by omega)) ⟨rfl, rfl⟩) ?_
  refine WalkC.look rfl (fun _ => .slice fa bs.length fc) (fun _ _ _ => rfl) (fun q r uw hlo hhi hle hF => ?_) ?_
  · skip
    have h1 : 0 ≤ q := Nat.zero_le _
    have h2 : q ≤ 1 := hhi 1 6 rfl rfl
    rcases (show q = 0 ∨ q = 1 by omega) with rfl | rfl
    · skip
      have HH := hF
      exact Gives.run rfl (r_loadC (v := .slice fa bs.length fc) one30 (HH.get (k := 1) rfl) (off := 4) rfl (by rfl)) ⟨rfl, rfl⟩
    · skip
      obtain ⟨b16, e3, hS17, HH⟩ := hF
      exact Gives.run rfl (r_loadC (v := .slice fa bs.length fc) one30 (HH.get (k := 2) rfl) (off := 4) rfl (by rfl)) ⟨rfl, rfl⟩
  refine WalkC.eff 1 rfl (fun r uw21 hF23 => ?_) ?_
  · skip
    obtain ⟨b16, e3, hS17, H22⟩ := hF23
    dsimp only [List.take, List.map, List.cons_append, List.nil_append]
    rw [e3]
    refine Gives.ofW (d := 47) rfl rfl (fun Q' hK => ?_)
    refine q_append (E := E8) (k := 0) (l := []) (l2 := bs) H22 rfl hS17 sli30 zer5 rfl byt5 (hFr.ext H22.chg) rfl (by rfl) rfl (by rfl) (by omega) ?_
    intro key24 c25 sp26 w28 hS27 hne30 H29
    have H29' := H29.as (L' := ((key24, sob E8 5 (([]) ++ bs) sp26) :: (some b9, .cells #[.slice none 0 0, .slice none 0 0] 42 (0, 0)) :: (some b5, .cells #[i64 ((1 : Int)), i64 ((1 : Int)), i64 (i), i64 (bit), .slice fa bs.length fc] 69 (0, 0)) :: (some b1, .cells #[.slice (ownA ko) lo.length co, .slice (ownA ka) la.length ca] 42 (0, 0)) :: (ka, sob ET 9 la spa) :: (ko, sob ET 9 lo spo) :: (some b, .cells (nv true a o) 76 (0, 0)) :: (a.key, sob ES 30 (svs a.fs) a.sp) :: (o.key, sob ES 30 (svs o.fs) o.sp) :: (frs 5 a.fs ++ (frs 5 o.fs ++ X)))) rfl
    clear H29
    have e31 : ([]) ++ bs = bs := by rw [List.nil_append]
    have hS32 := hS27
    rw [e31] at hS32
    have H33 := H29'.as (L' := ((key24, sob E8 5 bs sp26) :: (some b9, .cells #[.slice none 0 0, .slice none 0 0] 42 (0, 0)) :: (some b5, .cells #[i64 ((1 : Int)), i64 ((1 : Int)), i64 (i), i64 (bit), .slice fa bs.length fc] 69 (0, 0)) :: (some b1, .cells #[.slice (ownA ko) lo.length co, .slice (ownA ka) la.length ca] 42 (0, 0)) :: (ka, sob ET 9 la spa) :: (ko, sob ET 9 lo spo) :: (some b, .cells (nv true a o) 76 (0, 0)) :: (a.key, sob ES 30 (svs a.fs) a.sp) :: (o.key, sob ES 30 (svs o.fs) o.sp) :: (frs 5 a.fs ++ (frs 5 o.fs ++ X)))) (by rw [e31])
    exact hK _ _ ⟨b16, key24, c25, sp26, rfl, rfl, hS32, H33⟩
  refine WalkC.eff 2 rfl (fun r uw34 hF36 => ?_) ?_
  · skip
    obtain ⟨b16, key24, c25, sp26, e3, e6, hS32, H35⟩ := hF36
    dsimp only [List.take, List.map, List.cons_append, List.nil_append]
    rw [e3, e6]
    refine Gives.ofW (d := 48) rfl rfl (fun Q' hK => ?_)
    have H37 := Hp.toR [(key24, sob E8 5 bs sp26), (some b9, .cells #[.slice none 0 0, .slice none 0 0] 42 (0, 0)), (some b5, .cells #[i64 ((1 : Int)), i64 ((1 : Int)), i64 (i), i64 (bit), .slice fa bs.length fc] 69 (0, 0)), (some b1, .cells #[.slice (ownA ko) lo.length co, .slice (ownA ka) la.length ca] 42 (0, 0)), (ka, sob ET 9 la spa), (ko, sob ET 9 lo spo)] (F := frs 5 a.fs) (G := frs 5 o.fs) (X := X) H35
    refine c_call (vs := [.pointer (some ⟨b, 0, none⟩), i64 ((1 : Int)), .slice (ownA key24) (0 + bs.length) c25]) call14 rfl (send_ok true b a o ha ([(key24, sob E8 5 bs sp26), (some b9, .cells #[.slice none 0 0, .slice none 0 0] 42 (0, 0)), (some b5, .cells #[i64 ((1 : Int)), i64 ((1 : Int)), i64 (i), i64 (bit), .slice fa bs.length fc] 69 (0, 0)), (some b1, .cells #[.slice (ownA ko) lo.length co, .slice (ownA ka) la.length ca] 42 (0, 0)), (ka, sob ET 9 la spa), (ko, sob ET 9 lo spo)] ++ X) w₀ uw34 bs (by first | omega | exact Nat.le_of_ble_eq_true rfl | (simp; omega)) (ownA key24) (0 + bs.length) c25 (by exact Nat.zero_add _) H37 (fun w1 HX => HX.rdm (T := 5) hS32 (by simp)) (by have h := congrArg List.length hea; rw [bss_len] at h; omega)) ?_
    rintro _ w38 ⟨rfl, a40, hok41, hbs42, HN43⟩
    have H44 := (Hp.fromR [(key24, sob E8 5 bs sp26), (some b9, .cells #[.slice none 0 0, .slice none 0 0] 42 (0, 0)), (some b5, .cells #[i64 ((1 : Int)), i64 ((1 : Int)), i64 (i), i64 (bit), .slice fa bs.length fc] 69 (0, 0)), (some b1, .cells #[.slice (ownA ko) lo.length co, .slice (ownA ka) la.length ca] 42 (0, 0)), (ka, sob ET 9 la spa), (ko, sob ET 9 lo spo)] (F := frs 5 a40.fs) (G := frs 5 o.fs) (X := X) HN43).as (L' := ((key24, sob E8 5 bs sp26) :: (some b9, .cells #[.slice none 0 0, .slice none 0 0] 42 (0, 0)) :: (some b5, .cells #[i64 ((1 : Int)), i64 ((1 : Int)), i64 (i), i64 (bit), .slice fa bs.length fc] 69 (0, 0)) :: (some b1, .cells #[.slice (ownA ko) lo.length co, .slice (ownA ka) la.length ca] 42 (0, 0)) :: (ka, sob ET 9 la spa) :: (ko, sob ET 9 lo spo) :: (some b, .cells (nv true a40 o) 76 (0, 0)) :: (a40.key, sob ES 30 (svs a40.fs) a40.sp) :: (o.key, sob ES 30 (svs o.fs) o.sp) :: (frs 5 a40.fs ++ (frs 5 o.fs ++ X)))) rfl
    exact hK _ _ ⟨b16, key24, c25, sp26, a40, rfl, rfl, rfl, hS32, hok41, hbs42, H44⟩
  refine WalkC.look rfl (fun r => r 7) (fun r r' h => h 7 (by decide) rfl) (fun q r uw _ _ _ _ => Gives.run rfl (r_assign rfl) ⟨rfl, rfl⟩) ?_
  refine WalkC.nil ?_
  intro r45 w46 hF48
  obtain ⟨b16, key24, c25, sp26, a40, e3, e6, e7, hS32, hok41, hbs42, H47⟩ := hF48
  dsimp only
  rw [e3, e6, e7]
  refine wnil ?_
  refine thenNormal ?_
  refine oneRegion ?_
  refine sq (r_loadA (cs' := #[.slice (ownA ko) lo.length co, .slice (ownA ka) la.length ca]) agg42 siz42 (H47.get (k := 3) rfl) (off := 0) rfl (by exact Nat.le_of_ble_eq_true rfl) (by rfl)) ?_
  refine sq (r_fieldAddr (off' := 1) fld69_1 (by decide) (b := b5) (off := 0) rfl (by omega)) ?_
  refine sq (r_loadC (v := i64 ((1 : Int))) one3 (H47.get (k := 2) rfl) (off := 1) rfl (by rfl)) ?_
  refine sq (r_fieldAddr (off' := 4) fld69_4 (by decide) (b := b5) (off := 0) rfl (by omega)) ?_
  refine sq (r_loadC (v := .slice fa bs.length fc) one30 (H47.get (k := 2) rfl) (off := 4) rfl (by rfl)) ?_
  refine sq (r_toStr (l := bs) und30 und5 und9 (hFr.ext H47.chg) rfl (by rfl)) ?_
  refine c_call (vs := [.agg #[.slice (ownA ko) lo.length co, .slice (ownA ka) la.length ca], i64 ((1 : Int)), .string (strB bs)]) call46 rfl (rsend_ok_1 la (ownA ka) (ownA ko) ca lo.length co w46 bs hlen (H47.rd (k := 4) rfl hSa)) ?_
  rintro _ w49 ⟨⟨key51, c52, sp53, rfl, hS54, hk55⟩, hE56⟩
  have H57 := H47.add hE56 hk55
  refine sq (r_move (v := .tuple #[.agg #[.slice (ownA ko) lo.length co, .slice (ownA key51) ((la ++ [bs]).length) c52], i64 ((0 : Int))]) rfl) ?_
  refine sq (r_extract (vs := #[.agg #[.slice (ownA ko) lo.length co, .slice (ownA key51) ((la ++ [bs]).length) c52], i64 ((0 : Int))]) rfl rfl) ?_
  refine sq (r_extract (vs := #[.agg #[.slice (ownA ko) lo.length co, .slice (ownA key51) ((la ++ [bs]).length) c52], i64 ((0 : Int))]) rfl rfl) ?_
  refine d_store (k := 4) (v := .agg #[.slice (ownA ko) lo.length co, .slice (ownA key51) ((la ++ [bs]).length) c52]) (cs' := #[.slice (ownA ko) lo.length co, .slice (ownA key51) ((la ++ [bs]).length) c52]) H57 rfl rfl rfl siz42 (by rfl) (by intro u hu; simp [Value.cells] at hu; first | (subst hu; rfl) | (rcases hu with rfl | rfl <;> rfl)) (by exact Nat.le_of_ble_eq_true rfl) (by rfl) ?_
  intro w58 H59 hC60
  have H59' := H59.as (L' := ((key51, sob ET 9 (la ++ [bs]) sp53) :: (key24, sob E8 5 bs sp26) :: (some b9, .cells #[.slice none 0 0, .slice none 0 0] 42 (0, 0)) :: (some b5, .cells #[i64 ((1 : Int)), i64 ((1 : Int)), i64 (i), i64 (bit), .slice fa bs.length fc] 69 (0, 0)) :: (some b1, .cells #[.slice (ownA ko) lo.length co, .slice (ownA key51) ((la ++ [bs]).length) c52] 42 (0, 0)) :: (ka, sob ET 9 la spa) :: (ko, sob ET 9 lo spo) :: (some b, .cells (nv true a40 o) 76 (0, 0)) :: (a40.key, sob ES 30 (svs a40.fs) a40.sp) :: (o.key, sob ES 30 (svs o.fs) o.sp) :: (frs 5 a40.fs ++ (frs 5 o.fs ++ X)))) rfl
  clear H59
  refine sq (r_assign (v := i64 ((0 : Int))) rfl) ?_
  refine wnil ?_
  refine blockNormal ?_
  refine thenNormal ?_
  refine seqAny ?_
  have hlA : a40.fs.length = (la ++ [bs]).length := by have h := congrArg List.length (show bss a40.fs = la ++ [bs] from by rw [hbs42, hea]); rwa [bss_len] at h
  have hlO : o.fs.length = lo.length := by have h := congrArg List.length heo; rwa [bss_len] at h
  refine drawC (m := 32) [0, 0, 2, 0, 14, 30, 62, 126, 62, 318, 1022, 2046, 4094, 8190, 16382, 8190, 40958, 106494, 237566, 524286, 1048574, 2097150, 4194302, 8388606, 4194302, 20971518, 54525950, 121634814, 268435454, 536870910, 16777215, 2147483647] [2, 14, 23, 30] (fun q vs w' => match q, vs with | 0, [] => Ext w58 w' ∧ Hp No w₀ w' ((key51, sob ET 9 (la ++ [bs]) sp53) :: (key24, sob E8 5 bs sp26) :: (some b9, .cells #[.slice none 0 0, .slice none 0 0] 42 (0, 0)) :: (some b5, .cells #[i64 ((1 : Int)), i64 ((1 : Int)), i64 (i), i64 (bit), .slice fa bs.length fc] 69 (0, 0)) :: (some b1, .cells #[.slice (ownA ko) lo.length co, .slice (ownA key51) ((la ++ [bs]).length) c52] 42 (0, 0)) :: (ka, sob ET 9 la spa) :: (ko, sob ET 9 lo spo) :: (some b, .cells (nv true a40 o) 76 (0, 0)) :: (a40.key, sob ES 30 (svs a40.fs) a40.sp) :: (o.key, sob ES 30 (svs o.fs) o.sp) :: (frs 5 a40.fs ++ (frs 5 o.fs ++ X))) | 1, [v0] => v0 = i64 ((0 : Int)) ∧ Ext w58 w' ∧ Hp No w₀ w' ((key51, sob ET 9 (la ++ [bs]) sp53) :: (key24, sob E8 5 bs sp26) :: (some b9, .cells #[.slice none 0 0, .slice none 0 0] 42 (0, 0)) :: (some b5, .cells #[i64 ((1 : Int)), i64 ((1 : Int)), i64 (i), i64 (bit), .slice fa bs.length fc] 69 (0, 0)) :: (some b1, .cells #[.slice (ownA ko) lo.length co, .slice (ownA key51) ((la ++ [bs]).length) c52] 42 (0, 0)) :: (ka, sob ET 9 la spa) :: (ko, sob ET 9 lo spo) :: (some b, .cells (nv true a40 o) 76 (0, 0)) :: (a40.key, sob ES 30 (svs a40.fs) a40.sp) :: (o.key, sob ES 30 (svs o.fs) o.sp) :: (frs 5 a40.fs ++ (frs 5 o.fs ++ X))) | 2, [v0, v1] => v0 = i64 ((0 : Int)) ∧ v1 = i64 ((o.fs.length : Nat)) ∧ Ext w58 w' ∧ Hp No w₀ w' ((key51, sob ET 9 (la ++ [bs]) sp53) :: (key24, sob E8 5 bs sp26) :: (some b9, .cells #[.slice none 0 0, .slice none 0 0] 42 (0, 0)) :: (some b5, .cells #[i64 ((1 : Int)), i64 ((1 : Int)), i64 (i), i64 (bit), .slice fa bs.length fc] 69 (0, 0)) :: (some b1, .cells #[.slice (ownA ko) lo.length co, .slice (ownA key51) ((la ++ [bs]).length) c52] 42 (0, 0)) :: (ka, sob ET 9 la spa) :: (ko, sob ET 9 lo spo) :: (some b, .cells (nv true a40 o) 76 (0, 0)) :: (a40.key, sob ES 30 (svs a40.fs) a40.sp) :: (o.key, sob ES 30 (svs o.fs) o.sp) :: (frs 5 a40.fs ++ (frs 5 o.fs ++ X))) | 3, [v0, v1, v2] => v0 = i64 ((0 : Int)) ∧ v1 = i64 ((o.fs.length : Nat)) ∧ v2 = i64 ((a40.fs.length : Nat)) ∧ Ext w58 w' ∧ Hp No w₀ w' ((key51, sob ET 9 (la ++ [bs]) sp53) :: (key24, sob E8 5 bs sp26) :: (some b9, .cells #[.slice none 0 0, .slice none 0 0] 42 (0, 0)) :: (some b5, .cells #[i64 ((1 : Int)), i64 ((1 : Int)), i64 (i), i64 (bit), .slice fa bs.length fc] 69 (0, 0)) :: (some b1, .cells #[.slice (ownA ko) lo.length co, .slice (ownA key51) ((la ++ [bs]).length) c52] 42 (0, 0)) :: (ka, sob ET 9 la spa) :: (ko, sob ET 9 lo spo) :: (some b, .cells (nv true a40 o) 76 (0, 0)) :: (a40.key, sob ES 30 (svs a40.fs) a40.sp) :: (o.key, sob ES 30 (svs o.fs) o.sp) :: (frs 5 a40.fs ++ (frs 5 o.fs ++ X))) | 4, [v0, v1, v2, _] => v0 = i64 ((0 : Int)) ∧ v1 = i64 ((o.fs.length : Nat)) ∧ v2 = i64 ((a40.fs.length : Nat)) ∧ True ∧ Chg (· = b9) w58 w' ∧ Hp No w₀ w' ((key51, sob ET 9 (la ++ [bs]) sp53) :: (key24, sob E8 5 bs sp26) :: (some b9, .cells #[.slice (ownA ko) lo.length co, .slice (ownA key51) ((la ++ [bs]).length) c52] 42 (0, 0)) :: (some b5, .cells #[i64 ((1 : Int)), i64 ((1 : Int)), i64 (i), i64 (bit), .slice fa bs.length fc] 69 (0, 0)) :: (some b1, .cells #[.slice (ownA ko) lo.length co, .slice (ownA key51) ((la ++ [bs]).length) c52] 42 (0, 0)) :: (ka, sob ET 9 la spa) :: (ko, sob ET 9 lo spo) :: (some b, .cells (nv true a40 o) 76 (0, 0)) :: (a40.key, sob ES 30 (svs a40.fs) a40.sp) :: (o.key, sob ES 30 (svs o.fs) o.sp) :: (frs 5 a40.fs ++ (frs 5 o.fs ++ X))) | _, _ => False) mixed (by kernel_rfl) (by kernel_rfl) ⟨Ext.drew _, H59'.drew⟩ ?_
  refine WalkC.look rfl (fun _ => .agg #[.slice (ownA ko) lo.length co, .slice (ownA key51) ((la ++ [bs]).length) c52]) (fun _ _ _ => rfl) (fun q r uw hlo hhi hle hF => ?_) ?_
  · skip
    have h1 : 0 ≤ q := Nat.zero_le _
    have h2 : q ≤ 3 := hhi 3 30 rfl rfl
    rcases (show q = 0 ∨ q = 1 ∨ q = 2 ∨ q = 3 by omega) with rfl | rfl | rfl | rfl
    · skip
      obtain ⟨hX, HH⟩ := hF
      exact Gives.run rfl (r_loadA (cs' := #[.slice (ownA ko) lo.length co, .slice (ownA key51) ((la ++ [bs]).length) c52]) agg42 siz42 (HH.get (k := 4) rfl) (off := 0) rfl (by exact Nat.le_of_ble_eq_true rfl) (by rfl)) ⟨rfl, rfl⟩
    · skip
      obtain ⟨e2, hX, HH⟩ := hF
      exact Gives.run rfl (r_loadA (cs' := #[.slice (ownA ko) lo.length co, .slice (ownA key51) ((la ++ [bs]).length) c52]) agg42 siz42 (HH.get (k := 4) rfl) (off := 0) rfl (by exact Nat.le_of_ble_eq_true rfl) (by rfl)) ⟨rfl, rfl⟩
    · skip
      obtain ⟨e2, e14, hX, HH⟩ := hF
      exact Gives.run rfl (r_loadA (cs' := #[.slice (ownA ko) lo.length co, .slice (ownA key51) ((la ++ [bs]).length) c52]) agg42 siz42 (HH.get (k := 4) rfl) (off := 0) rfl (by exact Nat.le_of_ble_eq_true rfl) (by rfl)) ⟨rfl, rfl⟩
    · skip
      obtain ⟨e2, e14, e23, hX, HH⟩ := hF
      exact Gives.run rfl (r_loadA (cs' := #[.slice (ownA ko) lo.length co, .slice (ownA key51) ((la ++ [bs]).length) c52]) agg42 siz42 (HH.get (k := 4) rfl) (off := 0) rfl (by exact Nat.le_of_ble_eq_true rfl) (by rfl)) ⟨rfl, rfl⟩
  refine WalkC.look rfl (fun _ => .nilIface) (fun _ _ _ => rfl) (fun q r uw _ _ _ _ => Gives.run rfl (r_move (v := .nilIface) rfl) ⟨rfl, rfl⟩) ?_
  refine WalkC.eff 0 rfl (fun r uw61 hF63 => ?_) ?_
  · skip
    obtain ⟨hX, H62⟩ := hF63
    dsimp only [List.take, List.map, List.cons_append, List.nil_append]
    refine Gives.ofW (d := 135) rfl rfl (fun Q' hK => ?_)
    refine c_call (vs := [.nilIface]) call49 rfl (codenil_ok uw61) ?_
    rintro _ w64 ⟨rfl, hE65⟩
    have H66 := H62.ext hE65
    exact hK _ _ ⟨rfl, (hX.trans hE65), H66⟩
  refine WalkC.look rfl (fun _ => i64 ((0 : Int))) (fun _ _ _ => rfl) (fun q r uw _ _ _ _ => Gives.run rfl (r_move (v := i64 ((0 : Int))) rfl) ⟨rfl, rfl⟩) ?_
  refine WalkC.look rfl (fun _ => .bool (true)) (fun _ _ _ => rfl) (fun q r uw hlo hhi hle hF => ?_) ?_
  · skip
    have h1 : 1 ≤ q := hlo 0 2 rfl rfl
    have h2 : q ≤ 1 := hhi 1 14 rfl rfl
    rcases (show q = 1 by omega) with rfl
    · skip
      obtain ⟨e2, hX, HH⟩ := hF
      dsimp only
      rw [e2]
      exact Gives.run rfl ((r_eqlI (a := (0 : Int)) (b := (0 : Int)) rfl rfl).as (v' := .bool (true)) (by rfl)) ⟨rfl, rfl⟩
  refine WalkC.look rfl (fun _ => .bool (true)) (fun _ _ _ => rfl) (fun q r uw _ _ _ _ => Gives.run rfl (r_move (v := .bool (true)) rfl) ⟨rfl, rfl⟩) ?_
  refine WalkC.look rfl (fun _ => .nilIface) (fun _ _ _ => rfl) (fun q r uw _ _ _ _ => Gives.runW (wantedSome (d' := 138) (b := true) rfl rfl rfl) (r_move (v := .nilIface) rfl) ⟨rfl, rfl⟩) ?_
  refine WalkC.look rfl (fun _ => .bool (true)) (fun _ _ _ => rfl) (fun q r uw _ _ _ _ => Gives.runW (wantedSome (d' := 138) (b := true) rfl rfl rfl) (r_eqlNN isI28 rfl rfl) ⟨rfl, rfl⟩) ?_
  refine WalkC.look rfl (fun _ => i64 ((0 : Int))) (fun _ _ _ => rfl) (fun q r uw _ _ _ _ => Gives.runW (wantedSome (d' := 138) (b := true) rfl rfl rfl) (r_move (v := i64 ((0 : Int))) rfl) ⟨rfl, rfl⟩) ?_
  refine WalkC.look rfl (fun _ => .bool (true)) (fun _ _ _ => rfl) (fun q r uw _ _ _ _ => Gives.runW (wantedSome (d' := 138) (b := true) rfl rfl rfl) ((r_eqlI (a := (0 : Int)) (b := (0 : Int)) rfl rfl).as (v' := .bool (true)) (by rfl)) ⟨rfl, rfl⟩) ?_
  refine WalkC.look rfl (fun _ => .bool (true)) (fun _ _ _ => rfl) (fun q r uw _ _ _ _ => Gives.runW (wantedSome (d' := 138) (b := true) rfl rfl rfl) ((r_eqlB und4 (a := true) (b := true) rfl rfl).as (v' := .bool (true)) (by rfl)) ⟨rfl, rfl⟩) ?_
  refine WalkC.look rfl (fun _ => .bool (true)) (fun _ _ _ => rfl) (fun q r uw _ _ _ _ => Gives.run rfl (r_pickT (u := .bool (true)) rfl rfl) ⟨rfl, rfl⟩) ?_
  refine WalkC.look rfl (fun _ => .bool (true)) (fun _ _ _ => rfl) (fun q r uw _ _ _ _ => Gives.run rfl (r_move (v := .bool (true)) rfl) ⟨rfl, rfl⟩) ?_
  refine WalkC.look rfl (fun _ => .pointer (some ⟨b, 0, none⟩)) (fun _ _ _ => rfl) (fun q r uw _ _ _ _ => Gives.runW (wantedSome (d' := 145) (b := true) rfl rfl rfl) (r_move (v := .pointer (some ⟨b, 0, none⟩)) rfl) ⟨rfl, rfl⟩) ?_
  refine WalkC.eff 1 rfl (fun r uw67 hF69 => ?_) ?_
  · skip
    obtain ⟨e2, hX, H68⟩ := hF69
    dsimp only [List.take, List.map, List.cons_append, List.nil_append]
    rw [e2]
    refine Gives.ofW (d := 147) rfl rfl (fun Q' hK => ?_)
    refine caAny (wantedSome (d' := 145) (b := true) rfl rfl rfl) (Enters.callL (vs := [.pointer (some ⟨b, 0, none⟩), i64 ((0 : Int))]) call15 rfl) (len_0 b o a40 uw67 (H68.get (k := 7) rfl)) ?_
    rintro _ w70 ⟨rfl, hE71⟩
    have H72 := H68.ext hE71
    exact hK _ _ ⟨rfl, rfl, (hX.trans hE71), H72⟩
  refine WalkC.look rfl (fun _ => .pointer (some ⟨b1, 0, none⟩)) (fun _ _ _ => rfl) (fun q r uw _ _ _ _ => Gives.runW (wantedSome (d' := 145) (b := true) rfl rfl rfl) (r_fieldAddr (off' := 0) fld42_0 (by decide) (b := b1) (off := 0) rfl (by omega)) ⟨rfl, rfl⟩) ?_
  refine WalkC.look rfl (fun _ => .pointer (some ⟨b1, 0, none⟩)) (fun _ _ _ => rfl) (fun q r uw _ _ _ _ => Gives.runW (wantedSome (d' := 145) (b := true) rfl rfl rfl) (r_indexA (off' := 0) (j := 0) arr40 (b := b1) (off := 0) rfl rfl (by first | rfl | omega | (simp; omega)) (by omega) (by omega)) ⟨rfl, rfl⟩) ?_
  refine WalkC.look rfl (fun _ => .slice (ownA ko) lo.length co) (fun _ _ _ => rfl) (fun q r uw hlo hhi hle hF => ?_) ?_
  · skip
    have h1 : 1 ≤ q := hlo 0 2 rfl rfl
    have h2 : q ≤ 2 := hhi 2 23 rfl rfl
    rcases (show q = 1 ∨ q = 2 by omega) with rfl | rfl
    · skip
      obtain ⟨e2, hX, HH⟩ := hF
      exact Gives.runW (wantedSome (d' := 145) (b := true) rfl rfl rfl) (r_loadC (v := .slice (ownA ko) lo.length co) one39 (HH.get (k := 4) rfl) (off := 0) rfl (by rfl)) ⟨rfl, rfl⟩
    · skip
      obtain ⟨e2, e14, hX, HH⟩ := hF
      exact Gives.runW (wantedSome (d' := 145) (b := true) rfl rfl rfl) (r_loadC (v := .slice (ownA ko) lo.length co) one39 (HH.get (k := 4) rfl) (off := 0) rfl (by rfl)) ⟨rfl, rfl⟩
  refine WalkC.look rfl (fun _ => i64 ((lo.length : Nat))) (fun _ _ _ => rfl) (fun q r uw _ _ _ _ => Gives.runW (wantedSome (d' := 145) (b := true) rfl rfl rfl) (r_lenS sli39 (a := ownA ko) (m := lo.length) (c := co) rfl) ⟨rfl, rfl⟩) ?_
  refine WalkC.look rfl (fun _ => .bool (true)) (fun _ _ _ => rfl) (fun q r uw hlo hhi hle hF => ?_) ?_
  · skip
    have h1 : 2 ≤ q := hlo 1 14 rfl rfl
    have h2 : q ≤ 2 := hhi 2 23 rfl rfl
    rcases (show q = 2 by omega) with rfl
    · skip
      obtain ⟨e2, e14, hX, HH⟩ := hF
      dsimp only
      rw [e14]
      exact Gives.runW (wantedSome (d' := 145) (b := true) rfl rfl rfl) ((r_eqlI (a := (o.fs.length : Nat)) (b := (lo.length : Nat)) rfl rfl).as (v' := .bool (true)) (by exact congrArg Value.bool (decide_eq_true (by first | exact congrArg (fun q : Nat => (q : Int)) hlA | exact congrArg (fun q : Nat => (q : Int)) hlO)))) ⟨rfl, rfl⟩
  refine WalkC.look rfl (fun _ => .bool (true)) (fun _ _ _ => rfl) (fun q r uw _ _ _ _ => Gives.run rfl (r_pickT (u := .bool (true)) rfl rfl) ⟨rfl, rfl⟩) ?_
  refine WalkC.look rfl (fun _ => .bool (true)) (fun _ _ _ => rfl) (fun q r uw _ _ _ _ => Gives.run rfl (r_move (v := .bool (true)) rfl) ⟨rfl, rfl⟩) ?_
  refine WalkC.look rfl (fun _ => .pointer (some ⟨b, 0, none⟩)) (fun _ _ _ => rfl) (fun q r uw _ _ _ _ => Gives.runW (wantedSome (d' := 154) (b := true) rfl rfl rfl) (r_move (v := .pointer (some ⟨b, 0, none⟩)) rfl) ⟨rfl, rfl⟩) ?_
  refine WalkC.eff 2 rfl (fun r uw73 hF75 => ?_) ?_
  · skip
    obtain ⟨e2, e14, hX, H74⟩ := hF75
    dsimp only [List.take, List.map, List.cons_append, List.nil_append]
    rw [e2, e14]
    refine Gives.ofW (d := 156) rfl rfl (fun Q' hK => ?_)
    refine caAny (wantedSome (d' := 154) (b := true) rfl rfl rfl) (Enters.callL (vs := [.pointer (some ⟨b, 0, none⟩), i64 ((1 : Int))]) call15 rfl) (len_1 b a40 o uw73 (H74.get (k := 7) rfl)) ?_
    rintro _ w76 ⟨rfl, hE77⟩
    have H78 := H74.ext hE77
    exact hK _ _ ⟨rfl, rfl, rfl, (hX.trans hE77), H78⟩
  refine WalkC.look rfl (fun _ => .pointer (some ⟨b1, 0, none⟩)) (fun _ _ _ => rfl) (fun q r uw _ _ _ _ => Gives.runW (wantedSome (d' := 154) (b := true) rfl rfl rfl) (r_fieldAddr (off' := 0) fld42_0 (by decide) (b := b1) (off := 0) rfl (by omega)) ⟨rfl, rfl⟩) ?_
  refine WalkC.look rfl (fun _ => .pointer (some ⟨b1, 1, none⟩)) (fun _ _ _ => rfl) (fun q r uw _ _ _ _ => Gives.runW (wantedSome (d' := 154) (b := true) rfl rfl rfl) (r_indexA (off' := 1) (j := 1) arr40 (b := b1) (off := 0) rfl rfl (by first | rfl | omega | (simp; omega)) (by omega) (by omega)) ⟨rfl, rfl⟩) ?_
  refine WalkC.look rfl (fun _ => .slice (ownA key51) ((la ++ [bs]).length) c52) (fun _ _ _ => rfl) (fun q r uw hlo hhi hle hF => ?_) ?_
  · skip
    have h1 : 2 ≤ q := hlo 1 14 rfl rfl
    have h2 : q ≤ 4 := hle
    rcases (show q = 2 ∨ q = 3 ∨ q = 4 by omega) with rfl | rfl | rfl
    · skip
      obtain ⟨e2, e14, hX, HH⟩ := hF
      exact Gives.runW (wantedSome (d' := 154) (b := true) rfl rfl rfl) (r_loadC (v := .slice (ownA key51) ((la ++ [bs]).length) c52) one39 (HH.get (k := 4) rfl) (off := 1) rfl (by rfl)) ⟨rfl, rfl⟩
    · skip
      obtain ⟨e2, e14, e23, hX, HH⟩ := hF
      exact Gives.runW (wantedSome (d' := 154) (b := true) rfl rfl rfl) (r_loadC (v := .slice (ownA key51) ((la ++ [bs]).length) c52) one39 (HH.get (k := 4) rfl) (off := 1) rfl (by rfl)) ⟨rfl, rfl⟩
    · skip
      obtain ⟨e2, e14, e23, e30, hX, HH⟩ := hF
      exact Gives.runW (wantedSome (d' := 154) (b := true) rfl rfl rfl) (r_loadC (v := .slice (ownA key51) ((la ++ [bs]).length) c52) one39 (HH.get (k := 4) rfl) (off := 1) rfl (by rfl)) ⟨rfl, rfl⟩
  refine WalkC.look rfl (fun _ => i64 (((la ++ [bs]).length : Nat))) (fun _ _ _ => rfl) (fun q r uw _ _ _ _ => Gives.runW (wantedSome (d' := 154) (b := true) rfl rfl rfl) (r_lenS sli39 (a := ownA key51) (m := (la ++ [bs]).length) (c := c52) rfl) ⟨rfl, rfl⟩) ?_
  refine WalkC.look rfl (fun _ => .bool (true)) (fun _ _ _ => rfl) (fun q r uw hlo hhi hle hF => ?_) ?_
  · skip
    have h1 : 3 ≤ q := hlo 2 23 rfl rfl
    have h2 : q ≤ 4 := hle
    rcases (show q = 3 ∨ q = 4 by omega) with rfl | rfl
    · skip
      obtain ⟨e2, e14, e23, hX, HH⟩ := hF
      dsimp only
      rw [e23]
      exact Gives.runW (wantedSome (d' := 154) (b := true) rfl rfl rfl) ((r_eqlI (a := (a40.fs.length : Nat)) (b := ((la ++ [bs]).length : Nat)) rfl rfl).as (v' := .bool (true)) (by exact congrArg Value.bool (decide_eq_true (by first | exact congrArg (fun q : Nat => (q : Int)) hlA | exact congrArg (fun q : Nat => (q : Int)) hlO)))) ⟨rfl, rfl⟩
    · skip
      obtain ⟨e2, e14, e23, e30, hX, HH⟩ := hF
      dsimp only
      rw [e23]
      exact Gives.runW (wantedSome (d' := 154) (b := true) rfl rfl rfl) ((r_eqlI (a := (a40.fs.length : Nat)) (b := ((la ++ [bs]).length : Nat)) rfl rfl).as (v' := .bool (true)) (by exact congrArg Value.bool (decide_eq_true (by first | exact congrArg (fun q : Nat => (q : Int)) hlA | exact congrArg (fun q : Nat => (q : Int)) hlO)))) ⟨rfl, rfl⟩
  refine WalkC.look rfl (fun _ => .bool (true)) (fun _ _ _ => rfl) (fun q r uw _ _ _ _ => Gives.run rfl (r_pickT (u := .bool (true)) rfl rfl) ⟨rfl, rfl⟩) ?_
  refine WalkC.eff 3 rfl (fun r uw79 hF81 => ?_) ?_
  · skip
    obtain ⟨e2, e14, e23, hX, H80⟩ := hF81
    dsimp only [List.take, List.map, List.cons_append, List.nil_append]
    rw [e2, e14, e23]
    refine Gives.ofW0 rfl (fun Q' hK => ?_)
    refine d_store (k := 2) (v := .agg #[.slice (ownA ko) lo.length co, .slice (ownA key51) ((la ++ [bs]).length) c52]) (cs' := #[.slice (ownA ko) lo.length co, .slice (ownA key51) ((la ++ [bs]).length) c52]) H80 rfl rfl rfl siz42 (by rfl) (by intro u hu; simp [Value.cells] at hu; first | (subst hu; rfl) | (rcases hu with rfl | rfl <;> rfl)) (by exact Nat.le_of_ble_eq_true rfl) (by rfl) ?_
    intro w82 H83 hC84
    have H83' := H83.as (L' := ((key51, sob ET 9 (la ++ [bs]) sp53) :: (key24, sob E8 5 bs sp26) :: (some b9, .cells #[.slice (ownA ko) lo.length co, .slice (ownA key51) ((la ++ [bs]).length) c52] 42 (0, 0)) :: (some b5, .cells #[i64 ((1 : Int)), i64 ((1 : Int)), i64 (i), i64 (bit), .slice fa bs.length fc] 69 (0, 0)) :: (some b1, .cells #[.slice (ownA ko) lo.length co, .slice (ownA key51) ((la ++ [bs]).length) c52] 42 (0, 0)) :: (ka, sob ET 9 la spa) :: (ko, sob ET 9 lo spo) :: (some b, .cells (nv true a40 o) 76 (0, 0)) :: (a40.key, sob ES 30 (svs a40.fs) a40.sp) :: (o.key, sob ES 30 (svs o.fs) o.sp) :: (frs 5 a40.fs ++ (frs 5 o.fs ++ X)))) rfl
    clear H83
    exact hK _ (fun _ => ⟨rfl, rfl, rfl, trivial, ((Ext.chg hX).trans hC84), H83'⟩)
  refine WalkC.look rfl (fun _ => .bool (true)) (fun _ _ _ => rfl) (fun q r uw _ _ _ _ => Gives.run rfl (r_assign (v := .bool (true)) rfl) ⟨rfl, rfl⟩) ?_
  refine WalkC.nil ?_
  intro r85 w86 hF88
  obtain ⟨e2, e14, e23, e30, hX, H87⟩ := hF88
  dsimp only
  rw [e2, e14, e23]
  refine wnil ?_
  refine thenNormal ?_
  refine retAny ?_
  refine retG (rs := [.cell 6 42, .tmp 7]) (vs := [.agg #[.slice (ownA ko) lo.length co, .slice (ownA key51) ((la ++ [bs]).length) c52], .bool (true)]) rfl ⟨r_loadA (cs' := #[.slice (ownA ko) lo.length co, .slice (ownA key51) ((la ++ [bs]).length) c52]) agg42 siz42 (H87.get (k := 2) rfl) (off := 0) rfl (by exact Nat.le_of_ble_eq_true rfl) (by rfl), ⟨rfl, rfl⟩, trivial⟩ ?_
  have H89 := (((((H87.dropk 5).dropk 4).dropk 3).dropk 2).dropk 1)
  have H90 := Hp.toR [(key51, sob ET 9 (la ++ [bs]) sp53), (ko, sob ET 9 lo spo)] (F := frs 5 a40.fs) (G := frs 5 o.fs) (X := X) H89
  exact ⟨_, rfl, a40, key51, c52, sp53, (la ++ [bs]), rfl, hok41, hS54, by rw [hbs42, hea], (by rw [List.length_append, List.length_singleton]; omega), by intro q hq; rcases List.mem_append.1 hq with h | h; exact hza q h; rw [List.mem_singleton.1 h]; exact hbl, H90⟩
end Go.Proofs.YtpmmhpgfbfehmaaDoor.Nt
