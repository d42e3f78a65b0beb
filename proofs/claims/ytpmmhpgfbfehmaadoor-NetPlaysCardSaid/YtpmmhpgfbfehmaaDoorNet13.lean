/- The walks of the nets. -/
import Derived.Test.YtpmmhpgfbfehmaaDoorNet12
namespace Go.Proofs.YtpmmhpgfbfehmaaDoor.Nt
open Go Go.Proofs.YtpmmhpgfbfehmaaDoor.Vc Go.Proofs.YtpmmhpgfbfehmaaDoor.Er
set_option linter.unusedVariables false

theorem play_senderr_x (b : Nat) (a o : Wy) (ha : a.ok) (ho : o.ok) (ka ko : Option Nat) (ca co : Nat) (spa spo : List Value) (la lo : List (List (BitVec 8))) (hSa : Sl ET ka la ca spa) (hSo : Sl ET ko lo co spo) (hea : bss a.fs = la) (heo : bss o.fs = lo) (hla : la.length ≤ 64) (hza : ∀ q ∈ la, q.length ≤ 140737488351232) (X : List (Option Nat × Obj)) (fa : Option Addr) (fc : Nat) (bs : List (BitVec 8)) (hbl : bs.length ≤ 140737488351232) (way i bit : Int) (c : Int) (hc : c ≠ 0) (w₀ w : World) (hG : Gl w₀) (hFr : Rd E8 w₀ fa bs) (H : Hp No w₀ w ((some b, .cells (nv false a o) 76 (0, 0)) :: (a.key, sob ES 30 (svs a.fs) a.sp) :: (o.key, sob ES 30 (svs o.fs) o.sp) :: (frs 5 a.fs ++ (frs 5 o.fs ++ ((ka, sob ET 9 la spa) :: (ko, sob ET 9 lo spo) :: X))))) (hnet : ∀ (fv : Value) (R : List (Option Nat × Obj)) (w1 : World), Hp No w₀ w1 ((some b, .cells (nv false a o) 76 (0, 0)) :: (a.key, sob ES 30 (svs a.fs) a.sp) :: (o.key, sob ES 30 (svs o.fs) o.sp) :: (frs 5 a.fs ++ (frs 5 o.fs ++ R))) → Calls Tryd.prog 14 [.pointer (some ⟨b, 0, none⟩), i64 way, fv].toArray w1 (Ret fun v w' => (∃ ev, v = ev ∧ Er w1.heap.size w' c 1 ev) ∧ Ext w1 w')) (href : ∀ (R : List (Option Nat × Obj)) (w1 : World), Hp No w₀ w1 ((ka, sob ET 9 la spa) :: (ko, sob ET 9 lo spo) :: R) → Calls Tryd.prog 46 [.agg #[.slice (ownA ka) la.length ca, .slice (ownA ko) lo.length co], i64 way, .string (strB bs)].toArray w1 (Ret fun v w' => v = .tuple #[.agg #[.slice (ownA ka) la.length ca, .slice (ownA ko) lo.length co], i64 c] ∧ Ext w1 w')) : Calls Tryd.prog 31 [.pointer (some ⟨b, 0, none⟩), .agg #[.slice (ownA ka) la.length ca, .slice (ownA ko) lo.length co], .agg #[i64 ((1 : Int)), i64 (way), i64 (i), i64 (bit), .slice fa bs.length fc]].toArray w (Ret fun v w' => ∃ (a' : Wy) (ka' : Option Nat) (ca' : Nat) (spa' : List Value) (la' : List (List (BitVec 8))), v = .tuple #[.agg #[.slice (ownA ka') la'.length ca', .slice (ownA ko) lo.length co], .bool true] ∧ a'.ok ∧ Sl ET ka' la' ca' spa' ∧ bss a'.fs = la' ∧ la'.length ≤ 64 ∧ (∀ q ∈ la', q.length ≤ 140737488351232) ∧ Hp No w₀ w' ((some b, .cells (nv false a' o) 76 (0, 0)) :: (a'.key, sob ES 30 (svs a'.fs) a'.sp) :: (o.key, sob ES 30 (svs o.fs) o.sp) :: (frs 5 a'.fs ++ (frs 5 o.fs ++ ((ka', sob ET 9 la' spa') :: (ko, sob ET 9 lo spo) :: X))))) := by
  have H := (Hp.fromR [(ka, sob ET 9 la spa), (ko, sob ET 9 lo spo)] (F := frs 5 a.fs) (G := frs 5 o.fs) (X := X) H)
  refine enter (n := 163) Tryd.func31 rfl rfl (Nat.le_of_ble_eq_true rfl) ?_
  refine seqRegion ?_
  refine q_box (v := .agg #[.slice (ownA ka) la.length ca, .slice (ownA ko) lo.length co]) (o := .cells #[.slice (ownA ka) la.length ca, .slice (ownA ko) lo.length co] 42 (0, 0)) H rfl (by rfl) ?_
  intro b1 w2 hb1 H3 hE4
  refine q_box (v := .agg #[i64 ((1 : Int)), i64 (way), i64 (i), i64 (bit), .slice fa bs.length fc]) (o := .cells #[i64 ((1 : Int)), i64 (way), i64 (i), i64 (bit), .slice fa bs.length fc] 69 (0, 0)) H3 rfl (by rfl) ?_
  intro b5 w6 hb5 H7 hE8
  refine q_alloc (o := .cells #[.slice none 0 0, .slice none 0 0] 42 (0, 0)) H7 zer42 (by kernel_rfl) ?_
  intro b9 w10 hb9 H11 hE12
  refine sq (r_assign (v := .bool (false)) rfl) ?_
  refine wend ?_
  refine seqRegion ?_
  refine sq (r_assign (v := .nilIface) rfl) ?_
  refine wend ?_
  refine seqRegion ?_
  refine sq (r_assign (v := i64 ((0 : Int))) rfl) ?_
  refine wend ?_
  refine seqAny ?_
  refine seqRegion ?_
  refine sq (r_fieldAddr (off' := 0) fld69_0 (by decide) (b := b5) (off := 0) rfl (by omega)) ?_
  refine sq (r_loadC (v := i64 ((1 : Int))) one3 (H11.get (k := 1) rfl) (off := 0) rfl (by rfl)) ?_
  refine wend ?_
  refine blockAny ?_
  refine seqRegion ?_
  refine sq ((r_eqlI (a := (1 : Int)) (b := (1 : Int)) rfl rfl).as (v' := .bool (true)) (by rfl)) ?_
  refine sq (r_assign (v := .bool (true)) rfl) ?_
  refine wend ?_
  refine condTrue rfl ?_
  refine seqAny ?_
  refine drawC (m := 9) [0, 0, 2, 0, 0, 16, 56, 127, 255] [3, 6, 7] (fun q vs w' => match q, vs with | 0, [] => Hp No w₀ w' ((some b9, .cells #[.slice none 0 0, .slice none 0 0] 42 (0, 0)) :: (some b5, .cells #[i64 ((1 : Int)), i64 (way), i64 (i), i64 (bit), .slice fa bs.length fc] 69 (0, 0)) :: (some b1, .cells #[.slice (ownA ka) la.length ca, .slice (ownA ko) lo.length co] 42 (0, 0)) :: (ka, sob ET 9 la spa) :: (ko, sob ET 9 lo spo) :: (some b, .cells (nv false a o) 76 (0, 0)) :: (a.key, sob ES 30 (svs a.fs) a.sp) :: (o.key, sob ES 30 (svs o.fs) o.sp) :: (frs 5 a.fs ++ (frs 5 o.fs ++ X))) | 1, [v0] => ∃ (b16 : Nat), v0 = .slice (ownA (some b16)) 0 0 ∧ Sl E8 (some b16) ([]) 0 ([]) ∧ Hp No w₀ w' (((some b16), sob E8 5 ([]) ([])) :: (some b9, .cells #[.slice none 0 0, .slice none 0 0] 42 (0, 0)) :: (some b5, .cells #[i64 ((1 : Int)), i64 (way), i64 (i), i64 (bit), .slice fa bs.length fc] 69 (0, 0)) :: (some b1, .cells #[.slice (ownA ka) la.length ca, .slice (ownA ko) lo.length co] 42 (0, 0)) :: (ka, sob ET 9 la spa) :: (ko, sob ET 9 lo spo) :: (some b, .cells (nv false a o) 76 (0, 0)) :: (a.key, sob ES 30 (svs a.fs) a.sp) :: (o.key, sob ES 30 (svs o.fs) o.sp) :: (frs 5 a.fs ++ (frs 5 o.fs ++ X))) | 2, [v0, v1] => ∃ (b16 : Nat) (key24 : Option Nat) (c25 : Nat) (sp26 : List Value), v0 = .slice (ownA (some b16)) 0 0 ∧ v1 = .slice (ownA key24) (0 + bs.length) c25 ∧ Sl E8 key24 bs c25 sp26 ∧ Hp No w₀ w' ((key24, sob E8 5 bs sp26) :: (some b9, .cells #[.slice none 0 0, .slice none 0 0] 42 (0, 0)) :: (some b5, .cells #[i64 ((1 : Int)), i64 (way), i64 (i), i64 (bit), .slice fa bs.length fc] 69 (0, 0)) :: (some b1, .cells #[.slice (ownA ka) la.length ca, .slice (ownA ko) lo.length co] 42 (0, 0)) :: (ka, sob ET 9 la spa) :: (ko, sob ET 9 lo spo) :: (some b, .cells (nv false a o) 76 (0, 0)) :: (a.key, sob ES 30 (svs a.fs) a.sp) :: (o.key, sob ES 30 (svs o.fs) o.sp) :: (frs 5 a.fs ++ (frs 5 o.fs ++ X))) | 3, [v0, v1, v2] => ∃ (b16 : Nat) (key24 : Option Nat) (c25 : Nat) (sp26 : List Value) (lo46 : Nat) (T44 : TypeId) (x45 : Value), v0 = .slice (ownA (some b16)) 0 0 ∧ v1 = .slice (ownA key24) (0 + bs.length) c25 ∧ v2 = .iface T44 (x45) ∧ Sl E8 key24 bs c25 sp26 ∧ Er lo46 w' c 1 (.iface T44 x45) ∧ b9 < lo46 ∧ b5 < lo46 ∧ b1 < lo46 ∧ Hp No w₀ w' ((key24, sob E8 5 bs sp26) :: (some b9, .cells #[.slice none 0 0, .slice none 0 0] 42 (0, 0)) :: (some b5, .cells #[i64 ((1 : Int)), i64 (way), i64 (i), i64 (bit), .slice fa bs.length fc] 69 (0, 0)) :: (some b1, .cells #[.slice (ownA ka) la.length ca, .slice (ownA ko) lo.length co] 42 (0, 0)) :: (ka, sob ET 9 la spa) :: (ko, sob ET 9 lo spo) :: (some b, .cells (nv false a o) 76 (0, 0)) :: (a.key, sob ES 30 (svs a.fs) a.sp) :: (o.key, sob ES 30 (svs o.fs) o.sp) :: (frs 5 a.fs ++ (frs 5 o.fs ++ X))) | _, _ => False) mixed (by kernel_rfl) (by kernel_rfl) H11.drew ?_
  refine WalkC.look rfl (fun _ => .pointer (some ⟨b, 0, none⟩)) (fun _ _ _ => rfl) (fun q r uw _ _ _ _ => Gives.run rfl (r_move (v := .pointer (some ⟨b, 0, none⟩)) rfl) ⟨rfl, rfl⟩) ?_
  refine WalkC.look rfl (fun _ => .pointer (some ⟨b5, 1, none⟩)) (fun _ _ _ => rfl) (fun q r uw _ _ _ _ => Gives.run rfl (r_fieldAddr (off' := 1) fld69_1 (by decide) (b := b5) (off := 0) rfl (by omega)) ⟨rfl, rfl⟩) ?_
  refine WalkC.look rfl (fun _ => i64 (way)) (fun _ _ _ => rfl) (fun q r uw hlo hhi hle hF => ?_) ?_
  · skip
    have h1 : 0 ≤ q := Nat.zero_le _
    have h2 : q ≤ 2 := hhi 2 7 rfl rfl
    rcases (show q = 0 ∨ q = 1 ∨ q = 2 by omega) with rfl | rfl | rfl
    · skip
      have HH := hF
      exact Gives.run rfl (r_loadC (v := i64 (way)) one3 (HH.get (k := 1) rfl) (off := 1) rfl (by rfl)) ⟨rfl, rfl⟩
    · skip
      obtain ⟨b16, e3, hS17, HH⟩ := hF
      exact Gives.run rfl (r_loadC (v := i64 (way)) one3 (HH.get (k := 2) rfl) (off := 1) rfl (by rfl)) ⟨rfl, rfl⟩
    · skip
      obtain ⟨b16, key24, c25, sp26, e3, e6, hS32, HH⟩ := hF
      exact Gives.run rfl (r_loadC (v := i64 (way)) one3 (HH.get (k := 2) rfl) (off := 1) rfl (by rfl)) ⟨rfl, rfl⟩
  refine WalkC.eff 0 rfl (fun r uw13 hF15 => ?_) ?_
  · skip
    have H14 := hF15
    dsimp only [List.take, List.map, List.cons_append, List.nil_append]
    refine Gives.ofW (d := 44) rfl rfl (fun Q' hK => ?_)
    refine q_buildSlice (E := E8) (l := []) H14 sli30 zer5 (Nat.le_of_ble_eq_true rfl) (ps := []) rfl (by exact fillAll rfl rfl) rfl ?_
    intro b16 w18 hS17 H19 hE20
    exact hK _ _ ⟨b16, rfl, hS17, H19⟩
  refine WalkC.look rfl (fun _ => .pointer (some ⟨b5, 4, none⟩)) (fun _ _ _ => rfl) (fun q r uw _ _ _ _ => Gives.run rfl (r_fieldAddr (off' := 4) fld69_4 (by decide) (b := b5) (off := 0) rfl (by omega)) ⟨rfl, rfl⟩) ?_
  refine WalkC.look rfl (fun _ => .slice fa bs.length fc) (fun _ _ _ => rfl) (fun q r uw hlo hhi hle hF => ?_) ?_
  · skip
    have h1 : 0 ≤ q := Nat.zero_le _
    have h2 : q ≤ 1 := hhi 1 6 rfl rfl
    rcases (show q = 0 ∨ q = 1 by omega) with rfl | rfl
    · skip
      have HH := hF
      exact Gives.run rfl (r_loadC (v := .slice fa bs.length fc) one30 (HH.get (k := 1) rfl) (off := 4) rfl (by rfl)) ⟨rfl, rfl⟩
    · skip
      obtain ⟨b16, e3, hS17, HH⟩ := hF
      exact Gives.run rfl (r_loadC (v := .slice fa bs.length fc) one30 (HH.get (k := 2) rfl) (off := 4) rfl (by rfl)) ⟨rfl, rfl⟩
  refine WalkC.eff 1 rfl (fun r uw21 hF23 => ?_) ?_
  · skip
    obtain ⟨b16, e3, hS17, H22⟩ := hF23
    dsimp only [List.take, List.map, List.cons_append, List.nil_append]
    rw [e3]
    refine Gives.ofW (d := 47) rfl rfl (fun Q' hK => ?_)
    refine q_append (E := E8) (k := 0) (l := []) (l2 := bs) H22 rfl hS17 sli30 zer5 rfl byt5 (hFr.ext H22.chg) rfl (by rfl) rfl (by rfl) (by omega) ?_
    intro key24 c25 sp26 w28 hS27 hne30 H29
    have H29' := H29.as (L' := ((key24, sob E8 5 (([]) ++ bs) sp26) :: (some b9, .cells #[.slice none 0 0, .slice none 0 0] 42 (0, 0)) :: (some b5, .cells #[i64 ((1 : Int)), i64 (way), i64 (i), i64 (bit), .slice fa bs.length fc] 69 (0, 0)) :: (some b1, .cells #[.slice (ownA ka) la.length ca, .slice (ownA ko) lo.length co] 42 (0, 0)) :: (ka, sob ET 9 la spa) :: (ko, sob ET 9 lo spo) :: (some b, .cells (nv false a o) 76 (0, 0)) :: (a.key, sob ES 30 (svs a.fs) a.sp) :: (o.key, sob ES 30 (svs o.fs) o.sp) :: (frs 5 a.fs ++ (frs 5 o.fs ++ X)))) rfl
    clear H29
    have e31 : ([]) ++ bs = bs := by rw [List.nil_append]
    have hS32 := hS27
    rw [e31] at hS32
    have H33 := H29'.as (L' := ((key24, sob E8 5 bs sp26) :: (some b9, .cells #[.slice none 0 0, .slice none 0 0] 42 (0, 0)) :: (some b5, .cells #[i64 ((1 : Int)), i64 (way), i64 (i), i64 (bit), .slice fa bs.length fc] 69 (0, 0)) :: (some b1, .cells #[.slice (ownA ka) la.length ca, .slice (ownA ko) lo.length co] 42 (0, 0)) :: (ka, sob ET 9 la spa) :: (ko, sob ET 9 lo spo) :: (some b, .cells (nv false a o) 76 (0, 0)) :: (a.key, sob ES 30 (svs a.fs) a.sp) :: (o.key, sob ES 30 (svs o.fs) o.sp) :: (frs 5 a.fs ++ (frs 5 o.fs ++ X)))) (by rw [e31])
    exact hK _ _ ⟨b16, key24, c25, sp26, rfl, rfl, hS32, H33⟩
  refine WalkC.eff 2 rfl (fun r uw34 hF36 => ?_) ?_
  · skip
    obtain ⟨b16, key24, c25, sp26, e3, e6, hS32, H35⟩ := hF36
    dsimp only [List.take, List.map, List.cons_append, List.nil_append]
    rw [e3, e6]
    refine Gives.ofW (d := 48) rfl rfl (fun Q' hK => ?_)
    have H37 := Hp.toR [(key24, sob E8 5 bs sp26), (some b9, .cells #[.slice none 0 0, .slice none 0 0] 42 (0, 0)), (some b5, .cells #[i64 ((1 : Int)), i64 (way), i64 (i), i64 (bit), .slice fa bs.length fc] 69 (0, 0)), (some b1, .cells #[.slice (ownA ka) la.length ca, .slice (ownA ko) lo.length co] 42 (0, 0)), (ka, sob ET 9 la spa), (ko, sob ET 9 lo spo)] (F := frs 5 a.fs) (G := frs 5 o.fs) (X := X) H35
    have := H35.lt (List.mem_of_getElem? (i := 1) rfl) rfl
    have := H35.lt (List.mem_of_getElem? (i := 2) rfl) rfl
    have := H35.lt (List.mem_of_getElem? (i := 3) rfl) rfl
    have := H35.lt (List.mem_of_getElem? (i := 6) rfl) rfl
    refine c_call (vs := [.pointer (some ⟨b, 0, none⟩), i64 (way), .slice (ownA key24) (0 + bs.length) c25]) call14 rfl (hnet (.slice (ownA key24) (0 + bs.length) c25) ([(key24, sob E8 5 bs sp26), (some b9, .cells #[.slice none 0 0, .slice none 0 0] 42 (0, 0)), (some b5, .cells #[i64 ((1 : Int)), i64 (way), i64 (i), i64 (bit), .slice fa bs.length fc] 69 (0, 0)), (some b1, .cells #[.slice (ownA ka) la.length ca, .slice (ownA ko) lo.length co] 42 (0, 0)), (ka, sob ET 9 la spa), (ko, sob ET 9 lo spo)] ++ X) uw34 H37) ?_
    rintro _ w38 ⟨⟨v40, rfl, hEr41⟩, hE42⟩
    have H43 := H35.ext hE42
    obtain ⟨T44, x45, rfl⟩ := hEr41.iface
    obtain ⟨lo46, hlo47⟩ : ∃ lo, lo = uw34.heap.size := ⟨_, rfl⟩
    rw [← hlo47] at hEr41
    have hlt48 : b9 < lo46 := by omega
    have hlt49 : b5 < lo46 := by omega
    have hlt50 : b1 < lo46 := by omega
    exact hK _ _ ⟨b16, key24, c25, sp26, lo46, T44, x45, rfl, rfl, rfl, hS32, hEr41, hlt48, hlt49, hlt50, H43⟩
  refine WalkC.look rfl (fun r => r 7) (fun r r' h => h 7 (by decide) rfl) (fun q r uw _ _ _ _ => Gives.run rfl (r_assign rfl) ⟨rfl, rfl⟩) ?_
  refine WalkC.nil ?_
  intro r51 w52 hF54
  obtain ⟨b16, key24, c25, sp26, lo46, T44, x45, e3, e6, e7, hS32, hEr41, hlt48, hlt49, hlt50, H53⟩ := hF54
  dsimp only
  rw [e3, e6, e7]
  refine wnil ?_
  refine thenNormal ?_
  refine oneRegion ?_
  refine sq (r_loadA (cs' := #[.slice (ownA ka) la.length ca, .slice (ownA ko) lo.length co]) agg42 siz42 (H53.get (k := 3) rfl) (off := 0) rfl (by exact Nat.le_of_ble_eq_true rfl) (by rfl)) ?_
  refine sq (r_fieldAddr (off' := 1) fld69_1 (by decide) (b := b5) (off := 0) rfl (by omega)) ?_
  refine sq (r_loadC (v := i64 (way)) one3 (H53.get (k := 2) rfl) (off := 1) rfl (by rfl)) ?_
  refine sq (r_fieldAddr (off' := 4) fld69_4 (by decide) (b := b5) (off := 0) rfl (by omega)) ?_
  refine sq (r_loadC (v := .slice fa bs.length fc) one30 (H53.get (k := 2) rfl) (off := 4) rfl (by rfl)) ?_
  refine sq (r_toStr (l := bs) und30 und5 und9 (hFr.ext H53.chg) rfl (by rfl)) ?_
  refine c_call (vs := [.agg #[.slice (ownA ka) la.length ca, .slice (ownA ko) lo.length co], i64 (way), .string (strB bs)]) call46 rfl (href _ w52 ((((H53.drop1).drop1).drop1).drop1)) ?_
  rintro _ w55 ⟨rfl, hE56⟩
  have H57 := H53.ext hE56
  refine sq (r_move (v := .tuple #[.agg #[.slice (ownA ka) la.length ca, .slice (ownA ko) lo.length co], i64 (c)]) rfl) ?_
  refine sq (r_extract (vs := #[.agg #[.slice (ownA ka) la.length ca, .slice (ownA ko) lo.length co], i64 (c)]) rfl rfl) ?_
  refine sq (r_extract (vs := #[.agg #[.slice (ownA ka) la.length ca, .slice (ownA ko) lo.length co], i64 (c)]) rfl rfl) ?_
  refine d_store (k := 3) (v := .agg #[.slice (ownA ka) la.length ca, .slice (ownA ko) lo.length co]) (cs' := #[.slice (ownA ka) la.length ca, .slice (ownA ko) lo.length co]) H57 rfl rfl rfl siz42 (by rfl) (by intro u hu; simp [Value.cells] at hu; first | (subst hu; rfl) | (rcases hu with rfl | rfl <;> rfl)) (by exact Nat.le_of_ble_eq_true rfl) (by rfl) ?_
  intro w58 H59 hC60
  have H59' := H59.as (L' := ((key24, sob E8 5 bs sp26) :: (some b9, .cells #[.slice none 0 0, .slice none 0 0] 42 (0, 0)) :: (some b5, .cells #[i64 ((1 : Int)), i64 (way), i64 (i), i64 (bit), .slice fa bs.length fc] 69 (0, 0)) :: (some b1, .cells #[.slice (ownA ka) la.length ca, .slice (ownA ko) lo.length co] 42 (0, 0)) :: (ka, sob ET 9 la spa) :: (ko, sob ET 9 lo spo) :: (some b, .cells (nv false a o) 76 (0, 0)) :: (a.key, sob ES 30 (svs a.fs) a.sp) :: (o.key, sob ES 30 (svs o.fs) o.sp) :: (frs 5 a.fs ++ (frs 5 o.fs ++ X)))) rfl
  clear H59
  refine sq (r_assign (v := i64 (c)) rfl) ?_
  refine wnil ?_
  refine blockNormal ?_
  refine thenNormal ?_
  refine seqAny ?_
  have hlA : a.fs.length = (la).length := by have h := congrArg List.length (show bss a.fs = la from hea); rwa [bss_len] at h
  have hlO : o.fs.length = lo.length := by have h := congrArg List.length heo; rwa [bss_len] at h
  refine drawC (m := 32) [0, 0, 2, 0, 14, 30, 62, 126, 62, 318, 1022, 2046, 4094, 8190, 16382, 8190, 40958, 106494, 237566, 524286, 1048574, 2097150, 4194302, 8388606, 4194302, 20971518, 54525950, 121634814, 268435454, 536870910, 16777215, 2147483647] [2, 14, 23, 30] (fun q vs w' => match q, vs with | 0, [] => Ext w58 w' ∧ Hp No w₀ w' ((key24, sob E8 5 bs sp26) :: (some b9, .cells #[.slice none 0 0, .slice none 0 0] 42 (0, 0)) :: (some b5, .cells #[i64 ((1 : Int)), i64 (way), i64 (i), i64 (bit), .slice fa bs.length fc] 69 (0, 0)) :: (some b1, .cells #[.slice (ownA ka) la.length ca, .slice (ownA ko) lo.length co] 42 (0, 0)) :: (ka, sob ET 9 la spa) :: (ko, sob ET 9 lo spo) :: (some b, .cells (nv false a o) 76 (0, 0)) :: (a.key, sob ES 30 (svs a.fs) a.sp) :: (o.key, sob ES 30 (svs o.fs) o.sp) :: (frs 5 a.fs ++ (frs 5 o.fs ++ X))) | 1, [v0] => v0 = i64 (c) ∧ Ext w58 w' ∧ Hp No w₀ w' ((key24, sob E8 5 bs sp26) :: (some b9, .cells #[.slice none 0 0, .slice none 0 0] 42 (0, 0)) :: (some b5, .cells #[i64 ((1 : Int)), i64 (way), i64 (i), i64 (bit), .slice fa bs.length fc] 69 (0, 0)) :: (some b1, .cells #[.slice (ownA ka) la.length ca, .slice (ownA ko) lo.length co] 42 (0, 0)) :: (ka, sob ET 9 la spa) :: (ko, sob ET 9 lo spo) :: (some b, .cells (nv false a o) 76 (0, 0)) :: (a.key, sob ES 30 (svs a.fs) a.sp) :: (o.key, sob ES 30 (svs o.fs) o.sp) :: (frs 5 a.fs ++ (frs 5 o.fs ++ X))) | 2, [v0, v1] => v0 = i64 (c) ∧ v1 = i64 ((a.fs.length : Nat)) ∧ Ext w58 w' ∧ Hp No w₀ w' ((key24, sob E8 5 bs sp26) :: (some b9, .cells #[.slice none 0 0, .slice none 0 0] 42 (0, 0)) :: (some b5, .cells #[i64 ((1 : Int)), i64 (way), i64 (i), i64 (bit), .slice fa bs.length fc] 69 (0, 0)) :: (some b1, .cells #[.slice (ownA ka) la.length ca, .slice (ownA ko) lo.length co] 42 (0, 0)) :: (ka, sob ET 9 la spa) :: (ko, sob ET 9 lo spo) :: (some b, .cells (nv false a o) 76 (0, 0)) :: (a.key, sob ES 30 (svs a.fs) a.sp) :: (o.key, sob ES 30 (svs o.fs) o.sp) :: (frs 5 a.fs ++ (frs 5 o.fs ++ X))) | 3, [v0, v1, v2] => v0 = i64 (c) ∧ v1 = i64 ((a.fs.length : Nat)) ∧ v2 = i64 ((o.fs.length : Nat)) ∧ Ext w58 w' ∧ Hp No w₀ w' ((key24, sob E8 5 bs sp26) :: (some b9, .cells #[.slice none 0 0, .slice none 0 0] 42 (0, 0)) :: (some b5, .cells #[i64 ((1 : Int)), i64 (way), i64 (i), i64 (bit), .slice fa bs.length fc] 69 (0, 0)) :: (some b1, .cells #[.slice (ownA ka) la.length ca, .slice (ownA ko) lo.length co] 42 (0, 0)) :: (ka, sob ET 9 la spa) :: (ko, sob ET 9 lo spo) :: (some b, .cells (nv false a o) 76 (0, 0)) :: (a.key, sob ES 30 (svs a.fs) a.sp) :: (o.key, sob ES 30 (svs o.fs) o.sp) :: (frs 5 a.fs ++ (frs 5 o.fs ++ X))) | 4, [v0, v1, v2, _] => v0 = i64 (c) ∧ v1 = i64 ((a.fs.length : Nat)) ∧ v2 = i64 ((o.fs.length : Nat)) ∧ True ∧ Chg (· = b9) w58 w' ∧ Hp No w₀ w' ((key24, sob E8 5 bs sp26) :: (some b9, .cells #[.slice (ownA ka) la.length ca, .slice (ownA ko) lo.length co] 42 (0, 0)) :: (some b5, .cells #[i64 ((1 : Int)), i64 (way), i64 (i), i64 (bit), .slice fa bs.length fc] 69 (0, 0)) :: (some b1, .cells #[.slice (ownA ka) la.length ca, .slice (ownA ko) lo.length co] 42 (0, 0)) :: (ka, sob ET 9 la spa) :: (ko, sob ET 9 lo spo) :: (some b, .cells (nv false a o) 76 (0, 0)) :: (a.key, sob ES 30 (svs a.fs) a.sp) :: (o.key, sob ES 30 (svs o.fs) o.sp) :: (frs 5 a.fs ++ (frs 5 o.fs ++ X))) | _, _ => False) mixed (by kernel_rfl) (by kernel_rfl) ⟨Ext.drew _, H59'.drew⟩ ?_
  refine WalkC.look rfl (fun _ => .agg #[.slice (ownA ka) la.length ca, .slice (ownA ko) lo.length co]) (fun _ _ _ => rfl) (fun q r uw hlo hhi hle hF => ?_) ?_
  · skip
    have h1 : 0 ≤ q := Nat.zero_le _
    have h2 : q ≤ 3 := hhi 3 30 rfl rfl
    rcases (show q = 0 ∨ q = 1 ∨ q = 2 ∨ q = 3 by omega) with rfl | rfl | rfl | rfl
    · skip
      obtain ⟨hX, HH⟩ := hF
      exact Gives.run rfl (r_loadA (cs' := #[.slice (ownA ka) la.length ca, .slice (ownA ko) lo.length co]) agg42 siz42 (HH.get (k := 3) rfl) (off := 0) rfl (by exact Nat.le_of_ble_eq_true rfl) (by rfl)) ⟨rfl, rfl⟩
    · skip
      obtain ⟨e2, hX, HH⟩ := hF
      exact Gives.run rfl (r_loadA (cs' := #[.slice (ownA ka) la.length ca, .slice (ownA ko) lo.length co]) agg42 siz42 (HH.get (k := 3) rfl) (off := 0) rfl (by exact Nat.le_of_ble_eq_true rfl) (by rfl)) ⟨rfl, rfl⟩
    · skip
      obtain ⟨e2, e14, hX, HH⟩ := hF
      exact Gives.run rfl (r_loadA (cs' := #[.slice (ownA ka) la.length ca, .slice (ownA ko) lo.length co]) agg42 siz42 (HH.get (k := 3) rfl) (off := 0) rfl (by exact Nat.le_of_ble_eq_true rfl) (by rfl)) ⟨rfl, rfl⟩
    · skip
      obtain ⟨e2, e14, e23, hX, HH⟩ := hF
      exact Gives.run rfl (r_loadA (cs' := #[.slice (ownA ka) la.length ca, .slice (ownA ko) lo.length co]) agg42 siz42 (HH.get (k := 3) rfl) (off := 0) rfl (by exact Nat.le_of_ble_eq_true rfl) (by rfl)) ⟨rfl, rfl⟩
  refine WalkC.look rfl (fun _ => .iface T44 (x45)) (fun _ _ _ => rfl) (fun q r uw _ _ _ _ => Gives.run rfl (r_move (v := .iface T44 (x45)) rfl) ⟨rfl, rfl⟩) ?_
  refine WalkC.eff 0 rfl (fun r uw61 hF63 => ?_) ?_
  · skip
    obtain ⟨hX, H62⟩ := hF63
    dsimp only [List.take, List.map, List.cons_append, List.nil_append]
    refine Gives.ofW (d := 135) rfl rfl (fun Q' hK => ?_)
    refine c_call (vs := [.iface T44 (x45)]) call49 rfl (code_ok c 1 lo46 (.iface T44 (x45)) uw61 (Chg.gl H62.chg (fun x => x) hG) ((Er.chgs (((Ext.chg (M := fun x => x = b1) hE56).trans (hC60.mono (M' := fun x => x = b1) (fun _ h => by subst h; simp))).trans (Ext.chg (M := fun x => x = b1) hX)) (fun x h1 h2 h3 => by have := hE56.size; have := hC60.size; have := hX.size; rcases h3 with rfl <;> omega) hEr41))) ?_
    rintro _ w64 ⟨rfl, hE65⟩
    have H66 := H62.ext hE65
    exact hK _ _ ⟨rfl, (hX.trans hE65), H66⟩
  refine WalkC.look rfl (fun _ => i64 (c)) (fun _ _ _ => rfl) (fun q r uw _ _ _ _ => Gives.run rfl (r_move (v := i64 (c)) rfl) ⟨rfl, rfl⟩) ?_
  refine WalkC.look rfl (fun _ => .bool (true)) (fun _ _ _ => rfl) (fun q r uw hlo hhi hle hF => ?_) ?_
  · skip
    have h1 : 1 ≤ q := hlo 0 2 rfl rfl
    have h2 : q ≤ 1 := hhi 1 14 rfl rfl
    rcases (show q = 1 by omega) with rfl
    · skip
      obtain ⟨e2, hX, HH⟩ := hF
      dsimp only
      rw [e2]
      exact Gives.run rfl ((r_eqlI (a := c) (b := c) rfl rfl).as (v' := .bool (true)) (by simp)) ⟨rfl, rfl⟩
  refine WalkC.look rfl (fun _ => .bool (true)) (fun _ _ _ => rfl) (fun q r uw _ _ _ _ => Gives.run rfl (r_move (v := .bool (true)) rfl) ⟨rfl, rfl⟩) ?_
  refine WalkC.look rfl (fun _ => .iface T44 (x45)) (fun _ _ _ => rfl) (fun q r uw _ _ _ _ => Gives.runW (wantedSome (d' := 138) (b := true) rfl rfl rfl) (r_move (v := .iface T44 (x45)) rfl) ⟨rfl, rfl⟩) ?_
  refine WalkC.look rfl (fun _ => .bool (false)) (fun _ _ _ => rfl) (fun q r uw _ _ _ _ => Gives.runW (wantedSome (d' := 138) (b := true) rfl rfl rfl) (r_eqlIN isI28 rfl rfl) ⟨rfl, rfl⟩) ?_
  refine WalkC.look rfl (fun _ => i64 (c)) (fun _ _ _ => rfl) (fun q r uw _ _ _ _ => Gives.runW (wantedSome (d' := 138) (b := true) rfl rfl rfl) (r_move (v := i64 (c)) rfl) ⟨rfl, rfl⟩) ?_
  refine WalkC.look rfl (fun _ => .bool (false)) (fun _ _ _ => rfl) (fun q r uw _ _ _ _ => Gives.runW (wantedSome (d' := 138) (b := true) rfl rfl rfl) ((r_eqlI (a := c) (b := (0 : Int)) rfl rfl).as (v' := .bool (false)) (by simp [hc])) ⟨rfl, rfl⟩) ?_
  refine WalkC.look rfl (fun _ => .bool (true)) (fun _ _ _ => rfl) (fun q r uw _ _ _ _ => Gives.runW (wantedSome (d' := 138) (b := true) rfl rfl rfl) ((r_eqlB und4 (a := false) (b := false) rfl rfl).as (v' := .bool (true)) (by rfl)) ⟨rfl, rfl⟩) ?_
  refine WalkC.look rfl (fun _ => .bool (true)) (fun _ _ _ => rfl) (fun q r uw _ _ _ _ => Gives.run rfl (r_pickT (u := .bool (true)) rfl rfl) ⟨rfl, rfl⟩) ?_
  refine WalkC.look rfl (fun _ => .bool (true)) (fun _ _ _ => rfl) (fun q r uw _ _ _ _ => Gives.run rfl (r_move (v := .bool (true)) rfl) ⟨rfl, rfl⟩) ?_
  refine WalkC.look rfl (fun _ => .pointer (some ⟨b, 0, none⟩)) (fun _ _ _ => rfl) (fun q r uw _ _ _ _ => Gives.runW (wantedSome (d' := 145) (b := true) rfl rfl rfl) (r_move (v := .pointer (some ⟨b, 0, none⟩)) rfl) ⟨rfl, rfl⟩) ?_
  refine WalkC.eff 1 rfl (fun r uw67 hF69 => ?_) ?_
  · skip
    obtain ⟨e2, hX, H68⟩ := hF69
    dsimp only [List.take, List.map, List.cons_append, List.nil_append]
    rw [e2]
    refine Gives.ofW (d := 147) rfl rfl (fun Q' hK => ?_)
    refine caAny (wantedSome (d' := 145) (b := true) rfl rfl rfl) (Enters.callL (vs := [.pointer (some ⟨b, 0, none⟩), i64 ((0 : Int))]) call15 rfl) (len_0 b a o uw67 (H68.get (k := 6) rfl)) ?_
    rintro _ w70 ⟨rfl, hE71⟩
    have H72 := H68.ext hE71
    exact hK _ _ ⟨rfl, rfl, (hX.trans hE71), H72⟩
  refine WalkC.look rfl (fun _ => .pointer (some ⟨b1, 0, none⟩)) (fun _ _ _ => rfl) (fun q r uw _ _ _ _ => Gives.runW (wantedSome (d' := 145) (b := true) rfl rfl rfl) (r_fieldAddr (off' := 0) fld42_0 (by decide) (b := b1) (off := 0) rfl (by omega)) ⟨rfl, rfl⟩) ?_
  refine WalkC.look rfl (fun _ => .pointer (some ⟨b1, 0, none⟩)) (fun _ _ _ => rfl) (fun q r uw _ _ _ _ => Gives.runW (wantedSome (d' := 145) (b := true) rfl rfl rfl) (r_indexA (off' := 0) (j := 0) arr40 (b := b1) (off := 0) rfl rfl (by first | rfl | omega | (simp; omega)) (by omega) (by omega)) ⟨rfl, rfl⟩) ?_
  refine WalkC.look rfl (fun _ => .slice (ownA ka) la.length ca) (fun _ _ _ => rfl) (fun q r uw hlo hhi hle hF => ?_) ?_
  · skip
    have h1 : 1 ≤ q := hlo 0 2 rfl rfl
    have h2 : q ≤ 2 := hhi 2 23 rfl rfl
    rcases (show q = 1 ∨ q = 2 by omega) with rfl | rfl
    · skip
      obtain ⟨e2, hX, HH⟩ := hF
      exact Gives.runW (wantedSome (d' := 145) (b := true) rfl rfl rfl) (r_loadC (v := .slice (ownA ka) la.length ca) one39 (HH.get (k := 3) rfl) (off := 0) rfl (by rfl)) ⟨rfl, rfl⟩
    · skip
      obtain ⟨e2, e14, hX, HH⟩ := hF
      exact Gives.runW (wantedSome (d' := 145) (b := true) rfl rfl rfl) (r_loadC (v := .slice (ownA ka) la.length ca) one39 (HH.get (k := 3) rfl) (off := 0) rfl (by rfl)) ⟨rfl, rfl⟩
  refine WalkC.look rfl (fun _ => i64 ((la.length : Nat))) (fun _ _ _ => rfl) (fun q r uw _ _ _ _ => Gives.runW (wantedSome (d' := 145) (b := true) rfl rfl rfl) (r_lenS sli39 (a := ownA ka) (m := la.length) (c := ca) rfl) ⟨rfl, rfl⟩) ?_
  refine WalkC.look rfl (fun _ => .bool (true)) (fun _ _ _ => rfl) (fun q r uw hlo hhi hle hF => ?_) ?_
  · skip
    have h1 : 2 ≤ q := hlo 1 14 rfl rfl
    have h2 : q ≤ 2 := hhi 2 23 rfl rfl
    rcases (show q = 2 by omega) with rfl
    · skip
      obtain ⟨e2, e14, hX, HH⟩ := hF
      dsimp only
      rw [e14]
      exact Gives.runW (wantedSome (d' := 145) (b := true) rfl rfl rfl) ((r_eqlI (a := (a.fs.length : Nat)) (b := (la.length : Nat)) rfl rfl).as (v' := .bool (true)) (by exact congrArg Value.bool (decide_eq_true (by first | exact congrArg (fun q : Nat => (q : Int)) hlA | exact congrArg (fun q : Nat => (q : Int)) hlO)))) ⟨rfl, rfl⟩
  refine WalkC.look rfl (fun _ => .bool (true)) (fun _ _ _ => rfl) (fun q r uw _ _ _ _ => Gives.run rfl (r_pickT (u := .bool (true)) rfl rfl) ⟨rfl, rfl⟩) ?_
  refine WalkC.look rfl (fun _ => .bool (true)) (fun _ _ _ => rfl) (fun q r uw _ _ _ _ => Gives.run rfl (r_move (v := .bool (true)) rfl) ⟨rfl, rfl⟩) ?_
  refine WalkC.look rfl (fun _ => .pointer (some ⟨b, 0, none⟩)) (fun _ _ _ => rfl) (fun q r uw _ _ _ _ => Gives.runW (wantedSome (d' := 154) (b := true) rfl rfl rfl) (r_move (v := .pointer (some ⟨b, 0, none⟩)) rfl) ⟨rfl, rfl⟩) ?_
  refine WalkC.eff 2 rfl (fun r uw73 hF75 => ?_) ?_
  · skip
    obtain ⟨e2, e14, hX, H74⟩ := hF75
    dsimp only [List.take, List.map, List.cons_append, List.nil_append]
    rw [e2, e14]
    refine Gives.ofW (d := 156) rfl rfl (fun Q' hK => ?_)
    refine caAny (wantedSome (d' := 154) (b := true) rfl rfl rfl) (Enters.callL (vs := [.pointer (some ⟨b, 0, none⟩), i64 ((1 : Int))]) call15 rfl) (len_1 b o a uw73 (H74.get (k := 6) rfl)) ?_
    rintro _ w76 ⟨rfl, hE77⟩
    have H78 := H74.ext hE77
    exact hK _ _ ⟨rfl, rfl, rfl, (hX.trans hE77), H78⟩
  refine WalkC.look rfl (fun _ => .pointer (some ⟨b1, 0, none⟩)) (fun _ _ _ => rfl) (fun q r uw _ _ _ _ => Gives.runW (wantedSome (d' := 154) (b := true) rfl rfl rfl) (r_fieldAddr (off' := 0) fld42_0 (by decide) (b := b1) (off := 0) rfl (by omega)) ⟨rfl, rfl⟩) ?_
  refine WalkC.look rfl (fun _ => .pointer (some ⟨b1, 1, none⟩)) (fun _ _ _ => rfl) (fun q r uw _ _ _ _ => Gives.runW (wantedSome (d' := 154) (b := true) rfl rfl rfl) (r_indexA (off' := 1) (j := 1) arr40 (b := b1) (off := 0) rfl rfl (by first | rfl | omega | (simp; omega)) (by omega) (by omega)) ⟨rfl, rfl⟩) ?_
  refine WalkC.look rfl (fun _ => .slice (ownA ko) lo.length co) (fun _ _ _ => rfl) (fun q r uw hlo hhi hle hF => ?_) ?_
  · skip
    have h1 : 2 ≤ q := hlo 1 14 rfl rfl
    have h2 : q ≤ 4 := hle
    rcases (show q = 2 ∨ q = 3 ∨ q = 4 by omega) with rfl | rfl | rfl
    · skip
      obtain ⟨e2, e14, hX, HH⟩ := hF
      exact Gives.runW (wantedSome (d' := 154) (b := true) rfl rfl rfl) (r_loadC (v := .slice (ownA ko) lo.length co) one39 (HH.get (k := 3) rfl) (off := 1) rfl (by rfl)) ⟨rfl, rfl⟩
    · skip
      obtain ⟨e2, e14, e23, hX, HH⟩ := hF
      exact Gives.runW (wantedSome (d' := 154) (b := true) rfl rfl rfl) (r_loadC (v := .slice (ownA ko) lo.length co) one39 (HH.get (k := 3) rfl) (off := 1) rfl (by rfl)) ⟨rfl, rfl⟩
    · skip
      obtain ⟨e2, e14, e23, e30, hX, HH⟩ := hF
      exact Gives.runW (wantedSome (d' := 154) (b := true) rfl rfl rfl) (r_loadC (v := .slice (ownA ko) lo.length co) one39 (HH.get (k := 3) rfl) (off := 1) rfl (by rfl)) ⟨rfl, rfl⟩
  refine WalkC.look rfl (fun _ => i64 ((lo.length : Nat))) (fun _ _ _ => rfl) (fun q r uw _ _ _ _ => Gives.runW (wantedSome (d' := 154) (b := true) rfl rfl rfl) (r_lenS sli39 (a := ownA ko) (m := lo.length) (c := co) rfl) ⟨rfl, rfl⟩) ?_
  refine WalkC.look rfl (fun _ => .bool (true)) (fun _ _ _ => rfl) (fun q r uw hlo hhi hle hF => ?_) ?_
  · skip
    have h1 : 3 ≤ q := hlo 2 23 rfl rfl
    have h2 : q ≤ 4 := hle
    rcases (show q = 3 ∨ q = 4 by omega) with rfl | rfl
    · skip
      obtain ⟨e2, e14, e23, hX, HH⟩ := hF
      dsimp only
      rw [e23]
      exact Gives.runW (wantedSome (d' := 154) (b := true) rfl rfl rfl) ((r_eqlI (a := (o.fs.length : Nat)) (b := (lo.length : Nat)) rfl rfl).as (v' := .bool (true)) (by exact congrArg Value.bool (decide_eq_true (by first | exact congrArg (fun q : Nat => (q : Int)) hlA | exact congrArg (fun q : Nat => (q : Int)) hlO)))) ⟨rfl, rfl⟩
    · skip
      obtain ⟨e2, e14, e23, e30, hX, HH⟩ := hF
      dsimp only
      rw [e23]
      exact Gives.runW (wantedSome (d' := 154) (b := true) rfl rfl rfl) ((r_eqlI (a := (o.fs.length : Nat)) (b := (lo.length : Nat)) rfl rfl).as (v' := .bool (true)) (by exact congrArg Value.bool (decide_eq_true (by first | exact congrArg (fun q : Nat => (q : Int)) hlA | exact congrArg (fun q : Nat => (q : Int)) hlO)))) ⟨rfl, rfl⟩
  refine WalkC.look rfl (fun _ => .bool (true)) (fun _ _ _ => rfl) (fun q r uw _ _ _ _ => Gives.run rfl (r_pickT (u := .bool (true)) rfl rfl) ⟨rfl, rfl⟩) ?_
  refine WalkC.eff 3 rfl (fun r uw79 hF81 => ?_) ?_
  · skip
    obtain ⟨e2, e14, e23, hX, H80⟩ := hF81
    dsimp only [List.take, List.map, List.cons_append, List.nil_append]
    rw [e2, e14, e23]
    refine Gives.ofW0 rfl (fun Q' hK => ?_)
    refine d_store (k := 1) (v := .agg #[.slice (ownA ka) la.length ca, .slice (ownA ko) lo.length co]) (cs' := #[.slice (ownA ka) la.length ca, .slice (ownA ko) lo.length co]) H80 rfl rfl rfl siz42 (by rfl) (by intro u hu; simp [Value.cells] at hu; first | (subst hu; rfl) | (rcases hu with rfl | rfl <;> rfl)) (by exact Nat.le_of_ble_eq_true rfl) (by rfl) ?_
    intro w82 H83 hC84
    have H83' := H83.as (L' := ((key24, sob E8 5 bs sp26) :: (some b9, .cells #[.slice (ownA ka) la.length ca, .slice (ownA ko) lo.length co] 42 (0, 0)) :: (some b5, .cells #[i64 ((1 : Int)), i64 (way), i64 (i), i64 (bit), .slice fa bs.length fc] 69 (0, 0)) :: (some b1, .cells #[.slice (ownA ka) la.length ca, .slice (ownA ko) lo.length co] 42 (0, 0)) :: (ka, sob ET 9 la spa) :: (ko, sob ET 9 lo spo) :: (some b, .cells (nv false a o) 76 (0, 0)) :: (a.key, sob ES 30 (svs a.fs) a.sp) :: (o.key, sob ES 30 (svs o.fs) o.sp) :: (frs 5 a.fs ++ (frs 5 o.fs ++ X)))) rfl
    clear H83
    exact hK _ (fun _ => ⟨rfl, rfl, rfl, trivial, ((Ext.chg hX).trans hC84), H83'⟩)
  refine WalkC.look rfl (fun _ => .bool (true)) (fun _ _ _ => rfl) (fun q r uw _ _ _ _ => Gives.run rfl (r_assign (v := .bool (true)) rfl) ⟨rfl, rfl⟩) ?_
  refine WalkC.nil ?_
  intro r85 w86 hF88
  obtain ⟨e2, e14, e23, e30, hX, H87⟩ := hF88
  dsimp only
  rw [e2, e14, e23]
  refine wnil ?_
  refine thenNormal ?_
  refine retAny ?_
  refine retG (rs := [.cell 6 42, .tmp 7]) (vs := [.agg #[.slice (ownA ka) la.length ca, .slice (ownA ko) lo.length co], .bool (true)]) rfl ⟨r_loadA (cs' := #[.slice (ownA ka) la.length ca, .slice (ownA ko) lo.length co]) agg42 siz42 (H87.get (k := 1) rfl) (off := 0) rfl (by exact Nat.le_of_ble_eq_true rfl) (by rfl), ⟨rfl, rfl⟩, trivial⟩ ?_
  have H89 := ((((H87.dropk 3).dropk 2).dropk 1).dropk 0)
  have H90 := Hp.toR [(ka, sob ET 9 la spa), (ko, sob ET 9 lo spo)] (F := frs 5 a.fs) (G := frs 5 o.fs) (X := X) H89
  exact ⟨_, rfl, a, ka, ca, spa, la, rfl, ha, hSa, hea, hla, by intro q hq; exact hza q hq, H90⟩

theorem play_delerr_x (b : Nat) (a o : Wy) (ha : a.ok) (ho : o.ok) (ka ko : Option Nat) (ca co : Nat) (spa spo : List Value) (la lo : List (List (BitVec 8))) (hSa : Sl ET ka la ca spa) (hSo : Sl ET ko lo co spo) (hea : bss a.fs = la) (heo : bss o.fs = lo) (hla : la.length ≤ 64) (hza : ∀ q ∈ la, q.length ≤ 140737488351232) (X : List (Option Nat × Obj)) (fa : Option Addr) (fc : Nat) (bs : List (BitVec 8)) (hbl : bs.length ≤ 140737488351232) (way i bit : Int) (c : Int) (hc : c ≠ 0) (w₀ w : World) (hG : Gl w₀) (hFr : Rd E8 w₀ fa bs) (H : Hp No w₀ w ((some b, .cells (nv false a o) 76 (0, 0)) :: (a.key, sob ES 30 (svs a.fs) a.sp) :: (o.key, sob ES 30 (svs o.fs) o.sp) :: (frs 5 a.fs ++ (frs 5 o.fs ++ ((ka, sob ET 9 la spa) :: (ko, sob ET 9 lo spo) :: X))))) (hnet : ∀ (fv : Value) (R : List (Option Nat × Obj)) (w1 : World), Hp No w₀ w1 ((some b, .cells (nv false a o) 76 (0, 0)) :: (a.key, sob ES 30 (svs a.fs) a.sp) :: (o.key, sob ES 30 (svs o.fs) o.sp) :: (frs 5 a.fs ++ (frs 5 o.fs ++ R))) → Calls Tryd.prog 17 [.pointer (some ⟨b, 0, none⟩), i64 way, i64 i].toArray w1 (Ret fun v w' => (∃ ev, v = .tuple #[.slice none 0 0, ev] ∧ Er w1.heap.size w' c 1 ev) ∧ Ext w1 w')) (href : ∀ (R : List (Option Nat × Obj)) (w1 : World), Hp No w₀ w1 ((ka, sob ET 9 la spa) :: (ko, sob ET 9 lo spo) :: R) → Calls Tryd.prog 47 [.agg #[.slice (ownA ka) la.length ca, .slice (ownA ko) lo.length co], i64 way, i64 i].toArray w1 (Ret fun v w' => v = .tuple #[.agg #[.slice (ownA ka) la.length ca, .slice (ownA ko) lo.length co], .string (strB []), i64 c] ∧ Ext w1 w')) : Calls Tryd.prog 31 [.pointer (some ⟨b, 0, none⟩), .agg #[.slice (ownA ka) la.length ca, .slice (ownA ko) lo.length co], .agg #[i64 ((2 : Int)), i64 (way), i64 (i), i64 (bit), .slice fa bs.length fc]].toArray w (Ret fun v w' => ∃ (a' : Wy) (ka' : Option Nat) (ca' : Nat) (spa' : List Value) (la' : List (List (BitVec 8))), v = .tuple #[.agg #[.slice (ownA ka') la'.length ca', .slice (ownA ko) lo.length co], .bool true] ∧ a'.ok ∧ Sl ET ka' la' ca' spa' ∧ bss a'.fs = la' ∧ la'.length ≤ 64 ∧ (∀ q ∈ la', q.length ≤ 140737488351232) ∧ Hp No w₀ w' ((some b, .cells (nv false a' o) 76 (0, 0)) :: (a'.key, sob ES 30 (svs a'.fs) a'.sp) :: (o.key, sob ES 30 (svs o.fs) o.sp) :: (frs 5 a'.fs ++ (frs 5 o.fs ++ ((ka', sob ET 9 la' spa') :: (ko, sob ET 9 lo spo) :: X))))) := by
  have H := (Hp.fromR [(ka, sob ET 9 la spa), (ko, sob ET 9 lo spo)] (F := frs 5 a.fs) (G := frs 5 o.fs) (X := X) H)
  refine enter (n := 163) Tryd.func31 rfl rfl (Nat.le_of_ble_eq_true rfl) ?_
  refine seqRegion ?_
  refine q_box (v := .agg #[.slice (ownA ka) la.length ca, .slice (ownA ko) lo.length co]) (o := .cells #[.slice (ownA ka) la.length ca, .slice (ownA ko) lo.length co] 42 (0, 0)) H rfl (by rfl) ?_
  intro b1 w2 hb1 H3 hE4
  refine q_box (v := .agg #[i64 ((2 : Int)), i64 (way), i64 (i), i64 (bit), .slice fa bs.length fc]) (o := .cells #[i64 ((2 : Int)), i64 (way), i64 (i), i64 (bit), .slice fa bs.length fc] 69 (0, 0)) H3 rfl (by rfl) ?_
  intro b5 w6 hb5 H7 hE8
  refine q_alloc (o := .cells #[.slice none 0 0, .slice none 0 0] 42 (0, 0)) H7 zer42 (by kernel_rfl) ?_
  intro b9 w10 hb9 H11 hE12
  refine sq (r_assign (v := .bool (false)) rfl) ?_
  refine wend ?_
  refine seqRegion ?_
  refine sq (r_assign (v := .nilIface) rfl) ?_
  refine wend ?_
  refine seqRegion ?_
  refine sq (r_assign (v := i64 ((0 : Int))) rfl) ?_
  refine wend ?_
  refine seqAny ?_
  refine seqRegion ?_
  refine sq (r_fieldAddr (off' := 0) fld69_0 (by decide) (b := b5) (off := 0) rfl (by omega)) ?_
  refine sq (r_loadC (v := i64 ((2 : Int))) one3 (H11.get (k := 1) rfl) (off := 0) rfl (by rfl)) ?_
  refine wend ?_
  refine blockAny ?_
  refine seqRegion ?_
  refine sq ((r_eqlI (a := (2 : Int)) (b := (1 : Int)) rfl rfl).as (v' := .bool (false)) (by rfl)) ?_
  refine sq (r_assign (v := .bool (false)) rfl) ?_
  refine wend ?_
  refine condFalse rfl ?_
  refine seqAny ?_
  refine seqRegion ?_
  refine sq ((r_eqlI (a := (2 : Int)) (b := (2 : Int)) rfl rfl).as (v' := .bool (true)) (by rfl)) ?_
  refine sq (r_assign (v := .bool (true)) rfl) ?_
  refine wend ?_
  refine condTrue rfl ?_
  refine skipAny ?_
  refine thenNormal ?_
  refine condTrue rfl ?_
  refine seqRegion ?_
  refine sq (r_assign (v := .string ({data := #[]})) rfl) ?_
  refine wend ?_
  refine seqRegion ?_
  refine sq (r_loadA (cs' := #[.slice (ownA ka) la.length ca, .slice (ownA ko) lo.length co]) agg42 siz42 (H11.get (k := 2) rfl) (off := 0) rfl (by exact Nat.le_of_ble_eq_true rfl) (by rfl)) ?_
  refine sq (r_fieldAddr (off' := 1) fld69_1 (by decide) (b := b5) (off := 0) rfl (by omega)) ?_
  refine sq (r_loadC (v := i64 (way)) one3 (H11.get (k := 1) rfl) (off := 1) rfl (by rfl)) ?_
  refine sq (r_fieldAddr (off' := 2) fld69_2 (by decide) (b := b5) (off := 0) rfl (by omega)) ?_
  refine sq (r_loadC (v := i64 (i)) one3 (H11.get (k := 1) rfl) (off := 2) rfl (by rfl)) ?_
  refine c_call (vs := [.agg #[.slice (ownA ka) la.length ca, .slice (ownA ko) lo.length co], i64 (way), i64 (i)]) call47 rfl (href _ w10 (((H11.drop1).drop1).drop1)) ?_
  rintro _ w13 ⟨rfl, hE14⟩
  have H15 := H11.ext hE14
  refine sq (r_move (v := .tuple #[.agg #[.slice (ownA ka) la.length ca, .slice (ownA ko) lo.length co], .string (strB []), i64 (c)]) rfl) ?_
  refine sq (r_extract (vs := #[.agg #[.slice (ownA ka) la.length ca, .slice (ownA ko) lo.length co], .string (strB []), i64 (c)]) rfl rfl) ?_
  refine sq (r_extract (vs := #[.agg #[.slice (ownA ka) la.length ca, .slice (ownA ko) lo.length co], .string (strB []), i64 (c)]) rfl rfl) ?_
  refine sq (r_extract (vs := #[.agg #[.slice (ownA ka) la.length ca, .slice (ownA ko) lo.length co], .string (strB []), i64 (c)]) rfl rfl) ?_
  refine d_store (k := 2) (v := .agg #[.slice (ownA ka) la.length ca, .slice (ownA ko) lo.length co]) (cs' := #[.slice (ownA ka) la.length ca, .slice (ownA ko) lo.length co]) H15 rfl rfl rfl siz42 (by rfl) (by intro u hu; simp [Value.cells] at hu; first | (subst hu; rfl) | (rcases hu with rfl | rfl <;> rfl)) (by exact Nat.le_of_ble_eq_true rfl) (by rfl) ?_
  intro w16 H17 hC18
  have H17' := H17.as (L' := ((some b9, .cells #[.slice none 0 0, .slice none 0 0] 42 (0, 0)) :: (some b5, .cells #[i64 ((2 : Int)), i64 (way), i64 (i), i64 (bit), .slice fa bs.length fc] 69 (0, 0)) :: (some b1, .cells #[.slice (ownA ka) la.length ca, .slice (ownA ko) lo.length co] 42 (0, 0)) :: (ka, sob ET 9 la spa) :: (ko, sob ET 9 lo spo) :: (some b, .cells (nv false a o) 76 (0, 0)) :: (a.key, sob ES 30 (svs a.fs) a.sp) :: (o.key, sob ES 30 (svs o.fs) o.sp) :: (frs 5 a.fs ++ (frs 5 o.fs ++ X)))) rfl
  clear H17
  refine sq (r_assign (v := .string (strB [])) rfl) ?_
  refine sq (r_assign (v := i64 (c)) rfl) ?_
  refine wend ?_
  refine seqAny ?_
  refine seqRegion ?_
  refine sq (r_fieldAddr (off' := 0) fld69_0 (by decide) (b := b5) (off := 0) rfl (by omega)) ?_
  refine sq (r_loadC (v := i64 ((2 : Int))) one3 (H17'.get (k := 1) rfl) (off := 0) rfl (by rfl)) ?_
  refine sq ((r_eqlI (a := (2 : Int)) (b := (3 : Int)) rfl rfl).as (v' := .bool (false)) (by rfl)) ?_
  refine wend ?_
  refine condFalse rfl ?_
  refine skipAny ?_
  refine thenNormal ?_
  refine seqRegion ?_
  refine sq (r_assign (v := .slice none 0 0) rfl) ?_
  refine wend ?_
  refine seqRegion ?_
  refine sq (r_move (v := .pointer (some ⟨b, 0, none⟩)) rfl) ?_
  refine sq (r_fieldAddr (off' := 1) fld69_1 (by decide) (b := b5) (off := 0) rfl (by omega)) ?_
  refine sq (r_loadC (v := i64 (way)) one3 (H17'.get (k := 1) rfl) (off := 1) rfl (by rfl)) ?_
  refine sq (r_fieldAddr (off' := 2) fld69_2 (by decide) (b := b5) (off := 0) rfl (by omega)) ?_
  refine sq (r_loadC (v := i64 (i)) one3 (H17'.get (k := 1) rfl) (off := 2) rfl (by rfl)) ?_
  have H19 := Hp.toR [(some b9, .cells #[.slice none 0 0, .slice none 0 0] 42 (0, 0)), (some b5, .cells #[i64 ((2 : Int)), i64 (way), i64 (i), i64 (bit), .slice fa bs.length fc] 69 (0, 0)), (some b1, .cells #[.slice (ownA ka) la.length ca, .slice (ownA ko) lo.length co] 42 (0, 0)), (ka, sob ET 9 la spa), (ko, sob ET 9 lo spo)] (F := frs 5 a.fs) (G := frs 5 o.fs) (X := X) H17'
  have := H17'.lt (List.mem_of_getElem? (i := 0) rfl) rfl
  have := H17'.lt (List.mem_of_getElem? (i := 1) rfl) rfl
  have := H17'.lt (List.mem_of_getElem? (i := 2) rfl) rfl
  have := H17'.lt (List.mem_of_getElem? (i := 5) rfl) rfl
  refine c_call (vs := [.pointer (some ⟨b, 0, none⟩), i64 (way), i64 (i)]) call17 rfl (hnet (.nilIface) ([(some b9, .cells #[.slice none 0 0, .slice none 0 0] 42 (0, 0)), (some b5, .cells #[i64 ((2 : Int)), i64 (way), i64 (i), i64 (bit), .slice fa bs.length fc] 69 (0, 0)), (some b1, .cells #[.slice (ownA ka) la.length ca, .slice (ownA ko) lo.length co] 42 (0, 0)), (ka, sob ET 9 la spa), (ko, sob ET 9 lo spo)] ++ X) w16 H19) ?_
  rintro _ w20 ⟨⟨v22, rfl, hEr23⟩, hE24⟩
  have H25 := H17'.ext hE24
  obtain ⟨T26, x27, rfl⟩ := hEr23.iface
  refine sq (r_move (v := .tuple #[.slice none 0 0, .iface T26 (x27)]) rfl) ?_
  refine sq (r_extract (vs := #[.slice none 0 0, .iface T26 (x27)]) rfl rfl) ?_
  refine sq (r_extract (vs := #[.slice none 0 0, .iface T26 (x27)]) rfl rfl) ?_
  refine sq (r_assign (v := .slice none 0 0) rfl) ?_
  refine sq (r_assign (v := .iface T26 (x27)) rfl) ?_
  refine wend ?_
  refine seqRegion ?_
  refine sq (r_move (v := .slice none 0 0) rfl) ?_
  refine sq (r_toStr (l := []) und30 und5 und9 Rd.nil rfl (by first | rfl | omega | (simp; omega) | (simp at *; omega))) ?_
  refine sq (r_move (v := .string (strB [])) rfl) ?_
  refine sq ((r_neqStr (s := strB ([])) (s' := strB []) rfl rfl).as (v' := .bool (false)) (by simp)) ?_
  refine wend ?_
  refine condFalse rfl ?_
  refine skipAny ?_
  refine blockNormal ?_
  refine thenNormal ?_
  refine seqAny ?_
  have hlA : a.fs.length = (la).length := by have h := congrArg List.length (show bss a.fs = la from hea); rwa [bss_len] at h
  have hlO : o.fs.length = lo.length := by have h := congrArg List.length heo; rwa [bss_len] at h
  refine drawC (m := 32) [0, 0, 2, 0, 14, 30, 62, 126, 62, 318, 1022, 2046, 4094, 8190, 16382, 8190, 40958, 106494, 237566, 524286, 1048574, 2097150, 4194302, 8388606, 4194302, 20971518, 54525950, 121634814, 268435454, 536870910, 16777215, 2147483647] [2, 14, 23, 30] (fun q vs w' => match q, vs with | 0, [] => Ext w20 w' ∧ Hp No w₀ w' ((some b9, .cells #[.slice none 0 0, .slice none 0 0] 42 (0, 0)) :: (some b5, .cells #[i64 ((2 : Int)), i64 (way), i64 (i), i64 (bit), .slice fa bs.length fc] 69 (0, 0)) :: (some b1, .cells #[.slice (ownA ka) la.length ca, .slice (ownA ko) lo.length co] 42 (0, 0)) :: (ka, sob ET 9 la spa) :: (ko, sob ET 9 lo spo) :: (some b, .cells (nv false a o) 76 (0, 0)) :: (a.key, sob ES 30 (svs a.fs) a.sp) :: (o.key, sob ES 30 (svs o.fs) o.sp) :: (frs 5 a.fs ++ (frs 5 o.fs ++ X))) | 1, [v0] => v0 = i64 (c) ∧ Ext w20 w' ∧ Hp No w₀ w' ((some b9, .cells #[.slice none 0 0, .slice none 0 0] 42 (0, 0)) :: (some b5, .cells #[i64 ((2 : Int)), i64 (way), i64 (i), i64 (bit), .slice fa bs.length fc] 69 (0, 0)) :: (some b1, .cells #[.slice (ownA ka) la.length ca, .slice (ownA ko) lo.length co] 42 (0, 0)) :: (ka, sob ET 9 la spa) :: (ko, sob ET 9 lo spo) :: (some b, .cells (nv false a o) 76 (0, 0)) :: (a.key, sob ES 30 (svs a.fs) a.sp) :: (o.key, sob ES 30 (svs o.fs) o.sp) :: (frs 5 a.fs ++ (frs 5 o.fs ++ X))) | 2, [v0, v1] => v0 = i64 (c) ∧ v1 = i64 ((a.fs.length : Nat)) ∧ Ext w20 w' ∧ Hp No w₀ w' ((some b9, .cells #[.slice none 0 0, .slice none 0 0] 42 (0, 0)) :: (some b5, .cells #[i64 ((2 : Int)), i64 (way), i64 (i), i64 (bit), .slice fa bs.length fc] 69 (0, 0)) :: (some b1, .cells #[.slice (ownA ka) la.length ca, .slice (ownA ko) lo.length co] 42 (0, 0)) :: (ka, sob ET 9 la spa) :: (ko, sob ET 9 lo spo) :: (some b, .cells (nv false a o) 76 (0, 0)) :: (a.key, sob ES 30 (svs a.fs) a.sp) :: (o.key, sob ES 30 (svs o.fs) o.sp) :: (frs 5 a.fs ++ (frs 5 o.fs ++ X))) | 3, [v0, v1, v2] => v0 = i64 (c) ∧ v1 = i64 ((a.fs.length : Nat)) ∧ v2 = i64 ((o.fs.length : Nat)) ∧ Ext w20 w' ∧ Hp No w₀ w' ((some b9, .cells #[.slice none 0 0, .slice none 0 0] 42 (0, 0)) :: (some b5, .cells #[i64 ((2 : Int)), i64 (way), i64 (i), i64 (bit), .slice fa bs.length fc] 69 (0, 0)) :: (some b1, .cells #[.slice (ownA ka) la.length ca, .slice (ownA ko) lo.length co] 42 (0, 0)) :: (ka, sob ET 9 la spa) :: (ko, sob ET 9 lo spo) :: (some b, .cells (nv false a o) 76 (0, 0)) :: (a.key, sob ES 30 (svs a.fs) a.sp) :: (o.key, sob ES 30 (svs o.fs) o.sp) :: (frs 5 a.fs ++ (frs 5 o.fs ++ X))) | 4, [v0, v1, v2, _] => v0 = i64 (c) ∧ v1 = i64 ((a.fs.length : Nat)) ∧ v2 = i64 ((o.fs.length : Nat)) ∧ True ∧ Chg (· = b9) w20 w' ∧ Hp No w₀ w' ((some b9, .cells #[.slice (ownA ka) la.length ca, .slice (ownA ko) lo.length co] 42 (0, 0)) :: (some b5, .cells #[i64 ((2 : Int)), i64 (way), i64 (i), i64 (bit), .slice fa bs.length fc] 69 (0, 0)) :: (some b1, .cells #[.slice (ownA ka) la.length ca, .slice (ownA ko) lo.length co] 42 (0, 0)) :: (ka, sob ET 9 la spa) :: (ko, sob ET 9 lo spo) :: (some b, .cells (nv false a o) 76 (0, 0)) :: (a.key, sob ES 30 (svs a.fs) a.sp) :: (o.key, sob ES 30 (svs o.fs) o.sp) :: (frs 5 a.fs ++ (frs 5 o.fs ++ X))) | _, _ => False) mixed (by kernel_rfl) (by kernel_rfl) ⟨Ext.drew _, H25.drew⟩ ?_
  refine WalkC.look rfl (fun _ => .agg #[.slice (ownA ka) la.length ca, .slice (ownA ko) lo.length co]) (fun _ _ _ => rfl) (fun q r uw hlo hhi hle hF => ?_) ?_
  · skip
    have h1 : 0 ≤ q := Nat.zero_le _
    have h2 : q ≤ 3 := hhi 3 30 rfl rfl
    rcases (show q = 0 ∨ q = 1 ∨ q = 2 ∨ q = 3 by omega) with rfl | rfl | rfl | rfl
    · skip
      obtain ⟨hX, HH⟩ := hF
      exact Gives.run rfl (r_loadA (cs' := #[.slice (ownA ka) la.length ca, .slice (ownA ko) lo.length co]) agg42 siz42 (HH.get (k := 2) rfl) (off := 0) rfl (by exact Nat.le_of_ble_eq_true rfl) (by rfl)) ⟨rfl, rfl⟩
    · skip
      obtain ⟨e2, hX, HH⟩ := hF
      exact Gives.run rfl (r_loadA (cs' := #[.slice (ownA ka) la.length ca, .slice (ownA ko) lo.length co]) agg42 siz42 (HH.get (k := 2) rfl) (off := 0) rfl (by exact Nat.le_of_ble_eq_true rfl) (by rfl)) ⟨rfl, rfl⟩
    · skip
      obtain ⟨e2, e14, hX, HH⟩ := hF
      exact Gives.run rfl (r_loadA (cs' := #[.slice (ownA ka) la.length ca, .slice (ownA ko) lo.length co]) agg42 siz42 (HH.get (k := 2) rfl) (off := 0) rfl (by exact Nat.le_of_ble_eq_true rfl) (by rfl)) ⟨rfl, rfl⟩
    · skip
      obtain ⟨e2, e14, e23, hX, HH⟩ := hF
      exact Gives.run rfl (r_loadA (cs' := #[.slice (ownA ka) la.length ca, .slice (ownA ko) lo.length co]) agg42 siz42 (HH.get (k := 2) rfl) (off := 0) rfl (by exact Nat.le_of_ble_eq_true rfl) (by rfl)) ⟨rfl, rfl⟩
  refine WalkC.look rfl (fun _ => .iface T26 (x27)) (fun _ _ _ => rfl) (fun q r uw _ _ _ _ => Gives.run rfl (r_move (v := .iface T26 (x27)) rfl) ⟨rfl, rfl⟩) ?_
  refine WalkC.eff 0 rfl (fun r uw28 hF30 => ?_) ?_
  · skip
    obtain ⟨hX, H29⟩ := hF30
    dsimp only [List.take, List.map, List.cons_append, List.nil_append]
    refine Gives.ofW (d := 135) rfl rfl (fun Q' hK => ?_)
    refine c_call (vs := [.iface T26 (x27)]) call49 rfl (code_ok c 1 w16.heap.size (.iface T26 (x27)) uw28 (Chg.gl H29.chg (fun x => x) hG) ((hEr23.ext hX))) ?_
    rintro _ w31 ⟨rfl, hE32⟩
    have H33 := H29.ext hE32
    exact hK _ _ ⟨rfl, (hX.trans hE32), H33⟩
  refine WalkC.look rfl (fun _ => i64 (c)) (fun _ _ _ => rfl) (fun q r uw _ _ _ _ => Gives.run rfl (r_move (v := i64 (c)) rfl) ⟨rfl, rfl⟩) ?_
  refine WalkC.look rfl (fun _ => .bool (true)) (fun _ _ _ => rfl) (fun q r uw hlo hhi hle hF => ?_) ?_
  · skip
    have h1 : 1 ≤ q := hlo 0 2 rfl rfl
    have h2 : q ≤ 1 := hhi 1 14 rfl rfl
    rcases (show q = 1 by omega) with rfl
    · skip
      obtain ⟨e2, hX, HH⟩ := hF
      dsimp only
      rw [e2]
      exact Gives.run rfl ((r_eqlI (a := c) (b := c) rfl rfl).as (v' := .bool (true)) (by simp)) ⟨rfl, rfl⟩
  refine WalkC.look rfl (fun _ => .bool (true)) (fun _ _ _ => rfl) (fun q r uw _ _ _ _ => Gives.run rfl (r_move (v := .bool (true)) rfl) ⟨rfl, rfl⟩) ?_
  refine WalkC.look rfl (fun _ => .iface T26 (x27)) (fun _ _ _ => rfl) (fun q r uw _ _ _ _ => Gives.runW (wantedSome (d' := 138) (b := true) rfl rfl rfl) (r_move (v := .iface T26 (x27)) rfl) ⟨rfl, rfl⟩) ?_
  refine WalkC.look rfl (fun _ => .bool (false)) (fun _ _ _ => rfl) (fun q r uw _ _ _ _ => Gives.runW (wantedSome (d' := 138) (b := true) rfl rfl rfl) (r_eqlIN isI28 rfl rfl) ⟨rfl, rfl⟩) ?_
  refine WalkC.look rfl (fun _ => i64 (c)) (fun _ _ _ => rfl) (fun q r uw _ _ _ _ => Gives.runW (wantedSome (d' := 138) (b := true) rfl rfl rfl) (r_move (v := i64 (c)) rfl) ⟨rfl, rfl⟩) ?_
  refine WalkC.look rfl (fun _ => .bool (false)) (fun _ _ _ => rfl) (fun q r uw _ _ _ _ => Gives.runW (wantedSome (d' := 138) (b := true) rfl rfl rfl) ((r_eqlI (a := c) (b := (0 : Int)) rfl rfl).as (v' := .bool (false)) (by simp [hc])) ⟨rfl, rfl⟩) ?_
  refine WalkC.look rfl (fun _ => .bool (true)) (fun _ _ _ => rfl) (fun q r uw _ _ _ _ => Gives.runW (wantedSome (d' := 138) (b := true) rfl rfl rfl) ((r_eqlB und4 (a := false) (b := false) rfl rfl).as (v' := .bool (true)) (by rfl)) ⟨rfl, rfl⟩) ?_
  refine WalkC.look rfl (fun _ => .bool (true)) (fun _ _ _ => rfl) (fun q r uw _ _ _ _ => Gives.run rfl (r_pickT (u := .bool (true)) rfl rfl) ⟨rfl, rfl⟩) ?_
  refine WalkC.look rfl (fun _ => .bool (true)) (fun _ _ _ => rfl) (fun q r uw _ _ _ _ => Gives.run rfl (r_move (v := .bool (true)) rfl) ⟨rfl, rfl⟩) ?_
  refine WalkC.look rfl (fun _ => .pointer (some ⟨b, 0, none⟩)) (fun _ _ _ => rfl) (fun q r uw _ _ _ _ => Gives.runW (wantedSome (d' := 145) (b := true) rfl rfl rfl) (r_move (v := .pointer (some ⟨b, 0, none⟩)) rfl) ⟨rfl, rfl⟩) ?_
  refine WalkC.eff 1 rfl (fun r uw34 hF36 => ?_) ?_
  · skip
    obtain ⟨e2, hX, H35⟩ := hF36
    dsimp only [List.take, List.map, List.cons_append, List.nil_append]
    rw [e2]
    refine Gives.ofW (d := 147) rfl rfl (fun Q' hK => ?_)
    refine caAny (wantedSome (d' := 145) (b := true) rfl rfl rfl) (Enters.callL (vs := [.pointer (some ⟨b, 0, none⟩), i64 ((0 : Int))]) call15 rfl) (len_0 b a o uw34 (H35.get (k := 5) rfl)) ?_
    rintro _ w37 ⟨rfl, hE38⟩
    have H39 := H35.ext hE38
    exact hK _ _ ⟨rfl, rfl, (hX.trans hE38), H39⟩
  refine WalkC.look rfl (fun _ => .pointer (some ⟨b1, 0, none⟩)) (fun _ _ _ => rfl) (fun q r uw _ _ _ _ => Gives.runW (wantedSome (d' := 145) (b := true) rfl rfl rfl) (r_fieldAddr (off' := 0) fld42_0 (by decide) (b := b1) (off := 0) rfl (by omega)) ⟨rfl, rfl⟩) ?_
  refine WalkC.look rfl (fun _ => .pointer (some ⟨b1, 0, none⟩)) (fun _ _ _ => rfl) (fun q r uw _ _ _ _ => Gives.runW (wantedSome (d' := 145) (b := true) rfl rfl rfl) (r_indexA (off' := 0) (j := 0) arr40 (b := b1) (off := 0) rfl rfl (by first | rfl | omega | (simp; omega)) (by omega) (by omega)) ⟨rfl, rfl⟩) ?_
  refine WalkC.look rfl (fun _ => .slice (ownA ka) la.length ca) (fun _ _ _ => rfl) (fun q r uw hlo hhi hle hF => ?_) ?_
  · skip
    have h1 : 1 ≤ q := hlo 0 2 rfl rfl
    have h2 : q ≤ 2 := hhi 2 23 rfl rfl
    rcases (show q = 1 ∨ q = 2 by omega) with rfl | rfl
    · skip
      obtain ⟨e2, hX, HH⟩ := hF
      exact Gives.runW (wantedSome (d' := 145) (b := true) rfl rfl rfl) (r_loadC (v := .slice (ownA ka) la.length ca) one39 (HH.get (k := 2) rfl) (off := 0) rfl (by rfl)) ⟨rfl, rfl⟩
    · skip
      obtain ⟨e2, e14, hX, HH⟩ := hF
      exact Gives.runW (wantedSome (d' := 145) (b := true) rfl rfl rfl) (r_loadC (v := .slice (ownA ka) la.length ca) one39 (HH.get (k := 2) rfl) (off := 0) rfl (by rfl)) ⟨rfl, rfl⟩
  refine WalkC.look rfl (fun _ => i64 ((la.length : Nat))) (fun _ _ _ => rfl) (fun q r uw _ _ _ _ => Gives.runW (wantedSome (d' := 145) (b := true) rfl rfl rfl) (r_lenS sli39 (a := ownA ka) (m := la.length) (c := ca) rfl) ⟨rfl, rfl⟩) ?_
  refine WalkC.look rfl (fun _ => .bool (true)) (fun _ _ _ => rfl) (fun q r uw hlo hhi hle hF => ?_) ?_
  · skip
    have h1 : 2 ≤ q := hlo 1 14 rfl rfl
    have h2 : q ≤ 2 := hhi 2 23 rfl rfl
    rcases (show q = 2 by omega) with rfl
    · skip
      obtain ⟨e2, e14, hX, HH⟩ := hF
      dsimp only
      rw [e14]
      exact Gives.runW (wantedSome (d' := 145) (b := true) rfl rfl rfl) ((r_eqlI (a := (a.fs.length : Nat)) (b := (la.length : Nat)) rfl rfl).as (v' := .bool (true)) (by exact congrArg Value.bool (decide_eq_true (by first | exact congrArg (fun q : Nat => (q : Int)) hlA | exact congrArg (fun q : Nat => (q : Int)) hlO)))) ⟨rfl, rfl⟩
  refine WalkC.look rfl (fun _ => .bool (true)) (fun _ _ _ => rfl) (fun q r uw _ _ _ _ => Gives.run rfl (r_pickT (u := .bool (true)) rfl rfl) ⟨rfl, rfl⟩) ?_
  refine WalkC.look rfl (fun _ => .bool (true)) (fun _ _ _ => rfl) (fun q r uw _ _ _ _ => Gives.run rfl (r_move (v := .bool (true)) rfl) ⟨rfl, rfl⟩) ?_
  refine WalkC.look rfl (fun _ => .pointer (some ⟨b, 0, none⟩)) (fun _ _ _ => rfl) (fun q r uw _ _ _ _ => Gives.runW (wantedSome (d' := 154) (b := true) rfl rfl rfl) (r_move (v := .pointer (some ⟨b, 0, none⟩)) rfl) ⟨rfl, rfl⟩) ?_
  refine WalkC.eff 2 rfl (fun r uw40 hF42 => ?_) ?_
  · skip
    obtain ⟨e2, e14, hX, H41⟩ := hF42
    dsimp only [List.take, List.map, List.cons_append, List.nil_append]
    rw [e2, e14]
    refine Gives.ofW (d := 156) rfl rfl (fun Q' hK => ?_)
    refine caAny (wantedSome (d' := 154) (b := true) rfl rfl rfl) (Enters.callL (vs := [.pointer (some ⟨b, 0, none⟩), i64 ((1 : Int))]) call15 rfl) (len_1 b o a uw40 (H41.get (k := 5) rfl)) ?_
    rintro _ w43 ⟨rfl, hE44⟩
    have H45 := H41.ext hE44
    exact hK _ _ ⟨rfl, rfl, rfl, (hX.trans hE44), H45⟩
  refine WalkC.look rfl (fun _ => .pointer (some ⟨b1, 0, none⟩)) (fun _ _ _ => rfl) (fun q r uw _ _ _ _ => Gives.runW (wantedSome (d' := 154) (b := true) rfl rfl rfl) (r_fieldAddr (off' := 0) fld42_0 (by decide) (b := b1) (off := 0) rfl (by omega)) ⟨rfl, rfl⟩) ?_
  refine WalkC.look rfl (fun _ => .pointer (some ⟨b1, 1, none⟩)) (fun _ _ _ => rfl) (fun q r uw _ _ _ _ => Gives.runW (wantedSome (d' := 154) (b := true) rfl rfl rfl) (r_indexA (off' := 1) (j := 1) arr40 (b := b1) (off := 0) rfl rfl (by first | rfl | omega | (simp; omega)) (by omega) (by omega)) ⟨rfl, rfl⟩) ?_
  refine WalkC.look rfl (fun _ => .slice (ownA ko) lo.length co) (fun _ _ _ => rfl) (fun q r uw hlo hhi hle hF => ?_) ?_
  · skip
    have h1 : 2 ≤ q := hlo 1 14 rfl rfl
    have h2 : q ≤ 4 := hle
    rcases (show q = 2 ∨ q = 3 ∨ q = 4 by omega) with rfl | rfl | rfl
    · skip
      obtain ⟨e2, e14, hX, HH⟩ := hF
      exact Gives.runW (wantedSome (d' := 154) (b := true) rfl rfl rfl) (r_loadC (v := .slice (ownA ko) lo.length co) one39 (HH.get (k := 2) rfl) (off := 1) rfl (by rfl)) ⟨rfl, rfl⟩
    · skip
      obtain ⟨e2, e14, e23, hX, HH⟩ := hF
      exact Gives.runW (wantedSome (d' := 154) (b := true) rfl rfl rfl) (r_loadC (v := .slice (ownA ko) lo.length co) one39 (HH.get (k := 2) rfl) (off := 1) rfl (by rfl)) ⟨rfl, rfl⟩
    · skip
      obtain ⟨e2, e14, e23, e30, hX, HH⟩ := hF
      exact Gives.runW (wantedSome (d' := 154) (b := true) rfl rfl rfl) (r_loadC (v := .slice (ownA ko) lo.length co) one39 (HH.get (k := 2) rfl) (off := 1) rfl (by rfl)) ⟨rfl, rfl⟩
  refine WalkC.look rfl (fun _ => i64 ((lo.length : Nat))) (fun _ _ _ => rfl) (fun q r uw _ _ _ _ => Gives.runW (wantedSome (d' := 154) (b := true) rfl rfl rfl) (r_lenS sli39 (a := ownA ko) (m := lo.length) (c := co) rfl) ⟨rfl, rfl⟩) ?_
  refine WalkC.look rfl (fun _ => .bool (true)) (fun _ _ _ => rfl) (fun q r uw hlo hhi hle hF => ?_) ?_
  · skip
    have h1 : 3 ≤ q := hlo 2 23 rfl rfl
    have h2 : q ≤ 4 := hle
    rcases (show q = 3 ∨ q = 4 by omega) with rfl | rfl
    · skip
      obtain ⟨e2, e14, e23, hX, HH⟩ := hF
      dsimp only
      rw [e23]
      exact Gives.runW (wantedSome (d' := 154) (b := true) rfl rfl rfl) ((r_eqlI (a := (o.fs.length : Nat)) (b := (lo.length : Nat)) rfl rfl).as (v' := .bool (true)) (by exact congrArg Value.bool (decide_eq_true (by first | exact congrArg (fun q : Nat => (q : Int)) hlA | exact congrArg (fun q : Nat => (q : Int)) hlO)))) ⟨rfl, rfl⟩
    · skip
      obtain ⟨e2, e14, e23, e30, hX, HH⟩ := hF
      dsimp only
      rw [e23]
      exact Gives.runW (wantedSome (d' := 154) (b := true) rfl rfl rfl) ((r_eqlI (a := (o.fs.length : Nat)) (b := (lo.length : Nat)) rfl rfl).as (v' := .bool (true)) (by exact congrArg Value.bool (decide_eq_true (by first | exact congrArg (fun q : Nat => (q : Int)) hlA | exact congrArg (fun q : Nat => (q : Int)) hlO)))) ⟨rfl, rfl⟩
  refine WalkC.look rfl (fun _ => .bool (true)) (fun _ _ _ => rfl) (fun q r uw _ _ _ _ => Gives.run rfl (r_pickT (u := .bool (true)) rfl rfl) ⟨rfl, rfl⟩) ?_
  refine WalkC.eff 3 rfl (fun r uw46 hF48 => ?_) ?_
  · skip
    obtain ⟨e2, e14, e23, hX, H47⟩ := hF48
    dsimp only [List.take, List.map, List.cons_append, List.nil_append]
    rw [e2, e14, e23]
    refine Gives.ofW0 rfl (fun Q' hK => ?_)
    refine d_store (k := 0) (v := .agg #[.slice (ownA ka) la.length ca, .slice (ownA ko) lo.length co]) (cs' := #[.slice (ownA ka) la.length ca, .slice (ownA ko) lo.length co]) H47 rfl rfl rfl siz42 (by rfl) (by intro u hu; simp [Value.cells] at hu; first | (subst hu; rfl) | (rcases hu with rfl | rfl <;> rfl)) (by exact Nat.le_of_ble_eq_true rfl) (by rfl) ?_
    intro w49 H50 hC51
    have H50' := H50.as (L' := ((some b9, .cells #[.slice (ownA ka) la.length ca, .slice (ownA ko) lo.length co] 42 (0, 0)) :: (some b5, .cells #[i64 ((2 : Int)), i64 (way), i64 (i), i64 (bit), .slice fa bs.length fc] 69 (0, 0)) :: (some b1, .cells #[.slice (ownA ka) la.length ca, .slice (ownA ko) lo.length co] 42 (0, 0)) :: (ka, sob ET 9 la spa) :: (ko, sob ET 9 lo spo) :: (some b, .cells (nv false a o) 76 (0, 0)) :: (a.key, sob ES 30 (svs a.fs) a.sp) :: (o.key, sob ES 30 (svs o.fs) o.sp) :: (frs 5 a.fs ++ (frs 5 o.fs ++ X)))) rfl
    clear H50
    exact hK _ (fun _ => ⟨rfl, rfl, rfl, trivial, ((Ext.chg hX).trans hC51), H50'⟩)
  refine WalkC.look rfl (fun _ => .bool (true)) (fun _ _ _ => rfl) (fun q r uw _ _ _ _ => Gives.run rfl (r_assign (v := .bool (true)) rfl) ⟨rfl, rfl⟩) ?_
  refine WalkC.nil ?_
  intro r52 w53 hF55
  obtain ⟨e2, e14, e23, e30, hX, H54⟩ := hF55
  dsimp only
  rw [e2, e14, e23]
  refine wnil ?_
  refine thenNormal ?_
  refine retAny ?_
  refine retG (rs := [.cell 6 42, .tmp 7]) (vs := [.agg #[.slice (ownA ka) la.length ca, .slice (ownA ko) lo.length co], .bool (true)]) rfl ⟨r_loadA (cs' := #[.slice (ownA ka) la.length ca, .slice (ownA ko) lo.length co]) agg42 siz42 (H54.get (k := 0) rfl) (off := 0) rfl (by exact Nat.le_of_ble_eq_true rfl) (by rfl), ⟨rfl, rfl⟩, trivial⟩ ?_
  have H56 := (((H54.dropk 2).dropk 1).dropk 0)
  have H57 := Hp.toR [(ka, sob ET 9 la spa), (ko, sob ET 9 lo spo)] (F := frs 5 a.fs) (G := frs 5 o.fs) (X := X) H56
  exact ⟨_, rfl, a, ka, ca, spa, la, rfl, ha, hSa, hea, hla, by intro q hq; exact hza q hq, H57⟩

theorem play_droperr_x (b : Nat) (a o : Wy) (ha : a.ok) (ho : o.ok) (ka ko : Option Nat) (ca co : Nat) (spa spo : List Value) (la lo : List (List (BitVec 8))) (hSa : Sl ET ka la ca spa) (hSo : Sl ET ko lo co spo) (hea : bss a.fs = la) (heo : bss o.fs = lo) (hla : la.length ≤ 64) (hza : ∀ q ∈ la, q.length ≤ 140737488351232) (X : List (Option Nat × Obj)) (fa : Option Addr) (fc : Nat) (bs : List (BitVec 8)) (hbl : bs.length ≤ 140737488351232) (way i bit : Int) (c : Int) (hc : c ≠ 0) (w₀ w : World) (hG : Gl w₀) (hFr : Rd E8 w₀ fa bs) (H : Hp No w₀ w ((some b, .cells (nv false a o) 76 (0, 0)) :: (a.key, sob ES 30 (svs a.fs) a.sp) :: (o.key, sob ES 30 (svs o.fs) o.sp) :: (frs 5 a.fs ++ (frs 5 o.fs ++ ((ka, sob ET 9 la spa) :: (ko, sob ET 9 lo spo) :: X))))) (hnet : ∀ (fv : Value) (R : List (Option Nat × Obj)) (w1 : World), Hp No w₀ w1 ((some b, .cells (nv false a o) 76 (0, 0)) :: (a.key, sob ES 30 (svs a.fs) a.sp) :: (o.key, sob ES 30 (svs o.fs) o.sp) :: (frs 5 a.fs ++ (frs 5 o.fs ++ R))) → Calls Tryd.prog 16 [.pointer (some ⟨b, 0, none⟩), i64 way, i64 i].toArray w1 (Ret fun v w' => (∃ ev, v = ev ∧ Er w1.heap.size w' c 1 ev) ∧ Ext w1 w')) (href : ∀ (R : List (Option Nat × Obj)) (w1 : World), Hp No w₀ w1 ((ka, sob ET 9 la spa) :: (ko, sob ET 9 lo spo) :: R) → Calls Tryd.prog 47 [.agg #[.slice (ownA ka) la.length ca, .slice (ownA ko) lo.length co], i64 way, i64 i].toArray w1 (Ret fun v w' => v = .tuple #[.agg #[.slice (ownA ka) la.length ca, .slice (ownA ko) lo.length co], .string (strB []), i64 c] ∧ Ext w1 w')) : Calls Tryd.prog 31 [.pointer (some ⟨b, 0, none⟩), .agg #[.slice (ownA ka) la.length ca, .slice (ownA ko) lo.length co], .agg #[i64 ((3 : Int)), i64 (way), i64 (i), i64 (bit), .slice fa bs.length fc]].toArray w (Ret fun v w' => ∃ (a' : Wy) (ka' : Option Nat) (ca' : Nat) (spa' : List Value) (la' : List (List (BitVec 8))), v = .tuple #[.agg #[.slice (ownA ka') la'.length ca', .slice (ownA ko) lo.length co], .bool true] ∧ a'.ok ∧ Sl ET ka' la' ca' spa' ∧ bss a'.fs = la' ∧ la'.length ≤ 64 ∧ (∀ q ∈ la', q.length ≤ 140737488351232) ∧ Hp No w₀ w' ((some b, .cells (nv false a' o) 76 (0, 0)) :: (a'.key, sob ES 30 (svs a'.fs) a'.sp) :: (o.key, sob ES 30 (svs o.fs) o.sp) :: (frs 5 a'.fs ++ (frs 5 o.fs ++ ((ka', sob ET 9 la' spa') :: (ko, sob ET 9 lo spo) :: X))))) := by
  have H := (Hp.fromR [(ka, sob ET 9 la spa), (ko, sob ET 9 lo spo)] (F := frs 5 a.fs) (G := frs 5 o.fs) (X := X) H)
  refine enter (n := 163) Tryd.func31 rfl rfl (Nat.le_of_ble_eq_true rfl) ?_
  refine seqRegion ?_
  refine q_box (v := .agg #[.slice (ownA ka) la.length ca, .slice (ownA ko) lo.length co]) (o := .cells #[.slice (ownA ka) la.length ca, .slice (ownA ko) lo.length co] 42 (0, 0)) H rfl (by rfl) ?_
  intro b1 w2 hb1 H3 hE4
  refine q_box (v := .agg #[i64 ((3 : Int)), i64 (way), i64 (i), i64 (bit), .slice fa bs.length fc]) (o := .cells #[i64 ((3 : Int)), i64 (way), i64 (i), i64 (bit), .slice fa bs.length fc] 69 (0, 0)) H3 rfl (by rfl) ?_
  intro b5 w6 hb5 H7 hE8
  refine q_alloc (o := .cells #[.slice none 0 0, .slice none 0 0] 42 (0, 0)) H7 zer42 (by kernel_rfl) ?_
  intro b9 w10 hb9 H11 hE12
  refine sq (r_assign (v := .bool (false)) rfl) ?_
  refine wend ?_
  refine seqRegion ?_
  refine sq (r_assign (v := .nilIface) rfl) ?_
  refine wend ?_
  refine seqRegion ?_
  refine sq (r_assign (v := i64 ((0 : Int))) rfl) ?_
  refine wend ?_
  refine seqAny ?_
  refine seqRegion ?_
  refine sq (r_fieldAddr (off' := 0) fld69_0 (by decide) (b := b5) (off := 0) rfl (by omega)) ?_
  refine sq (r_loadC (v := i64 ((3 : Int))) one3 (H11.get (k := 1) rfl) (off := 0) rfl (by rfl)) ?_
  refine wend ?_
  refine blockAny ?_
  refine seqRegion ?_
  refine sq ((r_eqlI (a := (3 : Int)) (b := (1 : Int)) rfl rfl).as (v' := .bool (false)) (by rfl)) ?_
  refine sq (r_assign (v := .bool (false)) rfl) ?_
  refine wend ?_
  refine condFalse rfl ?_
  refine seqAny ?_
  refine seqRegion ?_
  refine sq ((r_eqlI (a := (3 : Int)) (b := (2 : Int)) rfl rfl).as (v' := .bool (false)) (by rfl)) ?_
  refine sq (r_assign (v := .bool (false)) rfl) ?_
  refine wend ?_
  refine condFalse rfl ?_
  refine oneRegion ?_
  refine sq ((r_eqlI (a := (3 : Int)) (b := (3 : Int)) rfl rfl).as (v' := .bool (true)) (by rfl)) ?_
  refine sq (r_assign (v := .bool (true)) rfl) ?_
  refine wnil ?_
  refine thenNormal ?_
  refine condTrue rfl ?_
  refine seqRegion ?_
  refine sq (r_assign (v := .string ({data := #[]})) rfl) ?_
  refine wend ?_
  refine seqRegion ?_
  refine sq (r_loadA (cs' := #[.slice (ownA ka) la.length ca, .slice (ownA ko) lo.length co]) agg42 siz42 (H11.get (k := 2) rfl) (off := 0) rfl (by exact Nat.le_of_ble_eq_true rfl) (by rfl)) ?_
  refine sq (r_fieldAddr (off' := 1) fld69_1 (by decide) (b := b5) (off := 0) rfl (by omega)) ?_
  refine sq (r_loadC (v := i64 (way)) one3 (H11.get (k := 1) rfl) (off := 1) rfl (by rfl)) ?_
  refine sq (r_fieldAddr (off' := 2) fld69_2 (by decide) (b := b5) (off := 0) rfl (by omega)) ?_
  refine sq (r_loadC (v := i64 (i)) one3 (H11.get (k := 1) rfl) (off := 2) rfl (by rfl)) ?_
  refine c_call (vs := [.agg #[.slice (ownA ka) la.length ca, .slice (ownA ko) lo.length co], i64 (way), i64 (i)]) call47 rfl (href _ w10 (((H11.drop1).drop1).drop1)) ?_
  rintro _ w13 ⟨rfl, hE14⟩
  have H15 := H11.ext hE14
  refine sq (r_move (v := .tuple #[.agg #[.slice (ownA ka) la.length ca, .slice (ownA ko) lo.length co], .string (strB []), i64 (c)]) rfl) ?_
  refine sq (r_extract (vs := #[.agg #[.slice (ownA ka) la.length ca, .slice (ownA ko) lo.length co], .string (strB []), i64 (c)]) rfl rfl) ?_
  refine sq (r_extract (vs := #[.agg #[.slice (ownA ka) la.length ca, .slice (ownA ko) lo.length co], .string (strB []), i64 (c)]) rfl rfl) ?_
  refine sq (r_extract (vs := #[.agg #[.slice (ownA ka) la.length ca, .slice (ownA ko) lo.length co], .string (strB []), i64 (c)]) rfl rfl) ?_
  refine d_store (k := 2) (v := .agg #[.slice (ownA ka) la.length ca, .slice (ownA ko) lo.length co]) (cs' := #[.slice (ownA ka) la.length ca, .slice (ownA ko) lo.length co]) H15 rfl rfl rfl siz42 (by rfl) (by intro u hu; simp [Value.cells] at hu; first | (subst hu; rfl) | (rcases hu with rfl | rfl <;> rfl)) (by exact Nat.le_of_ble_eq_true rfl) (by rfl) ?_
  intro w16 H17 hC18
  have H17' := H17.as (L' := ((some b9, .cells #[.slice none 0 0, .slice none 0 0] 42 (0, 0)) :: (some b5, .cells #[i64 ((3 : Int)), i64 (way), i64 (i), i64 (bit), .slice fa bs.length fc] 69 (0, 0)) :: (some b1, .cells #[.slice (ownA ka) la.length ca, .slice (ownA ko) lo.length co] 42 (0, 0)) :: (ka, sob ET 9 la spa) :: (ko, sob ET 9 lo spo) :: (some b, .cells (nv false a o) 76 (0, 0)) :: (a.key, sob ES 30 (svs a.fs) a.sp) :: (o.key, sob ES 30 (svs o.fs) o.sp) :: (frs 5 a.fs ++ (frs 5 o.fs ++ X)))) rfl
  clear H17
  refine sq (r_assign (v := .string (strB [])) rfl) ?_
  refine sq (r_assign (v := i64 (c)) rfl) ?_
  refine wend ?_
  refine seqAny ?_
  refine seqRegion ?_
  refine sq (r_fieldAddr (off' := 0) fld69_0 (by decide) (b := b5) (off := 0) rfl (by omega)) ?_
  refine sq (r_loadC (v := i64 ((3 : Int))) one3 (H17'.get (k := 1) rfl) (off := 0) rfl (by rfl)) ?_
  refine sq ((r_eqlI (a := (3 : Int)) (b := (3 : Int)) rfl rfl).as (v' := .bool (true)) (by rfl)) ?_
  refine wend ?_
  refine condTrue rfl ?_
  refine seqRegion ?_
  refine sq (r_move (v := .pointer (some ⟨b, 0, none⟩)) rfl) ?_
  refine sq (r_fieldAddr (off' := 1) fld69_1 (by decide) (b := b5) (off := 0) rfl (by omega)) ?_
  refine sq (r_loadC (v := i64 (way)) one3 (H17'.get (k := 1) rfl) (off := 1) rfl (by rfl)) ?_
  refine sq (r_fieldAddr (off' := 2) fld69_2 (by decide) (b := b5) (off := 0) rfl (by omega)) ?_
  refine sq (r_loadC (v := i64 (i)) one3 (H17'.get (k := 1) rfl) (off := 2) rfl (by rfl)) ?_
  have H19 := Hp.toR [(some b9, .cells #[.slice none 0 0, .slice none 0 0] 42 (0, 0)), (some b5, .cells #[i64 ((3 : Int)), i64 (way), i64 (i), i64 (bit), .slice fa bs.length fc] 69 (0, 0)), (some b1, .cells #[.slice (ownA ka) la.length ca, .slice (ownA ko) lo.length co] 42 (0, 0)), (ka, sob ET 9 la spa), (ko, sob ET 9 lo spo)] (F := frs 5 a.fs) (G := frs 5 o.fs) (X := X) H17'
  have := H17'.lt (List.mem_of_getElem? (i := 0) rfl) rfl
  have := H17'.lt (List.mem_of_getElem? (i := 1) rfl) rfl
  have := H17'.lt (List.mem_of_getElem? (i := 2) rfl) rfl
  have := H17'.lt (List.mem_of_getElem? (i := 5) rfl) rfl
  refine c_call (vs := [.pointer (some ⟨b, 0, none⟩), i64 (way), i64 (i)]) call16 rfl (hnet (.nilIface) ([(some b9, .cells #[.slice none 0 0, .slice none 0 0] 42 (0, 0)), (some b5, .cells #[i64 ((3 : Int)), i64 (way), i64 (i), i64 (bit), .slice fa bs.length fc] 69 (0, 0)), (some b1, .cells #[.slice (ownA ka) la.length ca, .slice (ownA ko) lo.length co] 42 (0, 0)), (ka, sob ET 9 la spa), (ko, sob ET 9 lo spo)] ++ X) w16 H19) ?_
  rintro _ w20 ⟨⟨v22, rfl, hEr23⟩, hE24⟩
  have H25 := H17'.ext hE24
  obtain ⟨T26, x27, rfl⟩ := hEr23.iface
  refine sq (r_assign (v := .iface T26 (x27)) rfl) ?_
  refine wend ?_
  refine exitAny ?_
  refine thenExit ?_
  refine blockHere ?_
  refine thenNormal ?_
  refine seqAny ?_
  have hlA : a.fs.length = (la).length := by have h := congrArg List.length (show bss a.fs = la from hea); rwa [bss_len] at h
  have hlO : o.fs.length = lo.length := by have h := congrArg List.length heo; rwa [bss_len] at h
  refine drawC (m := 32) [0, 0, 2, 0, 14, 30, 62, 126, 62, 318, 1022, 2046, 4094, 8190, 16382, 8190, 40958, 106494, 237566, 524286, 1048574, 2097150, 4194302, 8388606, 4194302, 20971518, 54525950, 121634814, 268435454, 536870910, 16777215, 2147483647] [2, 14, 23, 30] (fun q vs w' => match q, vs with | 0, [] => Ext w20 w' ∧ Hp No w₀ w' ((some b9, .cells #[.slice none 0 0, .slice none 0 0] 42 (0, 0)) :: (some b5, .cells #[i64 ((3 : Int)), i64 (way), i64 (i), i64 (bit), .slice fa bs.length fc] 69 (0, 0)) :: (some b1, .cells #[.slice (ownA ka) la.length ca, .slice (ownA ko) lo.length co] 42 (0, 0)) :: (ka, sob ET 9 la spa) :: (ko, sob ET 9 lo spo) :: (some b, .cells (nv false a o) 76 (0, 0)) :: (a.key, sob ES 30 (svs a.fs) a.sp) :: (o.key, sob ES 30 (svs o.fs) o.sp) :: (frs 5 a.fs ++ (frs 5 o.fs ++ X))) | 1, [v0] => v0 = i64 (c) ∧ Ext w20 w' ∧ Hp No w₀ w' ((some b9, .cells #[.slice none 0 0, .slice none 0 0] 42 (0, 0)) :: (some b5, .cells #[i64 ((3 : Int)), i64 (way), i64 (i), i64 (bit), .slice fa bs.length fc] 69 (0, 0)) :: (some b1, .cells #[.slice (ownA ka) la.length ca, .slice (ownA ko) lo.length co] 42 (0, 0)) :: (ka, sob ET 9 la spa) :: (ko, sob ET 9 lo spo) :: (some b, .cells (nv false a o) 76 (0, 0)) :: (a.key, sob ES 30 (svs a.fs) a.sp) :: (o.key, sob ES 30 (svs o.fs) o.sp) :: (frs 5 a.fs ++ (frs 5 o.fs ++ X))) | 2, [v0, v1] => v0 = i64 (c) ∧ v1 = i64 ((a.fs.length : Nat)) ∧ Ext w20 w' ∧ Hp No w₀ w' ((some b9, .cells #[.slice none 0 0, .slice none 0 0] 42 (0, 0)) :: (some b5, .cells #[i64 ((3 : Int)), i64 (way), i64 (i), i64 (bit), .slice fa bs.length fc] 69 (0, 0)) :: (some b1, .cells #[.slice (ownA ka) la.length ca, .slice (ownA ko) lo.length co] 42 (0, 0)) :: (ka, sob ET 9 la spa) :: (ko, sob ET 9 lo spo) :: (some b, .cells (nv false a o) 76 (0, 0)) :: (a.key, sob ES 30 (svs a.fs) a.sp) :: (o.key, sob ES 30 (svs o.fs) o.sp) :: (frs 5 a.fs ++ (frs 5 o.fs ++ X))) | 3, [v0, v1, v2] => v0 = i64 (c) ∧ v1 = i64 ((a.fs.length : Nat)) ∧ v2 = i64 ((o.fs.length : Nat)) ∧ Ext w20 w' ∧ Hp No w₀ w' ((some b9, .cells #[.slice none 0 0, .slice none 0 0] 42 (0, 0)) :: (some b5, .cells #[i64 ((3 : Int)), i64 (way), i64 (i), i64 (bit), .slice fa bs.length fc] 69 (0, 0)) :: (some b1, .cells #[.slice (ownA ka) la.length ca, .slice (ownA ko) lo.length co] 42 (0, 0)) :: (ka, sob ET 9 la spa) :: (ko, sob ET 9 lo spo) :: (some b, .cells (nv false a o) 76 (0, 0)) :: (a.key, sob ES 30 (svs a.fs) a.sp) :: (o.key, sob ES 30 (svs o.fs) o.sp) :: (frs 5 a.fs ++ (frs 5 o.fs ++ X))) | 4, [v0, v1, v2, _] => v0 = i64 (c) ∧ v1 = i64 ((a.fs.length : Nat)) ∧ v2 = i64 ((o.fs.length : Nat)) ∧ True ∧ Chg (· = b9) w20 w' ∧ Hp No w₀ w' ((some b9, .cells #[.slice (ownA ka) la.length ca, .slice (ownA ko) lo.length co] 42 (0, 0)) :: (some b5, .cells #[i64 ((3 : Int)), i64 (way), i64 (i), i64 (bit), .slice fa bs.length fc] 69 (0, 0)) :: (some b1, .cells #[.slice (ownA ka) la.length ca, .slice (ownA ko) lo.length co] 42 (0, 0)) :: (ka, sob ET 9 la spa) :: (ko, sob ET 9 lo spo) :: (some b, .cells (nv false a o) 76 (0, 0)) :: (a.key, sob ES 30 (svs a.fs) a.sp) :: (o.key, sob ES 30 (svs o.fs) o.sp) :: (frs 5 a.fs ++ (frs 5 o.fs ++ X))) | _, _ => False) mixed (by kernel_rfl) (by kernel_rfl) ⟨Ext.drew _, H25.drew⟩ ?_
  refine WalkC.look rfl (fun _ => .agg #[.slice (ownA ka) la.length ca, .slice (ownA ko) lo.length co]) (fun _ _ _ => rfl) (fun q r uw hlo hhi hle hF => ?_) ?_
  · skip
    have h1 : 0 ≤ q := Nat.zero_le _
    have h2 : q ≤ 3 := hhi 3 30 rfl rfl
    rcases (show q = 0 ∨ q = 1 ∨ q = 2 ∨ q = 3 by omega) with rfl | rfl | rfl | rfl
    · skip
      obtain ⟨hX, HH⟩ := hF
      exact Gives.run rfl (r_loadA (cs' := #[.slice (ownA ka) la.length ca, .slice (ownA ko) lo.length co]) agg42 siz42 (HH.get (k := 2) rfl) (off := 0) rfl (by exact Nat.le_of_ble_eq_true rfl) (by rfl)) ⟨rfl, rfl⟩
    · skip
      obtain ⟨e2, hX, HH⟩ := hF
      exact Gives.run rfl (r_loadA (cs' := #[.slice (ownA ka) la.length ca, .slice (ownA ko) lo.length co]) agg42 siz42 (HH.get (k := 2) rfl) (off := 0) rfl (by exact Nat.le_of_ble_eq_true rfl) (by rfl)) ⟨rfl, rfl⟩
    · skip
      obtain ⟨e2, e14, hX, HH⟩ := hF
      exact Gives.run rfl (r_loadA (cs' := #[.slice (ownA ka) la.length ca, .slice (ownA ko) lo.length co]) agg42 siz42 (HH.get (k := 2) rfl) (off := 0) rfl (by exact Nat.le_of_ble_eq_true rfl) (by rfl)) ⟨rfl, rfl⟩
    · skip
      obtain ⟨e2, e14, e23, hX, HH⟩ := hF
      exact Gives.run rfl (r_loadA (cs' := #[.slice (ownA ka) la.length ca, .slice (ownA ko) lo.length co]) agg42 siz42 (HH.get (k := 2) rfl) (off := 0) rfl (by exact Nat.le_of_ble_eq_true rfl) (by rfl)) ⟨rfl, rfl⟩
  refine WalkC.look rfl (fun _ => .iface T26 (x27)) (fun _ _ _ => rfl) (fun q r uw _ _ _ _ => Gives.run rfl (r_move (v := .iface T26 (x27)) rfl) ⟨rfl, rfl⟩) ?_
  refine WalkC.eff 0 rfl (fun r uw28 hF30 => ?_) ?_
  · skip
    obtain ⟨hX, H29⟩ := hF30
    dsimp only [List.take, List.map, List.cons_append, List.nil_append]
    refine Gives.ofW (d := 135) rfl rfl (fun Q' hK => ?_)
    refine c_call (vs := [.iface T26 (x27)]) call49 rfl (code_ok c 1 w16.heap.size (.iface T26 (x27)) uw28 (Chg.gl H29.chg (fun x => x) hG) ((hEr23.ext hX))) ?_
    rintro _ w31 ⟨rfl, hE32⟩
    have H33 := H29.ext hE32
    exact hK _ _ ⟨rfl, (hX.trans hE32), H33⟩
  refine WalkC.look rfl (fun _ => i64 (c)) (fun _ _ _ => rfl) (fun q r uw _ _ _ _ => Gives.run rfl (r_move (v := i64 (c)) rfl) ⟨rfl, rfl⟩) ?_
  refine WalkC.look rfl (fun _ => .bool (true)) (fun _ _ _ => rfl) (fun q r uw hlo hhi hle hF => ?_) ?_
  · skip
    have h1 : 1 ≤ q := hlo 0 2 rfl rfl
    have h2 : q ≤ 1 := hhi 1 14 rfl rfl
    rcases (show q = 1 by omega) with rfl
    · skip
      obtain ⟨e2, hX, HH⟩ := hF
      dsimp only
      rw [e2]
      exact Gives.run rfl ((r_eqlI (a := c) (b := c) rfl rfl).as (v' := .bool (true)) (by simp)) ⟨rfl, rfl⟩
  refine WalkC.look rfl (fun _ => .bool (true)) (fun _ _ _ => rfl) (fun q r uw _ _ _ _ => Gives.run rfl (r_move (v := .bool (true)) rfl) ⟨rfl, rfl⟩) ?_
  refine WalkC.look rfl (fun _ => .iface T26 (x27)) (fun _ _ _ => rfl) (fun q r uw _ _ _ _ => Gives.runW (wantedSome (d' := 138) (b := true) rfl rfl rfl) (r_move (v := .iface T26 (x27)) rfl) ⟨rfl, rfl⟩) ?_
  refine WalkC.look rfl (fun _ => .bool (false)) (fun _ _ _ => rfl) (fun q r uw _ _ _ _ => Gives.runW (wantedSome (d' := 138) (b := true) rfl rfl rfl) (r_eqlIN isI28 rfl rfl) ⟨rfl, rfl⟩) ?_
  refine WalkC.look rfl (fun _ => i64 (c)) (fun _ _ _ => rfl) (fun q r uw _ _ _ _ => Gives.runW (wantedSome (d' := 138) (b := true) rfl rfl rfl) (r_move (v := i64 (c)) rfl) ⟨rfl, rfl⟩) ?_
  refine WalkC.look rfl (fun _ => .bool (false)) (fun _ _ _ => rfl) (fun q r uw _ _ _ _ => Gives.runW (wantedSome (d' := 138) (b := true) rfl rfl rfl) ((r_eqlI (a := c) (b := (0 : Int)) rfl rfl).as (v' := .bool (false)) (by simp [hc])) ⟨rfl, rfl⟩) ?_
  refine WalkC.look rfl (fun _ => .bool (true)) (fun _ _ _ => rfl) (fun q r uw _ _ _ _ => Gives.runW (wantedSome (d' := 138) (b := true) rfl rfl rfl) ((r_eqlB und4 (a := false) (b := false) rfl rfl).as (v' := .bool (true)) (by rfl)) ⟨rfl, rfl⟩) ?_
  refine WalkC.look rfl (fun _ => .bool (true)) (fun _ _ _ => rfl) (fun q r uw _ _ _ _ => Gives.run rfl (r_pickT (u := .bool (true)) rfl rfl) ⟨rfl, rfl⟩) ?_
  refine WalkC.look rfl (fun _ => .bool (true)) (fun _ _ _ => rfl) (fun q r uw _ _ _ _ => Gives.run rfl (r_move (v := .bool (true)) rfl) ⟨rfl, rfl⟩) ?_
  refine WalkC.look rfl (fun _ => .pointer (some ⟨b, 0, none⟩)) (fun _ _ _ => rfl) (fun q r uw _ _ _ _ => Gives.runW (wantedSome (d' := 145) (b := true) rfl rfl rfl) (r_move (v := .pointer (some ⟨b, 0, none⟩)) rfl) ⟨rfl, rfl⟩) ?_
  refine WalkC.eff 1 rfl (fun r uw34 hF36 => ?_) ?_
  · skip
    obtain ⟨e2, hX, H35⟩ := hF36
    dsimp only [List.take, List.map, List.cons_append, List.nil_append]
    rw [e2]
    refine Gives.ofW (d := 147) rfl rfl (fun Q' hK => ?_)
    refine caAny (wantedSome (d' := 145) (b := true) rfl rfl rfl) (Enters.callL (vs := [.pointer (some ⟨b, 0, none⟩), i64 ((0 : Int))]) call15 rfl) (len_0 b a o uw34 (H35.get (k := 5) rfl)) ?_
    rintro _ w37 ⟨rfl, hE38⟩
    have H39 := H35.ext hE38
    exact hK _ _ ⟨rfl, rfl, (hX.trans hE38), H39⟩
  refine WalkC.look rfl (fun _ => .pointer (some ⟨b1, 0, none⟩)) (fun _ _ _ => rfl) (fun q r uw _ _ _ _ => Gives.runW (wantedSome (d' := 145) (b := true) rfl rfl rfl) (r_fieldAddr (off' := 0) fld42_0 (by decide) (b := b1) (off := 0) rfl (by omega)) ⟨rfl, rfl⟩) ?_
  refine WalkC.look rfl (fun _ => .pointer (some ⟨b1, 0, none⟩)) (fun _ _ _ => rfl) (fun q r uw _ _ _ _ => Gives.runW (wantedSome (d' := 145) (b := true) rfl rfl rfl) (r_indexA (off' := 0) (j := 0) arr40 (b := b1) (off := 0) rfl rfl (by first | rfl | omega | (simp; omega)) (by omega) (by omega)) ⟨rfl, rfl⟩) ?_
  refine WalkC.look rfl (fun _ => .slice (ownA ka) la.length ca) (fun _ _ _ => rfl) (fun q r uw hlo hhi hle hF => ?_) ?_
  · skip
    have h1 : 1 ≤ q := hlo 0 2 rfl rfl
    have h2 : q ≤ 2 := hhi 2 23 rfl rfl
    rcases (show q = 1 ∨ q = 2 by omega) with rfl | rfl
    · skip
      obtain ⟨e2, hX, HH⟩ := hF
      exact Gives.runW (wantedSome (d' := 145) (b := true) rfl rfl rfl) (r_loadC (v := .slice (ownA ka) la.length ca) one39 (HH.get (k := 2) rfl) (off := 0) rfl (by rfl)) ⟨rfl, rfl⟩
    · skip
      obtain ⟨e2, e14, hX, HH⟩ := hF
      exact Gives.runW (wantedSome (d' := 145) (b := true) rfl rfl rfl) (r_loadC (v := .slice (ownA ka) la.length ca) one39 (HH.get (k := 2) rfl) (off := 0) rfl (by rfl)) ⟨rfl, rfl⟩
  refine WalkC.look rfl (fun _ => i64 ((la.length : Nat))) (fun _ _ _ => rfl) (fun q r uw _ _ _ _ => Gives.runW (wantedSome (d' := 145) (b := true) rfl rfl rfl) (r_lenS sli39 (a := ownA ka) (m := la.length) (c := ca) rfl) ⟨rfl, rfl⟩) ?_
  refine WalkC.look rfl (fun _ => .bool (true)) (fun _ _ _ => rfl) (fun q r uw hlo hhi hle hF => ?_) ?_
  · skip
    have h1 : 2 ≤ q := hlo 1 14 rfl rfl
    have h2 : q ≤ 2 := hhi 2 23 rfl rfl
    rcases (show q = 2 by omega) with rfl
    · skip
      obtain ⟨e2, e14, hX, HH⟩ := hF
      dsimp only
      rw [e14]
      exact Gives.runW (wantedSome (d' := 145) (b := true) rfl rfl rfl) ((r_eqlI (a := (a.fs.length : Nat)) (b := (la.length : Nat)) rfl rfl).as (v' := .bool (true)) (by exact congrArg Value.bool (decide_eq_true (by first | exact congrArg (fun q : Nat => (q : Int)) hlA | exact congrArg (fun q : Nat => (q : Int)) hlO)))) ⟨rfl, rfl⟩
  refine WalkC.look rfl (fun _ => .bool (true)) (fun _ _ _ => rfl) (fun q r uw _ _ _ _ => Gives.run rfl (r_pickT (u := .bool (true)) rfl rfl) ⟨rfl, rfl⟩) ?_
  refine WalkC.look rfl (fun _ => .bool (true)) (fun _ _ _ => rfl) (fun q r uw _ _ _ _ => Gives.run rfl (r_move (v := .bool (true)) rfl) ⟨rfl, rfl⟩) ?_
  refine WalkC.look rfl (fun _ => .pointer (some ⟨b, 0, none⟩)) (fun _ _ _ => rfl) (fun q r uw _ _ _ _ => Gives.runW (wantedSome (d' := 154) (b := true) rfl rfl rfl) (r_move (v := .pointer (some ⟨b, 0, none⟩)) rfl) ⟨rfl, rfl⟩) ?_
  refine WalkC.eff 2 rfl (fun r uw40 hF42 => ?_) ?_
  · skip
    obtain ⟨e2, e14, hX, H41⟩ := hF42
    dsimp only [List.take, List.map, List.cons_append, List.nil_append]
    rw [e2, e14]
    refine Gives.ofW (d := 156) rfl rfl (fun Q' hK => ?_)
    refine caAny (wantedSome (d' := 154) (b := true) rfl rfl rfl) (Enters.callL (vs := [.pointer (some ⟨b, 0, none⟩), i64 ((1 : Int))]) call15 rfl) (len_1 b o a uw40 (H41.get (k := 5) rfl)) ?_
    rintro _ w43 ⟨rfl, hE44⟩
    have H45 := H41.ext hE44
    exact hK _ _ ⟨rfl, rfl, rfl, (hX.trans hE44), H45⟩
  refine WalkC.look rfl (fun _ => .pointer (some ⟨b1, 0, none⟩)) (fun _ _ _ => rfl) (fun q r uw _ _ _ _ => Gives.runW (wantedSome (d' := 154) (b := true) rfl rfl rfl) (r_fieldAddr (off' := 0) fld42_0 (by decide) (b := b1) (off := 0) rfl (by omega)) ⟨rfl, rfl⟩) ?_
  refine WalkC.look rfl (fun _ => .pointer (some ⟨b1, 1, none⟩)) (fun _ _ _ => rfl) (fun q r uw _ _ _ _ => Gives.runW (wantedSome (d' := 154) (b := true) rfl rfl rfl) (r_indexA (off' := 1) (j := 1) arr40 (b := b1) (off := 0) rfl rfl (by first | rfl | omega | (simp; omega)) (by omega) (by omega)) ⟨rfl, rfl⟩) ?_
  refine WalkC.look rfl (fun _ => .slice (ownA ko) lo.length co) (fun _ _ _ => rfl) (fun q r uw hlo hhi hle hF => ?_) ?_
  · skip
    have h1 : 2 ≤ q := hlo 1 14 rfl rfl
    have h2 : q ≤ 4 := hle
    rcases (show q = 2 ∨ q = 3 ∨ q = 4 by omega) with rfl | rfl | rfl
    · skip
      obtain ⟨e2, e14, hX, HH⟩ := hF
      exact Gives.runW (wantedSome (d' := 154) (b := true) rfl rfl rfl) (r_loadC (v := .slice (ownA ko) lo.length co) one39 (HH.get (k := 2) rfl) (off := 1) rfl (by rfl)) ⟨rfl, rfl⟩
    · skip
      obtain ⟨e2, e14, e23, hX, HH⟩ := hF
      exact Gives.runW (wantedSome (d' := 154) (b := true) rfl rfl rfl) (r_loadC (v := .slice (ownA ko) lo.length co) one39 (HH.get (k := 2) rfl) (off := 1) rfl (by rfl)) ⟨rfl, rfl⟩
    · skip
      obtain ⟨e2, e14, e23, e30, hX, HH⟩ := hF
      exact Gives.runW (wantedSome (d' := 154) (b := true) rfl rfl rfl) (r_loadC (v := .slice (ownA ko) lo.length co) one39 (HH.get (k := 2) rfl) (off := 1) rfl (by rfl)) ⟨rfl, rfl⟩
  refine WalkC.look rfl (fun _ => i64 ((lo.length : Nat))) (fun _ _ _ => rfl) (fun q r uw _ _ _ _ => Gives.runW (wantedSome (d' := 154) (b := true) rfl rfl rfl) (r_lenS sli39 (a := ownA ko) (m := lo.length) (c := co) rfl) ⟨rfl, rfl⟩) ?_
  refine WalkC.look rfl (fun _ => .bool (true)) (fun _ _ _ => rfl) (fun q r uw hlo hhi hle hF => ?_) ?_
  · skip
    have h1 : 3 ≤ q := hlo 2 23 rfl rfl
    have h2 : q ≤ 4 := hle
    rcases (show q = 3 ∨ q = 4 by omega) with rfl | rfl
    · skip
      obtain ⟨e2, e14, e23, hX, HH⟩ := hF
      dsimp only
      rw [e23]
      exact Gives.runW (wantedSome (d' := 154) (b := true) rfl rfl rfl) ((r_eqlI (a := (o.fs.length : Nat)) (b := (lo.length : Nat)) rfl rfl).as (v' := .bool (true)) (by exact congrArg Value.bool (decide_eq_true (by first | exact congrArg (fun q : Nat => (q : Int)) hlA | exact congrArg (fun q : Nat => (q : Int)) hlO)))) ⟨rfl, rfl⟩
    · skip
      obtain ⟨e2, e14, e23, e30, hX, HH⟩ := hF
      dsimp only
      rw [e23]
      exact Gives.runW (wantedSome (d' := 154) (b := true) rfl rfl rfl) ((r_eqlI (a := (o.fs.length : Nat)) (b := (lo.length : Nat)) rfl rfl).as (v' := .bool (true)) (by exact congrArg Value.bool (decide_eq_true (by first | exact congrArg (fun q : Nat => (q : Int)) hlA | exact congrArg (fun q : Nat => (q : Int)) hlO)))) ⟨rfl, rfl⟩
  refine WalkC.look rfl (fun _ => .bool (true)) (fun _ _ _ => rfl) (fun q r uw _ _ _ _ => Gives.run rfl (r_pickT (u := .bool (true)) rfl rfl) ⟨rfl, rfl⟩) ?_
  refine WalkC.eff 3 rfl (fun r uw46 hF48 => ?_) ?_
  · skip
    obtain ⟨e2, e14, e23, hX, H47⟩ := hF48
    dsimp only [List.take, List.map, List.cons_append, List.nil_append]
    rw [e2, e14, e23]
    refine Gives.ofW0 rfl (fun Q' hK => ?_)
    refine d_store (k := 0) (v := .agg #[.slice (ownA ka) la.length ca, .slice (ownA ko) lo.length co]) (cs' := #[.slice (ownA ka) la.length ca, .slice (ownA ko) lo.length co]) H47 rfl rfl rfl siz42 (by rfl) (by intro u hu; simp [Value.cells] at hu; first | (subst hu; rfl) | (rcases hu with rfl | rfl <;> rfl)) (by exact Nat.le_of_ble_eq_true rfl) (by rfl) ?_
    intro w49 H50 hC51
    have H50' := H50.as (L' := ((some b9, .cells #[.slice (ownA ka) la.length ca, .slice (ownA ko) lo.length co] 42 (0, 0)) :: (some b5, .cells #[i64 ((3 : Int)), i64 (way), i64 (i), i64 (bit), .slice fa bs.length fc] 69 (0, 0)) :: (some b1, .cells #[.slice (ownA ka) la.length ca, .slice (ownA ko) lo.length co] 42 (0, 0)) :: (ka, sob ET 9 la spa) :: (ko, sob ET 9 lo spo) :: (some b, .cells (nv false a o) 76 (0, 0)) :: (a.key, sob ES 30 (svs a.fs) a.sp) :: (o.key, sob ES 30 (svs o.fs) o.sp) :: (frs 5 a.fs ++ (frs 5 o.fs ++ X)))) rfl
    clear H50
    exact hK _ (fun _ => ⟨rfl, rfl, rfl, trivial, ((Ext.chg hX).trans hC51), H50'⟩)
  refine WalkC.look rfl (fun _ => .bool (true)) (fun _ _ _ => rfl) (fun q r uw _ _ _ _ => Gives.run rfl (r_assign (v := .bool (true)) rfl) ⟨rfl, rfl⟩) ?_
  refine WalkC.nil ?_
  intro r52 w53 hF55
  obtain ⟨e2, e14, e23, e30, hX, H54⟩ := hF55
  dsimp only
  rw [e2, e14, e23]
  refine wnil ?_
  refine thenNormal ?_
  refine retAny ?_
  refine retG (rs := [.cell 6 42, .tmp 7]) (vs := [.agg #[.slice (ownA ka) la.length ca, .slice (ownA ko) lo.length co], .bool (true)]) rfl ⟨r_loadA (cs' := #[.slice (ownA ka) la.length ca, .slice (ownA ko) lo.length co]) agg42 siz42 (H54.get (k := 0) rfl) (off := 0) rfl (by exact Nat.le_of_ble_eq_true rfl) (by rfl), ⟨rfl, rfl⟩, trivial⟩ ?_
  have H56 := (((H54.dropk 2).dropk 1).dropk 0)
  have H57 := Hp.toR [(ka, sob ET 9 la spa), (ko, sob ET 9 lo spo)] (F := frs 5 a.fs) (G := frs 5 o.fs) (X := X) H56
  exact ⟨_, rfl, a, ka, ca, spa, la, rfl, ha, hSa, hea, hla, by intro q hq; exact hza q hq, H57⟩

theorem play_copyerr_x (b : Nat) (a o : Wy) (ha : a.ok) (ho : o.ok) (ka ko : Option Nat) (ca co : Nat) (spa spo : List Value) (la lo : List (List (BitVec 8))) (hSa : Sl ET ka la ca spa) (hSo : Sl ET ko lo co spo) (hea : bss a.fs = la) (heo : bss o.fs = lo) (hla : la.length ≤ 64) (hza : ∀ q ∈ la, q.length ≤ 140737488351232) (X : List (Option Nat × Obj)) (fa : Option Addr) (fc : Nat) (bs : List (BitVec 8)) (hbl : bs.length ≤ 140737488351232) (way i bit : Int) (c : Int) (hc : c ≠ 0) (w₀ w : World) (hG : Gl w₀) (hFr : Rd E8 w₀ fa bs) (H : Hp No w₀ w ((some b, .cells (nv false a o) 76 (0, 0)) :: (a.key, sob ES 30 (svs a.fs) a.sp) :: (o.key, sob ES 30 (svs o.fs) o.sp) :: (frs 5 a.fs ++ (frs 5 o.fs ++ ((ka, sob ET 9 la spa) :: (ko, sob ET 9 lo spo) :: X))))) (hnet : ∀ (fv : Value) (R : List (Option Nat × Obj)) (w1 : World), Hp No w₀ w1 ((some b, .cells (nv false a o) 76 (0, 0)) :: (a.key, sob ES 30 (svs a.fs) a.sp) :: (o.key, sob ES 30 (svs o.fs) o.sp) :: (frs 5 a.fs ++ (frs 5 o.fs ++ R))) → Calls Tryd.prog 19 [.pointer (some ⟨b, 0, none⟩), i64 way, i64 i].toArray w1 (Ret fun v w' => (∃ ev, v = ev ∧ Er w1.heap.size w' c 1 ev) ∧ Ext w1 w')) (href : ∀ (R : List (Option Nat × Obj)) (w1 : World), Hp No w₀ w1 ((ka, sob ET 9 la spa) :: (ko, sob ET 9 lo spo) :: R) → Calls Tryd.prog 48 [.agg #[.slice (ownA ka) la.length ca, .slice (ownA ko) lo.length co], i64 way, i64 i].toArray w1 (Ret fun v w' => v = .tuple #[.agg #[.slice (ownA ka) la.length ca, .slice (ownA ko) lo.length co], i64 c] ∧ Ext w1 w')) : Calls Tryd.prog 31 [.pointer (some ⟨b, 0, none⟩), .agg #[.slice (ownA ka) la.length ca, .slice (ownA ko) lo.length co], .agg #[i64 ((4 : Int)), i64 (way), i64 (i), i64 (bit), .slice fa bs.length fc]].toArray w (Ret fun v w' => ∃ (a' : Wy) (ka' : Option Nat) (ca' : Nat) (spa' : List Value) (la' : List (List (BitVec 8))), v = .tuple #[.agg #[.slice (ownA ka') la'.length ca', .slice (ownA ko) lo.length co], .bool true] ∧ a'.ok ∧ Sl ET ka' la' ca' spa' ∧ bss a'.fs = la' ∧ la'.length ≤ 64 ∧ (∀ q ∈ la', q.length ≤ 140737488351232) ∧ Hp No w₀ w' ((some b, .cells (nv false a' o) 76 (0, 0)) :: (a'.key, sob ES 30 (svs a'.fs) a'.sp) :: (o.key, sob ES 30 (svs o.fs) o.sp) :: (frs 5 a'.fs ++ (frs 5 o.fs ++ ((ka', sob ET 9 la' spa') :: (ko, sob ET 9 lo spo) :: X))))) := by
  have H := (Hp.fromR [(ka, sob ET 9 la spa), (ko, sob ET 9 lo spo)] (F := frs 5 a.fs) (G := frs 5 o.fs) (X := X) H)
  refine enter (n := 163) Tryd.func31 rfl rfl (Nat.le_of_ble_eq_true rfl) ?_
  refine seqRegion ?_
  refine q_box (v := .agg #[.slice (ownA ka) la.length ca, .slice (ownA ko) lo.length co]) (o := .cells #[.slice (ownA ka) la.length ca, .slice (ownA ko) lo.length co] 42 (0, 0)) H rfl (by rfl) ?_
  intro b1 w2 hb1 H3 hE4
  refine q_box (v := .agg #[i64 ((4 : Int)), i64 (way), i64 (i), i64 (bit), .slice fa bs.length fc]) (o := .cells #[i64 ((4 : Int)), i64 (way), i64 (i), i64 (bit), .slice fa bs.length fc] 69 (0, 0)) H3 rfl (by rfl) ?_
  intro b5 w6 hb5 H7 hE8
  refine q_alloc (o := .cells #[.slice none 0 0, .slice none 0 0] 42 (0, 0)) H7 zer42 (by kernel_rfl) ?_
  intro b9 w10 hb9 H11 hE12
  refine sq (r_assign (v := .bool (false)) rfl) ?_
  refine wend ?_
  refine seqRegion ?_
  refine sq (r_assign (v := .nilIface) rfl) ?_
  refine wend ?_
  refine seqRegion ?_
  refine sq (r_assign (v := i64 ((0 : Int))) rfl) ?_
  refine wend ?_
  refine seqAny ?_
  refine seqRegion ?_
  refine sq (r_fieldAddr (off' := 0) fld69_0 (by decide) (b := b5) (off := 0) rfl (by omega)) ?_
  refine sq (r_loadC (v := i64 ((4 : Int))) one3 (H11.get (k := 1) rfl) (off := 0) rfl (by rfl)) ?_
  refine wend ?_
  refine blockAny ?_
  refine seqRegion ?_
  refine sq ((r_eqlI (a := (4 : Int)) (b := (1 : Int)) rfl rfl).as (v' := .bool (false)) (by rfl)) ?_
  refine sq (r_assign (v := .bool (false)) rfl) ?_
  refine wend ?_
  refine condFalse rfl ?_
  refine seqAny ?_
  refine seqRegion ?_
  refine sq ((r_eqlI (a := (4 : Int)) (b := (2 : Int)) rfl rfl).as (v' := .bool (false)) (by rfl)) ?_
  refine sq (r_assign (v := .bool (false)) rfl) ?_
  refine wend ?_
  refine condFalse rfl ?_
  refine oneRegion ?_
  refine sq ((r_eqlI (a := (4 : Int)) (b := (3 : Int)) rfl rfl).as (v' := .bool (false)) (by rfl)) ?_
  refine sq (r_assign (v := .bool (false)) rfl) ?_
  refine wnil ?_
  refine thenNormal ?_
  refine condFalse rfl ?_
  refine seqRegion ?_
  refine sq ((r_eqlI (a := (4 : Int)) (b := (4 : Int)) rfl rfl).as (v' := .bool (true)) (by rfl)) ?_
  refine sq (r_assign (v := .bool (true)) rfl) ?_
  refine wend ?_
  refine condTrue rfl ?_
  refine seqRegion ?_
  refine sq (r_move (v := .pointer (some ⟨b, 0, none⟩)) rfl) ?_
  refine sq (r_fieldAddr (off' := 1) fld69_1 (by decide) (b := b5) (off := 0) rfl (by omega)) ?_
  refine sq (r_loadC (v := i64 (way)) one3 (H11.get (k := 1) rfl) (off := 1) rfl (by rfl)) ?_
  refine sq (r_fieldAddr (off' := 2) fld69_2 (by decide) (b := b5) (off := 0) rfl (by omega)) ?_
  refine sq (r_loadC (v := i64 (i)) one3 (H11.get (k := 1) rfl) (off := 2) rfl (by rfl)) ?_
  have H13 := Hp.toR [(some b9, .cells #[.slice none 0 0, .slice none 0 0] 42 (0, 0)), (some b5, .cells #[i64 ((4 : Int)), i64 (way), i64 (i), i64 (bit), .slice fa bs.length fc] 69 (0, 0)), (some b1, .cells #[.slice (ownA ka) la.length ca, .slice (ownA ko) lo.length co] 42 (0, 0)), (ka, sob ET 9 la spa), (ko, sob ET 9 lo spo)] (F := frs 5 a.fs) (G := frs 5 o.fs) (X := X) H11
  have := H11.lt (List.mem_of_getElem? (i := 0) rfl) rfl
  have := H11.lt (List.mem_of_getElem? (i := 1) rfl) rfl
  have := H11.lt (List.mem_of_getElem? (i := 2) rfl) rfl
  have := H11.lt (List.mem_of_getElem? (i := 5) rfl) rfl
  refine c_call (vs := [.pointer (some ⟨b, 0, none⟩), i64 (way), i64 (i)]) call19 rfl (hnet (.nilIface) ([(some b9, .cells #[.slice none 0 0, .slice none 0 0] 42 (0, 0)), (some b5, .cells #[i64 ((4 : Int)), i64 (way), i64 (i), i64 (bit), .slice fa bs.length fc] 69 (0, 0)), (some b1, .cells #[.slice (ownA ka) la.length ca, .slice (ownA ko) lo.length co] 42 (0, 0)), (ka, sob ET 9 la spa), (ko, sob ET 9 lo spo)] ++ X) w10 H13) ?_
  rintro _ w14 ⟨⟨v16, rfl, hEr17⟩, hE18⟩
  have H19 := H11.ext hE18
  obtain ⟨T20, x21, rfl⟩ := hEr17.iface
  refine sq (r_assign (v := .iface T20 (x21)) rfl) ?_
  refine wend ?_
  refine oneRegion ?_
  refine sq (r_loadA (cs' := #[.slice (ownA ka) la.length ca, .slice (ownA ko) lo.length co]) agg42 siz42 (H19.get (k := 2) rfl) (off := 0) rfl (by exact Nat.le_of_ble_eq_true rfl) (by rfl)) ?_
  refine sq (r_fieldAddr (off' := 1) fld69_1 (by decide) (b := b5) (off := 0) rfl (by omega)) ?_
  refine sq (r_loadC (v := i64 (way)) one3 (H19.get (k := 1) rfl) (off := 1) rfl (by rfl)) ?_
  refine sq (r_fieldAddr (off' := 2) fld69_2 (by decide) (b := b5) (off := 0) rfl (by omega)) ?_
  refine sq (r_loadC (v := i64 (i)) one3 (H19.get (k := 1) rfl) (off := 2) rfl (by rfl)) ?_
  refine c_call (vs := [.agg #[.slice (ownA ka) la.length ca, .slice (ownA ko) lo.length co], i64 (way), i64 (i)]) call48 rfl (href _ w14 (((H19.drop1).drop1).drop1)) ?_
  rintro _ w22 ⟨rfl, hE23⟩
  have H24 := H19.ext hE23
  refine sq (r_move (v := .tuple #[.agg #[.slice (ownA ka) la.length ca, .slice (ownA ko) lo.length co], i64 (c)]) rfl) ?_
  refine sq (r_extract (vs := #[.agg #[.slice (ownA ka) la.length ca, .slice (ownA ko) lo.length co], i64 (c)]) rfl rfl) ?_
  refine sq (r_extract (vs := #[.agg #[.slice (ownA ka) la.length ca, .slice (ownA ko) lo.length co], i64 (c)]) rfl rfl) ?_
  refine d_store (k := 2) (v := .agg #[.slice (ownA ka) la.length ca, .slice (ownA ko) lo.length co]) (cs' := #[.slice (ownA ka) la.length ca, .slice (ownA ko) lo.length co]) H24 rfl rfl rfl siz42 (by rfl) (by intro u hu; simp [Value.cells] at hu; first | (subst hu; rfl) | (rcases hu with rfl | rfl <;> rfl)) (by exact Nat.le_of_ble_eq_true rfl) (by rfl) ?_
  intro w25 H26 hC27
  have H26' := H26.as (L' := ((some b9, .cells #[.slice none 0 0, .slice none 0 0] 42 (0, 0)) :: (some b5, .cells #[i64 ((4 : Int)), i64 (way), i64 (i), i64 (bit), .slice fa bs.length fc] 69 (0, 0)) :: (some b1, .cells #[.slice (ownA ka) la.length ca, .slice (ownA ko) lo.length co] 42 (0, 0)) :: (ka, sob ET 9 la spa) :: (ko, sob ET 9 lo spo) :: (some b, .cells (nv false a o) 76 (0, 0)) :: (a.key, sob ES 30 (svs a.fs) a.sp) :: (o.key, sob ES 30 (svs o.fs) o.sp) :: (frs 5 a.fs ++ (frs 5 o.fs ++ X)))) rfl
  clear H26
  refine sq (r_assign (v := i64 (c)) rfl) ?_
  refine wnil ?_
  refine blockNormal ?_
  refine thenNormal ?_
  refine seqAny ?_
  have hlA : a.fs.length = (la).length := by have h := congrArg List.length (show bss a.fs = la from hea); rwa [bss_len] at h
  have hlO : o.fs.length = lo.length := by have h := congrArg List.length heo; rwa [bss_len] at h
  refine drawC (m := 32) [0, 0, 2, 0, 14, 30, 62, 126, 62, 318, 1022, 2046, 4094, 8190, 16382, 8190, 40958, 106494, 237566, 524286, 1048574, 2097150, 4194302, 8388606, 4194302, 20971518, 54525950, 121634814, 268435454, 536870910, 16777215, 2147483647] [2, 14, 23, 30] (fun q vs w' => match q, vs with | 0, [] => Ext w25 w' ∧ Hp No w₀ w' ((some b9, .cells #[.slice none 0 0, .slice none 0 0] 42 (0, 0)) :: (some b5, .cells #[i64 ((4 : Int)), i64 (way), i64 (i), i64 (bit), .slice fa bs.length fc] 69 (0, 0)) :: (some b1, .cells #[.slice (ownA ka) la.length ca, .slice (ownA ko) lo.length co] 42 (0, 0)) :: (ka, sob ET 9 la spa) :: (ko, sob ET 9 lo spo) :: (some b, .cells (nv false a o) 76 (0, 0)) :: (a.key, sob ES 30 (svs a.fs) a.sp) :: (o.key, sob ES 30 (svs o.fs) o.sp) :: (frs 5 a.fs ++ (frs 5 o.fs ++ X))) | 1, [v0] => v0 = i64 (c) ∧ Ext w25 w' ∧ Hp No w₀ w' ((some b9, .cells #[.slice none 0 0, .slice none 0 0] 42 (0, 0)) :: (some b5, .cells #[i64 ((4 : Int)), i64 (way), i64 (i), i64 (bit), .slice fa bs.length fc] 69 (0, 0)) :: (some b1, .cells #[.slice (ownA ka) la.length ca, .slice (ownA ko) lo.length co] 42 (0, 0)) :: (ka, sob ET 9 la spa) :: (ko, sob ET 9 lo spo) :: (some b, .cells (nv false a o) 76 (0, 0)) :: (a.key, sob ES 30 (svs a.fs) a.sp) :: (o.key, sob ES 30 (svs o.fs) o.sp) :: (frs 5 a.fs ++ (frs 5 o.fs ++ X))) | 2, [v0, v1] => v0 = i64 (c) ∧ v1 = i64 ((a.fs.length : Nat)) ∧ Ext w25 w' ∧ Hp No w₀ w' ((some b9, .cells #[.slice none 0 0, .slice none 0 0] 42 (0, 0)) :: (some b5, .cells #[i64 ((4 : Int)), i64 (way), i64 (i), i64 (bit), .slice fa bs.length fc] 69 (0, 0)) :: (some b1, .cells #[.slice (ownA ka) la.length ca, .slice (ownA ko) lo.length co] 42 (0, 0)) :: (ka, sob ET 9 la spa) :: (ko, sob ET 9 lo spo) :: (some b, .cells (nv false a o) 76 (0, 0)) :: (a.key, sob ES 30 (svs a.fs) a.sp) :: (o.key, sob ES 30 (svs o.fs) o.sp) :: (frs 5 a.fs ++ (frs 5 o.fs ++ X))) | 3, [v0, v1, v2] => v0 = i64 (c) ∧ v1 = i64 ((a.fs.length : Nat)) ∧ v2 = i64 ((o.fs.length : Nat)) ∧ Ext w25 w' ∧ Hp No w₀ w' ((some b9, .cells #[.slice none 0 0, .slice none 0 0] 42 (0, 0)) :: (some b5, .cells #[i64 ((4 : Int)), i64 (way), i64 (i), i64 (bit), .slice fa bs.length fc] 69 (0, 0)) :: (some b1, .cells #[.slice (ownA ka) la.length ca, .slice (ownA ko) lo.length co] 42 (0, 0)) :: (ka, sob ET 9 la spa) :: (ko, sob ET 9 lo spo) :: (some b, .cells (nv false a o) 76 (0, 0)) :: (a.key, sob ES 30 (svs a.fs) a.sp) :: (o.key, sob ES 30 (svs o.fs) o.sp) :: (frs 5 a.fs ++ (frs 5 o.fs ++ X))) | 4, [v0, v1, v2, _] => v0 = i64 (c) ∧ v1 = i64 ((a.fs.length : Nat)) ∧ v2 = i64 ((o.fs.length : Nat)) ∧ True ∧ Chg (· = b9) w25 w' ∧ Hp No w₀ w' ((some b9, .cells #[.slice (ownA ka) la.length ca, .slice (ownA ko) lo.length co] 42 (0, 0)) :: (some b5, .cells #[i64 ((4 : Int)), i64 (way), i64 (i), i64 (bit), .slice fa bs.length fc] 69 (0, 0)) :: (some b1, .cells #[.slice (ownA ka) la.length ca, .slice (ownA ko) lo.length co] 42 (0, 0)) :: (ka, sob ET 9 la spa) :: (ko, sob ET 9 lo spo) :: (some b, .cells (nv false a o) 76 (0, 0)) :: (a.key, sob ES 30 (svs a.fs) a.sp) :: (o.key, sob ES 30 (svs o.fs) o.sp) :: (frs 5 a.fs ++ (frs 5 o.fs ++ X))) | _, _ => False) mixed (by kernel_rfl) (by kernel_rfl) ⟨Ext.drew _, H26'.drew⟩ ?_
  refine WalkC.look rfl (fun _ => .agg #[.slice (ownA ka) la.length ca, .slice (ownA ko) lo.length co]) (fun _ _ _ => rfl) (fun q r uw hlo hhi hle hF => ?_) ?_
  · skip
    have h1 : 0 ≤ q := Nat.zero_le _
    have h2 : q ≤ 3 := hhi 3 30 rfl rfl
    rcases (show q = 0 ∨ q = 1 ∨ q = 2 ∨ q = 3 by omega) with rfl | rfl | rfl | rfl
    · skip
      obtain ⟨hX, HH⟩ := hF
      exact Gives.run rfl (r_loadA (cs' := #[.slice (ownA ka) la.length ca, .slice (ownA ko) lo.length co]) agg42 siz42 (HH.get (k := 2) rfl) (off := 0) rfl (by exact Nat.le_of_ble_eq_true rfl) (by rfl)) ⟨rfl, rfl⟩
    · skip
      obtain ⟨e2, hX, HH⟩ := hF
      exact Gives.run rfl (r_loadA (cs' := #[.slice (ownA ka) la.length ca, .slice (ownA ko) lo.length co]) agg42 siz42 (HH.get (k := 2) rfl) (off := 0) rfl (by exact Nat.le_of_ble_eq_true rfl) (by rfl)) ⟨rfl, rfl⟩
    · skip
      obtain ⟨e2, e14, hX, HH⟩ := hF
      exact Gives.run rfl (r_loadA (cs' := #[.slice (ownA ka) la.length ca, .slice (ownA ko) lo.length co]) agg42 siz42 (HH.get (k := 2) rfl) (off := 0) rfl (by exact Nat.le_of_ble_eq_true rfl) (by rfl)) ⟨rfl, rfl⟩
    · skip
      obtain ⟨e2, e14, e23, hX, HH⟩ := hF
      exact Gives.run rfl (r_loadA (cs' := #[.slice (ownA ka) la.length ca, .slice (ownA ko) lo.length co]) agg42 siz42 (HH.get (k := 2) rfl) (off := 0) rfl (by exact Nat.le_of_ble_eq_true rfl) (by rfl)) ⟨rfl, rfl⟩
  refine WalkC.look rfl (fun _ => .iface T20 (x21)) (fun _ _ _ => rfl) (fun q r uw _ _ _ _ => Gives.run rfl (r_move (v := .iface T20 (x21)) rfl) ⟨rfl, rfl⟩) ?_
  refine WalkC.eff 0 rfl (fun r uw28 hF30 => ?_) ?_
  · skip
    obtain ⟨hX, H29⟩ := hF30
    dsimp only [List.take, List.map, List.cons_append, List.nil_append]
    refine Gives.ofW (d := 135) rfl rfl (fun Q' hK => ?_)
    refine c_call (vs := [.iface T20 (x21)]) call49 rfl (code_ok c 1 w10.heap.size (.iface T20 (x21)) uw28 (Chg.gl H29.chg (fun x => x) hG) ((Er.chgs (((Ext.chg (M := fun x => x = b1) hE23).trans (hC27.mono (M' := fun x => x = b1) (fun _ h => by subst h; simp))).trans (Ext.chg (M := fun x => x = b1) hX)) (fun x h1 h2 h3 => by have := hE23.size; have := hC27.size; have := hX.size; rcases h3 with rfl <;> omega) hEr17))) ?_
    rintro _ w31 ⟨rfl, hE32⟩
    have H33 := H29.ext hE32
    exact hK _ _ ⟨rfl, (hX.trans hE32), H33⟩
  refine WalkC.look rfl (fun _ => i64 (c)) (fun _ _ _ => rfl) (fun q r uw _ _ _ _ => Gives.run rfl (r_move (v := i64 (c)) rfl) ⟨rfl, rfl⟩) ?_
  refine WalkC.look rfl (fun _ => .bool (true)) (fun _ _ _ => rfl) (fun q r uw hlo hhi hle hF => ?_) ?_
  · skip
    have h1 : 1 ≤ q := hlo 0 2 rfl rfl
    have h2 : q ≤ 1 := hhi 1 14 rfl rfl
    rcases (show q = 1 by omega) with rfl
    · skip
      obtain ⟨e2, hX, HH⟩ := hF
      dsimp only
      rw [e2]
      exact Gives.run rfl ((r_eqlI (a := c) (b := c) rfl rfl).as (v' := .bool (true)) (by simp)) ⟨rfl, rfl⟩
  refine WalkC.look rfl (fun _ => .bool (true)) (fun _ _ _ => rfl) (fun q r uw _ _ _ _ => Gives.run rfl (r_move (v := .bool (true)) rfl) ⟨rfl, rfl⟩) ?_
  refine WalkC.look rfl (fun _ => .iface T20 (x21)) (fun _ _ _ => rfl) (fun q r uw _ _ _ _ => Gives.runW (wantedSome (d' := 138) (b := true) rfl rfl rfl) (r_move (v := .iface T20 (x21)) rfl) ⟨rfl, rfl⟩) ?_
  refine WalkC.look rfl (fun _ => .bool (false)) (fun _ _ _ => rfl) (fun q r uw _ _ _ _ => Gives.runW (wantedSome (d' := 138) (b := true) rfl rfl rfl) (r_eqlIN isI28 rfl rfl) ⟨rfl, rfl⟩) ?_
  refine WalkC.look rfl (fun _ => i64 (c)) (fun _ _ _ => rfl) (fun q r uw _ _ _ _ => Gives.runW (wantedSome (d' := 138) (b := true) rfl rfl rfl) (r_move (v := i64 (c)) rfl) ⟨rfl, rfl⟩) ?_
  refine WalkC.look rfl (fun _ => .bool (false)) (fun _ _ _ => rfl) (fun q r uw _ _ _ _ => Gives.runW (wantedSome (d' := 138) (b := true) rfl rfl rfl) ((r_eqlI (a := c) (b := (0 : Int)) rfl rfl).as (v' := .bool (false)) (by simp [hc])) ⟨rfl, rfl⟩) ?_
  refine WalkC.look rfl (fun _ => .bool (true)) (fun _ _ _ => rfl) (fun q r uw _ _ _ _ => Gives.runW (wantedSome (d' := 138) (b := true) rfl rfl rfl) ((r_eqlB und4 (a := false) (b := false) rfl rfl).as (v' := .bool (true)) (by rfl)) ⟨rfl, rfl⟩) ?_
  refine WalkC.look rfl (fun _ => .bool (true)) (fun _ _ _ => rfl) (fun q r uw _ _ _ _ => Gives.run rfl (r_pickT (u := .bool (true)) rfl rfl) ⟨rfl, rfl⟩) ?_
  refine WalkC.look rfl (fun _ => .bool (true)) (fun _ _ _ => rfl) (fun q r uw _ _ _ _ => Gives.run rfl (r_move (v := .bool (true)) rfl) ⟨rfl, rfl⟩) ?_
  refine WalkC.look rfl (fun _ => .pointer (some ⟨b, 0, none⟩)) (fun _ _ _ => rfl) (fun q r uw _ _ _ _ => Gives.runW (wantedSome (d' := 145) (b := true) rfl rfl rfl) (r_move (v := .pointer (some ⟨b, 0, none⟩)) rfl) ⟨rfl, rfl⟩) ?_
  refine WalkC.eff 1 rfl (fun r uw34 hF36 => ?_) ?_
  · skip
    obtain ⟨e2, hX, H35⟩ := hF36
    dsimp only [List.take, List.map, List.cons_append, List.nil_append]
    rw [e2]
    refine Gives.ofW (d := 147) rfl rfl (fun Q' hK => ?_)
    refine caAny (wantedSome (d' := 145) (b := true) rfl rfl rfl) (Enters.callL (vs := [.pointer (some ⟨b, 0, none⟩), i64 ((0 : Int))]) call15 rfl) (len_0 b a o uw34 (H35.get (k := 5) rfl)) ?_
    rintro _ w37 ⟨rfl, hE38⟩
    have H39 := H35.ext hE38
    exact hK _ _ ⟨rfl, rfl, (hX.trans hE38), H39⟩
  refine WalkC.look rfl (fun _ => .pointer (some ⟨b1, 0, none⟩)) (fun _ _ _ => rfl) (fun q r uw _ _ _ _ => Gives.runW (wantedSome (d' := 145) (b := true) rfl rfl rfl) (r_fieldAddr (off' := 0) fld42_0 (by decide) (b := b1) (off := 0) rfl (by omega)) ⟨rfl, rfl⟩) ?_
  refine WalkC.look rfl (fun _ => .pointer (some ⟨b1, 0, none⟩)) (fun _ _ _ => rfl) (fun q r uw _ _ _ _ => Gives.runW (wantedSome (d' := 145) (b := true) rfl rfl rfl) (r_indexA (off' := 0) (j := 0) arr40 (b := b1) (off := 0) rfl rfl (by first | rfl | omega | (simp; omega)) (by omega) (by omega)) ⟨rfl, rfl⟩) ?_
  refine WalkC.look rfl (fun _ => .slice (ownA ka) la.length ca) (fun _ _ _ => rfl) (fun q r uw hlo hhi hle hF => ?_) ?_
  · skip
    have h1 : 1 ≤ q := hlo 0 2 rfl rfl
    have h2 : q ≤ 2 := hhi 2 23 rfl rfl
    rcases (show q = 1 ∨ q = 2 by omega) with rfl | rfl
    · skip
      obtain ⟨e2, hX, HH⟩ := hF
      exact Gives.runW (wantedSome (d' := 145) (b := true) rfl rfl rfl) (r_loadC (v := .slice (ownA ka) la.length ca) one39 (HH.get (k := 2) rfl) (off := 0) rfl (by rfl)) ⟨rfl, rfl⟩
    · skip
      obtain ⟨e2, e14, hX, HH⟩ := hF
      exact Gives.runW (wantedSome (d' := 145) (b := true) rfl rfl rfl) (r_loadC (v := .slice (ownA ka) la.length ca) one39 (HH.get (k := 2) rfl) (off := 0) rfl (by rfl)) ⟨rfl, rfl⟩
  refine WalkC.look rfl (fun _ => i64 ((la.length : Nat))) (fun _ _ _ => rfl) (fun q r uw _ _ _ _ => Gives.runW (wantedSome (d' := 145) (b := true) rfl rfl rfl) (r_lenS sli39 (a := ownA ka) (m := la.length) (c := ca) rfl) ⟨rfl, rfl⟩) ?_
  refine WalkC.look rfl (fun _ => .bool (true)) (fun _ _ _ => rfl) (fun q r uw hlo hhi hle hF => ?_) ?_
  · skip
    have h1 : 2 ≤ q := hlo 1 14 rfl rfl
    have h2 : q ≤ 2 := hhi 2 23 rfl rfl
    rcases (show q = 2 by omega) with rfl
    · skip
      obtain ⟨e2, e14, hX, HH⟩ := hF
      dsimp only
      rw [e14]
      exact Gives.runW (wantedSome (d' := 145) (b := true) rfl rfl rfl) ((r_eqlI (a := (a.fs.length : Nat)) (b := (la.length : Nat)) rfl rfl).as (v' := .bool (true)) (by exact congrArg Value.bool (decide_eq_true (by first | exact congrArg (fun q : Nat => (q : Int)) hlA | exact congrArg (fun q : Nat => (q : Int)) hlO)))) ⟨rfl, rfl⟩
  refine WalkC.look rfl (fun _ => .bool (true)) (fun _ _ _ => rfl) (fun q r uw _ _ _ _ => Gives.run rfl (r_pickT (u := .bool (true)) rfl rfl) ⟨rfl, rfl⟩) ?_
  refine WalkC.look rfl (fun _ => .bool (true)) (fun _ _ _ => rfl) (fun q r uw _ _ _ _ => Gives.run rfl (r_move (v := .bool (true)) rfl) ⟨rfl, rfl⟩) ?_
  refine WalkC.look rfl (fun _ => .pointer (some ⟨b, 0, none⟩)) (fun _ _ _ => rfl) (fun q r uw _ _ _ _ => Gives.runW (wantedSome (d' := 154) (b := true) rfl rfl rfl) (r_move (v := .pointer (some ⟨b, 0, none⟩)) rfl) ⟨rfl, rfl⟩) ?_
  refine WalkC.eff 2 rfl (fun r uw40 hF42 => ?_) ?_
  · skip
    obtain ⟨e2, e14, hX, H41⟩ := hF42
    dsimp only [List.take, List.map, List.cons_append, List.nil_append]
    rw [e2, e14]
    refine Gives.ofW (d := 156) rfl rfl (fun Q' hK => ?_)
    refine caAny (wantedSome (d' := 154) (b := true) rfl rfl rfl) (Enters.callL (vs := [.pointer (some ⟨b, 0, none⟩), i64 ((1 : Int))]) call15 rfl) (len_1 b o a uw40 (H41.get (k := 5) rfl)) ?_
    rintro _ w43 ⟨rfl, hE44⟩
    have H45 := H41.ext hE44
    exact hK _ _ ⟨rfl, rfl, rfl, (hX.trans hE44), H45⟩
  refine WalkC.look rfl (fun _ => .pointer (some ⟨b1, 0, none⟩)) (fun _ _ _ => rfl) (fun q r uw _ _ _ _ => Gives.runW (wantedSome (d' := 154) (b := true) rfl rfl rfl) (r_fieldAddr (off' := 0) fld42_0 (by decide) (b := b1) (off := 0) rfl (by omega)) ⟨rfl, rfl⟩) ?_
  refine WalkC.look rfl (fun _ => .pointer (some ⟨b1, 1, none⟩)) (fun _ _ _ => rfl) (fun q r uw _ _ _ _ => Gives.runW (wantedSome (d' := 154) (b := true) rfl rfl rfl) (r_indexA (off' := 1) (j := 1) arr40 (b := b1) (off := 0) rfl rfl (by first | rfl | omega | (simp; omega)) (by omega) (by omega)) ⟨rfl, rfl⟩) ?_
  refine WalkC.look rfl (fun _ => .slice (ownA ko) lo.length co) (fun _ _ _ => rfl) (fun q r uw hlo hhi hle hF => ?_) ?_
  · skip
    have h1 : 2 ≤ q := hlo 1 14 rfl rfl
    have h2 : q ≤ 4 := hle
    rcases (show q = 2 ∨ q = 3 ∨ q = 4 by omega) with rfl | rfl | rfl
    · skip
      obtain ⟨e2, e14, hX, HH⟩ := hF
      exact Gives.runW (wantedSome (d' := 154) (b := true) rfl rfl rfl) (r_loadC (v := .slice (ownA ko) lo.length co) one39 (HH.get (k := 2) rfl) (off := 1) rfl (by rfl)) ⟨rfl, rfl⟩
    · skip
      obtain ⟨e2, e14, e23, hX, HH⟩ := hF
      exact Gives.runW (wantedSome (d' := 154) (b := true) rfl rfl rfl) (r_loadC (v := .slice (ownA ko) lo.length co) one39 (HH.get (k := 2) rfl) (off := 1) rfl (by rfl)) ⟨rfl, rfl⟩
    · skip
      obtain ⟨e2, e14, e23, e30, hX, HH⟩ := hF
      exact Gives.runW (wantedSome (d' := 154) (b := true) rfl rfl rfl) (r_loadC (v := .slice (ownA ko) lo.length co) one39 (HH.get (k := 2) rfl) (off := 1) rfl (by rfl)) ⟨rfl, rfl⟩
  refine WalkC.look rfl (fun _ => i64 ((lo.length : Nat))) (fun _ _ _ => rfl) (fun q r uw _ _ _ _ => Gives.runW (wantedSome (d' := 154) (b := true) rfl rfl rfl) (r_lenS sli39 (a := ownA ko) (m := lo.length) (c := co) rfl) ⟨rfl, rfl⟩) ?_
  refine WalkC.look rfl (fun _ => .bool (true)) (fun _ _ _ => rfl) (fun q r uw hlo hhi hle hF => ?_) ?_
  · skip
    have h1 : 3 ≤ q := hlo 2 23 rfl rfl
    have h2 : q ≤ 4 := hle
    rcases (show q = 3 ∨ q = 4 by omega) with rfl | rfl
    · skip
      obtain ⟨e2, e14, e23, hX, HH⟩ := hF
      dsimp only
      rw [e23]
      exact Gives.runW (wantedSome (d' := 154) (b := true) rfl rfl rfl) ((r_eqlI (a := (o.fs.length : Nat)) (b := (lo.length : Nat)) rfl rfl).as (v' := .bool (true)) (by exact congrArg Value.bool (decide_eq_true (by first | exact congrArg (fun q : Nat => (q : Int)) hlA | exact congrArg (fun q : Nat => (q : Int)) hlO)))) ⟨rfl, rfl⟩
    · skip
      obtain ⟨e2, e14, e23, e30, hX, HH⟩ := hF
      dsimp only
      rw [e23]
      exact Gives.runW (wantedSome (d' := 154) (b := true) rfl rfl rfl) ((r_eqlI (a := (o.fs.length : Nat)) (b := (lo.length : Nat)) rfl rfl).as (v' := .bool (true)) (by exact congrArg Value.bool (decide_eq_true (by first | exact congrArg (fun q : Nat => (q : Int)) hlA | exact congrArg (fun q : Nat => (q : Int)) hlO)))) ⟨rfl, rfl⟩
  refine WalkC.look rfl (fun _ => .bool (true)) (fun _ _ _ => rfl) (fun q r uw _ _ _ _ => Gives.run rfl (r_pickT (u := .bool (true)) rfl rfl) ⟨rfl, rfl⟩) ?_
  refine WalkC.eff 3 rfl (fun r uw46 hF48 => ?_) ?_
  · skip
    obtain ⟨e2, e14, e23, hX, H47⟩ := hF48
    dsimp only [List.take, List.map, List.cons_append, List.nil_append]
    rw [e2, e14, e23]
    refine Gives.ofW0 rfl (fun Q' hK => ?_)
    refine d_store (k := 0) (v := .agg #[.slice (ownA ka) la.length ca, .slice (ownA ko) lo.length co]) (cs' := #[.slice (ownA ka) la.length ca, .slice (ownA ko) lo.length co]) H47 rfl rfl rfl siz42 (by rfl) (by intro u hu; simp [Value.cells] at hu; first | (subst hu; rfl) | (rcases hu with rfl | rfl <;> rfl)) (by exact Nat.le_of_ble_eq_true rfl) (by rfl) ?_
    intro w49 H50 hC51
    have H50' := H50.as (L' := ((some b9, .cells #[.slice (ownA ka) la.length ca, .slice (ownA ko) lo.length co] 42 (0, 0)) :: (some b5, .cells #[i64 ((4 : Int)), i64 (way), i64 (i), i64 (bit), .slice fa bs.length fc] 69 (0, 0)) :: (some b1, .cells #[.slice (ownA ka) la.length ca, .slice (ownA ko) lo.length co] 42 (0, 0)) :: (ka, sob ET 9 la spa) :: (ko, sob ET 9 lo spo) :: (some b, .cells (nv false a o) 76 (0, 0)) :: (a.key, sob ES 30 (svs a.fs) a.sp) :: (o.key, sob ES 30 (svs o.fs) o.sp) :: (frs 5 a.fs ++ (frs 5 o.fs ++ X)))) rfl
    clear H50
    exact hK _ (fun _ => ⟨rfl, rfl, rfl, trivial, ((Ext.chg hX).trans hC51), H50'⟩)
  refine WalkC.look rfl (fun _ => .bool (true)) (fun _ _ _ => rfl) (fun q r uw _ _ _ _ => Gives.run rfl (r_assign (v := .bool (true)) rfl) ⟨rfl, rfl⟩) ?_
  refine WalkC.nil ?_
  intro r52 w53 hF55
  obtain ⟨e2, e14, e23, e30, hX, H54⟩ := hF55
  dsimp only
  rw [e2, e14, e23]
  refine wnil ?_
  refine thenNormal ?_
  refine retAny ?_
  refine retG (rs := [.cell 6 42, .tmp 7]) (vs := [.agg #[.slice (ownA ka) la.length ca, .slice (ownA ko) lo.length co], .bool (true)]) rfl ⟨r_loadA (cs' := #[.slice (ownA ka) la.length ca, .slice (ownA ko) lo.length co]) agg42 siz42 (H54.get (k := 0) rfl) (off := 0) rfl (by exact Nat.le_of_ble_eq_true rfl) (by rfl), ⟨rfl, rfl⟩, trivial⟩ ?_
  have H56 := (((H54.dropk 2).dropk 1).dropk 0)
  have H57 := Hp.toR [(ka, sob ET 9 la spa), (ko, sob ET 9 lo spo)] (F := frs 5 a.fs) (G := frs 5 o.fs) (X := X) H56
  exact ⟨_, rfl, a, ka, ca, spa, la, rfl, ha, hSa, hea, hla, by intro q hq; exact hza q hq, H57⟩

theorem play_fliperr_x (b : Nat) (a o : Wy) (ha : a.ok) (ho : o.ok) (ka ko : Option Nat) (ca co : Nat) (spa spo : List Value) (la lo : List (List (BitVec 8))) (hSa : Sl ET ka la ca spa) (hSo : Sl ET ko lo co spo) (hea : bss a.fs = la) (heo : bss o.fs = lo) (hla : la.length ≤ 64) (hza : ∀ q ∈ la, q.length ≤ 140737488351232) (X : List (Option Nat × Obj)) (fa : Option Addr) (fc : Nat) (bs : List (BitVec 8)) (hbl : bs.length ≤ 140737488351232) (way i bit : Int) (c : Int) (hc : c ≠ 0) (w₀ w : World) (hG : Gl w₀) (hFr : Rd E8 w₀ fa bs) (H : Hp No w₀ w ((some b, .cells (nv false a o) 76 (0, 0)) :: (a.key, sob ES 30 (svs a.fs) a.sp) :: (o.key, sob ES 30 (svs o.fs) o.sp) :: (frs 5 a.fs ++ (frs 5 o.fs ++ ((ka, sob ET 9 la spa) :: (ko, sob ET 9 lo spo) :: X))))) (hnet : ∀ (fv : Value) (R : List (Option Nat × Obj)) (w1 : World), Hp No w₀ w1 ((some b, .cells (nv false a o) 76 (0, 0)) :: (a.key, sob ES 30 (svs a.fs) a.sp) :: (o.key, sob ES 30 (svs o.fs) o.sp) :: (frs 5 a.fs ++ (frs 5 o.fs ++ R))) → Calls Tryd.prog 21 [.pointer (some ⟨b, 0, none⟩), i64 way, i64 i, i64 bit].toArray w1 (Ret fun v w' => (∃ ev, v = ev ∧ Er w1.heap.size w' c 1 ev) ∧ Ext w1 w')) (href : ∀ (R : List (Option Nat × Obj)) (w1 : World), Hp No w₀ w1 ((ka, sob ET 9 la spa) :: (ko, sob ET 9 lo spo) :: R) → Calls Tryd.prog 22 [.agg #[.slice (ownA ka) la.length ca, .slice (ownA ko) lo.length co], i64 way, i64 i, i64 bit].toArray w1 (Ret fun v w' => v = .tuple #[.agg #[.slice (ownA ka) la.length ca, .slice (ownA ko) lo.length co], i64 c] ∧ Ext w1 w')) : Calls Tryd.prog 31 [.pointer (some ⟨b, 0, none⟩), .agg #[.slice (ownA ka) la.length ca, .slice (ownA ko) lo.length co], .agg #[i64 ((5 : Int)), i64 (way), i64 (i), i64 (bit), .slice fa bs.length fc]].toArray w (Ret fun v w' => ∃ (a' : Wy) (ka' : Option Nat) (ca' : Nat) (spa' : List Value) (la' : List (List (BitVec 8))), v = .tuple #[.agg #[.slice (ownA ka') la'.length ca', .slice (ownA ko) lo.length co], .bool true] ∧ a'.ok ∧ Sl ET ka' la' ca' spa' ∧ bss a'.fs = la' ∧ la'.length ≤ 64 ∧ (∀ q ∈ la', q.length ≤ 140737488351232) ∧ Hp No w₀ w' ((some b, .cells (nv false a' o) 76 (0, 0)) :: (a'.key, sob ES 30 (svs a'.fs) a'.sp) :: (o.key, sob ES 30 (svs o.fs) o.sp) :: (frs 5 a'.fs ++ (frs 5 o.fs ++ ((ka', sob ET 9 la' spa') :: (ko, sob ET 9 lo spo) :: X))))) := by
  have H := (Hp.fromR [(ka, sob ET 9 la spa), (ko, sob ET 9 lo spo)] (F := frs 5 a.fs) (G := frs 5 o.fs) (X := X) H)
  refine enter (n := 163) Tryd.func31 rfl rfl (Nat.le_of_ble_eq_true rfl) ?_
  refine seqRegion ?_
  refine q_box (v := .agg #[.slice (ownA ka) la.length ca, .slice (ownA ko) lo.length co]) (o := .cells #[.slice (ownA ka) la.length ca, .slice (ownA ko) lo.length co] 42 (0, 0)) H rfl (by rfl) ?_
  intro b1 w2 hb1 H3 hE4
  refine q_box (v := .agg #[i64 ((5 : Int)), i64 (way), i64 (i), i64 (bit), .slice fa bs.length fc]) (o := .cells #[i64 ((5 : Int)), i64 (way), i64 (i), i64 (bit), .slice fa bs.length fc] 69 (0, 0)) H3 rfl (by rfl) ?_
  intro b5 w6 hb5 H7 hE8
  refine q_alloc (o := .cells #[.slice none 0 0, .slice none 0 0] 42 (0, 0)) H7 zer42 (by kernel_rfl) ?_
  intro b9 w10 hb9 H11 hE12
  refine sq (r_assign (v := .bool (false)) rfl) ?_
  refine wend ?_
  refine seqRegion ?_
  refine sq (r_assign (v := .nilIface) rfl) ?_
  refine wend ?_
  refine seqRegion ?_
  refine sq (r_assign (v := i64 ((0 : Int))) rfl) ?_
  refine wend ?_
  refine seqAny ?_
  refine seqRegion ?_
  refine sq (r_fieldAddr (off' := 0) fld69_0 (by decide) (b := b5) (off := 0) rfl (by omega)) ?_
  refine sq (r_loadC (v := i64 ((5 : Int))) one3 (H11.get (k := 1) rfl) (off := 0) rfl (by rfl)) ?_
  refine wend ?_
  refine blockAny ?_
  refine seqRegion ?_
  refine sq ((r_eqlI (a := (5 : Int)) (b := (1 : Int)) rfl rfl).as (v' := .bool (false)) (by rfl)) ?_
  refine sq (r_assign (v := .bool (false)) rfl) ?_
  refine wend ?_
  refine condFalse rfl ?_
  refine seqAny ?_
  refine seqRegion ?_
  refine sq ((r_eqlI (a := (5 : Int)) (b := (2 : Int)) rfl rfl).as (v' := .bool (false)) (by rfl)) ?_
  refine sq (r_assign (v := .bool (false)) rfl) ?_
  refine wend ?_
  refine condFalse rfl ?_
  refine oneRegion ?_
  refine sq ((r_eqlI (a := (5 : Int)) (b := (3 : Int)) rfl rfl).as (v' := .bool (false)) (by rfl)) ?_
  refine sq (r_assign (v := .bool (false)) rfl) ?_
  refine wnil ?_
  refine thenNormal ?_
  refine condFalse rfl ?_
  refine seqRegion ?_
  refine sq ((r_eqlI (a := (5 : Int)) (b := (4 : Int)) rfl rfl).as (v' := .bool (false)) (by rfl)) ?_
  refine sq (r_assign (v := .bool (false)) rfl) ?_
  refine wend ?_
  refine condFalse rfl ?_
  refine seqRegion ?_
  refine sq ((r_eqlI (a := (5 : Int)) (b := (5 : Int)) rfl rfl).as (v' := .bool (true)) (by rfl)) ?_
  refine sq (r_assign (v := .bool (true)) rfl) ?_
  refine wend ?_
  refine condTrue rfl ?_
  refine seqRegion ?_
  refine sq (r_move (v := .pointer (some ⟨b, 0, none⟩)) rfl) ?_
  refine sq (r_fieldAddr (off' := 1) fld69_1 (by decide) (b := b5) (off := 0) rfl (by omega)) ?_
  refine sq (r_loadC (v := i64 (way)) one3 (H11.get (k := 1) rfl) (off := 1) rfl (by rfl)) ?_
  refine sq (r_fieldAddr (off' := 2) fld69_2 (by decide) (b := b5) (off := 0) rfl (by omega)) ?_
  refine sq (r_loadC (v := i64 (i)) one3 (H11.get (k := 1) rfl) (off := 2) rfl (by rfl)) ?_
  refine sq (r_fieldAddr (off' := 3) fld69_3 (by decide) (b := b5) (off := 0) rfl (by omega)) ?_
  refine sq (r_loadC (v := i64 (bit)) one3 (H11.get (k := 1) rfl) (off := 3) rfl (by rfl)) ?_
  have H13 := Hp.toR [(some b9, .cells #[.slice none 0 0, .slice none 0 0] 42 (0, 0)), (some b5, .cells #[i64 ((5 : Int)), i64 (way), i64 (i), i64 (bit), .slice fa bs.length fc] 69 (0, 0)), (some b1, .cells #[.slice (ownA ka) la.length ca, .slice (ownA ko) lo.length co] 42 (0, 0)), (ka, sob ET 9 la spa), (ko, sob ET 9 lo spo)] (F := frs 5 a.fs) (G := frs 5 o.fs) (X := X) H11
  have := H11.lt (List.mem_of_getElem? (i := 0) rfl) rfl
  have := H11.lt (List.mem_of_getElem? (i := 1) rfl) rfl
  have := H11.lt (List.mem_of_getElem? (i := 2) rfl) rfl
  have := H11.lt (List.mem_of_getElem? (i := 5) rfl) rfl
  refine c_call (vs := [.pointer (some ⟨b, 0, none⟩), i64 (way), i64 (i), i64 (bit)]) call21 rfl (hnet (.nilIface) ([(some b9, .cells #[.slice none 0 0, .slice none 0 0] 42 (0, 0)), (some b5, .cells #[i64 ((5 : Int)), i64 (way), i64 (i), i64 (bit), .slice fa bs.length fc] 69 (0, 0)), (some b1, .cells #[.slice (ownA ka) la.length ca, .slice (ownA ko) lo.length co] 42 (0, 0)), (ka, sob ET 9 la spa), (ko, sob ET 9 lo spo)] ++ X) w10 H13) ?_
  rintro _ w14 ⟨⟨v16, rfl, hEr17⟩, hE18⟩
  have H19 := H11.ext hE18
  obtain ⟨T20, x21, rfl⟩ := hEr17.iface
  refine sq (r_assign (v := .iface T20 (x21)) rfl) ?_
  refine wend ?_
  refine oneRegion ?_
  refine sq (r_loadA (cs' := #[.slice (ownA ka) la.length ca, .slice (ownA ko) lo.length co]) agg42 siz42 (H19.get (k := 2) rfl) (off := 0) rfl (by exact Nat.le_of_ble_eq_true rfl) (by rfl)) ?_
  refine sq (r_fieldAddr (off' := 1) fld69_1 (by decide) (b := b5) (off := 0) rfl (by omega)) ?_
  refine sq (r_loadC (v := i64 (way)) one3 (H19.get (k := 1) rfl) (off := 1) rfl (by rfl)) ?_
  refine sq (r_fieldAddr (off' := 2) fld69_2 (by decide) (b := b5) (off := 0) rfl (by omega)) ?_
  refine sq (r_loadC (v := i64 (i)) one3 (H19.get (k := 1) rfl) (off := 2) rfl (by rfl)) ?_
  refine sq (r_fieldAddr (off' := 3) fld69_3 (by decide) (b := b5) (off := 0) rfl (by omega)) ?_
  refine sq (r_loadC (v := i64 (bit)) one3 (H19.get (k := 1) rfl) (off := 3) rfl (by rfl)) ?_
  refine c_call (vs := [.agg #[.slice (ownA ka) la.length ca, .slice (ownA ko) lo.length co], i64 (way), i64 (i), i64 (bit)]) call22 rfl (href _ w14 (((H19.drop1).drop1).drop1)) ?_
  rintro _ w22 ⟨rfl, hE23⟩
  have H24 := H19.ext hE23
  refine sq (r_move (v := .tuple #[.agg #[.slice (ownA ka) la.length ca, .slice (ownA ko) lo.length co], i64 (c)]) rfl) ?_
  refine sq (r_extract (vs := #[.agg #[.slice (ownA ka) la.length ca, .slice (ownA ko) lo.length co], i64 (c)]) rfl rfl) ?_
  refine sq (r_extract (vs := #[.agg #[.slice (ownA ka) la.length ca, .slice (ownA ko) lo.length co], i64 (c)]) rfl rfl) ?_
  refine d_store (k := 2) (v := .agg #[.slice (ownA ka) la.length ca, .slice (ownA ko) lo.length co]) (cs' := #[.slice (ownA ka) la.length ca, .slice (ownA ko) lo.length co]) H24 rfl rfl rfl siz42 (by rfl) (by intro u hu; simp [Value.cells] at hu; first | (subst hu; rfl) | (rcases hu with rfl | rfl <;> rfl)) (by exact Nat.le_of_ble_eq_true rfl) (by rfl) ?_
  intro w25 H26 hC27
  have H26' := H26.as (L' := ((some b9, .cells #[.slice none 0 0, .slice none 0 0] 42 (0, 0)) :: (some b5, .cells #[i64 ((5 : Int)), i64 (way), i64 (i), i64 (bit), .slice fa bs.length fc] 69 (0, 0)) :: (some b1, .cells #[.slice (ownA ka) la.length ca, .slice (ownA ko) lo.length co] 42 (0, 0)) :: (ka, sob ET 9 la spa) :: (ko, sob ET 9 lo spo) :: (some b, .cells (nv false a o) 76 (0, 0)) :: (a.key, sob ES 30 (svs a.fs) a.sp) :: (o.key, sob ES 30 (svs o.fs) o.sp) :: (frs 5 a.fs ++ (frs 5 o.fs ++ X)))) rfl
  clear H26
  refine sq (r_assign (v := i64 (c)) rfl) ?_
  refine wnil ?_
  refine blockNormal ?_
  refine thenNormal ?_
  refine seqAny ?_
  have hlA : a.fs.length = (la).length := by have h := congrArg List.length (show bss a.fs = la from hea); rwa [bss_len] at h
  have hlO : o.fs.length = lo.length := by have h := congrArg List.length heo; rwa [bss_len] at h
  refine drawC (m := 32) [0, 0, 2, 0, 14, 30, 62, 126, 62, 318, 1022, 2046, 4094, 8190, 16382, 8190, 40958, 106494, 237566, 524286, 1048574, 2097150, 4194302, 8388606, 4194302, 20971518, 54525950, 121634814, 268435454, 536870910, 16777215, 2147483647] [2, 14, 23, 30] (fun q vs w' => match q, vs with | 0, [] => Ext w25 w' ∧ Hp No w₀ w' ((some b9, .cells #[.slice none 0 0, .slice none 0 0] 42 (0, 0)) :: (some b5, .cells #[i64 ((5 : Int)), i64 (way), i64 (i), i64 (bit), .slice fa bs.length fc] 69 (0, 0)) :: (some b1, .cells #[.slice (ownA ka) la.length ca, .slice (ownA ko) lo.length co] 42 (0, 0)) :: (ka, sob ET 9 la spa) :: (ko, sob ET 9 lo spo) :: (some b, .cells (nv false a o) 76 (0, 0)) :: (a.key, sob ES 30 (svs a.fs) a.sp) :: (o.key, sob ES 30 (svs o.fs) o.sp) :: (frs 5 a.fs ++ (frs 5 o.fs ++ X))) | 1, [v0] => v0 = i64 (c) ∧ Ext w25 w' ∧ Hp No w₀ w' ((some b9, .cells #[.slice none 0 0, .slice none 0 0] 42 (0, 0)) :: (some b5, .cells #[i64 ((5 : Int)), i64 (way), i64 (i), i64 (bit), .slice fa bs.length fc] 69 (0, 0)) :: (some b1, .cells #[.slice (ownA ka) la.length ca, .slice (ownA ko) lo.length co] 42 (0, 0)) :: (ka, sob ET 9 la spa) :: (ko, sob ET 9 lo spo) :: (some b, .cells (nv false a o) 76 (0, 0)) :: (a.key, sob ES 30 (svs a.fs) a.sp) :: (o.key, sob ES 30 (svs o.fs) o.sp) :: (frs 5 a.fs ++ (frs 5 o.fs ++ X))) | 2, [v0, v1] => v0 = i64 (c) ∧ v1 = i64 ((a.fs.length : Nat)) ∧ Ext w25 w' ∧ Hp No w₀ w' ((some b9, .cells #[.slice none 0 0, .slice none 0 0] 42 (0, 0)) :: (some b5, .cells #[i64 ((5 : Int)), i64 (way), i64 (i), i64 (bit), .slice fa bs.length fc] 69 (0, 0)) :: (some b1, .cells #[.slice (ownA ka) la.length ca, .slice (ownA ko) lo.length co] 42 (0, 0)) :: (ka, sob ET 9 la spa) :: (ko, sob ET 9 lo spo) :: (some b, .cells (nv false a o) 76 (0, 0)) :: (a.key, sob ES 30 (svs a.fs) a.sp) :: (o.key, sob ES 30 (svs o.fs) o.sp) :: (frs 5 a.fs ++ (frs 5 o.fs ++ X))) | 3, [v0, v1, v2] => v0 = i64 (c) ∧ v1 = i64 ((a.fs.length : Nat)) ∧ v2 = i64 ((o.fs.length : Nat)) ∧ Ext w25 w' ∧ Hp No w₀ w' ((some b9, .cells #[.slice none 0 0, .slice none 0 0] 42 (0, 0)) :: (some b5, .cells #[i64 ((5 : Int)), i64 (way), i64 (i), i64 (bit), .slice fa bs.length fc] 69 (0, 0)) :: (some b1, .cells #[.slice (ownA ka) la.length ca, .slice (ownA ko) lo.length co] 42 (0, 0)) :: (ka, sob ET 9 la spa) :: (ko, sob ET 9 lo spo) :: (some b, .cells (nv false a o) 76 (0, 0)) :: (a.key, sob ES 30 (svs a.fs) a.sp) :: (o.key, sob ES 30 (svs o.fs) o.sp) :: (frs 5 a.fs ++ (frs 5 o.fs ++ X))) | 4, [v0, v1, v2, _] => v0 = i64 (c) ∧ v1 = i64 ((a.fs.length : Nat)) ∧ v2 = i64 ((o.fs.length : Nat)) ∧ True ∧ Chg (· = b9) w25 w' ∧ Hp No w₀ w' ((some b9, .cells #[.slice (ownA ka) la.length ca, .slice (ownA ko) lo.length co] 42 (0, 0)) :: (some b5, .cells #[i64 ((5 : Int)), i64 (way), i64 (i), i64 (bit), .slice fa bs.length fc] 69 (0, 0)) :: (some b1, .cells #[.slice (ownA ka) la.length ca, .slice (ownA ko) lo.length co] 42 (0, 0)) :: (ka, sob ET 9 la spa) :: (ko, sob ET 9 lo spo) :: (some b, .cells (nv false a o) 76 (0, 0)) :: (a.key, sob ES 30 (svs a.fs) a.sp) :: (o.key, sob ES 30 (svs o.fs) o.sp) :: (frs 5 a.fs ++ (frs 5 o.fs ++ X))) | _, _ => False) mixed (by kernel_rfl) (by kernel_rfl) ⟨Ext.drew _, H26'.drew⟩ ?_
  refine WalkC.look rfl (fun _ => .agg #[.slice (ownA ka) la.length ca, .slice (ownA ko) lo.length co]) (fun _ _ _ => rfl) (fun q r uw hlo hhi hle hF => ?_) ?_
  · skip
    have h1 : 0 ≤ q := Nat.zero_le _
    have h2 : q ≤ 3 := hhi 3 30 rfl rfl
    rcases (show q = 0 ∨ q = 1 ∨ q = 2 ∨ q = 3 by omega) with rfl | rfl | rfl | rfl
    · skip
      obtain ⟨hX, HH⟩ := hF
      exact Gives.run rfl (r_loadA (cs' := #[.slice (ownA ka) la.length ca, .slice (ownA ko) lo.length co]) agg42 siz42 (HH.get (k := 2) rfl) (off := 0) rfl (by exact Nat.le_of_ble_eq_true rfl) (by rfl)) ⟨rfl, rfl⟩
    · skip
      obtain ⟨e2, hX, HH⟩ := hF
      exact Gives.run rfl (r_loadA (cs' := #[.slice (ownA ka) la.length ca, .slice (ownA ko) lo.length co]) agg42 siz42 (HH.get (k := 2) rfl) (off := 0) rfl (by exact Nat.le_of_ble_eq_true rfl) (by rfl)) ⟨rfl, rfl⟩
    · skip
      obtain ⟨e2, e14, hX, HH⟩ := hF
      exact Gives.run rfl (r_loadA (cs' := #[.slice (ownA ka) la.length ca, .slice (ownA ko) lo.length co]) agg42 siz42 (HH.get (k := 2) rfl) (off := 0) rfl (by exact Nat.le_of_ble_eq_true rfl) (by rfl)) ⟨rfl, rfl⟩
    · skip
      obtain ⟨e2, e14, e23, hX, HH⟩ := hF
      exact Gives.run rfl (r_loadA (cs' := #[.slice (ownA ka) la.length ca, .slice (ownA ko) lo.length co]) agg42 siz42 (HH.get (k := 2) rfl) (off := 0) rfl (by exact Nat.le_of_ble_eq_true rfl) (by rfl)) ⟨rfl, rfl⟩
  refine WalkC.look rfl (fun _ => .iface T20 (x21)) (fun _ _ _ => rfl) (fun q r uw _ _ _ _ => Gives.run rfl (r_move (v := .iface T20 (x21)) rfl) ⟨rfl, rfl⟩) ?_
  refine WalkC.eff 0 rfl (fun r uw28 hF30 => ?_) ?_
  · skip
    obtain ⟨hX, H29⟩ := hF30
    dsimp only [List.take, List.map, List.cons_append, List.nil_append]
    refine Gives.ofW (d := 135) rfl rfl (fun Q' hK => ?_)
    refine c_call (vs := [.iface T20 (x21)]) call49 rfl (code_ok c 1 w10.heap.size (.iface T20 (x21)) uw28 (Chg.gl H29.chg (fun x => x) hG) ((Er.chgs (((Ext.chg (M := fun x => x = b1) hE23).trans (hC27.mono (M' := fun x => x = b1) (fun _ h => by subst h; simp))).trans (Ext.chg (M := fun x => x = b1) hX)) (fun x h1 h2 h3 => by have := hE23.size; have := hC27.size; have := hX.size; rcases h3 with rfl <;> omega) hEr17))) ?_
    rintro _ w31 ⟨rfl, hE32⟩
    have H33 := H29.ext hE32
    exact hK _ _ ⟨rfl, (hX.trans hE32), H33⟩
  refine WalkC.look rfl (fun _ => i64 (c)) (fun _ _ _ => rfl) (fun q r uw _ _ _ _ => Gives.run rfl (r_move (v := i64 (c)) rfl) ⟨rfl, rfl⟩) ?_
  refine WalkC.look rfl (fun _ => .bool (true)) (fun _ _ _ => rfl) (fun q r uw hlo hhi hle hF => ?_) ?_
  · skip
    have h1 : 1 ≤ q := hlo 0 2 rfl rfl
    have h2 : q ≤ 1 := hhi 1 14 rfl rfl
    rcases (show q = 1 by omega) with rfl
    · skip
      obtain ⟨e2, hX, HH⟩ := hF
      dsimp only
      rw [e2]
      exact Gives.run rfl ((r_eqlI (a := c) (b := c) rfl rfl).as (v' := .bool (true)) (by simp)) ⟨rfl, rfl⟩
  refine WalkC.look rfl (fun _ => .bool (true)) (fun _ _ _ => rfl) (fun q r uw _ _ _ _ => Gives.run rfl (r_move (v := .bool (true)) rfl) ⟨rfl, rfl⟩) ?_
  refine WalkC.look rfl (fun _ => .iface T20 (x21)) (fun _ _ _ => rfl) (fun q r uw _ _ _ _ => Gives.runW (wantedSome (d' := 138) (b := true) rfl rfl rfl) (r_move (v := .iface T20 (x21)) rfl) ⟨rfl, rfl⟩) ?_
  refine WalkC.look rfl (fun _ => .bool (false)) (fun _ _ _ => rfl) (fun q r uw _ _ _ _ => Gives.runW (wantedSome (d' := 138) (b := true) rfl rfl rfl) (r_eqlIN isI28 rfl rfl) ⟨rfl, rfl⟩) ?_
  refine WalkC.look rfl (fun _ => i64 (c)) (fun _ _ _ => rfl) (fun q r uw _ _ _ _ => Gives.runW (wantedSome (d' := 138) (b := true) rfl rfl rfl) (r_move (v := i64 (c)) rfl) ⟨rfl, rfl⟩) ?_
  refine WalkC.look rfl (fun _ => .bool (false)) (fun _ _ _ => rfl) (fun q r uw _ _ _ _ => Gives.runW (wantedSome (d' := 138) (b := true) rfl rfl rfl) ((r_eqlI (a := c) (b := (0 : Int)) rfl rfl).as (v' := .bool (false)) (by simp [hc])) ⟨rfl, rfl⟩) ?_
  refine WalkC.look rfl (fun _ => .bool (true)) (fun _ _ _ => rfl) (fun q r uw _ _ _ _ => Gives.runW (wantedSome (d' := 138) (b := true) rfl rfl rfl) ((r_eqlB und4 (a := false) (b := false) rfl rfl).as (v' := .bool (true)) (by rfl)) ⟨rfl, rfl⟩) ?_
  refine WalkC.look rfl (fun _ => .bool (true)) (fun _ _ _ => rfl) (fun q r uw _ _ _ _ => Gives.run rfl (r_pickT (u := .bool (true)) rfl rfl) ⟨rfl, rfl⟩) ?_
  refine WalkC.look rfl (fun _ => .bool (true)) (fun _ _ _ => rfl) (fun q r uw _ _ _ _ => Gives.run rfl (r_move (v := .bool (true)) rfl) ⟨rfl, rfl⟩) ?_
  refine WalkC.look rfl (fun _ => .pointer (some ⟨b, 0, none⟩)) (fun _ _ _ => rfl) (fun q r uw _ _ _ _ => Gives.runW (wantedSome (d' := 145) (b := true) rfl rfl rfl) (r_move (v := .pointer (some ⟨b, 0, none⟩)) rfl) ⟨rfl, rfl⟩) ?_
  refine WalkC.eff 1 rfl (fun r uw34 hF36 => ?_) ?_
  · skip
    obtain ⟨e2, hX, H35⟩ := hF36
    dsimp only [List.take, List.map, List.cons_append, List.nil_append]
    rw [e2]
    refine Gives.ofW (d := 147) rfl rfl (fun Q' hK => ?_)
    refine caAny (wantedSome (d' := 145) (b := true) rfl rfl rfl) (Enters.callL (vs := [.pointer (some ⟨b, 0, none⟩), i64 ((0 : Int))]) call15 rfl) (len_0 b a o uw34 (H35.get (k := 5) rfl)) ?_
    rintro _ w37 ⟨rfl, hE38⟩
    have H39 := H35.ext hE38
    exact hK _ _ ⟨rfl, rfl, (hX.trans hE38), H39⟩
  refine WalkC.look rfl (fun _ => .pointer (some ⟨b1, 0, none⟩)) (fun _ _ _ => rfl) (fun q r uw _ _ _ _ => Gives.runW (wantedSome (d' := 145) (b := true) rfl rfl rfl) (r_fieldAddr (off' := 0) fld42_0 (by decide) (b := b1) (off := 0) rfl (by omega)) ⟨rfl, rfl⟩) ?_
  refine WalkC.look rfl (fun _ => .pointer (some ⟨b1, 0, none⟩)) (fun _ _ _ => rfl) (fun q r uw _ _ _ _ => Gives.runW (wantedSome (d' := 145) (b := true) rfl rfl rfl) (r_indexA (off' := 0) (j := 0) arr40 (b := b1) (off := 0) rfl rfl (by first | rfl | omega | (simp; omega)) (by omega) (by omega)) ⟨rfl, rfl⟩) ?_
  refine WalkC.look rfl (fun _ => .slice (ownA ka) la.length ca) (fun _ _ _ => rfl) (fun q r uw hlo hhi hle hF => ?_) ?_
  · skip
    have h1 : 1 ≤ q := hlo 0 2 rfl rfl
    have h2 : q ≤ 2 := hhi 2 23 rfl rfl
    rcases (show q = 1 ∨ q = 2 by omega) with rfl | rfl
    · skip
      obtain ⟨e2, hX, HH⟩ := hF
      exact Gives.runW (wantedSome (d' := 145) (b := true) rfl rfl rfl) (r_loadC (v := .slice (ownA ka) la.length ca) one39 (HH.get (k := 2) rfl) (off := 0) rfl (by rfl)) ⟨rfl, rfl⟩
    · skip
      obtain ⟨e2, e14, hX, HH⟩ := hF
      exact Gives.runW (wantedSome (d' := 145) (b := true) rfl rfl rfl) (r_loadC (v := .slice (ownA ka) la.length ca) one39 (HH.get (k := 2) rfl) (off := 0) rfl (by rfl)) ⟨rfl, rfl⟩
  refine WalkC.look rfl (fun _ => i64 ((la.length : Nat))) (fun _ _ _ => rfl) (fun q r uw _ _ _ _ => Gives.runW (wantedSome (d' := 145) (b := true) rfl rfl rfl) (r_lenS sli39 (a := ownA ka) (m := la.length) (c := ca) rfl) ⟨rfl, rfl⟩) ?_
  refine WalkC.look rfl (fun _ => .bool (true)) (fun _ _ _ => rfl) (fun q r uw hlo hhi hle hF => ?_) ?_
  · skip
    have h1 : 2 ≤ q := hlo 1 14 rfl rfl
    have h2 : q ≤ 2 := hhi 2 23 rfl rfl
    rcases (show q = 2 by omega) with rfl
    · skip
      obtain ⟨e2, e14, hX, HH⟩ := hF
      dsimp only
      rw [e14]
      exact Gives.runW (wantedSome (d' := 145) (b := true) rfl rfl rfl) ((r_eqlI (a := (a.fs.length : Nat)) (b := (la.length : Nat)) rfl rfl).as (v' := .bool (true)) (by exact congrArg Value.bool (decide_eq_true (by first | exact congrArg (fun q : Nat => (q : Int)) hlA | exact congrArg (fun q : Nat => (q : Int)) hlO)))) ⟨rfl, rfl⟩
  refine WalkC.look rfl (fun _ => .bool (true)) (fun _ _ _ => rfl) (fun q r uw _ _ _ _ => Gives.run rfl (r_pickT (u := .bool (true)) rfl rfl) ⟨rfl, rfl⟩) ?_
  refine WalkC.look rfl (fun _ => .bool (true)) (fun _ _ _ => rfl) (fun q r uw _ _ _ _ => Gives.run rfl (r_move (v := .bool (true)) rfl) ⟨rfl, rfl⟩) ?_
  refine WalkC.look rfl (fun _ => .pointer (some ⟨b, 0, none⟩)) (fun _ _ _ => rfl) (fun q r uw _ _ _ _ => Gives.runW (wantedSome (d' := 154) (b := true) rfl rfl rfl) (r_move (v := .pointer (some ⟨b, 0, none⟩)) rfl) ⟨rfl, rfl⟩) ?_
  refine WalkC.eff 2 rfl (fun r uw40 hF42 => ?_) ?_
  · skip
    obtain ⟨e2, e14, hX, H41⟩ := hF42
    dsimp only [List.take, List.map, List.cons_append, List.nil_append]
    rw [e2, e14]
    refine Gives.ofW (d := 156) rfl rfl (fun Q' hK => ?_)
    refine caAny (wantedSome (d' := 154) (b := true) rfl rfl rfl) (Enters.callL (vs := [.pointer (some ⟨b, 0, none⟩), i64 ((1 : Int))]) call15 rfl) (len_1 b o a uw40 (H41.get (k := 5) rfl)) ?_
    rintro _ w43 ⟨rfl, hE44⟩
    have H45 := H41.ext hE44
    exact hK _ _ ⟨rfl, rfl, rfl, (hX.trans hE44), H45⟩
  refine WalkC.look rfl (fun _ => .pointer (some ⟨b1, 0, none⟩)) (fun _ _ _ => rfl) (fun q r uw _ _ _ _ => Gives.runW (wantedSome (d' := 154) (b := true) rfl rfl rfl) (r_fieldAddr (off' := 0) fld42_0 (by decide) (b := b1) (off := 0) rfl (by omega)) ⟨rfl, rfl⟩) ?_
  refine WalkC.look rfl (fun _ => .pointer (some ⟨b1, 1, none⟩)) (fun _ _ _ => rfl) (fun q r uw _ _ _ _ => Gives.runW (wantedSome (d' := 154) (b := true) rfl rfl rfl) (r_indexA (off' := 1) (j := 1) arr40 (b := b1) (off := 0) rfl rfl (by first | rfl | omega | (simp; omega)) (by omega) (by omega)) ⟨rfl, rfl⟩) ?_
  refine WalkC.look rfl (fun _ => .slice (ownA ko) lo.length co) (fun _ _ _ => rfl) (fun q r uw hlo hhi hle hF => ?_) ?_
  · skip
    have h1 : 2 ≤ q := hlo 1 14 rfl rfl
    have h2 : q ≤ 4 := hle
    rcases (show q = 2 ∨ q = 3 ∨ q = 4 by omega) with rfl | rfl | rfl
    · skip
      obtain ⟨e2, e14, hX, HH⟩ := hF
      exact Gives.runW (wantedSome (d' := 154) (b := true) rfl rfl rfl) (r_loadC (v := .slice (ownA ko) lo.length co) one39 (HH.get (k := 2) rfl) (off := 1) rfl (by rfl)) ⟨rfl, rfl⟩
    · skip
      obtain ⟨e2, e14, e23, hX, HH⟩ := hF
      exact Gives.runW (wantedSome (d' := 154) (b := true) rfl rfl rfl) (r_loadC (v := .slice (ownA ko) lo.length co) one39 (HH.get (k := 2) rfl) (off := 1) rfl (by rfl)) ⟨rfl, rfl⟩
    · skip
      obtain ⟨e2, e14, e23, e30, hX, HH⟩ := hF
      exact Gives.runW (wantedSome (d' := 154) (b := true) rfl rfl rfl) (r_loadC (v := .slice (ownA ko) lo.length co) one39 (HH.get (k := 2) rfl) (off := 1) rfl (by rfl)) ⟨rfl, rfl⟩
  refine WalkC.look rfl (fun _ => i64 ((lo.length : Nat))) (fun _ _ _ => rfl) (fun q r uw _ _ _ _ => Gives.runW (wantedSome (d' := 154) (b := true) rfl rfl rfl) (r_lenS sli39 (a := ownA ko) (m := lo.length) (c := co) rfl) ⟨rfl, rfl⟩) ?_
  refine WalkC.look rfl (fun _ => .bool (true)) (fun _ _ _ => rfl) (fun q r uw hlo hhi hle hF => ?_) ?_
  · skip
    have h1 : 3 ≤ q := hlo 2 23 rfl rfl
    have h2 : q ≤ 4 := hle
    rcases (show q = 3 ∨ q = 4 by omega) with rfl | rfl
    · skip
      obtain ⟨e2, e14, e23, hX, HH⟩ := hF
      dsimp only
      rw [e23]
      exact Gives.runW (wantedSome (d' := 154) (b := true) rfl rfl rfl) ((r_eqlI (a := (o.fs.length : Nat)) (b := (lo.length : Nat)) rfl rfl).as (v' := .bool (true)) (by exact congrArg Value.bool (decide_eq_true (by first | exact congrArg (fun q : Nat => (q : Int)) hlA | exact congrArg (fun q : Nat => (q : Int)) hlO)))) ⟨rfl, rfl⟩
    · skip
      obtain ⟨e2, e14, e23, e30, hX, HH⟩ := hF
      dsimp only
      rw [e23]
      exact Gives.runW (wantedSome (d' := 154) (b := true) rfl rfl rfl) ((r_eqlI (a := (o.fs.length : Nat)) (b := (lo.length : Nat)) rfl rfl).as (v' := .bool (true)) (by exact congrArg Value.bool (decide_eq_true (by first | exact congrArg (fun q : Nat => (q : Int)) hlA | exact congrArg (fun q : Nat => (q : Int)) hlO)))) ⟨rfl, rfl⟩
  refine WalkC.look rfl (fun _ => .bool (true)) (fun _ _ _ => rfl) (fun q r uw _ _ _ _ => Gives.run rfl (r_pickT (u := .bool (true)) rfl rfl) ⟨rfl, rfl⟩) ?_
  refine WalkC.eff 3 rfl (fun r uw46 hF48 => ?_) ?_
  · skip
    obtain ⟨e2, e14, e23, hX, H47⟩ := hF48
    dsimp only [List.take, List.map, List.cons_append, List.nil_append]
    rw [e2, e14, e23]
    refine Gives.ofW0 rfl (fun Q' hK => ?_)
    refine d_store (k := 0) (v := .agg #[.slice (ownA ka) la.length ca, .slice (ownA ko) lo.length co]) (cs' := #[.slice (ownA ka) la.length ca, .slice (ownA ko) lo.length co]) H47 rfl rfl rfl siz42 (by rfl) (by intro u hu; simp [Value.cells] at hu; first | (subst hu; rfl) | (rcases hu with rfl | rfl <;> rfl)) (by exact Nat.le_of_ble_eq_true rfl) (by rfl) ?_
    intro w49 H50 hC51
    have H50' := H50.as (L' := ((some b9, .cells #[.slice (ownA ka) la.length ca, .slice (ownA ko) lo.length co] 42 (0, 0)) :: (some b5, .cells #[i64 ((5 : Int)), i64 (way), i64 (i), i64 (bit), .slice fa bs.length fc] 69 (0, 0)) :: (some b1, .cells #[.slice (ownA ka) la.length ca, .slice (ownA ko) lo.length co] 42 (0, 0)) :: (ka, sob ET 9 la spa) :: (ko, sob ET 9 lo spo) :: (some b, .cells (nv false a o) 76 (0, 0)) :: (a.key, sob ES 30 (svs a.fs) a.sp) :: (o.key, sob ES 30 (svs o.fs) o.sp) :: (frs 5 a.fs ++ (frs 5 o.fs ++ X)))) rfl
    clear H50
    exact hK _ (fun _ => ⟨rfl, rfl, rfl, trivial, ((Ext.chg hX).trans hC51), H50'⟩)
  refine WalkC.look rfl (fun _ => .bool (true)) (fun _ _ _ => rfl) (fun q r uw _ _ _ _ => Gives.run rfl (r_assign (v := .bool (true)) rfl) ⟨rfl, rfl⟩) ?_
  refine WalkC.nil ?_
  intro r52 w53 hF55
  obtain ⟨e2, e14, e23, e30, hX, H54⟩ := hF55
  dsimp only
  rw [e2, e14, e23]
  refine wnil ?_
  refine thenNormal ?_
  refine retAny ?_
  refine retG (rs := [.cell 6 42, .tmp 7]) (vs := [.agg #[.slice (ownA ka) la.length ca, .slice (ownA ko) lo.length co], .bool (true)]) rfl ⟨r_loadA (cs' := #[.slice (ownA ka) la.length ca, .slice (ownA ko) lo.length co]) agg42 siz42 (H54.get (k := 0) rfl) (off := 0) rfl (by exact Nat.le_of_ble_eq_true rfl) (by rfl), ⟨rfl, rfl⟩, trivial⟩ ?_
  have H56 := (((H54.dropk 2).dropk 1).dropk 0)
  have H57 := Hp.toR [(ka, sob ET 9 la spa), (ko, sob ET 9 lo spo)] (F := frs 5 a.fs) (G := frs 5 o.fs) (X := X) H56
  exact ⟨_, rfl, a, ka, ca, spa, la, rfl, ha, hSa, hea, hla, by intro q hq; exact hza q hq, H57⟩

theorem play_aterr_x (b : Nat) (a o : Wy) (ha : a.ok) (ho : o.ok) (ka ko : Option Nat) (ca co : Nat) (spa spo : List Value) (la lo : List (List (BitVec 8))) (hSa : Sl ET ka la ca spa) (hSo : Sl ET ko lo co spo) (hea : bss a.fs = la) (heo : bss o.fs = lo) (hla : la.length ≤ 64) (hza : ∀ q ∈ la, q.length ≤ 140737488351232) (X : List (Option Nat × Obj)) (fa : Option Addr) (fc : Nat) (bs : List (BitVec 8)) (hbl : bs.length ≤ 140737488351232) (kd : Int) (hk1 : kd ≠ 1) (hk2 : kd ≠ 2) (hk3 : kd ≠ 3) (hk4 : kd ≠ 4) (hk5 : kd ≠ 5) (way i bit : Int) (c : Int) (hc : c ≠ 0) (w₀ w : World) (hG : Gl w₀) (hFr : Rd E8 w₀ fa bs) (H : Hp No w₀ w ((some b, .cells (nv false a o) 76 (0, 0)) :: (a.key, sob ES 30 (svs a.fs) a.sp) :: (o.key, sob ES 30 (svs o.fs) o.sp) :: (frs 5 a.fs ++ (frs 5 o.fs ++ ((ka, sob ET 9 la spa) :: (ko, sob ET 9 lo spo) :: X))))) (hnet : ∀ (fv : Value) (R : List (Option Nat × Obj)) (w1 : World), Hp No w₀ w1 ((some b, .cells (nv false a o) 76 (0, 0)) :: (a.key, sob ES 30 (svs a.fs) a.sp) :: (o.key, sob ES 30 (svs o.fs) o.sp) :: (frs 5 a.fs ++ (frs 5 o.fs ++ R))) → Calls Tryd.prog 20 [.pointer (some ⟨b, 0, none⟩), i64 way, i64 i].toArray w1 (Ret fun v w' => (∃ ev, v = .tuple #[.slice none 0 0, ev] ∧ Er w1.heap.size w' c 1 ev) ∧ Ext w1 w')) (href : ∀ (R : List (Option Nat × Obj)) (w1 : World), Hp No w₀ w1 ((ka, sob ET 9 la spa) :: (ko, sob ET 9 lo spo) :: R) → Calls Tryd.prog 39 [.agg #[.slice (ownA ka) la.length ca, .slice (ownA ko) lo.length co], i64 way, i64 i].toArray w1 (Ret fun v w' => v = .tuple #[.string (strB []), i64 c] ∧ Ext w1 w')) : Calls Tryd.prog 31 [.pointer (some ⟨b, 0, none⟩), .agg #[.slice (ownA ka) la.length ca, .slice (ownA ko) lo.length co], .agg #[i64 (kd), i64 (way), i64 (i), i64 (bit), .slice fa bs.length fc]].toArray w (Ret fun v w' => ∃ (a' : Wy) (ka' : Option Nat) (ca' : Nat) (spa' : List Value) (la' : List (List (BitVec 8))), v = .tuple #[.agg #[.slice (ownA ka') la'.length ca', .slice (ownA ko) lo.length co], .bool true] ∧ a'.ok ∧ Sl ET ka' la' ca' spa' ∧ bss a'.fs = la' ∧ la'.length ≤ 64 ∧ (∀ q ∈ la', q.length ≤ 140737488351232) ∧ Hp No w₀ w' ((some b, .cells (nv false a' o) 76 (0, 0)) :: (a'.key, sob ES 30 (svs a'.fs) a'.sp) :: (o.key, sob ES 30 (svs o.fs) o.sp) :: (frs 5 a'.fs ++ (frs 5 o.fs ++ ((ka', sob ET 9 la' spa') :: (ko, sob ET 9 lo spo) :: X))))) := by
  have H := (Hp.fromR [(ka, sob ET 9 la spa), (ko, sob ET 9 lo spo)] (F := frs 5 a.fs) (G := frs 5 o.fs) (X := X) H)
  refine enter (n := 163) Tryd.func31 rfl rfl (Nat.le_of_ble_eq_true rfl) ?_
  refine seqRegion ?_
  refine q_box (v := .agg #[.slice (ownA ka) la.length ca, .slice (ownA ko) lo.length co]) (o := .cells #[.slice (ownA ka) la.length ca, .slice (ownA ko) lo.length co] 42 (0, 0)) H rfl (by rfl) ?_
  intro b1 w2 hb1 H3 hE4
  refine q_box (v := .agg #[i64 (kd), i64 (way), i64 (i), i64 (bit), .slice fa bs.length fc]) (o := .cells #[i64 (kd), i64 (way), i64 (i), i64 (bit), .slice fa bs.length fc] 69 (0, 0)) H3 rfl (by rfl) ?_
  intro b5 w6 hb5 H7 hE8
  refine q_alloc (o := .cells #[.slice none 0 0, .slice none 0 0] 42 (0, 0)) H7 zer42 (by kernel_rfl) ?_
  intro b9 w10 hb9 H11 hE12
  refine sq (r_assign (v := .bool (false)) rfl) ?_
  refine wend ?_
  refine seqRegion ?_
  refine sq (r_assign (v := .nilIface) rfl) ?_
  refine wend ?_
  refine seqRegion ?_
  refine sq (r_assign (v := i64 ((0 : Int))) rfl) ?_
  refine wend ?_
  refine seqAny ?_
  refine seqRegion ?_
  refine sq (r_fieldAddr (off' := 0) fld69_0 (by decide) (b := b5) (off := 0) rfl (by omega)) ?_
  refine sq (r_loadC (v := i64 (kd)) one3 (H11.get (k := 1) rfl) (off := 0) rfl (by rfl)) ?_
  refine wend ?_
  refine blockAny ?_
  refine seqRegion ?_
  refine sq ((r_eqlI (a := kd) (b := (1 : Int)) rfl rfl).as (v' := .bool (false)) (by simp [hk1])) ?_
  refine sq (r_assign (v := .bool (false)) rfl) ?_
  refine wend ?_
  refine condFalse rfl ?_
  refine seqAny ?_
  refine seqRegion ?_
  refine sq ((r_eqlI (a := kd) (b := (2 : Int)) rfl rfl).as (v' := .bool (false)) (by simp [hk2])) ?_
  refine sq (r_assign (v := .bool (false)) rfl) ?_
  refine wend ?_
  refine condFalse rfl ?_
  refine oneRegion ?_
  refine sq ((r_eqlI (a := kd) (b := (3 : Int)) rfl rfl).as (v' := .bool (false)) (by simp [hk3])) ?_
  refine sq (r_assign (v := .bool (false)) rfl) ?_
  refine wnil ?_
  refine thenNormal ?_
  refine condFalse rfl ?_
  refine seqRegion ?_
  refine sq ((r_eqlI (a := kd) (b := (4 : Int)) rfl rfl).as (v' := .bool (false)) (by simp [hk4])) ?_
  refine sq (r_assign (v := .bool (false)) rfl) ?_
  refine wend ?_
  refine condFalse rfl ?_
  refine seqRegion ?_
  refine sq ((r_eqlI (a := kd) (b := (5 : Int)) rfl rfl).as (v' := .bool (false)) (by simp [hk5])) ?_
  refine sq (r_assign (v := .bool (false)) rfl) ?_
  refine wend ?_
  refine condFalse rfl ?_
  refine seqRegion ?_
  refine sq (r_assign (v := .slice none 0 0) rfl) ?_
  refine wend ?_
  refine seqRegion ?_
  refine sq (r_assign (v := .string ({data := #[]})) rfl) ?_
  refine wend ?_
  refine seqRegion ?_
  refine sq (r_move (v := .pointer (some ⟨b, 0, none⟩)) rfl) ?_
  refine sq (r_fieldAddr (off' := 1) fld69_1 (by decide) (b := b5) (off := 0) rfl (by omega)) ?_
  refine sq (r_loadC (v := i64 (way)) one3 (H11.get (k := 1) rfl) (off := 1) rfl (by rfl)) ?_
  refine sq (r_fieldAddr (off' := 2) fld69_2 (by decide) (b := b5) (off := 0) rfl (by omega)) ?_
  refine sq (r_loadC (v := i64 (i)) one3 (H11.get (k := 1) rfl) (off := 2) rfl (by rfl)) ?_
  have H13 := Hp.toR [(some b9, .cells #[.slice none 0 0, .slice none 0 0] 42 (0, 0)), (some b5, .cells #[i64 (kd), i64 (way), i64 (i), i64 (bit), .slice fa bs.length fc] 69 (0, 0)), (some b1, .cells #[.slice (ownA ka) la.length ca, .slice (ownA ko) lo.length co] 42 (0, 0)), (ka, sob ET 9 la spa), (ko, sob ET 9 lo spo)] (F := frs 5 a.fs) (G := frs 5 o.fs) (X := X) H11
  have := H11.lt (List.mem_of_getElem? (i := 0) rfl) rfl
  have := H11.lt (List.mem_of_getElem? (i := 1) rfl) rfl
  have := H11.lt (List.mem_of_getElem? (i := 2) rfl) rfl
  have := H11.lt (List.mem_of_getElem? (i := 5) rfl) rfl
  refine c_call (vs := [.pointer (some ⟨b, 0, none⟩), i64 (way), i64 (i)]) call20 rfl (hnet (.nilIface) ([(some b9, .cells #[.slice none 0 0, .slice none 0 0] 42 (0, 0)), (some b5, .cells #[i64 (kd), i64 (way), i64 (i), i64 (bit), .slice fa bs.length fc] 69 (0, 0)), (some b1, .cells #[.slice (ownA ka) la.length ca, .slice (ownA ko) lo.length co] 42 (0, 0)), (ka, sob ET 9 la spa), (ko, sob ET 9 lo spo)] ++ X) w10 H13) ?_
  rintro _ w14 ⟨⟨v16, rfl, hEr17⟩, hE18⟩
  have H19 := H11.ext hE18
  obtain ⟨T20, x21, rfl⟩ := hEr17.iface
  refine sq (r_move (v := .tuple #[.slice none 0 0, .iface T20 (x21)]) rfl) ?_
  refine sq (r_extract (vs := #[.slice none 0 0, .iface T20 (x21)]) rfl rfl) ?_
  refine sq (r_extract (vs := #[.slice none 0 0, .iface T20 (x21)]) rfl rfl) ?_
  refine sq (r_assign (v := .slice none 0 0) rfl) ?_
  refine sq (r_assign (v := .iface T20 (x21)) rfl) ?_
  refine wend ?_
  refine seqRegion ?_
  refine sq (r_loadA (cs' := #[.slice (ownA ka) la.length ca, .slice (ownA ko) lo.length co]) agg42 siz42 (H19.get (k := 2) rfl) (off := 0) rfl (by exact Nat.le_of_ble_eq_true rfl) (by rfl)) ?_
  refine sq (r_fieldAddr (off' := 1) fld69_1 (by decide) (b := b5) (off := 0) rfl (by omega)) ?_
  refine sq (r_loadC (v := i64 (way)) one3 (H19.get (k := 1) rfl) (off := 1) rfl (by rfl)) ?_
  refine sq (r_fieldAddr (off' := 2) fld69_2 (by decide) (b := b5) (off := 0) rfl (by omega)) ?_
  refine sq (r_loadC (v := i64 (i)) one3 (H19.get (k := 1) rfl) (off := 2) rfl (by rfl)) ?_
  refine c_call (vs := [.agg #[.slice (ownA ka) la.length ca, .slice (ownA ko) lo.length co], i64 (way), i64 (i)]) call39 rfl (href _ w14 (((H19.drop1).drop1).drop1)) ?_
  rintro _ w22 ⟨rfl, hE23⟩
  have H24 := H19.ext hE23
  refine sq (r_move (v := .tuple #[.string (strB []), i64 (c)]) rfl) ?_
  refine sq (r_extract (vs := #[.string (strB []), i64 (c)]) rfl rfl) ?_
  refine sq (r_extract (vs := #[.string (strB []), i64 (c)]) rfl rfl) ?_
  refine sq (r_assign (v := .string (strB [])) rfl) ?_
  refine sq (r_assign (v := i64 (c)) rfl) ?_
  refine wend ?_
  refine seqRegion ?_
  refine sq (r_move (v := .slice none 0 0) rfl) ?_
  refine sq (r_toStr (l := []) und30 und5 und9 Rd.nil rfl (by first | rfl | omega | (simp; omega) | (simp at *; omega))) ?_
  refine sq (r_move (v := .string (strB [])) rfl) ?_
  refine sq ((r_neqStr (s := strB ([])) (s' := strB []) rfl rfl).as (v' := .bool (false)) (by simp)) ?_
  refine wend ?_
  refine condFalse rfl ?_
  refine skipAny ?_
  refine blockNormal ?_
  refine thenNormal ?_
  refine seqAny ?_
  have hlA : a.fs.length = (la).length := by have h := congrArg List.length (show bss a.fs = la from hea); rwa [bss_len] at h
  have hlO : o.fs.length = lo.length := by have h := congrArg List.length heo; rwa [bss_len] at h
  refine drawC (m := 32) [0, 0, 2, 0, 14, 30, 62, 126, 62, 318, 1022, 2046, 4094, 8190, 16382, 8190, 40958, 106494, 237566, 524286, 1048574, 2097150, 4194302, 8388606, 4194302, 20971518, 54525950, 121634814, 268435454, 536870910, 16777215, 2147483647] [2, 14, 23, 30] (fun q vs w' => match q, vs with | 0, [] => Ext w22 w' ∧ Hp No w₀ w' ((some b9, .cells #[.slice none 0 0, .slice none 0 0] 42 (0, 0)) :: (some b5, .cells #[i64 (kd), i64 (way), i64 (i), i64 (bit), .slice fa bs.length fc] 69 (0, 0)) :: (some b1, .cells #[.slice (ownA ka) la.length ca, .slice (ownA ko) lo.length co] 42 (0, 0)) :: (ka, sob ET 9 la spa) :: (ko, sob ET 9 lo spo) :: (some b, .cells (nv false a o) 76 (0, 0)) :: (a.key, sob ES 30 (svs a.fs) a.sp) :: (o.key, sob ES 30 (svs o.fs) o.sp) :: (frs 5 a.fs ++ (frs 5 o.fs ++ X))) | 1, [v0] => v0 = i64 (c) ∧ Ext w22 w' ∧ Hp No w₀ w' ((some b9, .cells #[.slice none 0 0, .slice none 0 0] 42 (0, 0)) :: (some b5, .cells #[i64 (kd), i64 (way), i64 (i), i64 (bit), .slice fa bs.length fc] 69 (0, 0)) :: (some b1, .cells #[.slice (ownA ka) la.length ca, .slice (ownA ko) lo.length co] 42 (0, 0)) :: (ka, sob ET 9 la spa) :: (ko, sob ET 9 lo spo) :: (some b, .cells (nv false a o) 76 (0, 0)) :: (a.key, sob ES 30 (svs a.fs) a.sp) :: (o.key, sob ES 30 (svs o.fs) o.sp) :: (frs 5 a.fs ++ (frs 5 o.fs ++ X))) | 2, [v0, v1] => v0 = i64 (c) ∧ v1 = i64 ((a.fs.length : Nat)) ∧ Ext w22 w' ∧ Hp No w₀ w' ((some b9, .cells #[.slice none 0 0, .slice none 0 0] 42 (0, 0)) :: (some b5, .cells #[i64 (kd), i64 (way), i64 (i), i64 (bit), .slice fa bs.length fc] 69 (0, 0)) :: (some b1, .cells #[.slice (ownA ka) la.length ca, .slice (ownA ko) lo.length co] 42 (0, 0)) :: (ka, sob ET 9 la spa) :: (ko, sob ET 9 lo spo) :: (some b, .cells (nv false a o) 76 (0, 0)) :: (a.key, sob ES 30 (svs a.fs) a.sp) :: (o.key, sob ES 30 (svs o.fs) o.sp) :: (frs 5 a.fs ++ (frs 5 o.fs ++ X))) | 3, [v0, v1, v2] => v0 = i64 (c) ∧ v1 = i64 ((a.fs.length : Nat)) ∧ v2 = i64 ((o.fs.length : Nat)) ∧ Ext w22 w' ∧ Hp No w₀ w' ((some b9, .cells #[.slice none 0 0, .slice none 0 0] 42 (0, 0)) :: (some b5, .cells #[i64 (kd), i64 (way), i64 (i), i64 (bit), .slice fa bs.length fc] 69 (0, 0)) :: (some b1, .cells #[.slice (ownA ka) la.length ca, .slice (ownA ko) lo.length co] 42 (0, 0)) :: (ka, sob ET 9 la spa) :: (ko, sob ET 9 lo spo) :: (some b, .cells (nv false a o) 76 (0, 0)) :: (a.key, sob ES 30 (svs a.fs) a.sp) :: (o.key, sob ES 30 (svs o.fs) o.sp) :: (frs 5 a.fs ++ (frs 5 o.fs ++ X))) | 4, [v0, v1, v2, _] => v0 = i64 (c) ∧ v1 = i64 ((a.fs.length : Nat)) ∧ v2 = i64 ((o.fs.length : Nat)) ∧ True ∧ Chg (· = b9) w22 w' ∧ Hp No w₀ w' ((some b9, .cells #[.slice (ownA ka) la.length ca, .slice (ownA ko) lo.length co] 42 (0, 0)) :: (some b5, .cells #[i64 (kd), i64 (way), i64 (i), i64 (bit), .slice fa bs.length fc] 69 (0, 0)) :: (some b1, .cells #[.slice (ownA ka) la.length ca, .slice (ownA ko) lo.length co] 42 (0, 0)) :: (ka, sob ET 9 la spa) :: (ko, sob ET 9 lo spo) :: (some b, .cells (nv false a o) 76 (0, 0)) :: (a.key, sob ES 30 (svs a.fs) a.sp) :: (o.key, sob ES 30 (svs o.fs) o.sp) :: (frs 5 a.fs ++ (frs 5 o.fs ++ X))) | _, _ => False) mixed (by kernel_rfl) (by kernel_rfl) ⟨Ext.drew _, H24.drew⟩ ?_
  refine WalkC.look rfl (fun _ => .agg #[.slice (ownA ka) la.length ca, .slice (ownA ko) lo.length co]) (fun _ _ _ => rfl) (fun q r uw hlo hhi hle hF => ?_) ?_
  · skip
    have h1 : 0 ≤ q := Nat.zero_le _
    have h2 : q ≤ 3 := hhi 3 30 rfl rfl
    rcases (show q = 0 ∨ q = 1 ∨ q = 2 ∨ q = 3 by omega) with rfl | rfl | rfl | rfl
    · skip
      obtain ⟨hX, HH⟩ := hF
      exact Gives.run rfl (r_loadA (cs' := #[.slice (ownA ka) la.length ca, .slice (ownA ko) lo.length co]) agg42 siz42 (HH.get (k := 2) rfl) (off := 0) rfl (by exact Nat.le_of_ble_eq_true rfl) (by rfl)) ⟨rfl, rfl⟩
    · skip
      obtain ⟨e2, hX, HH⟩ := hF
      exact Gives.run rfl (r_loadA (cs' := #[.slice (ownA ka) la.length ca, .slice (ownA ko) lo.length co]) agg42 siz42 (HH.get (k := 2) rfl) (off := 0) rfl (by exact Nat.le_of_ble_eq_true rfl) (by rfl)) ⟨rfl, rfl⟩
    · skip
      obtain ⟨e2, e14, hX, HH⟩ := hF
      exact Gives.run rfl (r_loadA (cs' := #[.slice (ownA ka) la.length ca, .slice (ownA ko) lo.length co]) agg42 siz42 (HH.get (k := 2) rfl) (off := 0) rfl (by exact Nat.le_of_ble_eq_true rfl) (by rfl)) ⟨rfl, rfl⟩
    · skip
      obtain ⟨e2, e14, e23, hX, HH⟩ := hF
      exact Gives.run rfl (r_loadA (cs' := #[.slice (ownA ka) la.length ca, .slice (ownA ko) lo.length co]) agg42 siz42 (HH.get (k := 2) rfl) (off := 0) rfl (by exact Nat.le_of_ble_eq_true rfl) (by rfl)) ⟨rfl, rfl⟩
  refine WalkC.look rfl (fun _ => .iface T20 (x21)) (fun _ _ _ => rfl) (fun q r uw _ _ _ _ => Gives.run rfl (r_move (v := .iface T20 (x21)) rfl) ⟨rfl, rfl⟩) ?_
  refine WalkC.eff 0 rfl (fun r uw25 hF27 => ?_) ?_
  · skip
    obtain ⟨hX, H26⟩ := hF27
    dsimp only [List.take, List.map, List.cons_append, List.nil_append]
    refine Gives.ofW (d := 135) rfl rfl (fun Q' hK => ?_)
    refine c_call (vs := [.iface T20 (x21)]) call49 rfl (code_ok c 1 w10.heap.size (.iface T20 (x21)) uw25 (Chg.gl H26.chg (fun x => x) hG) (((hEr17.ext hE23).ext hX))) ?_
    rintro _ w28 ⟨rfl, hE29⟩
    have H30 := H26.ext hE29
    exact hK _ _ ⟨rfl, (hX.trans hE29), H30⟩
  refine WalkC.look rfl (fun _ => i64 (c)) (fun _ _ _ => rfl) (fun q r uw _ _ _ _ => Gives.run rfl (r_move (v := i64 (c)) rfl) ⟨rfl, rfl⟩) ?_
  refine WalkC.look rfl (fun _ => .bool (true)) (fun _ _ _ => rfl) (fun q r uw hlo hhi hle hF => ?_) ?_
  · skip
    have h1 : 1 ≤ q := hlo 0 2 rfl rfl
    have h2 : q ≤ 1 := hhi 1 14 rfl rfl
    rcases (show q = 1 by omega) with rfl
    · skip
      obtain ⟨e2, hX, HH⟩ := hF
      dsimp only
      rw [e2]
      exact Gives.run rfl ((r_eqlI (a := c) (b := c) rfl rfl).as (v' := .bool (true)) (by simp)) ⟨rfl, rfl⟩
  refine WalkC.look rfl (fun _ => .bool (true)) (fun _ _ _ => rfl) (fun q r uw _ _ _ _ => Gives.run rfl (r_move (v := .bool (true)) rfl) ⟨rfl, rfl⟩) ?_
  refine WalkC.look rfl (fun _ => .iface T20 (x21)) (fun _ _ _ => rfl) (fun q r uw _ _ _ _ => Gives.runW (wantedSome (d' := 138) (b := true) rfl rfl rfl) (r_move (v := .iface T20 (x21)) rfl) ⟨rfl, rfl⟩) ?_
  refine WalkC.look rfl (fun _ => .bool (false)) (fun _ _ _ => rfl) (fun q r uw _ _ _ _ => Gives.runW (wantedSome (d' := 138) (b := true) rfl rfl rfl) (r_eqlIN isI28 rfl rfl) ⟨rfl, rfl⟩) ?_
  refine WalkC.look rfl (fun _ => i64 (c)) (fun _ _ _ => rfl) (fun q r uw _ _ _ _ => Gives.runW (wantedSome (d' := 138) (b := true) rfl rfl rfl) (r_move (v := i64 (c)) rfl) ⟨rfl, rfl⟩) ?_
  refine WalkC.look rfl (fun _ => .bool (false)) (fun _ _ _ => rfl) (fun q r uw _ _ _ _ => Gives.runW (wantedSome (d' := 138) (b := true) rfl rfl rfl) ((r_eqlI (a := c) (b := (0 : Int)) rfl rfl).as (v' := .bool (false)) (by simp [hc])) ⟨rfl, rfl⟩) ?_
  refine WalkC.look rfl (fun _ => .bool (true)) (fun _ _ _ => rfl) (fun q r uw _ _ _ _ => Gives.runW (wantedSome (d' := 138) (b := true) rfl rfl rfl) ((r_eqlB und4 (a := false) (b := false) rfl rfl).as (v' := .bool (true)) (by rfl)) ⟨rfl, rfl⟩) ?_
  refine WalkC.look rfl (fun _ => .bool (true)) (fun _ _ _ => rfl) (fun q r uw _ _ _ _ => Gives.run rfl (r_pickT (u := .bool (true)) rfl rfl) ⟨rfl, rfl⟩) ?_
  refine WalkC.look rfl (fun _ => .bool (true)) (fun _ _ _ => rfl) (fun q r uw _ _ _ _ => Gives.run rfl (r_move (v := .bool (true)) rfl) ⟨rfl, rfl⟩) ?_
  refine WalkC.look rfl (fun _ => .pointer (some ⟨b, 0, none⟩)) (fun _ _ _ => rfl) (fun q r uw _ _ _ _ => Gives.runW (wantedSome (d' := 145) (b := true) rfl rfl rfl) (r_move (v := .pointer (some ⟨b, 0, none⟩)) rfl) ⟨rfl, rfl⟩) ?_
  refine WalkC.eff 1 rfl (fun r uw31 hF33 => ?_) ?_
  · skip
    obtain ⟨e2, hX, H32⟩ := hF33
    dsimp only [List.take, List.map, List.cons_append, List.nil_append]
    rw [e2]
    refine Gives.ofW (d := 147) rfl rfl (fun Q' hK => ?_)
    refine caAny (wantedSome (d' := 145) (b := true) rfl rfl rfl) (Enters.callL (vs := [.pointer (some ⟨b, 0, none⟩), i64 ((0 : Int))]) call15 rfl) (len_0 b a o uw31 (H32.get (k := 5) rfl)) ?_
    rintro _ w34 ⟨rfl, hE35⟩
    have H36 := H32.ext hE35
    exact hK _ _ ⟨rfl, rfl, (hX.trans hE35), H36⟩
  refine WalkC.look rfl (fun _ => .pointer (some ⟨b1, 0, none⟩)) (fun _ _ _ => rfl) (fun q r uw _ _ _ _ => Gives.runW (wantedSome (d' := 145) (b := true) rfl rfl rfl) (r_fieldAddr (off' := 0) fld42_0 (by decide) (b := b1) (off := 0) rfl (by omega)) ⟨rfl, rfl⟩) ?_
  refine WalkC.look rfl (fun _ => .pointer (some ⟨b1, 0, none⟩)) (fun _ _ _ => rfl) (fun q r uw _ _ _ _ => Gives.runW (wantedSome (d' := 145) (b := true) rfl rfl rfl) (r_indexA (off' := 0) (j := 0) arr40 (b := b1) (off := 0) rfl rfl (by first | rfl | omega | (simp; omega)) (by omega) (by omega)) ⟨rfl, rfl⟩) ?_
  refine WalkC.look rfl (fun _ => .slice (ownA ka) la.length ca) (fun _ _ _ => rfl) (fun q r uw hlo hhi hle hF => ?_) ?_
  · skip
    have h1 : 1 ≤ q := hlo 0 2 rfl rfl
    have h2 : q ≤ 2 := hhi 2 23 rfl rfl
    rcases (show q = 1 ∨ q = 2 by omega) with rfl | rfl
    · skip
      obtain ⟨e2, hX, HH⟩ := hF
      exact Gives.runW (wantedSome (d' := 145) (b := true) rfl rfl rfl) (r_loadC (v := .slice (ownA ka) la.length ca) one39 (HH.get (k := 2) rfl) (off := 0) rfl (by rfl)) ⟨rfl, rfl⟩
    · skip
      obtain ⟨e2, e14, hX, HH⟩ := hF
      exact Gives.runW (wantedSome (d' := 145) (b := true) rfl rfl rfl) (r_loadC (v := .slice (ownA ka) la.length ca) one39 (HH.get (k := 2) rfl) (off := 0) rfl (by rfl)) ⟨rfl, rfl⟩
  refine WalkC.look rfl (fun _ => i64 ((la.length : Nat))) (fun _ _ _ => rfl) (fun q r uw _ _ _ _ => Gives.runW (wantedSome (d' := 145) (b := true) rfl rfl rfl) (r_lenS sli39 (a := ownA ka) (m := la.length) (c := ca) rfl) ⟨rfl, rfl⟩) ?_
  refine WalkC.look rfl (fun _ => .bool (true)) (fun _ _ _ => rfl) (fun q r uw hlo hhi hle hF => ?_) ?_
  · skip
    have h1 : 2 ≤ q := hlo 1 14 rfl rfl
    have h2 : q ≤ 2 := hhi 2 23 rfl rfl
    rcases (show q = 2 by omega) with rfl
    · skip
      obtain ⟨e2, e14, hX, HH⟩ := hF
      dsimp only
      rw [e14]
      exact Gives.runW (wantedSome (d' := 145) (b := true) rfl rfl rfl) ((r_eqlI (a := (a.fs.length : Nat)) (b := (la.length : Nat)) rfl rfl).as (v' := .bool (true)) (by exact congrArg Value.bool (decide_eq_true (by first | exact congrArg (fun q : Nat => (q : Int)) hlA | exact congrArg (fun q : Nat => (q : Int)) hlO)))) ⟨rfl, rfl⟩
  refine WalkC.look rfl (fun _ => .bool (true)) (fun _ _ _ => rfl) (fun q r uw _ _ _ _ => Gives.run rfl (r_pickT (u := .bool (true)) rfl rfl) ⟨rfl, rfl⟩) ?_
  refine WalkC.look rfl (fun _ => .bool (true)) (fun _ _ _ => rfl) (fun q r uw _ _ _ _ => Gives.run rfl (r_move (v := .bool (true)) rfl) ⟨rfl, rfl⟩) ?_
  refine WalkC.look rfl (fun _ => .pointer (some ⟨b, 0, none⟩)) (fun _ _ _ => rfl) (fun q r uw _ _ _ _ => Gives.runW (wantedSome (d' := 154) (b := true) rfl rfl rfl) (r_move (v := .pointer (some ⟨b, 0, none⟩)) rfl) ⟨rfl, rfl⟩) ?_
  refine WalkC.eff 2 rfl (fun r uw37 hF39 => ?_) ?_
  · skip
    obtain ⟨e2, e14, hX, H38⟩ := hF39
    dsimp only [List.take, List.map, List.cons_append, List.nil_append]
    rw [e2, e14]
    refine Gives.ofW (d := 156) rfl rfl (fun Q' hK => ?_)
    refine caAny (wantedSome (d' := 154) (b := true) rfl rfl rfl) (Enters.callL (vs := [.pointer (some ⟨b, 0, none⟩), i64 ((1 : Int))]) call15 rfl) (len_1 b o a uw37 (H38.get (k := 5) rfl)) ?_
    rintro _ w40 ⟨rfl, hE41⟩
    have H42 := H38.ext hE41
    exact hK _ _ ⟨rfl, rfl, rfl, (hX.trans hE41), H42⟩
  refine WalkC.look rfl (fun _ => .pointer (some ⟨b1, 0, none⟩)) (fun _ _ _ => rfl) (fun q r uw _ _ _ _ => Gives.runW (wantedSome (d' := 154) (b := true) rfl rfl rfl) (r_fieldAddr (off' := 0) fld42_0 (by decide) (b := b1) (off := 0) rfl (by omega)) ⟨rfl, rfl⟩) ?_
  refine WalkC.look rfl (fun _ => .pointer (some ⟨b1, 1, none⟩)) (fun _ _ _ => rfl) (fun q r uw _ _ _ _ => Gives.runW (wantedSome (d' := 154) (b := true) rfl rfl rfl) (r_indexA (off' := 1) (j := 1) arr40 (b := b1) (off := 0) rfl rfl (by first | rfl | omega | (simp; omega)) (by omega) (by omega)) ⟨rfl, rfl⟩) ?_
  refine WalkC.look rfl (fun _ => .slice (ownA ko) lo.length co) (fun _ _ _ => rfl) (fun q r uw hlo hhi hle hF => ?_) ?_
  · skip
    have h1 : 2 ≤ q := hlo 1 14 rfl rfl
    have h2 : q ≤ 4 := hle
    rcases (show q = 2 ∨ q = 3 ∨ q = 4 by omega) with rfl | rfl | rfl
    · skip
      obtain ⟨e2, e14, hX, HH⟩ := hF
      exact Gives.runW (wantedSome (d' := 154) (b := true) rfl rfl rfl) (r_loadC (v := .slice (ownA ko) lo.length co) one39 (HH.get (k := 2) rfl) (off := 1) rfl (by rfl)) ⟨rfl, rfl⟩
    · skip
      obtain ⟨e2, e14, e23, hX, HH⟩ := hF
      exact Gives.runW (wantedSome (d' := 154) (b := true) rfl rfl rfl) (r_loadC (v := .slice (ownA ko) lo.length co) one39 (HH.get (k := 2) rfl) (off := 1) rfl (by rfl)) ⟨rfl, rfl⟩
    · skip
      obtain ⟨e2, e14, e23, e30, hX, HH⟩ := hF
      exact Gives.runW (wantedSome (d' := 154) (b := true) rfl rfl rfl) (r_loadC (v := .slice (ownA ko) lo.length co) one39 (HH.get (k := 2) rfl) (off := 1) rfl (by rfl)) ⟨rfl, rfl⟩
  refine WalkC.look rfl (fun _ => i64 ((lo.length : Nat))) (fun _ _ _ => rfl) (fun q r uw _ _ _ _ => Gives.runW (wantedSome (d' := 154) (b := true) rfl rfl rfl) (r_lenS sli39 (a := ownA ko) (m := lo.length) (c := co) rfl) ⟨rfl, rfl⟩) ?_
  refine WalkC.look rfl (fun _ => .bool (true)) (fun _ _ _ => rfl) (fun q r uw hlo hhi hle hF => ?_) ?_
  · skip
    have h1 : 3 ≤ q := hlo 2 23 rfl rfl
    have h2 : q ≤ 4 := hle
    rcases (show q = 3 ∨ q = 4 by omega) with rfl | rfl
    · skip
      obtain ⟨e2, e14, e23, hX, HH⟩ := hF
      dsimp only
      rw [e23]
      exact Gives.runW (wantedSome (d' := 154) (b := true) rfl rfl rfl) ((r_eqlI (a := (o.fs.length : Nat)) (b := (lo.length : Nat)) rfl rfl).as (v' := .bool (true)) (by exact congrArg Value.bool (decide_eq_true (by first | exact congrArg (fun q : Nat => (q : Int)) hlA | exact congrArg (fun q : Nat => (q : Int)) hlO)))) ⟨rfl, rfl⟩
    · skip
      obtain ⟨e2, e14, e23, e30, hX, HH⟩ := hF
      dsimp only
      rw [e23]
      exact Gives.runW (wantedSome (d' := 154) (b := true) rfl rfl rfl) ((r_eqlI (a := (o.fs.length : Nat)) (b := (lo.length : Nat)) rfl rfl).as (v' := .bool (true)) (by exact congrArg Value.bool (decide_eq_true (by first | exact congrArg (fun q : Nat => (q : Int)) hlA | exact congrArg (fun q : Nat => (q : Int)) hlO)))) ⟨rfl, rfl⟩
  refine WalkC.look rfl (fun _ => .bool (true)) (fun _ _ _ => rfl) (fun q r uw _ _ _ _ => Gives.run rfl (r_pickT (u := .bool (true)) rfl rfl) ⟨rfl, rfl⟩) ?_
  refine WalkC.eff 3 rfl (fun r uw43 hF45 => ?_) ?_
  · skip
    obtain ⟨e2, e14, e23, hX, H44⟩ := hF45
    dsimp only [List.take, List.map, List.cons_append, List.nil_append]
    rw [e2, e14, e23]
    refine Gives.ofW0 rfl (fun Q' hK => ?_)
    refine d_store (k := 0) (v := .agg #[.slice (ownA ka) la.length ca, .slice (ownA ko) lo.length co]) (cs' := #[.slice (ownA ka) la.length ca, .slice (ownA ko) lo.length co]) H44 rfl rfl rfl siz42 (by rfl) (by intro u hu; simp [Value.cells] at hu; first | (subst hu; rfl) | (rcases hu with rfl | rfl <;> rfl)) (by exact Nat.le_of_ble_eq_true rfl) (by rfl) ?_
    intro w46 H47 hC48
    have H47' := H47.as (L' := ((some b9, .cells #[.slice (ownA ka) la.length ca, .slice (ownA ko) lo.length co] 42 (0, 0)) :: (some b5, .cells #[i64 (kd), i64 (way), i64 (i), i64 (bit), .slice fa bs.length fc] 69 (0, 0)) :: (some b1, .cells #[.slice (ownA ka) la.length ca, .slice (ownA ko) lo.length co] 42 (0, 0)) :: (ka, sob ET 9 la spa) :: (ko, sob ET 9 lo spo) :: (some b, .cells (nv false a o) 76 (0, 0)) :: (a.key, sob ES 30 (svs a.fs) a.sp) :: (o.key, sob ES 30 (svs o.fs) o.sp) :: (frs 5 a.fs ++ (frs 5 o.fs ++ X)))) rfl
    clear H47
    exact hK _ (fun _ => ⟨rfl, rfl, rfl, trivial, ((Ext.chg hX).trans hC48), H47'⟩)
  refine WalkC.look rfl (fun _ => .bool (true)) (fun _ _ _ => rfl) (fun q r uw _ _ _ _ => Gives.run rfl (r_assign (v := .bool (true)) rfl) ⟨rfl, rfl⟩) ?_
  refine WalkC.nil ?_
  intro r49 w50 hF52
  obtain ⟨e2, e14, e23, e30, hX, H51⟩ := hF52
  dsimp only
  rw [e2, e14, e23]
  refine wnil ?_
  refine thenNormal ?_
  refine retAny ?_
  refine retG (rs := [.cell 6 42, .tmp 7]) (vs := [.agg #[.slice (ownA ka) la.length ca, .slice (ownA ko) lo.length co], .bool (true)]) rfl ⟨r_loadA (cs' := #[.slice (ownA ka) la.length ca, .slice (ownA ko) lo.length co]) agg42 siz42 (H51.get (k := 0) rfl) (off := 0) rfl (by exact Nat.le_of_ble_eq_true rfl) (by rfl), ⟨rfl, rfl⟩, trivial⟩ ?_
  have H53 := (((H51.dropk 2).dropk 1).dropk 0)
  have H54 := Hp.toR [(ka, sob ET 9 la spa), (ko, sob ET 9 lo spo)] (F := frs 5 a.fs) (G := frs 5 o.fs) (X := X) H53
  exact ⟨_, rfl, a, ka, ca, spa, la, rfl, ha, hSa, hea, hla, by intro q hq; exact hza q hq, H54⟩
end Go.Proofs.YtpmmhpgfbfehmaaDoor.Nt
