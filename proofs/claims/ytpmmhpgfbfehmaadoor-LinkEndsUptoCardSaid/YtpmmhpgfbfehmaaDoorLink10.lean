/- The walks of the links. -/
import Derived.Test.YtpmmhpgfbfehmaaDoorLink6
import Derived.Test.YtpmmhpgfbfehmaaDoorLinkEnds
namespace Go.Proofs.YtpmmhpgfbfehmaaDoor.Lk
open Go Go.Proofs.YtpmmhpgfbfehmaaDoor.Vc Go.Proofs.YtpmmhpgfbfehmaaDoor.Er
set_option linter.unusedVariables false
theorem arr61 : arr Tryd.prog 61 = some (2, 1) := by kernel_rfl
theorem call18 : callable Tryd.prog 18 = true := by kernel_rfl
theorem call24 : callable Tryd.prog 24 = true := by kernel_rfl
theorem call33 : callable Tryd.prog 33 = true := by kernel_rfl
theorem fits3 : Fits Tryd.prog 3 EI := fitsI (by kernel_rfl) (by kernel_rfl)
theorem siz5 : siz Tryd.prog 5 = some 1 := by kernel_rfl
theorem und26 : Tryd.prog.underlying 26 = some (.int .u64) := by kernel_rfl
theorem und4 : Tryd.prog.underlying 4 = some .bool := by kernel_rfl
theorem linkends_ok (fl : List SlV) (cont : Nat → List (BitVec 8)) (fa : Option Addr) (fc : Nat) (w₀ : World) (hG : Gl w₀) (hFr : Rd ES w₀ fa fl) (hfln : fl.length ≤ 140737488355328) (hfl : ∀ i, i < fl.length → (fl.getD i sv0).n = (cont i).length ∧ Rd E8 w₀ (fl.getD i sv0).a (cont i) ∧ (cont i).length ≤ 140737488355328 ∧ (fl.getD i sv0).n ≤ (fl.getD i sv0).c) : Calls Tryd.prog 11 [.slice fa fl.length fc].toArray w₀ (Ret fun v w' => v = .bool true ∧ Ext w₀ w') := by
  obtain ⟨n, hn⟩ : ∃ n, n = min fl.length 20 := ⟨_, rfl⟩
  have hn1 : n ≤ fl.length := by omega
  have hn2 : n ≤ 20 := by omega
  obtain ⟨pays, hpy⟩ : ∃ pays, pays = (List.range n).map fun i => (cont i).take (min (cont i).length 5000) := ⟨_, rfl⟩
  have hpn : pays.length = n := by rw [hpy]; simp
  have hpg : ∀ i, i < n → pays.getD i [] = (cont i).take (min (cont i).length 5000) := fun i hi => by rw [hpy]; simp [hi]
  have hpl : ∀ i, i < n → (pays.getD i []).length = min (cont i).length 5000 := fun i hi => by rw [hpg i hi, List.length_take]; omega
  have H := Hp.start No w₀
  refine enter (n := 155) Tryd.func11 rfl rfl (Nat.le_of_ble_eq_true rfl) ?_
  refine seqRegion ?_
  refine sq (r_assign (v := .bool (false)) rfl) ?_
  refine wend ?_
  refine seqRegion ?_
  refine c_call (vs := []) call23 rfl (lnew_ok w₀) ?_
  rintro _ w1 ⟨⟨b3, rfl, HN4⟩, hE5⟩
  have okE := en0_ok 5
  have H6 := (H.join HN4).as (L' := ((endR 30 53 89 b3 en0 ++ (([] : List (Option Nat × Obj)) ++ ([] : List (Option Nat × Obj)))))) rfl
  refine c_call (vs := []) call23 rfl (lnew_ok w1) ?_
  rintro _ w7 ⟨⟨b9, rfl, HN10⟩, hE11⟩
  have H13 := (H6.join HN10).as (L' := endR 30 53 89 b9 en0 ++ (endR 30 53 89 b3 en0 ++ ([] : List (Option Nat × Obj)))) rfl
  have H12 := (Hp.mid (X := endR 30 53 89 b9 en0) (A := endR 30 53 89 b3 en0) (Y := ([] : List (Option Nat × Obj))) H13).as (L' := ((endR 30 53 89 b3 en0 ++ (endR 30 53 89 b9 en0 ++ ([] : List (Option Nat × Obj)))))) rfl
  refine sq (r_assign (v := .pointer (some ⟨b3, 0, none⟩)) rfl) ?_
  refine sq (r_assign (v := .pointer (some ⟨b9, 0, none⟩)) rfl) ?_
  refine wend ?_
  refine seqAny ?_
  refine seqRegion ?_
  refine c_call (vs := []) call24 rfl (lawake_ok w7 (Chg.gl H12.chg (fun x => x) hG)) ?_
  rintro _ w14 ⟨rfl, hE15⟩
  have H16 := H12.ext hE15
  refine sq (r_notT rfl) ?_
  refine sq (r_move (v := .bool (false)) rfl) ?_
  refine sqAny (v := .pointer (some ⟨b3, 0, none⟩)) (w' := w14) (wantedSome (d' := 21) (b := false) rfl rfl rfl) (r_move (v := .pointer (some ⟨b3, 0, none⟩)) rfl) ?_
  refine sqAny (v := .bool (false)) (w' := w14) (wantedSome (d' := 21) (b := false) rfl rfl rfl) (r_eqlPN und47 rfl rfl) ?_
  refine sq (r_pickF (v := .bool (false)) rfl rfl) ?_
  refine sq (r_move (v := .bool (false)) rfl) ?_
  refine sqAny (v := .pointer (some ⟨b9, 0, none⟩)) (w' := w14) (wantedSome (d' := 25) (b := false) rfl rfl rfl) (r_move (v := .pointer (some ⟨b9, 0, none⟩)) rfl) ?_
  refine sqAny (v := .bool (false)) (w' := w14) (wantedSome (d' := 25) (b := false) rfl rfl rfl) (r_eqlPN und47 rfl rfl) ?_
  refine sq (r_pickF (v := .bool (false)) rfl rfl) ?_
  refine wend ?_
  refine condFalse rfl ?_
  refine skipAny ?_
  refine thenNormal ?_
  refine seqRegion ?_
  refine sq (r_move (v := .slice fa fl.length fc) rfl) ?_
  refine sq (r_lenS sli22 (a := fa) (m := fl.length) (c := fc) rfl) ?_
  refine sq ((r_minI (a := (fl.length : Nat)) (b := (20 : Int)) rfl rfl).as (v' := i64 ((n : Nat))) (by exact congrArg i64 (by omega))) ?_
  refine sq (r_assign (v := i64 ((n : Nat))) rfl) ?_
  refine wend ?_
  refine seqAny ?_
  refine seqRegion ?_
  refine sq (r_assign (v := i64 ((0 : Int))) rfl) ?_
  refine wend ?_
  refine blockAny ?_
  refine loopAny (σ := Nat × En × List (Option Nat × Obj)) (fun (zq, u, G) => [(0, .slice fa fl.length fc), (3, .pointer (some ⟨b3, 0, none⟩)), (4, .pointer (some ⟨b9, 0, none⟩)), (5, i64 ((n : Nat))), (6, i64 ((zq : Nat)))]) (fun (zq, u, G) w' => (zq ≤ n ∧ u.ok 5 G ∧ abs u = { st0 with queue := pays.take zq }) ∧ Hp No w₀ w' ((endR 30 53 89 b3 u ++ (endR 30 53 89 b9 en0 ++ G)))) (fun (zq, u, G) => n - zq) ((0, en0, ([] : List (Option Nat × Obj)))) ?_ ?_ ?_
  · exact ⟨rfl, rfl, rfl, rfl, rfl, trivial⟩
  · exact ⟨⟨Nat.zero_le _, okE, rfl⟩, H16⟩
  rintro ⟨zq, u, G⟩ ρ w17 ⟨⟨hq, hu, hua⟩, HL⟩
  have okb19 := en0_okF 5 G
  refine seqAny ?_
  refine seqRegion ?_
  refine sq (r_move (v := i64 ((zq : Nat))) rfl) ?_
  refine sq (r_move (v := i64 ((n : Nat))) rfl) ?_
  refine sq (r_lssI (a := (zq : Nat)) (b := (n : Nat)) rfl rfl) ?_
  refine wend ?_
  refine condProp (((zq : Nat) : Int) < (n : Nat)) rfl (fun hk34 => ?_) (fun hk34 => ?_)
  · skip
    refine skipAny ?_
    refine thenNormal ?_
    refine seqAny ?_
    refine blockAny ?_
    refine seqAny ?_
    refine drawC (m := 16) [0, 0, 0, 0, 12, 28, 0, 0, 192, 448, 960, 1984, 4092, 8190, 16383, 32767] [1, 13, 14] (fun q vs w' => match q, vs with | 0, [] => Hp No w₀ w' ((endR 30 53 89 b3 u ++ (endR 30 53 89 b9 en0 ++ G))) | 1, [v0] => ∃ (b23 : Nat), v0 = .slice (ownA (some b23)) 0 0 ∧ Sl E8 (some b23) ([]) 0 ([]) ∧ Hp No w₀ w' (((some b23), sob E8 5 ([]) ([])) :: (endR 30 53 89 b3 u ++ (endR 30 53 89 b9 en0 ++ G))) | 2, [v0, v1] => ∃ (b23 : Nat) (key31 : Option Nat) (c32 : Nat) (sp33 : List Value), v0 = .slice (ownA (some b23)) 0 0 ∧ v1 = .slice (ownA key31) (0 + ((pays.getD zq []).length)) c32 ∧ Sl E8 key31 (pays.getD zq []) c32 sp33 ∧ Hp No w₀ w' ((key31, sob E8 5 (pays.getD zq []) sp33) :: (endR 30 53 89 b3 u ++ (endR 30 53 89 b9 en0 ++ G))) | 3, [v0, v1, v2] => ∃ (b23 : Nat) (key31 : Option Nat) (c32 : Nat) (sp33 : List Value) (e47 : En) (F53 : List (Option Nat × Obj)), v0 = .slice (ownA (some b23)) 0 0 ∧ v1 = .slice (ownA key31) (0 + ((pays.getD zq []).length)) c32 ∧ v2 = .nilIface ∧ Sl E8 key31 (pays.getD zq []) c32 sp33 ∧ e47.ok 5 F53 ∧ (∀ x ∈ G, x ∈ F53) ∧ en0.ok 5 F53 ∧ abs e47 = { st0 with queue := pays.take (zq + 1) } ∧ Hp No w₀ w' ((key31, sob E8 5 (pays.getD zq []) sp33) :: (endR 30 53 89 b3 e47 ++ (endR 30 53 89 b9 en0 ++ F53))) | _, _ => False) mixed (by kernel_rfl) (by kernel_rfl) HL.drew ?_
    refine WalkC.look rfl (fun _ => .pointer (some ⟨b3, 0, none⟩)) (fun _ _ _ => rfl) (fun q r uw _ _ _ _ => Gives.run rfl (r_move (v := .pointer (some ⟨b3, 0, none⟩)) rfl) ⟨rfl, rfl⟩) ?_
    refine WalkC.eff 0 rfl (fun r uw20 hF22 => ?_) ?_
    · skip
      have H21 := hF22
      dsimp only [List.take, List.map, List.cons_append, List.nil_append]
      refine Gives.ofW (d := 38) rfl rfl (fun Q' hK => ?_)
      refine q_buildSlice (E := E8) (l := []) H21 sli30 zer5 (Nat.le_of_ble_eq_true rfl) (ps := []) rfl (by exact fillAll rfl rfl) rfl ?_
      intro b23 w25 hS24 H26 hE27
      exact hK _ _ ⟨b23, rfl, hS24, H26⟩
    refine WalkC.look rfl (fun _ => .slice fa fl.length fc) (fun _ _ _ => rfl) (fun q r uw _ _ _ _ => Gives.run rfl (r_move (v := .slice fa fl.length fc) rfl) ⟨rfl, rfl⟩) ?_
    refine WalkC.look rfl (fun _ => i64 ((zq : Nat))) (fun _ _ _ => rfl) (fun q r uw _ _ _ _ => Gives.run rfl (r_move (v := i64 ((zq : Nat))) rfl) ⟨rfl, rfl⟩) ?_
    refine WalkC.look rfl (fun _ => .pointer (adr fa (zq * 1))) (fun _ _ _ => rfl) (fun q r uw hlo hhi hle hF => ?_) ?_
    · skip
      have h1 : 0 ≤ q := Nat.zero_le _
      have h2 : q ≤ 1 := hhi 1 13 rfl rfl
      rcases (show q = 0 ∨ q = 1 by omega) with rfl | rfl
      · skip
        have HH := hF
        exact Gives.run rfl (r_idxS (E := ES) (l := fl) (j := zq) sli22 (hFr.ext HH.chg) rfl rfl (by first | rfl | omega | (simp; omega)) (by rfl) (by omega)) ⟨rfl, rfl⟩
      · skip
        obtain ⟨b23, e1, hS24, HH⟩ := hF
        exact Gives.run rfl (r_idxS (E := ES) (l := fl) (j := zq) sli22 (hFr.ext HH.chg) rfl rfl (by first | rfl | omega | (simp; omega)) (by rfl) (by omega)) ⟨rfl, rfl⟩
    refine WalkC.look rfl (fun _ => .slice ((fl.getD zq sv0).a) ((cont zq).length) ((fl.getD zq sv0).c)) (fun _ _ _ => rfl) (fun q r uw hlo hhi hle hF => ?_) ?_
    · skip
      have h1 : 0 ≤ q := Nat.zero_le _
      have h2 : q ≤ 1 := hhi 1 13 rfl rfl
      rcases (show q = 0 ∨ q = 1 by omega) with rfl | rfl
      · skip
        have HH := hF
        exact Gives.run rfl ((r_ldS (E := ES) (l := fl) (j := zq) (v := (fl).getD zq sv0) fits30 (hFr.ext HH.chg) rfl rfl (at_getD (by omega))).as (v' := .slice ((fl.getD zq sv0).a) ((cont zq).length) ((fl.getD zq sv0).c)) (by rw [← (hfl zq (by omega)).1]; rfl)) ⟨rfl, rfl⟩
      · skip
        obtain ⟨b23, e1, hS24, HH⟩ := hF
        exact Gives.run rfl ((r_ldS (E := ES) (l := fl) (j := zq) (v := (fl).getD zq sv0) fits30 (hFr.ext HH.chg) rfl rfl (at_getD (by omega))).as (v' := .slice ((fl.getD zq sv0).a) ((cont zq).length) ((fl.getD zq sv0).c)) (by rw [← (hfl zq (by omega)).1]; rfl)) ⟨rfl, rfl⟩
    refine WalkC.look rfl (fun _ => .slice fa fl.length fc) (fun _ _ _ => rfl) (fun q r uw _ _ _ _ => Gives.run rfl (r_move (v := .slice fa fl.length fc) rfl) ⟨rfl, rfl⟩) ?_
    refine WalkC.look rfl (fun _ => i64 ((zq : Nat))) (fun _ _ _ => rfl) (fun q r uw _ _ _ _ => Gives.run rfl (r_move (v := i64 ((zq : Nat))) rfl) ⟨rfl, rfl⟩) ?_
    refine WalkC.look rfl (fun _ => .pointer (adr fa (zq * 1))) (fun _ _ _ => rfl) (fun q r uw hlo hhi hle hF => ?_) ?_
    · skip
      have h1 : 0 ≤ q := Nat.zero_le _
      have h2 : q ≤ 1 := hhi 1 13 rfl rfl
      rcases (show q = 0 ∨ q = 1 by omega) with rfl | rfl
      · skip
        have HH := hF
        exact Gives.run rfl (r_idxS (E := ES) (l := fl) (j := zq) sli22 (hFr.ext HH.chg) rfl rfl (by first | rfl | omega | (simp; omega)) (by rfl) (by omega)) ⟨rfl, rfl⟩
      · skip
        obtain ⟨b23, e1, hS24, HH⟩ := hF
        exact Gives.run rfl (r_idxS (E := ES) (l := fl) (j := zq) sli22 (hFr.ext HH.chg) rfl rfl (by first | rfl | omega | (simp; omega)) (by rfl) (by omega)) ⟨rfl, rfl⟩
    refine WalkC.look rfl (fun _ => .slice ((fl.getD zq sv0).a) ((cont zq).length) ((fl.getD zq sv0).c)) (fun _ _ _ => rfl) (fun q r uw hlo hhi hle hF => ?_) ?_
    · skip
      have h1 : 0 ≤ q := Nat.zero_le _
      have h2 : q ≤ 1 := hhi 1 13 rfl rfl
      rcases (show q = 0 ∨ q = 1 by omega) with rfl | rfl
      · skip
        have HH := hF
        exact Gives.run rfl ((r_ldS (E := ES) (l := fl) (j := zq) (v := (fl).getD zq sv0) fits30 (hFr.ext HH.chg) rfl rfl (at_getD (by omega))).as (v' := .slice ((fl.getD zq sv0).a) ((cont zq).length) ((fl.getD zq sv0).c)) (by rw [← (hfl zq (by omega)).1]; rfl)) ⟨rfl, rfl⟩
      · skip
        obtain ⟨b23, e1, hS24, HH⟩ := hF
        exact Gives.run rfl ((r_ldS (E := ES) (l := fl) (j := zq) (v := (fl).getD zq sv0) fits30 (hFr.ext HH.chg) rfl rfl (at_getD (by omega))).as (v' := .slice ((fl.getD zq sv0).a) ((cont zq).length) ((fl.getD zq sv0).c)) (by rw [← (hfl zq (by omega)).1]; rfl)) ⟨rfl, rfl⟩
    refine WalkC.look rfl (fun _ => i64 (((cont zq).length : Nat))) (fun _ _ _ => rfl) (fun q r uw _ _ _ _ => Gives.run rfl (r_lenS sli30 (a := (fl.getD zq sv0).a) (m := (cont zq).length) (c := (fl.getD zq sv0).c) rfl) ⟨rfl, rfl⟩) ?_
    refine WalkC.look rfl (fun _ => i64 (min ((cont zq).length : Nat) (5000 : Int))) (fun _ _ _ => rfl) (fun q r uw _ _ _ _ => Gives.run rfl (r_minI (a := ((cont zq).length : Nat)) (b := (5000 : Int)) rfl rfl) ⟨rfl, rfl⟩) ?_
    refine WalkC.look rfl (fun _ => .slice ((fl.getD zq sv0).a) ((pays.getD zq []).length) ((fl.getD zq sv0).c)) (fun _ _ _ => rfl) (fun q r uw _ _ _ _ => Gives.run rfl (((r_sliceS (l := 0) (h := (min (cont zq).length 5000)) sli30 rfl (.inr ⟨rfl, rfl⟩) (.inl ⟨_, _, _, rfl, rfl, by first | rfl | omega | (simp; omega)⟩) (by first | omega | (have := (hfl zq (by omega)).2.2.2; have := (hfl zq (by omega)).1; omega)) (by first | omega | (have := (hfl zq (by omega)).2.2.2; have := (hfl zq (by omega)).1; omega))).as (v' := .slice (if (fl.getD zq sv0).c = 0 then (fl.getD zq sv0).a else adr ((fl.getD zq sv0).a) (0 * 1)) (min (cont zq).length 5000) (((fl.getD zq sv0).c) - 0)) (by first | rfl | (congr 1; omega) | (simp; omega) | simp)).as (v' := .slice ((fl.getD zq sv0).a) ((pays.getD zq []).length) ((fl.getD zq sv0).c)) (by rw [ite_adr0, hpl zq (by omega)]; rfl)) ⟨rfl, rfl⟩) ?_
    refine WalkC.eff 1 rfl (fun r uw28 hF30 => ?_) ?_
    · skip
      obtain ⟨b23, e1, hS24, H29⟩ := hF30
      dsimp only [List.take, List.map, List.cons_append, List.nil_append]
      rw [e1]
      refine Gives.ofW (d := 50) rfl rfl (fun Q' hK => ?_)
      refine q_append (E := E8) (k := 0) (l := []) (l2 := pays.getD zq []) H29 rfl hS24 sli30 zer5 rfl byt5 (by rw [hpg zq (by omega)]; exact ((hfl zq (by omega)).2.1.ext H29.chg).take _) rfl (by rfl) rfl (by rfl) (by have := hpl zq (by omega); omega) ?_
      intro key31 c32 sp33 w35 hS34 hne37 H36
      have H36' := H36.as (L' := ((key31, sob E8 5 (([]) ++ (pays.getD zq [])) sp33) :: (endR 30 53 89 b3 u ++ (endR 30 53 89 b9 en0 ++ G)))) rfl
      clear H36
      have e38 : ([]) ++ (pays.getD zq []) = pays.getD zq [] := by rw [List.nil_append]
      have hS39 := hS34
      rw [e38] at hS39
      have H40 := H36'.as (L' := ((key31, sob E8 5 (pays.getD zq []) sp33) :: (endR 30 53 89 b3 u ++ (endR 30 53 89 b9 en0 ++ G)))) (by rw [e38])
      exact hK _ _ ⟨b23, key31, c32, sp33, rfl, rfl, hS39, H40⟩
    refine WalkC.eff 2 rfl (fun r uw41 hF43 => ?_) ?_
    · skip
      obtain ⟨b23, key31, c32, sp33, e1, e13, hS39, H42⟩ := hF43
      dsimp only [List.take, List.map, List.cons_append, List.nil_append]
      rw [e1, e13]
      refine Gives.ofW (d := 51) rfl rfl (fun Q' hK => ?_)
      have H44 := Hp.mid (X := [(key31, sob E8 5 (pays.getD zq []) sp33)]) (A := endR 30 53 89 b3 u) (Y := endR 30 53 89 b9 en0 ++ G) H42
      refine c_call (vs := [.pointer (some ⟨b3, 0, none⟩), .slice (ownA key31) (0 + ((pays.getD zq []).length)) c32]) call25 rfl (send_ok b3 u G ([(key31, sob E8 5 (pays.getD zq []) sp33)] ++ (endR 30 53 89 b9 en0 ++ G)) hu (fun x h => List.mem_append_right _ (List.mem_append_right _ h)) w₀ uw41 H44 (show (abs u).dead = false from (congrArg St.dead hua).trans rfl) (pays.getD zq []) (ownA key31) (0 + ((pays.getD zq []).length)) c32 (by rw [Nat.zero_add]) (H42.rd (k := 0) rfl hS39) (by have := hpl zq (by omega); omega) (by rw [← bss_len]; show (abs u).queue.length < 64; rw [hua]; rw [List.length_take]; omega)) ?_
      rintro _ w45 ⟨rfl, e47, X48, HN49, hok50, hab51⟩
      have H52 := Hp.backA (R := [(key31, sob E8 5 (pays.getD zq []) sp33)]) (A := endR 30 53 89 b3 e47) (B := endR 30 53 89 b9 en0) (X := X48) (F := G) HN49
      obtain ⟨F53, hF54⟩ : ∃ F2, F2 = X48 ++ G := ⟨_, rfl⟩
      rw [← hF54] at H52 hok50
      have hsub55 : ∀ x ∈ G, x ∈ F53 := fun x h => by rw [hF54]; exact List.mem_append_right _ h
      have ok57 := okb19.mono hsub55
      have H56 := H52.as (L' := ((key31, sob E8 5 (pays.getD zq []) sp33) :: (endR 30 53 89 b3 e47 ++ (endR 30 53 89 b9 en0 ++ F53)))) rfl
      have hab58 : abs e47 = { st0 with queue := pays.take (zq + 1) } := by rw [hab51]; rw [hua]; show ({ st0 with queue := pays.take zq ++ [pays.getD zq []] } : St) = _; rw [take_snoc (by omega)]
      exact hK _ _ ⟨b23, key31, c32, sp33, e47, F53, rfl, rfl, rfl, hS39, hok50, hsub55, ok57, hab58, H56⟩
    refine WalkC.look rfl (fun _ => .bool (false)) (fun _ _ _ => rfl) (fun q r uw hlo hhi hle hF => ?_) ?_
    · skip
      have h1 : 3 ≤ q := hlo 2 14 rfl rfl
      have h2 : q ≤ 3 := hle
      rcases (show q = 3 by omega) with rfl
      · skip
        obtain ⟨b23, key31, c32, sp33, e47, F53, e1, e13, e14, hS39, hok50, hsub55, ok57, hab58, HH⟩ := hF
        dsimp only
        rw [e14]
        exact Gives.run rfl ((r_neqNN isI28 rfl rfl).as (v' := .bool (false)) (by rfl)) ⟨rfl, rfl⟩
    refine WalkC.nil ?_
    intro r59 w60 hF62
    obtain ⟨b23, key31, c32, sp33, e47, F53, e1, e13, e14, hS39, hok50, hsub55, ok57, hab58, H61⟩ := hF62
    dsimp only
    rw [e1, e13, e14]
    refine wnil ?_
    refine thenNormal ?_
    refine condFalse rfl ?_
    refine skipAny ?_
    refine blockNormal ?_
    refine thenNormal ?_
    refine oneRegion ?_
    refine sq (r_move (v := i64 ((zq : Nat))) rfl) ?_
    refine sq (r_addI (a := (zq : Nat)) (b := (1 : Int)) rfl rfl (by omega)) ?_
    refine sq (r_assign (v := i64 ((zq : Nat) + (1 : Int))) rfl) ?_
    refine wnil ?_
    refine thenNormal ?_
    exact ⟨(zq + 1, e47, F53), _, rfl, ⟨rfl, rfl, rfl, rfl, rfl, trivial⟩, ⟨⟨by omega, hok50, hab58⟩, (H61.dropk 0)⟩, by show n - (zq + 1) < n - zq; omega⟩
  · skip
    obtain rfl : n = zq := by omega
    refine exitAny ?_
    refine thenExit ?_
    refine thenExit ?_
    refine blockHere ?_
    refine thenNormal ?_
    refine seqAny ?_
    refine seqRegion ?_
    refine sq (r_assign (v := i64 ((0 : Int))) rfl) ?_
    refine wend ?_
    refine blockAny ?_
    refine loopAny (σ := Nat × En × En × List (Option Nat × Obj)) (fun (r, u, v, G0) => [(0, .slice fa fl.length fc), (3, .pointer (some ⟨b3, 0, none⟩)), (4, .pointer (some ⟨b9, 0, none⟩)), (5, i64 ((n : Nat))), (7, i64 ((r : Nat)))]) (fun (r, u, v, G0) w' => (r ≤ 2 * n + 2 ∧ u.ok 5 G0 ∧ v.ok 5 G0 ∧ abs u = endA pays r ∧ abs v = endB pays r) ∧ Hp No w₀ w' ((endR 30 53 89 b3 u ++ (endR 30 53 89 b9 v ++ G0)))) (fun (r, u, v, G0) => 2 * n + 2 - r) ((0, u, en0, G)) ?_ ?_ ?_
    · exact ⟨rfl, rfl, rfl, rfl, rfl, trivial⟩
    · exact ⟨⟨Nat.zero_le _, hu, en0_okF 5 G, by rw [hua, List.take_of_length_le (by omega)]; exact endA_zero.symm, endB_zero.symm⟩, HL⟩
    rintro ⟨r, u, v, G0⟩ ρ w63 ⟨⟨hr, hu, hv, hua, hva⟩, HLB⟩
    have hea := endA_bnd (pays := pays) (r := r) (by omega)
    have hlb := fun q => bndB (pays := pays) (r := r) (by omega) (by omega) q
    have hla := fun l hl q => bndA (pays := pays) (r := r) (by omega) l hl q
    have hl2 := len2 (pays := pays) (r := r) (by omega) (by omega)
    have hlA := lenA (pays := pays) r
    have hlb1 := hlb 1
    rw [List.take_of_length_le (lenA r)] at hlb1
    refine seqAny ?_
    refine seqRegion ?_
    refine sq (r_move (v := i64 ((r : Nat))) rfl) ?_
    refine sq (r_move (v := i64 ((n : Nat))) rfl) ?_
    refine sq (r_mulI (a := (2 : Int)) (b := (n : Nat)) rfl rfl (by omega)) ?_
    refine sq (r_addI (a := (2 : Int) * (n : Nat)) (b := (2 : Int)) rfl rfl (by omega)) ?_
    refine sq (r_lssI (a := (r : Nat)) (b := ((2 : Int) * (n : Nat)) + (2 : Int)) rfl rfl) ?_
    refine wend ?_
    refine condProp (((r : Nat) : Int) < (((2 : Int) * (n : Nat)) + (2 : Int))) rfl (fun hk57 => ?_) (fun hk57 => ?_)
    · skip
      refine skipAny ?_
      refine thenNormal ?_
      refine seqAny ?_
      refine blockAny ?_
      refine seqAny ?_
      refine seqRegion ?_
      refine sq (r_move (v := .pointer (some ⟨b3, 0, none⟩)) rfl) ?_
      have H65 := Hp.mid (X := []) (A := endR 30 53 89 b3 u) (Y := endR 30 53 89 b9 v ++ G0) HLB
      refine c_call (vs := [.pointer (some ⟨b3, 0, none⟩)]) call28 rfl (step_any b3 u G0 ([] ++ (endR 30 53 89 b9 v ++ G0)) hu (fun x h => List.mem_append_right _ (List.mem_append_right _ h)) w₀ w63 H65 hG (by show (abs u).since < 1000000000; rw [hua]; exact hea.1) (by show (abs u).owed.length ≤ 1000000; rw [hua]; exact hea.2.1) (by show (abs u).sends ≤ 8; rw [hua]; exact hea.2.2)) ?_
      rintro _ w66 ⟨x68, e69, rfl, hx70, hxb71, hok72, hab73, HN74⟩
      have hfs1 : ∀ f ∈ x68.fs, f.bs.length ≤ 1048585 := fun f h => frames_small (s := abs u) (fun p hp => by obtain ⟨g, hg, rfl⟩ := List.mem_map.1 hp; exact hu.small g hg) f.bs (by rw [← hxb71]; exact List.mem_map_of_mem h)
      rw [hua] at hxb71 hab73
      obtain ⟨X75, hX76⟩ : ∃ X, X = (x68.key, sob ES 30 (svs x68.fs) x68.sp) :: frs 5 x68.fs := ⟨_, rfl⟩
      have hok72' := hok72.mono (F' := X75 ++ G0) (fun x h => List.mem_append_right _ h)
      have HN74' := HN74.as (L' := endR 30 53 89 b3 e69 ++ (X75 ++ ([] ++ (endR 30 53 89 b9 v ++ G0)))) (by rw [hX76]; rfl)
      have hxb71' : bss x68.fs = (stepS (endA pays r)).2 := by rw [hxb71]
      have H78 := Hp.backA (R := []) (A := endR 30 53 89 b3 e69) (B := endR 30 53 89 b9 v) (X := X75) (F := G0) HN74'
      obtain ⟨F79, hF80⟩ : ∃ F2, F2 = X75 ++ G0 := ⟨_, rfl⟩
      rw [← hF80] at H78 hok72'
      have hsub81 : ∀ x ∈ G0, x ∈ F79 := fun x h => by rw [hF80]; exact List.mem_append_right _ h
      have ok83 := hv.mono hsub81
      have H82 := H78.as (L' := ((endR 30 53 89 b3 e69 ++ (endR 30 53 89 b9 v ++ F79)))) rfl
      have hm84 : (x68.key, sob ES 30 (svs x68.fs) x68.sp) ∈ F79 := by rw [hF80, hX76]; exact List.mem_append_left _ (List.mem_cons_self ..)
      have hmf85 : ∀ f ∈ x68.fs, f.row 5 ∈ F79 := fun f h => by rw [hF80, hX76]; exact List.mem_append_left _ (List.mem_cons_of_mem _ (List.mem_map_of_mem h))
      have hab86 : abs e69 = (stepS (endA pays r)).1 := by rw [hab73]
      refine sq (r_lenS sli22 (a := ownA x68.key) (m := x68.fs.length) (c := x68.c) rfl) ?_
      refine sq (r_move (v := i64 ((0 : Int))) rfl) ?_
      refine wend ?_
      refine blockAny ?_
      refine loopAny (σ := Nat × En × List (Option Nat × Obj)) (fun (q1, y, G1) => [(0, .slice fa fl.length fc), (3, .pointer (some ⟨b3, 0, none⟩)), (4, .pointer (some ⟨b9, 0, none⟩)), (5, i64 ((n : Nat))), (7, i64 ((r : Nat))), (61, .slice (ownA x68.key) x68.fs.length x68.c), (62, i64 ((x68.fs.length : Nat))), (63, i64 ((q1 : Nat)))]) (fun (q1, y, G1) w' => (q1 ≤ x68.fs.length ∧ y.ok 5 G1 ∧ (∀ x ∈ F79, x ∈ G1) ∧ abs y = heard (endB pays r) ((stepS (endA pays r)).2.take q1)) ∧ Hp No w₀ w' ((endR 30 53 89 b3 e69 ++ (endR 30 53 89 b9 y ++ G1)))) (fun (q1, y, G1) => x68.fs.length - q1) ((0, v, F79)) ?_ ?_ ?_
      · exact ⟨rfl, rfl, rfl, rfl, rfl, rfl, rfl, rfl, trivial⟩
      · exact ⟨⟨Nat.zero_le _, ok83, fun _ h => h, by rw [hva]; rfl⟩, H82⟩
      rintro ⟨q1, y, G1⟩ ρ w87 ⟨⟨hqq1, hoky, hsubG1, haby⟩, HG1⟩
      have ok89 := hok72'.mono hsubG1
      have hlnG1 := bss_len2 hxb71'
      refine seqRegion ?_
      refine sq (r_lssI (a := (q1 : Nat)) (b := (x68.fs.length : Nat)) rfl rfl) ?_
      refine wend ?_
      refine seqAny ?_
      refine condProp (((q1 : Nat) : Int) < (x68.fs.length : Nat)) rfl (fun c64 => ?_) (fun c64 => ?_)
      · skip
        obtain ⟨f90, hf91⟩ : ∃ f, x68.fs[q1]? = some f := ⟨_, List.getElem?_eq_getElem (by omega)⟩
        have hfok92 := hx70.each _ (List.mem_of_getElem? hf91)
        have hm93 := hmf85 _ (List.mem_of_getElem? hf91)
        have hfl94 := hfs1 _ (List.mem_of_getElem? hf91)
        refine skipAny ?_
        refine thenNormal ?_
        refine seqAny ?_
        refine blockAny ?_
        refine seqRegion ?_
        refine sq (r_idxS (E := ES) (l := svs x68.fs) (j := q1) sli22 (HG1.rdm (T := 30) hx70.sl (List.mem_append_right _ (List.mem_append_right _ (hsubG1 _ hm84)))) rfl rfl (by first | rfl | omega | (simp; omega)) (by exact (svs_len _).symm) (by rw [svs_len]; omega)) ?_
        refine sq ((r_ldS (E := ES) (l := svs x68.fs) (j := q1) (v := (svs x68.fs).getD q1 sv0) fits30 (HG1.rdm (T := 30) hx70.sl (List.mem_append_right _ (List.mem_append_right _ (hsubG1 _ hm84)))) rfl rfl (at_getD (by rw [svs_len]; omega))).as (v' := .slice (ownA f90.key) f90.bs.length f90.c) (by rw [svs_get hf91]; rfl)) ?_
        refine sq (r_assign (v := .slice (ownA f90.key) f90.bs.length f90.c) rfl) ?_
        refine wend ?_
        refine oneRegion ?_
        refine sq (r_move (v := .pointer (some ⟨b9, 0, none⟩)) rfl) ?_
        refine sq (r_move (v := .slice (ownA f90.key) f90.bs.length f90.c) rfl) ?_
        have H95 := Hp.midB (R := []) (A := endR 30 53 89 b3 e69) (B := endR 30 53 89 b9 y) (F := G1) HG1
        refine c_call (vs := [.pointer (some ⟨b9, 0, none⟩), .slice (ownA f90.key) f90.bs.length f90.c]) call27 rfl (hear_any b9 y G1 ([] ++ (endR 30 53 89 b3 e69 ++ G1)) hoky (fun x h => List.mem_append_right _ (List.mem_append_right _ h)) w₀ w87 H95 f90.bs (ownA f90.key) f90.bs.length f90.c (by rfl) (by exact hfok92.cap) (by omega) (HG1.rdm (T := 5) hfok92 (List.mem_append_right _ (List.mem_append_right _ (hsubG1 _ hm93)))) (by show (abs y).owed.length ≤ 1000000; rw [haby]; exact (hlb q1).1) (by rw [← bss_len]; show (abs y).came.length ≤ 1000000; rw [haby]; exact (hlb q1).2.1)) ?_
        rintro _ w96 ⟨rfl, e98, X99, HN100, hok101, hab102⟩
        have H103 := Hp.backB (R := []) (A := endR 30 53 89 b3 e69) (B := endR 30 53 89 b9 e98) (X := X99) (F := G1) HN100
        obtain ⟨F104, hF105⟩ : ∃ F2, F2 = X99 ++ G1 := ⟨_, rfl⟩
        rw [← hF105] at H103 hok101
        have hsub106 : ∀ x ∈ G1, x ∈ F104 := fun x h => by rw [hF105]; exact List.mem_append_right _ h
        have ok108 := ok89.mono hsub106
        have H107 := H103.as (L' := ((endR 30 53 89 b3 e69 ++ (endR 30 53 89 b9 e98 ++ F104)))) rfl
        have hab109 : abs e98 = heard (endB pays r) ((stepS (endA pays r)).2.take (q1 + 1)) := by rw [hab102]; rw [haby]; rw [heard_take (by omega), ← hxb71', bss_get hf91]
        refine wnil ?_
        refine blockNormal ?_
        refine thenNormal ?_
        refine oneRegion ?_
        refine sq (r_addI (a := (q1 : Nat)) (b := (1 : Int)) rfl rfl (by omega)) ?_
        refine sq (r_move (v := i64 ((q1 : Nat) + (1 : Int))) rfl) ?_
        refine wnil ?_
        refine thenNormal ?_
        exact ⟨(q1 + 1, e98, F104), _, rfl, ⟨rfl, rfl, rfl, rfl, rfl, rfl, rfl, rfl, trivial⟩, ⟨⟨by omega, hok101, fun x h => (hsub106 _ (hsubG1 _ h)), hab109⟩, H107⟩, by show x68.fs.length - (q1 + 1) < x68.fs.length - q1; omega⟩
      · skip
        obtain rfl : q1 = x68.fs.length := by omega
        have hab110 : abs y = heard (endB pays r) (stepS (endA pays r)).2 := by rw [haby, List.take_of_length_le (by omega)]
        refine exitAny ?_
        refine thenExit ?_
        refine thenExit ?_
        refine blockHere ?_
        refine thenNormal ?_
        refine seqRegion ?_
        refine sq (r_move (v := .pointer (some ⟨b9, 0, none⟩)) rfl) ?_
        have H111 := Hp.midB (R := []) (A := endR 30 53 89 b3 e69) (B := endR 30 53 89 b9 y) (F := G1) HG1
        refine c_call (vs := [.pointer (some ⟨b9, 0, none⟩)]) call28 rfl (step_any b9 y G1 ([] ++ (endR 30 53 89 b3 e69 ++ G1)) hoky (fun x h => List.mem_append_right _ (List.mem_append_right _ h)) w₀ w87 H111 hG (by show (abs y).since < 1000000000; rw [hab110]; exact hlb1.2.2.1) (by show (abs y).owed.length ≤ 1000000; rw [hab110]; exact hlb1.1) (by show (abs y).sends ≤ 8; rw [hab110]; exact hlb1.2.2.2)) ?_
        rintro _ w112 ⟨x114, e115, rfl, hx116, hxb117, hok118, hab119, HN120⟩
        have hfs2 : ∀ f ∈ x114.fs, f.bs.length ≤ 1048585 := fun f h => frames_small (s := abs y) (fun p hp => by obtain ⟨g, hg, rfl⟩ := List.mem_map.1 hp; exact hoky.small g hg) f.bs (by rw [← hxb117]; exact List.mem_map_of_mem h)
        rw [hab110] at hxb117 hab119
        obtain ⟨X121, hX122⟩ : ∃ X, X = (x114.key, sob ES 30 (svs x114.fs) x114.sp) :: frs 5 x114.fs := ⟨_, rfl⟩
        have hok118' := hok118.mono (F' := X121 ++ G1) (fun x h => List.mem_append_right _ h)
        have HN120' := HN120.as (L' := endR 30 53 89 b9 e115 ++ (X121 ++ ([] ++ (endR 30 53 89 b3 e69 ++ G1)))) (by rw [hX122]; rfl)
        have hxb117' : bss x114.fs = (stepS (heard (endB pays r) (stepS (endA pays r)).2)).2 := by rw [hxb117]
        have H124 := Hp.backB (R := []) (A := endR 30 53 89 b3 e69) (B := endR 30 53 89 b9 e115) (X := X121) (F := G1) HN120'
        obtain ⟨F125, hF126⟩ : ∃ F2, F2 = X121 ++ G1 := ⟨_, rfl⟩
        rw [← hF126] at H124 hok118'
        have hsub127 : ∀ x ∈ G1, x ∈ F125 := fun x h => by rw [hF126]; exact List.mem_append_right _ h
        have ok129 := ok89.mono hsub127
        have H128 := H124.as (L' := ((endR 30 53 89 b3 e69 ++ (endR 30 53 89 b9 e115 ++ F125)))) rfl
        have hm130 : (x114.key, sob ES 30 (svs x114.fs) x114.sp) ∈ F125 := by rw [hF126, hX122]; exact List.mem_append_left _ (List.mem_cons_self ..)
        have hmf131 : ∀ f ∈ x114.fs, f.row 5 ∈ F125 := fun f h => by rw [hF126, hX122]; exact List.mem_append_left _ (List.mem_cons_of_mem _ (List.mem_map_of_mem h))
        have hab132 : abs e115 = endB pays (r + 1) := by rw [hab119]; exact round_b r
        refine sq (r_lenS sli22 (a := ownA x114.key) (m := x114.fs.length) (c := x114.c) rfl) ?_
        refine sq (r_move (v := i64 ((0 : Int))) rfl) ?_
        refine wend ?_
        refine blockAny ?_
        refine loopAny (σ := Nat × En × List (Option Nat × Obj)) (fun (q2, z, G2) => [(0, .slice fa fl.length fc), (3, .pointer (some ⟨b3, 0, none⟩)), (4, .pointer (some ⟨b9, 0, none⟩)), (5, i64 ((n : Nat))), (7, i64 ((r : Nat))), (72, .slice (ownA x114.key) x114.fs.length x114.c), (73, i64 ((x114.fs.length : Nat))), (74, i64 ((q2 : Nat)))]) (fun (q2, z, G2) w' => (q2 ≤ x114.fs.length ∧ z.ok 5 G2 ∧ (∀ x ∈ F125, x ∈ G2) ∧ abs z = heard (stepS (endA pays r)).1 ((stepS (heard (endB pays r) (stepS (endA pays r)).2)).2.take q2)) ∧ Hp No w₀ w' ((endR 30 53 89 b3 z ++ (endR 30 53 89 b9 e115 ++ G2)))) (fun (q2, z, G2) => x114.fs.length - q2) ((0, e69, F125)) ?_ ?_ ?_
        · exact ⟨rfl, rfl, rfl, rfl, rfl, rfl, rfl, rfl, trivial⟩
        · exact ⟨⟨Nat.zero_le _, ok129, fun _ h => h, by rw [hab86]; rfl⟩, H128⟩
        rintro ⟨q2, z, G2⟩ ρ w133 ⟨⟨hqq2, hokz, hsubG2, habz⟩, HG2⟩
        have ok135 := hok118'.mono hsubG2
        have hlnG2 := bss_len2 hxb117'
        refine seqRegion ?_
        refine sq (r_lssI (a := (q2 : Nat)) (b := (x114.fs.length : Nat)) rfl rfl) ?_
        refine wend ?_
        refine seqAny ?_
        refine condProp (((q2 : Nat) : Int) < (x114.fs.length : Nat)) rfl (fun c75 => ?_) (fun c75 => ?_)
        · skip
          obtain ⟨f136, hf137⟩ : ∃ f, x114.fs[q2]? = some f := ⟨_, List.getElem?_eq_getElem (by omega)⟩
          have hfok138 := hx116.each _ (List.mem_of_getElem? hf137)
          have hm139 := hmf131 _ (List.mem_of_getElem? hf137)
          have hfl140 := hfs2 _ (List.mem_of_getElem? hf137)
          refine skipAny ?_
          refine thenNormal ?_
          refine seqAny ?_
          refine blockAny ?_
          refine seqRegion ?_
          refine sq (r_idxS (E := ES) (l := svs x114.fs) (j := q2) sli22 (HG2.rdm (T := 30) hx116.sl (List.mem_append_right _ (List.mem_append_right _ (hsubG2 _ hm130)))) rfl rfl (by first | rfl | omega | (simp; omega)) (by exact (svs_len _).symm) (by rw [svs_len]; omega)) ?_
          refine sq ((r_ldS (E := ES) (l := svs x114.fs) (j := q2) (v := (svs x114.fs).getD q2 sv0) fits30 (HG2.rdm (T := 30) hx116.sl (List.mem_append_right _ (List.mem_append_right _ (hsubG2 _ hm130)))) rfl rfl (at_getD (by rw [svs_len]; omega))).as (v' := .slice (ownA f136.key) f136.bs.length f136.c) (by rw [svs_get hf137]; rfl)) ?_
          refine sq (r_assign (v := .slice (ownA f136.key) f136.bs.length f136.c) rfl) ?_
          refine wend ?_
          refine oneRegion ?_
          refine sq (r_move (v := .pointer (some ⟨b3, 0, none⟩)) rfl) ?_
          refine sq (r_move (v := .slice (ownA f136.key) f136.bs.length f136.c) rfl) ?_
          have H141 := Hp.mid (X := []) (A := endR 30 53 89 b3 z) (Y := endR 30 53 89 b9 e115 ++ G2) HG2
          refine c_call (vs := [.pointer (some ⟨b3, 0, none⟩), .slice (ownA f136.key) f136.bs.length f136.c]) call27 rfl (hear_any b3 z G2 ([] ++ (endR 30 53 89 b9 e115 ++ G2)) hokz (fun x h => List.mem_append_right _ (List.mem_append_right _ h)) w₀ w133 H141 f136.bs (ownA f136.key) f136.bs.length f136.c (by rfl) (by exact hfok138.cap) (by omega) (HG2.rdm (T := 5) hfok138 (List.mem_append_right _ (List.mem_append_right _ (hsubG2 _ hm139)))) (by show (abs z).owed.length ≤ 1000000; rw [habz]; exact (hla _ hl2 q2).1) (by rw [← bss_len]; show (abs z).came.length ≤ 1000000; rw [habz]; exact (hla _ hl2 q2).2)) ?_
          rintro _ w142 ⟨rfl, e144, X145, HN146, hok147, hab148⟩
          have H149 := Hp.backA (R := []) (A := endR 30 53 89 b3 e144) (B := endR 30 53 89 b9 e115) (X := X145) (F := G2) HN146
          obtain ⟨F150, hF151⟩ : ∃ F2, F2 = X145 ++ G2 := ⟨_, rfl⟩
          rw [← hF151] at H149 hok147
          have hsub152 : ∀ x ∈ G2, x ∈ F150 := fun x h => by rw [hF151]; exact List.mem_append_right _ h
          have ok154 := ok135.mono hsub152
          have H153 := H149.as (L' := ((endR 30 53 89 b3 e144 ++ (endR 30 53 89 b9 e115 ++ F150)))) rfl
          have hab155 : abs e144 = heard (stepS (endA pays r)).1 ((stepS (heard (endB pays r) (stepS (endA pays r)).2)).2.take (q2 + 1)) := by rw [hab148]; rw [habz]; rw [heard_take (by omega), ← hxb117', bss_get hf137]
          refine wnil ?_
          refine blockNormal ?_
          refine thenNormal ?_
          refine oneRegion ?_
          refine sq (r_addI (a := (q2 : Nat)) (b := (1 : Int)) rfl rfl (by omega)) ?_
          refine sq (r_move (v := i64 ((q2 : Nat) + (1 : Int))) rfl) ?_
          refine wnil ?_
          refine thenNormal ?_
          exact ⟨(q2 + 1, e144, F150), _, rfl, ⟨rfl, rfl, rfl, rfl, rfl, rfl, rfl, rfl, trivial⟩, ⟨⟨by omega, hok147, fun x h => (hsub152 _ (hsubG2 _ h)), hab155⟩, H153⟩, by show x114.fs.length - (q2 + 1) < x114.fs.length - q2; omega⟩
        · skip
          obtain rfl : q2 = x114.fs.length := by omega
          have hab156 : abs z = endA pays (r + 1) := by rw [habz, List.take_of_length_le (by omega)]; exact round_a r
          refine exitAny ?_
          refine thenExit ?_
          refine thenExit ?_
          refine blockHere ?_
          refine blockNormal ?_
          refine thenNormal ?_
          refine oneRegion ?_
          refine sq (r_move (v := i64 ((r : Nat))) rfl) ?_
          refine sq (r_addI (a := (r : Nat)) (b := (1 : Int)) rfl rfl (by omega)) ?_
          refine sq (r_assign (v := i64 ((r : Nat) + (1 : Int))) rfl) ?_
          refine wnil ?_
          refine thenNormal ?_
          exact ⟨(r + 1, z, e115, G2), _, rfl, ⟨rfl, rfl, rfl, rfl, rfl, trivial⟩, ⟨⟨by omega, hokz, ok135, hab156, hab132⟩, HG2⟩, by show 2 * n + 2 - (r + 1) < 2 * n + 2 - r; omega⟩
    · skip
      obtain rfl : r = 2 * n + 2 := by omega
      refine exitAny ?_
      refine thenExit ?_
      refine thenExit ?_
      refine blockHere ?_
      refine thenNormal ?_
      refine seqAny ?_
      refine seqRegion ?_
      refine sq (r_assign (v := i64 ((0 : Int))) rfl) ?_
      refine wend ?_
      refine blockAny ?_
      refine loopAny (σ := Nat × En × List (Option Nat × Obj)) (fun (q3, y3, G3) => [(0, .slice fa fl.length fc), (3, .pointer (some ⟨b3, 0, none⟩)), (4, .pointer (some ⟨b9, 0, none⟩)), (5, i64 ((n : Nat))), (12, i64 ((q3 : Nat)))]) (fun (q3, y3, G3) w' => (q3 ≤ n ∧ u.ok 5 G3 ∧ y3.ok 5 G3 ∧ abs y3 = { endB pays (2 * n + 2) with came := pays.drop q3 }) ∧ Hp No w₀ w' ((endR 30 53 89 b3 u ++ (endR 30 53 89 b9 y3 ++ G3)))) (fun (q3, y3, G3) => n - q3) ((0, v, G0)) ?_ ?_ ?_
      · exact ⟨rfl, rfl, rfl, rfl, rfl, trivial⟩
      · exact ⟨⟨Nat.zero_le _, hu, hv, by rw [hva]; exact endB_came (by omega)⟩, HLB⟩
      rintro ⟨q3, y3, G3⟩ ρ w157 ⟨⟨hq3, hu3, hy3, hya3⟩, HL3⟩
      refine seqAny ?_
      refine seqRegion ?_
      refine sq (r_move (v := i64 ((q3 : Nat))) rfl) ?_
      refine sq (r_move (v := i64 ((n : Nat))) rfl) ?_
      refine sq (r_lssI (a := (q3 : Nat)) (b := (n : Nat)) rfl rfl) ?_
      refine wend ?_
      refine condProp (((q3 : Nat) : Int) < (n : Nat)) rfl (fun c84 => ?_) (fun c84 => ?_)
      · skip
        refine skipAny ?_
        refine thenNormal ?_
        refine seqAny ?_
        refine blockAny ?_
        refine seqRegion ?_
        refine sq (r_move (v := .pointer (some ⟨b9, 0, none⟩)) rfl) ?_
        obtain ⟨f159, hf160, hfb161⟩ := bss_at (F := y3.cm.fs) (i := 0) (b := pays.getD q3 []) (by show (abs y3).came[0]? = _; rw [hya3]; exact drop_get (by omega))
        have H162 := Hp.midB (R := []) (A := endR 30 53 89 b3 u) (B := endR 30 53 89 b9 y3) (F := G3) HL3
        have hfok163 := hy3.cm.each _ (List.mem_of_getElem? hf160)
        have hm164 := hy3.cmm _ (List.mem_of_getElem? hf160)
        refine c_call (vs := [.pointer (some ⟨b9, 0, none⟩)]) call29 rfl (take_some b9 y3 G3 ([] ++ (endR 30 53 89 b3 u ++ G3)) hy3 (fun x h => List.mem_append_right _ (List.mem_append_right _ h)) w₀ w157 H162 f159 hf160) ?_
        rintro _ w165 ⟨rfl, e167, HN168, hok169, hab170⟩
        have HN168' := HN168.as (L' := endR 30 53 89 b9 e167 ++ (([] : List (Option Nat × Obj)) ++ ([] ++ (endR 30 53 89 b3 u ++ G3)))) rfl
        have hok169' := hok169.mono (F' := ([] : List (Option Nat × Obj)) ++ G3) (fun x h => h)
        have H172 := Hp.backB (R := []) (A := endR 30 53 89 b3 u) (B := endR 30 53 89 b9 e167) (X := ([] : List (Option Nat × Obj))) (F := G3) HN168'
        obtain ⟨F173, hF174⟩ : ∃ F2, F2 = ([] : List (Option Nat × Obj)) ++ G3 := ⟨_, rfl⟩
        rw [← hF174] at H172 hok169'
        have hsub175 : ∀ x ∈ G3, x ∈ F173 := fun x h => by rw [hF174]; exact List.mem_append_right _ h
        have ok177 := hu3.mono hsub175
        have H176 := H172.as (L' := ((endR 30 53 89 b3 u ++ (endR 30 53 89 b9 e167 ++ F173)))) rfl
        have hab178 : abs e167 = { endB pays (2 * n + 2) with came := pays.drop (q3 + 1) } := by rw [hab170]; rw [hya3]; show ({ endB pays (2 * n + 2) with came := (pays.drop q3).drop 1 } : St) = _; rw [List.drop_drop]
        refine sq (r_move (v := .tuple #[.slice (ownA f159.key) f159.bs.length f159.c, .bool (true)]) rfl) ?_
        refine sq (r_extract (vs := #[.slice (ownA f159.key) f159.bs.length f159.c, .bool (true)]) rfl rfl) ?_
        refine sq (r_extract (vs := #[.slice (ownA f159.key) f159.bs.length f159.c, .bool (true)]) rfl rfl) ?_
        refine sq (r_assign (v := .slice (ownA f159.key) f159.bs.length f159.c) rfl) ?_
        refine sq (r_assign (v := .bool (true)) rfl) ?_
        refine wend ?_
        refine seqAny ?_
        refine drawAny (K := [none, none, none, none, none, none, none, none, none, none, none, none, none, none, none, none, none, none, none]) [0, 1, 3, 7, 15, 7, 7, 103, 231, 7, 7, 1543, 3591, 7687, 15879, 32743, 65511, 131071, 262143] (fun w' => Ext w165 w') (fun w' w'' => Ext w' w'') mixed (by kernel_rfl) (Ext.drew _) (fun _ _ h h' => h.trans h') ?_ ?_
        · exact relNone (by decide)
        refine ⟨.bool (true), fun _ uw179 hC180 _ => Gives.run rfl (r_move (v := .bool (true)) rfl) ⟨rfl, Chg.refl _ _⟩, ?_⟩
        refine ⟨.bool (false), fun _ uw181 hC182 _ => Gives.run rfl (r_notT rfl) ⟨rfl, Chg.refl _ _⟩, ?_⟩
        refine ⟨.bool (false), fun _ uw183 hC184 _ => Gives.run rfl (r_move (v := .bool (false)) rfl) ⟨rfl, Chg.refl _ _⟩, ?_⟩
        refine ⟨.slice (ownA f159.key) f159.bs.length f159.c, fun _ uw185 hC186 _ => Gives.runW (wantedSome (d' := 94) (b := false) rfl rfl rfl) (r_move (v := .slice (ownA f159.key) f159.bs.length f159.c) rfl) ⟨rfl, Chg.refl _ _⟩, ?_⟩
        refine ⟨.string (strB f159.bs), fun _ uw187 hC188 _ => Gives.runW (wantedSome (d' := 94) (b := false) rfl rfl rfl) (r_toStr (l := f159.bs) und30 und5 und9 ((H176.ext hC188).rdm (T := 5) hfok163 (List.mem_append_right _ (List.mem_append_right _ (hsub175 _ hm164)))) rfl (by rfl)) ⟨rfl, Chg.refl _ _⟩, ?_⟩
        refine ⟨.slice fa fl.length fc, fun _ uw189 hC190 _ => Gives.runW (wantedSome (d' := 94) (b := false) rfl rfl rfl) (r_move (v := .slice fa fl.length fc) rfl) ⟨rfl, Chg.refl _ _⟩, ?_⟩
        refine ⟨i64 ((q3 : Nat)), fun _ uw191 hC192 _ => Gives.runW (wantedSome (d' := 94) (b := false) rfl rfl rfl) (r_move (v := i64 ((q3 : Nat))) rfl) ⟨rfl, Chg.refl _ _⟩, ?_⟩
        refine ⟨.pointer (adr fa (q3 * 1)), fun _ uw193 hC194 _ => Gives.runW (wantedSome (d' := 94) (b := false) rfl rfl rfl) (r_idxS (E := ES) (l := fl) (j := q3) sli22 (hFr.ext (H176.ext hC194).chg) rfl rfl (by first | rfl | omega | (simp; omega)) (by rfl) (by omega)) ⟨rfl, Chg.refl _ _⟩, ?_⟩
        refine ⟨.slice ((fl.getD q3 sv0).a) ((cont q3).length) ((fl.getD q3 sv0).c), fun _ uw195 hC196 _ => Gives.runW (wantedSome (d' := 94) (b := false) rfl rfl rfl) ((r_ldS (E := ES) (l := fl) (j := q3) (v := (fl).getD q3 sv0) fits30 (hFr.ext (H176.ext hC196).chg) rfl rfl (at_getD (by omega))).as (v' := .slice ((fl.getD q3 sv0).a) ((cont q3).length) ((fl.getD q3 sv0).c)) (by rw [← (hfl q3 (by omega)).1]; rfl)) ⟨rfl, Chg.refl _ _⟩, ?_⟩
        refine ⟨.slice fa fl.length fc, fun _ uw197 hC198 _ => Gives.runW (wantedSome (d' := 94) (b := false) rfl rfl rfl) (r_move (v := .slice fa fl.length fc) rfl) ⟨rfl, Chg.refl _ _⟩, ?_⟩
        refine ⟨i64 ((q3 : Nat)), fun _ uw199 hC200 _ => Gives.runW (wantedSome (d' := 94) (b := false) rfl rfl rfl) (r_move (v := i64 ((q3 : Nat))) rfl) ⟨rfl, Chg.refl _ _⟩, ?_⟩
        refine ⟨.pointer (adr fa (q3 * 1)), fun _ uw201 hC202 _ => Gives.runW (wantedSome (d' := 94) (b := false) rfl rfl rfl) (r_idxS (E := ES) (l := fl) (j := q3) sli22 (hFr.ext (H176.ext hC202).chg) rfl rfl (by first | rfl | omega | (simp; omega)) (by rfl) (by omega)) ⟨rfl, Chg.refl _ _⟩, ?_⟩
        refine ⟨.slice ((fl.getD q3 sv0).a) ((cont q3).length) ((fl.getD q3 sv0).c), fun _ uw203 hC204 _ => Gives.runW (wantedSome (d' := 94) (b := false) rfl rfl rfl) ((r_ldS (E := ES) (l := fl) (j := q3) (v := (fl).getD q3 sv0) fits30 (hFr.ext (H176.ext hC204).chg) rfl rfl (at_getD (by omega))).as (v' := .slice ((fl.getD q3 sv0).a) ((cont q3).length) ((fl.getD q3 sv0).c)) (by rw [← (hfl q3 (by omega)).1]; rfl)) ⟨rfl, Chg.refl _ _⟩, ?_⟩
        refine ⟨i64 (((cont q3).length : Nat)), fun _ uw205 hC206 _ => Gives.runW (wantedSome (d' := 94) (b := false) rfl rfl rfl) (r_lenS sli30 (a := (fl.getD q3 sv0).a) (m := (cont q3).length) (c := (fl.getD q3 sv0).c) rfl) ⟨rfl, Chg.refl _ _⟩, ?_⟩
        refine ⟨i64 (min ((cont q3).length : Nat) (5000 : Int)), fun _ uw207 hC208 _ => Gives.runW (wantedSome (d' := 94) (b := false) rfl rfl rfl) (r_minI (a := ((cont q3).length : Nat)) (b := (5000 : Int)) rfl rfl) ⟨rfl, Chg.refl _ _⟩, ?_⟩
        refine ⟨.slice ((fl.getD q3 sv0).a) ((pays.getD q3 []).length) ((fl.getD q3 sv0).c), fun _ uw209 hC210 _ => Gives.runW (wantedSome (d' := 94) (b := false) rfl rfl rfl) (((r_sliceS (l := 0) (h := (min (cont q3).length 5000)) sli30 rfl (.inr ⟨rfl, rfl⟩) (.inl ⟨_, _, _, rfl, rfl, by first | rfl | omega | (simp; omega)⟩) (by first | omega | (have := (hfl q3 (by omega)).2.2.2; have := (hfl q3 (by omega)).1; omega)) (by first | omega | (have := (hfl q3 (by omega)).2.2.2; have := (hfl q3 (by omega)).1; omega))).as (v' := .slice (if (fl.getD q3 sv0).c = 0 then (fl.getD q3 sv0).a else adr ((fl.getD q3 sv0).a) (0 * 1)) (min (cont q3).length 5000) (((fl.getD q3 sv0).c) - 0)) (by first | rfl | (congr 1; omega) | (simp; omega) | simp)).as (v' := .slice ((fl.getD q3 sv0).a) ((pays.getD q3 []).length) ((fl.getD q3 sv0).c)) (by rw [ite_adr0, hpl q3 (by omega)]; rfl)) ⟨rfl, Chg.refl _ _⟩, ?_⟩
        refine ⟨.string (strB (pays.getD q3 [])), fun _ uw211 hC212 _ => Gives.runW (wantedSome (d' := 94) (b := false) rfl rfl rfl) (r_toStr (l := pays.getD q3 []) und30 und5 und9 (by rw [hpg q3 (by omega)]; exact ((hfl q3 (by omega)).2.1.ext (H176.ext hC212).chg).take _) rfl (by rfl)) ⟨rfl, Chg.refl _ _⟩, ?_⟩
        refine ⟨.bool (false), fun _ uw213 hC214 _ => Gives.runW (wantedSome (d' := 94) (b := false) rfl rfl rfl) ((r_neqStr (s := strB f159.bs) (s' := strB (pays.getD q3 [])) rfl rfl).as (v' := .bool (false)) (by rw [hfb161]; simp)) ⟨rfl, Chg.refl _ _⟩, ?_⟩
        refine ⟨.bool (false), fun _ uw215 hC216 _ => Gives.run rfl (r_pickF (v := .bool (false)) rfl rfl) ⟨rfl, Chg.refl _ _⟩, ?_⟩
        intro r220 w217 hE219 hF
        have H218 := H176.ext hE219
        refine wnil ?_
        refine thenNormal ?_
        refine condFalse rfl ?_
        refine skipAny ?_
        refine blockNormal ?_
        refine thenNormal ?_
        refine oneRegion ?_
        refine sq (r_move (v := i64 ((q3 : Nat))) rfl) ?_
        refine sq (r_addI (a := (q3 : Nat)) (b := (1 : Int)) rfl rfl (by omega)) ?_
        refine sq (r_assign (v := i64 ((q3 : Nat) + (1 : Int))) rfl) ?_
        refine wnil ?_
        refine thenNormal ?_
        exact ⟨(q3 + 1, e167, F173), _, rfl, ⟨rfl, rfl, rfl, rfl, rfl, trivial⟩, ⟨⟨by omega, ok177, hok169', hab178⟩, H218⟩, by show n - (q3 + 1) < n - q3; omega⟩
      · skip
        obtain rfl : n = q3 := by omega
        refine exitAny ?_
        refine thenExit ?_
        refine thenExit ?_
        refine blockHere ?_
        refine thenNormal ?_
        refine seqAny ?_
        refine seqRegion ?_
        refine sq (r_move (v := .pointer (some ⟨b3, 0, none⟩)) rfl) ?_
        have H221 := Hp.mid (X := []) (A := endR 30 53 89 b3 u) (Y := endR 30 53 89 b9 y3 ++ G3) HL3
        refine c_call (vs := [.pointer (some ⟨b3, 0, none⟩)]) call32 rfl (waiting_ok b3 u w157 (H221.get (k := 0) rfl)) ?_
        rintro _ w222 ⟨rfl, hE223⟩
        have H224 := HL3.ext hE223
        refine sq ((r_neqI (a := (u.q.fs.length : Nat)) (b := (0 : Int)) rfl rfl).as (v' := .bool (false)) (by rw [show u.q.fs.length = 0 by rw [← bss_len]; show (abs u).queue.length = 0; rw [hua, endA_done (by omega)]; rfl]; rfl)) ?_
        refine sq (r_move (v := .bool (false)) rfl) ?_
        refine sqAny (v := .pointer (some ⟨b3, 0, none⟩)) (w' := w222) (wantedSome (d' := 114) (b := false) rfl rfl rfl) (r_move (v := .pointer (some ⟨b3, 0, none⟩)) rfl) ?_
        have H225 := Hp.mid (X := []) (A := endR 30 53 89 b3 u) (Y := endR 30 53 89 b9 y3 ++ G3) H224
        have he226 : u.err = .nilIface := hu3.live (show (abs u).dead = false from (congrArg St.dead hua).trans rfl)
        refine caAny (wantedSome (d' := 114) (b := false) rfl rfl rfl) (Enters.callL (vs := [.pointer (some ⟨b3, 0, none⟩)]) call33 rfl) (err_ok b3 u w222 (H225.get (k := 0) rfl)) ?_
        rintro _ w227 ⟨rfl, hE229⟩
        rw [he226]
        have H230 := H224.ext hE229
        refine sqAny (v := .bool (false)) (w' := w227) (wantedSome (d' := 114) (b := false) rfl rfl rfl) (r_neqNN isI28 rfl rfl) ?_
        refine sq (r_pickF (v := .bool (false)) rfl rfl) ?_
        refine sq (r_move (v := .bool (false)) rfl) ?_
        refine sqAny (v := .pointer (some ⟨b3, 0, none⟩)) (w' := w227) (wantedSome (d' := 119) (b := false) rfl rfl rfl) (r_move (v := .pointer (some ⟨b3, 0, none⟩)) rfl) ?_
        refine q_buildSliceG (E := E8) (l := [1#8]) (wantedSome (d' := 119) (b := false) rfl rfl rfl) H230 sli30 zer5 (Nat.le_of_ble_eq_true rfl) (ps := [(0, u8 (1#8))]) rfl (by exact fillAll rfl rfl) rfl ?_
        intro b231 w233 hS232 H234 hE235
        have H236 := Hp.mid (X := [((some b231), sob E8 5 ([1#8]) ([]))]) (A := endR 30 53 89 b3 u) (Y := endR 30 53 89 b9 y3 ++ G3) H234
        refine caAny (wantedSome (d' := 119) (b := false) rfl rfl rfl) (Enters.callL (vs := [.pointer (some ⟨b3, 0, none⟩), .slice (ownA (some b231)) 1 1]) call25 rfl) (send_ok b3 u G3 ([((some b231), sob E8 5 ([1#8]) ([]))] ++ (endR 30 53 89 b9 y3 ++ G3)) hu3 (fun x h => List.mem_append_right _ (List.mem_append_right _ h)) w₀ w233 H236 (show (abs u).dead = false from (congrArg St.dead hua).trans rfl) ([1#8]) (ownA (some b231)) 1 1 (by rfl) (H234.rd (k := 0) rfl hS232) (by first | omega | exact Nat.le_of_ble_eq_true rfl | (simp; omega)) (by rw [← bss_len]; show (abs u).queue.length < 64; rw [hua]; rw [endA_done (by omega)]; decide)) ?_
        rintro _ w237 ⟨rfl, e239, X240, HN241, hok242, hab243⟩
        have H244 := Hp.backA (R := [((some b231), sob E8 5 ([1#8]) ([]))]) (A := endR 30 53 89 b3 e239) (B := endR 30 53 89 b9 y3) (X := X240) (F := G3) HN241
        obtain ⟨F245, hF246⟩ : ∃ F2, F2 = X240 ++ G3 := ⟨_, rfl⟩
        rw [← hF246] at H244 hok242
        have hsub247 : ∀ x ∈ G3, x ∈ F245 := fun x h => by rw [hF246]; exact List.mem_append_right _ h
        have ok249 := hy3.mono hsub247
        have H248 := H244.as (L' := (((some b231), sob E8 5 ([1#8]) ([])) :: (endR 30 53 89 b3 e239 ++ (endR 30 53 89 b9 y3 ++ F245)))) rfl
        have hab250 : abs e239 = { endA pays (2 * n + 2) with queue := [[1#8]] } := by rw [hab243]; rw [hua]; show ({ endA pays (2 * n + 2) with queue := (endA pays (2 * n + 2)).queue ++ [[1#8]] } : St) = _; rw [endA_done (by omega)]; rfl
        refine sqAny (v := .bool (false)) (w' := w237) (wantedSome (d' := 119) (b := false) rfl rfl rfl) ((r_neqNN isI28 rfl rfl).as (v' := .bool (false)) (by rfl)) ?_
        refine sq (r_pickF (v := .bool (false)) rfl rfl) ?_
        refine wend ?_
        refine condFalse rfl ?_
        refine skipAny ?_
        refine thenNormal ?_
        refine seqRegion ?_
        refine sq (r_assign (v := i64 ((0 : Int))) rfl) ?_
        refine wend ?_
        refine seqAny ?_
        refine seqRegion ?_
        refine sq (r_assign (v := i64 ((0 : Int))) rfl) ?_
        refine wend ?_
        refine blockAny ?_
        refine loopAny (σ := Nat × En × List (Option Nat × Obj)) (fun (q4, u4, G4) => [(3, .pointer (some ⟨b3, 0, none⟩)), (15, i64 (((cntS { endA pays (2 * n + 2) with queue := [[1#8]] } q4) : Nat))), (16, i64 ((q4 : Nat)))]) (fun (q4, u4, G4) w' => (q4 ≤ 33 ∧ u4.ok 5 G4 ∧ y3.ok 5 G4 ∧ abs u4 = itS { endA pays (2 * n + 2) with queue := [[1#8]] } q4 ∧ (q4 = 33 → ∃ lo, Er lo w' 70 1 u4.err)) ∧ Hp No w₀ w' ((endR 30 53 89 b3 u4 ++ (endR 30 53 89 b9 y3 ++ G4)))) (fun (q4, u4, G4) => 33 - q4) ((0, e239, F245)) ?_ ?_ ?_
        · exact ⟨rfl, rfl, rfl, trivial⟩
        · exact ⟨⟨Nat.zero_le _, hok242, ok249, hab250, fun h => by cases h⟩, (H248.dropk 0)⟩
        rintro ⟨q4, u4, G4⟩ ρ w251 ⟨⟨hq4, hu4, hb4, hua4, hEr4⟩, HL4⟩
        refine seqAny ?_
        refine seqRegion ?_
        refine sq (r_move (v := i64 ((q4 : Nat))) rfl) ?_
        refine sq (r_lssI (a := (q4 : Nat)) (b := (33 : Int)) rfl rfl) ?_
        refine wend ?_
        refine condProp (((q4 : Nat) : Int) < (33 : Int)) rfl (fun c126 => ?_) (fun c126 => ?_)
        · skip
          have hbd := alone_bnd (s := { endA pays (2 * n + 2) with queue := [[1#8]] }) (by rfl) (by rfl) (by rfl) (by rfl) (by simp only [endA]; omega) (q := q4) (by omega)
          have hal := alone (s := { endA pays (2 * n + 2) with queue := [[1#8]] }) (by rfl) (by rfl) (by rfl) (by rfl) q4 (by omega)
          refine skipAny ?_
          refine thenNormal ?_
          refine seqAny ?_
          refine blockAny ?_
          refine seqAny ?_
          refine seqRegion ?_
          refine sq (r_move (v := .pointer (some ⟨b3, 0, none⟩)) rfl) ?_
          have H253 := Hp.mid (X := []) (A := endR 30 53 89 b3 u4) (Y := endR 30 53 89 b9 y3 ++ G4) HL4
          have he254 : u4.err = .nilIface := hu4.live (show (abs u4).dead = false by rw [hua4]; exact hal.dead)
          refine c_call (vs := [.pointer (some ⟨b3, 0, none⟩)]) call33 rfl (err_ok b3 u4 w251 (H253.get (k := 0) rfl)) ?_
          rintro _ w255 ⟨rfl, hE257⟩
          rw [he254]
          have H258 := HL4.ext hE257
          refine sq ((r_neqNN isI28 rfl rfl).as (v' := .bool (false)) (by rfl)) ?_
          refine wend ?_
          refine condFalse rfl ?_
          refine skipAny ?_
          refine thenNormal ?_
          by_cases h32 : q4 = 32
          · skip
            refine oneRegion ?_
            obtain rfl : q4 = 32 := h32
            refine sq (r_move (v := i64 (((cntS { endA pays (2 * n + 2) with queue := [[1#8]] } 32) : Nat))) rfl) ?_
            refine sq (r_move (v := .pointer (some ⟨b3, 0, none⟩)) rfl) ?_
            have H259 := Hp.mid (X := []) (A := endR 30 53 89 b3 u4) (Y := endR 30 53 89 b9 y3 ++ G4) H258
            refine c_call (vs := [.pointer (some ⟨b3, 0, none⟩)]) call28 rfl (step_die b3 u4 G4 ([] ++ (endR 30 53 89 b9 y3 ++ G4)) hu4 (fun x h => List.mem_append_right _ (List.mem_append_right _ h)) w₀ w255 H259 (by show (abs u4).dead = false; rw [hua4]; exact (alone_die (s := { endA pays (2 * n + 2) with queue := [[1#8]] }) (by rfl) (by rfl) (by rfl) (by rfl)).2.2.2.1) (by show (abs u4).since < 1000000000; rw [hua4]; exact hbd.1) (by show (abs u4).owed.length ≤ 1000000; rw [hua4]; exact hbd.2.1) hG (by rw [← bss_len]; show 0 < (abs u4).queue.length; rw [hua4]; exact (alone_die (s := { endA pays (2 * n + 2) with queue := [[1#8]] }) (by rfl) (by rfl) (by rfl) (by rfl)).1) (by show (abs u4).sends = 8; rw [hua4]; exact (alone_die (s := { endA pays (2 * n + 2) with queue := [[1#8]] }) (by rfl) (by rfl) (by rfl) (by rfl)).2.1) (by show ¬ (abs u4).since + 1 < 4; rw [hua4]; exact (alone_die (s := { endA pays (2 * n + 2) with queue := [[1#8]] }) (by rfl) (by rfl) (by rfl) (by rfl)).2.2.1)) ?_
            rintro _ w260 ⟨x262, e263, lo264, rfl, hx265, hxb266, hok267, hab268, hEr269, HN270⟩
            have hok267' := hok267.mono (F' := ((x262.key, sob ES 30 (svs x262.fs) x262.sp) :: frs 5 x262.fs) ++ G4) (fun x h => List.mem_append_right _ h)
            have HN270' := HN270.as (L' := endR 30 53 89 b3 e263 ++ (((x262.key, sob ES 30 (svs x262.fs) x262.sp) :: frs 5 x262.fs) ++ ([] ++ (endR 30 53 89 b9 y3 ++ G4)))) rfl
            have H271 := Hp.backA (R := []) (A := endR 30 53 89 b3 e263) (B := endR 30 53 89 b9 y3) (X := ((x262.key, sob ES 30 (svs x262.fs) x262.sp) :: frs 5 x262.fs)) (F := G4) HN270'
            obtain ⟨F272, hF273⟩ : ∃ F2, F2 = ((x262.key, sob ES 30 (svs x262.fs) x262.sp) :: frs 5 x262.fs) ++ G4 := ⟨_, rfl⟩
            rw [← hF273] at H271 hok267'
            have hsub274 : ∀ x ∈ G4, x ∈ F272 := fun x h => by rw [hF273]; exact List.mem_append_right _ h
            have ok276 := hb4.mono hsub274
            have H275 := H271.as (L' := ((endR 30 53 89 b3 e263 ++ (endR 30 53 89 b9 y3 ++ F272)))) rfl
            have hab277 : abs e263 = itS { endA pays (2 * n + 2) with queue := [[1#8]] } 33 := by rw [hab268]; rw [hua4]; exact (itS_33 (s := { endA pays (2 * n + 2) with queue := [[1#8]] }) (by rfl) (by rfl) (by rfl) (by rfl)).symm
            have hxn4 : x262.fs.length = (stepS (itS { endA pays (2 * n + 2) with queue := [[1#8]] } 32)).2.length := by rw [bss_len2 hxb266, hua4]; exact acks_32 (s := { endA pays (2 * n + 2) with queue := [[1#8]] }) (by rfl) (by rfl) (by rfl) (by rfl)
            rw [hxn4]
            refine sq (r_lenS sli22 (a := ownA x262.key) (m := (stepS (itS { endA pays (2 * n + 2) with queue := [[1#8]] } 32)).2.length) (c := x262.c) rfl) ?_
            refine sq ((r_addI (a := ((cntS { endA pays (2 * n + 2) with queue := [[1#8]] } 32) : Nat)) (b := ((stepS (itS { endA pays (2 * n + 2) with queue := [[1#8]] } 32)).2.length : Nat)) rfl rfl (by omega)).as (v' := i64 (((cntS { endA pays (2 * n + 2) with queue := [[1#8]] } 33) : Nat))) (by rw [cnt_33, Int.natCast_add])) ?_
            refine sq (r_assign (v := i64 (((cntS { endA pays (2 * n + 2) with queue := [[1#8]] } 33) : Nat))) rfl) ?_
            refine wnil ?_
            refine blockNormal ?_
            refine thenNormal ?_
            refine oneRegion ?_
            refine sq (r_move (v := i64 ((32 : Nat))) rfl) ?_
            refine sq (r_addI (a := (32 : Nat)) (b := (1 : Int)) rfl rfl (by omega)) ?_
            refine sq (r_assign (v := i64 ((32 : Nat) + (1 : Int))) rfl) ?_
            refine wnil ?_
            refine thenNormal ?_
            exact ⟨(33, e263, F272), _, rfl, ⟨rfl, rfl, rfl, trivial⟩, ⟨⟨Nat.le_refl _, hok267', ok276, hab277, (fun _ => ⟨lo264, hEr269⟩)⟩, H275⟩, by show 33 - 33 < 33 - 32; omega⟩
          · skip
            refine oneRegion ?_
            refine sq (r_move (v := i64 (((cntS { endA pays (2 * n + 2) with queue := [[1#8]] } q4) : Nat))) rfl) ?_
            refine sq (r_move (v := .pointer (some ⟨b3, 0, none⟩)) rfl) ?_
            have H278 := Hp.mid (X := []) (A := endR 30 53 89 b3 u4) (Y := endR 30 53 89 b9 y3 ++ G4) H258
            refine c_call (vs := [.pointer (some ⟨b3, 0, none⟩)]) call28 rfl (step_any b3 u4 G4 ([] ++ (endR 30 53 89 b9 y3 ++ G4)) hu4 (fun x h => List.mem_append_right _ (List.mem_append_right _ h)) w₀ w255 H278 hG (by show (abs u4).since < 1000000000; rw [hua4]; exact hbd.1) (by show (abs u4).owed.length ≤ 1000000; rw [hua4]; exact hbd.2.1) (by show (abs u4).sends ≤ 8; rw [hua4]; exact hbd.2.2.1)) ?_
            rintro _ w279 ⟨x281, e282, rfl, hx283, hxb284, hok285, hab286, HN287⟩
            rw [hua4] at hxb284 hab286
            obtain ⟨X288, hX289⟩ : ∃ X, X = (x281.key, sob ES 30 (svs x281.fs) x281.sp) :: frs 5 x281.fs := ⟨_, rfl⟩
            have hok285' := hok285.mono (F' := X288 ++ G4) (fun x h => List.mem_append_right _ h)
            have HN287' := HN287.as (L' := endR 30 53 89 b3 e282 ++ (X288 ++ ([] ++ (endR 30 53 89 b9 y3 ++ G4)))) (by rw [hX289]; rfl)
            have hxb284' := hxb284
            have H291 := Hp.backA (R := []) (A := endR 30 53 89 b3 e282) (B := endR 30 53 89 b9 y3) (X := X288) (F := G4) HN287'
            obtain ⟨F292, hF293⟩ : ∃ F2, F2 = X288 ++ G4 := ⟨_, rfl⟩
            rw [← hF293] at H291 hok285'
            have hsub294 : ∀ x ∈ G4, x ∈ F292 := fun x h => by rw [hF293]; exact List.mem_append_right _ h
            have ok296 := hb4.mono hsub294
            have H295 := H291.as (L' := ((endR 30 53 89 b3 e282 ++ (endR 30 53 89 b9 y3 ++ F292)))) rfl
            have hm297 : (x281.key, sob ES 30 (svs x281.fs) x281.sp) ∈ F292 := by rw [hF293, hX289]; exact List.mem_append_left _ (List.mem_cons_self ..)
            have hmf298 : ∀ f ∈ x281.fs, f.row 5 ∈ F292 := fun f h => by rw [hF293, hX289]; exact List.mem_append_left _ (List.mem_cons_of_mem _ (List.mem_map_of_mem h))
            have hxn290 : x281.fs.length = (stepS (itS { endA pays (2 * n + 2) with queue := [[1#8]] } q4)).2.length := by have := bss_len2 hxb284'; simpa using this
            rw [hxn290]
            have hab299 : abs e282 = itS { endA pays (2 * n + 2) with queue := [[1#8]] } (q4 + 1) := by rw [hab286]; rfl
            refine sq (r_lenS sli22 (a := ownA x281.key) (m := (stepS (itS { endA pays (2 * n + 2) with queue := [[1#8]] } q4)).2.length) (c := x281.c) rfl) ?_
            refine sq ((r_addI (a := ((cntS { endA pays (2 * n + 2) with queue := [[1#8]] } q4) : Nat)) (b := ((stepS (itS { endA pays (2 * n + 2) with queue := [[1#8]] } q4)).2.length : Nat)) rfl rfl (by omega)).as (v' := i64 (((cntS { endA pays (2 * n + 2) with queue := [[1#8]] } (q4 + 1)) : Nat))) (by rfl)) ?_
            refine sq (r_assign (v := i64 (((cntS { endA pays (2 * n + 2) with queue := [[1#8]] } (q4 + 1)) : Nat))) rfl) ?_
            refine wnil ?_
            refine blockNormal ?_
            refine thenNormal ?_
            refine oneRegion ?_
            refine sq (r_move (v := i64 ((q4 : Nat))) rfl) ?_
            refine sq (r_addI (a := (q4 : Nat)) (b := (1 : Int)) rfl rfl (by omega)) ?_
            refine sq (r_assign (v := i64 ((q4 : Nat) + (1 : Int))) rfl) ?_
            refine wnil ?_
            refine thenNormal ?_
            exact ⟨(q4 + 1, e282, F292), _, rfl, ⟨rfl, rfl, rfl, trivial⟩, ⟨⟨by omega, hok285', ok296, hab299, (fun h => absurd h (by omega))⟩, H295⟩, by show 33 - (q4 + 1) < 33 - q4; omega⟩
        · skip
          obtain rfl : q4 = 33 := by omega
          obtain ⟨lo4, hEr4⟩ := hEr4 rfl
          obtain ⟨T4, x4, he4⟩ := hEr4.iface
          have ha33 := alone_33 (s := { endA pays (2 * n + 2) with queue := [[1#8]] }) (by rfl) (by rfl) (by rfl) (by rfl) (by simp only [endA]; omega)
          have hEr4 : Er lo4 w251 70 1 (.iface T4 x4) := by rw [← he4]; exact hEr4
          refine exitAny ?_
          refine thenExit ?_
          refine thenExit ?_
          refine blockHere ?_
          refine thenNormal ?_
          refine seqRegion ?_
          refine sq (r_move (v := i64 (((cntS { endA pays (2 * n + 2) with queue := [[1#8]] } 33) : Nat))) rfl) ?_
          refine sq ((r_eqlI (a := ((cntS { endA pays (2 * n + 2) with queue := [[1#8]] } 33) : Nat)) (b := (8 : Int)) rfl rfl).as (v' := .bool (true)) (by rw [ha33.1]; rfl)) ?_
          refine sq (r_move (v := .bool (true)) rfl) ?_
          refine sqAny (v := .pointer (some ⟨b3, 0, none⟩)) (w' := w251) (wantedSome (d' := 139) (b := true) rfl rfl rfl) (r_move (v := .pointer (some ⟨b3, 0, none⟩)) rfl) ?_
          have H300 := Hp.mid (X := []) (A := endR 30 53 89 b3 u4) (Y := endR 30 53 89 b9 y3 ++ G4) HL4
          refine caAny (wantedSome (d' := 139) (b := true) rfl rfl rfl) (Enters.callL (vs := [.pointer (some ⟨b3, 0, none⟩)]) call33 rfl) (err_ok b3 u4 w251 (H300.get (k := 0) rfl)) ?_
          rintro _ w301 ⟨rfl, hE303⟩
          rw [he4]
          have H304 := HL4.ext hE303
          refine caAny (wantedSome (d' := 139) (b := true) rfl rfl rfl) (Enters.callL (vs := [.iface T4 (x4), i64 ((70 : Int))]) call18 rfl) (is_ok 70 (70 : Int) 1 (.iface T4 (x4)) lo4 w301 ((hEr4.ext hE303))) ?_
          rintro _ w305 ⟨rfl, hE306⟩
          have H307 := H304.ext hE306
          refine sq (r_pickT (u := .bool (true)) rfl rfl) ?_
          refine sq (r_move (v := .bool (true)) rfl) ?_
          refine sqAny (v := .pointer (some ⟨b3, 0, none⟩)) (w' := w305) (wantedSome (d' := 144) (b := true) rfl rfl rfl) (r_move (v := .pointer (some ⟨b3, 0, none⟩)) rfl) ?_
          have H308 := Hp.mid (X := []) (A := endR 30 53 89 b3 u4) (Y := endR 30 53 89 b9 y3 ++ G4) H307
          refine caAny (wantedSome (d' := 144) (b := true) rfl rfl rfl) (Enters.callL (vs := [.pointer (some ⟨b3, 0, none⟩), .slice none 0 0]) call25 rfl) (send_dead b3 u4 G4 hu4 w305 (H308.get (k := 0) rfl) (by rw [he4]; rfl) none 0 0) ?_
          rintro _ w309 ⟨rfl, hE311⟩
          rw [he4]
          have H312 := H307.ext hE311
          refine caAny (wantedSome (d' := 144) (b := true) rfl rfl rfl) (Enters.callL (vs := [.iface T4 (x4), i64 ((70 : Int))]) call18 rfl) (is_ok 70 (70 : Int) 1 (.iface T4 (x4)) lo4 w309 ((((hEr4.ext hE303).ext hE306).ext hE311))) ?_
          rintro _ w313 ⟨rfl, hE314⟩
          have H315 := H312.ext hE314
          refine sq (r_pickT (u := .bool (true)) rfl rfl) ?_
          refine sq (r_move (v := .bool (true)) rfl) ?_
          refine sqAny (v := .pointer (some ⟨b3, 0, none⟩)) (w' := w313) (wantedSome (d' := 149) (b := true) rfl rfl rfl) (r_move (v := .pointer (some ⟨b3, 0, none⟩)) rfl) ?_
          have H316 := Hp.mid (X := []) (A := endR 30 53 89 b3 u4) (Y := endR 30 53 89 b9 y3 ++ G4) H315
          refine caAny (wantedSome (d' := 149) (b := true) rfl rfl rfl) (Enters.callL (vs := [.pointer (some ⟨b3, 0, none⟩)]) call28 rfl) (step_any b3 u4 G4 ([] ++ (endR 30 53 89 b9 y3 ++ G4)) hu4 (fun x h => List.mem_append_right _ (List.mem_append_right _ h)) w₀ w313 H316 hG (by show (abs u4).since < 1000000000; rw [hua4]; exact ha33.2.2.2.1) (by show (abs u4).owed.length ≤ 1000000; rw [hua4]; exact (by rw [ha33.2.2.1]; exact Nat.zero_le _)) (by show (abs u4).sends ≤ 8; rw [hua4]; exact ha33.2.2.2.2.1)) ?_
          rintro _ w317 ⟨x319, e320, rfl, hx321, hxb322, hok323, hab324, HN325⟩
          rw [hua4] at hxb322 hab324
          obtain ⟨X326, hX327⟩ : ∃ X, X = (x319.key, sob ES 30 (svs x319.fs) x319.sp) :: frs 5 x319.fs := ⟨_, rfl⟩
          have hok323' := hok323.mono (F' := X326 ++ G4) (fun x h => List.mem_append_right _ h)
          have HN325' := HN325.as (L' := endR 30 53 89 b3 e320 ++ (X326 ++ ([] ++ (endR 30 53 89 b9 y3 ++ G4)))) (by rw [hX327]; rfl)
          have hxb322' : bss x319.fs = [] := by rw [hxb322]; exact ha33.2.2.2.2.2
          have H329 := Hp.backA (R := []) (A := endR 30 53 89 b3 e320) (B := endR 30 53 89 b9 y3) (X := X326) (F := G4) HN325'
          obtain ⟨F330, hF331⟩ : ∃ F2, F2 = X326 ++ G4 := ⟨_, rfl⟩
          rw [← hF331] at H329 hok323'
          have hsub332 : ∀ x ∈ G4, x ∈ F330 := fun x h => by rw [hF331]; exact List.mem_append_right _ h
          have ok334 := hb4.mono hsub332
          have H333 := H329.as (L' := ((endR 30 53 89 b3 e320 ++ (endR 30 53 89 b9 y3 ++ F330)))) rfl
          have hm335 : (x319.key, sob ES 30 (svs x319.fs) x319.sp) ∈ F330 := by rw [hF331, hX327]; exact List.mem_append_left _ (List.mem_cons_self ..)
          have hmf336 : ∀ f ∈ x319.fs, f.row 5 ∈ F330 := fun f h => by rw [hF331, hX327]; exact List.mem_append_left _ (List.mem_cons_of_mem _ (List.mem_map_of_mem h))
          have hxn328 : x319.fs.length = 0 := by have := bss_len2 hxb322'; simpa using this
          rw [hxn328]
          refine sqAny (v := i64 ((0 : Nat))) (w' := w317) (wantedSome (d' := 149) (b := true) rfl rfl rfl) (r_lenS sli22 (a := ownA x319.key) (m := 0) (c := x319.c) rfl) ?_
          refine sqAny (v := .bool (true)) (w' := w317) (wantedSome (d' := 149) (b := true) rfl rfl rfl) ((r_eqlI (a := (0 : Nat)) (b := (0 : Int)) rfl rfl).as (v' := .bool (true)) (by rfl)) ?_
          refine sq (r_pickT (u := .bool (true)) rfl rfl) ?_
          refine sq (r_assign (v := .bool (true)) rfl) ?_
          refine wend ?_
          refine retAny ?_
          refine retG (rs := [.tmp 2]) (vs := [.bool (true)]) rfl ⟨⟨rfl, rfl⟩, trivial⟩ ?_
          exact ⟨_, rfl, rfl, H333.chg⟩
end Go.Proofs.YtpmmhpgfbfehmaaDoor.Lk
