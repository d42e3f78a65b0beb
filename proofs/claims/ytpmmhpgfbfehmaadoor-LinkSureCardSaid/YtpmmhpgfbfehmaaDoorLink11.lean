/- The walks of the links. -/
import Derived.Test.YtpmmhpgfbfehmaaDoorLink6
import Derived.Test.YtpmmhpgfbfehmaaDoorLinkSure
namespace Go.Proofs.YtpmmhpgfbfehmaaDoor.Lk
open Go Go.Proofs.YtpmmhpgfbfehmaaDoor.Vc Go.Proofs.YtpmmhpgfbfehmaaDoor.Er
set_option linter.unusedVariables false
theorem arr40 : arr Tryd.prog 40 = some (2, 1) := by kernel_rfl
theorem arr49 : arr Tryd.prog 49 = some (2, 1) := by kernel_rfl
theorem arr61 : arr Tryd.prog 61 = some (2, 1) := by kernel_rfl
theorem byt9 : byt Tryd.prog 9 = some 16 := by kernel_rfl
theorem call18 : callable Tryd.prog 18 = true := by kernel_rfl
theorem call24 : callable Tryd.prog 24 = true := by kernel_rfl
theorem call33 : callable Tryd.prog 33 = true := by kernel_rfl
theorem fits3 : Fits Tryd.prog 3 EI := fitsI (by kernel_rfl) (by kernel_rfl)
theorem fits9 : Fits Tryd.prog 9 ET := fitsT (by kernel_rfl) (by kernel_rfl)
theorem one39 : isOne Tryd.prog 39 = true := by kernel_rfl
theorem one47 : isOne Tryd.prog 47 = true := by kernel_rfl
theorem siz39 : siz Tryd.prog 39 = some 1 := by kernel_rfl
theorem siz5 : siz Tryd.prog 5 = some 1 := by kernel_rfl
theorem sli39 : sli Tryd.prog 39 = some (9, 1) := by kernel_rfl
theorem und26 : Tryd.prog.underlying 26 = some (.int .u64) := by kernel_rfl
theorem und4 : Tryd.prog.underlying 4 = some .bool := by kernel_rfl
theorem zer9 : zer Tryd.prog 9 = some (.string ⟨#[]⟩) := by kernel_rfl
theorem send_no (b : Nat) (e : En) (F R : List (Option Nat × Obj)) (he : e.ok 5 F) (hF : ∀ x ∈ F, x ∈ R) (w₀ w : World) (H : Hp No w₀ w (endR 30 53 89 b e ++ R)) (hG : Gl w₀) (bs : List (BitVec 8)) (a0 : Option Addr) (n0 c0 : Nat) (hn0 : n0 = bs.length) (hgo : ¬ (isDead e.err = false ∧ bs.length ≤ 1048576 ∧ e.q.fs.length < 64)) : Calls Tryd.prog 25 [.pointer (some ⟨b, 0, none⟩), .slice a0 n0 c0].toArray w (Ret fun v w' => ∃ (TE : TypeId) (x : Value), v = .iface TE x ∧ Ext w w') := by
  have hb : w.heap[b]? = some (e.ob 89) := H.get (k := 0) rfl
  have hGw : Gl w := Chg.gl H.chg (fun x => x) hG
  by_cases hd : isDead e.err = true
  · obtain ⟨TE, x, hx⟩ := he.gone hd
    refine (send_dead b e F he w hb hd a0 n0 c0).mono ?_
    rintro _ w2 ⟨v, h0, rfl, hE⟩
    exact ⟨_, h0, TE, x, hx, hE⟩
  have hd : isDead e.err = false := by simpa using hd
  by_cases hl : 1048576 < n0
  · refine (send_long b e F he w hb hGw hd a0 n0 c0 hl).mono ?_
    rintro _ w2 ⟨v, h0, ⟨ev, rfl, hEr⟩, hE⟩
    obtain ⟨TE, x, hx⟩ := hEr.iface
    exact ⟨_, h0, TE, x, hx, hE⟩
  have hq : 64 ≤ e.q.fs.length := Nat.le_of_not_lt fun h => hgo ⟨hd, by omega, h⟩
  refine (send_full b e F he w hb hGw hd a0 n0 c0 (by omega) hq).mono ?_
  rintro _ w2 ⟨v, h0, ⟨ev, rfl, hEr⟩, hE⟩
  obtain ⟨TE, x, hx⟩ := hEr.iface
  exact ⟨_, h0, TE, x, hx, hE⟩

theorem take_any (b : Nat) (e : En) (F R : List (Option Nat × Obj)) (he : e.ok 5 F) (hF : ∀ x ∈ F, x ∈ R) (w₀ w : World) (H : Hp No w₀ w (endR 30 53 89 b e ++ R)) : Calls Tryd.prog 29 [.pointer (some ⟨b, 0, none⟩)].toArray w (Ret fun v w' => ∃ (f : Fr) (e' : En), v = .tuple #[.slice (ownA f.key) f.bs.length f.c, .bool (decide (0 < (abs e).came.length))] ∧ f.ok ∧ (0 < (abs e).came.length → f.row 5 ∈ F) ∧ f.bs = (abs e).came.getD 0 [] ∧ e'.ok 5 F ∧ abs e' = { abs e with came := (abs e).came.drop 1 } ∧ Hp No w₀ w' (endR 30 53 89 b e' ++ R)) := by
  by_cases hl : e.cm.fs.length = 0
  · have hc : (abs e).came = [] := List.eq_nil_of_length_eq_zero (by show (bss e.cm.fs).length = 0; rw [bss_len]; exact hl)
    refine (take_none b e w (H.get (k := 0) rfl) hl).mono ?_
    rintro _ w2 ⟨v, h0, rfl, hE⟩
    refine ⟨_, h0, fr0, e, ?_, fr0_ok, fun h => ?_, ?_, he, (came_nil hc).symm, H.ext hE⟩
    · rw [hc]; rfl
    · rw [hc] at h; cases h
    · rw [hc]; rfl
  · obtain ⟨f, hf⟩ : ∃ f, e.cm.fs[0]? = some f := ⟨_, List.getElem?_eq_getElem (by omega)⟩
    have hc : 0 < (abs e).came.length := by show 0 < (bss e.cm.fs).length; rw [bss_len]; omega
    refine (take_some b e F R he hF w₀ w H f hf).mono ?_
    rintro _ w2 ⟨v, h0, rfl, e', h1, h2, h3⟩
    refine ⟨_, h0, f, e', ?_, he.cm.each f (List.mem_of_getElem? hf), fun _ => he.cmm f (List.mem_of_getElem? hf), (bss_get hf).symm, h2, h3, h1⟩
    rw [decide_eq_true hc]

noncomputable def c10 : Code := (nx (nx (inn (hd (nx (inn (inn (nx (hd (nx (nx (nx (nx (bodyOf Tryd.f5))))))))))))))
noncomputable def c35 : Code := (nx (nx (nx (nx (nx (inn (hd (nx (inn (inn (nx (hd (nx (nx (nx (nx (bodyOf Tryd.f5)))))))))))))))))
def J3 (w₀ : World) (bA bB bE bW bS bC : Nat) (z : Nat) : En × En × List (Option Nat × Obj) × Tx × Tx × Tx × Tx × Tx × Tx → World → Prop := (fun (u3, v3, G3, wa3, wb3, sa3, sb3, ca3, cb3) w' => (u3.ok 5 G3 ∧ v3.ok 5 G3 ∧ Sv (z + 1) u3 v3 wa3 wb3 sa3 sb3 ca3 cb3) ∧ Hp No w₀ w' ((some bE, .cells #[.pointer (some ⟨bA, 0, none⟩), .pointer (some ⟨bB, 0, none⟩)] 49 (0, 0)) :: (some bW, .cells #[.slice (ownA wa3.key) wa3.l.length wa3.c, .slice (ownA wb3.key) wb3.l.length wb3.c] 40 (0, 0)) :: (some bS, .cells #[.slice (ownA sa3.key) sa3.l.length sa3.c, .slice (ownA sb3.key) sb3.l.length sb3.c] 40 (0, 0)) :: (some bC, .cells #[.slice (ownA ca3.key) ca3.l.length ca3.c, .slice (ownA cb3.key) cb3.l.length cb3.c] 40 (0, 0)) :: (wa3.key, sob ET 9 wa3.l wa3.sp) :: (wb3.key, sob ET 9 wb3.l wb3.sp) :: (sa3.key, sob ET 9 sa3.l sa3.sp) :: (sb3.key, sob ET 9 sb3.l sb3.sp) :: (ca3.key, sob ET 9 ca3.l ca3.sp) :: (cb3.key, sob ET 9 cb3.l cb3.sp) :: (endR 30 53 89 bA u3 ++ (endR 30 53 89 bB v3 ++ G3))))
def J5 (w₀ : World) (bA bB bE bW bS bC : Nat) (z : Nat) : En × En × List (Option Nat × Obj) × Tx × Tx × Tx × Tx × Tx × Tx → World → Prop := (fun (u5, v5, G5, wa5, wb5, sa5, sb5, ca5, cb5) w' => (u5.ok 5 G5 ∧ v5.ok 5 G5 ∧ Sv (z + 1) u5 v5 wa5 wb5 sa5 sb5 ca5 cb5) ∧ Hp No w₀ w' ((some bE, .cells #[.pointer (some ⟨bA, 0, none⟩), .pointer (some ⟨bB, 0, none⟩)] 49 (0, 0)) :: (some bW, .cells #[.slice (ownA wa5.key) wa5.l.length wa5.c, .slice (ownA wb5.key) wb5.l.length wb5.c] 40 (0, 0)) :: (some bS, .cells #[.slice (ownA sa5.key) sa5.l.length sa5.c, .slice (ownA sb5.key) sb5.l.length sb5.c] 40 (0, 0)) :: (some bC, .cells #[.slice (ownA ca5.key) ca5.l.length ca5.c, .slice (ownA cb5.key) cb5.l.length cb5.c] 40 (0, 0)) :: (wa5.key, sob ET 9 wa5.l wa5.sp) :: (wb5.key, sob ET 9 wb5.l wb5.sp) :: (sa5.key, sob ET 9 sa5.l sa5.sp) :: (sb5.key, sob ET 9 sb5.l sb5.sp) :: (ca5.key, sob ET 9 ca5.l ca5.sp) :: (cb5.key, sob ET 9 cb5.l cb5.sp) :: (endR 30 53 89 bA u5 ++ (endR 30 53 89 bB v5 ++ G5))))
theorem sure_k (xl : List OpQ) (cont : Nat → List (BitVec 8)) (xa : Option Addr) (xc : Nat) (w₀ : World) (hG : Gl w₀) (hSr : Rd EQ w₀ xa xl) (hxl : xl.length ≤ 140737488355328) (hop : ∀ i, i < xl.length → (xl.getD i oq0).bit ≤ 9223372036854775807 ∧ (xl.getD i oq0).fr.n = (cont i).length ∧ Rd E8 w₀ (xl.getD i oq0).fr.a (cont i) ∧ (cont i).length ≤ 140737488355328) (bA bB bE bW bS bC : Nat) (z : Nat) (hz3 : z < 360) {Q : Exit → Act → World → Prop} (hn : ∀ s ρ w, Keeps ρ [(0, .slice xa xl.length xc), (3, .pointer (some ⟨bE, 0, none⟩)), (4, .pointer (some ⟨bW, 0, none⟩)), (5, .pointer (some ⟨bS, 0, none⟩)), (6, .pointer (some ⟨bC, 0, none⟩)), (7, i64 ((z : Nat)))] → J5 w₀ bA bB bE bW bS bC z s w → Q .normal (Vc.St 289 ρ) w) : ∀ s ρ w, J3 w₀ bA bB bE bW bS bC z s w → c35.wp Tryd.prog Q (Vc.St 289 (setAll ρ [(0, .slice xa xl.length xc), (3, .pointer (some ⟨bE, 0, none⟩)), (4, .pointer (some ⟨bW, 0, none⟩)), (5, .pointer (some ⟨bS, 0, none⟩)), (6, .pointer (some ⟨bC, 0, none⟩)), (7, i64 ((z : Nat)))])) w := by
  rintro ⟨u3, v3, G3, wa3, wb3, sa3, sb3, ca3, cb3⟩ ρ w0 ⟨⟨hu3, hv3, hs3⟩, H0⟩
  refine seqRegion ?_
  refine sq (r_move (v := i64 ((0 : Int))) rfl) ?_
  refine wend ?_
  refine blockAny ?_
  refine loopAny (σ := Nat × En × En × List (Option Nat × Obj) × Tx × Tx × Tx × Tx × Tx × Tx) (fun (y, u5, v5, G5, wa5, wb5, sa5, sb5, ca5, cb5) => [(0, .slice xa xl.length xc), (3, .pointer (some ⟨bE, 0, none⟩)), (4, .pointer (some ⟨bW, 0, none⟩)), (5, .pointer (some ⟨bS, 0, none⟩)), (6, .pointer (some ⟨bC, 0, none⟩)), (7, i64 ((z : Nat))), (229, i64 ((y : Nat)))]) (fun (y, u5, v5, G5, wa5, wb5, sa5, sb5, ca5, cb5) w' => (y ≤ 2 ∧ u5.ok 5 G5 ∧ v5.ok 5 G5 ∧ Sv (z + 1) u5 v5 wa5 wb5 sa5 sb5 ca5 cb5) ∧ Hp No w₀ w' ((some bE, .cells #[.pointer (some ⟨bA, 0, none⟩), .pointer (some ⟨bB, 0, none⟩)] 49 (0, 0)) :: (some bW, .cells #[.slice (ownA wa5.key) wa5.l.length wa5.c, .slice (ownA wb5.key) wb5.l.length wb5.c] 40 (0, 0)) :: (some bS, .cells #[.slice (ownA sa5.key) sa5.l.length sa5.c, .slice (ownA sb5.key) sb5.l.length sb5.c] 40 (0, 0)) :: (some bC, .cells #[.slice (ownA ca5.key) ca5.l.length ca5.c, .slice (ownA cb5.key) cb5.l.length cb5.c] 40 (0, 0)) :: (wa5.key, sob ET 9 wa5.l wa5.sp) :: (wb5.key, sob ET 9 wb5.l wb5.sp) :: (sa5.key, sob ET 9 sa5.l sa5.sp) :: (sb5.key, sob ET 9 sb5.l sb5.sp) :: (ca5.key, sob ET 9 ca5.l ca5.sp) :: (cb5.key, sob ET 9 cb5.l cb5.sp) :: (endR 30 53 89 bA u5 ++ (endR 30 53 89 bB v5 ++ G5)))) (fun (y, u5, v5, G5, wa5, wb5, sa5, sb5, ca5, cb5) => 2 - y) ((0, u3, v3, G3, wa3, wb3, sa3, sb3, ca3, cb3)) ?_ ?_ ?_
  · exact ⟨rfl, rfl, rfl, rfl, rfl, rfl, rfl, trivial⟩
  · exact ⟨⟨by omega, hu3, hv3, hs3⟩, H0⟩
  rintro ⟨y, u5, v5, G5, wa5, wb5, sa5, sb5, ca5, cb5⟩ ρ w1 ⟨⟨hy2, hu5, hv5, hs5⟩, HL5⟩
  rcases (show y = 0 ∨ y = 1 ∨ y = 2 by omega) with rfl | rfl | rfl
  · skip
    have hsl := hs5.ha.sl
    have hol := hs5.ha.ol
    have hcl := hs5.ha.cl
    refine seqRegion ?_
    refine sq ((r_lssI (a := (0 : Nat)) (b := (2 : Int)) rfl rfl).as (v' := .bool (true)) (by rfl)) ?_
    refine wend ?_
    refine seqAny ?_
    refine condTrue rfl ?_
    refine skipAny ?_
    refine thenNormal ?_
    refine seqAny ?_
    refine blockAny ?_
    refine seqRegion ?_
    refine sq (r_move (v := i64 ((0 : Nat))) rfl) ?_
    refine sq (r_assign (v := i64 ((0 : Nat))) rfl) ?_
    refine wend ?_
    refine seqAny ?_
    refine seqRegion ?_
    refine sq (r_move (v := i64 ((0 : Nat))) rfl) ?_
    refine sq (r_indexA (off' := 0) (j := 0) arr49 (b := bE) (off := 0) rfl rfl (by first | rfl | omega | (simp; omega)) (by omega) (by omega)) ?_
    refine sq (r_loadC (v := .pointer (some ⟨bA, 0, none⟩)) one47 (HL5.get (k := 0) rfl) (off := 0) rfl (by rfl)) ?_
    have H3 := Hp.mid (X := [(some bE, .cells #[.pointer (some ⟨bA, 0, none⟩), .pointer (some ⟨bB, 0, none⟩)] 49 (0, 0)), (some bW, .cells #[.slice (ownA wa5.key) wa5.l.length wa5.c, .slice (ownA wb5.key) wb5.l.length wb5.c] 40 (0, 0)), (some bS, .cells #[.slice (ownA sa5.key) sa5.l.length sa5.c, .slice (ownA sb5.key) sb5.l.length sb5.c] 40 (0, 0)), (some bC, .cells #[.slice (ownA ca5.key) ca5.l.length ca5.c, .slice (ownA cb5.key) cb5.l.length cb5.c] 40 (0, 0)), (wa5.key, sob ET 9 wa5.l wa5.sp), (wb5.key, sob ET 9 wb5.l wb5.sp), (sa5.key, sob ET 9 sa5.l sa5.sp), (sb5.key, sob ET 9 sb5.l sb5.sp), (ca5.key, sob ET 9 ca5.l ca5.sp), (cb5.key, sob ET 9 cb5.l cb5.sp)]) (A := endR 30 53 89 bA u5) (Y := endR 30 53 89 bB v5 ++ G5) HL5
    refine c_call (vs := [.pointer (some ⟨bA, 0, none⟩)]) call29 rfl (take_any bA u5 G5 ([(some bE, .cells #[.pointer (some ⟨bA, 0, none⟩), .pointer (some ⟨bB, 0, none⟩)] 49 (0, 0)), (some bW, .cells #[.slice (ownA wa5.key) wa5.l.length wa5.c, .slice (ownA wb5.key) wb5.l.length wb5.c] 40 (0, 0)), (some bS, .cells #[.slice (ownA sa5.key) sa5.l.length sa5.c, .slice (ownA sb5.key) sb5.l.length sb5.c] 40 (0, 0)), (some bC, .cells #[.slice (ownA ca5.key) ca5.l.length ca5.c, .slice (ownA cb5.key) cb5.l.length cb5.c] 40 (0, 0)), (wa5.key, sob ET 9 wa5.l wa5.sp), (wb5.key, sob ET 9 wb5.l wb5.sp), (sa5.key, sob ET 9 sa5.l sa5.sp), (sb5.key, sob ET 9 sb5.l sb5.sp), (ca5.key, sob ET 9 ca5.l ca5.sp), (cb5.key, sob ET 9 cb5.l cb5.sp)] ++ (endR 30 53 89 bB v5 ++ G5)) hu5 (fun x h => List.mem_append_right _ (List.mem_append_right _ h)) w₀ w1 H3) ?_
    rintro _ w4 ⟨f6, e7, rfl, hfok8, hm9, hfb10, hok11, hab12, HN13⟩
    have HN13' := HN13.as (L' := endR 30 53 89 bA e7 ++ (([] : List (Option Nat × Obj)) ++ ([(some bE, .cells #[.pointer (some ⟨bA, 0, none⟩), .pointer (some ⟨bB, 0, none⟩)] 49 (0, 0)), (some bW, .cells #[.slice (ownA wa5.key) wa5.l.length wa5.c, .slice (ownA wb5.key) wb5.l.length wb5.c] 40 (0, 0)), (some bS, .cells #[.slice (ownA sa5.key) sa5.l.length sa5.c, .slice (ownA sb5.key) sb5.l.length sb5.c] 40 (0, 0)), (some bC, .cells #[.slice (ownA ca5.key) ca5.l.length ca5.c, .slice (ownA cb5.key) cb5.l.length cb5.c] 40 (0, 0)), (wa5.key, sob ET 9 wa5.l wa5.sp), (wb5.key, sob ET 9 wb5.l wb5.sp), (sa5.key, sob ET 9 sa5.l sa5.sp), (sb5.key, sob ET 9 sb5.l sb5.sp), (ca5.key, sob ET 9 ca5.l ca5.sp), (cb5.key, sob ET 9 cb5.l cb5.sp)] ++ (endR 30 53 89 bB v5 ++ G5)))) rfl
    have H14 := (Hp.backA (R := [(some bE, .cells #[.pointer (some ⟨bA, 0, none⟩), .pointer (some ⟨bB, 0, none⟩)] 49 (0, 0)), (some bW, .cells #[.slice (ownA wa5.key) wa5.l.length wa5.c, .slice (ownA wb5.key) wb5.l.length wb5.c] 40 (0, 0)), (some bS, .cells #[.slice (ownA sa5.key) sa5.l.length sa5.c, .slice (ownA sb5.key) sb5.l.length sb5.c] 40 (0, 0)), (some bC, .cells #[.slice (ownA ca5.key) ca5.l.length ca5.c, .slice (ownA cb5.key) cb5.l.length cb5.c] 40 (0, 0)), (wa5.key, sob ET 9 wa5.l wa5.sp), (wb5.key, sob ET 9 wb5.l wb5.sp), (sa5.key, sob ET 9 sa5.l sa5.sp), (sb5.key, sob ET 9 sb5.l sb5.sp), (ca5.key, sob ET 9 ca5.l ca5.sp), (cb5.key, sob ET 9 cb5.l cb5.sp)]) (A := endR 30 53 89 bA e7) (B := endR 30 53 89 bB v5) (X := ([] : List (Option Nat × Obj))) (F := G5) HN13').as (L' := [(some bE, .cells #[.pointer (some ⟨bA, 0, none⟩), .pointer (some ⟨bB, 0, none⟩)] 49 (0, 0)), (some bW, .cells #[.slice (ownA wa5.key) wa5.l.length wa5.c, .slice (ownA wb5.key) wb5.l.length wb5.c] 40 (0, 0)), (some bS, .cells #[.slice (ownA sa5.key) sa5.l.length sa5.c, .slice (ownA sb5.key) sb5.l.length sb5.c] 40 (0, 0)), (some bC, .cells #[.slice (ownA ca5.key) ca5.l.length ca5.c, .slice (ownA cb5.key) cb5.l.length cb5.c] 40 (0, 0)), (wa5.key, sob ET 9 wa5.l wa5.sp), (wb5.key, sob ET 9 wb5.l wb5.sp), (sa5.key, sob ET 9 sa5.l sa5.sp), (sb5.key, sob ET 9 sb5.l sb5.sp), (ca5.key, sob ET 9 ca5.l ca5.sp), (cb5.key, sob ET 9 cb5.l cb5.sp)] ++ (endR 30 53 89 bA e7 ++ (endR 30 53 89 bB v5 ++ G5))) rfl
    have H15 := H14.as (L' := ((some bE, .cells #[.pointer (some ⟨bA, 0, none⟩), .pointer (some ⟨bB, 0, none⟩)] 49 (0, 0)) :: (some bW, .cells #[.slice (ownA wa5.key) wa5.l.length wa5.c, .slice (ownA wb5.key) wb5.l.length wb5.c] 40 (0, 0)) :: (some bS, .cells #[.slice (ownA sa5.key) sa5.l.length sa5.c, .slice (ownA sb5.key) sb5.l.length sb5.c] 40 (0, 0)) :: (some bC, .cells #[.slice (ownA ca5.key) ca5.l.length ca5.c, .slice (ownA cb5.key) cb5.l.length cb5.c] 40 (0, 0)) :: (wa5.key, sob ET 9 wa5.l wa5.sp) :: (wb5.key, sob ET 9 wb5.l wb5.sp) :: (sa5.key, sob ET 9 sa5.l sa5.sp) :: (sb5.key, sob ET 9 sb5.l sb5.sp) :: (ca5.key, sob ET 9 ca5.l ca5.sp) :: (cb5.key, sob ET 9 cb5.l cb5.sp) :: (endR 30 53 89 bA e7 ++ (endR 30 53 89 bB v5 ++ G5)))) rfl
    refine sq (r_move (v := .tuple #[.slice (ownA f6.key) f6.bs.length f6.c, .bool (decide (0 < (abs u5).came.length))]) rfl) ?_
    refine sq (r_extract (vs := #[.slice (ownA f6.key) f6.bs.length f6.c, .bool (decide (0 < (abs u5).came.length))]) rfl rfl) ?_
    refine sq (r_extract (vs := #[.slice (ownA f6.key) f6.bs.length f6.c, .bool (decide (0 < (abs u5).came.length))]) rfl rfl) ?_
    refine sq (r_assign (v := .slice (ownA f6.key) f6.bs.length f6.c) rfl) ?_
    refine sq (r_assign (v := .bool (decide (0 < (abs u5).came.length))) rfl) ?_
    refine wend ?_
    refine blockAny ?_
    refine loopAny (σ := Bool × Fr × En × Tx) (fun (ok6, f6, x6, cx) => [(0, .slice xa xl.length xc), (3, .pointer (some ⟨bE, 0, none⟩)), (4, .pointer (some ⟨bW, 0, none⟩)), (5, .pointer (some ⟨bS, 0, none⟩)), (6, .pointer (some ⟨bC, 0, none⟩)), (7, i64 ((z : Nat))), (19, i64 ((0 : Nat))), (229, i64 ((0 : Nat))), (20, .slice (ownA f6.key) f6.bs.length f6.c), (21, .bool (ok6))]) (fun (ok6, f6, x6, cx) w' => (x6.ok 5 G5 ∧ f6.ok ∧ (ok6 = true → f6.row 5 ∈ G5) ∧ Sl ET cx.key cx.l cx.c cx.sp ∧ Half (z + 1) (hand ok6 f6.bs (abs x6)) wa5.l sa5.l cx.l sb5.l ∧ (ok6 = false → (abs x6).came = [])) ∧ Hp No w₀ w' ((some bE, .cells #[.pointer (some ⟨bA, 0, none⟩), .pointer (some ⟨bB, 0, none⟩)] 49 (0, 0)) :: (some bW, .cells #[.slice (ownA wa5.key) wa5.l.length wa5.c, .slice (ownA wb5.key) wb5.l.length wb5.c] 40 (0, 0)) :: (some bS, .cells #[.slice (ownA sa5.key) sa5.l.length sa5.c, .slice (ownA sb5.key) sb5.l.length sb5.c] 40 (0, 0)) :: (some bC, .cells #[.slice (ownA cx.key) cx.l.length cx.c, .slice (ownA cb5.key) cb5.l.length cb5.c] 40 (0, 0)) :: (wa5.key, sob ET 9 wa5.l wa5.sp) :: (wb5.key, sob ET 9 wb5.l wb5.sp) :: (sa5.key, sob ET 9 sa5.l sa5.sp) :: (sb5.key, sob ET 9 sb5.l sb5.sp) :: (cx.key, sob ET 9 cx.l cx.sp) :: (cb5.key, sob ET 9 cb5.l cb5.sp) :: (endR 30 53 89 bA x6 ++ (endR 30 53 89 bB v5 ++ G5)))) (fun (ok6, f6, x6, cx) => (hand ok6 f6.bs (abs x6)).came.length) ((decide (0 < (abs u5).came.length), f6, e7, ca5)) ?_ ?_ ?_
    · exact ⟨rfl, rfl, rfl, rfl, rfl, rfl, rfl, rfl, rfl, rfl, trivial⟩
    · exact ⟨⟨hok11, hfok8, fun h => hm9 (of_decide_eq_true h), hs5.t4, by rw [hfb10, hab12, hand_take]; exact hs5.ha, fun h => by rw [hab12]; exact came_gone (of_decide_eq_false h)⟩, H15⟩
    rintro ⟨ok6, f6, x6, cx⟩ ρ w16 ⟨⟨hx6, hf6, hm6, hcx, hh6, hn6⟩, HX⟩
    refine seqAny ?_
    refine seqRegion ?_
    refine sq (r_move (v := .bool (ok6)) rfl) ?_
    refine wend ?_
    refine condBool (ok6) rfl (fun c239 => ?_) (fun c239 => ?_)
    · skip
      rw [c239] at hh6
      have hh6 := Half.moved hh6
      have hcl6 := hh6.cl
      rw [List.length_append, List.length_singleton] at hcl6
      refine skipAny ?_
      refine thenNormal ?_
      refine seqAny ?_
      refine blockAny ?_
      refine drawC (m := 10) [0, 0, 2, 6, 0, 16, 48, 126, 255, 511] [6, 7, 9] (fun q vs w' => match q, vs with | 0, [] => Hp No w₀ w' ((some bE, .cells #[.pointer (some ⟨bA, 0, none⟩), .pointer (some ⟨bB, 0, none⟩)] 49 (0, 0)) :: (some bW, .cells #[.slice (ownA wa5.key) wa5.l.length wa5.c, .slice (ownA wb5.key) wb5.l.length wb5.c] 40 (0, 0)) :: (some bS, .cells #[.slice (ownA sa5.key) sa5.l.length sa5.c, .slice (ownA sb5.key) sb5.l.length sb5.c] 40 (0, 0)) :: (some bC, .cells #[.slice (ownA cx.key) cx.l.length cx.c, .slice (ownA cb5.key) cb5.l.length cb5.c] 40 (0, 0)) :: (wa5.key, sob ET 9 wa5.l wa5.sp) :: (wb5.key, sob ET 9 wb5.l wb5.sp) :: (sa5.key, sob ET 9 sa5.l sa5.sp) :: (sb5.key, sob ET 9 sb5.l sb5.sp) :: (cx.key, sob ET 9 cx.l cx.sp) :: (cb5.key, sob ET 9 cb5.l cb5.sp) :: (endR 30 53 89 bA x6 ++ (endR 30 53 89 bB v5 ++ G5))) | 1, [v0] => ∃ (b21 : Nat), v0 = .slice (ownA (some b21)) 1 1 ∧ Sl ET (some b21) ([f6.bs] : List (List (BitVec 8))) 1 ([]) ∧ Hp No w₀ w' (((some b21), sob ET 9 ([f6.bs] : List (List (BitVec 8))) ([])) :: (some bE, .cells #[.pointer (some ⟨bA, 0, none⟩), .pointer (some ⟨bB, 0, none⟩)] 49 (0, 0)) :: (some bW, .cells #[.slice (ownA wa5.key) wa5.l.length wa5.c, .slice (ownA wb5.key) wb5.l.length wb5.c] 40 (0, 0)) :: (some bS, .cells #[.slice (ownA sa5.key) sa5.l.length sa5.c, .slice (ownA sb5.key) sb5.l.length sb5.c] 40 (0, 0)) :: (some bC, .cells #[.slice (ownA cx.key) cx.l.length cx.c, .slice (ownA cb5.key) cb5.l.length cb5.c] 40 (0, 0)) :: (wa5.key, sob ET 9 wa5.l wa5.sp) :: (wb5.key, sob ET 9 wb5.l wb5.sp) :: (sa5.key, sob ET 9 sa5.l sa5.sp) :: (sb5.key, sob ET 9 sb5.l sb5.sp) :: (cx.key, sob ET 9 cx.l cx.sp) :: (cb5.key, sob ET 9 cb5.l cb5.sp) :: (endR 30 53 89 bA x6 ++ (endR 30 53 89 bB v5 ++ G5))) | 2, [v0, v1] => ∃ (b21 : Nat) (key29 : Option Nat) (c30 : Nat) (sp31 : List Value), v0 = .slice (ownA (some b21)) 1 1 ∧ v1 = .slice (ownA key29) (cx.l.length + 1) c30 ∧ Sl ET (some b21) ([f6.bs] : List (List (BitVec 8))) 1 ([]) ∧ Sl ET key29 (cx.l ++ ([f6.bs] : List (List (BitVec 8)))) c30 sp31 ∧ Hp No w₀ w' (((some b21), sob ET 9 ([f6.bs] : List (List (BitVec 8))) ([])) :: (some bE, .cells #[.pointer (some ⟨bA, 0, none⟩), .pointer (some ⟨bB, 0, none⟩)] 49 (0, 0)) :: (some bW, .cells #[.slice (ownA wa5.key) wa5.l.length wa5.c, .slice (ownA wb5.key) wb5.l.length wb5.c] 40 (0, 0)) :: (some bS, .cells #[.slice (ownA sa5.key) sa5.l.length sa5.c, .slice (ownA sb5.key) sb5.l.length sb5.c] 40 (0, 0)) :: (some bC, .cells #[.slice (ownA cx.key) cx.l.length cx.c, .slice (ownA cb5.key) cb5.l.length cb5.c] 40 (0, 0)) :: (wa5.key, sob ET 9 wa5.l wa5.sp) :: (wb5.key, sob ET 9 wb5.l wb5.sp) :: (sa5.key, sob ET 9 sa5.l sa5.sp) :: (sb5.key, sob ET 9 sb5.l sb5.sp) :: (key29, sob ET 9 (cx.l ++ ([f6.bs] : List (List (BitVec 8)))) sp31) :: (cb5.key, sob ET 9 cb5.l cb5.sp) :: (endR 30 53 89 bA x6 ++ (endR 30 53 89 bB v5 ++ G5))) | 3, [v0, v1, _] => ∃ (b21 : Nat) (key29 : Option Nat) (c30 : Nat) (sp31 : List Value), v0 = .slice (ownA (some b21)) 1 1 ∧ v1 = .slice (ownA key29) (cx.l.length + 1) c30 ∧ True ∧ Sl ET (some b21) ([f6.bs] : List (List (BitVec 8))) 1 ([]) ∧ Sl ET key29 (cx.l ++ ([f6.bs] : List (List (BitVec 8)))) c30 sp31 ∧ Hp No w₀ w' (((some b21), sob ET 9 ([f6.bs] : List (List (BitVec 8))) ([])) :: (some bE, .cells #[.pointer (some ⟨bA, 0, none⟩), .pointer (some ⟨bB, 0, none⟩)] 49 (0, 0)) :: (some bW, .cells #[.slice (ownA wa5.key) wa5.l.length wa5.c, .slice (ownA wb5.key) wb5.l.length wb5.c] 40 (0, 0)) :: (some bS, .cells #[.slice (ownA sa5.key) sa5.l.length sa5.c, .slice (ownA sb5.key) sb5.l.length sb5.c] 40 (0, 0)) :: (some bC, .cells #[.slice (ownA key29) (cx.l.length + 1) c30, .slice (ownA cb5.key) cb5.l.length cb5.c] 40 (0, 0)) :: (wa5.key, sob ET 9 wa5.l wa5.sp) :: (wb5.key, sob ET 9 wb5.l wb5.sp) :: (sa5.key, sob ET 9 sa5.l sa5.sp) :: (sb5.key, sob ET 9 sb5.l sb5.sp) :: (key29, sob ET 9 (cx.l ++ ([f6.bs] : List (List (BitVec 8)))) sp31) :: (cb5.key, sob ET 9 cb5.l cb5.sp) :: (endR 30 53 89 bA x6 ++ (endR 30 53 89 bB v5 ++ G5))) | _, _ => False) mixed (by kernel_rfl) (by kernel_rfl) HX.drew ?_
      refine WalkC.look rfl (fun _ => i64 ((0 : Nat))) (fun _ _ _ => rfl) (fun q r uw _ _ _ _ => Gives.run rfl (r_move (v := i64 ((0 : Nat))) rfl) ⟨rfl, rfl⟩) ?_
      refine WalkC.look rfl (fun _ => i64 ((0 : Nat))) (fun _ _ _ => rfl) (fun q r uw _ _ _ _ => Gives.run rfl (r_move (v := i64 ((0 : Nat))) rfl) ⟨rfl, rfl⟩) ?_
      refine WalkC.look rfl (fun _ => .pointer (some ⟨bC, 0, none⟩)) (fun _ _ _ => rfl) (fun q r uw _ _ _ _ => Gives.run rfl (r_indexA (off' := 0) (j := 0) arr40 (b := bC) (off := 0) rfl rfl (by first | rfl | omega | (simp; omega)) (by omega) (by omega)) ⟨rfl, rfl⟩) ?_
      refine WalkC.look rfl (fun _ => .slice (ownA cx.key) cx.l.length cx.c) (fun _ _ _ => rfl) (fun q r uw hlo hhi hle hF => ?_) ?_
      · skip
        have h1 : 0 ≤ q := Nat.zero_le _
        have h2 : q ≤ 1 := hhi 1 7 rfl rfl
        rcases (show q = 0 ∨ q = 1 by omega) with rfl | rfl
        · skip
          have HH := hF
          exact Gives.run rfl (r_loadC (v := .slice (ownA cx.key) cx.l.length cx.c) one39 (HH.get (k := 3) rfl) (off := 0) rfl (by rfl)) ⟨rfl, rfl⟩
        · skip
          obtain ⟨b21, e6, hS22, HH⟩ := hF
          exact Gives.run rfl (r_loadC (v := .slice (ownA cx.key) cx.l.length cx.c) one39 (HH.get (k := 4) rfl) (off := 0) rfl (by rfl)) ⟨rfl, rfl⟩
      refine WalkC.look rfl (fun _ => .slice (ownA f6.key) f6.bs.length f6.c) (fun _ _ _ => rfl) (fun q r uw _ _ _ _ => Gives.run rfl (r_move (v := .slice (ownA f6.key) f6.bs.length f6.c) rfl) ⟨rfl, rfl⟩) ?_
      refine WalkC.look rfl (fun _ => .string (strB f6.bs)) (fun _ _ _ => rfl) (fun q r uw hlo hhi hle hF => ?_) ?_
      · skip
        have h1 : 0 ≤ q := Nat.zero_le _
        have h2 : q ≤ 0 := hhi 0 6 rfl rfl
        rcases (show q = 0 by omega) with rfl
        · skip
          have HH := hF
          exact Gives.run rfl (r_toStr (l := f6.bs) und30 und5 und9 (HH.rdm (T := 5) hf6 (List.mem_cons_of_mem _ (List.mem_cons_of_mem _ (List.mem_cons_of_mem _ (List.mem_cons_of_mem _ (List.mem_cons_of_mem _ (List.mem_cons_of_mem _ (List.mem_cons_of_mem _ (List.mem_cons_of_mem _ (List.mem_cons_of_mem _ (List.mem_cons_of_mem _ (List.mem_append_right _ (List.mem_append_right _ (hm6 c239)))))))))))))) rfl (by rfl)) ⟨rfl, rfl⟩
      refine WalkC.eff 0 rfl (fun r uw18 hF20 => ?_) ?_
      · skip
        have H19 := hF20
        dsimp only [List.take, List.map, List.cons_append, List.nil_append]
        refine Gives.ofW (d := 253) rfl rfl (fun Q' hK => ?_)
        refine q_buildSlice (E := ET) (l := ([f6.bs] : List (List (BitVec 8)))) H19 sli39 zer9 (Nat.le_of_ble_eq_true rfl) (ps := [(0, .string (strB f6.bs))]) rfl (by exact fillAll rfl rfl) rfl ?_
        intro b21 w23 hS22 H24 hE25
        exact hK _ _ ⟨b21, rfl, hS22, H24⟩
      refine WalkC.eff 1 rfl (fun r uw26 hF28 => ?_) ?_
      · skip
        obtain ⟨b21, e6, hS22, H27⟩ := hF28
        dsimp only [List.take, List.map, List.cons_append, List.nil_append]
        rw [e6]
        refine Gives.ofW (d := 254) rfl rfl (fun Q' hK => ?_)
        refine q_append (E := ET) (k := 9) (l := cx.l) (l2 := ([f6.bs] : List (List (BitVec 8)))) H27 rfl hcx sli39 zer9 rfl byt9 (H27.rd (k := 0) rfl hS22) rfl (by rfl) rfl (by rfl) (by omega) ?_
        intro key29 c30 sp31 w33 hS32 hne35 H34
        have H34' := H34.as (L' := (((some b21), sob ET 9 ([f6.bs] : List (List (BitVec 8))) ([])) :: (some bE, .cells #[.pointer (some ⟨bA, 0, none⟩), .pointer (some ⟨bB, 0, none⟩)] 49 (0, 0)) :: (some bW, .cells #[.slice (ownA wa5.key) wa5.l.length wa5.c, .slice (ownA wb5.key) wb5.l.length wb5.c] 40 (0, 0)) :: (some bS, .cells #[.slice (ownA sa5.key) sa5.l.length sa5.c, .slice (ownA sb5.key) sb5.l.length sb5.c] 40 (0, 0)) :: (some bC, .cells #[.slice (ownA cx.key) cx.l.length cx.c, .slice (ownA cb5.key) cb5.l.length cb5.c] 40 (0, 0)) :: (wa5.key, sob ET 9 wa5.l wa5.sp) :: (wb5.key, sob ET 9 wb5.l wb5.sp) :: (sa5.key, sob ET 9 sa5.l sa5.sp) :: (sb5.key, sob ET 9 sb5.l sb5.sp) :: (key29, sob ET 9 (cx.l ++ ([f6.bs] : List (List (BitVec 8)))) sp31) :: (cb5.key, sob ET 9 cb5.l cb5.sp) :: (endR 30 53 89 bA x6 ++ (endR 30 53 89 bB v5 ++ G5)))) rfl
        clear H34
        exact hK _ _ ⟨b21, key29, c30, sp31, rfl, rfl, hS22, hS32, H34'⟩
      refine WalkC.look rfl (fun _ => .pointer (some ⟨bC, 0, none⟩)) (fun _ _ _ => rfl) (fun q r uw _ _ _ _ => Gives.run rfl (r_indexA (off' := 0) (j := 0) arr40 (b := bC) (off := 0) rfl rfl (by first | rfl | omega | (simp; omega)) (by omega) (by omega)) ⟨rfl, rfl⟩) ?_
      refine WalkC.eff 2 rfl (fun r uw36 hF38 => ?_) ?_
      · skip
        obtain ⟨b21, key29, c30, sp31, e6, e7, hS22, hS32, H37⟩ := hF38
        dsimp only [List.take, List.map, List.cons_append, List.nil_append]
        rw [e6, e7]
        refine Gives.ofW0 rfl (fun Q' hK => ?_)
        refine d_store (k := 4) (v := .slice (ownA key29) (cx.l.length + 1) c30) (cs' := #[.slice (ownA key29) (cx.l.length + 1) c30, .slice (ownA cb5.key) cb5.l.length cb5.c]) H37 rfl rfl rfl siz39 (by rfl) (by intro u hu; simp [Value.cells] at hu; first | (subst hu; rfl) | (rcases hu with rfl <;> rfl)) (by exact Nat.le_of_ble_eq_true rfl) (by rfl) ?_
        intro w39 H40 hC41
        have H40' := H40.as (L' := (((some b21), sob ET 9 ([f6.bs] : List (List (BitVec 8))) ([])) :: (some bE, .cells #[.pointer (some ⟨bA, 0, none⟩), .pointer (some ⟨bB, 0, none⟩)] 49 (0, 0)) :: (some bW, .cells #[.slice (ownA wa5.key) wa5.l.length wa5.c, .slice (ownA wb5.key) wb5.l.length wb5.c] 40 (0, 0)) :: (some bS, .cells #[.slice (ownA sa5.key) sa5.l.length sa5.c, .slice (ownA sb5.key) sb5.l.length sb5.c] 40 (0, 0)) :: (some bC, .cells #[.slice (ownA key29) (cx.l.length + 1) c30, .slice (ownA cb5.key) cb5.l.length cb5.c] 40 (0, 0)) :: (wa5.key, sob ET 9 wa5.l wa5.sp) :: (wb5.key, sob ET 9 wb5.l wb5.sp) :: (sa5.key, sob ET 9 sa5.l sa5.sp) :: (sb5.key, sob ET 9 sb5.l sb5.sp) :: (key29, sob ET 9 (cx.l ++ ([f6.bs] : List (List (BitVec 8)))) sp31) :: (cb5.key, sob ET 9 cb5.l cb5.sp) :: (endR 30 53 89 bA x6 ++ (endR 30 53 89 bB v5 ++ G5)))) rfl
        clear H40
        exact hK _ (fun _ => ⟨b21, key29, c30, sp31, rfl, rfl, trivial, hS22, hS32, H40'⟩)
      refine WalkC.nil ?_
      intro r42 w43 hF45
      obtain ⟨b21, key29, c30, sp31, e6, e7, e9, hS22, hS32, H44⟩ := hF45
      dsimp only
      rw [e6, e7]
      refine wnil ?_
      refine blockNormal ?_
      refine thenNormal ?_
      refine oneRegion ?_
      refine sq (r_move (v := i64 ((0 : Nat))) rfl) ?_
      refine sq (r_indexA (off' := 0) (j := 0) arr49 (b := bE) (off := 0) rfl rfl (by first | rfl | omega | (simp; omega)) (by omega) (by omega)) ?_
      refine sq (r_loadC (v := .pointer (some ⟨bA, 0, none⟩)) one47 (H44.get (k := 1) rfl) (off := 0) rfl (by rfl)) ?_
      have H46 := Hp.mid (X := [((some b21), sob ET 9 ([f6.bs] : List (List (BitVec 8))) ([])), (some bE, .cells #[.pointer (some ⟨bA, 0, none⟩), .pointer (some ⟨bB, 0, none⟩)] 49 (0, 0)), (some bW, .cells #[.slice (ownA wa5.key) wa5.l.length wa5.c, .slice (ownA wb5.key) wb5.l.length wb5.c] 40 (0, 0)), (some bS, .cells #[.slice (ownA sa5.key) sa5.l.length sa5.c, .slice (ownA sb5.key) sb5.l.length sb5.c] 40 (0, 0)), (some bC, .cells #[.slice (ownA key29) (cx.l.length + 1) c30, .slice (ownA cb5.key) cb5.l.length cb5.c] 40 (0, 0)), (wa5.key, sob ET 9 wa5.l wa5.sp), (wb5.key, sob ET 9 wb5.l wb5.sp), (sa5.key, sob ET 9 sa5.l sa5.sp), (sb5.key, sob ET 9 sb5.l sb5.sp), (key29, sob ET 9 (cx.l ++ ([f6.bs] : List (List (BitVec 8)))) sp31), (cb5.key, sob ET 9 cb5.l cb5.sp)]) (A := endR 30 53 89 bA x6) (Y := endR 30 53 89 bB v5 ++ G5) H44
      refine c_call (vs := [.pointer (some ⟨bA, 0, none⟩)]) call29 rfl (take_any bA x6 G5 ([((some b21), sob ET 9 ([f6.bs] : List (List (BitVec 8))) ([])), (some bE, .cells #[.pointer (some ⟨bA, 0, none⟩), .pointer (some ⟨bB, 0, none⟩)] 49 (0, 0)), (some bW, .cells #[.slice (ownA wa5.key) wa5.l.length wa5.c, .slice (ownA wb5.key) wb5.l.length wb5.c] 40 (0, 0)), (some bS, .cells #[.slice (ownA sa5.key) sa5.l.length sa5.c, .slice (ownA sb5.key) sb5.l.length sb5.c] 40 (0, 0)), (some bC, .cells #[.slice (ownA key29) (cx.l.length + 1) c30, .slice (ownA cb5.key) cb5.l.length cb5.c] 40 (0, 0)), (wa5.key, sob ET 9 wa5.l wa5.sp), (wb5.key, sob ET 9 wb5.l wb5.sp), (sa5.key, sob ET 9 sa5.l sa5.sp), (sb5.key, sob ET 9 sb5.l sb5.sp), (key29, sob ET 9 (cx.l ++ ([f6.bs] : List (List (BitVec 8)))) sp31), (cb5.key, sob ET 9 cb5.l cb5.sp)] ++ (endR 30 53 89 bB v5 ++ G5)) hx6 (fun x h => List.mem_append_right _ (List.mem_append_right _ h)) w₀ w43 H46) ?_
      rintro _ w47 ⟨f49, e50, rfl, hfok51, hm52, hfb53, hok54, hab55, HN56⟩
      have HN56' := HN56.as (L' := endR 30 53 89 bA e50 ++ (([] : List (Option Nat × Obj)) ++ ([((some b21), sob ET 9 ([f6.bs] : List (List (BitVec 8))) ([])), (some bE, .cells #[.pointer (some ⟨bA, 0, none⟩), .pointer (some ⟨bB, 0, none⟩)] 49 (0, 0)), (some bW, .cells #[.slice (ownA wa5.key) wa5.l.length wa5.c, .slice (ownA wb5.key) wb5.l.length wb5.c] 40 (0, 0)), (some bS, .cells #[.slice (ownA sa5.key) sa5.l.length sa5.c, .slice (ownA sb5.key) sb5.l.length sb5.c] 40 (0, 0)), (some bC, .cells #[.slice (ownA key29) (cx.l.length + 1) c30, .slice (ownA cb5.key) cb5.l.length cb5.c] 40 (0, 0)), (wa5.key, sob ET 9 wa5.l wa5.sp), (wb5.key, sob ET 9 wb5.l wb5.sp), (sa5.key, sob ET 9 sa5.l sa5.sp), (sb5.key, sob ET 9 sb5.l sb5.sp), (key29, sob ET 9 (cx.l ++ ([f6.bs] : List (List (BitVec 8)))) sp31), (cb5.key, sob ET 9 cb5.l cb5.sp)] ++ (endR 30 53 89 bB v5 ++ G5)))) rfl
      have H57 := (Hp.backA (R := [((some b21), sob ET 9 ([f6.bs] : List (List (BitVec 8))) ([])), (some bE, .cells #[.pointer (some ⟨bA, 0, none⟩), .pointer (some ⟨bB, 0, none⟩)] 49 (0, 0)), (some bW, .cells #[.slice (ownA wa5.key) wa5.l.length wa5.c, .slice (ownA wb5.key) wb5.l.length wb5.c] 40 (0, 0)), (some bS, .cells #[.slice (ownA sa5.key) sa5.l.length sa5.c, .slice (ownA sb5.key) sb5.l.length sb5.c] 40 (0, 0)), (some bC, .cells #[.slice (ownA key29) (cx.l.length + 1) c30, .slice (ownA cb5.key) cb5.l.length cb5.c] 40 (0, 0)), (wa5.key, sob ET 9 wa5.l wa5.sp), (wb5.key, sob ET 9 wb5.l wb5.sp), (sa5.key, sob ET 9 sa5.l sa5.sp), (sb5.key, sob ET 9 sb5.l sb5.sp), (key29, sob ET 9 (cx.l ++ ([f6.bs] : List (List (BitVec 8)))) sp31), (cb5.key, sob ET 9 cb5.l cb5.sp)]) (A := endR 30 53 89 bA e50) (B := endR 30 53 89 bB v5) (X := ([] : List (Option Nat × Obj))) (F := G5) HN56').as (L' := [((some b21), sob ET 9 ([f6.bs] : List (List (BitVec 8))) ([])), (some bE, .cells #[.pointer (some ⟨bA, 0, none⟩), .pointer (some ⟨bB, 0, none⟩)] 49 (0, 0)), (some bW, .cells #[.slice (ownA wa5.key) wa5.l.length wa5.c, .slice (ownA wb5.key) wb5.l.length wb5.c] 40 (0, 0)), (some bS, .cells #[.slice (ownA sa5.key) sa5.l.length sa5.c, .slice (ownA sb5.key) sb5.l.length sb5.c] 40 (0, 0)), (some bC, .cells #[.slice (ownA key29) (cx.l.length + 1) c30, .slice (ownA cb5.key) cb5.l.length cb5.c] 40 (0, 0)), (wa5.key, sob ET 9 wa5.l wa5.sp), (wb5.key, sob ET 9 wb5.l wb5.sp), (sa5.key, sob ET 9 sa5.l sa5.sp), (sb5.key, sob ET 9 sb5.l sb5.sp), (key29, sob ET 9 (cx.l ++ ([f6.bs] : List (List (BitVec 8)))) sp31), (cb5.key, sob ET 9 cb5.l cb5.sp)] ++ (endR 30 53 89 bA e50 ++ (endR 30 53 89 bB v5 ++ G5))) rfl
      have H58 := H57.as (L' := (((some b21), sob ET 9 ([f6.bs] : List (List (BitVec 8))) ([])) :: (some bE, .cells #[.pointer (some ⟨bA, 0, none⟩), .pointer (some ⟨bB, 0, none⟩)] 49 (0, 0)) :: (some bW, .cells #[.slice (ownA wa5.key) wa5.l.length wa5.c, .slice (ownA wb5.key) wb5.l.length wb5.c] 40 (0, 0)) :: (some bS, .cells #[.slice (ownA sa5.key) sa5.l.length sa5.c, .slice (ownA sb5.key) sb5.l.length sb5.c] 40 (0, 0)) :: (some bC, .cells #[.slice (ownA key29) (cx.l.length + 1) c30, .slice (ownA cb5.key) cb5.l.length cb5.c] 40 (0, 0)) :: (wa5.key, sob ET 9 wa5.l wa5.sp) :: (wb5.key, sob ET 9 wb5.l wb5.sp) :: (sa5.key, sob ET 9 sa5.l sa5.sp) :: (sb5.key, sob ET 9 sb5.l sb5.sp) :: (key29, sob ET 9 (cx.l ++ ([f6.bs] : List (List (BitVec 8)))) sp31) :: (cb5.key, sob ET 9 cb5.l cb5.sp) :: (endR 30 53 89 bA e50 ++ (endR 30 53 89 bB v5 ++ G5)))) rfl
      refine sq (r_move (v := .tuple #[.slice (ownA f49.key) f49.bs.length f49.c, .bool (decide (0 < (abs x6).came.length))]) rfl) ?_
      refine sq (r_extract (vs := #[.slice (ownA f49.key) f49.bs.length f49.c, .bool (decide (0 < (abs x6).came.length))]) rfl rfl) ?_
      refine sq (r_extract (vs := #[.slice (ownA f49.key) f49.bs.length f49.c, .bool (decide (0 < (abs x6).came.length))]) rfl rfl) ?_
      refine sq (r_assign (v := .slice (ownA f49.key) f49.bs.length f49.c) rfl) ?_
      refine sq (r_assign (v := .bool (decide (0 < (abs x6).came.length))) rfl) ?_
      refine wnil ?_
      refine thenNormal ?_
      rw [show cx.l.length + 1 = (cx.l ++ ([f6.bs] : List (List (BitVec 8)))).length from by first | (rw [List.length_append, List.length_singleton]; done) | (rw [List.length_set]; done) | (rw [List.length_eraseIdx_of_lt hjl]; omega)] at H58
      refine ⟨(decide (0 < (abs x6).came.length), f49, e50, ⟨key29, c30, sp31, cx.l ++ ([f6.bs] : List (List (BitVec 8)))⟩), _, rfl, ⟨rfl, rfl, rfl, rfl, rfl, rfl, rfl, rfl, rfl, rfl, trivial⟩, ⟨⟨hok54, hfok51, fun h => hm52 (of_decide_eq_true h), hS32, by rw [hfb53, hab55, hand_take]; exact hh6, fun h => by rw [hab55]; exact came_gone (of_decide_eq_false h)⟩, (H58.dropk 0)⟩, ?_⟩
      show (hand (decide (0 < (abs x6).came.length)) f49.bs (abs e50)).came.length < (hand ok6 f6.bs (abs x6)).came.length
      rw [hfb53, hab55, hand_take, c239]; exact hand_lt _ _
    · skip
      rw [c239] at hh6
      have hcn := hn6 c239
      have hh6 := Half.none hh6
      have hfit := hh6.fits hcn
      have hcl6 := hh6.cl
      refine exitAny ?_
      refine thenExit ?_
      refine thenExit ?_
      refine blockHere ?_
      refine thenNormal ?_
      refine seqAny ?_
      refine seqAny ?_
      refine drawAny (K := [none, none, none, none, none, none, none, none, none, none]) [0, 1, 3, 7, 0, 16, 48, 112, 240, 511] (fun w' => Ext w16 w') (fun w' w'' => Ext w' w'') mixed (by kernel_rfl) (Ext.drew _) (fun _ _ h h' => h.trans h') ?_ ?_
      · exact relNone (by decide)
      refine ⟨i64 ((0 : Nat)), fun _ uw59 hC60 _ => Gives.run rfl (r_move (v := i64 ((0 : Nat))) rfl) ⟨rfl, Chg.refl _ _⟩, ?_⟩
      refine ⟨.pointer (some ⟨bC, 0, none⟩), fun _ uw61 hC62 _ => Gives.run rfl (r_indexA (off' := 0) (j := 0) arr40 (b := bC) (off := 0) rfl rfl (by first | rfl | omega | (simp; omega)) (by omega) (by omega)) ⟨rfl, Chg.refl _ _⟩, ?_⟩
      refine ⟨.slice (ownA cx.key) cx.l.length cx.c, fun _ uw63 hC64 _ => Gives.run rfl (r_loadC (v := .slice (ownA cx.key) cx.l.length cx.c) one39 ((HX.ext hC64).get (k := 3) rfl) (off := 0) rfl (by rfl)) ⟨rfl, Chg.refl _ _⟩, ?_⟩
      refine ⟨i64 ((cx.l.length : Nat)), fun _ uw65 hC66 _ => Gives.run rfl (r_lenS sli39 (a := ownA cx.key) (m := cx.l.length) (c := cx.c) rfl) ⟨rfl, Chg.refl _ _⟩, ?_⟩
      refine ⟨i64 ((0 : Nat)), fun _ uw67 hC68 _ => Gives.run rfl (r_move (v := i64 ((0 : Nat))) rfl) ⟨rfl, Chg.refl _ _⟩, ?_⟩
      refine ⟨i64 ((1 : Nat)), fun _ uw69 hC70 _ => Gives.run rfl ((r_subI (a := (1 : Int)) (b := (0 : Nat)) rfl rfl (by omega)).as (v' := i64 ((1 : Nat))) (by rfl)) ⟨rfl, Chg.refl _ _⟩, ?_⟩
      refine ⟨.pointer (some ⟨bS, 1, none⟩), fun _ uw71 hC72 _ => Gives.run rfl (r_indexA (off' := 1) (j := 1) arr40 (b := bS) (off := 0) rfl rfl (by first | rfl | omega | (simp; omega)) (by omega) (by omega)) ⟨rfl, Chg.refl _ _⟩, ?_⟩
      refine ⟨.slice (ownA sb5.key) sb5.l.length sb5.c, fun _ uw73 hC74 _ => Gives.run rfl (r_loadC (v := .slice (ownA sb5.key) sb5.l.length sb5.c) one39 ((HX.ext hC74).get (k := 2) rfl) (off := 1) rfl (by rfl)) ⟨rfl, Chg.refl _ _⟩, ?_⟩
      refine ⟨i64 ((sb5.l.length : Nat)), fun _ uw75 hC76 _ => Gives.run rfl (r_lenS sli39 (a := ownA sb5.key) (m := sb5.l.length) (c := sb5.c) rfl) ⟨rfl, Chg.refl _ _⟩, ?_⟩
      refine ⟨.bool (false), fun _ uw77 hC78 _ => Gives.run rfl ((r_gtrI (a := (cx.l.length : Nat)) (b := (sb5.l.length : Nat)) rfl rfl).as (v' := .bool (false)) (by exact congrArg Value.bool (decide_eq_false (by have := hfit.1; omega)))) ⟨rfl, Chg.refl _ _⟩, ?_⟩
      intro r82 w79 hE81 hF
      have H80 := HX.ext hE81
      refine wnil ?_
      refine thenNormal ?_
      refine condFalse rfl ?_
      refine skipAny ?_
      refine thenNormal ?_
      refine seqRegion ?_
      refine sq (r_move (v := i64 ((0 : Nat))) rfl) ?_
      refine sq (r_indexA (off' := 0) (j := 0) arr40 (b := bC) (off := 0) rfl rfl (by first | rfl | omega | (simp; omega)) (by omega) (by omega)) ?_
      refine sq (r_loadC (v := .slice (ownA cx.key) cx.l.length cx.c) one39 (H80.get (k := 3) rfl) (off := 0) rfl (by rfl)) ?_
      refine sq (r_lenS sli39 (a := ownA cx.key) (m := cx.l.length) (c := cx.c) rfl) ?_
      refine sq (r_move (v := i64 ((0 : Int))) rfl) ?_
      refine wend ?_
      refine blockAny ?_
      refine loopAny (σ := Nat) (fun q => [(0, .slice xa xl.length xc), (3, .pointer (some ⟨bE, 0, none⟩)), (4, .pointer (some ⟨bW, 0, none⟩)), (5, .pointer (some ⟨bS, 0, none⟩)), (6, .pointer (some ⟨bC, 0, none⟩)), (7, i64 ((z : Nat))), (19, i64 ((0 : Nat))), (229, i64 ((0 : Nat))), (269, i64 ((cx.l.length : Nat))), (270, i64 ((q : Nat)))]) (fun q w' => q ≤ cx.l.length ∧ Hp No w₀ w' ((some bE, .cells #[.pointer (some ⟨bA, 0, none⟩), .pointer (some ⟨bB, 0, none⟩)] 49 (0, 0)) :: (some bW, .cells #[.slice (ownA wa5.key) wa5.l.length wa5.c, .slice (ownA wb5.key) wb5.l.length wb5.c] 40 (0, 0)) :: (some bS, .cells #[.slice (ownA sa5.key) sa5.l.length sa5.c, .slice (ownA sb5.key) sb5.l.length sb5.c] 40 (0, 0)) :: (some bC, .cells #[.slice (ownA cx.key) cx.l.length cx.c, .slice (ownA cb5.key) cb5.l.length cb5.c] 40 (0, 0)) :: (wa5.key, sob ET 9 wa5.l wa5.sp) :: (wb5.key, sob ET 9 wb5.l wb5.sp) :: (sa5.key, sob ET 9 sa5.l sa5.sp) :: (sb5.key, sob ET 9 sb5.l sb5.sp) :: (cx.key, sob ET 9 cx.l cx.sp) :: (cb5.key, sob ET 9 cb5.l cb5.sp) :: (endR 30 53 89 bA x6 ++ (endR 30 53 89 bB v5 ++ G5)))) (fun q => cx.l.length - q) (0) ?_ ?_ ?_
      · exact ⟨rfl, rfl, rfl, rfl, rfl, rfl, rfl, rfl, rfl, rfl, trivial⟩
      · exact ⟨Nat.zero_le _, H80⟩
      rintro q ρ w83 ⟨hq, HJ⟩
      refine seqRegion ?_
      refine sq (r_lssI (a := (q : Nat)) (b := (cx.l.length : Nat)) rfl rfl) ?_
      refine wend ?_
      refine seqAny ?_
      refine condProp (((q : Nat) : Int) < (cx.l.length : Nat)) rfl (fun c271 => ?_) (fun c271 => ?_)
      · skip
        have hfq := hfit.1
        have hfe := hfit.2 q (by omega)
        refine skipAny ?_
        refine thenNormal ?_
        refine seqAny ?_
        refine blockAny ?_
        refine seqRegion ?_
        refine sq (r_move (v := i64 ((q : Nat))) rfl) ?_
        refine sq (r_assign (v := i64 ((q : Nat))) rfl) ?_
        refine wend ?_
        refine seqAny ?_
        refine drawAny (K := [none, none, none, none, none, none, none, none, none, none, none, none, none, none]) [0, 1, 3, 0, 15, 31, 0, 64, 192, 448, 0, 1984, 4032, 8191] (fun w' => Ext w83 w') (fun w' w'' => Ext w' w'') mixed (by kernel_rfl) (Ext.drew _) (fun _ _ h h' => h.trans h') ?_ ?_
        · exact relNone (by decide)
        refine ⟨i64 ((0 : Nat)), fun _ uw85 hC86 _ => Gives.run rfl (r_move (v := i64 ((0 : Nat))) rfl) ⟨rfl, Chg.refl _ _⟩, ?_⟩
        refine ⟨.pointer (some ⟨bC, 0, none⟩), fun _ uw87 hC88 _ => Gives.run rfl (r_indexA (off' := 0) (j := 0) arr40 (b := bC) (off := 0) rfl rfl (by first | rfl | omega | (simp; omega)) (by omega) (by omega)) ⟨rfl, Chg.refl _ _⟩, ?_⟩
        refine ⟨.slice (ownA cx.key) cx.l.length cx.c, fun _ uw89 hC90 _ => Gives.run rfl (r_loadC (v := .slice (ownA cx.key) cx.l.length cx.c) one39 ((HJ.ext hC90).get (k := 3) rfl) (off := 0) rfl (by rfl)) ⟨rfl, Chg.refl _ _⟩, ?_⟩
        refine ⟨i64 ((q : Nat)), fun _ uw91 hC92 _ => Gives.run rfl (r_move (v := i64 ((q : Nat))) rfl) ⟨rfl, Chg.refl _ _⟩, ?_⟩
        refine ⟨.pointer (adr (ownA cx.key) (q * 1)), fun _ uw93 hC94 _ => Gives.run rfl (r_idxS (E := ET) (l := cx.l) (j := q) sli39 ((HJ.ext hC94).rd (k := 8) rfl hcx) rfl rfl (by first | rfl | omega | (simp; omega)) (by rfl) (by omega)) ⟨rfl, Chg.refl _ _⟩, ?_⟩
        refine ⟨.string (strB ((cx.l).getD q [])), fun _ uw95 hC96 _ => Gives.run rfl (r_ldS (E := ET) (l := cx.l) (j := q) (v := (cx.l).getD q []) fits9 ((HJ.ext hC96).rd (k := 8) rfl hcx) rfl rfl (at_getD (by omega))) ⟨rfl, Chg.refl _ _⟩, ?_⟩
        refine ⟨i64 ((0 : Nat)), fun _ uw97 hC98 _ => Gives.run rfl (r_move (v := i64 ((0 : Nat))) rfl) ⟨rfl, Chg.refl _ _⟩, ?_⟩
        refine ⟨i64 ((1 : Nat)), fun _ uw99 hC100 _ => Gives.run rfl ((r_subI (a := (1 : Int)) (b := (0 : Nat)) rfl rfl (by omega)).as (v' := i64 ((1 : Nat))) (by rfl)) ⟨rfl, Chg.refl _ _⟩, ?_⟩
        refine ⟨.pointer (some ⟨bS, 1, none⟩), fun _ uw101 hC102 _ => Gives.run rfl (r_indexA (off' := 1) (j := 1) arr40 (b := bS) (off := 0) rfl rfl (by first | rfl | omega | (simp; omega)) (by omega) (by omega)) ⟨rfl, Chg.refl _ _⟩, ?_⟩
        refine ⟨.slice (ownA sb5.key) sb5.l.length sb5.c, fun _ uw103 hC104 _ => Gives.run rfl (r_loadC (v := .slice (ownA sb5.key) sb5.l.length sb5.c) one39 ((HJ.ext hC104).get (k := 2) rfl) (off := 1) rfl (by rfl)) ⟨rfl, Chg.refl _ _⟩, ?_⟩
        refine ⟨i64 ((q : Nat)), fun _ uw105 hC106 _ => Gives.run rfl (r_move (v := i64 ((q : Nat))) rfl) ⟨rfl, Chg.refl _ _⟩, ?_⟩
        refine ⟨.pointer (adr (ownA sb5.key) (q * 1)), fun _ uw107 hC108 _ => Gives.run rfl (r_idxS (E := ET) (l := sb5.l) (j := q) sli39 ((HJ.ext hC108).rd (k := 7) rfl hs5.t3) rfl rfl (by first | rfl | omega | (simp; omega)) (by rfl) (by omega)) ⟨rfl, Chg.refl _ _⟩, ?_⟩
        refine ⟨.string (strB ((sb5.l).getD q [])), fun _ uw109 hC110 _ => Gives.run rfl (r_ldS (E := ET) (l := sb5.l) (j := q) (v := (sb5.l).getD q []) fits9 ((HJ.ext hC110).rd (k := 7) rfl hs5.t3) rfl rfl (at_getD (by omega))) ⟨rfl, Chg.refl _ _⟩, ?_⟩
        refine ⟨.bool (false), fun _ uw111 hC112 _ => Gives.run rfl ((r_neqStr (s := strB ((cx.l).getD q [])) (s' := strB ((sb5.l).getD q [])) rfl rfl).as (v' := .bool (false)) (by rw [hfe]; simp)) ⟨rfl, Chg.refl _ _⟩, ?_⟩
        intro r116 w113 hE115 hF
        have H114 := HJ.ext hE115
        refine wnil ?_
        refine thenNormal ?_
        refine condFalse rfl ?_
        refine skipAny ?_
        refine blockNormal ?_
        refine thenNormal ?_
        refine oneRegion ?_
        refine sq (r_addI (a := (q : Nat)) (b := (1 : Int)) rfl rfl (by omega)) ?_
        refine sq (r_move (v := i64 ((q : Nat) + (1 : Int))) rfl) ?_
        refine wnil ?_
        refine thenNormal ?_
        exact ⟨q + 1, _, rfl, ⟨rfl, rfl, rfl, rfl, rfl, rfl, rfl, rfl, rfl, rfl, trivial⟩, ⟨by omega, H114⟩, by show cx.l.length - (q + 1) < cx.l.length - q; omega⟩
      · skip
        refine exitAny ?_
        refine thenExit ?_
        refine thenExit ?_
        refine blockHere ?_
        refine blockNormal ?_
        refine thenNormal ?_
        refine oneRegion ?_
        refine sq (r_addI (a := (0 : Nat)) (b := (1 : Int)) rfl rfl (by omega)) ?_
        refine sq (r_move (v := i64 ((0 : Nat) + (1 : Int))) rfl) ?_
        refine wnil ?_
        refine thenNormal ?_
        exact ⟨(0 + 1, x6, v5, G5, ⟨wa5.key, wa5.c, wa5.sp, wa5.l⟩, ⟨wb5.key, wb5.c, wb5.sp, wb5.l⟩, ⟨sa5.key, sa5.c, sa5.sp, sa5.l⟩, ⟨sb5.key, sb5.c, sb5.sp, sb5.l⟩, ⟨cx.key, cx.c, cx.sp, cx.l⟩, ⟨cb5.key, cb5.c, cb5.sp, cb5.l⟩), _, rfl, ⟨rfl, rfl, rfl, rfl, rfl, rfl, rfl, trivial⟩, ⟨⟨by omega, hx6, hv5, ⟨hh6, hs5.hb, hs5.t0, hs5.t1, hs5.t2, hs5.t3, hcx, hs5.t5⟩⟩, HJ⟩, by show 2 - (0 + 1) < 2 - 0; omega⟩
  · skip
    have hsl := hs5.hb.sl
    have hol := hs5.hb.ol
    have hcl := hs5.hb.cl
    refine seqRegion ?_
    refine sq ((r_lssI (a := (1 : Nat)) (b := (2 : Int)) rfl rfl).as (v' := .bool (true)) (by rfl)) ?_
    refine wend ?_
    refine seqAny ?_
    refine condTrue rfl ?_
    refine skipAny ?_
    refine thenNormal ?_
    refine seqAny ?_
    refine blockAny ?_
    refine seqRegion ?_
    refine sq (r_move (v := i64 ((1 : Nat))) rfl) ?_
    refine sq (r_assign (v := i64 ((1 : Nat))) rfl) ?_
    refine wend ?_
    refine seqAny ?_
    refine seqRegion ?_
    refine sq (r_move (v := i64 ((1 : Nat))) rfl) ?_
    refine sq (r_indexA (off' := 1) (j := 1) arr49 (b := bE) (off := 0) rfl rfl (by first | rfl | omega | (simp; omega)) (by omega) (by omega)) ?_
    refine sq (r_loadC (v := .pointer (some ⟨bB, 0, none⟩)) one47 (HL5.get (k := 0) rfl) (off := 1) rfl (by rfl)) ?_
    have H117 := Hp.midB (R := [(some bE, .cells #[.pointer (some ⟨bA, 0, none⟩), .pointer (some ⟨bB, 0, none⟩)] 49 (0, 0)), (some bW, .cells #[.slice (ownA wa5.key) wa5.l.length wa5.c, .slice (ownA wb5.key) wb5.l.length wb5.c] 40 (0, 0)), (some bS, .cells #[.slice (ownA sa5.key) sa5.l.length sa5.c, .slice (ownA sb5.key) sb5.l.length sb5.c] 40 (0, 0)), (some bC, .cells #[.slice (ownA ca5.key) ca5.l.length ca5.c, .slice (ownA cb5.key) cb5.l.length cb5.c] 40 (0, 0)), (wa5.key, sob ET 9 wa5.l wa5.sp), (wb5.key, sob ET 9 wb5.l wb5.sp), (sa5.key, sob ET 9 sa5.l sa5.sp), (sb5.key, sob ET 9 sb5.l sb5.sp), (ca5.key, sob ET 9 ca5.l ca5.sp), (cb5.key, sob ET 9 cb5.l cb5.sp)]) (A := endR 30 53 89 bA u5) (B := endR 30 53 89 bB v5) (F := G5) HL5
    refine c_call (vs := [.pointer (some ⟨bB, 0, none⟩)]) call29 rfl (take_any bB v5 G5 ([(some bE, .cells #[.pointer (some ⟨bA, 0, none⟩), .pointer (some ⟨bB, 0, none⟩)] 49 (0, 0)), (some bW, .cells #[.slice (ownA wa5.key) wa5.l.length wa5.c, .slice (ownA wb5.key) wb5.l.length wb5.c] 40 (0, 0)), (some bS, .cells #[.slice (ownA sa5.key) sa5.l.length sa5.c, .slice (ownA sb5.key) sb5.l.length sb5.c] 40 (0, 0)), (some bC, .cells #[.slice (ownA ca5.key) ca5.l.length ca5.c, .slice (ownA cb5.key) cb5.l.length cb5.c] 40 (0, 0)), (wa5.key, sob ET 9 wa5.l wa5.sp), (wb5.key, sob ET 9 wb5.l wb5.sp), (sa5.key, sob ET 9 sa5.l sa5.sp), (sb5.key, sob ET 9 sb5.l sb5.sp), (ca5.key, sob ET 9 ca5.l ca5.sp), (cb5.key, sob ET 9 cb5.l cb5.sp)] ++ (endR 30 53 89 bA u5 ++ G5)) hv5 (fun x h => List.mem_append_right _ (List.mem_append_right _ h)) w₀ w1 H117) ?_
    rintro _ w118 ⟨f120, e121, rfl, hfok122, hm123, hfb124, hok125, hab126, HN127⟩
    have HN127' := HN127.as (L' := endR 30 53 89 bB e121 ++ (([] : List (Option Nat × Obj)) ++ ([(some bE, .cells #[.pointer (some ⟨bA, 0, none⟩), .pointer (some ⟨bB, 0, none⟩)] 49 (0, 0)), (some bW, .cells #[.slice (ownA wa5.key) wa5.l.length wa5.c, .slice (ownA wb5.key) wb5.l.length wb5.c] 40 (0, 0)), (some bS, .cells #[.slice (ownA sa5.key) sa5.l.length sa5.c, .slice (ownA sb5.key) sb5.l.length sb5.c] 40 (0, 0)), (some bC, .cells #[.slice (ownA ca5.key) ca5.l.length ca5.c, .slice (ownA cb5.key) cb5.l.length cb5.c] 40 (0, 0)), (wa5.key, sob ET 9 wa5.l wa5.sp), (wb5.key, sob ET 9 wb5.l wb5.sp), (sa5.key, sob ET 9 sa5.l sa5.sp), (sb5.key, sob ET 9 sb5.l sb5.sp), (ca5.key, sob ET 9 ca5.l ca5.sp), (cb5.key, sob ET 9 cb5.l cb5.sp)] ++ (endR 30 53 89 bA u5 ++ G5)))) rfl
    have H128 := (Hp.backB (R := [(some bE, .cells #[.pointer (some ⟨bA, 0, none⟩), .pointer (some ⟨bB, 0, none⟩)] 49 (0, 0)), (some bW, .cells #[.slice (ownA wa5.key) wa5.l.length wa5.c, .slice (ownA wb5.key) wb5.l.length wb5.c] 40 (0, 0)), (some bS, .cells #[.slice (ownA sa5.key) sa5.l.length sa5.c, .slice (ownA sb5.key) sb5.l.length sb5.c] 40 (0, 0)), (some bC, .cells #[.slice (ownA ca5.key) ca5.l.length ca5.c, .slice (ownA cb5.key) cb5.l.length cb5.c] 40 (0, 0)), (wa5.key, sob ET 9 wa5.l wa5.sp), (wb5.key, sob ET 9 wb5.l wb5.sp), (sa5.key, sob ET 9 sa5.l sa5.sp), (sb5.key, sob ET 9 sb5.l sb5.sp), (ca5.key, sob ET 9 ca5.l ca5.sp), (cb5.key, sob ET 9 cb5.l cb5.sp)]) (A := endR 30 53 89 bA u5) (B := endR 30 53 89 bB e121) (X := ([] : List (Option Nat × Obj))) (F := G5) HN127').as (L' := [(some bE, .cells #[.pointer (some ⟨bA, 0, none⟩), .pointer (some ⟨bB, 0, none⟩)] 49 (0, 0)), (some bW, .cells #[.slice (ownA wa5.key) wa5.l.length wa5.c, .slice (ownA wb5.key) wb5.l.length wb5.c] 40 (0, 0)), (some bS, .cells #[.slice (ownA sa5.key) sa5.l.length sa5.c, .slice (ownA sb5.key) sb5.l.length sb5.c] 40 (0, 0)), (some bC, .cells #[.slice (ownA ca5.key) ca5.l.length ca5.c, .slice (ownA cb5.key) cb5.l.length cb5.c] 40 (0, 0)), (wa5.key, sob ET 9 wa5.l wa5.sp), (wb5.key, sob ET 9 wb5.l wb5.sp), (sa5.key, sob ET 9 sa5.l sa5.sp), (sb5.key, sob ET 9 sb5.l sb5.sp), (ca5.key, sob ET 9 ca5.l ca5.sp), (cb5.key, sob ET 9 cb5.l cb5.sp)] ++ (endR 30 53 89 bA u5 ++ (endR 30 53 89 bB e121 ++ G5))) rfl
    have H129 := H128.as (L' := ((some bE, .cells #[.pointer (some ⟨bA, 0, none⟩), .pointer (some ⟨bB, 0, none⟩)] 49 (0, 0)) :: (some bW, .cells #[.slice (ownA wa5.key) wa5.l.length wa5.c, .slice (ownA wb5.key) wb5.l.length wb5.c] 40 (0, 0)) :: (some bS, .cells #[.slice (ownA sa5.key) sa5.l.length sa5.c, .slice (ownA sb5.key) sb5.l.length sb5.c] 40 (0, 0)) :: (some bC, .cells #[.slice (ownA ca5.key) ca5.l.length ca5.c, .slice (ownA cb5.key) cb5.l.length cb5.c] 40 (0, 0)) :: (wa5.key, sob ET 9 wa5.l wa5.sp) :: (wb5.key, sob ET 9 wb5.l wb5.sp) :: (sa5.key, sob ET 9 sa5.l sa5.sp) :: (sb5.key, sob ET 9 sb5.l sb5.sp) :: (ca5.key, sob ET 9 ca5.l ca5.sp) :: (cb5.key, sob ET 9 cb5.l cb5.sp) :: (endR 30 53 89 bA u5 ++ (endR 30 53 89 bB e121 ++ G5)))) rfl
    refine sq (r_move (v := .tuple #[.slice (ownA f120.key) f120.bs.length f120.c, .bool (decide (0 < (abs v5).came.length))]) rfl) ?_
    refine sq (r_extract (vs := #[.slice (ownA f120.key) f120.bs.length f120.c, .bool (decide (0 < (abs v5).came.length))]) rfl rfl) ?_
    refine sq (r_extract (vs := #[.slice (ownA f120.key) f120.bs.length f120.c, .bool (decide (0 < (abs v5).came.length))]) rfl rfl) ?_
    refine sq (r_assign (v := .slice (ownA f120.key) f120.bs.length f120.c) rfl) ?_
    refine sq (r_assign (v := .bool (decide (0 < (abs v5).came.length))) rfl) ?_
    refine wend ?_
    refine blockAny ?_
    refine loopAny (σ := Bool × Fr × En × Tx) (fun (ok6, f6, x6, cx) => [(0, .slice xa xl.length xc), (3, .pointer (some ⟨bE, 0, none⟩)), (4, .pointer (some ⟨bW, 0, none⟩)), (5, .pointer (some ⟨bS, 0, none⟩)), (6, .pointer (some ⟨bC, 0, none⟩)), (7, i64 ((z : Nat))), (19, i64 ((1 : Nat))), (229, i64 ((1 : Nat))), (20, .slice (ownA f6.key) f6.bs.length f6.c), (21, .bool (ok6))]) (fun (ok6, f6, x6, cx) w' => (x6.ok 5 G5 ∧ f6.ok ∧ (ok6 = true → f6.row 5 ∈ G5) ∧ Sl ET cx.key cx.l cx.c cx.sp ∧ Half (z + 1) (hand ok6 f6.bs (abs x6)) wb5.l sb5.l cx.l sa5.l ∧ (ok6 = false → (abs x6).came = [])) ∧ Hp No w₀ w' ((some bE, .cells #[.pointer (some ⟨bA, 0, none⟩), .pointer (some ⟨bB, 0, none⟩)] 49 (0, 0)) :: (some bW, .cells #[.slice (ownA wa5.key) wa5.l.length wa5.c, .slice (ownA wb5.key) wb5.l.length wb5.c] 40 (0, 0)) :: (some bS, .cells #[.slice (ownA sa5.key) sa5.l.length sa5.c, .slice (ownA sb5.key) sb5.l.length sb5.c] 40 (0, 0)) :: (some bC, .cells #[.slice (ownA ca5.key) ca5.l.length ca5.c, .slice (ownA cx.key) cx.l.length cx.c] 40 (0, 0)) :: (wa5.key, sob ET 9 wa5.l wa5.sp) :: (wb5.key, sob ET 9 wb5.l wb5.sp) :: (sa5.key, sob ET 9 sa5.l sa5.sp) :: (sb5.key, sob ET 9 sb5.l sb5.sp) :: (ca5.key, sob ET 9 ca5.l ca5.sp) :: (cx.key, sob ET 9 cx.l cx.sp) :: (endR 30 53 89 bA u5 ++ (endR 30 53 89 bB x6 ++ G5)))) (fun (ok6, f6, x6, cx) => (hand ok6 f6.bs (abs x6)).came.length) ((decide (0 < (abs v5).came.length), f120, e121, cb5)) ?_ ?_ ?_
    · exact ⟨rfl, rfl, rfl, rfl, rfl, rfl, rfl, rfl, rfl, rfl, trivial⟩
    · exact ⟨⟨hok125, hfok122, fun h => hm123 (of_decide_eq_true h), hs5.t5, by rw [hfb124, hab126, hand_take]; exact hs5.hb, fun h => by rw [hab126]; exact came_gone (of_decide_eq_false h)⟩, H129⟩
    rintro ⟨ok6, f6, x6, cx⟩ ρ w130 ⟨⟨hx6, hf6, hm6, hcx, hh6, hn6⟩, HX⟩
    refine seqAny ?_
    refine seqRegion ?_
    refine sq (r_move (v := .bool (ok6)) rfl) ?_
    refine wend ?_
    refine condBool (ok6) rfl (fun c239 => ?_) (fun c239 => ?_)
    · skip
      rw [c239] at hh6
      have hh6 := Half.moved hh6
      have hcl6 := hh6.cl
      rw [List.length_append, List.length_singleton] at hcl6
      refine skipAny ?_
      refine thenNormal ?_
      refine seqAny ?_
      refine blockAny ?_
      refine drawC (m := 10) [0, 0, 2, 6, 0, 16, 48, 126, 255, 511] [6, 7, 9] (fun q vs w' => match q, vs with | 0, [] => Hp No w₀ w' ((some bE, .cells #[.pointer (some ⟨bA, 0, none⟩), .pointer (some ⟨bB, 0, none⟩)] 49 (0, 0)) :: (some bW, .cells #[.slice (ownA wa5.key) wa5.l.length wa5.c, .slice (ownA wb5.key) wb5.l.length wb5.c] 40 (0, 0)) :: (some bS, .cells #[.slice (ownA sa5.key) sa5.l.length sa5.c, .slice (ownA sb5.key) sb5.l.length sb5.c] 40 (0, 0)) :: (some bC, .cells #[.slice (ownA ca5.key) ca5.l.length ca5.c, .slice (ownA cx.key) cx.l.length cx.c] 40 (0, 0)) :: (wa5.key, sob ET 9 wa5.l wa5.sp) :: (wb5.key, sob ET 9 wb5.l wb5.sp) :: (sa5.key, sob ET 9 sa5.l sa5.sp) :: (sb5.key, sob ET 9 sb5.l sb5.sp) :: (ca5.key, sob ET 9 ca5.l ca5.sp) :: (cx.key, sob ET 9 cx.l cx.sp) :: (endR 30 53 89 bA u5 ++ (endR 30 53 89 bB x6 ++ G5))) | 1, [v0] => ∃ (b135 : Nat), v0 = .slice (ownA (some b135)) 1 1 ∧ Sl ET (some b135) ([f6.bs] : List (List (BitVec 8))) 1 ([]) ∧ Hp No w₀ w' (((some b135), sob ET 9 ([f6.bs] : List (List (BitVec 8))) ([])) :: (some bE, .cells #[.pointer (some ⟨bA, 0, none⟩), .pointer (some ⟨bB, 0, none⟩)] 49 (0, 0)) :: (some bW, .cells #[.slice (ownA wa5.key) wa5.l.length wa5.c, .slice (ownA wb5.key) wb5.l.length wb5.c] 40 (0, 0)) :: (some bS, .cells #[.slice (ownA sa5.key) sa5.l.length sa5.c, .slice (ownA sb5.key) sb5.l.length sb5.c] 40 (0, 0)) :: (some bC, .cells #[.slice (ownA ca5.key) ca5.l.length ca5.c, .slice (ownA cx.key) cx.l.length cx.c] 40 (0, 0)) :: (wa5.key, sob ET 9 wa5.l wa5.sp) :: (wb5.key, sob ET 9 wb5.l wb5.sp) :: (sa5.key, sob ET 9 sa5.l sa5.sp) :: (sb5.key, sob ET 9 sb5.l sb5.sp) :: (ca5.key, sob ET 9 ca5.l ca5.sp) :: (cx.key, sob ET 9 cx.l cx.sp) :: (endR 30 53 89 bA u5 ++ (endR 30 53 89 bB x6 ++ G5))) | 2, [v0, v1] => ∃ (b135 : Nat) (key143 : Option Nat) (c144 : Nat) (sp145 : List Value), v0 = .slice (ownA (some b135)) 1 1 ∧ v1 = .slice (ownA key143) (cx.l.length + 1) c144 ∧ Sl ET (some b135) ([f6.bs] : List (List (BitVec 8))) 1 ([]) ∧ Sl ET key143 (cx.l ++ ([f6.bs] : List (List (BitVec 8)))) c144 sp145 ∧ Hp No w₀ w' (((some b135), sob ET 9 ([f6.bs] : List (List (BitVec 8))) ([])) :: (some bE, .cells #[.pointer (some ⟨bA, 0, none⟩), .pointer (some ⟨bB, 0, none⟩)] 49 (0, 0)) :: (some bW, .cells #[.slice (ownA wa5.key) wa5.l.length wa5.c, .slice (ownA wb5.key) wb5.l.length wb5.c] 40 (0, 0)) :: (some bS, .cells #[.slice (ownA sa5.key) sa5.l.length sa5.c, .slice (ownA sb5.key) sb5.l.length sb5.c] 40 (0, 0)) :: (some bC, .cells #[.slice (ownA ca5.key) ca5.l.length ca5.c, .slice (ownA cx.key) cx.l.length cx.c] 40 (0, 0)) :: (wa5.key, sob ET 9 wa5.l wa5.sp) :: (wb5.key, sob ET 9 wb5.l wb5.sp) :: (sa5.key, sob ET 9 sa5.l sa5.sp) :: (sb5.key, sob ET 9 sb5.l sb5.sp) :: (ca5.key, sob ET 9 ca5.l ca5.sp) :: (key143, sob ET 9 (cx.l ++ ([f6.bs] : List (List (BitVec 8)))) sp145) :: (endR 30 53 89 bA u5 ++ (endR 30 53 89 bB x6 ++ G5))) | 3, [v0, v1, _] => ∃ (b135 : Nat) (key143 : Option Nat) (c144 : Nat) (sp145 : List Value), v0 = .slice (ownA (some b135)) 1 1 ∧ v1 = .slice (ownA key143) (cx.l.length + 1) c144 ∧ True ∧ Sl ET (some b135) ([f6.bs] : List (List (BitVec 8))) 1 ([]) ∧ Sl ET key143 (cx.l ++ ([f6.bs] : List (List (BitVec 8)))) c144 sp145 ∧ Hp No w₀ w' (((some b135), sob ET 9 ([f6.bs] : List (List (BitVec 8))) ([])) :: (some bE, .cells #[.pointer (some ⟨bA, 0, none⟩), .pointer (some ⟨bB, 0, none⟩)] 49 (0, 0)) :: (some bW, .cells #[.slice (ownA wa5.key) wa5.l.length wa5.c, .slice (ownA wb5.key) wb5.l.length wb5.c] 40 (0, 0)) :: (some bS, .cells #[.slice (ownA sa5.key) sa5.l.length sa5.c, .slice (ownA sb5.key) sb5.l.length sb5.c] 40 (0, 0)) :: (some bC, .cells #[.slice (ownA ca5.key) ca5.l.length ca5.c, .slice (ownA key143) (cx.l.length + 1) c144] 40 (0, 0)) :: (wa5.key, sob ET 9 wa5.l wa5.sp) :: (wb5.key, sob ET 9 wb5.l wb5.sp) :: (sa5.key, sob ET 9 sa5.l sa5.sp) :: (sb5.key, sob ET 9 sb5.l sb5.sp) :: (ca5.key, sob ET 9 ca5.l ca5.sp) :: (key143, sob ET 9 (cx.l ++ ([f6.bs] : List (List (BitVec 8)))) sp145) :: (endR 30 53 89 bA u5 ++ (endR 30 53 89 bB x6 ++ G5))) | _, _ => False) mixed (by kernel_rfl) (by kernel_rfl) HX.drew ?_
      refine WalkC.look rfl (fun _ => i64 ((1 : Nat))) (fun _ _ _ => rfl) (fun q r uw _ _ _ _ => Gives.run rfl (r_move (v := i64 ((1 : Nat))) rfl) ⟨rfl, rfl⟩) ?_
      refine WalkC.look rfl (fun _ => i64 ((1 : Nat))) (fun _ _ _ => rfl) (fun q r uw _ _ _ _ => Gives.run rfl (r_move (v := i64 ((1 : Nat))) rfl) ⟨rfl, rfl⟩) ?_
      refine WalkC.look rfl (fun _ => .pointer (some ⟨bC, 1, none⟩)) (fun _ _ _ => rfl) (fun q r uw _ _ _ _ => Gives.run rfl (r_indexA (off' := 1) (j := 1) arr40 (b := bC) (off := 0) rfl rfl (by first | rfl | omega | (simp; omega)) (by omega) (by omega)) ⟨rfl, rfl⟩) ?_
      refine WalkC.look rfl (fun _ => .slice (ownA cx.key) cx.l.length cx.c) (fun _ _ _ => rfl) (fun q r uw hlo hhi hle hF => ?_) ?_
      · skip
        have h1 : 0 ≤ q := Nat.zero_le _
        have h2 : q ≤ 1 := hhi 1 7 rfl rfl
        rcases (show q = 0 ∨ q = 1 by omega) with rfl | rfl
        · skip
          have HH := hF
          exact Gives.run rfl (r_loadC (v := .slice (ownA cx.key) cx.l.length cx.c) one39 (HH.get (k := 3) rfl) (off := 1) rfl (by rfl)) ⟨rfl, rfl⟩
        · skip
          obtain ⟨b135, e6, hS136, HH⟩ := hF
          exact Gives.run rfl (r_loadC (v := .slice (ownA cx.key) cx.l.length cx.c) one39 (HH.get (k := 4) rfl) (off := 1) rfl (by rfl)) ⟨rfl, rfl⟩
      refine WalkC.look rfl (fun _ => .slice (ownA f6.key) f6.bs.length f6.c) (fun _ _ _ => rfl) (fun q r uw _ _ _ _ => Gives.run rfl (r_move (v := .slice (ownA f6.key) f6.bs.length f6.c) rfl) ⟨rfl, rfl⟩) ?_
      refine WalkC.look rfl (fun _ => .string (strB f6.bs)) (fun _ _ _ => rfl) (fun q r uw hlo hhi hle hF => ?_) ?_
      · skip
        have h1 : 0 ≤ q := Nat.zero_le _
        have h2 : q ≤ 0 := hhi 0 6 rfl rfl
        rcases (show q = 0 by omega) with rfl
        · skip
          have HH := hF
          exact Gives.run rfl (r_toStr (l := f6.bs) und30 und5 und9 (HH.rdm (T := 5) hf6 (List.mem_cons_of_mem _ (List.mem_cons_of_mem _ (List.mem_cons_of_mem _ (List.mem_cons_of_mem _ (List.mem_cons_of_mem _ (List.mem_cons_of_mem _ (List.mem_cons_of_mem _ (List.mem_cons_of_mem _ (List.mem_cons_of_mem _ (List.mem_cons_of_mem _ (List.mem_append_right _ (List.mem_append_right _ (hm6 c239)))))))))))))) rfl (by rfl)) ⟨rfl, rfl⟩
      refine WalkC.eff 0 rfl (fun r uw132 hF134 => ?_) ?_
      · skip
        have H133 := hF134
        dsimp only [List.take, List.map, List.cons_append, List.nil_append]
        refine Gives.ofW (d := 253) rfl rfl (fun Q' hK => ?_)
        refine q_buildSlice (E := ET) (l := ([f6.bs] : List (List (BitVec 8)))) H133 sli39 zer9 (Nat.le_of_ble_eq_true rfl) (ps := [(0, .string (strB f6.bs))]) rfl (by exact fillAll rfl rfl) rfl ?_
        intro b135 w137 hS136 H138 hE139
        exact hK _ _ ⟨b135, rfl, hS136, H138⟩
      refine WalkC.eff 1 rfl (fun r uw140 hF142 => ?_) ?_
      · skip
        obtain ⟨b135, e6, hS136, H141⟩ := hF142
        dsimp only [List.take, List.map, List.cons_append, List.nil_append]
        rw [e6]
        refine Gives.ofW (d := 254) rfl rfl (fun Q' hK => ?_)
        refine q_append (E := ET) (k := 10) (l := cx.l) (l2 := ([f6.bs] : List (List (BitVec 8)))) H141 rfl hcx sli39 zer9 rfl byt9 (H141.rd (k := 0) rfl hS136) rfl (by rfl) rfl (by rfl) (by omega) ?_
        intro key143 c144 sp145 w147 hS146 hne149 H148
        have H148' := H148.as (L' := (((some b135), sob ET 9 ([f6.bs] : List (List (BitVec 8))) ([])) :: (some bE, .cells #[.pointer (some ⟨bA, 0, none⟩), .pointer (some ⟨bB, 0, none⟩)] 49 (0, 0)) :: (some bW, .cells #[.slice (ownA wa5.key) wa5.l.length wa5.c, .slice (ownA wb5.key) wb5.l.length wb5.c] 40 (0, 0)) :: (some bS, .cells #[.slice (ownA sa5.key) sa5.l.length sa5.c, .slice (ownA sb5.key) sb5.l.length sb5.c] 40 (0, 0)) :: (some bC, .cells #[.slice (ownA ca5.key) ca5.l.length ca5.c, .slice (ownA cx.key) cx.l.length cx.c] 40 (0, 0)) :: (wa5.key, sob ET 9 wa5.l wa5.sp) :: (wb5.key, sob ET 9 wb5.l wb5.sp) :: (sa5.key, sob ET 9 sa5.l sa5.sp) :: (sb5.key, sob ET 9 sb5.l sb5.sp) :: (ca5.key, sob ET 9 ca5.l ca5.sp) :: (key143, sob ET 9 (cx.l ++ ([f6.bs] : List (List (BitVec 8)))) sp145) :: (endR 30 53 89 bA u5 ++ (endR 30 53 89 bB x6 ++ G5)))) rfl
        clear H148
        exact hK _ _ ⟨b135, key143, c144, sp145, rfl, rfl, hS136, hS146, H148'⟩
      refine WalkC.look rfl (fun _ => .pointer (some ⟨bC, 1, none⟩)) (fun _ _ _ => rfl) (fun q r uw _ _ _ _ => Gives.run rfl (r_indexA (off' := 1) (j := 1) arr40 (b := bC) (off := 0) rfl rfl (by first | rfl | omega | (simp; omega)) (by omega) (by omega)) ⟨rfl, rfl⟩) ?_
      refine WalkC.eff 2 rfl (fun r uw150 hF152 => ?_) ?_
      · skip
        obtain ⟨b135, key143, c144, sp145, e6, e7, hS136, hS146, H151⟩ := hF152
        dsimp only [List.take, List.map, List.cons_append, List.nil_append]
        rw [e6, e7]
        refine Gives.ofW0 rfl (fun Q' hK => ?_)
        refine d_store (k := 4) (v := .slice (ownA key143) (cx.l.length + 1) c144) (cs' := #[.slice (ownA ca5.key) ca5.l.length ca5.c, .slice (ownA key143) (cx.l.length + 1) c144]) H151 rfl rfl rfl siz39 (by rfl) (by intro u hu; simp [Value.cells] at hu; first | (subst hu; rfl) | (rcases hu with rfl <;> rfl)) (by exact Nat.le_of_ble_eq_true rfl) (by rfl) ?_
        intro w153 H154 hC155
        have H154' := H154.as (L' := (((some b135), sob ET 9 ([f6.bs] : List (List (BitVec 8))) ([])) :: (some bE, .cells #[.pointer (some ⟨bA, 0, none⟩), .pointer (some ⟨bB, 0, none⟩)] 49 (0, 0)) :: (some bW, .cells #[.slice (ownA wa5.key) wa5.l.length wa5.c, .slice (ownA wb5.key) wb5.l.length wb5.c] 40 (0, 0)) :: (some bS, .cells #[.slice (ownA sa5.key) sa5.l.length sa5.c, .slice (ownA sb5.key) sb5.l.length sb5.c] 40 (0, 0)) :: (some bC, .cells #[.slice (ownA ca5.key) ca5.l.length ca5.c, .slice (ownA key143) (cx.l.length + 1) c144] 40 (0, 0)) :: (wa5.key, sob ET 9 wa5.l wa5.sp) :: (wb5.key, sob ET 9 wb5.l wb5.sp) :: (sa5.key, sob ET 9 sa5.l sa5.sp) :: (sb5.key, sob ET 9 sb5.l sb5.sp) :: (ca5.key, sob ET 9 ca5.l ca5.sp) :: (key143, sob ET 9 (cx.l ++ ([f6.bs] : List (List (BitVec 8)))) sp145) :: (endR 30 53 89 bA u5 ++ (endR 30 53 89 bB x6 ++ G5)))) rfl
        clear H154
        exact hK _ (fun _ => ⟨b135, key143, c144, sp145, rfl, rfl, trivial, hS136, hS146, H154'⟩)
      refine WalkC.nil ?_
      intro r156 w157 hF159
      obtain ⟨b135, key143, c144, sp145, e6, e7, e9, hS136, hS146, H158⟩ := hF159
      dsimp only
      rw [e6, e7]
      refine wnil ?_
      refine blockNormal ?_
      refine thenNormal ?_
      refine oneRegion ?_
      refine sq (r_move (v := i64 ((1 : Nat))) rfl) ?_
      refine sq (r_indexA (off' := 1) (j := 1) arr49 (b := bE) (off := 0) rfl rfl (by first | rfl | omega | (simp; omega)) (by omega) (by omega)) ?_
      refine sq (r_loadC (v := .pointer (some ⟨bB, 0, none⟩)) one47 (H158.get (k := 1) rfl) (off := 1) rfl (by rfl)) ?_
      have H160 := Hp.midB (R := [((some b135), sob ET 9 ([f6.bs] : List (List (BitVec 8))) ([])), (some bE, .cells #[.pointer (some ⟨bA, 0, none⟩), .pointer (some ⟨bB, 0, none⟩)] 49 (0, 0)), (some bW, .cells #[.slice (ownA wa5.key) wa5.l.length wa5.c, .slice (ownA wb5.key) wb5.l.length wb5.c] 40 (0, 0)), (some bS, .cells #[.slice (ownA sa5.key) sa5.l.length sa5.c, .slice (ownA sb5.key) sb5.l.length sb5.c] 40 (0, 0)), (some bC, .cells #[.slice (ownA ca5.key) ca5.l.length ca5.c, .slice (ownA key143) (cx.l.length + 1) c144] 40 (0, 0)), (wa5.key, sob ET 9 wa5.l wa5.sp), (wb5.key, sob ET 9 wb5.l wb5.sp), (sa5.key, sob ET 9 sa5.l sa5.sp), (sb5.key, sob ET 9 sb5.l sb5.sp), (ca5.key, sob ET 9 ca5.l ca5.sp), (key143, sob ET 9 (cx.l ++ ([f6.bs] : List (List (BitVec 8)))) sp145)]) (A := endR 30 53 89 bA u5) (B := endR 30 53 89 bB x6) (F := G5) H158
      refine c_call (vs := [.pointer (some ⟨bB, 0, none⟩)]) call29 rfl (take_any bB x6 G5 ([((some b135), sob ET 9 ([f6.bs] : List (List (BitVec 8))) ([])), (some bE, .cells #[.pointer (some ⟨bA, 0, none⟩), .pointer (some ⟨bB, 0, none⟩)] 49 (0, 0)), (some bW, .cells #[.slice (ownA wa5.key) wa5.l.length wa5.c, .slice (ownA wb5.key) wb5.l.length wb5.c] 40 (0, 0)), (some bS, .cells #[.slice (ownA sa5.key) sa5.l.length sa5.c, .slice (ownA sb5.key) sb5.l.length sb5.c] 40 (0, 0)), (some bC, .cells #[.slice (ownA ca5.key) ca5.l.length ca5.c, .slice (ownA key143) (cx.l.length + 1) c144] 40 (0, 0)), (wa5.key, sob ET 9 wa5.l wa5.sp), (wb5.key, sob ET 9 wb5.l wb5.sp), (sa5.key, sob ET 9 sa5.l sa5.sp), (sb5.key, sob ET 9 sb5.l sb5.sp), (ca5.key, sob ET 9 ca5.l ca5.sp), (key143, sob ET 9 (cx.l ++ ([f6.bs] : List (List (BitVec 8)))) sp145)] ++ (endR 30 53 89 bA u5 ++ G5)) hx6 (fun x h => List.mem_append_right _ (List.mem_append_right _ h)) w₀ w157 H160) ?_
      rintro _ w161 ⟨f163, e164, rfl, hfok165, hm166, hfb167, hok168, hab169, HN170⟩
      have HN170' := HN170.as (L' := endR 30 53 89 bB e164 ++ (([] : List (Option Nat × Obj)) ++ ([((some b135), sob ET 9 ([f6.bs] : List (List (BitVec 8))) ([])), (some bE, .cells #[.pointer (some ⟨bA, 0, none⟩), .pointer (some ⟨bB, 0, none⟩)] 49 (0, 0)), (some bW, .cells #[.slice (ownA wa5.key) wa5.l.length wa5.c, .slice (ownA wb5.key) wb5.l.length wb5.c] 40 (0, 0)), (some bS, .cells #[.slice (ownA sa5.key) sa5.l.length sa5.c, .slice (ownA sb5.key) sb5.l.length sb5.c] 40 (0, 0)), (some bC, .cells #[.slice (ownA ca5.key) ca5.l.length ca5.c, .slice (ownA key143) (cx.l.length + 1) c144] 40 (0, 0)), (wa5.key, sob ET 9 wa5.l wa5.sp), (wb5.key, sob ET 9 wb5.l wb5.sp), (sa5.key, sob ET 9 sa5.l sa5.sp), (sb5.key, sob ET 9 sb5.l sb5.sp), (ca5.key, sob ET 9 ca5.l ca5.sp), (key143, sob ET 9 (cx.l ++ ([f6.bs] : List (List (BitVec 8)))) sp145)] ++ (endR 30 53 89 bA u5 ++ G5)))) rfl
      have H171 := (Hp.backB (R := [((some b135), sob ET 9 ([f6.bs] : List (List (BitVec 8))) ([])), (some bE, .cells #[.pointer (some ⟨bA, 0, none⟩), .pointer (some ⟨bB, 0, none⟩)] 49 (0, 0)), (some bW, .cells #[.slice (ownA wa5.key) wa5.l.length wa5.c, .slice (ownA wb5.key) wb5.l.length wb5.c] 40 (0, 0)), (some bS, .cells #[.slice (ownA sa5.key) sa5.l.length sa5.c, .slice (ownA sb5.key) sb5.l.length sb5.c] 40 (0, 0)), (some bC, .cells #[.slice (ownA ca5.key) ca5.l.length ca5.c, .slice (ownA key143) (cx.l.length + 1) c144] 40 (0, 0)), (wa5.key, sob ET 9 wa5.l wa5.sp), (wb5.key, sob ET 9 wb5.l wb5.sp), (sa5.key, sob ET 9 sa5.l sa5.sp), (sb5.key, sob ET 9 sb5.l sb5.sp), (ca5.key, sob ET 9 ca5.l ca5.sp), (key143, sob ET 9 (cx.l ++ ([f6.bs] : List (List (BitVec 8)))) sp145)]) (A := endR 30 53 89 bA u5) (B := endR 30 53 89 bB e164) (X := ([] : List (Option Nat × Obj))) (F := G5) HN170').as (L' := [((some b135), sob ET 9 ([f6.bs] : List (List (BitVec 8))) ([])), (some bE, .cells #[.pointer (some ⟨bA, 0, none⟩), .pointer (some ⟨bB, 0, none⟩)] 49 (0, 0)), (some bW, .cells #[.slice (ownA wa5.key) wa5.l.length wa5.c, .slice (ownA wb5.key) wb5.l.length wb5.c] 40 (0, 0)), (some bS, .cells #[.slice (ownA sa5.key) sa5.l.length sa5.c, .slice (ownA sb5.key) sb5.l.length sb5.c] 40 (0, 0)), (some bC, .cells #[.slice (ownA ca5.key) ca5.l.length ca5.c, .slice (ownA key143) (cx.l.length + 1) c144] 40 (0, 0)), (wa5.key, sob ET 9 wa5.l wa5.sp), (wb5.key, sob ET 9 wb5.l wb5.sp), (sa5.key, sob ET 9 sa5.l sa5.sp), (sb5.key, sob ET 9 sb5.l sb5.sp), (ca5.key, sob ET 9 ca5.l ca5.sp), (key143, sob ET 9 (cx.l ++ ([f6.bs] : List (List (BitVec 8)))) sp145)] ++ (endR 30 53 89 bA u5 ++ (endR 30 53 89 bB e164 ++ G5))) rfl
      have H172 := H171.as (L' := (((some b135), sob ET 9 ([f6.bs] : List (List (BitVec 8))) ([])) :: (some bE, .cells #[.pointer (some ⟨bA, 0, none⟩), .pointer (some ⟨bB, 0, none⟩)] 49 (0, 0)) :: (some bW, .cells #[.slice (ownA wa5.key) wa5.l.length wa5.c, .slice (ownA wb5.key) wb5.l.length wb5.c] 40 (0, 0)) :: (some bS, .cells #[.slice (ownA sa5.key) sa5.l.length sa5.c, .slice (ownA sb5.key) sb5.l.length sb5.c] 40 (0, 0)) :: (some bC, .cells #[.slice (ownA ca5.key) ca5.l.length ca5.c, .slice (ownA key143) (cx.l.length + 1) c144] 40 (0, 0)) :: (wa5.key, sob ET 9 wa5.l wa5.sp) :: (wb5.key, sob ET 9 wb5.l wb5.sp) :: (sa5.key, sob ET 9 sa5.l sa5.sp) :: (sb5.key, sob ET 9 sb5.l sb5.sp) :: (ca5.key, sob ET 9 ca5.l ca5.sp) :: (key143, sob ET 9 (cx.l ++ ([f6.bs] : List (List (BitVec 8)))) sp145) :: (endR 30 53 89 bA u5 ++ (endR 30 53 89 bB e164 ++ G5)))) rfl
      refine sq (r_move (v := .tuple #[.slice (ownA f163.key) f163.bs.length f163.c, .bool (decide (0 < (abs x6).came.length))]) rfl) ?_
      refine sq (r_extract (vs := #[.slice (ownA f163.key) f163.bs.length f163.c, .bool (decide (0 < (abs x6).came.length))]) rfl rfl) ?_
      refine sq (r_extract (vs := #[.slice (ownA f163.key) f163.bs.length f163.c, .bool (decide (0 < (abs x6).came.length))]) rfl rfl) ?_
      refine sq (r_assign (v := .slice (ownA f163.key) f163.bs.length f163.c) rfl) ?_
      refine sq (r_assign (v := .bool (decide (0 < (abs x6).came.length))) rfl) ?_
      refine wnil ?_
      refine thenNormal ?_
      rw [show cx.l.length + 1 = (cx.l ++ ([f6.bs] : List (List (BitVec 8)))).length from by first | (rw [List.length_append, List.length_singleton]; done) | (rw [List.length_set]; done) | (rw [List.length_eraseIdx_of_lt hjl]; omega)] at H172
      refine ⟨(decide (0 < (abs x6).came.length), f163, e164, ⟨key143, c144, sp145, cx.l ++ ([f6.bs] : List (List (BitVec 8)))⟩), _, rfl, ⟨rfl, rfl, rfl, rfl, rfl, rfl, rfl, rfl, rfl, rfl, trivial⟩, ⟨⟨hok168, hfok165, fun h => hm166 (of_decide_eq_true h), hS146, by rw [hfb167, hab169, hand_take]; exact hh6, fun h => by rw [hab169]; exact came_gone (of_decide_eq_false h)⟩, (H172.dropk 0)⟩, ?_⟩
      show (hand (decide (0 < (abs x6).came.length)) f163.bs (abs e164)).came.length < (hand ok6 f6.bs (abs x6)).came.length
      rw [hfb167, hab169, hand_take, c239]; exact hand_lt _ _
    · skip
      rw [c239] at hh6
      have hcn := hn6 c239
      have hh6 := Half.none hh6
      have hfit := hh6.fits hcn
      have hcl6 := hh6.cl
      refine exitAny ?_
      refine thenExit ?_
      refine thenExit ?_
      refine blockHere ?_
      refine thenNormal ?_
      refine seqAny ?_
      refine seqAny ?_
      refine drawAny (K := [none, none, none, none, none, none, none, none, none, none]) [0, 1, 3, 7, 0, 16, 48, 112, 240, 511] (fun w' => Ext w130 w') (fun w' w'' => Ext w' w'') mixed (by kernel_rfl) (Ext.drew _) (fun _ _ h h' => h.trans h') ?_ ?_
      · exact relNone (by decide)
      refine ⟨i64 ((1 : Nat)), fun _ uw173 hC174 _ => Gives.run rfl (r_move (v := i64 ((1 : Nat))) rfl) ⟨rfl, Chg.refl _ _⟩, ?_⟩
      refine ⟨.pointer (some ⟨bC, 1, none⟩), fun _ uw175 hC176 _ => Gives.run rfl (r_indexA (off' := 1) (j := 1) arr40 (b := bC) (off := 0) rfl rfl (by first | rfl | omega | (simp; omega)) (by omega) (by omega)) ⟨rfl, Chg.refl _ _⟩, ?_⟩
      refine ⟨.slice (ownA cx.key) cx.l.length cx.c, fun _ uw177 hC178 _ => Gives.run rfl (r_loadC (v := .slice (ownA cx.key) cx.l.length cx.c) one39 ((HX.ext hC178).get (k := 3) rfl) (off := 1) rfl (by rfl)) ⟨rfl, Chg.refl _ _⟩, ?_⟩
      refine ⟨i64 ((cx.l.length : Nat)), fun _ uw179 hC180 _ => Gives.run rfl (r_lenS sli39 (a := ownA cx.key) (m := cx.l.length) (c := cx.c) rfl) ⟨rfl, Chg.refl _ _⟩, ?_⟩
      refine ⟨i64 ((1 : Nat)), fun _ uw181 hC182 _ => Gives.run rfl (r_move (v := i64 ((1 : Nat))) rfl) ⟨rfl, Chg.refl _ _⟩, ?_⟩
      refine ⟨i64 ((0 : Nat)), fun _ uw183 hC184 _ => Gives.run rfl ((r_subI (a := (1 : Int)) (b := (1 : Nat)) rfl rfl (by omega)).as (v' := i64 ((0 : Nat))) (by rfl)) ⟨rfl, Chg.refl _ _⟩, ?_⟩
      refine ⟨.pointer (some ⟨bS, 0, none⟩), fun _ uw185 hC186 _ => Gives.run rfl (r_indexA (off' := 0) (j := 0) arr40 (b := bS) (off := 0) rfl rfl (by first | rfl | omega | (simp; omega)) (by omega) (by omega)) ⟨rfl, Chg.refl _ _⟩, ?_⟩
      refine ⟨.slice (ownA sa5.key) sa5.l.length sa5.c, fun _ uw187 hC188 _ => Gives.run rfl (r_loadC (v := .slice (ownA sa5.key) sa5.l.length sa5.c) one39 ((HX.ext hC188).get (k := 2) rfl) (off := 0) rfl (by rfl)) ⟨rfl, Chg.refl _ _⟩, ?_⟩
      refine ⟨i64 ((sa5.l.length : Nat)), fun _ uw189 hC190 _ => Gives.run rfl (r_lenS sli39 (a := ownA sa5.key) (m := sa5.l.length) (c := sa5.c) rfl) ⟨rfl, Chg.refl _ _⟩, ?_⟩
      refine ⟨.bool (false), fun _ uw191 hC192 _ => Gives.run rfl ((r_gtrI (a := (cx.l.length : Nat)) (b := (sa5.l.length : Nat)) rfl rfl).as (v' := .bool (false)) (by exact congrArg Value.bool (decide_eq_false (by have := hfit.1; omega)))) ⟨rfl, Chg.refl _ _⟩, ?_⟩
      intro r196 w193 hE195 hF
      have H194 := HX.ext hE195
      refine wnil ?_
      refine thenNormal ?_
      refine condFalse rfl ?_
      refine skipAny ?_
      refine thenNormal ?_
      refine seqRegion ?_
      refine sq (r_move (v := i64 ((1 : Nat))) rfl) ?_
      refine sq (r_indexA (off' := 1) (j := 1) arr40 (b := bC) (off := 0) rfl rfl (by first | rfl | omega | (simp; omega)) (by omega) (by omega)) ?_
      refine sq (r_loadC (v := .slice (ownA cx.key) cx.l.length cx.c) one39 (H194.get (k := 3) rfl) (off := 1) rfl (by rfl)) ?_
      refine sq (r_lenS sli39 (a := ownA cx.key) (m := cx.l.length) (c := cx.c) rfl) ?_
      refine sq (r_move (v := i64 ((0 : Int))) rfl) ?_
      refine wend ?_
      refine blockAny ?_
      refine loopAny (σ := Nat) (fun q => [(0, .slice xa xl.length xc), (3, .pointer (some ⟨bE, 0, none⟩)), (4, .pointer (some ⟨bW, 0, none⟩)), (5, .pointer (some ⟨bS, 0, none⟩)), (6, .pointer (some ⟨bC, 0, none⟩)), (7, i64 ((z : Nat))), (19, i64 ((1 : Nat))), (229, i64 ((1 : Nat))), (269, i64 ((cx.l.length : Nat))), (270, i64 ((q : Nat)))]) (fun q w' => q ≤ cx.l.length ∧ Hp No w₀ w' ((some bE, .cells #[.pointer (some ⟨bA, 0, none⟩), .pointer (some ⟨bB, 0, none⟩)] 49 (0, 0)) :: (some bW, .cells #[.slice (ownA wa5.key) wa5.l.length wa5.c, .slice (ownA wb5.key) wb5.l.length wb5.c] 40 (0, 0)) :: (some bS, .cells #[.slice (ownA sa5.key) sa5.l.length sa5.c, .slice (ownA sb5.key) sb5.l.length sb5.c] 40 (0, 0)) :: (some bC, .cells #[.slice (ownA ca5.key) ca5.l.length ca5.c, .slice (ownA cx.key) cx.l.length cx.c] 40 (0, 0)) :: (wa5.key, sob ET 9 wa5.l wa5.sp) :: (wb5.key, sob ET 9 wb5.l wb5.sp) :: (sa5.key, sob ET 9 sa5.l sa5.sp) :: (sb5.key, sob ET 9 sb5.l sb5.sp) :: (ca5.key, sob ET 9 ca5.l ca5.sp) :: (cx.key, sob ET 9 cx.l cx.sp) :: (endR 30 53 89 bA u5 ++ (endR 30 53 89 bB x6 ++ G5)))) (fun q => cx.l.length - q) (0) ?_ ?_ ?_
      · exact ⟨rfl, rfl, rfl, rfl, rfl, rfl, rfl, rfl, rfl, rfl, trivial⟩
      · exact ⟨Nat.zero_le _, H194⟩
      rintro q ρ w197 ⟨hq, HJ⟩
      refine seqRegion ?_
      refine sq (r_lssI (a := (q : Nat)) (b := (cx.l.length : Nat)) rfl rfl) ?_
      refine wend ?_
      refine seqAny ?_
      refine condProp (((q : Nat) : Int) < (cx.l.length : Nat)) rfl (fun c271 => ?_) (fun c271 => ?_)
      · skip
        have hfq := hfit.1
        have hfe := hfit.2 q (by omega)
        refine skipAny ?_
        refine thenNormal ?_
        refine seqAny ?_
        refine blockAny ?_
        refine seqRegion ?_
        refine sq (r_move (v := i64 ((q : Nat))) rfl) ?_
        refine sq (r_assign (v := i64 ((q : Nat))) rfl) ?_
        refine wend ?_
        refine seqAny ?_
        refine drawAny (K := [none, none, none, none, none, none, none, none, none, none, none, none, none, none]) [0, 1, 3, 0, 15, 31, 0, 64, 192, 448, 0, 1984, 4032, 8191] (fun w' => Ext w197 w') (fun w' w'' => Ext w' w'') mixed (by kernel_rfl) (Ext.drew _) (fun _ _ h h' => h.trans h') ?_ ?_
        · exact relNone (by decide)
        refine ⟨i64 ((1 : Nat)), fun _ uw199 hC200 _ => Gives.run rfl (r_move (v := i64 ((1 : Nat))) rfl) ⟨rfl, Chg.refl _ _⟩, ?_⟩
        refine ⟨.pointer (some ⟨bC, 1, none⟩), fun _ uw201 hC202 _ => Gives.run rfl (r_indexA (off' := 1) (j := 1) arr40 (b := bC) (off := 0) rfl rfl (by first | rfl | omega | (simp; omega)) (by omega) (by omega)) ⟨rfl, Chg.refl _ _⟩, ?_⟩
        refine ⟨.slice (ownA cx.key) cx.l.length cx.c, fun _ uw203 hC204 _ => Gives.run rfl (r_loadC (v := .slice (ownA cx.key) cx.l.length cx.c) one39 ((HJ.ext hC204).get (k := 3) rfl) (off := 1) rfl (by rfl)) ⟨rfl, Chg.refl _ _⟩, ?_⟩
        refine ⟨i64 ((q : Nat)), fun _ uw205 hC206 _ => Gives.run rfl (r_move (v := i64 ((q : Nat))) rfl) ⟨rfl, Chg.refl _ _⟩, ?_⟩
        refine ⟨.pointer (adr (ownA cx.key) (q * 1)), fun _ uw207 hC208 _ => Gives.run rfl (r_idxS (E := ET) (l := cx.l) (j := q) sli39 ((HJ.ext hC208).rd (k := 9) rfl hcx) rfl rfl (by first | rfl | omega | (simp; omega)) (by rfl) (by omega)) ⟨rfl, Chg.refl _ _⟩, ?_⟩
        refine ⟨.string (strB ((cx.l).getD q [])), fun _ uw209 hC210 _ => Gives.run rfl (r_ldS (E := ET) (l := cx.l) (j := q) (v := (cx.l).getD q []) fits9 ((HJ.ext hC210).rd (k := 9) rfl hcx) rfl rfl (at_getD (by omega))) ⟨rfl, Chg.refl _ _⟩, ?_⟩
        refine ⟨i64 ((1 : Nat)), fun _ uw211 hC212 _ => Gives.run rfl (r_move (v := i64 ((1 : Nat))) rfl) ⟨rfl, Chg.refl _ _⟩, ?_⟩
        refine ⟨i64 ((0 : Nat)), fun _ uw213 hC214 _ => Gives.run rfl ((r_subI (a := (1 : Int)) (b := (1 : Nat)) rfl rfl (by omega)).as (v' := i64 ((0 : Nat))) (by rfl)) ⟨rfl, Chg.refl _ _⟩, ?_⟩
        refine ⟨.pointer (some ⟨bS, 0, none⟩), fun _ uw215 hC216 _ => Gives.run rfl (r_indexA (off' := 0) (j := 0) arr40 (b := bS) (off := 0) rfl rfl (by first | rfl | omega | (simp; omega)) (by omega) (by omega)) ⟨rfl, Chg.refl _ _⟩, ?_⟩
        refine ⟨.slice (ownA sa5.key) sa5.l.length sa5.c, fun _ uw217 hC218 _ => Gives.run rfl (r_loadC (v := .slice (ownA sa5.key) sa5.l.length sa5.c) one39 ((HJ.ext hC218).get (k := 2) rfl) (off := 0) rfl (by rfl)) ⟨rfl, Chg.refl _ _⟩, ?_⟩
        refine ⟨i64 ((q : Nat)), fun _ uw219 hC220 _ => Gives.run rfl (r_move (v := i64 ((q : Nat))) rfl) ⟨rfl, Chg.refl _ _⟩, ?_⟩
        refine ⟨.pointer (adr (ownA sa5.key) (q * 1)), fun _ uw221 hC222 _ => Gives.run rfl (r_idxS (E := ET) (l := sa5.l) (j := q) sli39 ((HJ.ext hC222).rd (k := 6) rfl hs5.t2) rfl rfl (by first | rfl | omega | (simp; omega)) (by rfl) (by omega)) ⟨rfl, Chg.refl _ _⟩, ?_⟩
        refine ⟨.string (strB ((sa5.l).getD q [])), fun _ uw223 hC224 _ => Gives.run rfl (r_ldS (E := ET) (l := sa5.l) (j := q) (v := (sa5.l).getD q []) fits9 ((HJ.ext hC224).rd (k := 6) rfl hs5.t2) rfl rfl (at_getD (by omega))) ⟨rfl, Chg.refl _ _⟩, ?_⟩
        refine ⟨.bool (false), fun _ uw225 hC226 _ => Gives.run rfl ((r_neqStr (s := strB ((cx.l).getD q [])) (s' := strB ((sa5.l).getD q [])) rfl rfl).as (v' := .bool (false)) (by rw [hfe]; simp)) ⟨rfl, Chg.refl _ _⟩, ?_⟩
        intro r230 w227 hE229 hF
        have H228 := HJ.ext hE229
        refine wnil ?_
        refine thenNormal ?_
        refine condFalse rfl ?_
        refine skipAny ?_
        refine blockNormal ?_
        refine thenNormal ?_
        refine oneRegion ?_
        refine sq (r_addI (a := (q : Nat)) (b := (1 : Int)) rfl rfl (by omega)) ?_
        refine sq (r_move (v := i64 ((q : Nat) + (1 : Int))) rfl) ?_
        refine wnil ?_
        refine thenNormal ?_
        exact ⟨q + 1, _, rfl, ⟨rfl, rfl, rfl, rfl, rfl, rfl, rfl, rfl, rfl, rfl, trivial⟩, ⟨by omega, H228⟩, by show cx.l.length - (q + 1) < cx.l.length - q; omega⟩
      · skip
        refine exitAny ?_
        refine thenExit ?_
        refine thenExit ?_
        refine blockHere ?_
        refine blockNormal ?_
        refine thenNormal ?_
        refine oneRegion ?_
        refine sq (r_addI (a := (1 : Nat)) (b := (1 : Int)) rfl rfl (by omega)) ?_
        refine sq (r_move (v := i64 ((1 : Nat) + (1 : Int))) rfl) ?_
        refine wnil ?_
        refine thenNormal ?_
        exact ⟨(1 + 1, u5, x6, G5, ⟨wa5.key, wa5.c, wa5.sp, wa5.l⟩, ⟨wb5.key, wb5.c, wb5.sp, wb5.l⟩, ⟨sa5.key, sa5.c, sa5.sp, sa5.l⟩, ⟨sb5.key, sb5.c, sb5.sp, sb5.l⟩, ⟨ca5.key, ca5.c, ca5.sp, ca5.l⟩, ⟨cx.key, cx.c, cx.sp, cx.l⟩), _, rfl, ⟨rfl, rfl, rfl, rfl, rfl, rfl, rfl, trivial⟩, ⟨⟨by omega, hu5, hx6, ⟨hs5.ha, hh6, hs5.t0, hs5.t1, hs5.t2, hs5.t3, hs5.t4, hcx⟩⟩, HJ⟩, by show 2 - (1 + 1) < 2 - 1; omega⟩
  · skip
    refine seqRegion ?_
    refine sq ((r_lssI (a := (2 : Nat)) (b := (2 : Int)) rfl rfl).as (v' := .bool (false)) (by rfl)) ?_
    refine wend ?_
    refine seqAny ?_
    refine condFalse rfl ?_
    refine exitAny ?_
    refine thenExit ?_
    refine thenExit ?_
    refine blockHere ?_
    exact hn (u5, v5, G5, wa5, wb5, sa5, sb5, ca5, cb5) _ _ ⟨rfl, rfl, rfl, rfl, rfl, rfl, trivial⟩ ⟨⟨hu5, hv5, hs5⟩, HL5⟩
end Go.Proofs.YtpmmhpgfbfehmaaDoor.Lk
