/- The walks of the nets. -/
import Derived.Test.YtpmmhpgfbfehmaaDoorNet13
namespace Go.Proofs.YtpmmhpgfbfehmaaDoor.Nt
open Go Go.Proofs.YtpmmhpgfbfehmaaDoor.Vc Go.Proofs.YtpmmhpgfbfehmaaDoor.Er
set_option linter.unusedVariables false

structure PS (w₀ : World) (b : Nat) (x0 x1 : Wy) (k0 k1 : Option Nat) (c0 c1 : Nat) (s0 s1 : List Value) (m0 m1 : List (List (BitVec 8))) (X : List (Option Nat × Obj)) (w : World) : Prop where
  ok0 : x0.ok
  ok1 : x1.ok
  sl0 : Sl ET k0 m0 c0 s0
  sl1 : Sl ET k1 m1 c1 s1
  e0 : bss x0.fs = m0
  e1 : bss x1.fs = m1
  l0 : m0.length ≤ 64
  l1 : m1.length ≤ 64
  z0 : ∀ q ∈ m0, q.length ≤ 140737488351232
  z1 : ∀ q ∈ m1, q.length ≤ 140737488351232
  hp : Hp No w₀ w ((some b, .cells (nv false x0 x1) 76 (0, 0)) :: (x0.key, sob ES 30 (svs x0.fs) x0.sp) :: (x1.key, sob ES 30 (svs x1.fs) x1.sp) :: (frs 5 x0.fs ++ (frs 5 x1.fs ++ ((k0, sob ET 9 m0 s0) :: (k1, sob ET 9 m1 s1) :: X))))
theorem swapR {M : Nat → Prop} {w₀ w : World} {p1 p2 p3 r0 r1 : Option Nat × Obj} {F G X : List (Option Nat × Obj)} (H : Hp M w₀ w (p1 :: p2 :: p3 :: (F ++ (G ++ r0 :: r1 :: X)))) : Hp M w₀ w (p1 :: p2 :: p3 :: (F ++ (G ++ r1 :: r0 :: X))) :=
  H.perm (((((List.Perm.swap r1 r0 X).append_left G).append_left F).cons p3).cons p2 |>.cons p1)
theorem PS.hp1 {w₀ : World} {b : Nat} {x0 x1 : Wy} {k0 k1 : Option Nat} {c0 c1 : Nat} {s0 s1 : List Value} {m0 m1 : List (List (BitVec 8))} {X : List (Option Nat × Obj)} {w : World} (h : PS w₀ b x0 x1 k0 k1 c0 c1 s0 s1 m0 m1 X w) : Hp No w₀ w ((some b, .cells (nv true x1 x0) 76 (0, 0)) :: (x1.key, sob ES 30 (svs x1.fs) x1.sp) :: (x0.key, sob ES 30 (svs x0.fs) x0.sp) :: (frs 5 x1.fs ++ (frs 5 x0.fs ++ ((k1, sob ET 9 m1 s1) :: (k0, sob ET 9 m0 s0) :: X)))) := swapR (Hp.swapWy h.hp)

theorem PS.lift0 {w₀ : World} {b : Nat} {x0 x1 : Wy} {k0 k1 : Option Nat} {c0 c1 : Nat} {s0 s1 : List Value} {m0 m1 : List (List (BitVec 8))} {X : List (Option Nat × Obj)} {w : World} (P : PS w₀ b x0 x1 k0 k1 c0 c1 s0 s1 m0 m1 X w) {f : FuncId} {vs : Array Value} (h : Calls Tryd.prog f vs w (Ret fun v w' => ∃ (a' : Wy) (ka' : Option Nat) (ca' : Nat) (spa' : List Value) (la' : List (List (BitVec 8))), v = .tuple #[.agg #[.slice (ownA ka') la'.length ca', .slice (ownA k1) m1.length c1], .bool true] ∧ a'.ok ∧ Sl ET ka' la' ca' spa' ∧ bss a'.fs = la' ∧ la'.length ≤ 64 ∧ (∀ q ∈ la', q.length ≤ 140737488351232) ∧ Hp No w₀ w' ((some b, .cells (nv false a' x1) 76 (0, 0)) :: (a'.key, sob ES 30 (svs a'.fs) a'.sp) :: (x1.key, sob ES 30 (svs x1.fs) x1.sp) :: (frs 5 a'.fs ++ (frs 5 x1.fs ++ ((ka', sob ET 9 la' spa') :: (k1, sob ET 9 m1 s1) :: X)))))) : Calls Tryd.prog f vs w (Ret fun v w' => ∃ (x0' x1' : Wy) (k0' k1' : Option Nat) (c0' c1' : Nat) (s0' s1' : List Value) (m0' m1' : List (List (BitVec 8))), v = .tuple #[.agg #[.slice (ownA k0') m0'.length c0', .slice (ownA k1') m1'.length c1'], .bool true] ∧ PS w₀ b x0' x1' k0' k1' c0' c1' s0' s1' m0' m1' X w') :=
  h.mono fun e w' ⟨v, he, a', ka', ca', spa', la', hv, h1, h2, h3, h4, h5, h6⟩ => ⟨v, he, a', x1, ka', k1, ca', c1, spa', s1, la', m1, hv, ⟨h1, P.ok1, h2, P.sl1, h3, P.e1, h4, P.l1, h5, P.z1, h6⟩⟩

theorem PS.lift1 {w₀ : World} {b : Nat} {x0 x1 : Wy} {k0 k1 : Option Nat} {c0 c1 : Nat} {s0 s1 : List Value} {m0 m1 : List (List (BitVec 8))} {X : List (Option Nat × Obj)} {w : World} (P : PS w₀ b x0 x1 k0 k1 c0 c1 s0 s1 m0 m1 X w) {f : FuncId} {vs : Array Value} (h : Calls Tryd.prog f vs w (Ret fun v w' => ∃ (a' : Wy) (ka' : Option Nat) (ca' : Nat) (spa' : List Value) (la' : List (List (BitVec 8))), v = .tuple #[.agg #[.slice (ownA k0) m0.length c0, .slice (ownA ka') la'.length ca'], .bool true] ∧ a'.ok ∧ Sl ET ka' la' ca' spa' ∧ bss a'.fs = la' ∧ la'.length ≤ 64 ∧ (∀ q ∈ la', q.length ≤ 140737488351232) ∧ Hp No w₀ w' ((some b, .cells (nv true a' x0) 76 (0, 0)) :: (a'.key, sob ES 30 (svs a'.fs) a'.sp) :: (x0.key, sob ES 30 (svs x0.fs) x0.sp) :: (frs 5 a'.fs ++ (frs 5 x0.fs ++ ((ka', sob ET 9 la' spa') :: (k0, sob ET 9 m0 s0) :: X)))))) : Calls Tryd.prog f vs w (Ret fun v w' => ∃ (x0' x1' : Wy) (k0' k1' : Option Nat) (c0' c1' : Nat) (s0' s1' : List Value) (m0' m1' : List (List (BitVec 8))), v = .tuple #[.agg #[.slice (ownA k0') m0'.length c0', .slice (ownA k1') m1'.length c1'], .bool true] ∧ PS w₀ b x0' x1' k0' k1' c0' c1' s0' s1' m0' m1' X w') :=
  h.mono fun e w' ⟨v, he, a', ka', ca', spa', la', hv, h1, h2, h3, h4, h5, h6⟩ => ⟨v, he, x0, a', k0, ka', c0, ca', s0, spa', m0, la', hv, ⟨P.ok0, h1, P.sl0, h2, P.e0, h3, P.l0, h4, P.z0, h5, swapR (Hp.swapWy h6)⟩⟩

theorem play_w0 (w₀ : World) (b : Nat) (x0 x1 : Wy) (k0 k1 : Option Nat) (c0 c1 : Nat) (s0 s1 : List Value) (m0 m1 : List (List (BitVec 8))) (X : List (Option Nat × Obj)) (w : World) (P : PS w₀ b x0 x1 k0 k1 c0 c1 s0 s1 m0 m1 X w) (fa : Option Addr) (fc : Nat) (bs : List (BitVec 8)) (hbl : bs.length ≤ 140737488351232) (kd i bit : Int) (hb64 : bit ≤ 9223372036854775807) (hG : Gl w₀) (hFr : Rd E8 w₀ fa bs) : Calls Tryd.prog 31 [.pointer (some ⟨b, 0, none⟩), .agg #[.slice (ownA k0) m0.length c0, .slice (ownA k1) m1.length c1], .agg #[i64 (kd), i64 ((0 : Int)), i64 (i), i64 (bit), .slice fa bs.length fc]].toArray w (Ret fun v w' => ∃ (x0' x1' : Wy) (k0' k1' : Option Nat) (c0' c1' : Nat) (s0' s1' : List Value) (m0' m1' : List (List (BitVec 8))), v = .tuple #[.agg #[.slice (ownA k0') m0'.length c0', .slice (ownA k1') m1'.length c1'], .bool true] ∧ PS w₀ b x0' x1' k0' k1' c0' c1' s0' s1' m0' m1' X w') := by
  by_cases q1 : kd = 1
  · subst q1
    by_cases h : m0.length < 64
    · exact P.lift0 (play_send_0 b x0 x1 P.ok0 P.ok1 k0 k1 c0 c1 s0 s1 m0 m1 P.sl0 P.sl1 P.e0 P.e1 P.l0 P.z0 X fa fc bs hbl i bit w₀ w hG hFr P.hp h)
    · exact P.lift0 (play_senderr_x b x0 x1 P.ok0 P.ok1 k0 k1 c0 c1 s0 s1 m0 m1 P.sl0 P.sl1 P.e0 P.e1 P.l0 P.z0 X fa fc bs hbl (0) i bit 5 (by decide) w₀ w hG hFr P.hp (fun fv R w1 H1 => send_full_0 b x0 x1 w1 fv (Chg.gl H1.chg (fun x => x) hG) (H1.get (k := 0) rfl) (by have h9 := congrArg List.length P.e0; rw [bss_len] at h9; omega)) (fun R w1 HR => rsend_full_0 m0 (ownA k0) (ownA k1) c0 m1.length c1 w1 bs (by omega)))
  by_cases q2 : kd = 2
  · subst q2
    by_cases hi : 0 ≤ i ∧ i < (m0.length : Int)
    · obtain ⟨j, rfl⟩ : ∃ j : Nat, i = (j : Int) := ⟨i.toNat, by omega⟩
      exact P.lift0 (play_del_0 b x0 x1 P.ok0 P.ok1 k0 k1 c0 c1 s0 s1 m0 m1 P.sl0 P.sl1 P.e0 P.e1 P.l0 P.z0 X fa fc bs hbl j (by omega) bit w₀ w hG hFr P.hp )
    · exact P.lift0 (play_delerr_x b x0 x1 P.ok0 P.ok1 k0 k1 c0 c1 s0 s1 m0 m1 P.sl0 P.sl1 P.e0 P.e1 P.l0 P.z0 X fa fc bs hbl (0) i bit 4 (by decide) w₀ w hG hFr P.hp (fun fv R w1 H1 => deliver_miss_0 b x0 x1 w1 i (Chg.gl H1.chg (fun x => x) hG) (H1.get (k := 0) rfl) (by have h9 := congrArg List.length P.e0; rw [bss_len] at h9; omega)) (fun R w1 HR => rdeliver_miss_0 m0 (ownA k0) (ownA k1) c0 m1.length c1 w1 i (by omega)))
  by_cases q3 : kd = 3
  · subst q3
    by_cases hi : 0 ≤ i ∧ i < (m0.length : Int)
    · obtain ⟨j, rfl⟩ : ∃ j : Nat, i = (j : Int) := ⟨i.toNat, by omega⟩
      exact P.lift0 (play_drop_0 b x0 x1 P.ok0 P.ok1 k0 k1 c0 c1 s0 s1 m0 m1 P.sl0 P.sl1 P.e0 P.e1 P.l0 P.z0 X fa fc bs hbl j (by omega) bit w₀ w hG hFr P.hp )
    · exact P.lift0 (play_droperr_x b x0 x1 P.ok0 P.ok1 k0 k1 c0 c1 s0 s1 m0 m1 P.sl0 P.sl1 P.e0 P.e1 P.l0 P.z0 X fa fc bs hbl (0) i bit 4 (by decide) w₀ w hG hFr P.hp (fun fv R w1 H1 => drop_miss_0 b x0 x1 w1 i (Chg.gl H1.chg (fun x => x) hG) (H1.get (k := 0) rfl) (by have h9 := congrArg List.length P.e0; rw [bss_len] at h9; omega)) (fun R w1 HR => rdeliver_miss_0 m0 (ownA k0) (ownA k1) c0 m1.length c1 w1 i (by omega)))
  by_cases q4 : kd = 4
  · subst q4
    by_cases hi : 0 ≤ i ∧ i < (m0.length : Int)
    · obtain ⟨j, rfl⟩ : ∃ j : Nat, i = (j : Int) := ⟨i.toNat, by omega⟩
      by_cases h : m0.length < 64
      · exact P.lift0 (play_copy_0 b x0 x1 P.ok0 P.ok1 k0 k1 c0 c1 s0 s1 m0 m1 P.sl0 P.sl1 P.e0 P.e1 P.l0 P.z0 X fa fc bs hbl j (by omega) bit w₀ w hG hFr P.hp h)
      · skip
        obtain ⟨f, hf, hfb⟩ := bss_at (F := x0.fs) (i := j) (b := m0.getD j []) (by rw [P.e0, List.getElem?_eq_getElem (show j < m0.length by omega)]; simp [show j < m0.length by omega])
        have hif := (List.getElem?_eq_some_iff.1 hf).1
        exact P.lift0 (play_copyerr_x b x0 x1 P.ok0 P.ok1 k0 k1 c0 c1 s0 s1 m0 m1 P.sl0 P.sl1 P.e0 P.e1 P.l0 P.z0 X fa fc bs hbl (0) j bit 5 (by decide) w₀ w hG hFr P.hp (fun fv R w1 H1 => copy_full_0 b x0 x1 w1 j hif f hf (Chg.gl H1.chg (fun x => x) hG) (H1.get (k := 0) rfl) (H1.rd (k := 1) rfl P.ok0.sl) (by have h9 := congrArg List.length P.e0; rw [bss_len] at h9; omega)) (fun R w1 HR => rcopy_full_0 m0 (ownA k0) (ownA k1) c0 m1.length c1 w1 j (by omega) (by omega) (HR.rd (k := 0) rfl P.sl0)))
    · exact P.lift0 (play_copyerr_x b x0 x1 P.ok0 P.ok1 k0 k1 c0 c1 s0 s1 m0 m1 P.sl0 P.sl1 P.e0 P.e1 P.l0 P.z0 X fa fc bs hbl (0) i bit 4 (by decide) w₀ w hG hFr P.hp (fun fv R w1 H1 => copy_miss_0 b x0 x1 w1 i (Chg.gl H1.chg (fun x => x) hG) (H1.get (k := 0) rfl) (by have h9 := congrArg List.length P.e0; rw [bss_len] at h9; omega)) (fun R w1 HR => rcopy_miss_0 m0 (ownA k0) (ownA k1) c0 m1.length c1 w1 i (by omega)))
  by_cases q5 : kd = 5
  · subst q5
    by_cases hi : 0 ≤ i ∧ i < (m0.length : Int)
    · obtain ⟨j, rfl⟩ : ∃ j : Nat, i = (j : Int) := ⟨i.toNat, by omega⟩
      by_cases hb : 0 ≤ bit ∧ bit / 8 < ((m0.getD j []).length : Int)
      · obtain ⟨c, rfl⟩ : ∃ c : Nat, bit = (c : Int) := ⟨bit.toNat, by omega⟩
        exact P.lift0 (play_flip_0 b x0 x1 P.ok0 P.ok1 k0 k1 c0 c1 s0 s1 m0 m1 P.sl0 P.sl1 P.e0 P.e1 P.l0 P.z0 X fa fc bs hbl j (by omega) c (by omega) w₀ w hG hFr P.hp )
      · skip
        obtain ⟨f, hf, hfb⟩ := bss_at (F := x0.fs) (i := j) (b := m0.getD j []) (by rw [P.e0, List.getElem?_eq_getElem (show j < m0.length by omega)]; simp [show j < m0.length by omega])
        have hif := (List.getElem?_eq_some_iff.1 hf).1
        exact P.lift0 (play_fliperr_x b x0 x1 P.ok0 P.ok1 k0 k1 c0 c1 s0 s1 m0 m1 P.sl0 P.sl1 P.e0 P.e1 P.l0 P.z0 X fa fc bs hbl (0) j bit 1 (by decide) w₀ w hG hFr P.hp (fun fv R w1 H1 => flip_bit_0 b x0 x1 w1 j hif f hf bit hb64 (Chg.gl H1.chg (fun x => x) hG) (H1.get (k := 0) rfl) (H1.rd (k := 1) rfl P.ok0.sl) (by rw [hfb]; omega)) (fun R w1 HR => rflip_bit_0 m0 (ownA k0) (ownA k1) c0 m1.length c1 w1 j (by omega) bit hb64 (by omega) (HR.rd (k := 0) rfl P.sl0)))
    · exact P.lift0 (play_fliperr_x b x0 x1 P.ok0 P.ok1 k0 k1 c0 c1 s0 s1 m0 m1 P.sl0 P.sl1 P.e0 P.e1 P.l0 P.z0 X fa fc bs hbl (0) i bit 4 (by decide) w₀ w hG hFr P.hp (fun fv R w1 H1 => flip_miss_0 b x0 x1 w1 i bit (Chg.gl H1.chg (fun x => x) hG) (H1.get (k := 0) rfl) (by have h9 := congrArg List.length P.e0; rw [bss_len] at h9; omega)) (fun R w1 HR => rflip_miss_0 m0 (ownA k0) (ownA k1) c0 m1.length c1 w1 i bit (by omega)))
  by_cases hi : 0 ≤ i ∧ i < (m0.length : Int)
  · obtain ⟨j, rfl⟩ : ∃ j : Nat, i = (j : Int) := ⟨i.toNat, by omega⟩
    exact P.lift0 (play_at_0 b x0 x1 P.ok0 P.ok1 k0 k1 c0 c1 s0 s1 m0 m1 P.sl0 P.sl1 P.e0 P.e1 P.l0 P.z0 X fa fc bs hbl kd q1 q2 q3 q4 q5 j (by omega) bit w₀ w hG hFr P.hp )
  · exact P.lift0 (play_aterr_x b x0 x1 P.ok0 P.ok1 k0 k1 c0 c1 s0 s1 m0 m1 P.sl0 P.sl1 P.e0 P.e1 P.l0 P.z0 X fa fc bs hbl kd q1 q2 q3 q4 q5 (0) i bit 4 (by decide) w₀ w hG hFr P.hp (fun fv R w1 H1 => at_miss_0 b x0 x1 w1 i (Chg.gl H1.chg (fun x => x) hG) (H1.get (k := 0) rfl) (by have h9 := congrArg List.length P.e0; rw [bss_len] at h9; omega)) (fun R w1 HR => rat_miss_0 m0 (ownA k0) (ownA k1) c0 m1.length c1 w1 i (by omega)))

theorem play_w1 (w₀ : World) (b : Nat) (x0 x1 : Wy) (k0 k1 : Option Nat) (c0 c1 : Nat) (s0 s1 : List Value) (m0 m1 : List (List (BitVec 8))) (X : List (Option Nat × Obj)) (w : World) (P : PS w₀ b x0 x1 k0 k1 c0 c1 s0 s1 m0 m1 X w) (fa : Option Addr) (fc : Nat) (bs : List (BitVec 8)) (hbl : bs.length ≤ 140737488351232) (kd i bit : Int) (hb64 : bit ≤ 9223372036854775807) (hG : Gl w₀) (hFr : Rd E8 w₀ fa bs) : Calls Tryd.prog 31 [.pointer (some ⟨b, 0, none⟩), .agg #[.slice (ownA k0) m0.length c0, .slice (ownA k1) m1.length c1], .agg #[i64 (kd), i64 ((1 : Int)), i64 (i), i64 (bit), .slice fa bs.length fc]].toArray w (Ret fun v w' => ∃ (x0' x1' : Wy) (k0' k1' : Option Nat) (c0' c1' : Nat) (s0' s1' : List Value) (m0' m1' : List (List (BitVec 8))), v = .tuple #[.agg #[.slice (ownA k0') m0'.length c0', .slice (ownA k1') m1'.length c1'], .bool true] ∧ PS w₀ b x0' x1' k0' k1' c0' c1' s0' s1' m0' m1' X w') := by
  by_cases q1 : kd = 1
  · subst q1
    by_cases h : m1.length < 64
    · exact P.lift1 (play_send_1 b x1 x0 P.ok1 P.ok0 k1 k0 c1 c0 s1 s0 m1 m0 P.sl1 P.sl0 P.e1 P.e0 P.l1 P.z1 X fa fc bs hbl i bit w₀ w hG hFr P.hp1 h)
    · exact P.lift0 (play_senderr_x b x0 x1 P.ok0 P.ok1 k0 k1 c0 c1 s0 s1 m0 m1 P.sl0 P.sl1 P.e0 P.e1 P.l0 P.z0 X fa fc bs hbl (1) i bit 5 (by decide) w₀ w hG hFr P.hp (fun fv R w1 H1 => send_full_1 b x1 x0 w1 fv (Chg.gl H1.chg (fun x => x) hG) (H1.get (k := 0) rfl) (by have h9 := congrArg List.length P.e1; rw [bss_len] at h9; omega)) (fun R w1 HR => rsend_full_1 m1 (ownA k1) (ownA k0) c1 m0.length c0 w1 bs (by omega)))
  by_cases q2 : kd = 2
  · subst q2
    by_cases hi : 0 ≤ i ∧ i < (m1.length : Int)
    · obtain ⟨j, rfl⟩ : ∃ j : Nat, i = (j : Int) := ⟨i.toNat, by omega⟩
      exact P.lift1 (play_del_1 b x1 x0 P.ok1 P.ok0 k1 k0 c1 c0 s1 s0 m1 m0 P.sl1 P.sl0 P.e1 P.e0 P.l1 P.z1 X fa fc bs hbl j (by omega) bit w₀ w hG hFr P.hp1 )
    · exact P.lift0 (play_delerr_x b x0 x1 P.ok0 P.ok1 k0 k1 c0 c1 s0 s1 m0 m1 P.sl0 P.sl1 P.e0 P.e1 P.l0 P.z0 X fa fc bs hbl (1) i bit 4 (by decide) w₀ w hG hFr P.hp (fun fv R w1 H1 => deliver_miss_1 b x1 x0 w1 i (Chg.gl H1.chg (fun x => x) hG) (H1.get (k := 0) rfl) (by have h9 := congrArg List.length P.e1; rw [bss_len] at h9; omega)) (fun R w1 HR => rdeliver_miss_1 m1 (ownA k1) (ownA k0) c1 m0.length c0 w1 i (by omega)))
  by_cases q3 : kd = 3
  · subst q3
    by_cases hi : 0 ≤ i ∧ i < (m1.length : Int)
    · obtain ⟨j, rfl⟩ : ∃ j : Nat, i = (j : Int) := ⟨i.toNat, by omega⟩
      exact P.lift1 (play_drop_1 b x1 x0 P.ok1 P.ok0 k1 k0 c1 c0 s1 s0 m1 m0 P.sl1 P.sl0 P.e1 P.e0 P.l1 P.z1 X fa fc bs hbl j (by omega) bit w₀ w hG hFr P.hp1 )
    · exact P.lift0 (play_droperr_x b x0 x1 P.ok0 P.ok1 k0 k1 c0 c1 s0 s1 m0 m1 P.sl0 P.sl1 P.e0 P.e1 P.l0 P.z0 X fa fc bs hbl (1) i bit 4 (by decide) w₀ w hG hFr P.hp (fun fv R w1 H1 => drop_miss_1 b x1 x0 w1 i (Chg.gl H1.chg (fun x => x) hG) (H1.get (k := 0) rfl) (by have h9 := congrArg List.length P.e1; rw [bss_len] at h9; omega)) (fun R w1 HR => rdeliver_miss_1 m1 (ownA k1) (ownA k0) c1 m0.length c0 w1 i (by omega)))
  by_cases q4 : kd = 4
  · subst q4
    by_cases hi : 0 ≤ i ∧ i < (m1.length : Int)
    · obtain ⟨j, rfl⟩ : ∃ j : Nat, i = (j : Int) := ⟨i.toNat, by omega⟩
      by_cases h : m1.length < 64
      · exact P.lift1 (play_copy_1 b x1 x0 P.ok1 P.ok0 k1 k0 c1 c0 s1 s0 m1 m0 P.sl1 P.sl0 P.e1 P.e0 P.l1 P.z1 X fa fc bs hbl j (by omega) bit w₀ w hG hFr P.hp1 h)
      · skip
        obtain ⟨f, hf, hfb⟩ := bss_at (F := x1.fs) (i := j) (b := m1.getD j []) (by rw [P.e1, List.getElem?_eq_getElem (show j < m1.length by omega)]; simp [show j < m1.length by omega])
        have hif := (List.getElem?_eq_some_iff.1 hf).1
        exact P.lift0 (play_copyerr_x b x0 x1 P.ok0 P.ok1 k0 k1 c0 c1 s0 s1 m0 m1 P.sl0 P.sl1 P.e0 P.e1 P.l0 P.z0 X fa fc bs hbl (1) j bit 5 (by decide) w₀ w hG hFr P.hp (fun fv R w1 H1 => copy_full_1 b x1 x0 w1 j hif f hf (Chg.gl H1.chg (fun x => x) hG) (H1.get (k := 0) rfl) (H1.rd (k := 2) rfl P.ok1.sl) (by have h9 := congrArg List.length P.e1; rw [bss_len] at h9; omega)) (fun R w1 HR => rcopy_full_1 m1 (ownA k1) (ownA k0) c1 m0.length c0 w1 j (by omega) (by omega) (HR.rd (k := 1) rfl P.sl1)))
    · exact P.lift0 (play_copyerr_x b x0 x1 P.ok0 P.ok1 k0 k1 c0 c1 s0 s1 m0 m1 P.sl0 P.sl1 P.e0 P.e1 P.l0 P.z0 X fa fc bs hbl (1) i bit 4 (by decide) w₀ w hG hFr P.hp (fun fv R w1 H1 => copy_miss_1 b x1 x0 w1 i (Chg.gl H1.chg (fun x => x) hG) (H1.get (k := 0) rfl) (by have h9 := congrArg List.length P.e1; rw [bss_len] at h9; omega)) (fun R w1 HR => rcopy_miss_1 m1 (ownA k1) (ownA k0) c1 m0.length c0 w1 i (by omega)))
  by_cases q5 : kd = 5
  · subst q5
    by_cases hi : 0 ≤ i ∧ i < (m1.length : Int)
    · obtain ⟨j, rfl⟩ : ∃ j : Nat, i = (j : Int) := ⟨i.toNat, by omega⟩
      by_cases hb : 0 ≤ bit ∧ bit / 8 < ((m1.getD j []).length : Int)
      · obtain ⟨c, rfl⟩ : ∃ c : Nat, bit = (c : Int) := ⟨bit.toNat, by omega⟩
        exact P.lift1 (play_flip_1 b x1 x0 P.ok1 P.ok0 k1 k0 c1 c0 s1 s0 m1 m0 P.sl1 P.sl0 P.e1 P.e0 P.l1 P.z1 X fa fc bs hbl j (by omega) c (by omega) w₀ w hG hFr P.hp1 )
      · skip
        obtain ⟨f, hf, hfb⟩ := bss_at (F := x1.fs) (i := j) (b := m1.getD j []) (by rw [P.e1, List.getElem?_eq_getElem (show j < m1.length by omega)]; simp [show j < m1.length by omega])
        have hif := (List.getElem?_eq_some_iff.1 hf).1
        exact P.lift0 (play_fliperr_x b x0 x1 P.ok0 P.ok1 k0 k1 c0 c1 s0 s1 m0 m1 P.sl0 P.sl1 P.e0 P.e1 P.l0 P.z0 X fa fc bs hbl (1) j bit 1 (by decide) w₀ w hG hFr P.hp (fun fv R w1 H1 => flip_bit_1 b x1 x0 w1 j hif f hf bit hb64 (Chg.gl H1.chg (fun x => x) hG) (H1.get (k := 0) rfl) (H1.rd (k := 2) rfl P.ok1.sl) (by rw [hfb]; omega)) (fun R w1 HR => rflip_bit_1 m1 (ownA k1) (ownA k0) c1 m0.length c0 w1 j (by omega) bit hb64 (by omega) (HR.rd (k := 1) rfl P.sl1)))
    · exact P.lift0 (play_fliperr_x b x0 x1 P.ok0 P.ok1 k0 k1 c0 c1 s0 s1 m0 m1 P.sl0 P.sl1 P.e0 P.e1 P.l0 P.z0 X fa fc bs hbl (1) i bit 4 (by decide) w₀ w hG hFr P.hp (fun fv R w1 H1 => flip_miss_1 b x1 x0 w1 i bit (Chg.gl H1.chg (fun x => x) hG) (H1.get (k := 0) rfl) (by have h9 := congrArg List.length P.e1; rw [bss_len] at h9; omega)) (fun R w1 HR => rflip_miss_1 m1 (ownA k1) (ownA k0) c1 m0.length c0 w1 i bit (by omega)))
  by_cases hi : 0 ≤ i ∧ i < (m1.length : Int)
  · obtain ⟨j, rfl⟩ : ∃ j : Nat, i = (j : Int) := ⟨i.toNat, by omega⟩
    exact P.lift1 (play_at_1 b x1 x0 P.ok1 P.ok0 k1 k0 c1 c0 s1 s0 m1 m0 P.sl1 P.sl0 P.e1 P.e0 P.l1 P.z1 X fa fc bs hbl kd q1 q2 q3 q4 q5 j (by omega) bit w₀ w hG hFr P.hp1 )
  · exact P.lift0 (play_aterr_x b x0 x1 P.ok0 P.ok1 k0 k1 c0 c1 s0 s1 m0 m1 P.sl0 P.sl1 P.e0 P.e1 P.l0 P.z0 X fa fc bs hbl kd q1 q2 q3 q4 q5 (1) i bit 4 (by decide) w₀ w hG hFr P.hp (fun fv R w1 H1 => at_miss_1 b x1 x0 w1 i (Chg.gl H1.chg (fun x => x) hG) (H1.get (k := 0) rfl) (by have h9 := congrArg List.length P.e1; rw [bss_len] at h9; omega)) (fun R w1 HR => rat_miss_1 m1 (ownA k1) (ownA k0) c1 m0.length c0 w1 i (by omega)))

theorem play_any (w₀ : World) (b : Nat) (x0 x1 : Wy) (k0 k1 : Option Nat) (c0 c1 : Nat) (s0 s1 : List Value) (m0 m1 : List (List (BitVec 8))) (X : List (Option Nat × Obj)) (w : World) (P : PS w₀ b x0 x1 k0 k1 c0 c1 s0 s1 m0 m1 X w) (fa : Option Addr) (fc : Nat) (bs : List (BitVec 8)) (hbl : bs.length ≤ 140737488351232) (kd way i bit : Int) (hb64 : bit ≤ 9223372036854775807) (hG : Gl w₀) (hFr : Rd E8 w₀ fa bs) : Calls Tryd.prog 31 [.pointer (some ⟨b, 0, none⟩), .agg #[.slice (ownA k0) m0.length c0, .slice (ownA k1) m1.length c1], .agg #[i64 (kd), i64 (way), i64 (i), i64 (bit), .slice fa bs.length fc]].toArray w (Ret fun v w' => ∃ (x0' x1' : Wy) (k0' k1' : Option Nat) (c0' c1' : Nat) (s0' s1' : List Value) (m0' m1' : List (List (BitVec 8))), v = .tuple #[.agg #[.slice (ownA k0') m0'.length c0', .slice (ownA k1') m1'.length c1'], .bool true] ∧ PS w₀ b x0' x1' k0' k1' c0' c1' s0' s1' m0' m1' X w') := by
  by_cases h0 : way = 0
  · subst h0; exact play_w0 w₀ b x0 x1 k0 k1 c0 c1 s0 s1 m0 m1 X w P fa fc bs hbl kd i bit hb64 hG hFr
  by_cases h1 : way = 1
  · subst h1; exact play_w1 w₀ b x0 x1 k0 k1 c0 c1 s0 s1 m0 m1 X w P fa fc bs hbl kd i bit hb64 hG hFr
  by_cases q1 : kd = 1
  · subst q1
    exact P.lift0 (play_senderr_x b x0 x1 P.ok0 P.ok1 k0 k1 c0 c1 s0 s1 m0 m1 P.sl0 P.sl1 P.e0 P.e1 P.l0 P.z0 X fa fc bs hbl (way) i bit 1 (by decide) w₀ w hG hFr P.hp (fun fv R w1 H1 => send_range b way h0 h1 fv w1 (Chg.gl H1.chg (fun x => x) hG)) (fun R w1 HR => rsend_range (ownA k0) (ownA k1) m0.length c0 m1.length c1 w1 way h0 h1 bs))
  by_cases q2 : kd = 2
  · subst q2
    exact P.lift0 (play_delerr_x b x0 x1 P.ok0 P.ok1 k0 k1 c0 c1 s0 s1 m0 m1 P.sl0 P.sl1 P.e0 P.e1 P.l0 P.z0 X fa fc bs hbl (way) i bit 1 (by decide) w₀ w hG hFr P.hp (fun fv R w1 H1 => deliver_range b way h0 h1 i w1 (Chg.gl H1.chg (fun x => x) hG)) (fun R w1 HR => rdeliver_range (ownA k0) (ownA k1) m0.length c0 m1.length c1 w1 way h0 h1 i))
  by_cases q3 : kd = 3
  · subst q3
    exact P.lift0 (play_droperr_x b x0 x1 P.ok0 P.ok1 k0 k1 c0 c1 s0 s1 m0 m1 P.sl0 P.sl1 P.e0 P.e1 P.l0 P.z0 X fa fc bs hbl (way) i bit 1 (by decide) w₀ w hG hFr P.hp (fun fv R w1 H1 => drop_range b way h0 h1 i w1 (Chg.gl H1.chg (fun x => x) hG)) (fun R w1 HR => rdeliver_range (ownA k0) (ownA k1) m0.length c0 m1.length c1 w1 way h0 h1 i))
  by_cases q4 : kd = 4
  · subst q4
    exact P.lift0 (play_copyerr_x b x0 x1 P.ok0 P.ok1 k0 k1 c0 c1 s0 s1 m0 m1 P.sl0 P.sl1 P.e0 P.e1 P.l0 P.z0 X fa fc bs hbl (way) i bit 1 (by decide) w₀ w hG hFr P.hp (fun fv R w1 H1 => copy_range b way h0 h1 i w1 (Chg.gl H1.chg (fun x => x) hG)) (fun R w1 HR => rcopy_range (ownA k0) (ownA k1) m0.length c0 m1.length c1 w1 way h0 h1 i))
  by_cases q5 : kd = 5
  · subst q5
    exact P.lift0 (play_fliperr_x b x0 x1 P.ok0 P.ok1 k0 k1 c0 c1 s0 s1 m0 m1 P.sl0 P.sl1 P.e0 P.e1 P.l0 P.z0 X fa fc bs hbl (way) i bit 1 (by decide) w₀ w hG hFr P.hp (fun fv R w1 H1 => flip_range b way h0 h1 i bit w1 (Chg.gl H1.chg (fun x => x) hG)) (fun R w1 HR => rflip_range (ownA k0) (ownA k1) m0.length c0 m1.length c1 w1 way h0 h1 i bit))
  exact P.lift0 (play_aterr_x b x0 x1 P.ok0 P.ok1 k0 k1 c0 c1 s0 s1 m0 m1 P.sl0 P.sl1 P.e0 P.e1 P.l0 P.z0 X fa fc bs hbl kd q1 q2 q3 q4 q5 (way) i bit 1 (by decide) w₀ w hG hFr P.hp (fun fv R w1 H1 => at_range b way h0 h1 i w1 (Chg.gl H1.chg (fun x => x) hG)) (fun R w1 HR => rat_range (ownA k0) (ownA k1) m0.length c0 m1.length c1 w1 way h0 h1 i))
end Go.Proofs.YtpmmhpgfbfehmaaDoor.Nt
