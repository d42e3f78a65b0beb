/- A link's end: what it holds, in plain Lean; its rows in memory. -/
import Derived.Test.YtpmmhpgfbfehmaaDoorLinkSpec
namespace Go.Proofs.YtpmmhpgfbfehmaaDoor.Lk
open Go Go.Proofs.YtpmmhpgfbfehmaaDoor.Vc

/-- what an end is, in plain words -/
structure St where
  queue : List (List (BitVec 8))
  number : BitVec 32
  sends : Nat
  since : Nat
  want : BitVec 32
  came : List (List (BitVec 8))
  owed : List (BitVec 32)
  dead : Bool
def st0 : St := ⟨[], 0#32, 0, 0, 0#32, [], [], false⟩
def sendS (s : St) (p : List (BitVec 8)) : St := { s with queue := s.queue ++ [p] }
def acks (l : List (BitVec 32)) : List (List (BitVec 8)) := l.map fun n => sealF 1#8 n []
def stepS (s : St) : St × List (List (BitVec 8)) :=
  if s.dead = true ∨ s.queue.length = 0 ∨ (0 < s.sends ∧ s.since + 1 < 4) then ({ s with owed := [], since := s.since + 1 }, acks s.owed)
  else if s.sends = 8 then ({ s with owed := [], since := s.since + 1, dead := true }, acks s.owed)
  else ({ s with owed := [], since := 0, sends := s.sends + 1 }, acks s.owed ++ [sealF 0#8 s.number (s.queue.getD 0 [])])
def hearS (s : St) (fb : List (BitVec 8)) : St × Bool :=
  match opn fb with
  | none => (s, false)
  | some (k, n, p) =>
    if k = 0#8 ∧ n = s.want then ({ s with came := s.came ++ [p], want := s.want + 1#32, owed := s.owed ++ [n] }, true)
    else if k = 0#8 ∧ n.toNat < s.want.toNat then ({ s with owed := s.owed ++ [n] }, true)
    else if k = 1#8 ∧ n = s.number ∧ 0 < s.sends ∧ 0 < s.queue.length then ({ s with queue := s.queue.drop 1, number := s.number + 1#32, sends := 0, since := 0 }, true)
    else (s, true)

/-- a row that is cut at its front -/
structure Cw where
  key : Option Nat
  a : Option Addr
  pre : List Value
  c : Nat
  sp : List Value
  fs : List Fr
structure Cw.ok (x : Cw) : Prop where
  sl : SlP ES x.key x.a x.pre (svs x.fs) x.c x.sp
  each : ∀ f ∈ x.fs, f.ok
def Cw.row (TS : TypeId) (x : Cw) : Option Nat × Obj := (x.key, sobP ES TS x.pre (svs x.fs) x.sp)
def cw0 : Cw := ⟨none, none, [], 0, [], []⟩
theorem cw0_ok : cw0.ok := ⟨SlP.nil, fun _ h => by cases h⟩
structure Ow where
  key : Option Nat
  c : Nat
  sp : List Value
  l : List (BitVec 32)
def Ow.row (T : TypeId) (x : Ow) : Option Nat × Obj := (x.key, sob E32 T x.l x.sp)
def ow0 : Ow := ⟨none, 0, [], []⟩
structure En where
  q : Cw
  number : BitVec 32
  sends : Nat
  since : Nat
  want : BitVec 32
  cm : Cw
  o : Ow
  err : Value
def en0 : En := ⟨cw0, 0#32, 0, 0, 0#32, cw0, ow0, .nilIface⟩
def En.ob (TE : TypeId) (e : En) : Obj :=
  .cells #[.slice e.q.a e.q.fs.length e.q.c, u32 e.number, i64 (e.sends : Nat), i64 (e.since : Nat), u32 e.want, .slice e.cm.a e.cm.fs.length e.cm.c, .slice (ownA e.o.key) e.o.l.length e.o.c, e.err] TE (0, 0)
def isDead : Value → Bool
  | .nilIface => false
  | _ => true
def abs (e : En) : St := ⟨bss e.q.fs, e.number, e.sends, e.since, e.want, bss e.cm.fs, e.o.l, isDead e.err⟩
structure En.ok (T : TypeId) (e : En) (F : List (Option Nat × Obj)) : Prop where
  q : e.q.ok
  cm : e.cm.ok
  o : Sl E32 e.o.key e.o.l e.o.c e.o.sp
  qm : ∀ f ∈ e.q.fs, f.row T ∈ F
  cmm : ∀ f ∈ e.cm.fs, f.row T ∈ F
  small : ∀ f ∈ e.q.fs, f.bs.length ≤ 1048576
  er : e.err = .nilIface ∨ ∃ T x, e.err = .iface T x
theorem En.ok.live {T : TypeId} {e : En} {F : List (Option Nat × Obj)} (h : e.ok T F) (hd : isDead e.err = false) : e.err = .nilIface := by
  rcases h.er with h | ⟨T, x, h⟩
  · exact h
  · rw [h] at hd; cases hd
theorem En.ok.gone {T : TypeId} {e : En} {F : List (Option Nat × Obj)} (h : e.ok T F) (hd : isDead e.err = true) : ∃ T x, e.err = .iface T x := by
  rcases h.er with h | h
  · rw [h] at hd; cases hd
  · exact h
theorem En.ok.mono {T : TypeId} {e : En} {F F' : List (Option Nat × Obj)} (h : e.ok T F) (hs : ∀ x ∈ F, x ∈ F') : e.ok T F' := ⟨h.q, h.cm, h.o, fun f hf => hs _ (h.qm f hf), fun f hf => hs _ (h.cmm f hf), h.small, h.er⟩
theorem en0_ok (T : TypeId) : en0.ok T [] := ⟨cw0_ok, cw0_ok, Sl.none, fun _ h => (by cases h), fun _ h => (by cases h), fun _ h => (by cases h), .inl rfl⟩
/-- its rows -/
def endR (TS T32 TE : TypeId) (b : Nat) (e : En) : List (Option Nat × Obj) := [(some b, e.ob TE), e.q.row TS, e.cm.row TS, e.o.row T32]
end Go.Proofs.YtpmmhpgfbfehmaaDoor.Lk
namespace Go.Proofs.YtpmmhpgfbfehmaaDoor.Vc
open Go
section
variable {M : Nat → Prop} {w₀ w : World} {p0 p1 p2 p3 p4 : Option Nat × Obj} {R : List (Option Nat × Obj)} {T : TypeId}
theorem Hp.sink4 (H : Hp M w₀ w (p0 :: p1 :: p2 :: p3 :: p4 :: R)) : Hp M w₀ w (p1 :: p2 :: p3 :: p4 :: p0 :: R) := Hp.sink (A := [p1, p2, p3, p4]) H
/-- a frame goes into the family that lies behind -/
theorem Hp.intoFs5 {F : List Fr} {f : Fr} (H : Hp M w₀ w (f.row T :: p0 :: p1 :: p2 :: p3 :: p4 :: (frs T F ++ R))) : Hp M w₀ w (p0 :: p1 :: p2 :: p3 :: p4 :: (frs T (F ++ [f]) ++ R)) := by
  have h : Hp M w₀ w ((p0 :: p1 :: p2 :: p3 :: p4 :: frs T F) ++ f.row T :: R) := Hp.sink H
  rw [← frs_snoc]; exact h
/-- the last one of the four is given up -/
theorem Hp.newO (H : Hp M w₀ w (p1 :: p2 :: p3 :: p4 :: R)) (o : Obj) : Hp M w₀ w (p1 :: p2 :: p3 :: (none, o) :: R) :=
  Hp.sink (A := [p1, p2, p3]) ((H.dropk 3).nil o)
/-- what lies in the middle comes to the front -/
theorem perm_mid {α : Type} (X A Y : List α) : (X ++ (A ++ Y)).Perm (A ++ (X ++ Y)) := by
  rw [← List.append_assoc, ← List.append_assoc]; exact List.perm_append_comm.append_right Y
theorem Hp.mid {X A Y : List (Option Nat × Obj)} (H : Hp M w₀ w (X ++ (A ++ Y))) : Hp M w₀ w (A ++ (X ++ Y)) := H.perm (perm_mid X A Y)
/-- two ends, what lies ahead of them, what lies behind -/
theorem Hp.backA {R A B X F : List (Option Nat × Obj)} (H : Hp M w₀ w (A ++ (X ++ (R ++ (B ++ F))))) : Hp M w₀ w (R ++ (A ++ (B ++ (X ++ F)))) := by
  refine H.perm ?_
  have h1 : (A ++ (X ++ (R ++ (B ++ F)))).Perm (A ++ (R ++ (B ++ (X ++ F)))) := by
    refine List.Perm.append_left A ?_
    have h2 : (X ++ (R ++ (B ++ F))).Perm ((R ++ B) ++ (X ++ F)) := by
      rw [← List.append_assoc R B F]; exact perm_mid X (R ++ B) F
    rwa [List.append_assoc] at h2
  exact h1.trans (perm_mid A R _)
theorem Hp.midB {R A B F : List (Option Nat × Obj)} (H : Hp M w₀ w (R ++ (A ++ (B ++ F)))) : Hp M w₀ w (B ++ (R ++ (A ++ F))) := by
  refine H.perm ?_
  have h := perm_mid (R ++ A) B F
  simpa [List.append_assoc] using h
theorem Hp.backB {R A B X F : List (Option Nat × Obj)} (H : Hp M w₀ w (B ++ (X ++ (R ++ (A ++ F))))) : Hp M w₀ w (R ++ (A ++ (B ++ (X ++ F)))) := by
  refine H.perm ?_
  have h1 : (B ++ (X ++ (R ++ (A ++ F)))).Perm (B ++ (R ++ (A ++ (X ++ F)))) := by
    refine List.Perm.append_left B ?_
    have h2 := perm_mid X (R ++ A) F
    simpa [List.append_assoc] using h2
  have h3 := perm_mid B (R ++ A) (X ++ F)
  simp only [List.append_assoc] at h3
  exact h1.trans h3
end
end Go.Proofs.YtpmmhpgfbfehmaaDoor.Vc
namespace Go.Proofs.YtpmmhpgfbfehmaaDoor.Lk
open Go Go.Proofs.YtpmmhpgfbfehmaaDoor.Vc
/-! ### what becomes of it -/
def Cw.cut (x : Cw) : Cw := ⟨x.key, if x.c = 1 then x.a else adr x.a (1 * 1), x.pre ++ cel ES (svs (x.fs.take 1)), x.c - 1, x.sp, x.fs.drop 1⟩
theorem Cw.cut_ok {x : Cw} (h : x.ok) (hl : 0 < x.fs.length) : x.cut.ok := by
  obtain ⟨f, r, hf⟩ : ∃ f r, x.fs = f :: r := by
    cases hx : x.fs with
    | nil => rw [hx] at hl; simp at hl
    | cons f r => exact ⟨f, r, rfl⟩
  have h1 := h.sl
  rw [hf] at h1
  refine ⟨?_, fun g hg => h.each g (List.mem_of_mem_drop hg)⟩
  have h2 := SlP.cut1 (E := ES) (x := f.sv) (l := svs r) h1
  simp only [Cw.cut, hf]
  have e1 : cel ES (svs (List.take 1 (f :: r))) = ES.f f.sv := by simp [svs, cel]
  rw [e1]; exact h2
theorem Cw.cut_row {x : Cw} (hl : 0 < x.fs.length) (TS : TypeId) : x.cut.row TS = x.row TS := by
  obtain ⟨f, r, hf⟩ : ∃ f r, x.fs = f :: r := by
    cases hx : x.fs with
    | nil => rw [hx] at hl; simp at hl
    | cons f r => exact ⟨f, r, rfl⟩
  have e1 : cel ES (svs (List.take 1 (f :: r))) = ES.f f.sv := by simp [svs, cel]
  simp only [Cw.row, Cw.cut, hf, e1]
  exact congrArg (Prod.mk x.key) (sobP_cut (E := ES) (l := svs r) f.sv)
section
variable {T : TypeId} {e : En} {F : List (Option Nat × Obj)} {f : Fr} {key : Option Nat} {a : Option Addr} {pre sp : List Value} {c : Nat}
theorem En.okSend (he : e.ok T F) (hf : f.ok) (hs : f.bs.length ≤ 1048576) (hS : SlP ES key a pre (svs e.q.fs ++ [f.sv]) c sp) :
    ({ e with q := ⟨key, a, pre, c, sp, e.q.fs ++ [f]⟩, err := .nilIface } : En).ok T (f.row T :: F) := by
  refine ⟨⟨by dsimp only; rw [svs_snoc]; exact hS, fun x hx => ?_⟩, he.cm, he.o, fun x hx => ?_, fun x hx => List.mem_cons_of_mem _ (he.cmm x hx), fun x hx => ?_, .inl rfl⟩ <;>
    rcases (List.mem_append.1 hx).imp_right List.mem_singleton.1 with h | rfl
  · exact he.q.each x h
  · exact hf
  · exact List.mem_cons_of_mem _ (he.qm x h)
  · exact List.mem_cons_self ..
  · exact he.small x h
  · exact hs
theorem En.okCame (he : e.ok T F) (hf : f.ok) (hS : SlP ES key a pre (svs e.cm.fs ++ [f.sv]) c sp) {o : Ow} (ho : Sl E32 o.key o.l o.c o.sp) (n : BitVec 32) :
    ({ e with cm := ⟨key, a, pre, c, sp, e.cm.fs ++ [f]⟩, want := n, o := o } : En).ok T (f.row T :: F) := by
  refine ⟨he.q, ⟨by dsimp only; rw [svs_snoc]; exact hS, fun x hx => ?_⟩, ho, fun x hx => List.mem_cons_of_mem _ (he.qm x hx), fun x hx => ?_, he.small, he.er⟩ <;>
    rcases (List.mem_append.1 hx).imp_right List.mem_singleton.1 with h | rfl
  · exact he.cm.each x h
  · exact hf
  · exact List.mem_cons_of_mem _ (he.cmm x h)
  · exact List.mem_cons_self ..
theorem En.okOwed (he : e.ok T F) {o : Ow} (ho : Sl E32 o.key o.l o.c o.sp) : ({ e with o := o } : En).ok T F := ⟨he.q, he.cm, ho, he.qm, he.cmm, he.small, he.er⟩
theorem En.okStep (he : e.ok T F) (m n : Nat) {v : Value} (hv : v = .nilIface ∨ ∃ T x, v = .iface T x) : ({ e with o := ow0, sends := m, since := n, err := v } : En).ok T F := ⟨he.q, he.cm, Sl.none, he.qm, he.cmm, he.small, hv⟩
theorem En.okAck (he : e.ok T F) (hl : 0 < e.q.fs.length) (n : BitVec 32) : ({ e with q := e.q.cut, number := n, sends := 0, since := 0 } : En).ok T F :=
  ⟨Cw.cut_ok he.q hl, he.cm, he.o, fun f hf => he.qm f (List.mem_of_mem_drop hf), he.cmm, fun f hf => he.small f (List.mem_of_mem_drop hf), he.er⟩
theorem En.okTake (he : e.ok T F) (hl : 0 < e.cm.fs.length) : ({ e with cm := e.cm.cut } : En).ok T F :=
  ⟨he.q, Cw.cut_ok he.cm hl, he.o, he.qm, fun f hf => he.cmm f (List.mem_of_mem_drop hf), he.small, he.er⟩
theorem acks_take {l : List (BitVec 32)} {q : Nat} (h : q < l.length) : acks (l.take (q + 1)) = acks (l.take q) ++ [sealF 1#8 (l.getD q 0#32) []] := by
  rw [List.take_succ_eq_append_getElem h, acks, List.map_append]
  simp [acks, List.getD, h]
theorem acks_all (l : List (BitVec 32)) : acks (l.take l.length) = acks l := by rw [List.take_length]
theorem bss_drop (F : List Fr) (i : Nat) : bss (F.drop i) = (bss F).drop i := by simp [bss]
end
/-- one frame -/
theorem bss_one {F : List Fr} {p : List (BitVec 8)} (h : bss F = [p]) : ∃ f, F = [f] ∧ f.bs = p := by
  match F, h with
  | [f], h => exact ⟨f, rfl, by simpa [bss] using h⟩
  | [], h => simp [bss] at h
  | _ :: _ :: _, h => simp [bss] at h
theorem bss_len2 {F : List Fr} {l : List (List (BitVec 8))} (h : bss F = l) : F.length = l.length := by rw [← h, bss_len]
end Go.Proofs.YtpmmhpgfbfehmaaDoor.Lk
