/- What the claim has need of: ErrD, VcAuto, Fcts, Fault, FaultK, Circ, Circ2, Cm, Cm2, Cm3, Cm4, Cm5, Cm6, Cm7. -/
import Derived.Test.YtohngnahcgbfmaaGreatDoorWs2
import Derived.Test.YtohngnahcgbfmaaGreatDoorProg
import Derived.Laws.StructEq
set_option linter.unusedVariables false
set_option maxHeartbeats 16000000
set_option maxRecDepth 20000
namespace Go.Proofs.YtohngnahcgbfmaaGreatDoor.Vc
open Go
def Er (lo : Nat) (w : World) (e : Int) : Nat → Value → Prop
 | 0, v => v = .iface 63 (i64 e)
 | k + 1, v => ∃ (b : Nat) (nm : ByteArray) (at' : Int) (v' : Value), v = .iface 122 (.pointer (some ⟨b, 0, none⟩)) ∧ lo ≤ b ∧ w.heap[b]? = some (.cells #[.string nm, i64 at', i64 ((k + 1 : Nat) : Int), v'] 126 (0, 0)) ∧ Er lo w e k v'
theorem Er.chg {lo : Nat} {M : Nat → Prop} {w w' : World} {e : Int} (hC : Chg M w w') (hM : ∀ b, lo ≤ b → ¬ M b) : ∀ {k : Nat} {v : Value}, Er lo w e k v → Er lo w' e k v
 | 0, _, h => h
 | _ + 1, _, ⟨b, nm, at', v', h1, h2, h3, h4⟩ => ⟨b, nm, at', v', h1, h2, hC.blk _ _ (hM b h2) h3, Er.chg hC hM h4⟩
theorem Er.chgs {lo : Nat} {N : Nat → Prop} {w w' : World} {e : Int} (hC : Chg N w w') (hN : ∀ b, lo ≤ b → b < w.heap.size → ¬ N b) : ∀ {k : Nat} {v : Value}, Er lo w e k v → Er lo w' e k v
 | 0, _, h => h
 | _ + 1, _, ⟨b, nm, at', v', h1, h2, h3, h4⟩ => ⟨b, nm, at', v', h1, h2, hC.blk _ _ (hN b h2 (lt_of_some h3)) h3, Er.chgs hC hN h4⟩
theorem Er.ext {lo : Nat} {w w' : World} {e : Int} {k : Nat} {v : Value} (h : Er lo w e k v) (hE : Ext w w') : Er lo w' e k v := Er.chg hE (fun _ _ x => x) h
theorem Er.mono {lo lo' : Nat} {w : World} {e : Int} (hl : lo' ≤ lo) : ∀ {k : Nat} {v : Value}, Er lo w e k v → Er lo' w e k v
 | 0, _, h => h
 | _ + 1, _, ⟨b, nm, at', v', h1, h2, h3, h4⟩ => ⟨b, nm, at', v', h1, Nat.le_trans hl h2, h3, Er.mono hl h4⟩
theorem Er.iface {lo : Nat} {w : World} {e : Int} : ∀ {k : Nat} {v : Value}, Er lo w e k v → ∃ T x, v = .iface T x
 | 0, _, h => ⟨_, _, h⟩
 | _ + 1, _, ⟨_, _, _, _, h1, _, _, _⟩ => ⟨_, _, h1⟩
def Gl (w : World) : Prop := ∃ (cs : Array Value) (T : TypeId) (fr : Nat × Nat), w.heap[0]? = some (.cells cs T fr) ∧ cs[0]? = some (.iface 193 (.agg #[typeHandle Tryz.prog 31]))
theorem Chg.gl {M : Nat → Prop} {w w' : World} (h : Chg M w w') (hM : ¬ M 0) (hG : Gl w) : Gl w' := by
 obtain ⟨cs, T, fr, h1, h2⟩ := hG
 exact ⟨cs, T, fr, h.blk _ _ hM h1, h2⟩
theorem Gl.lt {w : World} (hG : Gl w) : 0 < w.heap.size := by
 obtain ⟨cs, T, fr, h1, _⟩ := hG
 exact lt_of_some h1
end Go.Proofs.YtohngnahcgbfmaaGreatDoor.Vc
namespace Go.Proofs.YtohngnahcgbfmaaGreatDoor.Vc
open Go
class Fct {α : Type} (a : α) (b : outParam α) : Prop where h : a = b
class Fit {α : Type} (P : Program) (T : TypeId) (E : Enc α) : Prop where h : Fits P T E
class ZerO (P : Program) (T : TypeId) (o : outParam Obj) : Prop where h : ∃ z, zer P T = some z ∧ Obj.cells z.cells T (0, 0) = o
structure Fu (n : Nat) (G : Prop) : Prop where out : G
theorem vfS {n : Nat} {G G' : Prop} (f : G' → G) (h : Fu n G') : Fu (n + 1) G := ⟨f h.out⟩
theorem vfA {n : Nat} {G G' : Prop} (f : G' → G) (h : Fu n G') : Fu n G := ⟨f h.out⟩
theorem vfB {n : Nat} {G G' : Prop} (f : G' → G) (h : Fu (n + 1) G') : Fu (n + 1) G := ⟨f h.out⟩
theorem vfZ {G : Prop} (h : G) : Fu 0 G := ⟨h⟩
structure Kp (K : Prop) : Prop where out : K
inductive InR (key : Option Nat) (o : Obj) : List RW → Prop
 |here {L : List RW} : InR key o ((key, o) :: L)
 |there {p : RW} {L : List RW} (h : InR key o L) : InR key o (p :: L)
theorem InR.mem {key : Option Nat} {o : Obj} {L : List RW} (h : InR key o L) : (key, o) ∈ L := by
 induction h with
 |here => exact List.mem_cons_self
 |there _ ih => exact List.mem_cons_of_mem _ ih
inductive SetF (key : Option Nat) (o : Obj) : List RW → (RW → List RW) → Prop
 |here {L : List RW} : SetF key o ((key, o) :: L) (fun p => p :: L)
 |there {q : RW} {L : List RW} {F : RW → List RW} (h : SetF key o L F) : SetF key o (q :: L) (fun p => q :: F p)
theorem SetF.at {key : Option Nat} {o : Obj} {L : List RW} {F : RW → List RW} (h : SetF key o L F) : ∃ k : Nat, L[k]? = some (key, o) ∧ ∀ p, L.set k p = F p := by
 induction h with
 |here => exact ⟨0, rfl, fun _ => rfl⟩
 |there _ ih => obtain ⟨k, h1, h2⟩ := ih; exact ⟨k + 1, h1, fun p => by rw [List.set_cons_succ, h2]⟩
inductive SetL {α : Type} (v : α) : List α → Nat → List α → Prop
 |here {a : α} {l : List α} : SetL v (a :: l) 0 (v :: l)
 |there {a : α} {l l' : List α} {i : Nat} (h : SetL v l i l') : SetL v (a :: l) (i + 1) (a :: l')
theorem SetL.eq {α : Type} {v : α} {l l' : List α} {i : Nat} (h : SetL v l i l') : l.set i v = l' ∧ i < l.length := by
 induction h with
 |here => exact ⟨rfl, by simp⟩
 |there _ ih => exact ⟨by rw [List.set_cons_succ, ih.1], by simp; exact ih.2⟩
inductive TakL {α : Type} : Nat → List α → List α → Prop
 |nil {l : List α} : TakL 0 l []
 |cons {a : α} {l l' : List α} {n : Nat} (h : TakL n l l') : TakL (n + 1) (a :: l) (a :: l')
inductive DrpL {α : Type} : Nat → Nat → List α → List α → Prop
 |here {l l' : List α} {n : Nat} (h : TakL n l l') : DrpL 0 n l l'
 |there {a : α} {l l' : List α} {i n : Nat} (h : DrpL i n l l') : DrpL (i + 1) n (a :: l) l'
theorem TakL.eq {α : Type} {l l' : List α} {n : Nat} (h : TakL n l l') : l.take n = l' ∧ n ≤ l.length := by
 induction h with
 |nil => exact ⟨rfl, Nat.zero_le _⟩
 |cons _ ih => exact ⟨by rw [List.take_succ_cons, ih.1], by simp; exact ih.2⟩
theorem DrpL.eq {α : Type} {l l' : List α} {i n : Nat} (h : DrpL i n l l') : (l.drop i).take n = l' ∧ i + n ≤ l.length := by
 induction h with
 |here h => exact ⟨by simpa using h.eq.1, by simpa using h.eq.2⟩
 |there _ ih => exact ⟨by simpa using ih.1, by have := ih.2; simp; omega⟩
inductive PutL : LV → LV → Nat → LV → Prop
 |nil {l : LV} : PutL [] l 0 l
 |here {v : Value} {vs : LV} {a : Value} {l l' : LV} (h : PutL vs l 0 l') : PutL (v :: vs) (a :: l) 0 (v :: l')
 |there {vs : LV} {a : Value} {l l' : LV} {i : Nat} (h : PutL vs l i l') : PutL vs (a :: l) (i + 1) (a :: l')
theorem putR_cons (a : Value) : ∀ (vs l : LV) (i : Nat), putR (a :: l).toArray (i + 1) vs = ((a :: (putR l.toArray i vs).toList)).toArray
 |[], l, i => by simp [putR]
 |v :: vs, l, i => by
  rw [putR, putR]
  have := putR_cons a vs (l.set i v) (i + 1)
  simpa using this
theorem PutL.eq {vs l l' : LV} {i : Nat} (h : PutL vs l i l') : putR l.toArray i vs = l'.toArray ∧ i + vs.length ≤ l.length := by
 induction h with
 |nil => exact ⟨rfl, by simp⟩
 |@here v vs a l l' _ ih =>
  refine ⟨?_, by have := ih.2; simp at this ⊢; omega⟩
  rw [putR]
  have e : (a :: l).toArray.setIfInBounds 0 v = (v :: l).toArray := by simp
  rw [e, putR_cons, ih.1]
 |@there vs a l l' i _ ih =>
  refine ⟨by rw [putR_cons, ih.1], by have := ih.2; simp at this ⊢; omega⟩
inductive FillL (place : Nat → Option (Nat × Nat)) : List (Nat × Value) → LV → LV → Prop
 |nil {l : LV} : FillL place [] l l
 |cons {i off s : Nat} {v u : Value} {vs : LV} {ps : List (Nat × Value)} {l l1 l2 : LV} (hp : place i = some (off, s)) (hu : v = u) (hv : u.cells = vs.toArray) (hs : Nat.beq vs.length s = true) (h : PutL vs l off l1) (r : FillL place ps l1 l2) : FillL place ((i, v) :: ps) l l2
theorem putR_fold (off : Nat) : ∀ (vs : LV) (k : Nat) (cs : Array Value), (vs.zipIdx k).foldl (fun cs (p : Value × Nat) => cs.setIfInBounds (off + p.2) p.1) cs = putR cs (off + k) vs
 |[], _, _ => rfl
 |v :: vs, k, cs => by rw [List.zipIdx_cons, List.foldl_cons, putR_fold off vs (k + 1)]; rfl
theorem FillL.eq {place : Nat → Option (Nat × Nat)} {ps : List (Nat × Value)} {l l' : LV} (h : FillL place ps l l') : Instr.fill place l.toArray ps = some l'.toArray := by
 induction h with
 |nil => rfl
 |@cons i off s v u vs ps l l1 l2 hp hu hv hs hput _ ih =>
  subst hu
  obtain ⟨e1, e2⟩ := hput.eq
  have hs' := Nat.eq_of_beq_eq_true hs
  unfold Instr.fill
  rw [hp]
  have h1 : v.cells.size = s := by rw [hv]; simpa using hs'
  have h2 : ¬ ((decide (v.cells.size ≠ s) || decide (off + v.cells.size > l.toArray.size)) = true) := by rw [h1]; simp; omega
  simp only
  rw [if_neg h2]
  have e3 : v.cells.zipIdx.foldl (fun cs (p : Value × Nat) => cs.setIfInBounds (off + p.2) p.1) l.toArray = l1.toArray := by
   rw [← e1, hv]
   have := putR_fold off vs 0 l.toArray
   simpa using this
  exact (congrArg (fun x => Instr.fill place x ps) e3).trans ih
class ArrE (α : outParam Type) (P : Program) (T : TypeId) (E : outParam (Enc α)) : Prop where h : True
inductive EncP {α : Type} (E : Enc α) : List (Nat × Value) → List α → Prop
 |nil : EncP E [] []
 |cons {i : Nat} {v : Value} {a : α} {ps : List (Nat × Value)} {l : List α} (hv : v = E.val a) (h : EncP E ps l) : EncP E ((i, v) :: ps) (a :: l)
theorem vIn {key : Option Nat} {o : Obj} {L : List RW} (h : InR key o L := by (repeat (first | exact InR.here | apply InR.there)) <;> fail) : InR key o L := h
theorem vSf {key : Option Nat} {o : Obj} {L : List RW} {F : RW → List RW} (h : SetF key o L F := by (repeat (first | exact SetF.here | apply SetF.there)) <;> fail) : SetF key o L F := h
theorem om {p : Prop} (h : p := by omega) : p := h
class ValAs {α : Type} (E : Enc α) (f : outParam (α → Value)) : Prop where h : ∀ a, E.val a = f a
instance : ValAs E8 u8 := ⟨fun _ => rfl⟩
instance : ValAs E32 u32 := ⟨fun _ => rfl⟩
instance : ValAs E64 u64 := ⟨fun _ => rfl⟩
instance : ValAs EI i64 := ⟨fun _ => rfl⟩
instance : ValAs EB .bool := ⟨fun _ => rfl⟩
instance : ValAs EG (fun g => .agg #[i64 g.k, i64 g.a, i64 g.b]) := ⟨fun _ => rfl⟩
instance : ValAs ETr (fun t => .agg #[u64 t.a, u64 t.b, u64 t.c]) := ⟨fun _ => rfl⟩
instance : ValAs EOt (fun o => .agg #[u64 o.p, u64 o.q, u64 o.r, u64 o.s, .bool o.ch]) := ⟨fun _ => rfl⟩
instance : ValAs ELb (fun l => .agg (cel E64 [l.1, l.2]).toArray) := ⟨fun _ => rfl⟩
instance : ValAs EMo (fun o => .agg #[i64 o.kd, i64 o.a, i64 o.b, i64 o.k, u64 o.c, i64 o.pt]) := ⟨fun _ => rfl⟩
instance : ValAs EDr (fun o => .agg #[u64 o.w, u64 o.t.a, u64 o.t.b, u64 o.t.c, .slice o.os.a o.os.n o.os.c, .slice o.zs.a o.zs.n o.zs.c]) := ⟨fun _ => rfl⟩
instance : ValAs ES (fun s => .slice s.a s.n s.c) := ⟨fun _ => rfl⟩
instance : ValAs ET (fun l => .string (strB l)) := ⟨fun _ => rfl⟩
class Dft {α : Type} (E : Enc α) (d : outParam α) : Prop where h : True
instance : Dft E8 0#8 := ⟨trivial⟩
instance : Dft E32 0#32 := ⟨trivial⟩
instance : Dft E64 0#64 := ⟨trivial⟩
instance : Dft EB false := ⟨trivial⟩
instance : Dft EI 0 := ⟨trivial⟩
instance : Dft EG g0 := ⟨trivial⟩
instance : Dft ES sv0 := ⟨trivial⟩
instance : Dft ET [] := ⟨trivial⟩
instance : Dft ETr tr0 := ⟨trivial⟩
instance : Dft EOt ot0 := ⟨trivial⟩
instance : Dft EMo mo0 := ⟨trivial⟩
instance : Dft EDr dr0 := ⟨trivial⟩
section
variable {M : Nat → Prop} {w₀ w : World} {L : List RW} {b : Nat} {o : Obj} {α : Type} {E : Enc α} {key : Option Nat} {X : TypeId} {l : List α} {c : Nat} {sp pre : LV} {a : Option Addr}
theorem Hp.inr (H : Hp M w₀ w L) (h : InR (some b) o L) : w.heap[b]? = some o := H.has _ h.mem b rfl
theorem Hp.rdI (H : Hp M w₀ w L) (h : InR key (sob E X l sp) L) (hS : Sl E key l c sp) : Rd E w (ownA key) l := Rd.mine hS fun g hg => H.has _ h.mem g hg
theorem Hp.rdJ (H : Hp M w₀ w L) (hS : SlP E key a pre l c sp) (h : InR key (sobP E X pre l sp) L) : Rd E w a l := rdMineP hS fun g hg => H.has _ h.mem g hg
end
theorem vAs {p : Prop} (h : p := by first | with_reducible assumption | assumption) : p := h
theorem vGa {w : World} {b : Nat} {o : Obj} (h : w.heap[b]? = some o := by first
 |exact Hp.inr vAs vIn
 |with_reducible assumption
 |exact Hp.keepE vAs (by with_reducible assumption)
 |exact Hp.keepE vAs (by assumption)
 |assumption) : w.heap[b]? = some o := h
theorem vRd {α : Type} {E : Enc α} {w : World} {a : Option Addr} {l : List α} (h : Rd E w a l := by first
 |with_reducible assumption
 |exact Hp.rdI vAs vIn vAs
 |exact Rd.ext (by with_reducible assumption) (Hp.chg vAs)
 |exact Hp.rdJ vAs (by first | with_reducible assumption | exact Sk.ok.t (by with_reducible assumption) | exact Sk.ok.b (by with_reducible assumption) | exact Sk.ok.o (by with_reducible assumption)) vIn
 |exact Rd.row vGa
 |exact Rd.nil) : Rd E w a l := h
section
variable {P : Program} {n : Nat} {ops : Array Oper} {Q : Exit → Act → World → Prop} {ρ : Env} {w w₀ : World} {d : Option Nat} {t T T' S : TypeId} {pos : String} {after : Array Edge} {g : Option (Nat × Bool)} {x y : Operand}
 {M : Nat → Prop} {L L' : List RW} {rest : List Oper} {b k off : Nat} {cs cs' : Array Value} {X : TypeId} {fr : Nat × Nat} {a : Option Addr}
theorem litU64 {k : Nat} (h : ev n ρ x = .int .u64 (@OfNat.ofNat Int k instOfNat)) (hk : Nat.blt k 18446744073709551616 = true) : ev n ρ x = u64 (BitVec.ofNat 64 k) := by
 rw [h]
 have hk2 : k < 18446744073709551616 := by simpa [Nat.blt_eq] using hk
 show Value.int .u64 (k : Int) = Value.int .u64 ((BitVec.ofNat 64 k).toNat : Int)
 rw [BitVec.toNat_ofNat, Nat.mod_eq_of_lt (by omega)]
theorem litU8 {k : Nat} (h : ev n ρ x = .int .u8 (@OfNat.ofNat Int k instOfNat)) (hk : Nat.blt k 256 = true) : ev n ρ x = u8 (BitVec.ofNat 8 k) := by
 rw [h]
 have hk2 : k < 256 := by simpa [Nat.blt_eq] using hk
 show Value.int .u8 (k : Int) = Value.int .u8 ((BitVec.ofNat 8 k).toNat : Int)
 rw [BitVec.toNat_ofNat, Nat.mod_eq_of_lt (by omega)]
theorem litU32 {k : Nat} (h : ev n ρ x = .int .u32 (@OfNat.ofNat Int k instOfNat)) (hk : Nat.blt k 4294967296 = true) : ev n ρ x = u32 (BitVec.ofNat 32 k) := by
 rw [h]
 have hk2 : k < 4294967296 := by simpa [Nat.blt_eq] using hk
 show Value.int .u32 (k : Int) = Value.int .u32 ((BitVec.ofNat 32 k).toNat : Int)
 rw [BitVec.toNat_ofNat, Nat.mod_eq_of_lt (by omega)]
theorem vmvP {p : Option Addr} (hx : ev n ρ x = .pointer p) : Runs P n ρ ⟨d, .move x, t, pos, after, g⟩ w (.pointer p) w := r_move hx
theorem vavP {p : Option Addr} (hx : ev n ρ x = .pointer p) : Runs P n ρ ⟨d, .assign x, t, pos, after, g⟩ w (.pointer p) w := r_assign hx
theorem vmvS {p : Option Addr} {m c : Nat} (hx : ev n ρ x = .slice p m c) : Runs P n ρ ⟨d, .move x, t, pos, after, g⟩ w (.slice p m c) w := r_move hx
theorem vavS {p : Option Addr} {m c : Nat} (hx : ev n ρ x = .slice p m c) : Runs P n ρ ⟨d, .assign x, t, pos, after, g⟩ w (.slice p m c) w := r_assign hx
theorem vmvW {i : BitVec 64} (hx : ev n ρ x = u64 i) : Runs P n ρ ⟨d, .move x, t, pos, after, g⟩ w (u64 i) w := r_move hx
theorem vmvY {i : BitVec 8} (hx : ev n ρ x = u8 i) : Runs P n ρ ⟨d, .move x, t, pos, after, g⟩ w (u8 i) w := r_move hx
theorem vmvX {i : BitVec 32} (hx : ev n ρ x = u32 i) : Runs P n ρ ⟨d, .move x, t, pos, after, g⟩ w (u32 i) w := r_move hx
theorem vmvG {i : Int} (hx : ev n ρ x = i64 i) : Runs P n ρ ⟨d, .move x, t, pos, after, g⟩ w (i64 i) w := r_move hx
theorem vmvl64 {k : Nat} (hx : ev n ρ x = .int .u64 (@OfNat.ofNat Int k instOfNat)) (hk : Nat.blt k 18446744073709551616 = true) : Runs P n ρ ⟨d, .move x, t, pos, after, g⟩ w (u64 (BitVec.ofNat 64 k)) w := r_move (litU64 hx hk)
theorem vmvl8 {k : Nat} (hx : ev n ρ x = .int .u8 (@OfNat.ofNat Int k instOfNat)) (hk : Nat.blt k 256 = true) : Runs P n ρ ⟨d, .move x, t, pos, after, g⟩ w (u8 (BitVec.ofNat 8 k)) w := r_move (litU8 hx hk)
theorem vmvl32 {k : Nat} (hx : ev n ρ x = .int .u32 (@OfNat.ofNat Int k instOfNat)) (hk : Nat.blt k 4294967296 = true) : Runs P n ρ ⟨d, .move x, t, pos, after, g⟩ w (u32 (BitVec.ofNat 32 k)) w := r_move (litU32 hx hk)
theorem vmvI {kk : IntKind} {i : Int} (hx : ev n ρ x = .int kk i) : Runs P n ρ ⟨d, .move x, t, pos, after, g⟩ w (.int kk i) w := r_move hx
theorem vavW {i : BitVec 64} (hx : ev n ρ x = u64 i) : Runs P n ρ ⟨d, .assign x, t, pos, after, g⟩ w (u64 i) w := r_assign hx
theorem vavY {i : BitVec 8} (hx : ev n ρ x = u8 i) : Runs P n ρ ⟨d, .assign x, t, pos, after, g⟩ w (u8 i) w := r_assign hx
theorem vavX {i : BitVec 32} (hx : ev n ρ x = u32 i) : Runs P n ρ ⟨d, .assign x, t, pos, after, g⟩ w (u32 i) w := r_assign hx
theorem vavG {i : Int} (hx : ev n ρ x = i64 i) : Runs P n ρ ⟨d, .assign x, t, pos, after, g⟩ w (i64 i) w := r_assign hx
theorem vavl64 {k : Nat} (hx : ev n ρ x = .int .u64 (@OfNat.ofNat Int k instOfNat)) (hk : Nat.blt k 18446744073709551616 = true) : Runs P n ρ ⟨d, .assign x, t, pos, after, g⟩ w (u64 (BitVec.ofNat 64 k)) w := r_assign (litU64 hx hk)
theorem vavl8 {k : Nat} (hx : ev n ρ x = .int .u8 (@OfNat.ofNat Int k instOfNat)) (hk : Nat.blt k 256 = true) : Runs P n ρ ⟨d, .assign x, t, pos, after, g⟩ w (u8 (BitVec.ofNat 8 k)) w := r_assign (litU8 hx hk)
theorem vavl32 {k : Nat} (hx : ev n ρ x = .int .u32 (@OfNat.ofNat Int k instOfNat)) (hk : Nat.blt k 4294967296 = true) : Runs P n ρ ⟨d, .assign x, t, pos, after, g⟩ w (u32 (BitVec.ofNat 32 k)) w := r_assign (litU32 hx hk)
theorem vavI {kk : IntKind} {i : Int} (hx : ev n ρ x = .int kk i) : Runs P n ρ ⟨d, .assign x, t, pos, after, g⟩ w (.int kk i) w := r_assign hx
theorem vmvB {c : Bool} (hx : ev n ρ x = .bool c) : Runs P n ρ ⟨d, .move x, t, pos, after, g⟩ w (.bool c) w := r_move hx
theorem vavB {c : Bool} (hx : ev n ρ x = .bool c) : Runs P n ρ ⟨d, .assign x, t, pos, after, g⟩ w (.bool c) w := r_assign hx
theorem vmvA {cs : Array Value} (hx : ev n ρ x = .agg cs) : Runs P n ρ ⟨d, .move x, t, pos, after, g⟩ w (.agg cs) w := r_move hx
theorem vavA {cs : Array Value} (hx : ev n ρ x = .agg cs) : Runs P n ρ ⟨d, .assign x, t, pos, after, g⟩ w (.agg cs) w := r_assign hx
theorem vmvF {T : TypeId} {v : Value} (hx : ev n ρ x = .iface T v) : Runs P n ρ ⟨d, .move x, t, pos, after, g⟩ w (.iface T v) w := r_move hx
theorem vavF {T : TypeId} {v : Value} (hx : ev n ρ x = .iface T v) : Runs P n ρ ⟨d, .assign x, t, pos, after, g⟩ w (.iface T v) w := r_assign hx
theorem vmvN  (hx : ev n ρ x = .nilIface) : Runs P n ρ ⟨d, .move x, t, pos, after, g⟩ w (.nilIface) w := r_move hx
theorem vavN  (hx : ev n ρ x = .nilIface) : Runs P n ρ ⟨d, .assign x, t, pos, after, g⟩ w (.nilIface) w := r_assign hx
theorem vmvT {cs : Array Value} (hx : ev n ρ x = .tuple cs) : Runs P n ρ ⟨d, .move x, t, pos, after, g⟩ w (.tuple cs) w := r_move hx
theorem vavT {cs : Array Value} (hx : ev n ρ x = .tuple cs) : Runs P n ρ ⟨d, .assign x, t, pos, after, g⟩ w (.tuple cs) w := r_assign hx
theorem a_field0 {f o z : Nat} {U : TypeId} [h : Fct (fld P S f) (some (o, z, U))] (hx : ev n ρ x = .pointer (some ⟨b, 0, none⟩)) (hz : z ≠ 0) : Runs P n ρ ⟨d, .fieldAddr S x f, t, pos, after, g⟩ w (.pointer (some ⟨b, o, none⟩)) w := r_fieldAddr h.h hz hx (Nat.zero_add _)
theorem a_field {f o z : Nat} {U : TypeId} [h : Fct (fld P S f) (some (o, z, U))] (hx : ev n ρ x = .pointer (some ⟨b, off, none⟩)) (hz : z ≠ 0) : Runs P n ρ ⟨d, .fieldAddr S x f, t, pos, after, g⟩ w (.pointer (some ⟨b, off + o, none⟩)) w := r_fieldAddr h.h hz hx rfl
theorem a_index01 {m j : Nat} {kk : IntKind} [h : Fct (arr P T) (some (m, 1))] (hx : ev n ρ x = .pointer (some ⟨b, 0, none⟩)) (hy : ev n ρ y = .int kk (j : Int)) (hj : j < m) : Runs P n ρ ⟨d, .indexAddr T x y, t, pos, after, g⟩ w (.pointer (some ⟨b, j, none⟩)) w := r_indexA h.h hx hy rfl hj (by omega)
theorem a_index1 {m j : Nat} {kk : IntKind} [h : Fct (arr P T) (some (m, 1))] (hx : ev n ρ x = .pointer (some ⟨b, off, none⟩)) (hy : ev n ρ y = .int kk (j : Int)) (hj : j < m) : Runs P n ρ ⟨d, .indexAddr T x y, t, pos, after, g⟩ w (.pointer (some ⟨b, off + j, none⟩)) w := r_indexA h.h hx hy rfl hj (by omega)
theorem a_index0 {m j z : Nat} {kk : IntKind} [h : Fct (arr P T) (some (m, z))] (hx : ev n ρ x = .pointer (some ⟨b, 0, none⟩)) (hy : ev n ρ y = .int kk (j : Int)) (hj : j < m) : Runs P n ρ ⟨d, .indexAddr T x y, t, pos, after, g⟩ w (.pointer (some ⟨b, j * z, none⟩)) w := r_indexA h.h hx hy rfl hj (by omega)
theorem a_index {m j z : Nat} {kk : IntKind} [h : Fct (arr P T) (some (m, z))] (hx : ev n ρ x = .pointer (some ⟨b, off, none⟩)) (hy : ev n ρ y = .int kk (j : Int)) (hj : j < m) : Runs P n ρ ⟨d, .indexAddr T x y, t, pos, after, g⟩ w (.pointer (some ⟨b, off + j * z, none⟩)) w := r_indexA h.h hx hy rfl hj rfl
theorem a_loadC {l : LV} {v : Value} [h1 : Fct (isOne P T) true] (hx : ev n ρ x = .pointer (some ⟨b, off, none⟩)) (h : w.heap[b]? = some (.cells l.toArray X fr)) (hv : l[off]? = some v) : Runs P n ρ ⟨d, .load T x, t, pos, after, g⟩ w v w := r_loadC h1.h h hx (by simpa using hv)
theorem a_loadA {l l' : LV} {s : Nat} [h1 : Fct (isAgg' P T) true] [h2 : Fct (siz P T) (some s)] (hx : ev n ρ x = .pointer (some ⟨b, off, none⟩)) (h : w.heap[b]? = some (.cells l.toArray X fr)) (hc : DrpL off s l l') : Runs P n ρ ⟨d, .load T x, t, pos, after, g⟩ w (.agg l'.toArray) w :=
 r_loadA h1.h h2.h h hx (by simpa using hc.eq.2) (by have hc := hc.eq.1; subst hc; simp [List.extract, Nat.add_sub_cancel_left])
theorem a_loadE {α : Type} {E : Enc α} {l : List α} {s : Nat} [h1 : Fct (isAgg' P T) true] [h2 : Fct (siz P T) (some s)] (hx : ev n ρ x = .pointer (some ⟨b, 0, none⟩)) (h : w.heap[b]? = some (.cells (cel E l).toArray X fr)) (hs : l.length * E.s = s) : Runs P n ρ ⟨d, .load T x, t, pos, after, g⟩ w (.agg (cel E l).toArray) w :=
 r_loadA h1.h h2.h h hx (by rw [List.size_toArray, cel_length, hs]; omega) (ext_all (by rw [cel_length, hs]))
theorem a_idxS {e : TypeId} {z m c j : Nat} {kk : IntKind} {α : Type} {E : Enc α} {l : List α} [hT : Fct (sli P T) (some (e, z))] (hx : ev n ρ x = .slice a m c) (hR : Rd E w a l) (hy : ev n ρ y = .int kk (j : Int)) (hm : m = l.length) (hj : j < l.length) : Runs P n ρ ⟨d, .indexAddr T x y, t, pos, after, g⟩ w (.pointer (adr a (j * z))) w := r_idxS hT.h hR hx hy rfl hm hj
theorem a_idxT {e : TypeId} {z m c : Nat} {kk : IntKind} {i : Int} {α : Type} {E : Enc α} {l : List α} [hT : Fct (sli P T) (some (e, z))] (hx : ev n ρ x = .slice a m c) (hR : Rd E w a l) (hy : ev n ρ y = .int kk i) (hi : 0 ≤ i) (hm : m = l.length) (hj : i.toNat < l.length) : Runs P n ρ ⟨d, .indexAddr T x y, t, pos, after, g⟩ w (.pointer (adr a (i.toNat * z))) w := r_idxS hT.h hR hx hy (Int.toNat_of_nonneg hi).symm hm hj
theorem a_indexT {m : Nat} {kk : IntKind} {i : Int} [h : Fct (arr P T) (some (m, 1))] (hx : ev n ρ x = .pointer (some ⟨b, 0, none⟩)) (hy : ev n ρ y = .int kk i) (hi : 0 ≤ i) (hj : i.toNat < m) : Runs P n ρ ⟨d, .indexAddr T x y, t, pos, after, g⟩ w (.pointer (some ⟨b, i.toNat, none⟩)) w := r_indexA h.h hx hy (Int.toNat_of_nonneg hi).symm hj (by omega)
theorem a_indexT1 {m : Nat} {kk : IntKind} {i : Int} [h : Fct (arr P T) (some (m, 1))] (hx : ev n ρ x = .pointer (some ⟨b, off, none⟩)) (hy : ev n ρ y = .int kk i) (hi : 0 ≤ i) (hj : i.toNat < m) : Runs P n ρ ⟨d, .indexAddr T x y, t, pos, after, g⟩ w (.pointer (some ⟨b, off + i.toNat, none⟩)) w := r_indexA h.h hx hy (Int.toNat_of_nonneg hi).symm hj (by omega)
theorem a_indexT2 {m z : Nat} {kk : IntKind} {i : Int} [h : Fct (arr P T) (some (m, z))] (hx : ev n ρ x = .pointer (some ⟨b, 0, none⟩)) (hy : ev n ρ y = .int kk i) (hi : 0 ≤ i) (hj : i.toNat < m) : Runs P n ρ ⟨d, .indexAddr T x y, t, pos, after, g⟩ w (.pointer (some ⟨b, i.toNat * z, none⟩)) w := r_indexA h.h hx hy (Int.toNat_of_nonneg hi).symm hj (by omega)
theorem a_indexT3 {m z : Nat} {kk : IntKind} {i : Int} [h : Fct (arr P T) (some (m, z))] (hx : ev n ρ x = .pointer (some ⟨b, off, none⟩)) (hy : ev n ρ y = .int kk i) (hi : 0 ≤ i) (hj : i.toNat < m) : Runs P n ρ ⟨d, .indexAddr T x y, t, pos, after, g⟩ w (.pointer (some ⟨b, off + i.toNat * z, none⟩)) w := r_indexA h.h hx hy (Int.toNat_of_nonneg hi).symm hj (by omega)
theorem a_lenS {e : TypeId} {z m c : Nat} [h : Fct (sli P T) (some (e, z))] (hx : ev n ρ x = .slice a m c) : Runs P n ρ ⟨d, .call ⟨.builtin .len, #[x], #[T]⟩, t, pos, after, g⟩ w (i64 (m : Int)) w := r_lenS h.h hx
theorem a_mkI {k : IntKind} {xv : Value} [hT : Fct (P.underlying S) (some (.int k))] (hx : ev n ρ x = xv) : Runs P n ρ ⟨d, .makeInterface S x, t, pos, after, g⟩ w (.iface S xv) w := r_mkI hT.h hx
theorem a_neqIN {S : TypeId} {xv : Value} [hT : Fct (isI P T) true] (hx : ev n ρ x = .iface S xv) (hy : ev n ρ y = .nilIface) : Runs P n ρ ⟨d, .binOp .neq T x y T', t, pos, after, g⟩ w (.bool true) w := r_neqIN hT.h hx hy
theorem a_eqlIN {S : TypeId} {xv : Value} [hT : Fct (isI P T) true] (hx : ev n ρ x = .iface S xv) (hy : ev n ρ y = .nilIface) : Runs P n ρ ⟨d, .binOp .eql T x y T', t, pos, after, g⟩ w (.bool false) w := r_eqlIN hT.h hx hy
theorem a_neqNN {c : Value} [hT : Fct (isI P T) true] (hx : ev n ρ x = .nilIface) (hy : ev n ρ (.const c) = .nilIface) : Runs P n ρ ⟨d, .binOp .neq T x (.const c) T', t, pos, after, g⟩ w (.bool false) w := r_neqNN hT.h hx hy
theorem a_eqlNN {c : Value} [hT : Fct (isI P T) true] (hx : ev n ρ x = .nilIface) (hy : ev n ρ (.const c) = .nilIface) : Runs P n ρ ⟨d, .binOp .eql T x (.const c) T', t, pos, after, g⟩ w (.bool true) w := r_eqlNN hT.h hx hy
theorem a_Ito64 {a : Int} [hs : Fct (P.underlying S) (some (.int .i64))] [hT : Fct (P.underlying T) (some (.int .u64))] (hx : ev n ρ x = i64 a) : Runs P n ρ ⟨d, .convert S T x, t, pos, after, g⟩ w (u64 (BitVec.ofInt 64 a)) w := r_Ito64 hs.h hT.h hx
theorem a_64toI {a : BitVec 64} [hs : Fct (P.underlying S) (some (.int .u64))] [hT : Fct (P.underlying T) (some (.int .i64))] (hx : ev n ρ x = u64 a) : Runs P n ρ ⟨d, .convert S T x, t, pos, after, g⟩ w (i64 a.toInt) w := r_64toI hs.h hT.h hx
theorem a_8toI {a : BitVec 8} [hs : Fct (P.underlying S) (some (.int .u8))] [hT : Fct (P.underlying T) (some (.int .i64))] (hx : ev n ρ x = u8 a) : Runs P n ρ ⟨d, .convert S T x, t, pos, after, g⟩ w (i64 (a.toNat : Int)) w := r_8toI hs.h hT.h hx
theorem a_Ito8 {a : Int} [hs : Fct (P.underlying S) (some (.int .i64))] [hT : Fct (P.underlying T) (some (.int .u8))] (hx : ev n ρ x = i64 a) : Runs P n ρ ⟨d, .convert S T x, t, pos, after, g⟩ w (u8 (BitVec.ofInt 8 a)) w := r_Ito8 hs.h hT.h hx
theorem a_8to64 {a : BitVec 8} [hs : Fct (P.underlying S) (some (.int .u8))] [hT : Fct (P.underlying T) (some (.int .u64))] (hx : ev n ρ x = u8 a) : Runs P n ρ ⟨d, .convert S T x, t, pos, after, g⟩ w (u64 (a.setWidth 64)) w := r_8to64 hs.h hT.h hx
theorem a_64to8 {a : BitVec 64} [hs : Fct (P.underlying S) (some (.int .u64))] [hT : Fct (P.underlying T) (some (.int .u8))] (hx : ev n ρ x = u64 a) : Runs P n ρ ⟨d, .convert S T x, t, pos, after, g⟩ w (u8 (a.setWidth 8)) w := r_64to8 hs.h hT.h hx
theorem a_ldD {α : Type} {E : Enc α} {l : List α} {j k : Nat} {v : α} (hx : ev n ρ x = .pointer (adr a (j * k))) {f : α → Value} (hR : Rd E w a l) (hF : Fit P T E) (hd : Dft E v) (hf : ValAs E f) (hk : k = E.s) (hj : j < l.length) : Runs P n ρ ⟨d, .load T x, t, pos, after, g⟩ w (f (l.getD j v)) w := hf.h _ ▸ r_ldS hF.h hR hx (by rw [hk]) (at_getD hj)
theorem a_ld0 {α : Type} {E : Enc α} {l : List α} {j : Nat} {v : α} (hx : ev n ρ x = .pointer (some ⟨b, j, none⟩)) (h : w.heap[b]? = some (.cells (cel E l).toArray X fr)) {f : α → Value} (hF : Fit P T E) (hd : Dft E v) (hf : ValAs E f) (hE : E.s = 1) (hj : j < l.length) : Runs P n ρ ⟨d, .load T x, t, pos, after, g⟩ w (f (l.getD j v)) w := hf.h _ ▸ r_ld1 hF.h h (at_getD hj) hE hx
inductive NthL {α : Type} (v : α) : List α → Nat → Prop
 |here {l : List α} : NthL v (v :: l) 0
 |there {a : α} {l : List α} {i : Nat} (h : NthL v l i) : NthL v (a :: l) (i + 1)
theorem NthL.eq {α : Type} {v : α} {l : List α} {i : Nat} (h : NthL v l i) : l[i]? = some v := by
 induction h with
 |here => rfl
 |there _ ih => simpa using ih
theorem a_ldN {α : Type} {E : Enc α} {l : List α} {j : Nat} {v : α} (hx : ev n ρ x = .pointer (some ⟨b, j, none⟩)) (h : w.heap[b]? = some (.cells (cel E l).toArray X fr)) {f : α → Value} (hj : NthL v l j) (hF : Fit P T E) (hf : ValAs E f) (hE : E.s = 1) : Runs P n ρ ⟨d, .load T x, t, pos, after, g⟩ w (f v) w := hf.h _ ▸ r_ld1 hF.h h hj.eq hE hx
theorem a_fieldS {α : Type} {E : Enc α} {l : List α} {k o z f : Nat} {U : TypeId} [hf : Fct (fld P S f) (some (o, z, U))] (hx : ev n ρ x = .pointer (adr a k)) (hz : z ≠ 0) (hR : Rd E w a l) (hl : 0 < l.length) : Runs P n ρ ⟨d, .fieldAddr S x f, t, pos, after, g⟩ w (.pointer (adr a (k + o))) w := r_fieldS hf.h hz hR hl hx rfl
inductive IsTv : Bool → Prop | mk : IsTv true
inductive IsFv : Bool → Prop | mk : IsFv false
theorem a_pickT {c : Operand} {b : Bool} {u : Value} (hc : ev n ρ c = .bool b) (hb : IsTv b) (hx : ev n ρ x = u) : Runs P n ρ ⟨d, .pick c x y, t, pos, after, g⟩ w u w := by cases hb; exact r_pickT hc hx
theorem a_pickF {c : Operand} {b : Bool} {v : Value} (hc : ev n ρ c = .bool b) (hb : IsFv b) (hy : ev n ρ y = v) : Runs P n ρ ⟨d, .pick c x y, t, pos, after, g⟩ w v w := by cases hb; exact r_pickF hc hy
theorem a_notT {b : Bool} (hx : ev n ρ x = .bool b) (hb : IsTv b) : Runs P n ρ ⟨d, .unOp .not T x, t, pos, after, g⟩ w (.bool false) w := by cases hb; exact r_notT hx
theorem a_notF {b : Bool} (hx : ev n ρ x = .bool b) (hb : IsFv b) : Runs P n ρ ⟨d, .unOp .not T x, t, pos, after, g⟩ w (.bool true) w := by cases hb; exact r_notF hx
theorem a_build0 {X : Array Value} {T2 : TypeId} {fr : Nat × Nat} {pl : Array (Nat × Nat)} [hz : ZerO P T (.cells X T2 fr)] [hu : Fct (pls P T) (some pl)] : Runs P n ρ ⟨d, .build T #[], t, pos, after, g⟩ w (.agg X) w := by
 obtain ⟨z, h1, h2⟩ := hz.h
 exact r_build h1 hu.h (ps := []) rfl (by cases h2; rfl)
theorem a_buildA0 {X : Array Value} {T2 : TypeId} {fr : Nat × Nat} {m s : Nat} [hz : ZerO P T (.cells X T2 fr)] [ha : Fct (arr P T) (some (m, s))] : Runs P n ρ ⟨d, .build T #[], t, pos, after, g⟩ w (.agg X) w := by
 obtain ⟨z, h1, h2⟩ := hz.h
 exact r_buildA h1 ha.h (ps := []) rfl (by cases h2; rfl)
theorem a_buildE {α : Type} {E : Enc α} {parts : List (Nat × Operand)} {z : Value} {ps : List (Nat × Value)} {m s : Nat} {l : List α} [hz : Fct (zer P T) (some z)] [ha : Fct (arr P T) (some (m, s))] [hE : ArrE α P T E] (hp : (parts.map fun q => (q.1, ev n ρ q.2)) = ps) (hl : EncP E ps l) (hf : Instr.fill (fun i => some (i * s, s)) z.cells ps = some (cel E l).toArray) : Runs P n ρ ⟨d, .build T parts.toArray, t, pos, after, g⟩ w (.agg (cel E l).toArray) w := r_buildA hz.h ha.h hp hf
theorem a_buildL {parts : List (Nat × Operand)} {z : Value} {ps : List (Nat × Value)} {m s : Nat} {l l' : LV} [hz : Fct (zer P T) (some z)] [ha : Fct (arr P T) (some (m, s))] (hp : (parts.map fun q => (q.1, ev n ρ q.2)) = ps) (hl : z.cells = l.toArray) (hf : FillL (fun i => some (i * s, s)) ps l l') : Runs P n ρ ⟨d, .build T parts.toArray, t, pos, after, g⟩ w (.agg l'.toArray) w := r_buildA hz.h ha.h hp (by rw [hl]; exact hf.eq)
theorem a_buildS {parts : List (Nat × Operand)} {z : Value} {ps : List (Nat × Value)} {pl : Array (Nat × Nat)} {l l' : LV} [hz : Fct (zer P T) (some z)] [hu : Fct (pls P T) (some pl)] (hp : (parts.map fun q => (q.1, ev n ρ q.2)) = ps) (hl : z.cells = l.toArray) (hf : FillL (pl[·]?) ps l l') : Runs P n ρ ⟨d, .build T parts.toArray, t, pos, after, g⟩ w (.agg l'.toArray) w := r_build hz.h hu.h hp (by rw [hl]; exact hf.eq)
theorem a_extract {l : LV} {i : Nat} {v : Value} (hx : ev n ρ x = .tuple l.toArray) (hv : l[i]? = some v) : Runs P n ρ ⟨d, .extract x i, t, pos, after, g⟩ w v w := r_extract hx (by simpa using hv)
end
section
variable {P : Program} {n : Nat} {ρ : Env} {w w' : World} {v : Value} {d : Option Nat} {t T S : TypeId} {pos : String} {after : Array Edge} {g : Option (Nat × Bool)} {x y z : Operand} {f : Nat} {pz : Array (Nat × Operand)} {uo : UnOp}
theorem vg_move (h : Runs P n ρ ⟨d, .move x, t, pos, after, g⟩ w v w') : Runs P n ρ ⟨d, .move x, t, pos, after, g⟩ w v w' := h
theorem vg_assign (h : Runs P n ρ ⟨d, .assign x, t, pos, after, g⟩ w v w') : Runs P n ρ ⟨d, .assign x, t, pos, after, g⟩ w v w' := h
theorem vg_field (h : Runs P n ρ ⟨d, .fieldAddr S x f, t, pos, after, g⟩ w v w') : Runs P n ρ ⟨d, .fieldAddr S x f, t, pos, after, g⟩ w v w' := h
theorem vg_load (h : Runs P n ρ ⟨d, .load T x, t, pos, after, g⟩ w v w') : Runs P n ρ ⟨d, .load T x, t, pos, after, g⟩ w v w' := h
theorem vg_index (h : Runs P n ρ ⟨d, .indexAddr T x y, t, pos, after, g⟩ w v w') : Runs P n ρ ⟨d, .indexAddr T x y, t, pos, after, g⟩ w v w' := h
theorem vg_b_add (h : Runs P n ρ ⟨d, .binOp .add T x y S, t, pos, after, g⟩ w v w') : Runs P n ρ ⟨d, .binOp .add T x y S, t, pos, after, g⟩ w v w' := h
theorem vg_b_sub (h : Runs P n ρ ⟨d, .binOp .sub T x y S, t, pos, after, g⟩ w v w') : Runs P n ρ ⟨d, .binOp .sub T x y S, t, pos, after, g⟩ w v w' := h
theorem vg_b_mul (h : Runs P n ρ ⟨d, .binOp .mul T x y S, t, pos, after, g⟩ w v w') : Runs P n ρ ⟨d, .binOp .mul T x y S, t, pos, after, g⟩ w v w' := h
theorem vg_b_lss (h : Runs P n ρ ⟨d, .binOp .lss T x y S, t, pos, after, g⟩ w v w') : Runs P n ρ ⟨d, .binOp .lss T x y S, t, pos, after, g⟩ w v w' := h
theorem vg_b_eql (h : Runs P n ρ ⟨d, .binOp .eql T x y S, t, pos, after, g⟩ w v w') : Runs P n ρ ⟨d, .binOp .eql T x y S, t, pos, after, g⟩ w v w' := h
theorem vg_b_gtr (h : Runs P n ρ ⟨d, .binOp .gtr T x y S, t, pos, after, g⟩ w v w') : Runs P n ρ ⟨d, .binOp .gtr T x y S, t, pos, after, g⟩ w v w' := h
theorem vg_b_neq (h : Runs P n ρ ⟨d, .binOp .neq T x y S, t, pos, after, g⟩ w v w') : Runs P n ρ ⟨d, .binOp .neq T x y S, t, pos, after, g⟩ w v w' := h
theorem vg_b_geq (h : Runs P n ρ ⟨d, .binOp .geq T x y S, t, pos, after, g⟩ w v w') : Runs P n ρ ⟨d, .binOp .geq T x y S, t, pos, after, g⟩ w v w' := h
theorem vg_b_leq (h : Runs P n ρ ⟨d, .binOp .leq T x y S, t, pos, after, g⟩ w v w') : Runs P n ρ ⟨d, .binOp .leq T x y S, t, pos, after, g⟩ w v w' := h
theorem vg_b_xor (h : Runs P n ρ ⟨d, .binOp .xor T x y S, t, pos, after, g⟩ w v w') : Runs P n ρ ⟨d, .binOp .xor T x y S, t, pos, after, g⟩ w v w' := h
theorem vg_b_and (h : Runs P n ρ ⟨d, .binOp .and T x y S, t, pos, after, g⟩ w v w') : Runs P n ρ ⟨d, .binOp .and T x y S, t, pos, after, g⟩ w v w' := h
theorem vg_b_or (h : Runs P n ρ ⟨d, .binOp .or T x y S, t, pos, after, g⟩ w v w') : Runs P n ρ ⟨d, .binOp .or T x y S, t, pos, after, g⟩ w v w' := h
theorem vg_b_shl (h : Runs P n ρ ⟨d, .binOp .shl T x y S, t, pos, after, g⟩ w v w') : Runs P n ρ ⟨d, .binOp .shl T x y S, t, pos, after, g⟩ w v w' := h
theorem vg_b_shr (h : Runs P n ρ ⟨d, .binOp .shr T x y S, t, pos, after, g⟩ w v w') : Runs P n ρ ⟨d, .binOp .shr T x y S, t, pos, after, g⟩ w v w' := h
theorem vg_b_rem (h : Runs P n ρ ⟨d, .binOp .rem T x y S, t, pos, after, g⟩ w v w') : Runs P n ρ ⟨d, .binOp .rem T x y S, t, pos, after, g⟩ w v w' := h
theorem vg_b_quo (h : Runs P n ρ ⟨d, .binOp .quo T x y S, t, pos, after, g⟩ w v w') : Runs P n ρ ⟨d, .binOp .quo T x y S, t, pos, after, g⟩ w v w' := h
theorem vg_pick (h : Runs P n ρ ⟨d, .pick x y z, t, pos, after, g⟩ w v w') : Runs P n ρ ⟨d, .pick x y z, t, pos, after, g⟩ w v w' := h
theorem vg_unop (h : Runs P n ρ ⟨d, .unOp uo T x, t, pos, after, g⟩ w v w') : Runs P n ρ ⟨d, .unOp uo T x, t, pos, after, g⟩ w v w' := h
theorem vg_build (h : Runs P n ρ ⟨d, .build T pz, t, pos, after, g⟩ w v w') : Runs P n ρ ⟨d, .build T pz, t, pos, after, g⟩ w v w' := h
theorem vg_conv (h : Runs P n ρ ⟨d, .convert S T x, t, pos, after, g⟩ w v w') : Runs P n ρ ⟨d, .convert S T x, t, pos, after, g⟩ w v w' := h
end
theorem ru {R : Prop} (h : R := by first
 |with_reducible apply vg_move
  first
   |with_reducible apply vmvP
    rfl
   |with_reducible apply vmvS
    rfl
   |with_reducible apply vmvW
    rfl
   |with_reducible apply vmvY
    rfl
   |with_reducible apply vmvX
    rfl
   |with_reducible apply vmvl64
    rfl
    rfl
   |with_reducible apply vmvl8
    rfl
    rfl
   |with_reducible apply vmvl32
    rfl
    rfl
   |with_reducible apply vmvG
    rfl
   |with_reducible apply vmvI
    rfl
   |with_reducible apply vmvB
    rfl
   |with_reducible apply vmvA
    rfl
   |with_reducible apply vmvF
    rfl
   |with_reducible apply vmvN
    rfl
   |with_reducible apply vmvT
    rfl
   |with_reducible apply r_move
    rfl
 |with_reducible apply vg_assign
  first
   |with_reducible apply vavP
    rfl
   |with_reducible apply vavS
    rfl
   |with_reducible apply vavW
    rfl
   |with_reducible apply vavY
    rfl
   |with_reducible apply vavX
    rfl
   |with_reducible apply vavl64
    rfl
    rfl
   |with_reducible apply vavl8
    rfl
    rfl
   |with_reducible apply vavl32
    rfl
    rfl
   |with_reducible apply vavG
    rfl
   |with_reducible apply vavI
    rfl
   |with_reducible apply vavB
    rfl
   |with_reducible apply vavA
    rfl
   |with_reducible apply vavF
    rfl
   |with_reducible apply vavN
    rfl
   |with_reducible apply vavT
    rfl
   |with_reducible apply r_assign
    rfl
 |with_reducible apply r_nilCheck
  rfl
 |with_reducible apply vg_field
  first
   |with_reducible apply a_field0
    rfl
    decide
   |with_reducible apply a_field
    rfl
    decide
   |with_reducible apply a_fieldS
    rfl
    decide
    exact vRd
    first | omega | (simp only [List.length_set]; omega) | exact Nat.le_of_ble_eq_true rfl | exact BitVec.isLt _ | (simp <;> omega)
 |with_reducible apply a_extract
  rfl
  rfl
 |with_reducible apply vg_load
  first
   |with_reducible apply a_loadC
    rfl
    exact vGa
    rfl
   |with_reducible apply a_ldN
    rfl
    exact vGa
    ((repeat (first | with_reducible exact NthL.here | with_reducible apply NthL.there)) <;> fail)
    infer_instance
    infer_instance
    rfl
   |with_reducible apply a_ld0
    rfl
    exact vGa
    infer_instance
    infer_instance
    infer_instance
    rfl
    first | omega | (simp only [List.length_set]; omega) | exact Nat.le_of_ble_eq_true rfl | exact BitVec.isLt _ | (simp <;> omega)
   |with_reducible apply a_loadE
    rfl
    exact vGa
    first | (show _ * 1 = _; omega) | (show _ * 1 = _; simp only [List.length_set]; omega) | rfl | (show _ * 1 = _; simp; omega)
   |with_reducible apply a_loadA
    rfl
    exact vGa
    (repeat (first | with_reducible exact TakL.nil | with_reducible apply TakL.cons | with_reducible apply DrpL.here | with_reducible apply DrpL.there)) <;> fail
   |with_reducible apply a_ldD
    rfl
    exact vRd
    infer_instance
    infer_instance
    infer_instance
    rfl
    first | omega | (simp only [List.length_set]; omega) | exact Nat.le_of_ble_eq_true rfl | exact BitVec.isLt _ | (simp <;> omega)
 |with_reducible apply vg_index
  first
   |with_reducible apply a_index01
    rfl
    rfl
    first | omega | (simp only [List.length_set]; omega) | exact Nat.le_of_ble_eq_true rfl | exact BitVec.isLt _ | (simp <;> omega)
   |with_reducible apply a_index1
    rfl
    rfl
    first | omega | (simp only [List.length_set]; omega) | exact Nat.le_of_ble_eq_true rfl | exact BitVec.isLt _ | (simp <;> omega)
   |with_reducible apply a_index0
    rfl
    rfl
    first | omega | (simp only [List.length_set]; omega) | exact Nat.le_of_ble_eq_true rfl | exact BitVec.isLt _ | (simp <;> omega)
   |with_reducible apply a_index
    rfl
    rfl
    first | omega | (simp only [List.length_set]; omega) | exact Nat.le_of_ble_eq_true rfl | exact BitVec.isLt _ | (simp <;> omega)
   |with_reducible apply a_idxS
    rfl
    exact vRd
    rfl
    first | rfl | omega | (simp; omega)
    first | omega | (simp only [List.length_set]; omega) | exact Nat.le_of_ble_eq_true rfl | exact BitVec.isLt _ | (simp <;> omega)
   |with_reducible apply a_idxT
    rfl
    exact vRd
    rfl
    omega
    first | rfl | omega | (simp; omega)
    first | omega | (simp only [List.length_set]; omega) | exact Nat.le_of_ble_eq_true rfl | exact BitVec.isLt _ | (simp <;> omega)
   |with_reducible apply a_indexT
    rfl
    rfl
    omega
    omega
   |with_reducible apply a_indexT1
    rfl
    rfl
    omega
    omega
   |with_reducible apply a_indexT2
    rfl
    rfl
    omega
    omega
   |with_reducible apply a_indexT3
    rfl
    rfl
    omega
    omega
 |with_reducible apply a_lenS
  rfl
 |with_reducible apply vg_b_add
  first
   |with_reducible apply r_addI
    rfl
    rfl
    omega
   |with_reducible apply r_add64
    first | rfl | exact litU64 rfl rfl
    first | rfl | exact litU64 rfl rfl
   |with_reducible apply r_add8
    first | rfl | exact litU8 rfl rfl
    first | rfl | exact litU8 rfl rfl
 |with_reducible apply vg_b_sub
  first
   |with_reducible apply r_subI
    rfl
    rfl
    omega
   |with_reducible apply r_sub64
    first | rfl | exact litU64 rfl rfl
    first | rfl | exact litU64 rfl rfl
   |with_reducible apply r_sub8
    first | rfl | exact litU8 rfl rfl
    first | rfl | exact litU8 rfl rfl
 |with_reducible apply vg_b_mul
  first
   |with_reducible apply r_mulI
    rfl
    rfl
    omega
   |with_reducible apply r_mul64
    first | rfl | exact litU64 rfl rfl
    first | rfl | exact litU64 rfl rfl
   |with_reducible apply r_mul8
    first | rfl | exact litU8 rfl rfl
    first | rfl | exact litU8 rfl rfl
 |with_reducible apply vg_b_lss
  first
   |with_reducible apply r_lssI
    rfl
    rfl
   |with_reducible apply r_lss64
    first | rfl | exact litU64 rfl rfl
    first | rfl | exact litU64 rfl rfl
   |with_reducible apply r_lss8
    first | rfl | exact litU8 rfl rfl
    first | rfl | exact litU8 rfl rfl
 |with_reducible apply vg_b_eql
  first
   |with_reducible apply r_eqlI
    rfl
    rfl
   |with_reducible apply r_eql64
    first | rfl | exact litU64 rfl rfl
    first | rfl | exact litU64 rfl rfl
   |with_reducible apply r_eql8
    first | rfl | exact litU8 rfl rfl
    first | rfl | exact litU8 rfl rfl
   |with_reducible apply a_eqlIN
    rfl
    rfl
   |with_reducible apply a_eqlNN
    rfl
    rfl
 |with_reducible apply vg_b_gtr
  first
   |with_reducible apply r_gtrI
    rfl
    rfl
   |with_reducible apply r_gtr64
    first | rfl | exact litU64 rfl rfl
    first | rfl | exact litU64 rfl rfl
   |with_reducible apply r_gtr8
    first | rfl | exact litU8 rfl rfl
    first | rfl | exact litU8 rfl rfl
 |with_reducible apply vg_b_neq
  first
   |with_reducible apply r_neqI
    rfl
    rfl
   |with_reducible apply r_neq64
    first | rfl | exact litU64 rfl rfl
    first | rfl | exact litU64 rfl rfl
   |with_reducible apply r_neq8
    first | rfl | exact litU8 rfl rfl
    first | rfl | exact litU8 rfl rfl
   |with_reducible apply a_neqNN
    rfl
    rfl
   |with_reducible apply a_neqIN
    rfl
    rfl
 |with_reducible apply vg_b_geq
  first
   |with_reducible apply r_geqI
    rfl
    rfl
   |with_reducible apply r_geq64
    first | rfl | exact litU64 rfl rfl
    first | rfl | exact litU64 rfl rfl
   |with_reducible apply r_geq8
    first | rfl | exact litU8 rfl rfl
    first | rfl | exact litU8 rfl rfl
 |with_reducible apply vg_b_leq
  first
   |with_reducible apply r_leqI
    rfl
    rfl
   |with_reducible apply r_leq64
    first | rfl | exact litU64 rfl rfl
    first | rfl | exact litU64 rfl rfl
   |with_reducible apply r_leq8
    first | rfl | exact litU8 rfl rfl
    first | rfl | exact litU8 rfl rfl
 |with_reducible apply vg_b_xor
  first
   |with_reducible apply r_xor64
    first | rfl | exact litU64 rfl rfl
    first | rfl | exact litU64 rfl rfl
   |with_reducible apply r_xor8
    first | rfl | exact litU8 rfl rfl
    first | rfl | exact litU8 rfl rfl
 |with_reducible apply vg_b_and
  first
   |with_reducible apply r_and64
    first | rfl | exact litU64 rfl rfl
    first | rfl | exact litU64 rfl rfl
   |with_reducible apply r_and8
    first | rfl | exact litU8 rfl rfl
    first | rfl | exact litU8 rfl rfl
 |with_reducible apply vg_b_or
  first
   |with_reducible apply r_or64
    first | rfl | exact litU64 rfl rfl
    first | rfl | exact litU64 rfl rfl
   |with_reducible apply r_or8
    first | rfl | exact litU8 rfl rfl
    first | rfl | exact litU8 rfl rfl
 |with_reducible apply vg_b_shl
  first
   |with_reducible apply r_shl64
    first | rfl | exact litU64 rfl rfl
    rfl
   |with_reducible apply r_shl8
    first | rfl | exact litU8 rfl rfl
    rfl
 |with_reducible apply vg_b_shr
  first
   |with_reducible apply r_shr64
    first | rfl | exact litU64 rfl rfl
    rfl
   |with_reducible apply r_shr8
    first | rfl | exact litU8 rfl rfl
    rfl
 |with_reducible apply vg_b_rem
  first
   |with_reducible apply r_rem64
    first | rfl | exact litU64 rfl rfl
    first | rfl | exact litU64 rfl rfl
    decide
   |with_reducible apply r_remI
    rfl
    rfl
    omega
 |with_reducible apply vg_b_quo
  first
   |with_reducible apply r_quo64
    first | rfl | exact litU64 rfl rfl
    first | rfl | exact litU64 rfl rfl
    decide
   |with_reducible apply r_quoI
    rfl
    rfl
    omega
 |with_reducible apply vg_pick
  first
   |with_reducible apply a_pickT
    rfl
    with_reducible exact IsTv.mk
    rfl
   |with_reducible apply a_pickF
    rfl
    with_reducible exact IsFv.mk
    rfl
 |with_reducible apply vg_unop
  first
   |with_reducible apply a_notT
    rfl
    with_reducible exact IsTv.mk
   |with_reducible apply a_notF
    rfl
    with_reducible exact IsFv.mk
   |with_reducible apply r_not
    rfl
 |with_reducible apply vg_build
  first
   |with_reducible apply a_build0
   |with_reducible apply a_buildA0
   |with_reducible apply a_buildE
    rfl
    ((repeat (first | exact EncP.nil | (apply EncP.cons; rfl))) <;> fail)
    rfl
   |with_reducible apply a_buildL
    rfl
    rfl
    ((repeat (first | exact FillL.nil | (apply FillL.cons; rfl; exact vE; rfl; rfl; ((repeat (first | exact PutL.nil | apply PutL.here | apply PutL.there)) <;> fail)))) <;> fail)
   |with_reducible apply a_buildS
    rfl
    rfl
    ((repeat (first | exact FillL.nil | (apply FillL.cons; rfl; exact vE; rfl; rfl; ((repeat (first | exact PutL.nil | apply PutL.here | apply PutL.there)) <;> fail)))) <;> fail)
 |with_reducible apply a_mkI
  rfl
 |with_reducible apply vg_conv
  first
   |with_reducible apply a_Ito64
    rfl
   |with_reducible apply a_64toI
    rfl
   |with_reducible apply a_8toI
    rfl
   |with_reducible apply a_Ito8
    rfl
   |with_reducible apply a_8to64
    rfl
   |with_reducible apply a_64to8
    rfl
 |with_reducible apply r_maxI
  rfl
  rfl
 |with_reducible apply r_minI
  rfl
  rfl) : R := h
theorem yes {P : Program} {n : Nat} {ρ : Env} {o : Oper} {w w' : World} {p : Prop} {_ : Decidable p} (h : Runs P n ρ o w (.bool (decide p)) w') (hp : p := by omega) : Runs P n ρ o w (.bool true) w' := h.as (congrArg Value.bool (decide_eq_true hp))
theorem no {P : Program} {n : Nat} {ρ : Env} {o : Oper} {w w' : World} {p : Prop} {_ : Decidable p} (h : Runs P n ρ o w (.bool (decide p)) w') (hp : ¬ p := by omega) : Runs P n ρ o w (.bool false) w' := h.as (congrArg Value.bool (decide_eq_false hp))
theorem vNP {v : Value} {p : Option Addr} (h : v = .pointer p) : v = .pointer p := h
theorem vNS {v : Value} {p : Option Addr} {m c : Nat} (h : v = .slice p m c) : v = .slice p m c := h
theorem vNW {v : Value} {i : BitVec 64} (h : v = u64 i) : v = u64 i := h
theorem vNY {v : Value} {i : BitVec 8} (h : v = u8 i) : v = u8 i := h
theorem vNX {v : Value} {i : BitVec 32} (h : v = u32 i) : v = u32 i := h
theorem vNG {v : Value} {i : Int} (h : v = i64 i) : v = i64 i := h
theorem vNI {v : Value} {kk : IntKind} {i : Int} (h : v = .int kk i) : v = .int kk i := h
theorem vNB {v : Value} {c : Bool} (h : v = .bool c) : v = .bool c := h
theorem vNA {v : Value} {cs : Array Value} (h : v = .agg cs) : v = .agg cs := h
theorem vNF {v : Value} {T : TypeId} {u : Value} (h : v = .iface T u) : v = .iface T u := h
theorem vNN {v : Value}  (h : v = .nilIface) : v = .nilIface := h
theorem vNT {v : Value} {cs : Array Value} (h : v = .tuple cs) : v = .tuple cs := h
theorem vNl64 {v : Value} {k : Nat} (h : v = .int .u64 (@OfNat.ofNat Int k instOfNat)) (hk : Nat.blt k 18446744073709551616 = true) : v = u64 (BitVec.ofNat 64 k) := by
 rw [h]
 have hk2 : k < 18446744073709551616 := by simpa [Nat.blt_eq] using hk
 show Value.int .u64 (k : Int) = Value.int .u64 ((BitVec.ofNat 64 k).toNat : Int)
 rw [BitVec.toNat_ofNat, Nat.mod_eq_of_lt (by omega)]
theorem vNl8 {v : Value} {k : Nat} (h : v = .int .u8 (@OfNat.ofNat Int k instOfNat)) (hk : Nat.blt k 256 = true) : v = u8 (BitVec.ofNat 8 k) := by
 rw [h]
 have hk2 : k < 256 := by simpa [Nat.blt_eq] using hk
 show Value.int .u8 (k : Int) = Value.int .u8 ((BitVec.ofNat 8 k).toNat : Int)
 rw [BitVec.toNat_ofNat, Nat.mod_eq_of_lt (by omega)]
theorem vNl32 {v : Value} {k : Nat} (h : v = .int .u32 (@OfNat.ofNat Int k instOfNat)) (hk : Nat.blt k 4294967296 = true) : v = u32 (BitVec.ofNat 32 k) := by
 rw [h]
 have hk2 : k < 4294967296 := by simpa [Nat.blt_eq] using hk
 show Value.int .u32 (k : Int) = Value.int .u32 ((BitVec.ofNat 32 k).toNat : Int)
 rw [BitVec.toNat_ofNat, Nat.mod_eq_of_lt (by omega)]
theorem vE {v u : Value} (h : v = u := by first | exact vNP (by rfl) | exact vNS (by rfl) | exact vNW (by rfl) | exact vNY (by rfl) | exact vNX (by rfl) | exact vNl64 (by rfl) (by rfl) | exact vNl8 (by rfl) (by rfl) | exact vNl32 (by rfl) (by rfl) | exact vNG (by rfl) | exact vNI (by rfl) | exact vNB (by rfl) | exact vNA (by rfl) | exact vNF (by rfl) | exact vNN (by rfl) | exact vNT (by rfl) | rfl) : v = u := h
section
variable {P : Program} {n : Nat} {ops : Array Oper} {Q : Exit → Act → World → Prop} {ρ : Env} {w w₀ : World} {M : Nat → Prop} {L L' : List RW} {d : Option Nat} {t T : TypeId} {pos : String} {after : Array Edge} {rest : List Oper} {x y : Operand} {b off : Nat} {X : TypeId}
theorem vsR {id : Nat} {l : List Oper} {y : Code} (h : W P n l.toArray (Exit.then (y.wp P Q) Q) l ρ w) : (Code.seq (.region id l.toArray false) y).wp P Q (St n ρ) w := seqRegion h
inductive IsT : Bool → Prop | mk : IsT true
inductive IsF : Bool → Prop | mk : IsF false
theorem vcT {c : Operand} {b : Bool} {x y : Code} (hc : ev n ρ c = .bool b) (hb : IsT b) (h : x.wp P Q (St n ρ) w) : (Code.cond c x y).wp P Q (St n ρ) w := by cases hb; exact condTrue hc h
theorem vcF {c : Operand} {b : Bool} {x y : Code} (hc : ev n ρ c = .bool b) (hb : IsF b) (h : y.wp P Q (St n ρ) w) : (Code.cond c x y).wp P Q (St n ρ) w := by cases hb; exact condFalse hc h
theorem vqT {op : Op} {v : Value} {w' : World} {j d' : Nat} {c : Bool} (hj : (ops[j]?).bind (·.dst) = some d') (hd : Nat.blt d' n = true) (hb : ρ d' = .bool c) (hw : IsT c) (hr : Runs P n ρ ⟨d, op, t, pos, after, some (j, true)⟩ w v w') (h : W P n ops Q rest (updo ρ d v) w') : W P n ops Q (⟨d, op, t, pos, after, some (j, true)⟩ :: rest) ρ w := by
 cases hw; exact sqAny (by rw [wantedSome hj hd hb]; rfl) hr h
theorem vqF {op : Op} {v : Value} {w' : World} {j d' : Nat} {c : Bool} (hj : (ops[j]?).bind (·.dst) = some d') (hd : Nat.blt d' n = true) (hb : ρ d' = .bool c) (hw : IsF c) (hr : Runs P n ρ ⟨d, op, t, pos, after, some (j, false)⟩ w v w') (h : W P n ops Q rest (updo ρ d v) w') : W P n ops Q (⟨d, op, t, pos, after, some (j, false)⟩ :: rest) ρ w := by
 cases hw; exact sqAny (by rw [wantedSome hj hd hb]; rfl) hr h
theorem vkT {op : Op} {j d' : Nat} {c : Bool} (hj : (ops[j]?).bind (·.dst) = some d') (hd : Nat.blt d' n = true) (hb : ρ d' = .bool c) (hw : IsF c) (h : W P n ops Q rest (updo ρ d undef) w) : W P n ops Q (⟨d, op, t, pos, after, some (j, true)⟩ :: rest) ρ w := by
 cases hw; exact skAny (by rw [wantedSome hj hd hb]; rfl) h
theorem vkF {op : Op} {j d' : Nat} {c : Bool} (hj : (ops[j]?).bind (·.dst) = some d') (hd : Nat.blt d' n = true) (hb : ρ d' = .bool c) (hw : IsT c) (h : W P n ops Q rest (updo ρ d undef) w) : W P n ops Q (⟨d, op, t, pos, after, some (j, false)⟩ :: rest) ρ w := by
 cases hw; exact skAny (by rw [wantedSome hj hd hb]; rfl) h
theorem vkU {op : Op} {j d' : Nat} {want : Bool} (hj : (ops[j]?).bind (·.dst) = some d') (hd : Nat.blt d' n = true) (hb : ρ d' = undef) (h : W P n ops Q rest (updo ρ d undef) w) : W P n ops Q (⟨d, op, t, pos, after, some (j, want)⟩ :: rest) ρ w :=
 skAny (wantedUndef hj hd hb) h
theorem mAlloc {o : Obj} [hz : ZerO P T o] (H : Hp M w₀ w L) (h : ∀ b w', w.heap.size ≤ b → Hp M w₀ w' ((some b, o) :: L) → Ext w w' → W P n ops Q rest (updo ρ d (.pointer (some ⟨b, 0, none⟩))) w') : W P n ops Q (⟨d, .alloc T, t, pos, after, none⟩ :: rest) ρ w := by
 obtain ⟨z, h1, h2⟩ := hz.h
 exact q_alloc H h1 h2 h
theorem mBox {v : Value} {l : LV} (H : Hp M w₀ w L) (hx : ev n ρ x = v) (hl : v.cells = l.toArray) (h : ∀ b w', w.heap.size ≤ b → Hp M w₀ w' ((some b, .cells l.toArray T (0, 0)) :: L) → Ext w w' → W P n ops Q rest (updo ρ d (.pointer (some ⟨b, 0, none⟩))) w') : W P n ops Q (⟨d, .box T x, t, pos, after, none⟩ :: rest) ρ w :=
 q_box H hx (by rw [hl]) h
theorem mStoreE {α : Type} {E : Enc α} {l : List α} {v : α} {F : RW → List RW} [h2 : Fct (siz P T) (some 1)] (H : Hp M w₀ w L) (hx : ev n ρ x = .pointer (some ⟨b, off, none⟩)) (hL : SetF (some b) (.cells (cel E l).toArray X (0, 0)) L F) (hE : E.s = 1) (hy : ev n ρ y = E.val v) (ho : off < l.length)
  (h : ∀ w', Hp M w₀ w' (F (some b, .cells (cel E (l.set off v)).toArray X (0, 0))) → Chg (· = b) w w' → W P n ops Q rest ρ w') : W P n ops Q (⟨none, .store T x y, t, pos, after, none⟩ :: rest) ρ w := by
 obtain ⟨k, hk, e⟩ := hL.at
 refine d_store H hk hx hy h2.h (by rw [E.hs, hE]) (E.one _) (by rw [List.size_toArray, cel_length, hE]; omega) (put1 hE _ _ _) fun w' H' hC => h w' (by rw [← e]; exact H') hC
theorem mStoreI {α : Type} {E : Enc α} {l l' : List α} {v : α} {F : RW → List RW} [h2 : Fct (siz P T) (some 1)] (H : Hp M w₀ w L) (hx : ev n ρ x = .pointer (some ⟨b, off, none⟩)) (hL : SetF (some b) (.cells (cel E l).toArray X (0, 0)) L F) (hE : E.s = 1) (hy : ev n ρ y = E.val v) (hl : SetL v l off l')
  (h : ∀ w', Hp M w₀ w' (F (some b, .cells (cel E l').toArray X (0, 0))) → Chg (· = b) w w' → W P n ops Q rest ρ w') : W P n ops Q (⟨none, .store T x y, t, pos, after, none⟩ :: rest) ρ w := by
 obtain ⟨rfl, ho⟩ := hl.eq
 exact mStoreE H hx hL hE hy ho h
theorem mStoreA {α : Type} {E : Enc α} {l l' : List α} {s : Nat} {F : RW → List RW} [h2 : Fct (siz P T) (some s)] (H : Hp M w₀ w L) (hx : ev n ρ x = .pointer (some ⟨b, 0, none⟩)) (hL : SetF (some b) (.cells (cel E l).toArray X (0, 0)) L F) (hy : ev n ρ y = .agg (cel E l').toArray) (ho : l.length * E.s = s) (ho' : l'.length * E.s = s)
  (h : ∀ w', Hp M w₀ w' (F (some b, .cells (cel E l').toArray X (0, 0))) → Chg (· = b) w w' → W P n ops Q rest ρ w') : W P n ops Q (⟨none, .store T x y, t, pos, after, none⟩ :: rest) ρ w := by
 obtain ⟨k, hk, e⟩ := hL.at
 have e2 : l.length = l'.length := Nat.eq_of_mul_eq_mul_right E.pos (by omega)
 exact d_store H hk hx hy h2.h (celSize ho') (celOne _) (by rw [List.size_toArray, cel_length]; omega) (putAll e2) fun w' H' hC => h w' (by rw [← e]; exact H') hC
theorem mStoreV {l l' vs : LV} {v : Value} {s : Nat} {F : RW → List RW} [h2 : Fct (siz P T) (some s)] (H : Hp M w₀ w L) (hx : ev n ρ x = .pointer (some ⟨b, off, none⟩)) (hL : SetF (some b) (.cells l.toArray X (0, 0)) L F) (hy : ev n ρ y = v) (hv : v.cells = vs.toArray) (hl : PutL vs l off l') (hs : Nat.beq vs.length s = true) (h1 : (vs.all fun u => u.oneCell') = true)
  (h : ∀ w', Hp M w₀ w' (F (some b, .cells l'.toArray X (0, 0))) → Chg (· = b) w w' → W P n ops Q rest ρ w') : W P n ops Q (⟨none, .store T x y, t, pos, after, none⟩ :: rest) ρ w := by
 obtain ⟨k, hk, e⟩ := hL.at
 obtain ⟨e1, e2⟩ := hl.eq
 have hs' := Nat.eq_of_beq_eq_true hs
 exact d_store (cs' := l'.toArray) H hk hx hy h2.h (by rw [hv]; simpa using hs') (by rw [hv]; intro u hu; exact List.all_eq_true.1 h1 u (by simpa using hu)) (by rw [List.size_toArray]; omega) (by rw [hv]; simpa using e1) fun w' H' hC => h w' (by rw [← e]; exact H') hC
theorem mSlot {α : Type} {E : Enc α} {l : List α} {j k c : Nat} {v : α} {key : Option Nat} {sp : LV} {F : RW → List RW} [h2 : Fct (siz P T) (some k)] (H : Hp M w₀ w L) (hx : ev n ρ x = .pointer (adr (ownA key) (j * k))) (hL : SetF key (sob E X l sp) L F) (hS : Sl E key l c sp) (hk : k = E.s) (hy : ev n ρ y = E.val v) (hj : j < l.length)
  (h : ∀ w', Sl E key (l.set j v) c sp → Hp M w₀ w' (F (key, sob E X (l.set j v) sp)) → W P n ops Q rest ρ w') : W P n ops Q (⟨none, .store T x y, t, pos, after, none⟩ :: rest) ρ w := by
 obtain ⟨i, hi, e⟩ := hL.at
 subst hk
 exact d_storeS (a := l[j]) H hi hS hx rfl hy rfl h2.h (List.getElem?_eq_getElem hj) fun w' hS' H' => h w' hS' (by rw [← e]; exact H')
theorem mApp {α : Type} {E : Enc α} {l l2 : List α} {S T : TypeId} {s m c m2 c2 by' : Nat} {z : Value} {a2 : Option Addr} {key : Option Nat} {sp : LV} {F : RW → List RW} [hT : Fct (sli P S) (some (T, s))] [hz : Fct (zer P T) (some z)] [hby : Fct (byt P T) (some by')] (H : Hp M w₀ w L) (hx : ev n ρ x = .slice (ownA key) m c) (hL : SetF key (sob E T l sp) L F) (hS : Sl E key l c sp) (hy : ev n ρ y = .slice a2 m2 c2) (hR : Rd E w a2 l2) (hs : s = E.s) (hzs : z.cells.size = s)
  (hm : m = l.length) (hm2 : m2 = l2.length) (hb : (m + m2) * by' ≤ 140737488355328 ∧ m + m2 ≤ 140737488355328)
  (h : ∀ key' c' sp' w', Sl E key' (l ++ l2) c' sp' → (l2 ≠ [] → key' ≠ none) → Hp M w₀ w' (F (key', sob E T (l ++ l2) sp')) → W P n ops Q rest (updo ρ d (.slice (ownA key') (m + m2) c')) w') :
  W P n ops Q (⟨d, .call ⟨.builtin .append, #[x, y], #[S, S]⟩, t, pos, after, none⟩ :: rest) ρ w := by
 obtain ⟨k, hk, e⟩ := hL.at
 subst hs
 exact q_append H hk hS hT.h hz.h hzs hby.h hR hx hm hy hm2 hb fun key' c' sp' w' h1 h2 h3 => h key' c' sp' w' h1 h2 (by rw [← e]; exact h3)
theorem mAppQ {α : Type} {E : Enc α} {l l2 : List α} {S T : TypeId} {s m c m2 c2 by' : Nat} {z : Value} {a2 : Option Addr} {key : Option Nat} {sp : LV} {F : RW → List RW} [hT : Fct (sli P S) (some (T, s))] [hz : Fct (zer P T) (some z)] [hby : Fct (byt P T) (some by')] (H : Hp M w₀ w L) (hx : ev n ρ x = .slice (ownA key) m c) (hL : SetF key (sob E T l sp) L F) (hS : Sl E key l c sp) (hy : ev n ρ y = .slice a2 m2 c2) (hR : Rd E w a2 l2) (hs : s = E.s) (hzs : z.cells.size = s)
  (h : m = l.length ∧ m2 = l2.length ∧ ((m + m2) * by' ≤ 140737488355328 ∧ m + m2 ≤ 140737488355328) ∧ ∀ key' c' sp' w', Sl E key' (l ++ l2) c' sp' → (l2 ≠ [] → key' ≠ none) → Hp M w₀ w' (F (key', sob E T (l ++ l2) sp')) → W P n ops Q rest (updo ρ d (.slice (ownA key') (m + m2) c')) w') :
  W P n ops Q (⟨d, .call ⟨.builtin .append, #[x, y], #[S, S]⟩, t, pos, after, none⟩ :: rest) ρ w := mApp H hx hL hS hy hR hs hzs h.1 h.2.1 h.2.2.1 h.2.2.2
theorem bS {α : Type} {E : Enc α} {l : List α} {S T : TypeId} {s m : Nat} {z : Value} {parts : List (Nat × Operand)} {ps : List (Nat × Value)} [hT : Fct (sli P S) (some (T, s))] [hz : Fct (zer P T) (some z)] (h : ∀ b w', Sl E (some b) l m [] → Hp M w₀ w' ((some b, sob E T l []) :: L) → Ext w w' → W P n ops Q rest (updo ρ d (.slice (ownA (some b)) m m)) w')
  (H : Hp M w₀ w L := by exact vAs) (hs : s = E.s := by rfl) (hp : (parts.map fun q => (q.1, ev n ρ q.2)) = ps := by rfl) (hm : m = l.length := by rfl) (hps : ps = l.zipIdx.map fun p => (p.2, E.val p.1) := by rfl) (hb : Nat.ble (m * s) 16777216 = true := by rfl) :
  W P n ops Q (⟨d, .buildSlice S m parts.toArray, t, pos, after, none⟩ :: rest) ρ w := by
 subst hs
 exact q_buildSlice H hT.h hz.h (Nat.le_of_ble_eq_true hb) (by simpa using hp) (fillAll hm hps) hm h
theorem cl {f : FuncId} {xs : List Operand} {ats : Array TypeId} {vs : LV} {R : Value → World → Prop} [hf : Fct (callable P f) true] (hc : Calls P f vs.toArray w fun e w' => ∃ v, e = .returned v ∧ R v w') (h : ∀ v w', R v w' → W P n ops Q rest (updo ρ d v) w') (ha : xs.map (ev n ρ) = vs := by rfl) :
  W P n ops Q (⟨d, .call ⟨.value (.func f), xs.toArray, ats⟩, t, pos, after, none⟩ :: rest) ρ w := c_call hf.h ha hc h
theorem asN {o : Oper} {w' : World} {z : Int} (k : Nat) (h : Runs P n ρ o w (i64 z) w') (e : z = (k : Int) := by omega) : Runs P n ρ o w (i64 (k : Int)) w' := h.as (congrArg i64 e)
inductive ResO (P : Program) (n : Nat) (ρ : Env) (w : World) : List ResultVar → LV → Prop
 |nil : ResO P n ρ w [] []
 |tmp {t : Nat} {v : Value} {rs : List ResultVar} {vs : LV} (h1 : Nat.blt t n = true) (h2 : ρ t = v) (h : ResO P n ρ w rs vs) : ResO P n ρ w (.tmp t :: rs) (v :: vs)
 |cell {a : Nat} {T : TypeId} {v : Value} {rs : List ResultVar} {vs : LV} (h1 : Runs P n ρ ⟨none, .load T (.tmp a), 0, "", #[], none⟩ w v w) (h : ResO P n ρ w rs vs) : ResO P n ρ w (.cell a T :: rs) (v :: vs)
theorem ResO.ok {rs : List ResultVar} {vs : LV} (h : ResO P n ρ w rs vs) : ResOK P n ρ w rs vs := by
 induction h with
 |nil => trivial
 |tmp h1 h2 _ ih => exact ⟨⟨h1, h2⟩, ih⟩
 |cell h1 _ ih => exact ⟨h1, ih⟩
theorem vRs {rs : List ResultVar} {vs : LV} (h : ResO P n ρ w rs vs := by (repeat (first | exact ResO.nil | (apply ResO.tmp; rfl; exact vE) | (apply ResO.cell; exact ru))) <;> fail) : ResO P n ρ w rs vs := h
theorem retX {fn : Func} {R : Ending → World → Prop} {rs : List ResultVar} {vs : LV} (hr : fn.results = rs.toArray) (h : ResO P n ρ w rs vs) (hR : R (.returned (resV vs)) w) : bodyPost P fn R .ret (St n ρ) w := retG hr h.ok hR
theorem endX {fn : Func} {R : Ending → World → Prop} {rs : List ResultVar} {vs : LV} (hr : fn.results = rs.toArray) (h : ResO P n ρ w rs vs) (hR : R (.returned (resV vs)) w) : bodyPost P fn R .normal (St n ρ) w := endG hr h.ok hR
end
section
variable {P : Program} {m n : Nat} {ops : Array Oper} {Q : Exit → Act → World → Prop} {ρ : Env} {w : World} {d : Option Nat} {op : Op} {t T : TypeId} {x y : Operand} {pos : String} {after : Array Edge} {rest : List Oper} {gg : Nat × Bool} {c : Code} {a : Act} {fn : Func} {R : Ending → World → Prop} {e : Exit}
theorem vgN (h : Fu n (W P m ops Q (⟨d, op, t, pos, after, none⟩ :: rest) ρ w)) : Fu n (W P m ops Q (⟨d, op, t, pos, after, none⟩ :: rest) ρ w) := h
theorem vgG (h : Fu n (W P m ops Q (⟨d, op, t, pos, after, some gg⟩ :: rest) ρ w)) : Fu n (W P m ops Q (⟨d, op, t, pos, after, some gg⟩ :: rest) ρ w) := h
theorem vgE (h : Fu n (W P m ops Q [] ρ w)) : Fu n (W P m ops Q [] ρ w) := h
theorem vgC (h : Fu n (c.wp P Q a w)) : Fu n (c.wp P Q a w) := h
theorem vgR (h : Fu n (bodyPost P fn R e a w)) : Fu n (bodyPost P fn R e a w) := h
theorem vh_store (h : Fu n (W P m ops Q (⟨d, .store T x y, t, pos, after, none⟩ :: rest) ρ w)) : Fu n (W P m ops Q (⟨d, .store T x y, t, pos, after, none⟩ :: rest) ρ w) := h
theorem vh_alloc (h : Fu n (W P m ops Q (⟨d, .alloc T, t, pos, after, none⟩ :: rest) ρ w)) : Fu n (W P m ops Q (⟨d, .alloc T, t, pos, after, none⟩ :: rest) ρ w) := h
theorem vh_box (h : Fu n (W P m ops Q (⟨d, .box T x, t, pos, after, none⟩ :: rest) ρ w)) : Fu n (W P m ops Q (⟨d, .box T x, t, pos, after, none⟩ :: rest) ρ w) := h
end
theorem go (n : Nat) {K G : Prop} (k : K) (h : Kp K → Fu n G := by
 intro k
 repeat (first
  |with_reducible apply vgN
   first
    |with_reducible exact vfZ k.out
    |refine vfS (sq ru) ?_
    |with_reducible apply vh_store
     first
      |refine vfS (mStoreI vAs (by rfl) vSf (by rfl) (by rfl) (by (repeat (first | with_reducible exact SetL.here | with_reducible apply SetL.there)) <;> fail)) ?_
      |refine vfS (mStoreE vAs (by rfl) vSf (by rfl) (by rfl) (by first | omega | (simp only [List.length_set]; omega) | exact Nat.le_of_ble_eq_true rfl | exact BitVec.isLt _ | (simp <;> omega))) ?_
      |refine vfS (mStoreA vAs (by rfl) vSf (by rfl) (by first | (show _ * 1 = _; omega) | (show _ * 1 = _; simp only [List.length_set]; omega) | rfl | (show _ * 1 = _; simp; omega)) (by first | (show _ * 1 = _; omega) | (show _ * 1 = _; simp only [List.length_set]; omega) | rfl | (show _ * 1 = _; simp; omega))) ?_
      |refine vfS (mStoreV vAs (by rfl) vSf vE (by rfl) (by (repeat (first | with_reducible exact PutL.nil | with_reducible apply PutL.here | with_reducible apply PutL.there)) <;> fail) (by rfl) (by rfl)) ?_
      |refine vfS (mSlot vAs (by rfl) vSf vAs (by rfl) (by rfl) (by first | omega | (simp only [List.length_set]; omega) | exact Nat.le_of_ble_eq_true rfl | exact BitVec.isLt _ | (simp <;> omega))) ?_
    |with_reducible apply vh_alloc
     refine vfS (mAlloc vAs) ?_
    |with_reducible apply vh_box
     refine vfS (mBox vAs vE (by rfl)) ?_
    |refine vfS (mApp vAs (by rfl) vSf vAs (by rfl) vRd (by rfl) (by rfl) (by first | rfl | omega | (simp; omega)) (by first | rfl | omega | (simp; omega)) (by omega)) ?_
    |refine vfS (mApp (key := none) vAs (by rfl) vSf vAs (by rfl) vRd (by rfl) (by rfl) (by first | rfl | omega | (simp; omega)) (by first | rfl | omega | (simp; omega)) (by omega)) ?_
  |with_reducible apply vgG
   first
    |refine vfA (vkT (by rfl) (by rfl) (by rfl) (by with_reducible exact IsF.mk)) ?_
    |refine vfA (vkF (by rfl) (by rfl) (by rfl) (by with_reducible exact IsT.mk)) ?_
    |refine vfA (vkU (by rfl) (by rfl) (by rfl)) ?_
    |with_reducible exact vfZ k.out
    |refine vfS (vqT (by rfl) (by rfl) (by rfl) (by with_reducible exact IsT.mk) ru) ?_
    |refine vfS (vqF (by rfl) (by rfl) (by rfl) (by with_reducible exact IsF.mk) ru) ?_
  |with_reducible apply vgE
   first
    |with_reducible refine vfA wend ?_
    |with_reducible refine vfA wnil ?_
  |with_reducible apply vgC
   first
    |with_reducible refine vfA vsR ?_
    |with_reducible refine vfA seqAny ?_
    |with_reducible refine vfA blockAny ?_
    |with_reducible refine vfA skipAny ?_
    |with_reducible refine vfA oneRegion ?_
    |with_reducible refine vfA exitAny ?_
    |with_reducible refine vfA retAny ?_
    |refine vfA (vcT (by rfl) (by with_reducible exact IsT.mk)) ?_
    |refine vfA (vcF (by rfl) (by with_reducible exact IsF.mk)) ?_
    |with_reducible exact vfZ k.out
  |with_reducible apply vgR
   first
    |refine vfA (retX (by rfl) vRs) ?_
    |refine vfA (endX (by rfl) vRs) ?_
  |with_reducible refine vfA thenNormal ?_
  |with_reducible refine vfA blockNormal ?_
  |with_reducible refine vfA thenExit ?_
  |with_reducible refine vfA thenRet ?_
  |with_reducible refine vfA blockRet ?_
  |with_reducible refine vfA blockHere ?_
  |refine vfA (blockOut (by rfl)) ?_
  |with_reducible refine vfA wend ?_
  |with_reducible refine vfA vsR ?_
  |with_reducible refine vfA seqAny ?_
  |with_reducible refine vfA blockAny ?_
  |with_reducible refine vfA skipAny ?_
  |with_reducible refine vfA thenNormal ?_
  |with_reducible refine vfA blockNormal ?_
  |with_reducible refine vfA oneRegion ?_
  |with_reducible refine vfA exitAny ?_
  |with_reducible refine vfA thenExit ?_
  |with_reducible refine vfA thenRet ?_
  |with_reducible refine vfA blockRet ?_
  |with_reducible refine vfA retAny ?_
  |with_reducible refine vfA blockHere ?_
  |refine vfA (blockOut (by rfl)) ?_
  |refine vfA (vcT (by rfl) (by with_reducible exact IsT.mk)) ?_
  |refine vfA (vcF (by rfl) (by with_reducible exact IsF.mk)) ?_
  |with_reducible refine vfA wnil ?_
  |refine vfA (retX (by rfl) vRs) ?_
  |refine vfA (endX (by rfl) vRs) ?_
  |refine vfA (vkT (by rfl) (by rfl) (by rfl) (by with_reducible exact IsF.mk)) ?_
  |refine vfA (vkF (by rfl) (by rfl) (by rfl) (by with_reducible exact IsT.mk)) ?_
  |refine vfA (vkU (by rfl) (by rfl) (by rfl)) ?_
  |with_reducible exact vfZ k.out
  |refine vfS (sq ru) ?_
  |refine vfS (vqT (by rfl) (by rfl) (by rfl) (by with_reducible exact IsT.mk) ru) ?_
  |refine vfS (vqF (by rfl) (by rfl) (by rfl) (by with_reducible exact IsF.mk) ru) ?_
  |refine vfS (mAlloc vAs) ?_
  |refine vfS (mBox vAs vE (by rfl)) ?_
  |refine vfS (mStoreI vAs (by rfl) vSf (by rfl) (by rfl) (by (repeat (first | with_reducible exact SetL.here | with_reducible apply SetL.there)) <;> fail)) ?_
  |refine vfS (mStoreE vAs (by rfl) vSf (by rfl) (by rfl) (by first | omega | (simp only [List.length_set]; omega) | exact Nat.le_of_ble_eq_true rfl | exact BitVec.isLt _ | (simp <;> omega))) ?_
  |refine vfS (mStoreA vAs (by rfl) vSf (by rfl) (by first | (show _ * 1 = _; omega) | (show _ * 1 = _; simp only [List.length_set]; omega) | rfl | (show _ * 1 = _; simp; omega)) (by first | (show _ * 1 = _; omega) | (show _ * 1 = _; simp only [List.length_set]; omega) | rfl | (show _ * 1 = _; simp; omega))) ?_
  |refine vfS (mStoreV vAs (by rfl) vSf vE (by rfl) (by (repeat (first | with_reducible exact PutL.nil | with_reducible apply PutL.here | with_reducible apply PutL.there)) <;> fail) (by rfl) (by rfl)) ?_
  |refine vfS (mSlot vAs (by rfl) vSf vAs (by rfl) (by rfl) (by first | omega | (simp only [List.length_set]; omega) | exact Nat.le_of_ble_eq_true rfl | exact BitVec.isLt _ | (simp <;> omega))) ?_
  |refine vfS (mApp vAs (by rfl) vSf vAs (by rfl) vRd (by rfl) (by rfl) (by first | rfl | omega | (simp; omega)) (by first | rfl | omega | (simp; omega)) (by omega)) ?_
  |refine vfS (mApp (key := none) vAs (by rfl) vSf vAs (by rfl) vRd (by rfl) (by rfl) (by first | rfl | omega | (simp; omega)) (by first | rfl | omega | (simp; omega)) (by omega)) ?_)) : G := (h ⟨k⟩).out
theorem gj (n : Nat) {K G : Prop} (k : K) (h : Kp K → Fu n G := by
 intro k
 repeat (first
  |with_reducible apply vgN
   first
    |with_reducible exact vfZ k.out
    |refine vfS (sq ru) ?_
    |with_reducible apply vh_store
     first
      |refine vfS (mStoreI vAs (by rfl) vSf (by rfl) (by rfl) (by (repeat (first | with_reducible exact SetL.here | with_reducible apply SetL.there)) <;> fail)) ?_
      |refine vfS (mStoreE vAs (by rfl) vSf (by rfl) (by rfl) (by first | omega | (simp only [List.length_set]; omega) | exact Nat.le_of_ble_eq_true rfl | exact BitVec.isLt _ | (simp <;> omega))) ?_
      |refine vfS (mStoreA vAs (by rfl) vSf (by rfl) (by first | (show _ * 1 = _; omega) | (show _ * 1 = _; simp only [List.length_set]; omega) | rfl | (show _ * 1 = _; simp; omega)) (by first | (show _ * 1 = _; omega) | (show _ * 1 = _; simp only [List.length_set]; omega) | rfl | (show _ * 1 = _; simp; omega))) ?_
      |refine vfS (mStoreV vAs (by rfl) vSf vE (by rfl) (by (repeat (first | with_reducible exact PutL.nil | with_reducible apply PutL.here | with_reducible apply PutL.there)) <;> fail) (by rfl) (by rfl)) ?_
      |refine vfS (mSlot vAs (by rfl) vSf vAs (by rfl) (by rfl) (by first | omega | (simp only [List.length_set]; omega) | exact Nat.le_of_ble_eq_true rfl | exact BitVec.isLt _ | (simp <;> omega))) ?_
    |with_reducible apply vh_alloc
     refine vfS (mAlloc vAs) ?_
    |with_reducible apply vh_box
     refine vfS (mBox vAs vE (by rfl)) ?_
    |refine vfS (mApp vAs (by rfl) vSf vAs (by rfl) vRd (by rfl) (by rfl) (by first | rfl | omega | (simp; omega)) (by first | rfl | omega | (simp; omega)) (by omega)) ?_
    |refine vfS (mApp (key := none) vAs (by rfl) vSf vAs (by rfl) vRd (by rfl) (by rfl) (by first | rfl | omega | (simp; omega)) (by first | rfl | omega | (simp; omega)) (by omega)) ?_
  |with_reducible apply vgG
   first
    |refine vfA (vkT (by rfl) (by rfl) (by rfl) (by with_reducible exact IsF.mk)) ?_
    |refine vfA (vkF (by rfl) (by rfl) (by rfl) (by with_reducible exact IsT.mk)) ?_
    |refine vfA (vkU (by rfl) (by rfl) (by rfl)) ?_
    |with_reducible exact vfZ k.out
    |refine vfS (vqT (by rfl) (by rfl) (by rfl) (by with_reducible exact IsT.mk) ru) ?_
    |refine vfS (vqF (by rfl) (by rfl) (by rfl) (by with_reducible exact IsF.mk) ru) ?_
  |with_reducible apply vgE
   first
    |with_reducible refine vfA wend ?_
    |with_reducible refine vfA wnil ?_
  |with_reducible apply vgC
   first
    |with_reducible refine vfB vsR ?_
    |with_reducible refine vfB seqAny ?_
    |with_reducible refine vfB blockAny ?_
    |with_reducible refine vfB skipAny ?_
    |with_reducible refine vfA oneRegion ?_
    |with_reducible refine vfA exitAny ?_
    |with_reducible refine vfA retAny ?_
    |refine vfA (vcT (by rfl) (by with_reducible exact IsT.mk)) ?_
    |refine vfA (vcF (by rfl) (by with_reducible exact IsF.mk)) ?_
    |with_reducible exact vfZ k.out
  |with_reducible apply vgR
   first
    |refine vfA (retX (by rfl) vRs) ?_
    |refine vfA (endX (by rfl) vRs) ?_
  |with_reducible refine vfA thenNormal ?_
  |with_reducible refine vfA blockNormal ?_
  |with_reducible refine vfA thenExit ?_
  |with_reducible refine vfA thenRet ?_
  |with_reducible refine vfA blockRet ?_
  |with_reducible refine vfA blockHere ?_
  |refine vfA (blockOut (by rfl)) ?_
  |with_reducible refine vfA wend ?_
  |with_reducible refine vfA thenNormal ?_
  |with_reducible refine vfA blockNormal ?_
  |with_reducible refine vfA oneRegion ?_
  |with_reducible refine vfA exitAny ?_
  |with_reducible refine vfA thenExit ?_
  |with_reducible refine vfA thenRet ?_
  |with_reducible refine vfA blockRet ?_
  |with_reducible refine vfA retAny ?_
  |with_reducible refine vfA blockHere ?_
  |refine vfA (blockOut (by rfl)) ?_
  |refine vfA (vcT (by rfl) (by with_reducible exact IsT.mk)) ?_
  |refine vfA (vcF (by rfl) (by with_reducible exact IsF.mk)) ?_
  |with_reducible refine vfA wnil ?_
  |refine vfA (retX (by rfl) vRs) ?_
  |refine vfA (endX (by rfl) vRs) ?_
  |refine vfA (vkT (by rfl) (by rfl) (by rfl) (by with_reducible exact IsF.mk)) ?_
  |refine vfA (vkF (by rfl) (by rfl) (by rfl) (by with_reducible exact IsT.mk)) ?_
  |refine vfA (vkU (by rfl) (by rfl) (by rfl)) ?_
  |with_reducible exact vfZ k.out
  |refine vfS (sq ru) ?_
  |refine vfS (vqT (by rfl) (by rfl) (by rfl) (by with_reducible exact IsT.mk) ru) ?_
  |refine vfS (vqF (by rfl) (by rfl) (by rfl) (by with_reducible exact IsF.mk) ru) ?_
  |refine vfS (mAlloc vAs) ?_
  |refine vfS (mBox vAs vE (by rfl)) ?_
  |refine vfS (mStoreI vAs (by rfl) vSf (by rfl) (by rfl) (by (repeat (first | with_reducible exact SetL.here | with_reducible apply SetL.there)) <;> fail)) ?_
  |refine vfS (mStoreE vAs (by rfl) vSf (by rfl) (by rfl) (by first | omega | (simp only [List.length_set]; omega) | exact Nat.le_of_ble_eq_true rfl | exact BitVec.isLt _ | (simp <;> omega))) ?_
  |refine vfS (mStoreA vAs (by rfl) vSf (by rfl) (by first | (show _ * 1 = _; omega) | (show _ * 1 = _; simp only [List.length_set]; omega) | rfl | (show _ * 1 = _; simp; omega)) (by first | (show _ * 1 = _; omega) | (show _ * 1 = _; simp only [List.length_set]; omega) | rfl | (show _ * 1 = _; simp; omega))) ?_
  |refine vfS (mStoreV vAs (by rfl) vSf vE (by rfl) (by (repeat (first | with_reducible exact PutL.nil | with_reducible apply PutL.here | with_reducible apply PutL.there)) <;> fail) (by rfl) (by rfl)) ?_
  |refine vfS (mSlot vAs (by rfl) vSf vAs (by rfl) (by rfl) (by first | omega | (simp only [List.length_set]; omega) | exact Nat.le_of_ble_eq_true rfl | exact BitVec.isLt _ | (simp <;> omega))) ?_
  |refine vfS (mApp vAs (by rfl) vSf vAs (by rfl) vRd (by rfl) (by rfl) (by first | rfl | omega | (simp; omega)) (by first | rfl | omega | (simp; omega)) (by omega)) ?_
  |refine vfS (mApp (key := none) vAs (by rfl) vSf vAs (by rfl) vRd (by rfl) (by rfl) (by first | rfl | omega | (simp; omega)) (by first | rfl | omega | (simp; omega)) (by omega)) ?_)) : G := (h ⟨k⟩).out
theorem apq {K G : Prop} (k : K) (h : Kp K → G := by
 intro k
 first
  |exact mAppQ vAs (by rfl) vSf vAs (by rfl) vRd (by rfl) (by rfl) k.out
  |exact mAppQ (key := none) vAs (by rfl) vSf vAs (by rfl) vRd (by rfl) (by rfl) k.out) : G := h ⟨k⟩
theorem vGl {w : World} (h : Gl w := by first | with_reducible assumption | exact Chg.gl (Hp.chg vAs) (fun x => x) vAs) : Gl w := h
theorem kp {p : Prop} (h : p := by (repeat (first | exact trivial | refine ⟨rfl, ?_⟩)) <;> fail) : p := h
theorem Hp.pk {M : Nat → Prop} {w₀ w : World} {L : List RW} (H : Hp M w₀ w L) (m : Nat) (idx : List Nat) (hn : idx.Nodup := by decide) (hm : ∀ i ∈ idx, i < m := by decide) : Hp M w₀ w (idx.filterMap (fun i => L[i]?) ++ L.drop m) := H.pick m idx hn hm
theorem vGr {G : Prop} (h : G := by exact Gives.run rfl ru (by first | exact ⟨rfl, Chg.refl _ _⟩ | exact ⟨rfl, rfl⟩)) : G := h
section
variable {P : Program} {n : Nat} {ops : Array Oper} {mask : List Nat} {es : List Nat} {tab : Tab} {M : Nat → Prop} {w₀ : World} {C : List RW} {Fin : (Env → Env) → Prop} {i k : Nat} {o : Oper} {l : List Oper} {ρ' : Env → Env} {v : Value}
theorem vlk (hg : o.guard = none) (hne : es.contains i = false) (h1 : ∀ r w, Hp M w₀ w C → Runs P n (ρ' r) o w v w) (h2 : WalkH P n ops es M w₀ C tab mask Fin (i + 1) k l fun r => updo (ρ' r) o.dst v) : WalkH P n ops es M w₀ C tab mask Fin i (k + 1) (o :: l) ρ' := lkH v h1 h2 hg hne
theorem vwk {CC : World → Prop} {R : World → World → Prop} {K ks : List (Option Rel)} (hg : o.guard = none) (hR : ∀ w, R w w) (h1 : ∀ r w, CC w → Runs P n (ρ' r) o w v w) (h2 : Walk P n ops CC R mask K Fin (i + 1) ks l fun r => updo (ρ' r) o.dst v) : Walk P n ops CC R mask K Fin i (none :: ks) (o :: l) ρ' :=
 ⟨v, fun r w hC _ => Gives.run hg (h1 r w hC) ⟨rfl, hR w⟩, h2⟩
theorem vlkS {v : Env → Value} (hne : es.contains i = false) (h1 : AllT (lookB mask es i) (fun _ f => ∀ r w0 w, f (es.map r) w0 → Ext w0 w → Gives P n ops (ρ' r) o w fun u w' => u = v r ∧ Ext w w') tab) (hv : ∀ r r' : Env, (∀ e ∈ es, anc mask i e = true → r e = r' e) → v r = v r') (h2 : WalkH P n ops es M w₀ C tab mask Fin (i + 1) k l fun r => updo (ρ' r) o.dst (v r)) : WalkH P n ops es M w₀ C tab mask Fin i (k + 1) (o :: l) ρ' := WalkT.lookS v hv h1 h2 hne
end
theorem gk (n : Nat) {K G : Prop} (k : K) (h : Kp K → Fu n G := by
 intro k
 repeat (first
  |with_reducible exact vfZ k.out
  |refine vfS (vlk rfl rfl (fun _ uw hcx => ru)) ?_
  |refine vfS (vlkS rfl (by (repeat (first | exact trivial | (refine A_ (fun r w0 uw hF hE => ?_) ?_; ((repeat (first | (refine Exists.elim hF ?_; intro _ hF) | (refine And.elim ?_ hF; intro _ hF))); have HH := Hp.ext hF hE; exact vGr)))) <;> fail) (fun _ _ _ => rfl)) ?_
  |refine vfS (vwk rfl (fun _ => Chg.refl _ _) (fun _ uw hC => by have HH := Hp.ext vAs hC; exact ru)) ?_)) : G := (h ⟨k⟩).out
end Go.Proofs.YtohngnahcgbfmaaGreatDoor.Vc
namespace Go.Proofs.YtohngnahcgbfmaaGreatDoor
open Go Vc
open Vc
instance : Fct (Tryz.prog.eqGuardType Tryz.prog.depth 29) false := ⟨kr⟩
instance : Fct (Tryz.prog.follows .mixedOrders) true := ⟨kr⟩
instance : Fct (Tryz.prog.underlying 122) (some (.pointer 126)) := ⟨kr⟩
instance : Fct (Tryz.prog.underlying 124) (some (.pointer 122)) := ⟨kr⟩
instance : Fct (Tryz.prog.underlying 2) (some (.int .i64)) := ⟨kr⟩
instance : Fct (Tryz.prog.underlying 216) (some (.array 16 5)) := ⟨kr⟩
instance : Fct (Tryz.prog.underlying 23) (some (.slice 34)) := ⟨kr⟩
instance : Fct (Tryz.prog.underlying 29) (some (.array 2 3)) := ⟨kr⟩
instance : Fct (Tryz.prog.underlying 3) (some (.int .i64)) := ⟨kr⟩
instance : Fct (Tryz.prog.underlying 34) (some (.int .u64)) := ⟨kr⟩
instance : Fct (Tryz.prog.underlying 5) (some (.int .u8)) := ⟨kr⟩
instance : Fct (Tryz.prog.underlying 63) (some (.int .i64)) := ⟨kr⟩
instance : Fct (Tryz.prog.underlying 64) (some (.int .u64)) := ⟨kr⟩
instance : Fct (Tryz.prog.underlying 94) (some (.pointer 232)) := ⟨kr⟩
instance : Fct (arr Tryz.prog 117) (some (5, 1)) := ⟨kr⟩
instance : Fct (arr Tryz.prog 119) (some (2, 2)) := ⟨kr⟩
instance : Fct (arr Tryz.prog 145) (some (64, 1)) := ⟨kr⟩
instance : Fct (arr Tryz.prog 146) (some (2, 64)) := ⟨kr⟩
instance : Fct (arr Tryz.prog 216) (some (16, 1)) := ⟨kr⟩
instance : Fct (arr Tryz.prog 229) (some (11, 16)) := ⟨kr⟩
instance : Fct (arr Tryz.prog 230) (some (256, 1)) := ⟨kr⟩
instance : Fct (arr Tryz.prog 239) (some (4, 1)) := ⟨kr⟩
instance : Fct (arr Tryz.prog 24) (some (2, 1)) := ⟨kr⟩
instance : Fct (arr Tryz.prog 29) (some (2, 1)) := ⟨kr⟩
instance : Fct (arr Tryz.prog 38) (some (2, 1)) := ⟨kr⟩
instance : Fct (arr Tryz.prog 43) (some (2, 3)) := ⟨kr⟩
instance : Fct (arr Tryz.prog 50) (some (2, 1)) := ⟨kr⟩
instance : Fct (arr Tryz.prog 81) (some (2, 1)) := ⟨kr⟩
instance : Fct (arr Tryz.prog 83) (some (2, 1)) := ⟨kr⟩
instance : Fct (arr Tryz.prog 87) (some (2, 1)) := ⟨kr⟩
instance : Fct (arr Tryz.prog 92) (some (2, 6)) := ⟨kr⟩
instance : Fct (byt Tryz.prog 121) (some 40) := ⟨kr⟩
instance : Fct (byt Tryz.prog 127) (some 8) := ⟨kr⟩
instance : Fct (byt Tryz.prog 154) (some 24) := ⟨kr⟩
instance : Fct (byt Tryz.prog 210) (some 24) := ⟨kr⟩
instance : Fct (byt Tryz.prog 3) (some 8) := ⟨kr⟩
instance : Fct (byt Tryz.prog 34) (some 8) := ⟨kr⟩
instance : Fct (byt Tryz.prog 66) (some 24) := ⟨kr⟩
instance : Fct (byt Tryz.prog 83) (some 16) := ⟨kr⟩
instance : Fct (byt Tryz.prog 91) (some 80) := ⟨kr⟩
instance : Fct (callable Tryz.prog 10) true := ⟨kr⟩
instance : Fct (callable Tryz.prog 100) true := ⟨kr⟩
instance : Fct (callable Tryz.prog 101) true := ⟨kr⟩
instance : Fct (callable Tryz.prog 102) true := ⟨kr⟩
instance : Fct (callable Tryz.prog 103) true := ⟨kr⟩
instance : Fct (callable Tryz.prog 104) true := ⟨kr⟩
instance : Fct (callable Tryz.prog 11) true := ⟨kr⟩
instance : Fct (callable Tryz.prog 12) true := ⟨kr⟩
instance : Fct (callable Tryz.prog 13) true := ⟨kr⟩
instance : Fct (callable Tryz.prog 14) true := ⟨kr⟩
instance : Fct (callable Tryz.prog 15) true := ⟨kr⟩
instance : Fct (callable Tryz.prog 17) true := ⟨kr⟩
instance : Fct (callable Tryz.prog 18) true := ⟨kr⟩
instance : Fct (callable Tryz.prog 19) true := ⟨kr⟩
instance : Fct (callable Tryz.prog 21) true := ⟨kr⟩
instance : Fct (callable Tryz.prog 22) true := ⟨kr⟩
instance : Fct (callable Tryz.prog 23) true := ⟨kr⟩
instance : Fct (callable Tryz.prog 24) true := ⟨kr⟩
instance : Fct (callable Tryz.prog 25) true := ⟨kr⟩
instance : Fct (callable Tryz.prog 26) true := ⟨kr⟩
instance : Fct (callable Tryz.prog 27) true := ⟨kr⟩
instance : Fct (callable Tryz.prog 28) true := ⟨kr⟩
instance : Fct (callable Tryz.prog 29) true := ⟨kr⟩
instance : Fct (callable Tryz.prog 30) true := ⟨kr⟩
instance : Fct (callable Tryz.prog 31) true := ⟨kr⟩
instance : Fct (callable Tryz.prog 32) true := ⟨kr⟩
instance : Fct (callable Tryz.prog 33) true := ⟨kr⟩
instance : Fct (callable Tryz.prog 34) true := ⟨kr⟩
instance : Fct (callable Tryz.prog 35) true := ⟨kr⟩
instance : Fct (callable Tryz.prog 36) true := ⟨kr⟩
instance : Fct (callable Tryz.prog 37) true := ⟨kr⟩
instance : Fct (callable Tryz.prog 38) true := ⟨kr⟩
instance : Fct (callable Tryz.prog 40) true := ⟨kr⟩
instance : Fct (callable Tryz.prog 41) true := ⟨kr⟩
instance : Fct (callable Tryz.prog 42) true := ⟨kr⟩
instance : Fct (callable Tryz.prog 43) true := ⟨kr⟩
instance : Fct (callable Tryz.prog 44) true := ⟨kr⟩
instance : Fct (callable Tryz.prog 45) true := ⟨kr⟩
instance : Fct (callable Tryz.prog 46) true := ⟨kr⟩
instance : Fct (callable Tryz.prog 47) true := ⟨kr⟩
instance : Fct (callable Tryz.prog 48) true := ⟨kr⟩
instance : Fct (callable Tryz.prog 49) true := ⟨kr⟩
instance : Fct (callable Tryz.prog 50) true := ⟨kr⟩
instance : Fct (callable Tryz.prog 51) true := ⟨kr⟩
instance : Fct (callable Tryz.prog 52) true := ⟨kr⟩
instance : Fct (callable Tryz.prog 53) true := ⟨kr⟩
instance : Fct (callable Tryz.prog 54) true := ⟨kr⟩
instance : Fct (callable Tryz.prog 55) true := ⟨kr⟩
instance : Fct (callable Tryz.prog 56) true := ⟨kr⟩
instance : Fct (callable Tryz.prog 6) true := ⟨kr⟩
instance : Fct (callable Tryz.prog 62) true := ⟨kr⟩
instance : Fct (callable Tryz.prog 63) true := ⟨kr⟩
instance : Fct (callable Tryz.prog 64) true := ⟨kr⟩
instance : Fct (callable Tryz.prog 65) true := ⟨kr⟩
instance : Fct (callable Tryz.prog 66) true := ⟨kr⟩
instance : Fct (callable Tryz.prog 68) true := ⟨kr⟩
instance : Fct (callable Tryz.prog 69) true := ⟨kr⟩
instance : Fct (callable Tryz.prog 7) true := ⟨kr⟩
instance : Fct (callable Tryz.prog 70) true := ⟨kr⟩
instance : Fct (callable Tryz.prog 71) true := ⟨kr⟩
instance : Fct (callable Tryz.prog 72) true := ⟨kr⟩
instance : Fct (callable Tryz.prog 73) true := ⟨kr⟩
instance : Fct (callable Tryz.prog 74) true := ⟨kr⟩
instance : Fct (callable Tryz.prog 75) true := ⟨kr⟩
instance : Fct (callable Tryz.prog 76) true := ⟨kr⟩
instance : Fct (callable Tryz.prog 77) true := ⟨kr⟩
instance : Fct (callable Tryz.prog 78) true := ⟨kr⟩
instance : Fct (callable Tryz.prog 8) true := ⟨kr⟩
instance : Fct (callable Tryz.prog 81) true := ⟨kr⟩
instance : Fct (callable Tryz.prog 82) true := ⟨kr⟩
instance : Fct (callable Tryz.prog 83) true := ⟨kr⟩
instance : Fct (callable Tryz.prog 84) true := ⟨kr⟩
instance : Fct (callable Tryz.prog 85) true := ⟨kr⟩
instance : Fct (callable Tryz.prog 86) true := ⟨kr⟩
instance : Fct (callable Tryz.prog 87) true := ⟨kr⟩
instance : Fct (callable Tryz.prog 88) true := ⟨kr⟩
instance : Fct (callable Tryz.prog 89) true := ⟨kr⟩
instance : Fct (callable Tryz.prog 9) true := ⟨kr⟩
instance : Fct (callable Tryz.prog 90) true := ⟨kr⟩
instance : Fct (callable Tryz.prog 91) true := ⟨kr⟩
instance : Fct (callable Tryz.prog 92) true := ⟨kr⟩
instance : Fct (callable Tryz.prog 93) true := ⟨kr⟩
instance : Fct (callable Tryz.prog 94) true := ⟨kr⟩
instance : Fct (callable Tryz.prog 95) true := ⟨kr⟩
instance : Fct (callable Tryz.prog 96) true := ⟨kr⟩
instance : Fct (callable Tryz.prog 97) true := ⟨kr⟩
instance : Fct (callable Tryz.prog 98) true := ⟨kr⟩
instance : Fct (callable Tryz.prog 99) true := ⟨kr⟩
instance : Fct (fld Tryz.prog 104 0) (some (0, 1, 3)) := ⟨kr⟩
instance : Fct (fld Tryz.prog 104 1) (some (1, 1, 102)) := ⟨kr⟩
instance : Fct (fld Tryz.prog 104 2) (some (2, 1, 100)) := ⟨kr⟩
instance : Fct (fld Tryz.prog 110 0) (some (0, 1, 39)) := ⟨kr⟩
instance : Fct (fld Tryz.prog 112 0) (some (0, 1, 40)) := ⟨kr⟩
instance : Fct (fld Tryz.prog 114 0) (some (0, 1, 110)) := ⟨kr⟩
instance : Fct (fld Tryz.prog 114 1) (some (1, 1, 110)) := ⟨kr⟩
instance : Fct (fld Tryz.prog 114 2) (some (2, 1, 112)) := ⟨kr⟩
instance : Fct (fld Tryz.prog 121 0) (some (0, 4, 119)) := ⟨kr⟩
instance : Fct (fld Tryz.prog 121 1) (some (4, 1, 4)) := ⟨kr⟩
instance : Fct (fld Tryz.prog 129 0) (some (0, 1, 127)) := ⟨kr⟩
instance : Fct (fld Tryz.prog 129 1) (some (1, 1, 127)) := ⟨kr⟩
instance : Fct (fld Tryz.prog 129 2) (some (2, 1, 127)) := ⟨kr⟩
instance : Fct (fld Tryz.prog 129 3) (some (3, 1, 3)) := ⟨kr⟩
instance : Fct (fld Tryz.prog 129 4) (some (4, 1, 4)) := ⟨kr⟩
instance : Fct (fld Tryz.prog 129 5) (some (5, 1, 4)) := ⟨kr⟩
instance : Fct (fld Tryz.prog 129 6) (some (6, 1, 3)) := ⟨kr⟩
instance : Fct (fld Tryz.prog 143 0) (some (0, 3, 104)) := ⟨kr⟩
instance : Fct (fld Tryz.prog 154 0) (some (0, 1, 150)) := ⟨kr⟩
instance : Fct (fld Tryz.prog 154 1) (some (1, 1, 3)) := ⟨kr⟩
instance : Fct (fld Tryz.prog 154 2) (some (2, 1, 3)) := ⟨kr⟩
instance : Fct (fld Tryz.prog 175 0) (some (0, 1, 3)) := ⟨kr⟩
instance : Fct (fld Tryz.prog 175 1) (some (1, 1, 173)) := ⟨kr⟩
instance : Fct (fld Tryz.prog 175 2) (some (2, 1, 100)) := ⟨kr⟩
instance : Fct (fld Tryz.prog 210 0) (some (0, 1, 3)) := ⟨kr⟩
instance : Fct (fld Tryz.prog 232 0) (some (0, 176, 229)) := ⟨kr⟩
instance : Fct (fld Tryz.prog 232 1) (some (176, 256, 230)) := ⟨kr⟩
instance : Fct (fld Tryz.prog 26 0) (some (0, 1, 22)) := ⟨kr⟩
instance : Fct (fld Tryz.prog 26 1) (some (1, 2, 24)) := ⟨kr⟩
instance : Fct (fld Tryz.prog 26 2) (some (3, 2, 24)) := ⟨kr⟩
instance : Fct (fld Tryz.prog 26 3) (some (5, 1, 23)) := ⟨kr⟩
instance : Fct (fld Tryz.prog 36 0) (some (0, 1, 33)) := ⟨kr⟩
instance : Fct (fld Tryz.prog 36 1) (some (1, 1, 3)) := ⟨kr⟩
instance : Fct (fld Tryz.prog 36 2) (some (2, 1, 3)) := ⟨kr⟩
instance : Fct (fld Tryz.prog 36 3) (some (3, 1, 3)) := ⟨kr⟩
instance : Fct (fld Tryz.prog 36 4) (some (4, 1, 34)) := ⟨kr⟩
instance : Fct (fld Tryz.prog 36 5) (some (5, 1, 3)) := ⟨kr⟩
instance : Fct (fld Tryz.prog 42 0) (some (0, 1, 39)) := ⟨kr⟩
instance : Fct (fld Tryz.prog 42 1) (some (1, 1, 39)) := ⟨kr⟩
instance : Fct (fld Tryz.prog 42 2) (some (2, 1, 40)) := ⟨kr⟩
instance : Fct (fld Tryz.prog 57 0) (some (0, 1, 3)) := ⟨kr⟩
instance : Fct (fld Tryz.prog 57 1) (some (1, 1, 3)) := ⟨kr⟩
instance : Fct (fld Tryz.prog 57 2) (some (2, 1, 3)) := ⟨kr⟩
instance : Fct (fld Tryz.prog 57 3) (some (3, 2, 29)) := ⟨kr⟩
instance : Fct (fld Tryz.prog 57 4) (some (5, 1, 3)) := ⟨kr⟩
instance : Fct (fld Tryz.prog 57 5) (some (6, 2, 29)) := ⟨kr⟩
instance : Fct (fld Tryz.prog 66 0) (some (0, 1, 34)) := ⟨kr⟩
instance : Fct (fld Tryz.prog 66 1) (some (1, 1, 34)) := ⟨kr⟩
instance : Fct (fld Tryz.prog 66 2) (some (2, 1, 34)) := ⟨kr⟩
instance : Fct (fld Tryz.prog 91 0) (some (0, 1, 34)) := ⟨kr⟩
instance : Fct (fld Tryz.prog 91 1) (some (1, 3, 66)) := ⟨kr⟩
instance : Fct (fld Tryz.prog 91 2) (some (4, 1, 40)) := ⟨kr⟩
instance : Fct (fld Tryz.prog 91 3) (some (5, 1, 89)) := ⟨kr⟩
instance : Fct (fld Tryz.prog 96 0) (some (0, 1, 23)) := ⟨kr⟩
instance : Fct (fld Tryz.prog 96 1) (some (1, 1, 94)) := ⟨kr⟩
instance : Fct (fld Tryz.prog 96 2) (some (2, 1, 3)) := ⟨kr⟩
instance : Fct (fld Tryz.prog 96 3) (some (3, 1, 3)) := ⟨kr⟩
instance : Fct (isAgg' Tryz.prog 104) true := ⟨kr⟩
instance : Fct (isAgg' Tryz.prog 117) true := ⟨kr⟩
instance : Fct (isAgg' Tryz.prog 121) true := ⟨kr⟩
instance : Fct (isAgg' Tryz.prog 129) true := ⟨kr⟩
instance : Fct (isAgg' Tryz.prog 145) true := ⟨kr⟩
instance : Fct (isAgg' Tryz.prog 163) true := ⟨kr⟩
instance : Fct (isAgg' Tryz.prog 175) true := ⟨kr⟩
instance : Fct (isAgg' Tryz.prog 216) true := ⟨kr⟩
instance : Fct (isAgg' Tryz.prog 239) true := ⟨kr⟩
instance : Fct (isAgg' Tryz.prog 24) true := ⟨kr⟩
instance : Fct (isAgg' Tryz.prog 26) true := ⟨kr⟩
instance : Fct (isAgg' Tryz.prog 29) true := ⟨kr⟩
instance : Fct (isAgg' Tryz.prog 36) true := ⟨kr⟩
instance : Fct (isAgg' Tryz.prog 38) true := ⟨kr⟩
instance : Fct (isAgg' Tryz.prog 43) true := ⟨kr⟩
instance : Fct (isAgg' Tryz.prog 57) true := ⟨kr⟩
instance : Fct (isAgg' Tryz.prog 66) true := ⟨kr⟩
instance : Fct (isAgg' Tryz.prog 83) true := ⟨kr⟩
instance : Fct (isAgg' Tryz.prog 87) true := ⟨kr⟩
instance : Fct (isAgg' Tryz.prog 92) true := ⟨kr⟩
instance : Fct (isI Tryz.prog 20) true := ⟨kr⟩
instance : Fct (isI Tryz.prog 31) true := ⟨kr⟩
instance : Fct (isOne Tryz.prog 100) true := ⟨kr⟩
instance : Fct (isOne Tryz.prog 102) true := ⟨kr⟩
instance : Fct (isOne Tryz.prog 127) true := ⟨kr⟩
instance : Fct (isOne Tryz.prog 150) true := ⟨kr⟩
instance : Fct (isOne Tryz.prog 157) true := ⟨kr⟩
instance : Fct (isOne Tryz.prog 173) true := ⟨kr⟩
instance : Fct (isOne Tryz.prog 22) true := ⟨kr⟩
instance : Fct (isOne Tryz.prog 23) true := ⟨kr⟩
instance : Fct (isOne Tryz.prog 3) true := ⟨kr⟩
instance : Fct (isOne Tryz.prog 33) true := ⟨kr⟩
instance : Fct (isOne Tryz.prog 34) true := ⟨kr⟩
instance : Fct (isOne Tryz.prog 37) true := ⟨kr⟩
instance : Fct (isOne Tryz.prog 39) true := ⟨kr⟩
instance : Fct (isOne Tryz.prog 4) true := ⟨kr⟩
instance : Fct (isOne Tryz.prog 40) true := ⟨kr⟩
instance : Fct (isOne Tryz.prog 48) true := ⟨kr⟩
instance : Fct (isOne Tryz.prog 5) true := ⟨kr⟩
instance : Fct (isOne Tryz.prog 80) true := ⟨kr⟩
instance : Fct (isOne Tryz.prog 89) true := ⟨kr⟩
instance : Fct (isOne Tryz.prog 94) true := ⟨kr⟩
instance : Fct (lacksI Tryz.prog 63 198) true := ⟨kr⟩
instance : Fct (lacksI Tryz.prog 63 200) true := ⟨kr⟩
instance : Fct (lacksI Tryz.prog 63 205) true := ⟨kr⟩
instance : Fct (pls Tryz.prog 104) (some #[(0, 1), (1, 1), (2, 1)]) := ⟨kr⟩
instance : Fct (pls Tryz.prog 114) (some #[(0, 1), (1, 1), (2, 1)]) := ⟨kr⟩
instance : Fct (pls Tryz.prog 121) (some #[(0, 4), (4, 1)]) := ⟨kr⟩
instance : Fct (pls Tryz.prog 126) (some #[(0, 1), (1, 1), (2, 1), (3, 1)]) := ⟨kr⟩
instance : Fct (pls Tryz.prog 129) (some #[(0, 1), (1, 1), (2, 1), (3, 1), (4, 1), (5, 1), (6, 1)]) := ⟨kr⟩
instance : Fct (pls Tryz.prog 143) (some #[(0, 3)]) := ⟨kr⟩
instance : Fct (pls Tryz.prog 154) (some #[(0, 1), (1, 1), (2, 1)]) := ⟨kr⟩
instance : Fct (pls Tryz.prog 175) (some #[(0, 1), (1, 1), (2, 1)]) := ⟨kr⟩
instance : Fct (pls Tryz.prog 210) (some #[(0, 1), (1, 1), (2, 1)]) := ⟨kr⟩
instance : Fct (pls Tryz.prog 232) (some #[(0, 176), (176, 256)]) := ⟨kr⟩
instance : Fct (pls Tryz.prog 36) (some #[(0, 1), (1, 1), (2, 1), (3, 1), (4, 1), (5, 1)]) := ⟨kr⟩
instance : Fct (pls Tryz.prog 57) (some #[(0, 1), (1, 1), (2, 1), (3, 2), (5, 1), (6, 2)]) := ⟨kr⟩
instance : Fct (pls Tryz.prog 66) (some #[(0, 1), (1, 1), (2, 1)]) := ⟨kr⟩
instance : Fct (pls Tryz.prog 96) (some #[(0, 1), (1, 1), (2, 1), (3, 1)]) := ⟨kr⟩
instance : Fct (siz Tryz.prog 100) (some 1) := ⟨kr⟩
instance : Fct (siz Tryz.prog 102) (some 1) := ⟨kr⟩
instance : Fct (siz Tryz.prog 104) (some 3) := ⟨kr⟩
instance : Fct (siz Tryz.prog 117) (some 5) := ⟨kr⟩
instance : Fct (siz Tryz.prog 121) (some 5) := ⟨kr⟩
instance : Fct (siz Tryz.prog 127) (some 1) := ⟨kr⟩
instance : Fct (siz Tryz.prog 129) (some 7) := ⟨kr⟩
instance : Fct (siz Tryz.prog 145) (some 64) := ⟨kr⟩
instance : Fct (siz Tryz.prog 154) (some 3) := ⟨kr⟩
instance : Fct (siz Tryz.prog 163) (some 3) := ⟨kr⟩
instance : Fct (siz Tryz.prog 173) (some 1) := ⟨kr⟩
instance : Fct (siz Tryz.prog 175) (some 3) := ⟨kr⟩
instance : Fct (siz Tryz.prog 216) (some 16) := ⟨kr⟩
instance : Fct (siz Tryz.prog 23) (some 1) := ⟨kr⟩
instance : Fct (siz Tryz.prog 239) (some 4) := ⟨kr⟩
instance : Fct (siz Tryz.prog 24) (some 2) := ⟨kr⟩
instance : Fct (siz Tryz.prog 26) (some 6) := ⟨kr⟩
instance : Fct (siz Tryz.prog 29) (some 2) := ⟨kr⟩
instance : Fct (siz Tryz.prog 3) (some 1) := ⟨kr⟩
instance : Fct (siz Tryz.prog 34) (some 1) := ⟨kr⟩
instance : Fct (siz Tryz.prog 36) (some 6) := ⟨kr⟩
instance : Fct (siz Tryz.prog 38) (some 2) := ⟨kr⟩
instance : Fct (siz Tryz.prog 39) (some 1) := ⟨kr⟩
instance : Fct (siz Tryz.prog 40) (some 1) := ⟨kr⟩
instance : Fct (siz Tryz.prog 43) (some 6) := ⟨kr⟩
instance : Fct (siz Tryz.prog 5) (some 1) := ⟨kr⟩
instance : Fct (siz Tryz.prog 57) (some 8) := ⟨kr⟩
instance : Fct (siz Tryz.prog 66) (some 3) := ⟨kr⟩
instance : Fct (siz Tryz.prog 80) (some 1) := ⟨kr⟩
instance : Fct (siz Tryz.prog 83) (some 2) := ⟨kr⟩
instance : Fct (siz Tryz.prog 87) (some 2) := ⟨kr⟩
instance : Fct (siz Tryz.prog 89) (some 1) := ⟨kr⟩
instance : Fct (siz Tryz.prog 92) (some 12) := ⟨kr⟩
instance : Fct (sli Tryz.prog 100) (some (3, 1)) := ⟨kr⟩
instance : Fct (sli Tryz.prog 102) (some (154, 3)) := ⟨kr⟩
instance : Fct (sli Tryz.prog 173) (some (210, 3)) := ⟨kr⟩
instance : Fct (sli Tryz.prog 182) (some (87, 2)) := ⟨kr⟩
instance : Fct (sli Tryz.prog 22) (some (36, 6)) := ⟨kr⟩
instance : Fct (sli Tryz.prog 23) (some (34, 1)) := ⟨kr⟩
instance : Fct (sli Tryz.prog 39) (some (66, 3)) := ⟨kr⟩
instance : Fct (sli Tryz.prog 40) (some (121, 5)) := ⟨kr⟩
instance : Fct (sli Tryz.prog 74) (some (127, 1)) := ⟨kr⟩
instance : Fct (sli Tryz.prog 80) (some (91, 6)) := ⟨kr⟩
instance : Fct (sli Tryz.prog 89) (some (83, 2)) := ⟨kr⟩
instance : Fct (typeHandle Tryz.prog 31) (.pointer (some ⟨1, 31, none⟩)) := ⟨kr⟩
instance : Fct (zer Tryz.prog 104) (some (.agg #[.int .i64 0, .slice none 0 0, .slice none 0 0])) := ⟨kr⟩
instance : Fct (zer Tryz.prog 114) (some (.agg #[.slice none 0 0, .slice none 0 0, .slice none 0 0])) := ⟨kr⟩
instance : Fct (zer Tryz.prog 117) (some (.agg (List.replicate 5 (.int .u64 0)).toArray)) := ⟨kr⟩
instance : Fct (zer Tryz.prog 119) (some (.agg (List.replicate 4 (.int .u64 0)).toArray)) := ⟨kr⟩
instance : Fct (zer Tryz.prog 121) (some (.agg #[.int .u64 0, .int .u64 0, .int .u64 0, .int .u64 0, .bool false])) := ⟨kr⟩
instance : Fct (zer Tryz.prog 122) (some (.pointer none)) := ⟨kr⟩
instance : Fct (zer Tryz.prog 126) (some (.agg #[.string ⟨#[]⟩, .int .i64 0, .int .i64 0, .nilIface])) := ⟨kr⟩
instance : Fct (zer Tryz.prog 127) (some (.int .i64 0)) := ⟨kr⟩
instance : Fct (zer Tryz.prog 129) (some (.agg #[.int .i64 0, .int .i64 0, .int .i64 0, .int .i64 0, .bool false, .bool false, .int .i64 0])) := ⟨kr⟩
instance : Fct (zer Tryz.prog 143) (some (.agg #[.int .i64 0, .slice none 0 0, .slice none 0 0])) := ⟨kr⟩
instance : Fct (zer Tryz.prog 145) (some (.agg (List.replicate 64 (.int .i64 0)).toArray)) := ⟨kr⟩
instance : Fct (zer Tryz.prog 146) (some (.agg (List.replicate 128 (.int .i64 0)).toArray)) := ⟨kr⟩
instance : Fct (zer Tryz.prog 154) (some (.agg #[.int .i64 0, .int .i64 0, .int .i64 0])) := ⟨kr⟩
instance : Fct (zer Tryz.prog 163) (some (.agg #[.pointer none, .pointer none, .int .u64 0])) := ⟨kr⟩
instance : Fct (zer Tryz.prog 175) (some (.agg #[.int .i64 0, .slice none 0 0, .slice none 0 0])) := ⟨kr⟩
instance : Fct (zer Tryz.prog 210) (some (.agg #[.int .i64 0, .int .i64 0, .int .i64 0])) := ⟨kr⟩
instance : Fct (zer Tryz.prog 216) (some (.agg (List.replicate 16 (.int .u8 0)).toArray)) := ⟨kr⟩
instance : Fct (zer Tryz.prog 232) (some (.agg (List.replicate 432 (.int .u8 0)).toArray)) := ⟨kr⟩
instance : Fct (zer Tryz.prog 239) (some (.agg (List.replicate 4 (.int .u8 0)).toArray)) := ⟨kr⟩
instance : Fct (zer Tryz.prog 24) (some (.agg (List.replicate 2 (.slice none 0 0)).toArray)) := ⟨kr⟩
instance : Fct (zer Tryz.prog 26) (some (.agg #[.slice none 0 0, .slice none 0 0, .slice none 0 0, .slice none 0 0, .slice none 0 0, .slice none 0 0])) := ⟨kr⟩
instance : Fct (zer Tryz.prog 29) (some (.agg (List.replicate 2 (.int .i64 0)).toArray)) := ⟨kr⟩
instance : Fct (zer Tryz.prog 3) (some (.int .i64 0)) := ⟨kr⟩
instance : Fct (zer Tryz.prog 34) (some (.int .u64 0)) := ⟨kr⟩
instance : Fct (zer Tryz.prog 36) (some (.agg #[.int .i64 0, .int .i64 0, .int .i64 0, .int .i64 0, .int .u64 0, .int .i64 0])) := ⟨kr⟩
instance : Fct (zer Tryz.prog 38) (some (.agg (List.replicate 2 (.pointer none)).toArray)) := ⟨kr⟩
instance : Fct (zer Tryz.prog 43) (some (.agg (List.replicate 6 (.slice none 0 0)).toArray)) := ⟨kr⟩
instance : Fct (zer Tryz.prog 50) (some (.agg (List.replicate 2 (.pointer none)).toArray)) := ⟨kr⟩
instance : Fct (zer Tryz.prog 57) (some (.agg #[.int .i64 0, .int .i64 0, .int .i64 0, .int .i64 0, .int .i64 0, .int .i64 0, .int .i64 0, .int .i64 0])) := ⟨kr⟩
instance : Fct (zer Tryz.prog 66) (some (.agg #[.int .u64 0, .int .u64 0, .int .u64 0])) := ⟨kr⟩
instance : Fct (zer Tryz.prog 81) (some (.agg (List.replicate 2 (.slice none 0 0)).toArray)) := ⟨kr⟩
instance : Fct (zer Tryz.prog 83) (some (.agg (List.replicate 2 (.int .u64 0)).toArray)) := ⟨kr⟩
instance : Fct (zer Tryz.prog 87) (some (.agg (List.replicate 2 (.int .u64 0)).toArray)) := ⟨kr⟩
instance : Fct (zer Tryz.prog 91) (some (.agg #[.int .u64 0, .int .u64 0, .int .u64 0, .int .u64 0, .slice none 0 0, .slice none 0 0])) := ⟨kr⟩
instance : Fct (zer Tryz.prog 92) (some (.agg #[.int .u64 0, .int .u64 0, .int .u64 0, .int .u64 0, .slice none 0 0, .slice none 0 0, .int .u64 0, .int .u64 0, .int .u64 0, .int .u64 0, .slice none 0 0, .slice none 0 0])) := ⟨kr⟩
instance : Fct (zer Tryz.prog 96) (some (.agg #[.slice none 0 0, .pointer none, .int .i64 0, .int .i64 0])) := ⟨kr⟩
instance : Fit Tryz.prog 121 EOt := ⟨fitsOt (by kernel_rfl) (by kernel_rfl)⟩
instance : Fit Tryz.prog 127 EI := ⟨fitsI (by kernel_rfl) (by kernel_rfl)⟩
instance : Fit Tryz.prog 154 EG := ⟨fitsG (by kernel_rfl) (by kernel_rfl)⟩
instance : Fit Tryz.prog 3 EI := ⟨fitsI (by kernel_rfl) (by kernel_rfl)⟩
instance : Fit Tryz.prog 34 E64 := ⟨fits64 (by kernel_rfl) (by kernel_rfl)⟩
instance : Fit Tryz.prog 36 EMo := ⟨fitsMo (by kernel_rfl) (by kernel_rfl)⟩
instance : Fit Tryz.prog 5 E8 := ⟨fits8 (by kernel_rfl) (by kernel_rfl)⟩
instance : Fit Tryz.prog 66 ETr := ⟨fitsTr (by kernel_rfl) (by kernel_rfl)⟩
instance : Fit Tryz.prog 83 ELb := ⟨fitsLb (by kernel_rfl) (by kernel_rfl)⟩
instance : Fit Tryz.prog 83 ELb := ⟨⟨by kernel_rfl, .inr ⟨by kernel_rfl, fun _ => rfl⟩⟩⟩
instance : Fit Tryz.prog 87 ELb := ⟨fitsLb (by kernel_rfl) (by kernel_rfl)⟩
instance : Fit Tryz.prog 91 EDr := ⟨fitsDr (by kernel_rfl) (by kernel_rfl)⟩
instance : ZerO Tryz.prog 104 (.cells #[i64 ((0 : Int)), .slice none 0 0, .slice none 0 0] 104 (0, 0)) := ⟨_, (by kernel_rfl : zer Tryz.prog 104 = some (.agg #[.int .i64 0, .slice none 0 0, .slice none 0 0])), by kernel_rfl⟩
instance : ZerO Tryz.prog 117 (.cells (cel E64 (List.replicate 5 0#64)).toArray 117 (0, 0)) := ⟨_, (by kernel_rfl : zer Tryz.prog 117 = some (.agg (List.replicate 5 (.int .u64 0)).toArray)), by kernel_rfl⟩
instance : ZerO Tryz.prog 121 (.cells #[u64 (0#64), u64 (0#64), u64 (0#64), u64 (0#64), .bool (false)] 121 (0, 0)) := ⟨_, (by kernel_rfl : zer Tryz.prog 121 = some (.agg #[.int .u64 0, .int .u64 0, .int .u64 0, .int .u64 0, .bool false])), by kernel_rfl⟩
instance : ZerO Tryz.prog 122 (.cells #[.pointer none] 122 (0, 0)) := ⟨_, (by kernel_rfl : zer Tryz.prog 122 = some (.pointer none)), by kernel_rfl⟩
instance : ZerO Tryz.prog 129 (.cells #[i64 ((0 : Int)), i64 ((0 : Int)), i64 ((0 : Int)), i64 ((0 : Int)), .bool (false), .bool (false), i64 ((0 : Int))] 129 (0, 0)) := ⟨_, (by kernel_rfl : zer Tryz.prog 129 = some (.agg #[.int .i64 0, .int .i64 0, .int .i64 0, .int .i64 0, .bool false, .bool false, .int .i64 0])), by kernel_rfl⟩
instance : ZerO Tryz.prog 145 (.cells (cel EI (List.replicate 64 0)).toArray 145 (0, 0)) := ⟨_, (by kernel_rfl : zer Tryz.prog 145 = some (.agg (List.replicate 64 (.int .i64 0)).toArray)), by kernel_rfl⟩
instance : ZerO Tryz.prog 146 (.cells (cel EI (List.replicate 128 0)).toArray 146 (0, 0)) := ⟨_, (by kernel_rfl : zer Tryz.prog 146 = some (.agg (List.replicate 128 (.int .i64 0)).toArray)), by kernel_rfl⟩
instance : ZerO Tryz.prog 154 (.cells #[i64 ((0 : Int)), i64 ((0 : Int)), i64 ((0 : Int))] 154 (0, 0)) := ⟨_, (by kernel_rfl : zer Tryz.prog 154 = some (.agg #[.int .i64 0, .int .i64 0, .int .i64 0])), by kernel_rfl⟩
instance : ZerO Tryz.prog 163 (.cells #[.pointer none, .pointer none, u64 (0#64)] 163 (0, 0)) := ⟨_, (by kernel_rfl : zer Tryz.prog 163 = some (.agg #[.pointer none, .pointer none, .int .u64 0])), by kernel_rfl⟩
instance : ZerO Tryz.prog 175 (.cells #[i64 ((0 : Int)), .slice none 0 0, .slice none 0 0] 175 (0, 0)) := ⟨_, (by kernel_rfl : zer Tryz.prog 175 = some (.agg #[.int .i64 0, .slice none 0 0, .slice none 0 0])), by kernel_rfl⟩
instance : ZerO Tryz.prog 216 (.cells (cel E8 (List.replicate 16 0#8)).toArray 216 (0, 0)) := ⟨_, (by kernel_rfl : zer Tryz.prog 216 = some (.agg (List.replicate 16 (.int .u8 0)).toArray)), by kernel_rfl⟩
instance : ZerO Tryz.prog 239 (.cells (cel E8 ([0#8, 0#8, 0#8, 0#8])).toArray 239 (0, 0)) := ⟨_, (by kernel_rfl : zer Tryz.prog 239 = some (.agg (List.replicate 4 (.int .u8 0)).toArray)), by kernel_rfl⟩
instance : ZerO Tryz.prog 24 (.cells #[.slice none 0 0, .slice none 0 0] 24 (0, 0)) := ⟨_, (by kernel_rfl : zer Tryz.prog 24 = some (.agg (List.replicate 2 (.slice none 0 0)).toArray)), by kernel_rfl⟩
instance : ZerO Tryz.prog 26 (.cells #[.slice none 0 0, .slice none 0 0, .slice none 0 0, .slice none 0 0, .slice none 0 0, .slice none 0 0] 26 (0, 0)) := ⟨_, (by kernel_rfl : zer Tryz.prog 26 = some (.agg #[.slice none 0 0, .slice none 0 0, .slice none 0 0, .slice none 0 0, .slice none 0 0, .slice none 0 0])), by kernel_rfl⟩
instance : ZerO Tryz.prog 29 (.cells (cel EI ([0, 0])).toArray 29 (0, 0)) := ⟨_, (by kernel_rfl : zer Tryz.prog 29 = some (.agg (List.replicate 2 (.int .i64 0)).toArray)), by kernel_rfl⟩
instance : ZerO Tryz.prog 36 (.cells #[i64 ((0 : Int)), i64 ((0 : Int)), i64 ((0 : Int)), i64 ((0 : Int)), u64 (0#64), i64 ((0 : Int))] 36 (0, 0)) := ⟨_, (by kernel_rfl : zer Tryz.prog 36 = some (.agg #[.int .i64 0, .int .i64 0, .int .i64 0, .int .i64 0, .int .u64 0, .int .i64 0])), by kernel_rfl⟩
instance : ZerO Tryz.prog 38 (.cells #[.pointer none, .pointer none] 38 (0, 0)) := ⟨_, (by kernel_rfl : zer Tryz.prog 38 = some (.agg (List.replicate 2 (.pointer none)).toArray)), by kernel_rfl⟩
instance : ZerO Tryz.prog 43 (.cells #[.slice none 0 0, .slice none 0 0, .slice none 0 0, .slice none 0 0, .slice none 0 0, .slice none 0 0] 43 (0, 0)) := ⟨_, (by kernel_rfl : zer Tryz.prog 43 = some (.agg (List.replicate 6 (.slice none 0 0)).toArray)), by kernel_rfl⟩
instance : ZerO Tryz.prog 57 (.cells #[i64 ((0 : Int)), i64 ((0 : Int)), i64 ((0 : Int)), i64 ((0 : Int)), i64 ((0 : Int)), i64 ((0 : Int)), i64 ((0 : Int)), i64 ((0 : Int))] 57 (0, 0)) := ⟨_, (by kernel_rfl : zer Tryz.prog 57 = some (.agg #[.int .i64 0, .int .i64 0, .int .i64 0, .int .i64 0, .int .i64 0, .int .i64 0, .int .i64 0, .int .i64 0])), by kernel_rfl⟩
instance : ZerO Tryz.prog 66 (.cells #[u64 (0#64), u64 (0#64), u64 (0#64)] 66 (0, 0)) := ⟨_, (by kernel_rfl : zer Tryz.prog 66 = some (.agg #[.int .u64 0, .int .u64 0, .int .u64 0])), by kernel_rfl⟩
instance : ZerO Tryz.prog 81 (.cells #[.slice none 0 0, .slice none 0 0] 81 (0, 0)) := ⟨_, (by kernel_rfl : zer Tryz.prog 81 = some (.agg (List.replicate 2 (.slice none 0 0)).toArray)), by kernel_rfl⟩
instance : ZerO Tryz.prog 83 (.cells (cel E64 ([0#64, 0#64])).toArray 83 (0, 0)) := ⟨_, (by kernel_rfl : zer Tryz.prog 83 = some (.agg (List.replicate 2 (.int .u64 0)).toArray)), by kernel_rfl⟩
instance : ZerO Tryz.prog 87 (.cells (cel E64 ([0#64, 0#64])).toArray 87 (0, 0)) := ⟨_, (by kernel_rfl : zer Tryz.prog 87 = some (.agg (List.replicate 2 (.int .u64 0)).toArray)), by kernel_rfl⟩
instance : ArrE _ Tryz.prog 117 E64 := ⟨trivial⟩
instance : ArrE _ Tryz.prog 145 EI := ⟨trivial⟩
instance : ArrE _ Tryz.prog 216 E8 := ⟨trivial⟩
instance : ArrE _ Tryz.prog 230 E8 := ⟨trivial⟩
instance : ArrE _ Tryz.prog 239 E8 := ⟨trivial⟩
instance : ArrE _ Tryz.prog 29 EI := ⟨trivial⟩
instance : ArrE _ Tryz.prog 83 E64 := ⟨trivial⟩
instance : ArrE _ Tryz.prog 87 E64 := ⟨trivial⟩
instance : Dft ELb Gb.lb0 := ⟨trivial⟩
end Go.Proofs.YtohngnahcgbfmaaGreatDoor
namespace Go.Proofs.YtohngnahcgbfmaaGreatDoor.Vc
open Go
abbrev LbT := BitVec 64 × BitVec 64
abbrev pT (b : Nat) : Value := .pointer (some ⟨b, 0, none⟩)
theorem bLe {n m : Nat} (h : Nat.ble n m = true) : n ≤ m := Nat.le_of_ble_eq_true h
theorem sR {P : Program} {n : Nat} {Q : Exit → Act → World → Prop} {ρ : Env} {w : World} {id : Nat} {l : List Oper} {y : Code} (h : W P n l.toArray (Exit.then (y.wp P Q) Q) l ρ w) : (Code.seq (.region id l.toArray false) y).wp P Q (St n ρ) w := seqRegion h
theorem gW {P : Program} {n : Nat} {ops : Array Oper} {ρ : Env} {o : Oper} {w : World} {S : Value → World → Prop} {d : Nat} (h : ∀ Q' : Exit → Act → World → Prop, (∀ u w', S u w' → W P n ops Q' [] (updo ρ (some d) u) w') → W P n ops Q' [o] ρ w) (hd : o.dst = some d := by rfl) (hn : Nat.blt d n = true := by rfl) : Gives P n ops ρ o w S := Gives.ofW hd hn h
theorem gW0 {P : Program} {n : Nat} {ops : Array Oper} {ρ : Env} {o : Oper} {w : World} {S : Value → World → Prop} (h : ∀ Q' : Exit → Act → World → Prop, (∀ w', (∀ u, S u w') → W P n ops Q' [] ρ w') → W P n ops Q' [o] ρ w) (hd : o.dst = none := by rfl) : Gives P n ops ρ o w S := Gives.ofW0 hd h
theorem vd {a b : Nat} (h : a < b := by first | omega | (dsimp only; omega)) : a < b := h
section
variable {M : Nat → Prop} {w₀ w : World} {L R : List RW}
theorem Hp.a1 (H : Hp M w₀ w L) {a0 : RW} (e : L = [a0]) : Hp M w₀ w [a0] := e ▸ H
theorem Hp.b1 (H : Hp M w₀ w L) {a0 : RW} (e : L = a0 :: R) : Hp M w₀ w (a0 :: R) := e ▸ H
theorem Hp.a2 (H : Hp M w₀ w L) {a0 a1 : RW} (e : L = [a0, a1]) : Hp M w₀ w [a0, a1] := e ▸ H
theorem Hp.b2 (H : Hp M w₀ w L) {a0 a1 : RW} (e : L = a0 :: a1 :: R) : Hp M w₀ w (a0 :: a1 :: R) := e ▸ H
theorem Hp.a3 (H : Hp M w₀ w L) {a0 a1 a2 : RW} (e : L = [a0, a1, a2]) : Hp M w₀ w [a0, a1, a2] := e ▸ H
theorem Hp.b3 (H : Hp M w₀ w L) {a0 a1 a2 : RW} (e : L = a0 :: a1 :: a2 :: R) : Hp M w₀ w (a0 :: a1 :: a2 :: R) := e ▸ H
theorem Hp.a4 (H : Hp M w₀ w L) {a0 a1 a2 a3 : RW} (e : L = [a0, a1, a2, a3]) : Hp M w₀ w [a0, a1, a2, a3] := e ▸ H
theorem Hp.b4 (H : Hp M w₀ w L) {a0 a1 a2 a3 : RW} (e : L = a0 :: a1 :: a2 :: a3 :: R) : Hp M w₀ w (a0 :: a1 :: a2 :: a3 :: R) := e ▸ H
theorem Hp.a5 (H : Hp M w₀ w L) {a0 a1 a2 a3 a4 : RW} (e : L = [a0, a1, a2, a3, a4]) : Hp M w₀ w [a0, a1, a2, a3, a4] := e ▸ H
theorem Hp.a6 (H : Hp M w₀ w L) {a0 a1 a2 a3 a4 a5 : RW} (e : L = [a0, a1, a2, a3, a4, a5]) : Hp M w₀ w [a0, a1, a2, a3, a4, a5] := e ▸ H
theorem Hp.b6 (H : Hp M w₀ w L) {a0 a1 a2 a3 a4 a5 : RW} (e : L = a0 :: a1 :: a2 :: a3 :: a4 :: a5 :: R) : Hp M w₀ w (a0 :: a1 :: a2 :: a3 :: a4 :: a5 :: R) := e ▸ H
theorem Hp.a7 (H : Hp M w₀ w L) {a0 a1 a2 a3 a4 a5 a6 : RW} (e : L = [a0, a1, a2, a3, a4, a5, a6]) : Hp M w₀ w [a0, a1, a2, a3, a4, a5, a6] := e ▸ H
theorem Hp.b7 (H : Hp M w₀ w L) {a0 a1 a2 a3 a4 a5 a6 : RW} (e : L = a0 :: a1 :: a2 :: a3 :: a4 :: a5 :: a6 :: R) : Hp M w₀ w (a0 :: a1 :: a2 :: a3 :: a4 :: a5 :: a6 :: R) := e ▸ H
theorem Hp.a8 (H : Hp M w₀ w L) {a0 a1 a2 a3 a4 a5 a6 a7 : RW} (e : L = [a0, a1, a2, a3, a4, a5, a6, a7]) : Hp M w₀ w [a0, a1, a2, a3, a4, a5, a6, a7] := e ▸ H
theorem Hp.b8 (H : Hp M w₀ w L) {a0 a1 a2 a3 a4 a5 a6 a7 : RW} (e : L = a0 :: a1 :: a2 :: a3 :: a4 :: a5 :: a6 :: a7 :: R) : Hp M w₀ w (a0 :: a1 :: a2 :: a3 :: a4 :: a5 :: a6 :: a7 :: R) := e ▸ H
theorem Hp.a9 (H : Hp M w₀ w L) {a0 a1 a2 a3 a4 a5 a6 a7 a8 : RW} (e : L = [a0, a1, a2, a3, a4, a5, a6, a7, a8]) : Hp M w₀ w [a0, a1, a2, a3, a4, a5, a6, a7, a8] := e ▸ H
theorem Hp.a10 (H : Hp M w₀ w L) {a0 a1 a2 a3 a4 a5 a6 a7 a8 a9 : RW} (e : L = [a0, a1, a2, a3, a4, a5, a6, a7, a8, a9]) : Hp M w₀ w [a0, a1, a2, a3, a4, a5, a6, a7, a8, a9] := e ▸ H
theorem Hp.b10 (H : Hp M w₀ w L) {a0 a1 a2 a3 a4 a5 a6 a7 a8 a9 : RW} (e : L = a0 :: a1 :: a2 :: a3 :: a4 :: a5 :: a6 :: a7 :: a8 :: a9 :: R) : Hp M w₀ w (a0 :: a1 :: a2 :: a3 :: a4 :: a5 :: a6 :: a7 :: a8 :: a9 :: R) := e ▸ H
theorem Hp.a11 (H : Hp M w₀ w L) {a0 a1 a2 a3 a4 a5 a6 a7 a8 a9 a10 : RW} (e : L = [a0, a1, a2, a3, a4, a5, a6, a7, a8, a9, a10]) : Hp M w₀ w [a0, a1, a2, a3, a4, a5, a6, a7, a8, a9, a10] := e ▸ H
theorem Hp.a12 (H : Hp M w₀ w L) {a0 a1 a2 a3 a4 a5 a6 a7 a8 a9 a10 a11 : RW} (e : L = [a0, a1, a2, a3, a4, a5, a6, a7, a8, a9, a10, a11]) : Hp M w₀ w [a0, a1, a2, a3, a4, a5, a6, a7, a8, a9, a10, a11] := e ▸ H
theorem Hp.b12 (H : Hp M w₀ w L) {a0 a1 a2 a3 a4 a5 a6 a7 a8 a9 a10 a11 : RW} (e : L = a0 :: a1 :: a2 :: a3 :: a4 :: a5 :: a6 :: a7 :: a8 :: a9 :: a10 :: a11 :: R) : Hp M w₀ w (a0 :: a1 :: a2 :: a3 :: a4 :: a5 :: a6 :: a7 :: a8 :: a9 :: a10 :: a11 :: R) := e ▸ H
theorem Hp.a14 (H : Hp M w₀ w L) {a0 a1 a2 a3 a4 a5 a6 a7 a8 a9 a10 a11 a12 a13 : RW} (e : L = [a0, a1, a2, a3, a4, a5, a6, a7, a8, a9, a10, a11, a12, a13]) : Hp M w₀ w [a0, a1, a2, a3, a4, a5, a6, a7, a8, a9, a10, a11, a12, a13] := e ▸ H
theorem Hp.a15 (H : Hp M w₀ w L) {a0 a1 a2 a3 a4 a5 a6 a7 a8 a9 a10 a11 a12 a13 a14 : RW} (e : L = [a0, a1, a2, a3, a4, a5, a6, a7, a8, a9, a10, a11, a12, a13, a14]) : Hp M w₀ w [a0, a1, a2, a3, a4, a5, a6, a7, a8, a9, a10, a11, a12, a13, a14] := e ▸ H
theorem Hp.a16 (H : Hp M w₀ w L) {a0 a1 a2 a3 a4 a5 a6 a7 a8 a9 a10 a11 a12 a13 a14 a15 : RW} (e : L = [a0, a1, a2, a3, a4, a5, a6, a7, a8, a9, a10, a11, a12, a13, a14, a15]) : Hp M w₀ w [a0, a1, a2, a3, a4, a5, a6, a7, a8, a9, a10, a11, a12, a13, a14, a15] := e ▸ H
end
theorem oneL {v : Value} (h : v.cells.toList.all (·.oneCell') = true) : ∀ u ∈ v.cells.toList, u.oneCell' = true := fun u hu => List.all_eq_true.1 h u hu
theorem sMv {P : Program} {n : Nat} {ops : Array Oper} {Q : Exit → Act → World → Prop} {ρ : Env} {w : World} {d : Option Nat} {x : Operand} {t : TypeId} {pos : String} {after : Array Edge} {rest : List Oper} (h : W P n ops Q rest (updo ρ d (ev n ρ x)) w) : W P n ops Q (⟨d, .move x, t, pos, after, none⟩ :: rest) ρ w := sq (r_move rfl) h
theorem sAv {P : Program} {n : Nat} {ops : Array Oper} {Q : Exit → Act → World → Prop} {ρ : Env} {w : World} {d : Option Nat} {x : Operand} {t : TypeId} {pos : String} {after : Array Edge} {rest : List Oper} (h : W P n ops Q rest (updo ρ d (ev n ρ x)) w) : W P n ops Q (⟨d, .assign x, t, pos, after, none⟩ :: rest) ρ w := sq (r_assign rfl) h
abbrev iN (n : Nat) : Value := i64 (n : Int)
abbrev sN0 : Value := .slice none 0 0
abbrev rC (b : Nat) (x : Array Value) (t : TypeId) : RW := (some b, .cells x t (0, 0))
abbrev rX {α : Type} (b : Nat) (E : Enc α) (l : List α) (t : TypeId) : RW := (some b, .cells (cel E l).toArray t (0, 0))
theorem wS {P : Program} {n : Nat} {ops : Array Oper} {Q : Exit → Act → World → Prop} {ρ : Env} {w : World} {id : Nat} {l : List Oper} {y : Code} (h : W P n l.toArray (Exit.then (y.wp P Q) Q) l ρ w) : W P n ops (Exit.then ((Code.seq (.region id l.toArray false) y).wp P Q) Q) [] ρ w := wend (seqRegion h)
abbrev sO (k : Option Nat) (n c : Nat) : Value := .slice (ownA k) n c
theorem mT {α : Type} {a b : α} {l : List α} (h : a ∈ l) : a ∈ b :: l := List.mem_cons_of_mem _ h
theorem vo {p : Prop} (h : p := by first | rfl | omega | (simp; omega)) : p := h
end Go.Proofs.YtohngnahcgbfmaaGreatDoor.Vc
namespace Go.Proofs.YtohngnahcgbfmaaGreatDoor.Er
open Go Vc
theorem isI31 : isI Tryz.prog 31 = true := by kernel_rfl
theorem lk63_198 : lacksI Tryz.prog 63 198 = true := by kernel_rfl
theorem lk63_200 : lacksI Tryz.prog 63 200 = true := by kernel_rfl
theorem lk63_205 : lacksI Tryz.prog 63 205 = true := by kernel_rfl
theorem one157 : isOne Tryz.prog 157 = true := by kernel_rfl
theorem und122 : Tryz.prog.underlying 122 = some (.pointer 126) := by kernel_rfl
theorem und124 : Tryz.prog.underlying 124 = some (.pointer 122) := by kernel_rfl
theorem x_typeOf63 (v : Value) (w : World) : Xc Tryz.prog 57 [.iface 63 v] w (fun r w' => r = .iface 193 (.agg #[.pointer (some ⟨1, 63, none⟩)]) ∧ w = w') :=
 Xc.of (e := Extern.ReflectliteType.typeOf) Tryz.func57 (by kernel_rfl) (by kernel_rfl) (by kernel_rfl) (by kernel_rfl) (by kernel_rfl) ⟨rfl, rfl⟩
theorem x_assign63_122  (w : World) : Xc Tryz.prog 129 [.agg #[.pointer (some ⟨1, 63, none⟩)], .iface 193 (.agg #[.pointer (some ⟨1, 122, none⟩)])] w (fun r w' => r = .bool false ∧ w = w') :=
 Xc.of (e := (Extern.ReflectliteType.relation "AssignableTo" Extern.ReflectliteType.assignableTo)) Tryz.func129 (by kernel_rfl) (by kernel_rfl) (by kernel_rfl) (by kernel_rfl) (by kernel_rfl) ⟨rfl, rfl⟩
theorem x_valueOf124 (t : Addr) (w : World) : Xc Tryz.prog 59 [.iface 124 (.pointer (some t))] w (fun r w' => ∃ b, r = .agg #[.pointer (some ⟨1, 124, none⟩), pT b, .int .u64 150] ∧ w.heap.size ≤ b ∧ w'.heap[b]? = some (.cells #[.pointer (some t)] 124 (0, 0)) ∧ Ext w w') :=
 Xc.of (e := (fun args => Extern.ReflectliteValue.unpack (args.getD 0 (.tuple #[])))) (v := .agg #[.pointer (some ⟨1, 124, none⟩), .pointer (some ⟨w.heap.size, 0, none⟩), .int .u64 150]) (w' := w.alloc (.cells #[.pointer (some t)] 124)) Tryz.func59 (by kernel_rfl) (by kernel_rfl) (by kernel_rfl) (by kernel_rfl) (by kernel_rfl) ⟨w.heap.size, rfl, Nat.le_refl _, alloc_new _ _, Ext.alloc _ _⟩
theorem x_type124 (a : Addr) (w : World) : Xc Tryz.prog 60 [.agg #[.pointer (some ⟨1, 124, none⟩), .pointer (some a), .int .u64 150]] w (fun r w' => r = .iface 193 (.agg #[.pointer (some ⟨1, 124, none⟩)]) ∧ w = w') :=
 Xc.of (e := (Extern.ReflectliteValue.methodAny (Extern.ReflectliteValue.valueError "reflectlite.Value.Type" 0) (fun t _ _ _ => Extern.ReflectliteType.toType t))) Tryz.func60 (by kernel_rfl) (by kernel_rfl) (by kernel_rfl) (by kernel_rfl) (by kernel_rfl) ⟨rfl, rfl⟩
theorem x_kind124  (w : World) : Xc Tryz.prog 119 [.pointer (some ⟨1, 124, none⟩)] w (fun r w' => r = u8 22#8 ∧ w = w') :=
 Xc.of (e := (Extern.ReflectliteType.abiMethod fun t => do pure (.int .u8 (← Extern.Rtype.kind t)))) Tryz.func119 (by kernel_rfl) (by kernel_rfl) (by kernel_rfl) (by kernel_rfl) (by kernel_rfl) ⟨rfl, rfl⟩
theorem x_kind122  (w : World) : Xc Tryz.prog 119 [.pointer (some ⟨1, 122, none⟩)] w (fun r w' => r = u8 22#8 ∧ w = w') :=
 Xc.of (e := (Extern.ReflectliteType.abiMethod fun t => do pure (.int .u8 (← Extern.Rtype.kind t)))) Tryz.func119 (by kernel_rfl) (by kernel_rfl) (by kernel_rfl) (by kernel_rfl) (by kernel_rfl) ⟨rfl, rfl⟩
theorem rlm (z : Sem Value) (f : TypeId → Addr → Nat → Nat → Sem Value) (v : Value) : Extern.ReflectliteValue.method z f #[v] = (do match ← Extern.ReflectliteValue.parts v with | none => z | some (t, a, fl) => f t a fl (fl % 32)) := rfl
theorem parts124 (a : Addr) (w : World) : (Extern.ReflectliteValue.parts (.agg #[.pointer (some ⟨1, 124, none⟩), .pointer (some a), .int .u64 150])).run Tryz.prog w = .ok (some (124, a, 150)) w := by kernel_rfl
theorem x_isNil124 (a p : Addr) (w : World) (ha : w.cell? a = some (.pointer (some p))) : Xc Tryz.prog 61 [.agg #[.pointer (some ⟨1, 124, none⟩), .pointer (some a), .int .u64 150]] w (fun r w' => r = .bool false ∧ w = w') :=
 Xc.of (e := (Extern.ReflectliteValue.method (Extern.ReflectliteValue.valueError "reflectlite.Value.IsNil" 0) Extern.ReflectliteValue.isNil)) Tryz.func61 (by kernel_rfl) (by kernel_rfl) (by kernel_rfl) (by kernel_rfl) (by show (Extern.ReflectliteValue.method _ _ #[_]).run _ _ = _; rw [rlm]; simp only [Sem.run_bind, parts124, Result.andThen]; simp [Extern.ReflectliteValue.isNil, loadVar, isAgg, underlying, ha, Result.andThen]) ⟨rfl, rfl⟩
theorem x_elem124  (w : World) : Xc Tryz.prog 131 [.agg #[.pointer (some ⟨1, 124, none⟩)]] w (fun r w' => r = .iface 193 (.agg #[.pointer (some ⟨1, 122, none⟩)]) ∧ w = w') :=
 Xc.of (e := (Extern.ReflectliteType.method Extern.ReflectliteType.elem)) Tryz.func131 (by kernel_rfl) (by kernel_rfl) (by kernel_rfl) (by kernel_rfl) (by kernel_rfl) ⟨rfl, rfl⟩
theorem x_impl122  (w : World) : Xc Tryz.prog 132 [.agg #[.pointer (some ⟨1, 122, none⟩)], .iface 193 (.agg #[.pointer (some ⟨1, 31, none⟩)])] w (fun r w' => r = .bool true ∧ w = w') :=
 Xc.of (e := (Extern.ReflectliteType.relation "Implements" Extern.ReflectliteType.implements_)) Tryz.func132 (by kernel_rfl) (by kernel_rfl) (by kernel_rfl) (by kernel_rfl) (by kernel_rfl) ⟨rfl, rfl⟩
theorem m_AssignableTo (v : Value) : Mth Tryz.prog 193 "AssignableTo" (.agg #[v]) 129 (.agg #[v]) := fun w => by kernel_rfl
theorem m_Elem (v : Value) : Mth Tryz.prog 193 "Elem" (.agg #[v]) 131 (.agg #[v]) := fun w => by kernel_rfl
theorem m_Implements (v : Value) : Mth Tryz.prog 193 "Implements" (.agg #[v]) 132 (.agg #[v]) := fun w => by kernel_rfl
theorem m_Kind (v : Value) : Mth Tryz.prog 193 "Kind" (.agg #[v]) 119 v := fun w => by kernel_rfl
theorem handleErr : typeHandle Tryz.prog 31 = .pointer (some ⟨1, 31, none⟩) := by kernel_rfl
theorem as0_ok (e : Int) (t b : Nat) (w : World) : Calls Tryz.prog 62 [.iface 63 (i64 e), .iface 124 (pT t), .agg #[.pointer (some ⟨1, 124, none⟩), pT b, .int .u64 150], .iface 193 (.agg #[.pointer (some ⟨1, 122, none⟩)])].toArray w (Ret fun v w' => v = .bool false ∧ Ext w w') := by
 have H := Hp.start No w
 refine enter (n := 62) Tryz.func62 rfl rfl (bLe rfl) ?_
 refine go 1 ?_
 intro b1 w2 a0 H3 b0
 refine go 1 ?_
 refine loopAny (σ := Unit) (fun _ => [(0, .iface 63 (i64 e)), (1, .iface 124 (pT t)), (3, .iface 193 (.agg #[.pointer (some ⟨1, 122, none⟩)])), (6, pT b1)]) (fun _ w' => True ∧ Hp No w w' [(rC b1 #[.pointer (some ⟨1, 124, none⟩), pT b, .int .u64 150] 163)]) (fun _ => 0) (()) ?_ ?_ ?_
 ·exact kp
 ·exact ⟨trivial, H3⟩
 rintro _ ρ w5 ⟨_, HL⟩
 refine go 1 ?_
 refine sqR (wantedNone rfl _ _) (r_ext (vs := [.iface 63 (i64 e)]) rfl (x_typeOf63 (i64 e) w5)) ?_
 rintro _ _ ⟨rfl, rfl⟩
 refine go 1 ?_
 refine sqR (wantedNone rfl _ _) (r_invX (vs := [.iface 193 (.agg #[.pointer (some ⟨1, 122, none⟩)])]) rfl (m_AssignableTo _) rfl (x_assign63_122 w5)) ?_
 rintro _ _ ⟨rfl, rfl⟩
 refine go 1 ?_
 refine sq (r_lacks lk63_205 rfl) ?_
 refine go 9 ?_
 refine sq (r_lacks lk63_198 rfl) ?_
 refine go 2 ?_
 refine sq (r_lacks lk63_200 rfl) ?_
 refine go 4 ?_
 exact ⟨_, rfl, rfl, HL.chg⟩
theorem as1_ok (e : Int) (t : Nat) (w : World) (hG : Gl w) : Calls Tryz.prog 41 [.iface 63 (i64 e), .iface 124 (pT t)].toArray w (Ret fun v w' => v = .bool false ∧ Ext w w') := by
 obtain ⟨gcs, gT, gfr, hg, hgv⟩ := hG
 rw [handleErr] at hgv
 have H := Hp.start No w
 refine enter (n := 42) Tryz.func41 rfl rfl (bLe rfl) ?_
 refine go 6 ?_
 refine sqR (wantedNone rfl _ _) (r_ext (vs := [.iface 124 (pT t)]) rfl (x_valueOf124 ⟨t, 0, none⟩ w)) ?_
 rintro _ w1 ⟨b3, rfl, c0, ho5, d0⟩
 have H7 := H.add1 d0 c0 ho5
 have h0 := H7.a1 rfl
 refine go 1 ?_
 intro b8 w9 i0 j0 k0
 refine go 1 ?_
 intro a0 b0 l0
 refine go 1 ?_
 refine sqR (wantedNone rfl _ _) (r_ext (vs := [.agg #[.pointer (some ⟨1, 124, none⟩), pT b3, .int .u64 150]]) rfl (x_type124 ⟨b3, 0, none⟩ a0)) ?_
 rintro _ _ ⟨rfl, rfl⟩
 refine go 2 ?_
 refine sqR (wantedNone rfl _ _) (r_invX (vs := []) rfl (m_Kind _) rfl (x_kind124 a0)) ?_
 rintro _ _ ⟨rfl, rfl⟩
 refine sq ((r_neq8 (a := 22#8) (b := 22#8) rfl rfl).as (v' := .bool false) (by rfl)) ?_
 refine go 2 ?_
 refine sqR (wantedSome (d' := 20) (b := false) rfl rfl rfl) (r_ext (vs := [.agg #[.pointer (some ⟨1, 124, none⟩), pT b3, .int .u64 150]]) rfl (x_isNil124 ⟨b3, 0, none⟩ ⟨t, 0, none⟩ a0 (by rw [cell_eq (b0.get (k := 1) rfl)]; rfl))) ?_
 rintro _ _ ⟨rfl, rfl⟩
 refine go 2 ?_
 refine sqR (wantedNone rfl _ _) (r_invX (vs := []) rfl (m_Elem _) rfl (x_elem124 a0)) ?_
 rintro _ _ ⟨rfl, rfl⟩
 refine go 2 ?_
 refine sqR (wantedNone rfl _ _) (r_invX (vs := []) rfl (m_Kind _) rfl (x_kind122 a0)) ?_
 rintro _ _ ⟨rfl, rfl⟩
 refine sq ((r_neq8 (a := 22#8) (b := 20#8) rfl rfl).as (v' := .bool true) (by rfl)) ?_
 refine go 2 ?_
 refine sqAny (v := .iface 193 (.agg #[.pointer (some ⟨1, 31, none⟩)])) (w' := a0) (wantedSome (d' := 30) (b := true) rfl rfl rfl) (r_loadC (v := .iface 193 (.agg #[.pointer (some ⟨1, 31, none⟩)])) one157 (b0.keepE hg) (off := 0) rfl hgv) (sqR (wantedSome (d' := 30) (b := true) rfl rfl rfl) (r_invX (vs := [.iface 193 (.agg #[.pointer (some ⟨1, 31, none⟩)])]) rfl (m_Implements _) rfl (x_impl122 a0)) ?_)
 rintro _ _ ⟨rfl, rfl⟩
 refine go 6 ?_
 refine cl (as0_ok e t b3 a0) ?_
 rintro _ m0 ⟨rfl, e0⟩
 have f0 := b0.ext e0
 refine go 1 ?_
 exact ⟨_, rfl, rfl, f0.chg⟩
theorem wrap0_ok (e at1 : Int) (nm : ByteArray) (w : World) (hG : Gl w) : Calls Tryz.prog 22 [.iface 63 (i64 e), .string nm, i64 at1].toArray w (Ret fun v w' => Er w.heap.size w' e 1 v ∧ Ext w w') := by
 have H := Hp.start No w
 refine enter (n := 29) Tryz.func22 rfl rfl (bLe rfl) ?_
 refine go 5 ?_
 intro b1 w2 c0 H3 d0
 refine go 1 ?_
 refine sq (r_mkIP und124 (xv := pT b1) rfl) (cl (as1_ok e b1 w2 vGl) ?_)
 rintro _ w5 ⟨rfl, b0⟩
 have H7 := H3.ext b0
 refine go 2 ?_
 refine condFalse rfl ?_
 refine go 6 ?_
 intro b8 w9 e0 a0 f0
 refine sq (r_mkIP und122 (xv := pT b8) rfl) ?_
 refine go 1 ?_
 exact ⟨_, rfl, ⟨b8, _, _, _, rfl, (a0.own _ (List.mem_of_getElem? (i := 0) rfl) _ rfl).resolve_left (fun h => h), a0.get (k := 0) rfl, rfl⟩, a0.chg⟩
end Go.Proofs.YtohngnahcgbfmaaGreatDoor.Er
namespace Go.Proofs.YtohngnahcgbfmaaGreatDoor.Ek
open Go Vc Er
theorem isI31 : isI Tryz.prog 31 = true := by kernel_rfl
theorem one157 : isOne Tryz.prog 157 = true := by kernel_rfl
theorem one3 : isOne Tryz.prog 3 = true := by kernel_rfl
theorem und122 : Tryz.prog.underlying 122 = some (.pointer 126) := by kernel_rfl
theorem und124 : Tryz.prog.underlying 124 = some (.pointer 122) := by kernel_rfl
end Go.Proofs.YtohngnahcgbfmaaGreatDoor.Ek
namespace Go.Proofs.YtohngnahcgbfmaaGreatDoor.Er
open Go Vc Circ
theorem fits3 : Fits Tryz.prog 3 EI := fitsI (by kernel_rfl) (by kernel_rfl)
theorem fld104_0 : fld Tryz.prog 104 0 = some (0, 1, 3) := by kernel_rfl
theorem fld104_1 : fld Tryz.prog 104 1 = some (1, 1, 102) := by kernel_rfl
theorem fld104_2 : fld Tryz.prog 104 2 = some (2, 1, 100) := by kernel_rfl
theorem fld154_1 : fld Tryz.prog 154 1 = some (1, 1, 3) := by kernel_rfl
theorem fld154_2 : fld Tryz.prog 154 2 = some (2, 1, 3) := by kernel_rfl
theorem one100 : isOne Tryz.prog 100 = true := by kernel_rfl
theorem one102 : isOne Tryz.prog 102 = true := by kernel_rfl
theorem one3 : isOne Tryz.prog 3 = true := by kernel_rfl
theorem sli100 : sli Tryz.prog 100 = some (3, 1) := by kernel_rfl
theorem sli102 : sli Tryz.prog 102 = some (154, 3) := by kernel_rfl
theorem check_ok (n : Int) (gs : List Gt) (ol : List Int) (ga oa : Option Addr) (gc oc : Nat) (w : World) (hG : Gl w) (hGs : Rd EG w ga gs) (hOl : Rd EI w oa ol) (hgl : gs.length ≤ 140737488355328) (hol : ol.length ≤ 140737488355328) : Calls Tryz.prog 99 [.agg #[i64 n, .slice ga gs.length gc, .slice oa ol.length oc]].toArray w (Ret fun v w' => ((v = .nilIface ∧ IsC n gs ol) ∨ (Er w.heap.size w' 90 1 v ∧ ¬ IsC n gs ol)) ∧ Ext w w') := by
 have H := Hp.start No w
 refine enter (n := 109) Tryz.func99 rfl rfl (bLe rfl) ?_
 refine go 1 ?_
 intro b1 w2 z1 H3 A1
 refine go 5 ?_
 by_cases g5 : (n : Int) < (0 : Int)
 ·refine skAny (wantedSome (d' := 12) (b := true) rfl rfl (congrArg Value.bool (decide_eq_true g5))) (skAny (wantedSome (d' := 12) (b := true) rfl rfl (congrArg Value.bool (decide_eq_true g5))) (skAny (wantedSome (d' := 12) (b := true) rfl rfl (congrArg Value.bool (decide_eq_true g5))) (sq (r_pickT (u := .bool true) (congrArg Value.bool (decide_eq_true g5)) rfl) ?_)))
  refine go 7 ?_
  have := H3.lt (List.mem_of_getElem? (i := 0) rfl) rfl
  refine cl (wrap0_ok (90 : Int) n ({data := #[99, 105, 114, 99, 117, 105, 116]}) w2 vGl) ?_
  rintro v8 w6 ⟨j0, E0⟩
  have F0 := H3.ext E0
  obtain ⟨B1, C1, rfl⟩ := j0.iface
  refine go 1 ?_
  exact ⟨_, rfl, .inr ⟨j0.mono H3.chg.size, fun hg => by have := hg.lo; have := hg.hi; have := hg.gates; have := hg.outs; omega⟩, F0.chg⟩
 ·refine sqAny (v := pT b1) (w' := w2) (wantedSome (d' := 12) (b := false) rfl rfl (congrArg Value.bool (decide_eq_false g5))) (r_fieldAddr (off' := 0) fld104_0 (by decide) (b := b1) (off := 0) rfl om) (sqAny (v := i64 n) (w' := w2) (wantedSome (d' := 12) (b := false) rfl rfl (congrArg Value.bool (decide_eq_false g5))) (r_loadC (v := i64 n) one3 (H3.get (k := 0) rfl) (off := 0) rfl (by rfl)) (sqAny (v := .bool (decide (((4096 : Int) : Int) < n))) (w' := w2) (wantedSome (d' := 12) (b := false) rfl rfl (congrArg Value.bool (decide_eq_false g5))) (r_gtrI rfl rfl) (sq (r_pickF (v := .bool (decide (((4096 : Int) : Int) < n))) (congrArg Value.bool (decide_eq_false g5)) rfl) ?_)))
  refine go 1 ?_
  by_cases g14 : ((4096 : Int) : Int) < n
  ·refine skAny (wantedSome (d' := 17) (b := true) rfl rfl (congrArg Value.bool (decide_eq_true g14))) (skAny (wantedSome (d' := 17) (b := true) rfl rfl (congrArg Value.bool (decide_eq_true g14))) (skAny (wantedSome (d' := 17) (b := true) rfl rfl (congrArg Value.bool (decide_eq_true g14))) (skAny (wantedSome (d' := 17) (b := true) rfl rfl (congrArg Value.bool (decide_eq_true g14))) (sq (r_pickT (u := .bool true) (congrArg Value.bool (decide_eq_true g14)) rfl) ?_))))
   refine go 5 ?_
   have := H3.lt (List.mem_of_getElem? (i := 0) rfl) rfl
   refine cl (wrap0_ok (90 : Int) n ({data := #[99, 105, 114, 99, 117, 105, 116]}) w2 vGl) ?_
   rintro v17 D1 ⟨k0, G0⟩
   have H0 := H3.ext G0
   obtain ⟨E1, F1, rfl⟩ := k0.iface
   refine go 1 ?_
   exact ⟨_, rfl, .inr ⟨k0.mono H3.chg.size, fun hg => by have := hg.lo; have := hg.hi; have := hg.gates; have := hg.outs; omega⟩, H0.chg⟩
  ·refine sqAny (v := .pointer (some ⟨b1, 1, none⟩)) (w' := w2) (wantedSome (d' := 17) (b := false) rfl rfl (congrArg Value.bool (decide_eq_false g14))) (r_fieldAddr (off' := 1) fld104_1 (by decide) (b := b1) (off := 0) rfl om) (sqAny (v := .slice ga gs.length gc) (w' := w2) (wantedSome (d' := 17) (b := false) rfl rfl (congrArg Value.bool (decide_eq_false g14))) (r_loadC (v := .slice ga gs.length gc) one102 (H3.get (k := 0) rfl) (off := 1) rfl (by rfl)) (sqAny (v := iN gs.length) (w' := w2) (wantedSome (d' := 17) (b := false) rfl rfl (congrArg Value.bool (decide_eq_false g14))) (r_lenS sli102 (a := ga) (m := gs.length) (c := gc) rfl) (sqAny (v := .bool (decide (((4096 : Int) : Int) < (gs.length : Nat)))) (w' := w2) (wantedSome (d' := 17) (b := false) rfl rfl (congrArg Value.bool (decide_eq_false g14))) (r_gtrI rfl rfl) (sq (r_pickF (v := .bool (decide (((4096 : Int) : Int) < (gs.length : Nat)))) (congrArg Value.bool (decide_eq_false g14)) rfl) ?_))))
   refine go 1 ?_
   by_cases g23 : ((4096 : Int) : Int) < (gs.length : Nat)
   ·refine skAny (wantedSome (d' := 23) (b := true) rfl rfl (congrArg Value.bool (decide_eq_true g23))) (skAny (wantedSome (d' := 23) (b := true) rfl rfl (congrArg Value.bool (decide_eq_true g23))) (skAny (wantedSome (d' := 23) (b := true) rfl rfl (congrArg Value.bool (decide_eq_true g23))) (skAny (wantedSome (d' := 23) (b := true) rfl rfl (congrArg Value.bool (decide_eq_true g23))) (sq (r_pickT (u := .bool true) (congrArg Value.bool (decide_eq_true g23)) rfl) ?_))))
    refine go 3 ?_
    have := H3.lt (List.mem_of_getElem? (i := 0) rfl) rfl
    refine cl (wrap0_ok (90 : Int) n ({data := #[99, 105, 114, 99, 117, 105, 116]}) w2 vGl) ?_
    rintro v26 G1 ⟨l0, I0⟩
    have J0 := H3.ext I0
    obtain ⟨H1, I1, rfl⟩ := l0.iface
    refine go 1 ?_
    exact ⟨_, rfl, .inr ⟨l0.mono H3.chg.size, fun hg => by have := hg.lo; have := hg.hi; have := hg.gates; have := hg.outs; omega⟩, J0.chg⟩
   ·refine sqAny (v := .pointer (some ⟨b1, 2, none⟩)) (w' := w2) (wantedSome (d' := 23) (b := false) rfl rfl (congrArg Value.bool (decide_eq_false g23))) (r_fieldAddr (off' := 2) fld104_2 (by decide) (b := b1) (off := 0) rfl om) (sqAny (v := .slice oa ol.length oc) (w' := w2) (wantedSome (d' := 23) (b := false) rfl rfl (congrArg Value.bool (decide_eq_false g23))) (r_loadC (v := .slice oa ol.length oc) one100 (H3.get (k := 0) rfl) (off := 2) rfl (by rfl)) (sqAny (v := iN ol.length) (w' := w2) (wantedSome (d' := 23) (b := false) rfl rfl (congrArg Value.bool (decide_eq_false g23))) (r_lenS sli100 (a := oa) (m := ol.length) (c := oc) rfl) (sqAny (v := .bool (decide (((64 : Int) : Int) < (ol.length : Nat)))) (w' := w2) (wantedSome (d' := 23) (b := false) rfl rfl (congrArg Value.bool (decide_eq_false g23))) (r_gtrI rfl rfl) (sq (r_pickF (v := .bool (decide (((64 : Int) : Int) < (ol.length : Nat)))) (congrArg Value.bool (decide_eq_false g23)) rfl) ?_))))
    refine go 0 ?_
    refine condProp (((64 : Int) : Int) < (ol.length : Nat)) rfl (fun K0 => ?_) (fun K0 => ?_)
    ·refine go 3 ?_
     have := H3.lt (List.mem_of_getElem? (i := 0) rfl) rfl
     refine cl (wrap0_ok (90 : Int) n ({data := #[99, 105, 114, 99, 117, 105, 116]}) w2 vGl) ?_
     rintro v34 J1 ⟨m0, L0⟩
     have M0 := H3.ext L0
     obtain ⟨K1, L1, rfl⟩ := m0.iface
     refine go 1 ?_
     exact ⟨_, rfl, .inr ⟨m0.mono H3.chg.size, fun hg => by have := hg.lo; have := hg.hi; have := hg.gates; have := hg.outs; omega⟩, M0.chg⟩
    ·refine go 4 ?_
     refine loopAny (σ := Nat) (fun i => [(1, pT b1), (34, .slice ga gs.length gc), (35, iN gs.length), (36, iN i)]) (fun i w' => i ≤ gs.length ∧ (∀ j, j < i → gokP (gs.getD j g0) (n + (j : Nat))) ∧ Hp No w w' [(rC b1 #[i64 n, .slice ga gs.length gc, .slice oa ol.length oc] 104)]) (fun i => gs.length - i) (0) ?_ ?_ ?_
     ·exact kp
     ·exact ⟨om, fun j hj => by omega, H3⟩
     rintro i ρ M1 ⟨hi, hgs, HL⟩
     refine go 1 ?_
     refine condProp (((i : Nat) : Int) < (gs.length : Nat)) rfl (fun N0 => ?_) (fun N0 => ?_)
     ·refine go 4 ?_
      intro h0 N1 O1 P1 Q1
      let y1 : Option Addr := some ⟨h0, 2, none⟩
      refine go 2 ?_
      intro b0 a0 R1
      refine go 9 ?_
      by_cases g49 : ((0 : Int) : Int) ≤ ((gs.getD i g0).a)
      ·refine sqAny (v := .pointer (some ⟨h0, 1, none⟩)) (w' := b0) (wantedSome (d' := 48) (b := true) rfl rfl (congrArg Value.bool (decide_eq_true g49))) (r_fieldAddr (off' := 1) fld154_1 (by decide) (b := h0) (off := 0) rfl om) (sqAny (v := i64 ((gs.getD i g0).a)) (w' := b0) (wantedSome (d' := 48) (b := true) rfl rfl (congrArg Value.bool (decide_eq_true g49))) (r_loadC (v := i64 ((gs.getD i g0).a)) one3 (a0.get (k := 0) rfl) (off := 1) rfl (by rfl)) (sqAny (v := i64 (n + (i : Nat))) (w' := b0) (wantedSome (d' := 48) (b := true) rfl rfl (congrArg Value.bool (decide_eq_true g49))) (r_move (v := i64 (n + (i : Nat))) rfl) (sqAny (v := .bool (decide (((gs.getD i g0).a : Int) < (n + (i : Nat))))) (w' := b0) (wantedSome (d' := 48) (b := true) rfl rfl (congrArg Value.bool (decide_eq_true g49))) (r_lssI rfl rfl) (sq (r_pickT (u := .bool (decide (((gs.getD i g0).a : Int) < (n + (i : Nat))))) (congrArg Value.bool (decide_eq_true g49)) rfl) ?_))))
       refine go 5 ?_
       refine condProp (((gs.getD i g0).k : Int) = (1 : Int)) rfl (fun f0 => ?_) (fun f0 => ?_)
       ·refine go 0 ?_
        refine condTrue (congrArg Value.bool (decide_eq_true f0)) ?_
        refine go 2 ?_
        by_cases g50 : ((gs.getD i g0).a : Int) < (n + (i : Nat))
        ·refine sqAny (v := .pointer y1) (w' := b0) (wantedSome (d' := 60) (b := true) rfl rfl (congrArg Value.bool (decide_eq_true g50))) (r_fieldAddr (off' := 2) fld154_2 (by decide) (b := h0) (off := 0) rfl om) (sqAny (v := i64 ((gs.getD i g0).b)) (w' := b0) (wantedSome (d' := 60) (b := true) rfl rfl (congrArg Value.bool (decide_eq_true g50))) (r_loadC (v := i64 ((gs.getD i g0).b)) one3 (a0.get (k := 0) rfl) (off := 2) rfl (by rfl)) (sqAny (v := .bool (decide (((0 : Int) : Int) ≤ ((gs.getD i g0).b)))) (w' := b0) (wantedSome (d' := 60) (b := true) rfl rfl (congrArg Value.bool (decide_eq_true g50))) (r_geqI rfl rfl) (sq (r_pickT (u := .bool (decide (((0 : Int) : Int) ≤ ((gs.getD i g0).b)))) (congrArg Value.bool (decide_eq_true g50)) rfl) ?_)))
         refine go 1 ?_
         by_cases g51 : ((0 : Int) : Int) ≤ ((gs.getD i g0).b)
         ·refine sqAny (v := .pointer y1) (w' := b0) (wantedSome (d' := 65) (b := true) rfl rfl (congrArg Value.bool (decide_eq_true g51))) (r_fieldAddr (off' := 2) fld154_2 (by decide) (b := h0) (off := 0) rfl om) (sqAny (v := i64 ((gs.getD i g0).b)) (w' := b0) (wantedSome (d' := 65) (b := true) rfl rfl (congrArg Value.bool (decide_eq_true g51))) (r_loadC (v := i64 ((gs.getD i g0).b)) one3 (a0.get (k := 0) rfl) (off := 2) rfl (by rfl)) (sqAny (v := i64 (n + (i : Nat))) (w' := b0) (wantedSome (d' := 65) (b := true) rfl rfl (congrArg Value.bool (decide_eq_true g51))) (r_move (v := i64 (n + (i : Nat))) rfl) (sqAny (v := .bool (decide (((gs.getD i g0).b : Int) < (n + (i : Nat))))) (w' := b0) (wantedSome (d' := 65) (b := true) rfl rfl (congrArg Value.bool (decide_eq_true g51))) (r_lssI rfl rfl) (sq (r_pickT (u := .bool (decide (((gs.getD i g0).b : Int) < (n + (i : Nat))))) (congrArg Value.bool (decide_eq_true g51)) rfl) ?_))))
          refine go 3 ?_
          refine condBool (!(decide (((gs.getD i g0).b : Int) < (n + (i : Nat))))) rfl (fun c0 => ?_) (fun c0 => ?_)
          ·replace c0 : ¬ (((gs.getD i g0).b : Int) < (n + (i : Nat))) := by simpa using c0
           refine go 2 ?_
           have := a0.lt (List.mem_of_getElem? (i := 0) rfl) rfl
           have := a0.lt (List.mem_of_getElem? (i := 1) rfl) rfl
           refine cl (wrap0_ok (90 : Int) (i : Nat) ({data := #[103, 97, 116, 101]}) b0 vGl) ?_
           rintro v54 S1 ⟨n0, O0⟩
           have P0 := a0.ext O0
           obtain ⟨T1, U1, rfl⟩ := n0.iface
           refine go 1 ?_
           exact ⟨_, rfl, .inr ⟨n0.mono a0.chg.size, fun hg => by have := hg.gok i om; unfold gokP at this; omega⟩, P0.chg⟩
          ·replace c0 : ((gs.getD i g0).b : Int) < (n + (i : Nat)) := by simpa using c0
           refine go 2 ?_
           have hgi : gokP (gs.getD i g0) (n + (i : Nat)) := by unfold gokP; omega
           exact ⟨i + 1, _, rfl, kp, ⟨om, fun j hj => if h : j < i then hgs j h else by (rw [show j = i by omega]; exact hgi), (a0.dropk 0)⟩, vd⟩
         ·refine skAny (wantedSome (d' := 65) (b := false) rfl rfl (congrArg Value.bool (decide_eq_false g51))) (skAny (wantedSome (d' := 65) (b := false) rfl rfl (congrArg Value.bool (decide_eq_false g51))) (skAny (wantedSome (d' := 65) (b := false) rfl rfl (congrArg Value.bool (decide_eq_false g51))) (skAny (wantedSome (d' := 65) (b := false) rfl rfl (congrArg Value.bool (decide_eq_false g51))) (sq (r_pickF (v := .bool false) (congrArg Value.bool (decide_eq_false g51)) rfl) ?_))))
          refine go 5 ?_
          have := a0.lt (List.mem_of_getElem? (i := 0) rfl) rfl
          have := a0.lt (List.mem_of_getElem? (i := 1) rfl) rfl
          refine cl (wrap0_ok (90 : Int) (i : Nat) ({data := #[103, 97, 116, 101]}) b0 vGl) ?_
          rintro v62 V1 ⟨o0, Q0⟩
          have R0 := a0.ext Q0
          obtain ⟨W1, X1, rfl⟩ := o0.iface
          refine go 1 ?_
          exact ⟨_, rfl, .inr ⟨o0.mono a0.chg.size, fun hg => by have := hg.gok i om; unfold gokP at this; omega⟩, R0.chg⟩
        ·refine skAny (wantedSome (d' := 60) (b := false) rfl rfl (congrArg Value.bool (decide_eq_false g50))) (skAny (wantedSome (d' := 60) (b := false) rfl rfl (congrArg Value.bool (decide_eq_false g50))) (skAny (wantedSome (d' := 60) (b := false) rfl rfl (congrArg Value.bool (decide_eq_false g50))) (sq (r_pickF (v := .bool false) (congrArg Value.bool (decide_eq_false g50)) rfl) ?_)))
         refine go 7 ?_
         have := a0.lt (List.mem_of_getElem? (i := 0) rfl) rfl
         have := a0.lt (List.mem_of_getElem? (i := 1) rfl) rfl
         refine cl (wrap0_ok (90 : Int) (i : Nat) ({data := #[103, 97, 116, 101]}) b0 vGl) ?_
         rintro v70 Y1 ⟨p0, S0⟩
         have T0 := a0.ext S0
         obtain ⟨Z1, c2, rfl⟩ := p0.iface
         refine go 1 ?_
         exact ⟨_, rfl, .inr ⟨p0.mono a0.chg.size, fun hg => by have := hg.gok i om; unfold gokP at this; omega⟩, T0.chg⟩
       ·refine go 2 ?_
        refine condProp (((gs.getD i g0).k : Int) = (2 : Int)) rfl (fun f0 => ?_) (fun f0 => ?_)
        ·refine go 2 ?_
         by_cases g76 : ((gs.getD i g0).a : Int) < (n + (i : Nat))
         ·refine sqAny (v := .pointer y1) (w' := b0) (wantedSome (d' := 60) (b := true) rfl rfl (congrArg Value.bool (decide_eq_true g76))) (r_fieldAddr (off' := 2) fld154_2 (by decide) (b := h0) (off := 0) rfl om) (sqAny (v := i64 ((gs.getD i g0).b)) (w' := b0) (wantedSome (d' := 60) (b := true) rfl rfl (congrArg Value.bool (decide_eq_true g76))) (r_loadC (v := i64 ((gs.getD i g0).b)) one3 (a0.get (k := 0) rfl) (off := 2) rfl (by rfl)) (sqAny (v := .bool (decide (((0 : Int) : Int) ≤ ((gs.getD i g0).b)))) (w' := b0) (wantedSome (d' := 60) (b := true) rfl rfl (congrArg Value.bool (decide_eq_true g76))) (r_geqI rfl rfl) (sq (r_pickT (u := .bool (decide (((0 : Int) : Int) ≤ ((gs.getD i g0).b)))) (congrArg Value.bool (decide_eq_true g76)) rfl) ?_)))
          refine go 1 ?_
          by_cases g77 : ((0 : Int) : Int) ≤ ((gs.getD i g0).b)
          ·refine sqAny (v := .pointer y1) (w' := b0) (wantedSome (d' := 65) (b := true) rfl rfl (congrArg Value.bool (decide_eq_true g77))) (r_fieldAddr (off' := 2) fld154_2 (by decide) (b := h0) (off := 0) rfl om) (sqAny (v := i64 ((gs.getD i g0).b)) (w' := b0) (wantedSome (d' := 65) (b := true) rfl rfl (congrArg Value.bool (decide_eq_true g77))) (r_loadC (v := i64 ((gs.getD i g0).b)) one3 (a0.get (k := 0) rfl) (off := 2) rfl (by rfl)) (sqAny (v := i64 (n + (i : Nat))) (w' := b0) (wantedSome (d' := 65) (b := true) rfl rfl (congrArg Value.bool (decide_eq_true g77))) (r_move (v := i64 (n + (i : Nat))) rfl) (sqAny (v := .bool (decide (((gs.getD i g0).b : Int) < (n + (i : Nat))))) (w' := b0) (wantedSome (d' := 65) (b := true) rfl rfl (congrArg Value.bool (decide_eq_true g77))) (r_lssI rfl rfl) (sq (r_pickT (u := .bool (decide (((gs.getD i g0).b : Int) < (n + (i : Nat))))) (congrArg Value.bool (decide_eq_true g77)) rfl) ?_))))
           refine go 3 ?_
           refine condBool (!(decide (((gs.getD i g0).b : Int) < (n + (i : Nat))))) rfl (fun c0 => ?_) (fun c0 => ?_)
           ·replace c0 : ¬ (((gs.getD i g0).b : Int) < (n + (i : Nat))) := by simpa using c0
            refine go 2 ?_
            have := a0.lt (List.mem_of_getElem? (i := 0) rfl) rfl
            have := a0.lt (List.mem_of_getElem? (i := 1) rfl) rfl
            refine cl (wrap0_ok (90 : Int) (i : Nat) ({data := #[103, 97, 116, 101]}) b0 vGl) ?_
            rintro v80 d2 ⟨q0, U0⟩
            have V0 := a0.ext U0
            obtain ⟨e2, f2, rfl⟩ := q0.iface
            refine go 1 ?_
            exact ⟨_, rfl, .inr ⟨q0.mono a0.chg.size, fun hg => by have := hg.gok i om; unfold gokP at this; omega⟩, V0.chg⟩
           ·replace c0 : ((gs.getD i g0).b : Int) < (n + (i : Nat)) := by simpa using c0
            refine go 2 ?_
            have hgi : gokP (gs.getD i g0) (n + (i : Nat)) := by unfold gokP; omega
            exact ⟨i + 1, _, rfl, kp, ⟨om, fun j hj => if h : j < i then hgs j h else by (rw [show j = i by omega]; exact hgi), (a0.dropk 0)⟩, vd⟩
          ·refine skAny (wantedSome (d' := 65) (b := false) rfl rfl (congrArg Value.bool (decide_eq_false g77))) (skAny (wantedSome (d' := 65) (b := false) rfl rfl (congrArg Value.bool (decide_eq_false g77))) (skAny (wantedSome (d' := 65) (b := false) rfl rfl (congrArg Value.bool (decide_eq_false g77))) (skAny (wantedSome (d' := 65) (b := false) rfl rfl (congrArg Value.bool (decide_eq_false g77))) (sq (r_pickF (v := .bool false) (congrArg Value.bool (decide_eq_false g77)) rfl) ?_))))
           refine go 5 ?_
           have := a0.lt (List.mem_of_getElem? (i := 0) rfl) rfl
           have := a0.lt (List.mem_of_getElem? (i := 1) rfl) rfl
           refine cl (wrap0_ok (90 : Int) (i : Nat) ({data := #[103, 97, 116, 101]}) b0 vGl) ?_
           rintro v88 g2 ⟨r0, W0⟩
           have X0 := a0.ext W0
           obtain ⟨h2, i2, rfl⟩ := r0.iface
           refine go 1 ?_
           exact ⟨_, rfl, .inr ⟨r0.mono a0.chg.size, fun hg => by have := hg.gok i om; unfold gokP at this; omega⟩, X0.chg⟩
         ·refine skAny (wantedSome (d' := 60) (b := false) rfl rfl (congrArg Value.bool (decide_eq_false g76))) (skAny (wantedSome (d' := 60) (b := false) rfl rfl (congrArg Value.bool (decide_eq_false g76))) (skAny (wantedSome (d' := 60) (b := false) rfl rfl (congrArg Value.bool (decide_eq_false g76))) (sq (r_pickF (v := .bool false) (congrArg Value.bool (decide_eq_false g76)) rfl) ?_)))
          refine go 7 ?_
          have := a0.lt (List.mem_of_getElem? (i := 0) rfl) rfl
          have := a0.lt (List.mem_of_getElem? (i := 1) rfl) rfl
          refine cl (wrap0_ok (90 : Int) (i : Nat) ({data := #[103, 97, 116, 101]}) b0 vGl) ?_
          rintro v96 j2 ⟨s0, Y0⟩
          have Z0 := a0.ext Y0
          obtain ⟨k2, l2, rfl⟩ := s0.iface
          refine go 1 ?_
          exact ⟨_, rfl, .inr ⟨s0.mono a0.chg.size, fun hg => by have := hg.gok i om; unfold gokP at this; omega⟩, Z0.chg⟩
        ·refine go 2 ?_
         refine condProp (((gs.getD i g0).k : Int) = (3 : Int)) rfl (fun i0 => ?_) (fun i0 => ?_)
         ·refine go 2 ?_
          by_cases g102 : ((gs.getD i g0).a : Int) < (n + (i : Nat))
          ·refine sqAny (v := .pointer y1) (w' := b0) (wantedSome (d' := 74) (b := true) rfl rfl (congrArg Value.bool (decide_eq_true g102))) (r_fieldAddr (off' := 2) fld154_2 (by decide) (b := h0) (off := 0) rfl om) (sqAny (v := i64 ((gs.getD i g0).b)) (w' := b0) (wantedSome (d' := 74) (b := true) rfl rfl (congrArg Value.bool (decide_eq_true g102))) (r_loadC (v := i64 ((gs.getD i g0).b)) one3 (a0.get (k := 0) rfl) (off := 2) rfl (by rfl)) (sqAny (v := .bool (decide (((gs.getD i g0).b : Int) = (0 : Int)))) (w' := b0) (wantedSome (d' := 74) (b := true) rfl rfl (congrArg Value.bool (decide_eq_true g102))) (r_eqlI rfl rfl) (sq (r_pickT (u := .bool (decide (((gs.getD i g0).b : Int) = (0 : Int)))) (congrArg Value.bool (decide_eq_true g102)) rfl) ?_)))
           refine go 3 ?_
           refine condBool (!(decide (((gs.getD i g0).b : Int) = (0 : Int)))) rfl (fun c0 => ?_) (fun c0 => ?_)
           ·replace c0 : ¬ (((gs.getD i g0).b : Int) = (0 : Int)) := by simpa using c0
            refine go 2 ?_
            have := a0.lt (List.mem_of_getElem? (i := 0) rfl) rfl
            have := a0.lt (List.mem_of_getElem? (i := 1) rfl) rfl
            refine cl (wrap0_ok (90 : Int) (i : Nat) ({data := #[103, 97, 116, 101]}) b0 vGl) ?_
            rintro v105 m2 ⟨u0, c1⟩
            have d1 := a0.ext c1
            obtain ⟨n2, o2, rfl⟩ := u0.iface
            refine go 1 ?_
            exact ⟨_, rfl, .inr ⟨u0.mono a0.chg.size, fun hg => by have := hg.gok i om; unfold gokP at this; omega⟩, d1.chg⟩
           ·replace c0 : ((gs.getD i g0).b : Int) = (0 : Int) := by simpa using c0
            refine go 2 ?_
            have hgi : gokP (gs.getD i g0) (n + (i : Nat)) := by unfold gokP; omega
            exact ⟨i + 1, _, rfl, kp, ⟨om, fun j hj => if h : j < i then hgs j h else by (rw [show j = i by omega]; exact hgi), (a0.dropk 0)⟩, vd⟩
          ·refine skAny (wantedSome (d' := 74) (b := false) rfl rfl (congrArg Value.bool (decide_eq_false g102))) (skAny (wantedSome (d' := 74) (b := false) rfl rfl (congrArg Value.bool (decide_eq_false g102))) (skAny (wantedSome (d' := 74) (b := false) rfl rfl (congrArg Value.bool (decide_eq_false g102))) (sq (r_pickF (v := .bool false) (congrArg Value.bool (decide_eq_false g102)) rfl) ?_)))
           refine go 5 ?_
           have := a0.lt (List.mem_of_getElem? (i := 0) rfl) rfl
           have := a0.lt (List.mem_of_getElem? (i := 1) rfl) rfl
           refine cl (wrap0_ok (90 : Int) (i : Nat) ({data := #[103, 97, 116, 101]}) b0 vGl) ?_
           rintro v113 p2 ⟨w0, e1⟩
           have g1 := a0.ext e1
           obtain ⟨q2, r2, rfl⟩ := w0.iface
           refine go 1 ?_
           exact ⟨_, rfl, .inr ⟨w0.mono a0.chg.size, fun hg => by have := hg.gok i om; unfold gokP at this; omega⟩, g1.chg⟩
         ·refine go 5 ?_
          have := a0.lt (List.mem_of_getElem? (i := 0) rfl) rfl
          have := a0.lt (List.mem_of_getElem? (i := 1) rfl) rfl
          refine cl (wrap0_ok (90 : Int) (i : Nat) ({data := #[103, 97, 116, 101]}) b0 vGl) ?_
          rintro v121 s2 ⟨x0, h1⟩
          have i1 := a0.ext h1
          obtain ⟨t2, u2, rfl⟩ := x0.iface
          refine go 1 ?_
          exact ⟨_, rfl, .inr ⟨x0.mono a0.chg.size, fun hg => by have := hg.gok i om; unfold gokP at this; omega⟩, i1.chg⟩
      ·refine skAny (wantedSome (d' := 48) (b := false) rfl rfl (congrArg Value.bool (decide_eq_false g49))) (skAny (wantedSome (d' := 48) (b := false) rfl rfl (congrArg Value.bool (decide_eq_false g49))) (skAny (wantedSome (d' := 48) (b := false) rfl rfl (congrArg Value.bool (decide_eq_false g49))) (skAny (wantedSome (d' := 48) (b := false) rfl rfl (congrArg Value.bool (decide_eq_false g49))) (sq (r_pickF (v := .bool false) (congrArg Value.bool (decide_eq_false g49)) rfl) ?_))))
       refine go 5 ?_
       refine condProp (((gs.getD i g0).k : Int) = (1 : Int)) rfl (fun f0 => ?_) (fun f0 => ?_)
       ·refine go 0 ?_
        refine condTrue (congrArg Value.bool (decide_eq_true f0)) ?_
        refine go 10 ?_
        have := a0.lt (List.mem_of_getElem? (i := 0) rfl) rfl
        have := a0.lt (List.mem_of_getElem? (i := 1) rfl) rfl
        refine cl (wrap0_ok (90 : Int) (i : Nat) ({data := #[103, 97, 116, 101]}) b0 vGl) ?_
        rintro v129 x2 ⟨y0, j1⟩
        have k1 := a0.ext j1
        obtain ⟨y2, z2, rfl⟩ := y0.iface
        refine go 1 ?_
        exact ⟨_, rfl, .inr ⟨y0.mono a0.chg.size, fun hg => by have := hg.gok i om; unfold gokP at this; omega⟩, k1.chg⟩
       ·refine go 2 ?_
        refine condProp (((gs.getD i g0).k : Int) = (2 : Int)) rfl (fun f0 => ?_) (fun f0 => ?_)
        ·refine go 10 ?_
         have := a0.lt (List.mem_of_getElem? (i := 0) rfl) rfl
         have := a0.lt (List.mem_of_getElem? (i := 1) rfl) rfl
         refine cl (wrap0_ok (90 : Int) (i : Nat) ({data := #[103, 97, 116, 101]}) b0 vGl) ?_
         rintro v137 A2 ⟨z0, l1⟩
         have m1 := a0.ext l1
         obtain ⟨B2, C2, rfl⟩ := z0.iface
         refine go 1 ?_
         exact ⟨_, rfl, .inr ⟨z0.mono a0.chg.size, fun hg => by have := hg.gok i om; unfold gokP at this; omega⟩, m1.chg⟩
        ·refine go 2 ?_
         refine condProp (((gs.getD i g0).k : Int) = (3 : Int)) rfl (fun i0 => ?_) (fun i0 => ?_)
         ·refine go 8 ?_
          have := a0.lt (List.mem_of_getElem? (i := 0) rfl) rfl
          have := a0.lt (List.mem_of_getElem? (i := 1) rfl) rfl
          refine cl (wrap0_ok (90 : Int) (i : Nat) ({data := #[103, 97, 116, 101]}) b0 vGl) ?_
          rintro v145 D2 ⟨A0, n1⟩
          have o1 := a0.ext n1
          obtain ⟨E2, F2, rfl⟩ := A0.iface
          refine go 1 ?_
          exact ⟨_, rfl, .inr ⟨A0.mono a0.chg.size, fun hg => by have := hg.gok i om; unfold gokP at this; omega⟩, o1.chg⟩
         ·refine go 5 ?_
          have := a0.lt (List.mem_of_getElem? (i := 0) rfl) rfl
          have := a0.lt (List.mem_of_getElem? (i := 1) rfl) rfl
          refine cl (wrap0_ok (90 : Int) (i : Nat) ({data := #[103, 97, 116, 101]}) b0 vGl) ?_
          rintro v153 G2 ⟨B0, p1⟩
          have q1 := a0.ext p1
          obtain ⟨H2, I2, rfl⟩ := B0.iface
          refine go 1 ?_
          exact ⟨_, rfl, .inr ⟨B0.mono a0.chg.size, fun hg => by have := hg.gok i om; unfold gokP at this; omega⟩, q1.chg⟩
     ·refine go 4 ?_
      refine loopAny (σ := Nat) (fun q => [(1, pT b1), (86, .slice oa ol.length oc), (87, iN ol.length), (88, iN q)]) (fun q w' => q ≤ ol.length ∧ (∀ j, j < q → 0 ≤ ol.getD j 0 ∧ ol.getD j 0 < n + (gs.length : Nat)) ∧ Hp No w w' [(rC b1 #[i64 n, .slice ga gs.length gc, .slice oa ol.length oc] 104)]) (fun q => ol.length - q) (0) ?_ ?_ ?_
      ·exact kp
      ·exact ⟨om, fun j hj => by omega, HL⟩
      rintro q ρ d0 ⟨hq, hos, e0⟩
      refine go 1 ?_
      refine condProp (((q : Nat) : Int) < (ol.length : Nat)) rfl (fun r1 => ?_) (fun r1 => ?_)
      ·refine go 8 ?_
       by_cases g161 : (ol.getD q 0 : Int) < (0 : Int)
       ·refine skAny (wantedSome (d' := 95) (b := true) rfl rfl (congrArg Value.bool (decide_eq_true g161))) (skAny (wantedSome (d' := 95) (b := true) rfl rfl (congrArg Value.bool (decide_eq_true g161))) (skAny (wantedSome (d' := 95) (b := true) rfl rfl (congrArg Value.bool (decide_eq_true g161))) (skAny (wantedSome (d' := 95) (b := true) rfl rfl (congrArg Value.bool (decide_eq_true g161))) (skAny (wantedSome (d' := 95) (b := true) rfl rfl (congrArg Value.bool (decide_eq_true g161))) (skAny (wantedSome (d' := 95) (b := true) rfl rfl (congrArg Value.bool (decide_eq_true g161))) (skAny (wantedSome (d' := 95) (b := true) rfl rfl (congrArg Value.bool (decide_eq_true g161))) (skAny (wantedSome (d' := 95) (b := true) rfl rfl (congrArg Value.bool (decide_eq_true g161))) (sq (r_pickT (u := .bool true) (congrArg Value.bool (decide_eq_true g161)) rfl) ?_))))))))
        refine go 2 ?_
        have := e0.lt (List.mem_of_getElem? (i := 0) rfl) rfl
        refine cl (wrap0_ok (90 : Int) (q : Nat) ({data := #[111, 117, 116]}) d0 vGl) ?_
        rintro v164 J2 ⟨C0, s1⟩
        have t1 := e0.ext s1
        obtain ⟨K2, L2, rfl⟩ := C0.iface
        refine go 1 ?_
        exact ⟨_, rfl, .inr ⟨C0.mono e0.chg.size, fun hg => by have := hg.ook q om; omega⟩, t1.chg⟩
       ·refine sqAny (v := i64 (ol.getD q 0)) (w' := d0) (wantedSome (d' := 95) (b := false) rfl rfl (congrArg Value.bool (decide_eq_false g161))) (r_move (v := i64 (ol.getD q 0)) rfl) (sqAny (v := pT b1) (w' := d0) (wantedSome (d' := 95) (b := false) rfl rfl (congrArg Value.bool (decide_eq_false g161))) (r_fieldAddr (off' := 0) fld104_0 (by decide) (b := b1) (off := 0) rfl om) (sqAny (v := i64 n) (w' := d0) (wantedSome (d' := 95) (b := false) rfl rfl (congrArg Value.bool (decide_eq_false g161))) (r_loadC (v := i64 n) one3 (e0.get (k := 0) rfl) (off := 0) rfl (by rfl)) (sqAny (v := .pointer (some ⟨b1, 1, none⟩)) (w' := d0) (wantedSome (d' := 95) (b := false) rfl rfl (congrArg Value.bool (decide_eq_false g161))) (r_fieldAddr (off' := 1) fld104_1 (by decide) (b := b1) (off := 0) rfl om) (sqAny (v := .slice ga gs.length gc) (w' := d0) (wantedSome (d' := 95) (b := false) rfl rfl (congrArg Value.bool (decide_eq_false g161))) (r_loadC (v := .slice ga gs.length gc) one102 (e0.get (k := 0) rfl) (off := 1) rfl (by rfl)) (sqAny (v := iN gs.length) (w' := d0) (wantedSome (d' := 95) (b := false) rfl rfl (congrArg Value.bool (decide_eq_false g161))) (r_lenS sli102 (a := ga) (m := gs.length) (c := gc) rfl) (sqAny (v := i64 (n + (gs.length : Nat))) (w' := d0) (wantedSome (d' := 95) (b := false) rfl rfl (congrArg Value.bool (decide_eq_false g161))) (r_addI rfl rfl om) (sqAny (v := .bool (decide ((n + (gs.length : Nat) : Int) ≤ (ol.getD q 0)))) (w' := d0) (wantedSome (d' := 95) (b := false) rfl rfl (congrArg Value.bool (decide_eq_false g161))) (r_geqI rfl rfl) (sq (r_pickF (v := .bool (decide ((n + (gs.length : Nat) : Int) ≤ (ol.getD q 0)))) (congrArg Value.bool (decide_eq_false g161)) rfl) ?_))))))))
        refine go 0 ?_
        refine condProp ((n + (gs.length : Nat) : Int) ≤ (ol.getD q 0)) rfl (fun u1 => ?_) (fun u1 => ?_)
        ·refine go 2 ?_
         have := e0.lt (List.mem_of_getElem? (i := 0) rfl) rfl
         refine cl (wrap0_ok (90 : Int) (q : Nat) ({data := #[111, 117, 116]}) d0 vGl) ?_
         rintro v172 M2 ⟨D0, w1⟩
         have x1 := e0.ext w1
         obtain ⟨N2, O2, rfl⟩ := D0.iface
         refine go 1 ?_
         exact ⟨_, rfl, .inr ⟨D0.mono e0.chg.size, fun hg => by have := hg.ook q om; omega⟩, x1.chg⟩
        ·refine go 2 ?_
         exact ⟨q + 1, _, rfl, kp, ⟨om, fun j hj => if h : j < q then hos j h else by (rw [show j = q by omega]; omega), e0⟩, vd⟩
      ·refine go 1 ?_
       exact ⟨_, rfl, .inl ⟨rfl, ⟨om, by omega, by omega, by omega, fun j hj => hgs j om, fun j hj => hos j om⟩⟩, e0.chg⟩
theorem ands_ok (n : Int) (gs : List Gt) (ol : List Int) (ga oa : Option Addr) (gc oc : Nat) (w : World) (hGs : Rd EG w ga gs) (hgl : gs.length ≤ 140737488355328) : Calls Tryz.prog 37 [.agg #[i64 n, .slice ga gs.length gc, .slice oa ol.length oc]].toArray w (Ret fun v w' => v = iN (andsS gs gs.length) ∧ Ext w w') := by
 have H := Hp.start No w
 refine enter (n := 20) Tryz.func37 rfl rfl (bLe rfl) ?_
 refine go 1 ?_
 intro b1 w2 d0 H3 e0
 refine go 6 ?_
 refine loopAny (σ := Nat) (fun i => [(1, pT b1), (3, iN (andsS gs i)), (7, .slice ga gs.length gc), (8, iN gs.length), (9, iN i)]) (fun i w' => i ≤ gs.length ∧ Hp No w w' [(rC b1 #[i64 n, .slice ga gs.length gc, .slice oa ol.length oc] 104)]) (fun i => gs.length - i) (0) ?_ ?_ ?_
 ·exact kp
 ·exact ⟨om, H3⟩
 rintro i ρ w5 ⟨hi, HL⟩
 have hle := andsS_le gs i
 refine go 1 ?_
 refine condProp (((i : Nat) : Int) < (gs.length : Nat)) rfl (fun c0 => ?_) (fun c0 => ?_)
 ·refine go 3 ?_
  intro b7 w8 f0 H9 h0
  refine go 1 ?_
  intro i0 b0 j0
  refine go 3 ?_
  refine condProp (((gs.getD i g0).k : Int) = (2 : Int)) rfl (fun a0 => ?_) (fun a0 => ?_)
  ·refine go 5 ?_
   exact ⟨i + 1, _, rfl, ⟨rfl, congrArg i64 (by rw [andsS, if_pos a0]; rfl), rfl, rfl, rfl, trivial⟩, ⟨om, (b0.dropk 0)⟩, vd⟩
  ·refine go 2 ?_
   exact ⟨i + 1, _, rfl, ⟨rfl, congrArg i64 (by rw [andsS, if_neg a0]), rfl, rfl, rfl, trivial⟩, ⟨om, (b0.dropk 0)⟩, vd⟩
 ·obtain rfl : i = gs.length := by omega
  refine go 2 ?_
  exact ⟨_, rfl, rfl, HL.chg⟩
end Go.Proofs.YtohngnahcgbfmaaGreatDoor.Er
namespace Go.Proofs.YtohngnahcgbfmaaGreatDoor.Er
open Go Vc Circ
theorem check_good (n : Int) (gs : List Gt) (ol : List Int) (ga oa : Option Addr) (gc oc : Nat) (w : World) (hG : Gl w) (hGs : Rd EG w ga gs) (hOl : Rd EI w oa ol) (hgl : gs.length ≤ 140737488355328) (hol : ol.length ≤ 140737488355328) (hb : IsC n gs ol) : Calls Tryz.prog 99 [.agg #[i64 n, .slice ga gs.length gc, .slice oa ol.length oc]].toArray w (Ret fun v w' => v = .nilIface ∧ Ext w w') :=
 (check_ok n gs ol ga oa gc oc w hG hGs hOl hgl hol).mono fun e w' ⟨v, he, h, hE⟩ => by
  rcases h with ⟨h, _⟩ | ⟨_, h⟩
  ·exact ⟨v, he, h, hE⟩
  ·exact absurd hb h
end Go.Proofs.YtohngnahcgbfmaaGreatDoor.Er
namespace Go.Proofs.YtohngnahcgbfmaaGreatDoor.Cm
open Go Vc Er Circ
theorem agg145 : isAgg' Tryz.prog 145 = true := by kernel_rfl
theorem arr145 : arr Tryz.prog 145 = some (64, 1) := by kernel_rfl
theorem fld104_0 : fld Tryz.prog 104 0 = some (0, 1, 3) := by kernel_rfl
theorem fld104_1 : fld Tryz.prog 104 1 = some (1, 1, 102) := by kernel_rfl
theorem fld143_0 : fld Tryz.prog 143 0 = some (0, 3, 104) := by kernel_rfl
theorem mixed : Tryz.prog.follows .mixedOrders = true := by kernel_rfl
theorem one102 : isOne Tryz.prog 102 = true := by kernel_rfl
theorem one3 : isOne Tryz.prog 3 = true := by kernel_rfl
theorem siz145 : siz Tryz.prog 145 = some 64 := by kernel_rfl
theorem siz3 : siz Tryz.prog 3 = some 1 := by kernel_rfl
theorem sli102 : sli Tryz.prog 102 = some (154, 3) := by kernel_rfl
theorem gate_ok (b n : Nat) (key : Option Nat) (c : Nat) (sp : LV) (gs : List Gt) (hSw : Sl EG key gs c sp) (hn : n ≤ 1000) (hlen : gs.length ≤ 4000) (kd xa xb : Int) (R : List RW) (w₀ w : World) (H : Hp No w₀ w ((rC b #[iN n, sO key (List.length gs) c, sN0] 143) :: (key, sob EG 154 gs sp) :: R)) : Calls Tryz.prog 54 [pT b, i64 kd, i64 xa, i64 xb].toArray w (Ret fun v w' => v = i64 (wrW n gs) ∧ ∃ (key' : Option Nat) (c' : Nat) (sp' : LV), Sl EG key' (gs ++ [(⟨kd, xa, xb⟩ : Gt)]) c' sp' ∧ Hp No w₀ w' ((rC b #[iN n, sO key' (List.length (gs ++ [(⟨kd, xa, xb⟩ : Gt)])) c', sN0] 143) :: (key', sob EG 154 (gs ++ [(⟨kd, xa, xb⟩ : Gt)]) sp') :: R)) := by
 skip
 refine enter (n := 37) Tryz.func54 rfl rfl (bLe rfl) ?_
 refine go 11 ?_
 refine bS (E := EG) (l := ([⟨kd, xa, xb⟩] : List Gt)) fun b1 w3 m0 H4 n0 => ?_
 refine go 1 ?_
 intro b0 c7 c0 o0 d0 p0 e0
 have f0 : gs ++ ([⟨kd, xa, xb⟩] : List Gt) = gs ++ [(⟨kd, xa, xb⟩ : Gt)] := by rfl
 have a0 := d0
 have h0 := e0
 rw [f0] at a0 h0
 refine go 4 ?_
 intro i0 j0 q0
 refine go 0 ?_
 refine drawAny (K := [none, none, none, none, none, none, none, none, none, none, none, none, none, none]) [0, 1, 3, 7, 15, 0, 32, 96, 224, 480, 992, 2047, 4095, 8191] (fun w' => Ext i0 w') (fun w' w'' => Ext w' w'') mixed (by kernel_rfl) (Ext.drew _) (fun _ _ h h' => h.trans h') ?_ ?_
 ·exact relNone (by decide)
 refine gk 12 ?_
 refine ⟨i64 (wrW n gs), fun _ r0 s0 _ => Gives.run rfl ((r_subI rfl rfl om).as (v' := i64 (wrW n gs)) (by exact congrArg i64 (by unfold wrW; omega))) ⟨rfl, Chg.refl _ _⟩, ?_⟩
 refine gk 1 ?_
 intro r50 u0 k0 hF
 have l0 := j0.ext k0
 refine go 0 ?_
 refine ⟨_, rfl, rfl, b0, c7, c0, a0, ?_⟩
 rw [show List.length (gs ++ [(⟨kd, xa, xb⟩ : Gt)]) = gs.length + 1 from by rw [List.length_append]; rfl]
 exact (l0.dropk 0)
theorem carry_ok (b n : Nat) (key : Option Nat) (c : Nat) (sp : LV) (gs : List Gt) (hSw : Sl EG key gs c sp) (hn : n ≤ 1000) (hlen : gs.length ≤ 3900) (xa xb xc : Int) (R : List RW) (w₀ w : World) (H : Hp No w₀ w ((rC b #[iN n, sO key (List.length gs) c, sN0] 143) :: (key, sob EG 154 gs sp) :: R)) : Calls Tryz.prog 78 [pT b, i64 xa, i64 xb, i64 xc].toArray w (Ret fun v w' => v = i64 (caW n gs) ∧ ∃ (key' : Option Nat) (c' : Nat) (sp' : LV), Sl EG key' (caG n gs xa xb xc) c' sp' ∧ Hp No w₀ w' ((rC b #[iN n, sO key' (List.length (caG n gs xa xb xc)) c', sN0] 143) :: (key', sob EG 154 (caG n gs xa xb xc) sp') :: R)) := by
 skip
 refine enter (n := 22) Tryz.func78 rfl rfl (bLe rfl) ?_
 refine go 7 ?_
 have H1 := H.b2 rfl
 refine cl (gate_ok b n key c sp gs hSw hn om (1 : Int) xa xc R w₀ w H1) ?_
 rintro wv10 w2 ⟨hwv11, h0, c5, i0, j0, k0⟩
 obtain ⟨a0, c0⟩ : ∃ q, q = wrW n gs := ⟨_, rfl⟩
 rw [← c0] at hwv11
 subst hwv11
 have H9 := k0.b2 rfl
 refine go 3 ?_
 have l0 := H9.b2 rfl
 refine cl (gate_ok b n h0 c5 i0 (gs ++ [(⟨(1 : Int), xa, xc⟩ : Gt)]) j0 hn (by simp only [List.length_append, List.length_cons, List.length_nil]; omega) (1 : Int) xb xc R w₀ w2 l0) ?_
 rintro wv22 m0 ⟨hwv23, n0, o0, p0, q0, r0⟩
 obtain ⟨b0, d0⟩ : ∃ q, q = wrW n (gs ++ [(⟨(1 : Int), xa, xc⟩ : Gt)]) := ⟨_, rfl⟩
 rw [← d0] at hwv23
 subst hwv23
 have s0 := r0.b2 rfl
 have u0 := s0.b2 rfl
 refine cl (gate_ok b n n0 o0 p0 (gs ++ [(⟨(1 : Int), xa, xc⟩ : Gt)] ++ [(⟨(1 : Int), xb, xc⟩ : Gt)]) q0 hn (by simp only [List.length_append, List.length_cons, List.length_nil]; omega) (2 : Int) a0 b0 R w₀ m0 u0) ?_
 rintro wv34 w0 ⟨hwv35, x0, y0, z0, A0, B0⟩
 obtain ⟨C0, e0⟩ : ∃ q, q = wrW n (gs ++ [(⟨(1 : Int), xa, xc⟩ : Gt)] ++ [(⟨(1 : Int), xb, xc⟩ : Gt)]) := ⟨_, rfl⟩
 rw [← e0] at hwv35
 subst hwv35
 have D0 := B0.b2 rfl
 have E0 := D0.b2 rfl
 refine cl (gate_ok b n x0 y0 z0 (gs ++ [(⟨(1 : Int), xa, xc⟩ : Gt)] ++ [(⟨(1 : Int), xb, xc⟩ : Gt)] ++ [(⟨(2 : Int), a0, b0⟩ : Gt)]) A0 hn (by simp only [List.length_append, List.length_cons, List.length_nil]; omega) (1 : Int) xc C0 R w₀ w0 E0) ?_
 rintro wv46 L0 ⟨hwv47, F0, G0, H0, I0, J0⟩
 obtain ⟨M0, f0⟩ : ∃ q, q = wrW n (gs ++ [(⟨(1 : Int), xa, xc⟩ : Gt)] ++ [(⟨(1 : Int), xb, xc⟩ : Gt)] ++ [(⟨(2 : Int), a0, b0⟩ : Gt)]) := ⟨_, rfl⟩
 rw [← f0] at hwv47
 subst hwv47
 have K0 := J0.b2 rfl
 refine go 1 ?_
 subst f0
 subst e0
 subst d0
 subst c0
 rw [show wrW n (gs ++ [⟨1, xa, xc⟩] ++ [⟨1, xb, xc⟩] ++ [⟨2, wrW n gs, wrW n (gs ++ [⟨1, xa, xc⟩])⟩]) = caW n gs from by unfold caW wrW; simp only [List.length_append, List.length_cons, List.length_nil]]
 exact ⟨_, rfl, rfl, F0, G0, H0, I0, K0⟩
theorem input_ok (b iw : Nat) (hiw : iw ≤ 10) (w : World) : Calls Tryz.prog 51 [pT b, iN iw].toArray w (Ret fun v w' => v = .agg (cel EI (inW (64 * iw) 64)).toArray ∧ Ext w w') := by
 have H := Hp.start No w
 refine enter (n := 18) Tryz.func51 rfl rfl (bLe rfl) ?_
 refine go 1 ?_
 intro b1 w2 d0 H3 e0
 refine go 1 ?_
 intro b5 w6 f0 H7 h0
 refine go 1 ?_
 refine loopAny (σ := Nat) (fun i => [(1, iN iw), (4, pT b1), (5, pT b5), (7, iN i)]) (fun i w' => i ≤ 64 ∧ Hp No w w' [(rX b5 EI (padW (inW (64 * iw) i)) 145), (rX b1 EI (List.replicate 64 0) 145)]) (fun i => 64 - i) (0) ?_ ?_ ?_
 ·exact kp
 ·exact ⟨Nat.zero_le _, H7⟩
 rintro i ρ w9 ⟨hq, HL⟩
 have hpl : (padW (inW (64 * iw) i)).length = 64 := padW_len (by rw [inW_len]; exact hq)
 refine go 1 ?_
 refine condProp (((i : Nat) : Int) < (64 : Int)) rfl (fun c8 => ?_) (fun c8 => ?_)
 ·refine go 4 ?_
  refine sq ((r_mulI rfl rfl om).as (v' := iN (64 * iw)) (by exact congrArg i64 om)) ?_
  refine go 1 ?_
  refine sq ((r_addI rfl rfl om).as (v' := i64 (((64 * iw + i : Nat) : Int))) (by exact congrArg i64 om)) ?_
  refine go 2 ?_
  intro i0 a0 j0
  refine go 2 ?_
  rw [padW_set _ (inW_len _ _) om] at a0
  exact ⟨i + 1, _, rfl, kp, ⟨om, a0⟩, vd⟩
 ·have hqe : i = 64 := by omega
  have hpf := (inW_len (64 * iw) i).trans hqe
  rw [padW_full hpf] at HL
  refine go 1 ?_
  refine d_store (k := 1) (v := .agg (cel EI (inW (64 * iw) i)).toArray) (cs' := (cel EI (inW (64 * iw) i)).toArray) HL rfl rfl rfl siz145 (by exact celSize (by rw [hpf]; rfl)) (by exact celOne _) (by rw [List.size_toArray, cel_length]; show _ ≤ _ * 1; first | omega | (simp only [List.length_set]; omega) | exact bLe rfl | (simp <;> omega)) (by exact putAll (by rw [List.length_replicate]; exact hpf.symm)) fun k0 b0 l0 => ?_
  have c0 := b0.a2 rfl
  refine go 0 ?_
  subst hqe
  exact ⟨_, rfl, rfl, c0.chg⟩
end Go.Proofs.YtohngnahcgbfmaaGreatDoor.Cm
namespace Go.Proofs.YtohngnahcgbfmaaGreatDoor.Cm
open Go Vc Er Circ
theorem fits3 : Fits Tryz.prog 3 EI := fitsI (by kernel_rfl) (by kernel_rfl)
theorem mxor_ok (b n : Nat) (key : Option Nat) (c : Nat) (sp : LV) (gs : List Gt) (hSw : Sl EG key gs c sp) (hn : n ≤ 1000) (hlen : gs.length ≤ 3000) (ra rb : List Int) (hra : ra.length = 64) (hrb : rb.length = 64) (R : List RW) (w₀ w : World) (H : Hp No w₀ w ((rC b #[iN n, sO key (List.length gs) c, sN0] 143) :: (key, sob EG 154 gs sp) :: R)) : Calls Tryz.prog 52 [pT b, .agg (cel EI ra).toArray, .agg (cel EI rb).toArray].toArray w (Ret fun v w' => v = .agg (cel EI ((xoS n gs ra rb 64).2)).toArray ∧ ∃ (key' : Option Nat) (c' : Nat) (sp' : LV), Sl EG key' ((xoS n gs ra rb 64).1) c' sp' ∧ Hp No w₀ w' ((rC b #[iN n, sO key' (List.length ((xoS n gs ra rb 64).1)) c', sN0] 143) :: (key', sob EG 154 ((xoS n gs ra rb 64).1) sp') :: R)) := by
 skip
 refine enter (n := 24) Tryz.func52 rfl rfl (bLe rfl) ?_
 refine go 1 ?_
 intro b1 w2 L0 H3 M0
 refine go 1 ?_
 intro b5 w6 N0 H7 O0
 refine go 1 ?_
 intro b9 P0 Q0 R0 S0
 refine go 1 ?_
 intro e0 T0 U0 r0 V0
 refine go 1 ?_
 refine loopAny (σ := Nat × Option Nat × Nat × LV) (fun (i, kz, cz, sz) => [(0, pT b), (4, pT b1), (5, pT b5), (6, pT b9), (7, pT e0), (9, iN i)]) (fun (i, kz, cz, sz) w' => (i ≤ 64 ∧ Sl EG kz ((xoS n gs ra rb i).1) cz sz) ∧ Hp No w₀ w' ((rC b #[iN n, sO kz (List.length ((xoS n gs ra rb i).1)) cz, sN0] 143) :: (kz, sob EG 154 ((xoS n gs ra rb i).1) sz) :: (rX e0 EI (padW ((xoS n gs ra rb i).2)) 145) :: (rX b1 EI ra 145) :: (rX b5 EI rb 145) :: (rX b9 EI (List.replicate 64 0) 145) :: R)) (fun (i, kz, cz, sz) => 64 - i) ((0, key, c, sp)) ?_ ?_ ?_
 ·exact kp
 ·exact ⟨⟨om, hSw⟩, (r0.pk 6 [4, 5, 0, 3, 2, 1])⟩
 rintro ⟨i, kz, cz, sz⟩ ρ W0 ⟨⟨hq, hSz⟩, HL⟩
 have hxl := xoS_len n gs ra rb i
 have hpl : (padW (xoS n gs ra rb i).2).length = 64 := padW_len (by rw [hxl.2]; exact hq)
 refine go 1 ?_
 refine condProp (((i : Nat) : Int) < (64 : Int)) rfl (fun s0 => ?_) (fun s0 => ?_)
 ·refine go 2 ?_
  let f0 : List RW := ((rX b1 EI ra 145) :: (rX b5 EI rb 145) :: (rX b9 EI (List.replicate 64 0) 145) :: R)
  let j0 := fun (a0 : Option Nat) (b0 : LV) => ((a0, sob EG 154 (((xoS n gs ra rb i).1) ++ [(⟨(1 : Int), ra.getD i 0, rb.getD i 0⟩ : Gt)]) b0) : RW)
  let k0 := fun (a0 : Option Nat) (c0 : Nat) => ((rC b #[iN n, sO a0 (List.length (((xoS n gs ra rb i).1) ++ [(⟨(1 : Int), ra.getD i 0, rb.getD i 0⟩ : Gt)])) c0, sN0] 143) : RW)
  let n0 := ((rX e0 EI (padW ((xoS n gs ra rb i).2)) 145) : RW)
  let l0 := fun (a0 : Option Nat) (c0 : Nat) (b0 : LV) => (Sl EG a0 (((xoS n gs ra rb i).1) ++ [(⟨(1 : Int), ra.getD i 0, rb.getD i 0⟩ : Gt)]) c0 b0 : Prop)
  let u0 : Tab := [zt2 false false fun _ _ w' => Hp No w₀ w' ((rC b #[iN n, sO kz (List.length ((xoS n gs ra rb i).1)) cz, sN0] 143) :: (kz, sob EG 154 ((xoS n gs ra rb i).1) sz) :: n0 :: f0), zt2 true false fun v8 _ w' => ∃ a0 c0 b0 d0, v8 = i64 d0 ∧ (l0 a0 c0 b0) ∧ d0 = wrW n ((xoS n gs ra rb i).1) ∧ Hp No w₀ w' ((k0 a0 c0) :: (j0 a0 b0) :: n0 :: f0), zt2 true true fun v8 _ w' => ∃ a0 c0 b0 d0, v8 = i64 d0 ∧ (l0 a0 c0 b0) ∧ d0 = wrW n ((xoS n gs ra rb i).1) ∧ Hp No w₀ w' ((k0 a0 c0) :: (j0 a0 b0) :: (rX e0 EI ((padW ((xoS n gs ra rb i).2)).set i d0) 145) :: f0)]
  refine drawH (m := 11) [0, 0, 0, 4, 12, 0, 32, 96, 254, 511, 1023] [8, 10] f0 u0 mixed (fun _ e => HL.ext e) (A_ (fun _ _ h => h.drop1.drop1.drop1) (A_ (fun _ _ ⟨_, _, _, _, _, _, _, h⟩ => h.drop1.drop1.drop1) (A_ (fun _ _ ⟨_, _, _, _, _, _, _, h⟩ => h.drop1.drop1.drop1) trivial))) (fun o0 => ?_)
  refine gk 8 ?_
  refine WalkT.eff o0 0 ?_ ?_
  ·refine A_ (fun r w0 uw hF hE => ?_) trivial
   have x0 := hF.ext hE
   refine gW fun Q' hK => ?_
   have y0 := x0.b2 rfl
   refine cl (gate_ok b n kz cz sz ((xoS n gs ra rb i).1) hSz hn om (1 : Int) (ra.getD i 0) (rb.getD i 0) ((rX e0 EI (padW ((xoS n gs ra rb i).2)) 145) :: (rX b1 EI ra 145) :: (rX b5 EI rb 145) :: (rX b9 EI (List.replicate 64 0) 145) :: R) w₀ uw y0) ?_
   rintro wv70 X0 ⟨hwv71, z0, A0, B0, C0, D0⟩
   obtain ⟨E0, p0⟩ : ∃ q, q = wrW n ((xoS n gs ra rb i).1) := ⟨_, rfl⟩
   rw [← p0] at hwv71
   subst hwv71
   have F0 := D0.b6 rfl
   exact hK _ _ (E_ z0 (E_ A0 (E_ B0 (E_ E0 (A_ rfl (A_ C0 (A_ p0 F0)))))))
  refine gk 1 ?_
  refine WalkT.eff o0 1 ?_ ?_
  ·refine A_ (fun r w0 uw hF hE => ?_) trivial
   obtain ⟨a0, c0, b0, d0, e8, i0, m0, q0⟩ := hF
   replace q0 := q0.ext hE
   dsimp only
   rw [e8]
   refine gW0 fun Q' hK => ?_
   refine go 1 ?_
   intro Y0 G0 Z0
   exact hK _ (fun _ => (E_ a0 (E_ c0 (E_ b0 (E_ d0 (A_ e8 (A_ i0 (A_ m0 G0))))))))
  refine WalkT.nil fun r w0 c1 hF hE => ?_
  obtain ⟨a0, c0, b0, d0, e8, i0, m0, h0⟩ := hF
  replace h0 := h0.ext hE
  dsimp only
  rw [e8]
  dsimp only [l0] at i0
  dsimp only [f0, k0, j0] at h0
  subst m0
  refine go 2 ?_
  rw [padW_set (l := (xoS n gs ra rb i).2) _ hxl.2 om] at h0
  have H0 := h0
  have I0 := H0.b6 rfl
  exact ⟨(i + 1, a0, c0, b0), _, rfl, kp, ⟨⟨om, i0⟩, I0⟩, vd⟩
 ·have hie : i = 64 := by omega
  have hrl := hxl.2.trans hie
  rw [padW_full hrl] at HL
  refine go 1 ?_
  refine d_store (k := 5) (v := .agg (cel EI ((xoS n gs ra rb i).2)).toArray) (cs' := (cel EI ((xoS n gs ra rb i).2)).toArray) HL rfl rfl rfl siz145 (by exact celSize (by rw [hrl]; rfl)) (by exact celOne _) (by rw [List.size_toArray, cel_length]; show _ ≤ _ * 1; first | omega | (simp only [List.length_set]; omega) | exact bLe rfl | (simp <;> omega)) (by exact putAll (by rw [List.length_replicate]; exact hrl.symm)) fun d1 J0 e1 => ?_
  have K0 := J0.b6 rfl
  refine go 0 ?_
  subst hie
  exact ⟨_, rfl, rfl, kz, cz, sz, hSz, ((((K0.dropk 5).dropk 4).dropk 3).dropk 2)⟩
end Go.Proofs.YtohngnahcgbfmaaGreatDoor.Cm
namespace Go.Proofs.YtohngnahcgbfmaaGreatDoor.Cm
open Go Vc Er Circ
theorem madd_ok (b n : Nat) (key : Option Nat) (c : Nat) (sp : LV) (gs : List Gt) (hSw : Sl EG key gs c sp) (hn : n ≤ 1000) (hlen : gs.length ≤ 3000) (ra rb : List Int) (hra : ra.length = 64) (hrb : rb.length = 64) (R : List RW) (w₀ w : World) (H : Hp No w₀ w ((rC b #[iN n, sO key (List.length gs) c, sN0] 143) :: (key, sob EG 154 gs sp) :: R)) : Calls Tryz.prog 53 [pT b, .agg (cel EI ra).toArray, .agg (cel EI rb).toArray].toArray w (Ret fun v w' => v = .agg (cel EI ((adS n gs ra rb 63).2.1)).toArray ∧ ∃ (key' : Option Nat) (c' : Nat) (sp' : LV), Sl EG key' ((adS n gs ra rb 63).1) c' sp' ∧ Hp No w₀ w' ((rC b #[iN n, sO key' (List.length ((adS n gs ra rb 63).1)) c', sN0] 143) :: (key', sob EG 154 ((adS n gs ra rb 63).1) sp') :: R)) := by
 skip
 refine enter (n := 52) Tryz.func53 rfl rfl (bLe rfl) ?_
 refine go 1 ?_
 intro b1 w2 j2 H3 k2
 refine go 1 ?_
 intro b5 w6 l2 H7 m2
 refine go 1 ?_
 intro b9 n2 o2 p2 q2
 refine go 1 ?_
 intro e0 X0 r2 Y0 s2
 refine go 5 ?_
 have Z0 := ((Y0.pk 6 [4, 5, 0, 1, 2, 3])).b2 rfl
 refine cl (gate_ok b n key c sp gs hSw hn om (1 : Int) (ra.getD 0 0) (rb.getD 0 0) ((rX e0 EI (List.replicate 64 0) 145) :: (rX b9 EI (List.replicate 64 0) 145) :: (rX b5 EI rb 145) :: (rX b1 EI ra 145) :: R) w₀ X0 Z0) ?_
 rintro wv26 t2 ⟨hwv27, c1, d1, e1, g1, h1⟩
 obtain ⟨i1, G0⟩ : ∃ q, q = wrW n gs := ⟨_, rfl⟩
 rw [← G0] at hwv27
 subst hwv27
 have u2 := h1.b6 rfl
 refine go 2 ?_
 intro j1 k1 x2
 refine go 5 ?_
 have l1 := k1.b2 rfl
 refine cl (gate_ok b n c1 d1 e1 (gs ++ [(⟨(1 : Int), ra.getD 0 0, rb.getD 0 0⟩ : Gt)]) g1 hn (by simp only [List.length_append, List.length_cons, List.length_nil]; omega) (2 : Int) (ra.getD 0 0) (rb.getD 0 0) ((rX e0 EI ((List.replicate 64 0).set 0 i1) 145) :: (rX b9 EI (List.replicate 64 0) 145) :: (rX b5 EI rb 145) :: (rX b1 EI ra 145) :: R) w₀ j1 l1) ?_
 rintro wv41 y2 ⟨hwv42, m1, n1, o1, p1, q1⟩
 obtain ⟨z2, H0⟩ : ∃ q, q = wrW n (gs ++ [(⟨(1 : Int), ra.getD 0 0, rb.getD 0 0⟩ : Gt)]) := ⟨_, rfl⟩
 rw [← H0] at hwv42
 subst hwv42
 have I0 := q1.b6 rfl
 refine go 1 ?_
 subst H0
 subst G0
 rw [padW_one] at I0
 have r1 := I0.b6 rfl
 have s1 := r1.b6 rfl
 refine go 1 ?_
 refine loopAny (σ := Nat × Option Nat × Nat × LV) (fun (i, kz, cz, sz) => [(0, pT b), (4, pT b1), (5, pT b5), (6, pT b9), (7, pT e0), (8, i64 ((adS n gs ra rb i).2.2)), (9, iN (i + 1))]) (fun (i, kz, cz, sz) w' => (i ≤ 63 ∧ Sl EG kz ((adS n gs ra rb i).1) cz sz) ∧ Hp No w₀ w' ((rC b #[iN n, sO kz (List.length ((adS n gs ra rb i).1)) cz, sN0] 143) :: (kz, sob EG 154 ((adS n gs ra rb i).1) sz) :: (rX e0 EI (padW ((adS n gs ra rb i).2.1)) 145) :: (rX b1 EI ra 145) :: (rX b5 EI rb 145) :: (rX b9 EI (List.replicate 64 0) 145) :: R)) (fun (i, kz, cz, sz) => 63 - i) ((0, m1, n1, o1)) ?_ ?_ ?_
 ·exact kp
 ·exact ⟨⟨om, p1⟩, (s1.pk 6 [0, 1, 2, 5, 4, 3])⟩
 rintro ⟨i, kz, cz, sz⟩ ρ A2 ⟨⟨hq, hSz⟩, HL⟩
 have hal := adS_len n gs ra rb i
 have hpl : (padW (adS n gs ra rb i).2.1).length = 64 := padW_len (by rw [hal.2]; omega)
 refine go 2 ?_
 refine condProp ((((i + 1) : Nat) : Int) < (64 : Int)) rfl (fun t1 => ?_) (fun t1 => ?_)
 ·refine go 0 ?_
  let i0 : List RW := ((rX b1 EI ra 145) :: (rX b5 EI rb 145) :: (rX b9 EI (List.replicate 64 0) 145) :: R)
  let x0 := fun (b0 : Option Nat) (a0 : Int) (d0 : LV) => ((b0, sob EG 154 (((adS n gs ra rb i).1) ++ [(⟨(1 : Int), ra.getD (i + 1) 0, rb.getD (i + 1) 0⟩ : Gt)] ++ [(⟨(1 : Int), a0, (adS n gs ra rb i).2.2⟩ : Gt)]) d0) : RW)
  let y0 := fun (b0 : Option Nat) (a0 : Int) (c0 : Nat) => ((rC b #[iN n, sO b0 (List.length (((adS n gs ra rb i).1) ++ [(⟨(1 : Int), ra.getD (i + 1) 0, rb.getD (i + 1) 0⟩ : Gt)] ++ [(⟨(1 : Int), a0, (adS n gs ra rb i).2.2⟩ : Gt)])) c0, sN0] 143) : RW)
  let z0 := ((rX e0 EI (padW ((adS n gs ra rb i).2.1)) 145) : RW)
  let A0 := fun (b0 : Option Nat) (a0 : Int) (c0 : Nat) (d0 : LV) => (Sl EG b0 (((adS n gs ra rb i).1) ++ [(⟨(1 : Int), ra.getD (i + 1) 0, rb.getD (i + 1) 0⟩ : Gt)] ++ [(⟨(1 : Int), a0, (adS n gs ra rb i).2.2⟩ : Gt)]) c0 d0 : Prop)
  let u1 : Tab := [zt3 false false false fun _ _ _ w' => Hp No w₀ w' ((rC b #[iN n, sO kz (List.length ((adS n gs ra rb i).1)) cz, sN0] 143) :: (kz, sob EG 154 ((adS n gs ra rb i).1) sz) :: z0 :: i0), zt3 true false false fun v9 _ _ w' => ∃ j0 n0 o0 a0, v9 = i64 a0 ∧ Sl EG j0 (((adS n gs ra rb i).1) ++ [(⟨(1 : Int), ra.getD (i + 1) 0, rb.getD (i + 1) 0⟩ : Gt)]) n0 o0 ∧ a0 = wrW n ((adS n gs ra rb i).1) ∧ Hp No w₀ w' ((rC b #[iN n, sO j0 (List.length (((adS n gs ra rb i).1) ++ [(⟨(1 : Int), ra.getD (i + 1) 0, rb.getD (i + 1) 0⟩ : Gt)])) n0, sN0] 143) :: (j0, sob EG 154 (((adS n gs ra rb i).1) ++ [(⟨(1 : Int), ra.getD (i + 1) 0, rb.getD (i + 1) 0⟩ : Gt)]) o0) :: z0 :: i0), zt3 true true false fun v9 v11 _ w' => ∃ a0 b0 c0 d0 f0, v9 = i64 a0 ∧ v11 = i64 f0 ∧ (A0 b0 a0 c0 d0) ∧ a0 = wrW n ((adS n gs ra rb i).1) ∧ f0 = wrW n (((adS n gs ra rb i).1) ++ [(⟨(1 : Int), ra.getD (i + 1) 0, rb.getD (i + 1) 0⟩ : Gt)]) ∧ Hp No w₀ w' ((y0 b0 a0 c0) :: (x0 b0 a0 d0) :: z0 :: i0), zt3 true true true fun v9 v11 _ w' => ∃ a0 b0 c0 d0 f0, v9 = i64 a0 ∧ v11 = i64 f0 ∧ (A0 b0 a0 c0 d0) ∧ a0 = wrW n ((adS n gs ra rb i).1) ∧ f0 = wrW n (((adS n gs ra rb i).1) ++ [(⟨(1 : Int), ra.getD (i + 1) 0, rb.getD (i + 1) 0⟩ : Gt)]) ∧ Hp No w₀ w' ((y0 b0 a0 c0) :: (x0 b0 a0 d0) :: (rX e0 EI ((padW ((adS n gs ra rb i).2.1)).set (i + 1) f0) 145) :: i0)]
  refine drawH (m := 14) [0, 0, 0, 0, 8, 24, 0, 64, 192, 508, 0, 2046, 4095, 8191] [9, 11, 13] i0 u1 mixed (fun _ e => HL.ext e) (A_ (fun _ _ h => h.drop1.drop1.drop1) (A_ (fun _ _ ⟨_, _, _, _, _, _, _, h⟩ => h.drop1.drop1.drop1) (A_ (fun _ _ ⟨_, _, _, _, _, _, _, _, _, _, h⟩ => h.drop1.drop1.drop1) (A_ (fun _ _ ⟨_, _, _, _, _, _, _, _, _, _, h⟩ => h.drop1.drop1.drop1) trivial)))) (fun B0 => ?_)
  refine gk 9 ?_
  refine WalkT.eff B0 0 ?_ ?_
  ·refine A_ (fun r w0 uw hF hE => ?_) trivial
   have w1 := hF.ext hE
   refine gW fun Q' hK => ?_
   have y1 := w1.b2 rfl
   refine cl (gate_ok b n kz cz sz ((adS n gs ra rb i).1) hSz hn om (1 : Int) (ra.getD (i + 1) 0) (rb.getD (i + 1) 0) ((rX e0 EI (padW ((adS n gs ra rb i).2.1)) 145) :: (rX b1 EI ra 145) :: (rX b5 EI rb 145) :: (rX b9 EI (List.replicate 64 0) 145) :: R) w₀ uw y1) ?_
   rintro wv125 B2 ⟨hwv126, z1, A1, B1, C1, D1⟩
   obtain ⟨E1, J0⟩ : ∃ q, q = wrW n ((adS n gs ra rb i).1) := ⟨_, rfl⟩
   rw [← J0] at hwv126
   subst hwv126
   have F1 := D1.b6 rfl
   exact hK _ _ (E_ z1 (E_ A1 (E_ B1 (E_ E1 (A_ rfl (A_ C1 (A_ J0 F1)))))))
  refine gk 1 ?_
  refine WalkT.eff B0 1 ?_ ?_
  ·refine A_ (fun r w0 uw hF hE => ?_) trivial
   obtain ⟨j0, n0, o0, a0, e9, G1, k0, C0⟩ := hF
   replace C0 := C0.ext hE
   dsimp only
   rw [e9]
   refine gW fun Q' hK => ?_
   have H1 := C0.b2 rfl
   refine cl (gate_ok b n j0 n0 o0 (((adS n gs ra rb i).1) ++ [(⟨(1 : Int), ra.getD (i + 1) 0, rb.getD (i + 1) 0⟩ : Gt)]) G1 hn (by simp only [List.length_append, List.length_cons, List.length_nil]; omega) (1 : Int) a0 ((adS n gs ra rb i).2.2) ((rX e0 EI (padW ((adS n gs ra rb i).2.1)) 145) :: (rX b1 EI ra 145) :: (rX b5 EI rb 145) :: (rX b9 EI (List.replicate 64 0) 145) :: R) w₀ uw H1) ?_
   rintro wv138 C2 ⟨hwv139, I1, J1, K1, L1, M1⟩
   obtain ⟨N1, K0⟩ : ∃ q, q = wrW n (((adS n gs ra rb i).1) ++ [(⟨(1 : Int), ra.getD (i + 1) 0, rb.getD (i + 1) 0⟩ : Gt)]) := ⟨_, rfl⟩
   rw [← K0] at hwv139
   subst hwv139
   have O1 := M1.b6 rfl
   exact hK _ _ (E_ a0 (E_ I1 (E_ J1 (E_ K1 (E_ N1 (A_ e9 (A_ rfl (A_ L1 (A_ k0 (A_ K0 O1))))))))))
  refine gk 1 ?_
  refine WalkT.eff B0 2 ?_ ?_
  ·refine A_ (fun r w0 uw hF hE => ?_) trivial
   obtain ⟨a0, b0, c0, d0, f0, e9, p0, q0, k0, D0, L0⟩ := hF
   replace L0 := L0.ext hE
   dsimp only
   rw [p0]
   refine gW0 fun Q' hK => ?_
   refine go 1 ?_
   intro D2 P1 E2
   exact hK _ (fun _ => (E_ a0 (E_ b0 (E_ c0 (E_ d0 (E_ f0 (A_ e9 (A_ p0 (A_ q0 (A_ k0 (A_ D0 P1)))))))))))
  refine WalkT.nil fun r w0 M0 hF hE => ?_
  obtain ⟨a0, b0, c0, d0, f0, e9, p0, q0, k0, D0, r0⟩ := hF
  let x1 : RW := (b0, sob EG 154 (adP n ((adS n gs ra rb i).1) (ra.getD (i + 1) 0) (rb.getD (i + 1) 0) (adS n gs ra rb i).2.2) d0)
  replace r0 := r0.ext hE
  dsimp only
  rw [e9, p0]
  dsimp only [A0] at q0
  dsimp only [i0, y0, x0] at r0
  subst D0
  subst k0
  have N0 : ((adS n gs ra rb i).1) ++ [(⟨(1 : Int), ra.getD (i + 1) 0, rb.getD (i + 1) 0⟩ : Gt)] ++ [(⟨(1 : Int), (wrW n ((adS n gs ra rb i).1)), (adS n gs ra rb i).2.2⟩ : Gt)] = adP n ((adS n gs ra rb i).1) (ra.getD (i + 1) 0) (rb.getD (i + 1) 0) (adS n gs ra rb i).2.2 := by rfl
  have E0 := q0
  rw [N0] at E0
  have O0 : Hp No w₀ M0 ((rC b #[iN n, sO b0 (List.length (adP n ((adS n gs ra rb i).1) (ra.getD (i + 1) 0) (rb.getD (i + 1) 0) (adS n gs ra rb i).2.2)) c0, sN0] 143) :: x1 :: (rX e0 EI ((padW ((adS n gs ra rb i).2.1)).set (i + 1) (wrW n (((adS n gs ra rb i).1) ++ [(⟨(1 : Int), ra.getD (i + 1) 0, rb.getD (i + 1) 0⟩ : Gt)]))) 145) :: (rX b1 EI ra 145) :: (rX b5 EI rb 145) :: (rX b9 EI (List.replicate 64 0) 145) :: R) := by rw [← N0]; exact r0
  rw [padW_set (l := (adS n gs ra rb i).2.1) _ hal.2 om] at O0
  have P0 := O0.b6 rfl
  refine go 2 ?_
  refine condProp ((((i + 1) : Nat) : Int) < (63 : Int)) rfl (fun Q1 => ?_) (fun Q1 => ?_)
  ·let s0 : List RW := ((rX e0 EI (padW ((adS n gs ra rb i).2.1 ++ [wrW n ((adS n gs ra rb i).1 ++ [(⟨1, ra.getD (i + 1) 0, rb.getD (i + 1) 0⟩ : Gt)])])) 145) :: (rX b1 EI ra 145) :: (rX b5 EI rb 145) :: (rX b9 EI (List.replicate 64 0) 145) :: R)
   let R1 : Tab := [zt1 false fun _ w' => Hp No w₀ w' ((rC b #[iN n, sO b0 (List.length (adP n ((adS n gs ra rb i).1) (ra.getD (i + 1) 0) (rb.getD (i + 1) 0) (adS n gs ra rb i).2.2)) c0, sN0] 143) :: x1 :: s0), zt1 true fun v8 w' => ∃ h0 l0 m0 F0, v8 = i64 F0 ∧ Sl EG h0 (caG n (adP n ((adS n gs ra rb i).1) (ra.getD (i + 1) 0) (rb.getD (i + 1) 0) (adS n gs ra rb i).2.2) (ra.getD (i + 1) 0) (rb.getD (i + 1) 0) ((adS n gs ra rb i).2.2)) l0 m0 ∧ F0 = caW n (adP n ((adS n gs ra rb i).1) (ra.getD (i + 1) 0) (rb.getD (i + 1) 0) (adS n gs ra rb i).2.2) ∧ Hp No w₀ w' ((rC b #[iN n, sO h0 (List.length (caG n (adP n ((adS n gs ra rb i).1) (ra.getD (i + 1) 0) (rb.getD (i + 1) 0) (adS n gs ra rb i).2.2) (ra.getD (i + 1) 0) (rb.getD (i + 1) 0) ((adS n gs ra rb i).2.2))) l0, sN0] 143) :: (h0, sob EG 154 (caG n (adP n ((adS n gs ra rb i).1) (ra.getD (i + 1) 0) (rb.getD (i + 1) 0) (adS n gs ra rb i).2.2) (ra.getD (i + 1) 0) (rb.getD (i + 1) 0) ((adS n gs ra rb i).2.2)) m0) :: s0)]
   refine drawH (m := 10) [0, 0, 2, 6, 0, 16, 48, 0, 255, 511] [8] s0 R1 mixed (fun _ e => P0.ext e) (A_ (fun _ _ h => h.drop1.drop1) (A_ (fun _ _ ⟨_, _, _, _, _, _, _, h⟩ => h.drop1.drop1) trivial)) (fun S1 => ?_)
   refine gk 8 ?_
   refine WalkT.eff S1 0 ?_ ?_
   ·refine A_ (fun r w0 uw hF hE => ?_) trivial
    have T1 := hF.ext hE
    refine gW fun Q' hK => ?_
    have U1 := T1.as (L' := (_ :: _ :: ((rX e0 EI (padW ((adS n gs ra rb i).2.1 ++ [wrW n ((adS n gs ra rb i).1 ++ [(⟨1, ra.getD (i + 1) 0, rb.getD (i + 1) 0⟩ : Gt)])])) 145) :: (rX b1 EI ra 145) :: (rX b5 EI rb 145) :: (rX b9 EI (List.replicate 64 0) 145) :: R))) rfl
    refine cl (carry_ok b n b0 c0 d0 (adP n ((adS n gs ra rb i).1) (ra.getD (i + 1) 0) (rb.getD (i + 1) 0) (adS n gs ra rb i).2.2) E0 hn (by simp only [adP_len]; omega) (ra.getD (i + 1) 0) (rb.getD (i + 1) 0) ((adS n gs ra rb i).2.2) ((rX e0 EI (padW ((adS n gs ra rb i).2.1 ++ [wrW n ((adS n gs ra rb i).1 ++ [(⟨1, ra.getD (i + 1) 0, rb.getD (i + 1) 0⟩ : Gt)])])) 145) :: (rX b1 EI ra 145) :: (rX b5 EI rb 145) :: (rX b9 EI (List.replicate 64 0) 145) :: R) w₀ uw U1) ?_
    rintro wv190 F2 ⟨hwv191, V1, W1, X1, Y1, Z1⟩
    obtain ⟨c2, Q0⟩ : ∃ q, q = caW n (adP n ((adS n gs ra rb i).1) (ra.getD (i + 1) 0) (rb.getD (i + 1) 0) (adS n gs ra rb i).2.2) := ⟨_, rfl⟩
    rw [← Q0] at hwv191
    subst hwv191
    have d2 := Z1.b6 rfl
    exact hK _ _ (E_ V1 (E_ W1 (E_ X1 (E_ c2 (A_ rfl (A_ Y1 (A_ Q0 d2)))))))
   refine WalkT.hand (fun r => r 8) (fun r r' h => h 8 (by decide) rfl) (fun _ _ => r_assign rfl) (WalkT.nil fun r w0 e2 hF hE => ?_)
   obtain ⟨h0, l0, m0, F0, e8, f2, g2, u0⟩ := hF
   replace u0 := u0.ext hE
   dsimp only
   rw [e8]
   dsimp only [s0] at u0
   subst g2
   refine go 1 ?_
   refine sq ((r_addI rfl rfl om).as (v' := iN (i + 1 + 1)) (by rfl)) ?_
   refine go 1 ?_
   have R0 : caG n (adP n ((adS n gs ra rb i).1) (ra.getD (i + 1) 0) (rb.getD (i + 1) 0) (adS n gs ra rb i).2.2) (ra.getD (i + 1) 0) (rb.getD (i + 1) 0) ((adS n gs ra rb i).2.2) = (adS n gs ra rb (i + 1)).1 := by rw [adS, if_pos om]
   have S0 := f2
   rw [R0] at S0
   have T0 : Hp No w₀ e2 ((rC b #[iN n, sO h0 (List.length ((adS n gs ra rb (i + 1)).1)) l0, sN0] 143) :: (h0, sob EG 154 ((adS n gs ra rb (i + 1)).1) m0) :: (rX e0 EI (padW ((adS n gs ra rb i).2.1 ++ [wrW n ((adS n gs ra rb i).1 ++ [(⟨1, ra.getD (i + 1) 0, rb.getD (i + 1) 0⟩ : Gt)])])) 145) :: (rX b1 EI ra 145) :: (rX b5 EI rb 145) :: (rX b9 EI (List.replicate 64 0) 145) :: R) := by rw [← R0]; exact u0
   rw [show (adS n gs ra rb i).2.1 ++ [wrW n ((adS n gs ra rb i).1 ++ [(⟨1, ra.getD (i + 1) 0, rb.getD (i + 1) 0⟩ : Gt)])] = (adS n gs ra rb (i + 1)).2.1 from by rw [adS, if_pos om]] at T0
   exact ⟨(i + 1, h0, l0, m0), _, rfl, ⟨rfl, rfl, rfl, rfl, rfl, congrArg i64 (by rw [adS, if_pos om]), rfl, trivial⟩, ⟨⟨om, S0⟩, T0⟩, vd⟩
  ·refine go 1 ?_
   refine sq ((r_addI rfl rfl om).as (v' := iN (i + 1 + 1)) (by rfl)) ?_
   refine go 1 ?_
   have U0 : adP n ((adS n gs ra rb i).1) (ra.getD (i + 1) 0) (rb.getD (i + 1) 0) (adS n gs ra rb i).2.2 = (adS n gs ra rb (i + 1)).1 := by rw [adS, if_neg om]
   have V0 := E0
   rw [U0] at V0
   have W0 : Hp No w₀ M0 ((rC b #[iN n, sO b0 (List.length ((adS n gs ra rb (i + 1)).1)) c0, sN0] 143) :: (b0, sob EG 154 ((adS n gs ra rb (i + 1)).1) d0) :: (rX e0 EI (padW ((adS n gs ra rb i).2.1 ++ [wrW n ((adS n gs ra rb i).1 ++ [(⟨1, ra.getD (i + 1) 0, rb.getD (i + 1) 0⟩ : Gt)])])) 145) :: (rX b1 EI ra 145) :: (rX b5 EI rb 145) :: (rX b9 EI (List.replicate 64 0) 145) :: R) := by rw [← U0]; exact P0
   rw [show (adS n gs ra rb i).2.1 ++ [wrW n ((adS n gs ra rb i).1 ++ [(⟨1, ra.getD (i + 1) 0, rb.getD (i + 1) 0⟩ : Gt)])] = (adS n gs ra rb (i + 1)).2.1 from by rw [adS, if_neg om]] at W0
   exact ⟨(i + 1, b0, c0, d0), _, rfl, ⟨rfl, rfl, rfl, rfl, rfl, congrArg i64 (by rw [adS, if_neg om]), rfl, trivial⟩, ⟨⟨om, V0⟩, W0⟩, vd⟩
 ·have hie : i = 63 := by omega
  have hrl : (adS n gs ra rb i).2.1.length = 64 := by rw [hal.2, hie]
  rw [padW_full hrl] at HL
  refine go 1 ?_
  refine d_store (k := 5) (v := .agg (cel EI ((adS n gs ra rb i).2.1)).toArray) (cs' := (cel EI ((adS n gs ra rb i).2.1)).toArray) HL rfl rfl rfl siz145 (by exact celSize (by rw [hrl]; rfl)) (by exact celOne _) (by rw [List.size_toArray, cel_length]; show _ ≤ _ * 1; first | omega | (simp only [List.length_set]; omega) | exact bLe rfl | (simp <;> omega)) (by exact putAll (by rw [List.length_replicate]; exact hrl.symm)) fun G2 h2 H2 => ?_
  have i2 := h2.b6 rfl
  refine go 0 ?_
  subst hie
  exact ⟨_, rfl, rfl, kz, cz, sz, hSz, ((((i2.dropk 5).dropk 4).dropk 3).dropk 2)⟩
end Go.Proofs.YtohngnahcgbfmaaGreatDoor.Cm
namespace Go.Proofs.YtohngnahcgbfmaaGreatDoor.Cm
open Go Vc Er Circ
theorem mless_ok (b n : Nat) (key : Option Nat) (c : Nat) (sp : LV) (gs : List Gt) (hSw : Sl EG key gs c sp) (hn : n ≤ 1000) (hlen : gs.length ≤ 3000) (ra rb : List Int) (hra : ra.length = 64) (hrb : rb.length = 64) (R : List RW) (w₀ w : World) (H : Hp No w₀ w ((rC b #[iN n, sO key (List.length gs) c, sN0] 143) :: (key, sob EG 154 gs sp) :: R)) : Calls Tryz.prog 55 [pT b, .agg (cel EI ra).toArray, .agg (cel EI rb).toArray].toArray w (Ret fun v w' => v = i64 (leG n gs ra rb).2 ∧ ∃ (key' : Option Nat) (c' : Nat) (sp' : LV), Sl EG key' ((leG n gs ra rb).1) c' sp' ∧ Hp No w₀ w' ((rC b #[iN n, sO key' (List.length ((leG n gs ra rb).1)) c', sN0] 143) :: (key', sob EG 154 ((leG n gs ra rb).1) sp') :: R)) := by
 skip
 refine enter (n := 41) Tryz.func55 rfl rfl (bLe rfl) ?_
 refine go 1 ?_
 intro b1 w2 H2 H3 I2
 refine go 1 ?_
 intro b5 w6 J2 H7 K2
 let x3 := (rX b5 EI rb 145) :: (rX b1 EI ra 145) :: R
 let x1 := (rX b1 EI ra 145) :: (rX b5 EI rb 145) :: R
 refine go 1 ?_
 have g1 := (H7.pk 4 [2, 3, 0, 1])
 let h0 : List RW := x3
 let h1 : Tab := [zt2 false false fun _ _ w' => Hp No w₀ w' ((rC b #[iN n, sO key (List.length gs) c, sN0] 143) :: (key, sob EG 154 gs sp) :: h0), zt2 true false fun v4 _ w' => ∃ i0 u0 x0 a0, v4 = i64 a0 ∧ Sl EG i0 (gs ++ [(⟨(3 : Int), ra.getD 0 0, (0 : Int)⟩ : Gt)]) u0 x0 ∧ a0 = wrW n gs ∧ Hp No w₀ w' ((rC b #[iN n, sO i0 (List.length (gs ++ [(⟨(3 : Int), ra.getD 0 0, (0 : Int)⟩ : Gt)])) u0, sN0] 143) :: (i0, sob EG 154 (gs ++ [(⟨(3 : Int), ra.getD 0 0, (0 : Int)⟩ : Gt)]) x0) :: h0), zt2 true true fun v4 v7 w' => ∃ a0 d0 j0 k0 F0, v4 = i64 a0 ∧ v7 = i64 F0 ∧ Sl EG d0 (gs ++ [(⟨(3 : Int), ra.getD 0 0, (0 : Int)⟩ : Gt)] ++ [(⟨(2 : Int), a0, rb.getD 0 0⟩ : Gt)]) j0 k0 ∧ a0 = wrW n gs ∧ F0 = wrW n (gs ++ [(⟨(3 : Int), ra.getD 0 0, (0 : Int)⟩ : Gt)]) ∧ Hp No w₀ w' ((rC b #[iN n, sO d0 (List.length (gs ++ [(⟨(3 : Int), ra.getD 0 0, (0 : Int)⟩ : Gt)] ++ [(⟨(2 : Int), a0, rb.getD 0 0⟩ : Gt)])) j0, sN0] 143) :: (d0, sob EG 154 (gs ++ [(⟨(3 : Int), ra.getD 0 0, (0 : Int)⟩ : Gt)] ++ [(⟨(2 : Int), a0, rb.getD 0 0⟩ : Gt)]) k0) :: h0)]
 refine drawH (m := 9) [0, 0, 0, 4, 14, 0, 32, 127, 255] [4, 7] h0 h1 mixed (fun _ e => g1.ext e) (A_ (fun _ _ h => h.drop1.drop1) (A_ (fun _ _ ⟨_, _, _, _, _, _, _, h⟩ => h.drop1.drop1) (A_ (fun _ _ ⟨_, _, _, _, _, _, _, _, _, _, h⟩ => h.drop1.drop1) trivial))) (fun O0 => ?_)
 refine gk 4 ?_
 refine WalkT.eff O0 0 ?_ ?_
 ·refine A_ (fun r w0 uw hF hE => ?_) trivial
  have i1 := hF.ext hE
  refine gW fun Q' hK => ?_
  have j1 := i1.b2 rfl
  refine cl (gate_ok b n key c sp gs hSw hn om (3 : Int) (ra.getD 0 0) (0 : Int) x3 w₀ uw j1) ?_
  rintro wv75 L2 ⟨hwv76, k1, l1, m1, n1, o1⟩
  obtain ⟨p1, P0⟩ : ∃ q, q = wrW n gs := ⟨_, rfl⟩
  rw [← P0] at hwv76
  subst hwv76
  have q1 := o1.b4 rfl
  exact hK _ _ (E_ k1 (E_ l1 (E_ m1 (E_ p1 (A_ rfl (A_ n1 (A_ P0 q1)))))))
 refine gk 2 ?_
 refine WalkT.eff O0 1 ?_ ?_
 ·refine A_ (fun r w0 uw hF hE => ?_) trivial
  obtain ⟨i0, u0, x0, a0, e4, r1, G0, H0⟩ := hF
  replace H0 := H0.ext hE
  dsimp only
  rw [e4]
  refine gW fun Q' hK => ?_
  have s1 := H0.b2 rfl
  refine cl (gate_ok b n i0 u0 x0 (gs ++ [(⟨(3 : Int), ra.getD 0 0, (0 : Int)⟩ : Gt)]) r1 hn (by simp only [List.length_append, List.length_cons, List.length_nil]; omega) (2 : Int) a0 (rb.getD 0 0) x3 w₀ uw s1) ?_
  rintro wv88 M2 ⟨hwv89, t1, u1, w1, y1, z1⟩
  obtain ⟨A1, Q0⟩ : ∃ q, q = wrW n (gs ++ [(⟨(3 : Int), ra.getD 0 0, (0 : Int)⟩ : Gt)]) := ⟨_, rfl⟩
  rw [← Q0] at hwv89
  subst hwv89
  have B1 := z1.b4 rfl
  exact hK _ _ (E_ a0 (E_ t1 (E_ u1 (E_ w1 (E_ A1 (A_ e4 (A_ rfl (A_ y1 (A_ G0 (A_ Q0 B1))))))))))
 refine WalkT.hand (fun r => r 7) (fun r r' h => h 7 (by decide) rfl) (fun _ _ => r_assign rfl) (WalkT.nil fun r w0 C1 hF hE => ?_)
 obtain ⟨a0, d0, j0, k0, F0, e4, e7, D1, G0, E1, y0⟩ := hF
 replace y0 := y0.ext hE
 dsimp only
 rw [e4, e7]
 dsimp only [h0] at y0
 subst E1
 subst G0
 have R0 : gs ++ [(⟨(3 : Int), ra.getD 0 0, (0 : Int)⟩ : Gt)] ++ [(⟨(2 : Int), (wrW n gs), rb.getD 0 0⟩ : Gt)] = (leS n gs ra rb 0).1 := by rfl
 have S0 := D1
 rw [R0] at S0
 have F1 : Hp No w₀ C1 ((rC b #[iN n, sO d0 (List.length ((leS n gs ra rb 0).1)) j0, sN0] 143) :: (d0, sob EG 154 ((leS n gs ra rb 0).1) k0) :: (rX b5 EI rb 145) :: (rX b1 EI ra 145) :: R) := by rw [← R0]; exact y0
 refine go 1 ?_
 refine loopAny (σ := Nat × Option Nat × Nat × LV) (fun (i, kz, cz, sz) => [(0, pT b), (4, pT b1), (5, pT b5), (7, i64 ((leS n gs ra rb i).2)), (8, iN (i + 1))]) (fun (i, kz, cz, sz) w' => (i ≤ 62 ∧ Sl EG kz (leS n gs ra rb i).1 cz sz) ∧ Hp No w₀ w' ((rC b #[iN n, sO kz (List.length ((leS n gs ra rb i).1)) cz, sN0] 143) :: (kz, sob EG 154 ((leS n gs ra rb i).1) sz) :: (rX b1 EI ra 145) :: (rX b5 EI rb 145) :: R)) (fun (i, kz, cz, sz) => 62 - i) ((0, d0, j0, k0)) ?_ ?_ ?_
 ·exact kp
 ·exact ⟨⟨om, S0⟩, (F1.pk 4 [0, 1, 3, 2])⟩
 rintro ⟨i, kz, cz, sz⟩ ρ N2 ⟨⟨hq, hSz⟩, HL⟩
 let x2 : Array Value := #[iN n, sO kz (List.length ((leS n gs ra rb i).1)) cz, sN0]
 have hll := leS_len n gs ra rb i
 refine go 2 ?_
 refine condProp ((((i + 1) : Nat) : Int) < (63 : Int)) rfl (fun G1 => ?_) (fun G1 => ?_)
 ·refine go 0 ?_
  let l0 : List RW := x1
  let H1 : Tab := [zt2 false false fun _ _ w' => Hp No w₀ w' ((rC b x2 143) :: (kz, sob EG 154 ((leS n gs ra rb i).1) sz) :: l0), zt2 true false fun v5 _ w' => ∃ m0 z0 A0 b0, v5 = i64 b0 ∧ Sl EG m0 (((leS n gs ra rb i).1) ++ [(⟨(3 : Int), ra.getD (i + 1) 0, (0 : Int)⟩ : Gt)]) z0 A0 ∧ b0 = wrW n ((leS n gs ra rb i).1) ∧ Hp No w₀ w' ((rC b #[iN n, sO m0 (List.length (((leS n gs ra rb i).1) ++ [(⟨(3 : Int), ra.getD (i + 1) 0, (0 : Int)⟩ : Gt)])) z0, sN0] 143) :: (m0, sob EG 154 (((leS n gs ra rb i).1) ++ [(⟨(3 : Int), ra.getD (i + 1) 0, (0 : Int)⟩ : Gt)]) A0) :: l0), zt2 true true fun v5 v10 w' => ∃ b0 e0 n0 o0 I0, v5 = i64 b0 ∧ v10 = i64 I0 ∧ Sl EG e0 (caG n (((leS n gs ra rb i).1) ++ [(⟨(3 : Int), ra.getD (i + 1) 0, (0 : Int)⟩ : Gt)]) b0 (rb.getD (i + 1) 0) ((leS n gs ra rb i).2)) n0 o0 ∧ b0 = wrW n ((leS n gs ra rb i).1) ∧ I0 = caW n (((leS n gs ra rb i).1) ++ [(⟨(3 : Int), ra.getD (i + 1) 0, (0 : Int)⟩ : Gt)]) ∧ Hp No w₀ w' ((rC b #[iN n, sO e0 (List.length (caG n (((leS n gs ra rb i).1) ++ [(⟨(3 : Int), ra.getD (i + 1) 0, (0 : Int)⟩ : Gt)]) b0 (rb.getD (i + 1) 0) ((leS n gs ra rb i).2))) n0, sN0] 143) :: (e0, sob EG 154 (caG n (((leS n gs ra rb i).1) ++ [(⟨(3 : Int), ra.getD (i + 1) 0, (0 : Int)⟩ : Gt)]) b0 (rb.getD (i + 1) 0) ((leS n gs ra rb i).2)) o0) :: l0)]
  refine drawH (m := 12) [0, 0, 0, 4, 12, 30, 0, 64, 192, 0, 1023, 2047] [5, 10] l0 H1 mixed (fun _ e => HL.ext e) (A_ (fun _ _ h => h.drop1.drop1) (A_ (fun _ _ ⟨_, _, _, _, _, _, _, h⟩ => h.drop1.drop1) (A_ (fun _ _ ⟨_, _, _, _, _, _, _, _, _, _, h⟩ => h.drop1.drop1) trivial))) (fun T0 => ?_)
  refine gk 5 ?_
  refine WalkT.eff T0 0 ?_ ?_
  ·refine A_ (fun r w0 uw hF hE => ?_) trivial
   have I1 := hF.ext hE
   refine gW fun Q' hK => ?_
   have J1 := I1.b2 rfl
   refine cl (gate_ok b n kz cz sz ((leS n gs ra rb i).1) hSz hn om (3 : Int) (ra.getD (i + 1) 0) (0 : Int) x1 w₀ uw J1) ?_
   rintro wv163 O2 ⟨hwv164, K1, L1, M1, N1, O1⟩
   obtain ⟨P1, U0⟩ : ∃ q, q = wrW n ((leS n gs ra rb i).1) := ⟨_, rfl⟩
   rw [← U0] at hwv164
   subst hwv164
   have Q1 := O1.b4 rfl
   exact hK _ _ (E_ K1 (E_ L1 (E_ M1 (E_ P1 (A_ rfl (A_ N1 (A_ U0 Q1)))))))
  refine gk 4 ?_
  refine WalkT.eff T0 1 ?_ ?_
  ·refine A_ (fun r w0 uw hF hE => ?_) trivial
   obtain ⟨m0, z0, A0, b0, e5, R1, J0, K0⟩ := hF
   replace K0 := K0.ext hE
   dsimp only
   rw [e5]
   refine gW fun Q' hK => ?_
   have S1 := K0.b2 rfl
   refine cl (carry_ok b n m0 z0 A0 (((leS n gs ra rb i).1) ++ [(⟨(3 : Int), ra.getD (i + 1) 0, (0 : Int)⟩ : Gt)]) R1 hn (by simp only [List.length_append, List.length_cons, List.length_nil]; omega) b0 (rb.getD (i + 1) 0) ((leS n gs ra rb i).2) x1 w₀ uw S1) ?_
   rintro wv176 P2 ⟨hwv177, T1, U1, V1, W1, X1⟩
   obtain ⟨Y1, V0⟩ : ∃ q, q = caW n (((leS n gs ra rb i).1) ++ [(⟨(3 : Int), ra.getD (i + 1) 0, (0 : Int)⟩ : Gt)]) := ⟨_, rfl⟩
   rw [← V0] at hwv177
   subst hwv177
   have Z1 := X1.b4 rfl
   exact hK _ _ (E_ b0 (E_ T1 (E_ U1 (E_ V1 (E_ Y1 (A_ e5 (A_ rfl (A_ W1 (A_ J0 (A_ V0 Z1))))))))))
  refine WalkT.hand (fun r => r 10) (fun r r' h => h 10 (by decide) rfl) (fun _ _ => r_assign rfl) (WalkT.nil fun r w0 c2 hF hE => ?_)
  obtain ⟨b0, e0, n0, o0, I0, e5, d2, e2, J0, f2, B0⟩ := hF
  replace B0 := B0.ext hE
  dsimp only
  rw [e5, d2]
  dsimp only [l0] at B0
  subst f2
  subst J0
  refine go 1 ?_
  refine sq ((r_addI rfl rfl om).as (v' := iN (i + 1 + 1)) (by rfl)) ?_
  refine go 1 ?_
  have W0 : caG n (((leS n gs ra rb i).1) ++ [(⟨(3 : Int), ra.getD (i + 1) 0, (0 : Int)⟩ : Gt)]) (wrW n ((leS n gs ra rb i).1)) (rb.getD (i + 1) 0) ((leS n gs ra rb i).2) = (leS n gs ra rb (i + 1)).1 := by rfl
  have X0 := e2
  rw [W0] at X0
  have g2 : Hp No w₀ c2 ((rC b #[iN n, sO e0 (List.length ((leS n gs ra rb (i + 1)).1)) n0, sN0] 143) :: (e0, sob EG 154 ((leS n gs ra rb (i + 1)).1) o0) :: (rX b1 EI ra 145) :: (rX b5 EI rb 145) :: R) := by rw [← W0]; exact B0
  exact ⟨(i + 1, e0, n0, o0), _, rfl, kp, ⟨⟨om, X0⟩, g2⟩, vd⟩
 ·have hie : i = 62 := by omega
  refine go 0 ?_
  let p0 : List RW := x1
  let h2 : Tab := [zt2 false false fun _ _ w' => Hp No w₀ w' ((rC b x2 143) :: (kz, sob EG 154 ((leS n gs ra rb i).1) sz) :: p0), zt2 true false fun v6 _ w' => ∃ q0 C0 D0 c0, v6 = i64 c0 ∧ Sl EG q0 (((leS n gs ra rb i).1) ++ [(⟨(3 : Int), rb.getD 63 0, (0 : Int)⟩ : Gt)]) C0 D0 ∧ c0 = wrW n ((leS n gs ra rb i).1) ∧ Hp No w₀ w' ((rC b #[iN n, sO q0 (List.length (((leS n gs ra rb i).1) ++ [(⟨(3 : Int), rb.getD 63 0, (0 : Int)⟩ : Gt)])) C0, sN0] 143) :: (q0, sob EG 154 (((leS n gs ra rb i).1) ++ [(⟨(3 : Int), rb.getD 63 0, (0 : Int)⟩ : Gt)]) D0) :: p0), zt2 true true fun v6 v8 w' => ∃ c0 f0 r0 s0 L0, v6 = i64 c0 ∧ v8 = i64 L0 ∧ Sl EG f0 (caG n (((leS n gs ra rb i).1) ++ [(⟨(3 : Int), rb.getD 63 0, (0 : Int)⟩ : Gt)]) (ra.getD 63 0) c0 ((leS n gs ra rb i).2)) r0 s0 ∧ c0 = wrW n ((leS n gs ra rb i).1) ∧ L0 = caW n (((leS n gs ra rb i).1) ++ [(⟨(3 : Int), rb.getD 63 0, (0 : Int)⟩ : Gt)]) ∧ Hp No w₀ w' ((rC b #[iN n, sO f0 (List.length (caG n (((leS n gs ra rb i).1) ++ [(⟨(3 : Int), rb.getD 63 0, (0 : Int)⟩ : Gt)]) (ra.getD 63 0) c0 ((leS n gs ra rb i).2))) r0, sN0] 143) :: (f0, sob EG 154 (caG n (((leS n gs ra rb i).1) ++ [(⟨(3 : Int), rb.getD 63 0, (0 : Int)⟩ : Gt)]) (ra.getD 63 0) c0 ((leS n gs ra rb i).2)) s0) :: p0)]
  refine drawH (m := 10) [0, 0, 2, 0, 0, 16, 56, 0, 255, 511] [6, 8] p0 h2 mixed (fun _ e => HL.ext e) (A_ (fun _ _ h => h.drop1.drop1) (A_ (fun _ _ ⟨_, _, _, _, _, _, _, h⟩ => h.drop1.drop1) (A_ (fun _ _ ⟨_, _, _, _, _, _, _, _, _, _, h⟩ => h.drop1.drop1) trivial))) (fun Y0 => ?_)
  refine gk 6 ?_
  refine WalkT.eff Y0 0 ?_ ?_
  ·refine A_ (fun r w0 uw hF hE => ?_) trivial
   have i2 := hF.ext hE
   refine gW fun Q' hK => ?_
   have j2 := i2.b2 rfl
   refine cl (gate_ok b n kz cz sz ((leS n gs ra rb i).1) hSz hn om (3 : Int) (rb.getD 63 0) (0 : Int) x1 w₀ uw j2) ?_
   rintro wv249 Q2 ⟨hwv250, k2, l2, m2, n2, o2⟩
   obtain ⟨p2, Z0⟩ : ∃ q, q = wrW n ((leS n gs ra rb i).1) := ⟨_, rfl⟩
   rw [← Z0] at hwv250
   subst hwv250
   have q2 := o2.b4 rfl
   exact hK _ _ (E_ k2 (E_ l2 (E_ m2 (E_ p2 (A_ rfl (A_ n2 (A_ Z0 q2)))))))
  refine gk 1 ?_
  refine WalkT.eff Y0 1 ?_ ?_
  ·refine A_ (fun r w0 uw hF hE => ?_) trivial
   obtain ⟨q0, C0, D0, c0, e6, r2, M0, N0⟩ := hF
   replace N0 := N0.ext hE
   dsimp only
   rw [e6]
   refine gW fun Q' hK => ?_
   have s2 := N0.b2 rfl
   refine cl (carry_ok b n q0 C0 D0 (((leS n gs ra rb i).1) ++ [(⟨(3 : Int), rb.getD 63 0, (0 : Int)⟩ : Gt)]) r2 hn (by simp only [List.length_append, List.length_cons, List.length_nil]; omega) (ra.getD 63 0) c0 ((leS n gs ra rb i).2) x1 w₀ uw s2) ?_
   rintro wv262 R2 ⟨hwv263, t2, u2, y2, z2, A2⟩
   obtain ⟨B2, c1⟩ : ∃ q, q = caW n (((leS n gs ra rb i).1) ++ [(⟨(3 : Int), rb.getD 63 0, (0 : Int)⟩ : Gt)]) := ⟨_, rfl⟩
   rw [← c1] at hwv263
   subst hwv263
   have C2 := A2.b4 rfl
   exact hK _ _ (E_ c0 (E_ t2 (E_ u2 (E_ y2 (E_ B2 (A_ e6 (A_ rfl (A_ z2 (A_ M0 (A_ c1 C2))))))))))
  refine WalkT.hand (fun r => r 8) (fun r r' h => h 8 (by decide) rfl) (fun _ _ => r_assign rfl) (WalkT.nil fun r w0 D2 hF hE => ?_)
  obtain ⟨c0, f0, r0, s0, L0, e6, e8, E2, M0, F2, E0⟩ := hF
  replace E0 := E0.ext hE
  dsimp only
  rw [e6, e8]
  dsimp only [p0] at E0
  subst F2
  subst M0
  refine go 0 ?_
  have d1 : caG n (((leS n gs ra rb i).1) ++ [(⟨(3 : Int), rb.getD 63 0, (0 : Int)⟩ : Gt)]) (ra.getD 63 0) (wrW n ((leS n gs ra rb i).1)) ((leS n gs ra rb i).2) = (leG n gs ra rb).1 := by rw [leG_eq hie]
  have e1 := E2
  rw [d1] at e1
  have G2 : Hp No w₀ D2 ((rC b #[iN n, sO f0 (List.length ((leG n gs ra rb).1)) r0, sN0] 143) :: (f0, sob EG 154 ((leG n gs ra rb).1) s0) :: (rX b1 EI ra 145) :: (rX b5 EI rb 145) :: R) := by rw [← d1]; exact E0
  exact ⟨_, rfl, congrArg i64 (by rw [leG_eq hie]), f0, r0, s0, e1, ((G2.dropk 3).dropk 2)⟩
end Go.Proofs.YtohngnahcgbfmaaGreatDoor.Cm
namespace Go.Proofs.YtohngnahcgbfmaaGreatDoor.Cm
open Go Vc Er Circ
theorem mpick_ok (b n : Nat) (key : Option Nat) (c : Nat) (sp : LV) (gs : List Gt) (hSw : Sl EG key gs c sp) (hn : n ≤ 1000) (hlen : gs.length ≤ 3000) (ws : Int) (ra rb : List Int) (hra : ra.length = 64) (hrb : rb.length = 64) (R : List RW) (w₀ w : World) (H : Hp No w₀ w ((rC b #[iN n, sO key (List.length gs) c, sN0] 143) :: (key, sob EG 154 gs sp) :: R)) : Calls Tryz.prog 56 [pT b, i64 ws, .agg (cel EI ra).toArray, .agg (cel EI rb).toArray].toArray w (Ret fun v w' => v = .agg (cel EI ((piS n gs ws ra rb 64).2)).toArray ∧ ∃ (key' : Option Nat) (c' : Nat) (sp' : LV), Sl EG key' ((piS n gs ws ra rb 64).1) c' sp' ∧ Hp No w₀ w' ((rC b #[iN n, sO key' (List.length ((piS n gs ws ra rb 64).1)) c', sN0] 143) :: (key', sob EG 154 ((piS n gs ws ra rb 64).1) sp') :: R)) := by
 skip
 refine enter (n := 34) Tryz.func56 rfl rfl (bLe rfl) ?_
 refine go 1 ?_
 intro b1 w2 B1 H3 C1
 refine go 1 ?_
 intro b5 w6 D1 H7 E1
 refine go 1 ?_
 intro b9 F1 G1 H1 I1
 refine go 1 ?_
 intro h0 J1 K1 O0 L1
 refine go 1 ?_
 refine loopAny (σ := Nat × Option Nat × Nat × LV) (fun (i, kz, cz, sz) => [(0, pT b), (1, i64 ws), (6, pT b1), (7, pT b5), (8, pT b9), (9, pT h0), (11, iN i)]) (fun (i, kz, cz, sz) w' => (i ≤ 64 ∧ Sl EG kz ((piS n gs ws ra rb i).1) cz sz) ∧ Hp No w₀ w' ((rC b #[iN n, sO kz (List.length ((piS n gs ws ra rb i).1)) cz, sN0] 143) :: (kz, sob EG 154 ((piS n gs ws ra rb i).1) sz) :: (rX h0 EI (padW ((piS n gs ws ra rb i).2)) 145) :: (rX b1 EI ra 145) :: (rX b5 EI rb 145) :: (rX b9 EI (List.replicate 64 0) 145) :: R)) (fun (i, kz, cz, sz) => 64 - i) ((0, key, c, sp)) ?_ ?_ ?_
 ·exact kp
 ·exact ⟨⟨om, hSw⟩, (O0.pk 6 [4, 5, 0, 3, 2, 1])⟩
 rintro ⟨i, kz, cz, sz⟩ ρ M1 ⟨⟨hq, hSz⟩, HL⟩
 have hpi := piS_len n gs ws ra rb i
 have hpl : (padW (piS n gs ws ra rb i).2).length = 64 := padW_len (by rw [hpi.2]; exact hq)
 refine go 1 ?_
 refine condProp (((i : Nat) : Int) < (64 : Int)) rfl (fun P0 => ?_) (fun P0 => ?_)
 ·refine go 2 ?_
  let j0 : List RW := ((rX b1 EI ra 145) :: (rX b5 EI rb 145) :: (rX b9 EI (List.replicate 64 0) 145) :: R)
  let B0 := fun (c0 : Option Nat) (a0 : Int) (b0 : Int) (d0 : LV) => ((c0, sob EG 154 (((piS n gs ws ra rb i).1) ++ [(⟨(1 : Int), ra.getD i 0, rb.getD i 0⟩ : Gt)] ++ [(⟨(2 : Int), ws, a0⟩ : Gt)] ++ [(⟨(1 : Int), rb.getD i 0, b0⟩ : Gt)]) d0) : RW)
  let C0 := fun (c0 : Option Nat) (a0 : Int) (b0 : Int) (e0 : Nat) => ((rC b #[iN n, sO c0 (List.length (((piS n gs ws ra rb i).1) ++ [(⟨(1 : Int), ra.getD i 0, rb.getD i 0⟩ : Gt)] ++ [(⟨(2 : Int), ws, a0⟩ : Gt)] ++ [(⟨(1 : Int), rb.getD i 0, b0⟩ : Gt)])) e0, sN0] 143) : RW)
  let p0 := ((rX h0 EI (padW ((piS n gs ws ra rb i).2)) 145) : RW)
  let D0 := fun (c0 : Option Nat) (a0 : Int) (b0 : Int) (e0 : Nat) (d0 : LV) => (Sl EG c0 (((piS n gs ws ra rb i).1) ++ [(⟨(1 : Int), ra.getD i 0, rb.getD i 0⟩ : Gt)] ++ [(⟨(2 : Int), ws, a0⟩ : Gt)] ++ [(⟨(1 : Int), rb.getD i 0, b0⟩ : Gt)]) e0 d0 : Prop)
  let Q0 : Tab := [zt4 false false false false fun _ _ _ _ w' => Hp No w₀ w' ((rC b #[iN n, sO kz (List.length ((piS n gs ws ra rb i).1)) cz, sN0] 143) :: (kz, sob EG 154 ((piS n gs ws ra rb i).1) sz) :: p0 :: j0), zt4 true false false false fun v14 _ _ _ w' => ∃ m0 q0 r0 a0, v14 = i64 a0 ∧ Sl EG m0 (((piS n gs ws ra rb i).1) ++ [(⟨(1 : Int), ra.getD i 0, rb.getD i 0⟩ : Gt)]) q0 r0 ∧ a0 = wrW n ((piS n gs ws ra rb i).1) ∧ Hp No w₀ w' ((rC b #[iN n, sO m0 (List.length (((piS n gs ws ra rb i).1) ++ [(⟨(1 : Int), ra.getD i 0, rb.getD i 0⟩ : Gt)])) q0, sN0] 143) :: (m0, sob EG 154 (((piS n gs ws ra rb i).1) ++ [(⟨(1 : Int), ra.getD i 0, rb.getD i 0⟩ : Gt)]) r0) :: p0 :: j0), zt4 true true false false fun v14 v15 _ _ w' => ∃ a0 n0 s0 u0 b0, v14 = i64 a0 ∧ v15 = i64 b0 ∧ Sl EG n0 (((piS n gs ws ra rb i).1) ++ [(⟨(1 : Int), ra.getD i 0, rb.getD i 0⟩ : Gt)] ++ [(⟨(2 : Int), ws, a0⟩ : Gt)]) s0 u0 ∧ a0 = wrW n ((piS n gs ws ra rb i).1) ∧ b0 = wrW n (((piS n gs ws ra rb i).1) ++ [(⟨(1 : Int), ra.getD i 0, rb.getD i 0⟩ : Gt)]) ∧ Hp No w₀ w' ((rC b #[iN n, sO n0 (List.length (((piS n gs ws ra rb i).1) ++ [(⟨(1 : Int), ra.getD i 0, rb.getD i 0⟩ : Gt)] ++ [(⟨(2 : Int), ws, a0⟩ : Gt)])) s0, sN0] 143) :: (n0, sob EG 154 (((piS n gs ws ra rb i).1) ++ [(⟨(1 : Int), ra.getD i 0, rb.getD i 0⟩ : Gt)] ++ [(⟨(2 : Int), ws, a0⟩ : Gt)]) u0) :: p0 :: j0), zt4 true true true false fun v14 v15 v16 _ w' => ∃ a0 b0 c0 e0 d0 f0, v14 = i64 a0 ∧ v15 = i64 b0 ∧ v16 = i64 f0 ∧ (D0 c0 a0 b0 e0 d0) ∧ a0 = wrW n ((piS n gs ws ra rb i).1) ∧ b0 = wrW n (((piS n gs ws ra rb i).1) ++ [(⟨(1 : Int), ra.getD i 0, rb.getD i 0⟩ : Gt)]) ∧ f0 = wrW n (((piS n gs ws ra rb i).1) ++ [(⟨(1 : Int), ra.getD i 0, rb.getD i 0⟩ : Gt)] ++ [(⟨(2 : Int), ws, a0⟩ : Gt)]) ∧ Hp No w₀ w' ((C0 c0 a0 b0 e0) :: (B0 c0 a0 b0 d0) :: p0 :: j0), zt4 true true true true fun v14 v15 v16 _ w' => ∃ a0 b0 c0 e0 d0 f0, v14 = i64 a0 ∧ v15 = i64 b0 ∧ v16 = i64 f0 ∧ (D0 c0 a0 b0 e0 d0) ∧ a0 = wrW n ((piS n gs ws ra rb i).1) ∧ b0 = wrW n (((piS n gs ws ra rb i).1) ++ [(⟨(1 : Int), ra.getD i 0, rb.getD i 0⟩ : Gt)]) ∧ f0 = wrW n (((piS n gs ws ra rb i).1) ++ [(⟨(1 : Int), ra.getD i 0, rb.getD i 0⟩ : Gt)] ++ [(⟨(2 : Int), ws, a0⟩ : Gt)]) ∧ Hp No w₀ w' ((C0 c0 a0 b0 e0) :: (B0 c0 a0 b0 d0) :: (rX h0 EI ((padW ((piS n gs ws ra rb i).2)).set i f0) 145) :: j0)]
  refine drawH (m := 19) [0, 0, 0, 4, 12, 0, 0, 0, 0, 256, 768, 0, 2048, 6144, 16256, 32736, 65534, 131071, 262143] [14, 15, 16, 18] j0 Q0 mixed (fun _ e => HL.ext e) (A_ (fun _ _ h => h.drop1.drop1.drop1) (A_ (fun _ _ ⟨_, _, _, _, _, _, _, h⟩ => h.drop1.drop1.drop1) (A_ (fun _ _ ⟨_, _, _, _, _, _, _, _, _, _, h⟩ => h.drop1.drop1.drop1) (A_ (fun _ _ ⟨_, _, _, _, _, _, _, _, _, _, _, _, _, h⟩ => h.drop1.drop1.drop1) (A_ (fun _ _ ⟨_, _, _, _, _, _, _, _, _, _, _, _, _, h⟩ => h.drop1.drop1.drop1) trivial))))) (fun x0 => ?_)
  refine gk 14 ?_
  refine WalkT.eff x0 0 ?_ ?_
  ·refine A_ (fun r w0 uw hF hE => ?_) trivial
   have R0 := hF.ext hE
   refine gW fun Q' hK => ?_
   have S0 := R0.b2 rfl
   refine cl (gate_ok b n kz cz sz ((piS n gs ws ra rb i).1) hSz hn om (1 : Int) (ra.getD i 0) (rb.getD i 0) ((rX h0 EI (padW ((piS n gs ws ra rb i).2)) 145) :: (rX b1 EI ra 145) :: (rX b5 EI rb 145) :: (rX b9 EI (List.replicate 64 0) 145) :: R) w₀ uw S0) ?_
   rintro wv122 N1 ⟨hwv123, T0, U0, V0, W0, X0⟩
   obtain ⟨Y0, H0⟩ : ∃ q, q = wrW n ((piS n gs ws ra rb i).1) := ⟨_, rfl⟩
   rw [← H0] at hwv123
   subst hwv123
   have Z0 := X0.b6 rfl
   exact hK _ _ (E_ T0 (E_ U0 (E_ V0 (E_ Y0 (A_ rfl (A_ W0 (A_ H0 Z0)))))))
  refine WalkT.eff x0 1 ?_ ?_
  ·refine A_ (fun r w0 uw hF hE => ?_) trivial
   obtain ⟨m0, q0, r0, a0, i0, c1, k0, E0⟩ := hF
   replace E0 := E0.ext hE
   dsimp only
   rw [i0]
   refine gW fun Q' hK => ?_
   have d1 := E0.b2 rfl
   refine cl (gate_ok b n m0 q0 r0 (((piS n gs ws ra rb i).1) ++ [(⟨(1 : Int), ra.getD i 0, rb.getD i 0⟩ : Gt)]) c1 hn (by simp only [List.length_append, List.length_cons, List.length_nil]; omega) (2 : Int) ws a0 ((rX h0 EI (padW ((piS n gs ws ra rb i).2)) 145) :: (rX b1 EI ra 145) :: (rX b5 EI rb 145) :: (rX b9 EI (List.replicate 64 0) 145) :: R) w₀ uw d1) ?_
   rintro wv135 O1 ⟨hwv136, e1, g1, h1, i1, j1⟩
   obtain ⟨k1, I0⟩ : ∃ q, q = wrW n (((piS n gs ws ra rb i).1) ++ [(⟨(1 : Int), ra.getD i 0, rb.getD i 0⟩ : Gt)]) := ⟨_, rfl⟩
   rw [← I0] at hwv136
   subst hwv136
   have l1 := j1.b6 rfl
   exact hK _ _ (E_ a0 (E_ e1 (E_ g1 (E_ h1 (E_ k1 (A_ i0 (A_ rfl (A_ i1 (A_ k0 (A_ I0 l1))))))))))
  refine WalkT.eff x0 2 ?_ ?_
  ·refine A_ (fun r w0 uw hF hE => ?_) trivial
   obtain ⟨a0, n0, s0, u0, b0, i0, l0, m1, k0, o0, F0⟩ := hF
   replace F0 := F0.ext hE
   dsimp only
   rw [l0]
   refine gW fun Q' hK => ?_
   have n1 := F0.b2 rfl
   refine cl (gate_ok b n n0 s0 u0 (((piS n gs ws ra rb i).1) ++ [(⟨(1 : Int), ra.getD i 0, rb.getD i 0⟩ : Gt)] ++ [(⟨(2 : Int), ws, a0⟩ : Gt)]) m1 hn (by simp only [List.length_append, List.length_cons, List.length_nil]; omega) (1 : Int) (rb.getD i 0) b0 ((rX h0 EI (padW ((piS n gs ws ra rb i).2)) 145) :: (rX b1 EI ra 145) :: (rX b5 EI rb 145) :: (rX b9 EI (List.replicate 64 0) 145) :: R) w₀ uw n1) ?_
   rintro wv148 P1 ⟨hwv149, o1, p1, q1, r1, s1⟩
   obtain ⟨t1, J0⟩ : ∃ q, q = wrW n (((piS n gs ws ra rb i).1) ++ [(⟨(1 : Int), ra.getD i 0, rb.getD i 0⟩ : Gt)] ++ [(⟨(2 : Int), ws, a0⟩ : Gt)]) := ⟨_, rfl⟩
   rw [← J0] at hwv149
   subst hwv149
   have u1 := s1.b6 rfl
   exact hK _ _ (E_ a0 (E_ b0 (E_ o1 (E_ p1 (E_ q1 (E_ t1 (A_ i0 (A_ l0 (A_ rfl (A_ r1 (A_ k0 (A_ o0 (A_ J0 u1)))))))))))))
  refine gk 1 ?_
  refine WalkT.eff x0 3 ?_ ?_
  ·refine A_ (fun r w0 uw hF hE => ?_) trivial
   obtain ⟨a0, b0, c0, e0, d0, f0, i0, l0, y0, z0, k0, o0, G0, K0⟩ := hF
   replace K0 := K0.ext hE
   dsimp only
   rw [y0]
   refine gW0 fun Q' hK => ?_
   refine go 1 ?_
   intro Q1 w1 R1
   exact hK _ (fun _ => (E_ a0 (E_ b0 (E_ c0 (E_ e0 (E_ d0 (E_ f0 (A_ i0 (A_ l0 (A_ y0 (A_ z0 (A_ k0 (A_ o0 (A_ G0 w1))))))))))))))
  refine WalkT.nil fun r w0 x1 hF hE => ?_
  obtain ⟨a0, b0, c0, e0, d0, f0, i0, l0, y0, z0, k0, o0, G0, A0⟩ := hF
  replace A0 := A0.ext hE
  dsimp only
  rw [i0, l0, y0]
  dsimp only [D0] at z0
  dsimp only [j0, C0, B0] at A0
  subst G0
  subst o0
  subst k0
  have L0 : ((piS n gs ws ra rb i).1) ++ [(⟨(1 : Int), ra.getD i 0, rb.getD i 0⟩ : Gt)] ++ [(⟨(2 : Int), ws, (wrW n ((piS n gs ws ra rb i).1))⟩ : Gt)] ++ [(⟨(1 : Int), rb.getD i 0, (wrW n (((piS n gs ws ra rb i).1) ++ [(⟨(1 : Int), ra.getD i 0, rb.getD i 0⟩ : Gt)]))⟩ : Gt)] = (piS n gs ws ra rb (i + 1)).1 := by rfl
  have M0 := z0
  rw [L0] at M0
  have N0 : Hp No w₀ x1 ((rC b #[iN n, sO c0 (List.length ((piS n gs ws ra rb (i + 1)).1)) e0, sN0] 143) :: (c0, sob EG 154 ((piS n gs ws ra rb (i + 1)).1) d0) :: (rX h0 EI ((padW ((piS n gs ws ra rb i).2)).set i (wrW n (((piS n gs ws ra rb i).1) ++ [(⟨(1 : Int), ra.getD i 0, rb.getD i 0⟩ : Gt)] ++ [(⟨(2 : Int), ws, (wrW n ((piS n gs ws ra rb i).1))⟩ : Gt)]))) 145) :: (rX b1 EI ra 145) :: (rX b5 EI rb 145) :: (rX b9 EI (List.replicate 64 0) 145) :: R) := by rw [← L0]; exact A0
  rw [padW_set (l := (piS n gs ws ra rb i).2) _ hpi.2 om] at N0
  have y1 := N0.b6 rfl
  refine go 2 ?_
  exact ⟨(i + 1, c0, e0, d0), _, rfl, kp, ⟨⟨om, M0⟩, y1⟩, vd⟩
 ·have hie : i = 64 := by omega
  have hrl := hpi.2.trans hie
  rw [padW_full hrl] at HL
  refine go 1 ?_
  refine d_store (k := 5) (v := .agg (cel EI ((piS n gs ws ra rb i).2)).toArray) (cs' := (cel EI ((piS n gs ws ra rb i).2)).toArray) HL rfl rfl rfl siz145 (by exact celSize (by rw [hrl]; rfl)) (by exact celOne _) (by rw [List.size_toArray, cel_length]; show _ ≤ _ * 1; first | omega | (simp only [List.length_set]; omega) | exact bLe rfl | (simp <;> omega)) (by exact putAll (by rw [List.length_replicate]; exact hrl.symm)) fun S1 z1 T1 => ?_
  have A1 := z1.b6 rfl
  refine go 0 ?_
  subst hie
  exact ⟨_, rfl, rfl, kz, cz, sz, hSz, ((((A1.dropk 5).dropk 4).dropk 3).dropk 2)⟩
end Go.Proofs.YtohngnahcgbfmaaGreatDoor.Cm
namespace Go.Proofs.YtohngnahcgbfmaaGreatDoor.Cm
open Go Vc Er Circ
theorem agg104 : isAgg' Tryz.prog 104 = true := by kernel_rfl
theorem fld104_2 : fld Tryz.prog 104 2 = some (2, 1, 100) := by kernel_rfl
theorem siz100 : siz Tryz.prog 100 = some 1 := by kernel_rfl
theorem siz104 : siz Tryz.prog 104 = some 3 := by kernel_rfl
theorem make_bad (kd : Int) (fm : BitVec 64) (w : World) (hG : Gl w) (hb : ¬ (kd = 1 ∧ fm < 2#64) ∧ ¬ ((kd = 2 ∨ kd = 3) ∧ fm < 4#64)) : Calls Tryz.prog 35 [i64 kd, u64 fm].toArray w (Ret fun v w' => (∃ ev, v = .tuple #[.agg #[i64 (0 : Int), sN0, sN0], ev] ∧ Er w.heap.size w' 1 1 ev) ∧ Ext w w') := by
 have H := Hp.start No w
 refine enter (n := 131) Tryz.func35 rfl rfl (bLe rfl) ?_
 refine go 1 ?_
 intro b1 w2 w0 H3 x0
 refine go 5 ?_
 refine condProp ((kd : Int) = (1 : Int)) rfl (fun c0 => ?_) (fun c0 => ?_)
 ·refine go 5 ?_
  refine condProp (fm.toNat < ((1#64) <<< (1 : Nat)).toNat) rfl (fun a0 => ?_) (fun a0 => ?_)
  ·exfalso
   first | exact hb.1 ⟨c0, a0⟩ | exact hb.2 ⟨.inl b0, a0⟩ | exact hb.2 ⟨.inr b0, a0⟩
  ·refine go 3 ?_
   have := H3.lt (List.mem_of_getElem? (i := 0) rfl) rfl
   refine cl (wrap0_ok (1 : Int) kd ({data := #[109, 97, 107, 101]}) w2 vGl) ?_
   rintro v7 w5 ⟨d0, m0⟩
   have y0 := H3.ext m0
   obtain ⟨z0, A0, rfl⟩ := d0.iface
   refine go 1 ?_
   intro B0 n0 e0
   refine go 1 ?_
   exact ⟨_, rfl, ⟨_, rfl, (Er.chgs (e0.mono (M' := fun x => x = b1) (fun _ h => by subst h; simp)) (fun x h1 h2 h3 => by have := e0.size; rcases h3 with rfl <;> omega) d0).mono H3.chg.size⟩, n0.chg⟩
 ·refine go 2 ?_
  refine condProp ((kd : Int) = (2 : Int)) rfl (fun b0 => ?_) (fun b0 => ?_)
  ·refine go 0 ?_
   refine condTrue (congrArg Value.bool (decide_eq_true b0)) ?_
   refine go 4 ?_
   refine condProp (fm.toNat < ((1#64) <<< (2 : Nat)).toNat) rfl (fun a0 => ?_) (fun a0 => ?_)
   ·exfalso
    first | exact hb.1 ⟨c0, a0⟩ | exact hb.2 ⟨.inl b0, a0⟩ | exact hb.2 ⟨.inr b0, a0⟩
   ·refine go 3 ?_
    have := H3.lt (List.mem_of_getElem? (i := 0) rfl) rfl
    refine cl (wrap0_ok (1 : Int) kd ({data := #[109, 97, 107, 101]}) w2 vGl) ?_
    rintro v18 C0 ⟨f0, o0⟩
    have D0 := H3.ext o0
    obtain ⟨E0, F0, rfl⟩ := f0.iface
    refine go 1 ?_
    intro G0 p0 h0
    refine go 1 ?_
    exact ⟨_, rfl, ⟨_, rfl, (Er.chgs (h0.mono (M' := fun x => x = b1) (fun _ h => by subst h; simp)) (fun x h1 h2 h3 => by have := h0.size; rcases h3 with rfl <;> omega) f0).mono H3.chg.size⟩, p0.chg⟩
  ·refine go 2 ?_
   refine condProp ((kd : Int) = (3 : Int)) rfl (fun b0 => ?_) (fun b0 => ?_)
   ·refine go 4 ?_
    refine condProp (fm.toNat < ((1#64) <<< (2 : Nat)).toNat) rfl (fun a0 => ?_) (fun a0 => ?_)
    ·exfalso
     first | exact hb.1 ⟨c0, a0⟩ | exact hb.2 ⟨.inl b0, a0⟩ | exact hb.2 ⟨.inr b0, a0⟩
    ·refine go 3 ?_
     have := H3.lt (List.mem_of_getElem? (i := 0) rfl) rfl
     refine cl (wrap0_ok (1 : Int) kd ({data := #[109, 97, 107, 101]}) w2 vGl) ?_
     rintro v29 H0 ⟨i0, q0⟩
     have I0 := H3.ext q0
     obtain ⟨J0, K0, rfl⟩ := i0.iface
     refine go 1 ?_
     intro L0 r0 j0
     refine go 1 ?_
     exact ⟨_, rfl, ⟨_, rfl, (Er.chgs (j0.mono (M' := fun x => x = b1) (fun _ h => by subst h; simp)) (fun x h1 h2 h3 => by have := j0.size; rcases h3 with rfl <;> omega) i0).mono H3.chg.size⟩, r0.chg⟩
   ·refine go 3 ?_
    have := H3.lt (List.mem_of_getElem? (i := 0) rfl) rfl
    refine cl (wrap0_ok (1 : Int) kd ({data := #[109, 97, 107, 101]}) w2 vGl) ?_
    rintro v40 M0 ⟨k0, s0⟩
    have N0 := H3.ext s0
    obtain ⟨O0, P0, rfl⟩ := k0.iface
    refine go 1 ?_
    intro Q0 u0 l0
    refine go 1 ?_
    exact ⟨_, rfl, ⟨_, rfl, (Er.chgs (l0.mono (M' := fun x => x = b1) (fun _ h => by subst h; simp)) (fun x h1 h2 h3 => by have := l0.size; rcases h3 with rfl <;> omega) k0).mono H3.chg.size⟩, u0.chg⟩
theorem make_k1 (fm : BitVec 64) (hf : fm < 2#64) (w : World) : Calls Tryz.prog 35 [i64 (1 : Int), u64 fm].toArray w (Ret fun v w' => ∃ (key : Option Nat) (c : Nat) (sp : LV) (b : Nat), v = .tuple #[.agg #[i64 ((128 : Nat) : Int), sO key (mk1 (fbS fm 0)).1.length c, .slice (some ⟨b, 0, none⟩) 64 64], .nilIface] ∧ Sl EG key (mk1 (fbS fm 0)).1 c sp ∧ Hp No w w' [(key, sob EG 154 (mk1 (fbS fm 0)).1 sp), (rX b EI (mk1 (fbS fm 0)).2 145)]) := by
 let x1 : Array Value := #[i64 0, sN0, sN0]
 have H := Hp.start No w
 refine enter (n := 131) Tryz.func35 rfl rfl (bLe rfl) ?_
 refine go 1 ?_
 intro b1 w2 T1 H3 U1
 refine go 3 ?_
 refine sq ((r_eqlI rfl rfl).as (v' := .bool true) (by rfl)) ?_
 refine go 5 ?_
 refine sq ((r_lss64 (a := fm) (b := (1#64) <<< (1 : Nat)) rfl rfl).as (v' := .bool true) (by exact congrArg Value.bool (decide_eq_true hf))) ?_
 refine go 1 ?_
 refine sq ((r_mulI rfl rfl om).as (v' := iN 128) (by rfl)) ?_
 refine go 3 ?_
 intro b5 w6 V1 H7 W1
 refine go 1 ?_
 have H9 := H7.nil (sob EG 154 [] [])
 have X1 := H9.a3 rfl
 refine go 1 ?_
 intro a0 Y1 Z1 k0 c2
 rw [padX_nil] at k0
 refine go 2 ?_
 refine loopAny (σ := Nat × Option Nat × Nat × LV) (fun (i, kz, cz, sz) => [(0, i64 1), (1, u64 fm), (4, pT b1), (7, pT b5), (8, pT a0), (36, i64 1), (37, iN i)]) (fun (i, kz, cz, sz) w' => (i ≤ 1 ∧ Sl EG kz (opsS 128 fm i).1 cz sz) ∧ Hp No w w' [(rC b5 #[iN 128, sO kz (List.length ((opsS 128 fm i).1)) cz, sN0] 143), (kz, sob EG 154 ((opsS 128 fm i).1) sz), (rX a0 EI (padX ((opsS 128 fm i).2)) 146), (rC b1 x1 104)]) (fun (i, kz, cz, sz) => 1 - i) ((0, none, 0, [])) ?_ ?_ ?_
 ·exact kp
 ·exact ⟨⟨om, Sl.none⟩, (k0.pk 4 [2, 1, 0, 3])⟩
 rintro ⟨i, kz, cz, sz⟩ ρ S0 ⟨⟨hq, hSz⟩, HL⟩
 have hol := opsS_len 128 fm i
 have hi1 := inW_len (64 * (2 * i)) 64
 have hi2 := inW_len (64 * (2 * i + 1)) 64
 have hpx : (padX (opsS 128 fm i).2).length = 128 := padX_len (by rw [hol.2]; omega)
 refine go 1 ?_
 refine condProp (((i : Nat) : Int) < (1 : Int)) rfl (fun T0 => ?_) (fun T0 => ?_)
 ·refine go 4 ?_
  refine sq ((r_mulI rfl rfl om).as (v' := iN (2 * i)) (by exact congrArg i64 om)) ?_
  refine cl (input_ok b5 (2 * i) om S0) ?_
  rintro _ U0 ⟨rfl, V0⟩
  have W0 := HL.ext V0
  refine go 2 ?_
  refine sq ((r_mulI rfl rfl om).as (v' := iN (2 * i)) (by exact congrArg i64 om)) ?_
  refine sq ((r_addI rfl rfl om).as (v' := iN (2 * i + 1)) (by exact congrArg i64 om)) ?_
  refine cl (input_ok b5 (2 * i + 1) om U0) ?_
  rintro _ d2 ⟨rfl, X0⟩
  have e2 := W0.ext X0
  refine go 1 ?_
  intro d0 f2 g2 h2 i2
  refine go 1 ?_
  intro e0 j2 k2 Y0 l2
  refine d_store (k := 1) (v := .agg (cel EI (inW (64 * (2 * i)) 64)).toArray) (cs' := (cel EI (inW (64 * (2 * i)) 64)).toArray) Y0 rfl rfl rfl siz145 (by exact celSize (by rw [hi1]; rfl)) (by exact celOne _) (by rw [List.size_toArray, cel_length]; show _ ≤ _ * 1; first | omega | (simp only [List.length_set]; omega) | exact bLe rfl | (simp <;> omega)) (by exact putAll (by rw [List.length_replicate]; exact hi1.symm)) ?_
  intro m2 Z0 n2
  have c1 := Z0.a6 rfl
  refine d_store (k := 0) (v := .agg (cel EI (inW (64 * (2 * i + 1)) 64)).toArray) (cs' := (cel EI (inW (64 * (2 * i + 1)) 64)).toArray) c1 rfl rfl rfl siz145 (by exact celSize (by rw [hi2]; rfl)) (by exact celOne _) (by rw [List.size_toArray, cel_length]; show _ ≤ _ * 1; first | omega | (simp only [List.length_set]; omega) | exact bLe rfl | (simp <;> omega)) (by exact putAll (by rw [List.length_replicate]; exact hi2.symm)) ?_
  intro l0 d1 o2
  have m0 := d1.a6 rfl
  refine go 5 ?_
  refine condProp (((fm >>> (i : Nat)) &&& (1#64)) = (1#64)) rfl (fun c0 => ?_) (fun c0 => ?_)
  ·refine go 4 ?_
   have e1 := ((m0.pk 6 [2, 3, 0, 1, 4, 5])).b2 rfl
   refine cl (mxor_ok b5 128 kz cz sz ((opsS 128 fm i).1) hSz om om (inW (64 * (2 * i)) 64) (inW (64 * (2 * i + 1)) 64) om om [(rX e0 EI (inW (64 * (2 * i + 1)) 64) 145), (rX d0 EI (inW (64 * (2 * i)) 64) 145), (rX a0 EI (padX ((opsS 128 fm i).2)) 146), (rC b1 x1 104)] w l0 e1) ?_
   rintro _ p2 ⟨rfl, f0, n0, o0, g1, h1⟩
   have i1 := h1.a6 rfl
   have hnr : (xoS 128 ((opsS 128 fm i).1) (inW (64 * (2 * i)) 64) (inW (64 * (2 * i + 1)) 64) 64).2.length = 64 := (xoS_len 128 ((opsS 128 fm i).1) (inW (64 * (2 * i)) 64) (inW (64 * (2 * i + 1)) 64) 64).2
   refine go 1 ?_
   refine d_store (k := 4) (v := .agg (cel EI ((xoS 128 ((opsS 128 fm i).1) (inW (64 * (2 * i)) 64) (inW (64 * (2 * i + 1)) 64) 64).2)).toArray) (cs' := (cel EI (padX ((opsS 128 fm i).2 ++ (xoS 128 ((opsS 128 fm i).1) (inW (64 * (2 * i)) 64) (inW (64 * (2 * i + 1)) 64) 64).2))).toArray) i1 rfl rfl rfl siz145 (by exact celSize (by rw [hnr]; rfl)) (by exact celOne _) (by rw [List.size_toArray, cel_length, padX_len (by rw [hol.2]; omega)]; show _ ≤ _ * 1; omega) (by exact padX_put (by rw [hol.2]; omega) (by rw [hol.2]; omega) (by first | exact hnr)) ?_
   intro j1 k1 q2
   have l1 := k1.a6 rfl
   refine go 2 ?_
   have p0 : (xoS 128 ((opsS 128 fm i).1) (inW (64 * (2 * i)) 64) (inW (64 * (2 * i + 1)) 64) 64).1 = (opsS 128 fm (i + 1)).1 := by rw [opsS, opS_t c0]
   have q0 := g1
   rw [p0] at q0
   have r0 : Hp No w j1 [(rC b5 #[iN 128, sO f0 (List.length ((opsS 128 fm (i + 1)).1)) n0, sN0] 143), (f0, sob EG 154 ((opsS 128 fm (i + 1)).1) o0), (rX e0 EI (inW (64 * (2 * i + 1)) 64) 145), (rX d0 EI (inW (64 * (2 * i)) 64) 145), (rX a0 EI (padX ((opsS 128 fm i).2 ++ (xoS 128 ((opsS 128 fm i).1) (inW (64 * (2 * i)) 64) (inW (64 * (2 * i + 1)) 64) 64).2)) 146), (rC b1 x1 104)] := by rw [← p0]; exact l1
   rw [show (opsS 128 fm i).2 ++ (xoS 128 ((opsS 128 fm i).1) (inW (64 * (2 * i)) 64) (inW (64 * (2 * i + 1)) 64) 64).2 = (opsS 128 fm (i + 1)).2 from by rw [opsS, opS_t c0]] at r0
   exact ⟨(i + 1, f0, n0, o0), _, rfl, kp, ⟨⟨om, q0⟩, ((r0.dropk 3).dropk 2)⟩, vd⟩
  ·refine go 4 ?_
   have m1 := ((m0.pk 6 [2, 3, 0, 1, 4, 5])).b2 rfl
   refine cl (madd_ok b5 128 kz cz sz ((opsS 128 fm i).1) hSz om om (inW (64 * (2 * i)) 64) (inW (64 * (2 * i + 1)) 64) om om [(rX e0 EI (inW (64 * (2 * i + 1)) 64) 145), (rX d0 EI (inW (64 * (2 * i)) 64) 145), (rX a0 EI (padX ((opsS 128 fm i).2)) 146), (rC b1 x1 104)] w l0 m1) ?_
   rintro _ r2 ⟨rfl, h0, s0, u0, n1, p1⟩
   have q1 := p1.a6 rfl
   have hnr : (adS 128 ((opsS 128 fm i).1) (inW (64 * (2 * i)) 64) (inW (64 * (2 * i + 1)) 64) 63).2.1.length = 64 := (adS_len 128 ((opsS 128 fm i).1) (inW (64 * (2 * i)) 64) (inW (64 * (2 * i + 1)) 64) 63).2
   refine go 1 ?_
   refine d_store (k := 4) (v := .agg (cel EI ((adS 128 ((opsS 128 fm i).1) (inW (64 * (2 * i)) 64) (inW (64 * (2 * i + 1)) 64) 63).2.1)).toArray) (cs' := (cel EI (padX ((opsS 128 fm i).2 ++ (adS 128 ((opsS 128 fm i).1) (inW (64 * (2 * i)) 64) (inW (64 * (2 * i + 1)) 64) 63).2.1))).toArray) q1 rfl rfl rfl siz145 (by exact celSize (by rw [hnr]; rfl)) (by exact celOne _) (by rw [List.size_toArray, cel_length, padX_len (by rw [hol.2]; omega)]; show _ ≤ _ * 1; omega) (by exact padX_put (by rw [hol.2]; omega) (by rw [hol.2]; omega) (by first | exact hnr)) ?_
   intro r1 s1 s2
   have t1 := s1.a6 rfl
   refine go 2 ?_
   have w0 : (adS 128 ((opsS 128 fm i).1) (inW (64 * (2 * i)) 64) (inW (64 * (2 * i + 1)) 64) 63).1 = (opsS 128 fm (i + 1)).1 := by rw [opsS, opS_f c0]
   have x0 := n1
   rw [w0] at x0
   have y0 : Hp No w r1 [(rC b5 #[iN 128, sO h0 (List.length ((opsS 128 fm (i + 1)).1)) s0, sN0] 143), (h0, sob EG 154 ((opsS 128 fm (i + 1)).1) u0), (rX e0 EI (inW (64 * (2 * i + 1)) 64) 145), (rX d0 EI (inW (64 * (2 * i)) 64) 145), (rX a0 EI (padX ((opsS 128 fm i).2 ++ (adS 128 ((opsS 128 fm i).1) (inW (64 * (2 * i)) 64) (inW (64 * (2 * i + 1)) 64) 63).2.1)) 146), (rC b1 x1 104)] := by rw [← w0]; exact t1
   rw [show (opsS 128 fm i).2 ++ (adS 128 ((opsS 128 fm i).1) (inW (64 * (2 * i)) 64) (inW (64 * (2 * i + 1)) 64) 63).2.1 = (opsS 128 fm (i + 1)).2 from by rw [opsS, opS_f c0]] at y0
   exact ⟨(i + 1, h0, s0, u0), _, rfl, kp, ⟨⟨om, x0⟩, ((y0.dropk 3).dropk 2)⟩, vd⟩
 ·have hie : i = 1 := by omega
  rw [hie, opsS_one] at HL hSz hol
  obtain ⟨o1, ho1⟩ : ∃ q, q = opS 128 [] 0 64 (fbS fm 0) := ⟨_, rfl⟩
  rw [← ho1] at HL hSz hol
  have z0 := opS_len 128 [] 0 64 (fbS fm 0)
  rw [← ho1] at z0
  simp only [List.length_nil] at z0
  have t2 := HL.a4 rfl
  have hpx : (padX o1.2).length = 128 := padX_len om
  refine go 1 ?_
  intro b0 u1 u2 w1 y2
  let x2 : Option Addr := some ⟨b0, 0, none⟩
  refine go 1 ?_
  have y1 := ((w1.pk 5 [1, 2, 0, 3, 4])).b2 rfl
  refine cl (gate_ok b5 128 kz cz sz o1.1 hSz om om (1 : Int) (0 : Int) (0 : Int) [(rX b0 EI (List.replicate 64 0) 145), (rX a0 EI (padX o1.2) 146), (rC b1 x1 104)] w u1 y1) ?_
  rintro wv81 A0 ⟨hwv82, i0, B0, C0, z1, A1⟩
  obtain ⟨z2, D0⟩ : ∃ q, q = wrW 128 o1.1 := ⟨_, rfl⟩
  rw [← D0] at hwv82
  subst hwv82
  have B1 := A1.a5 rfl
  refine go 1 ?_
  subst D0
  have E0 : o1.1 ++ [(⟨(1 : Int), (0 : Int), (0 : Int)⟩ : Gt)] = ze o1.1 := by rfl
  have F0 := z1
  rw [E0] at F0
  have G0 : Hp No w A0 [(rC b5 #[iN 128, sO i0 (List.length (ze o1.1)) B0, sN0] 143), (i0, sob EG 154 (ze o1.1) C0), (rX b0 EI (List.replicate 64 0) 145), (rX a0 EI (padX o1.2) 146), (rC b1 x1 104)] := by rw [← E0]; exact B1
  have hzl : (ze o1.1).length = o1.1.length + 1 := by simp [ze]
  refine go 1 ?_
  refine sq ((r_eqlI rfl rfl).as (v' := .bool true) (by rfl)) ?_
  refine go 4 ?_
  refine sq ((r_ld1 (E := EI) (l := padX o1.2) (j := 63) (a := (padX o1.2).getD 63 0) fits3 (G0.get (k := 3) rfl) (at_getD om) rfl rfl).as (v' := i64 (o1.2.getD 63 0)) (by exact congrArg i64 (padX_at om))) ?_
  have C1 := G0.b2 rfl
  refine cl (gate_ok b5 128 i0 B0 C0 (ze o1.1) F0 om om (3 : Int) (o1.2.getD 63 0) (0 : Int) [(rX b0 EI (List.replicate 64 0) 145), (rX a0 EI (padX o1.2) 146), (rC b1 x1 104)] w A0 C1) ?_
  rintro wv96 A2 ⟨hwv97, D1, E1, F1, G1, H1⟩
  obtain ⟨B2, H0⟩ : ∃ q, q = wrW 128 (ze o1.1) := ⟨_, rfl⟩
  rw [← H0] at hwv97
  subst hwv97
  have I1 := H1.a5 rfl
  refine go 1 ?_
  subst H0
  refine go 1 ?_
  refine loopAny (σ := Nat × Option Nat × Nat × LV) (fun (i, ky, cy, sy) => [(4, pT b1), (7, pT b5), (8, pT a0), (12, pT b0), (13, i64 ((wrW 128 o1.1))), (14, i64 ((wrW 128 (ze o1.1)))), (77, iN i)]) (fun (i, ky, cy, sy) w' => (i ≤ 63 ∧ Sl EG ky (reS 128 (ze o1.1 ++ [(⟨3, o1.2.getD 63 0, 0⟩ : Gt)]) (wrW 128 (ze o1.1)) o1.2 i).1 cy sy) ∧ Hp No w w' [(rC b5 #[iN 128, sO ky (List.length ((reS 128 (ze o1.1 ++ [(⟨3, o1.2.getD 63 0, 0⟩ : Gt)]) (wrW 128 (ze o1.1)) o1.2 i).1)) cy, sN0] 143), (ky, sob EG 154 ((reS 128 (ze o1.1 ++ [(⟨3, o1.2.getD 63 0, 0⟩ : Gt)]) (wrW 128 (ze o1.1)) o1.2 i).1) sy), (rX b0 EI (padW ((reS 128 (ze o1.1 ++ [(⟨3, o1.2.getD 63 0, 0⟩ : Gt)]) (wrW 128 (ze o1.1)) o1.2 i).2)) 145), (rX a0 EI (padX o1.2) 146), (rC b1 x1 104)]) (fun (i, ky, cy, sy) => 63 - i) ((0, D1, E1, F1)) ?_ ?_ ?_
  ·exact kp
  ·exact ⟨⟨om, G1⟩, I1⟩
  rintro ⟨i, ky, cy, sy⟩ ρ J1 ⟨⟨hq2, hSy⟩, I0⟩
  have hre := reS_len 128 (ze o1.1 ++ [(⟨3, o1.2.getD 63 0, 0⟩ : Gt)]) (wrW 128 (ze o1.1)) o1.2 i
  have hgl : (ze o1.1 ++ [(⟨3, o1.2.getD 63 0, 0⟩ : Gt)]).length = o1.1.length + 2 := by rw [List.length_append, hzl]; rfl
  have hpl : (padW (reS 128 (ze o1.1 ++ [(⟨3, o1.2.getD 63 0, 0⟩ : Gt)]) (wrW 128 (ze o1.1)) o1.2 i).2).length = 64 := padW_len (by rw [hre.2]; omega)
  refine go 1 ?_
  refine condProp (((i : Nat) : Int) < (63 : Int)) rfl (fun K1 => ?_) (fun K1 => ?_)
  ·refine go 8 ?_
   refine sq ((r_ld1 (E := EI) (l := padX o1.2) (j := i) (a := (padX o1.2).getD i 0) fits3 (I0.get (k := 3) rfl) (at_getD om) rfl rfl).as (v' := i64 (o1.2.getD i 0)) (by exact congrArg i64 (padX_at om))) ?_
   have L1 := I0.as (L' := (_ :: _ :: [(rX b0 EI (padW ((reS 128 (ze o1.1 ++ [(⟨3, o1.2.getD 63 0, 0⟩ : Gt)]) (wrW 128 (ze o1.1)) o1.2 i).2)) 145), (rX a0 EI (padX o1.2) 146), (rC b1 x1 104)])) rfl
   refine cl (gate_ok b5 128 ky cy sy ((reS 128 (ze o1.1 ++ [(⟨3, o1.2.getD 63 0, 0⟩ : Gt)]) (wrW 128 (ze o1.1)) o1.2 i).1) hSy om om (2 : Int) (wrW 128 (ze o1.1)) (o1.2.getD i 0) [(rX b0 EI (padW ((reS 128 (ze o1.1 ++ [(⟨3, o1.2.getD 63 0, 0⟩ : Gt)]) (wrW 128 (ze o1.1)) o1.2 i).2)) 145), (rX a0 EI (padX o1.2) 146), (rC b1 x1 104)] w J1 L1) ?_
   rintro wv110 C2 ⟨hwv111, j0, J0, K0, M1, N1⟩
   obtain ⟨D2, L0⟩ : ∃ q, q = wrW 128 ((reS 128 (ze o1.1 ++ [(⟨3, o1.2.getD 63 0, 0⟩ : Gt)]) (wrW 128 (ze o1.1)) o1.2 i).1) := ⟨_, rfl⟩
   rw [← L0] at hwv111
   subst hwv111
   have E2 := N1.a5 rfl
   refine go 2 ?_
   intro O1 P1 F2
   refine go 2 ?_
   subst L0
   have M0 : (reS 128 (ze o1.1 ++ [(⟨3, o1.2.getD 63 0, 0⟩ : Gt)]) (wrW 128 (ze o1.1)) o1.2 i).1 ++ [(⟨(2 : Int), (wrW 128 (ze o1.1)), o1.2.getD i 0⟩ : Gt)] = (reS 128 (ze o1.1 ++ [(⟨3, o1.2.getD 63 0, 0⟩ : Gt)]) (wrW 128 (ze o1.1)) o1.2 (i + 1)).1 := by rfl
   have N0 := M1
   rw [M0] at N0
   have O0 : Hp No w O1 [(rC b5 #[iN 128, sO j0 (List.length ((reS 128 (ze o1.1 ++ [(⟨3, o1.2.getD 63 0, 0⟩ : Gt)]) (wrW 128 (ze o1.1)) o1.2 (i + 1)).1)) J0, sN0] 143), (j0, sob EG 154 ((reS 128 (ze o1.1 ++ [(⟨3, o1.2.getD 63 0, 0⟩ : Gt)]) (wrW 128 (ze o1.1)) o1.2 (i + 1)).1) K0), (rX b0 EI ((padW ((reS 128 (ze o1.1 ++ [(⟨3, o1.2.getD 63 0, 0⟩ : Gt)]) (wrW 128 (ze o1.1)) o1.2 i).2)).set i (wrW 128 ((reS 128 (ze o1.1 ++ [(⟨3, o1.2.getD 63 0, 0⟩ : Gt)]) (wrW 128 (ze o1.1)) o1.2 i).1))) 145), (rX a0 EI (padX o1.2) 146), (rC b1 x1 104)] := by rw [← M0]; exact P1
   rw [padW_set (l := (reS 128 (ze o1.1 ++ [(⟨3, o1.2.getD 63 0, 0⟩ : Gt)]) (wrW 128 (ze o1.1)) o1.2 i).2) _ hre.2 om] at O0
   have Q1 := O0.a5 rfl
   exact ⟨(i + 1, j0, J0, K0), _, rfl, kp, ⟨⟨om, N0⟩, Q1⟩, vd⟩
  ·have hj : i = 63 := by omega
   refine go 3 ?_
   intro G2 P0 H2
   rw [padW_last (hre.2.trans hj)] at P0
   have hrl : ((reS 128 (ze o1.1 ++ [(⟨3, o1.2.getD 63 0, 0⟩ : Gt)]) (wrW 128 (ze o1.1)) o1.2 i).2 ++ [wrW 128 o1.1]).length = 64 := by rw [List.length_append, hre.2, hj]; rfl
   refine wnil ?_
   refine blockNormal ?_
   refine thenNormal ?_
   refine sR ?_
   refine sMv ?_
   refine sq (r_sliceA0 arr145 (b := b0) (off := 0) rfl (bLe rfl)) ?_
   refine sq (r_nilCheck rfl) ?_
   refine sq (r_fieldAddr (off' := 0) fld143_0 (by decide) (b := b5) (off := 0) rfl om) ?_
   refine sq (r_fieldAddr (off' := 2) fld104_2 (by decide) (b := b5) (off := 0) rfl om) ?_
   refine d_store (k := 0) (v := .slice x2 64 64) (cs' := #[iN 128, sO ky (List.length ((reS 128 (ze o1.1 ++ [(⟨3, o1.2.getD 63 0, 0⟩ : Gt)]) (wrW 128 (ze o1.1)) o1.2 i).1)) cy, .slice x2 64 64]) P0 rfl rfl rfl siz100 (by rfl) (oneL rfl) (by exact bLe rfl) (by rfl) ?_
   intro I2 R1 J2
   have Q0 := R1.a5 rfl
   refine wS ?_
   refine sMv ?_
   refine sq (r_nilCheck rfl) ?_
   refine sq (r_fieldAddr (off' := 0) fld143_0 (by decide) (b := b5) (off := 0) rfl om) ?_
   refine sq (r_loadA (cs' := #[iN 128, sO ky (List.length ((reS 128 (ze o1.1 ++ [(⟨3, o1.2.getD 63 0, 0⟩ : Gt)]) (wrW 128 (ze o1.1)) o1.2 i).1)) cy, .slice x2 64 64]) agg104 siz104 (Q0.get (k := 0) rfl) (off := 0) rfl (by exact bLe rfl) (by rfl)) ?_
   refine d_store (k := 4) (v := .agg #[iN 128, sO ky (List.length ((reS 128 (ze o1.1 ++ [(⟨3, o1.2.getD 63 0, 0⟩ : Gt)]) (wrW 128 (ze o1.1)) o1.2 i).1)) cy, .slice x2 64 64]) (cs' := #[iN 128, sO ky (List.length ((reS 128 (ze o1.1 ++ [(⟨3, o1.2.getD 63 0, 0⟩ : Gt)]) (wrW 128 (ze o1.1)) o1.2 i).1)) cy, .slice x2 64 64]) Q0 rfl rfl rfl siz104 (by rfl) (oneL rfl) (by exact bLe rfl) (by rfl) ?_
   intro K2 S1 L2
   have R0 := S1.a5 rfl
   refine sAv ?_
   refine wend ?_
   refine retAny ?_
   refine retG (rs := [.cell 4 104, .tmp 5]) (vs := [.agg #[iN 128, sO ky (List.length ((reS 128 (ze o1.1 ++ [(⟨3, o1.2.getD 63 0, 0⟩ : Gt)]) (wrW 128 (ze o1.1)) o1.2 i).1)) cy, .slice x2 64 64], .nilIface]) rfl ⟨r_loadA (cs' := #[iN 128, sO ky (List.length ((reS 128 (ze o1.1 ++ [(⟨3, o1.2.getD 63 0, 0⟩ : Gt)]) (wrW 128 (ze o1.1)) o1.2 i).1)) cy, .slice x2 64 64]) agg104 siz104 (R0.get (k := 4) rfl) (off := 0) rfl (by exact bLe rfl) (by rfl), ⟨rfl, rfl⟩, trivial⟩ ?_
   subst hj
   rw [show (mk1 (fbS fm 0)) = _ from mk1_eq _, ← ho1]
   exact ⟨_, rfl, ky, cy, sy, b0, rfl, hSy, (((R0.dropk 4).dropk 3).dropk 0)⟩
end Go.Proofs.YtohngnahcgbfmaaGreatDoor.Cm
namespace Go.Proofs.YtohngnahcgbfmaaGreatDoor.Cm
open Go Vc Er Circ
theorem make_k2 (fm : BitVec 64) (hf : fm < 4#64) (w : World) : Calls Tryz.prog 35 [i64 (2 : Int), u64 fm].toArray w (Ret fun v w' => ∃ (key : Option Nat) (c : Nat) (sp : LV) (b : Nat), v = .tuple #[.agg #[i64 ((256 : Nat) : Int), sO key (mk2 (fbS fm 0) (fbS fm 1)).1.length c, .slice (some ⟨b, 0, none⟩) 64 64], .nilIface] ∧ Sl EG key (mk2 (fbS fm 0) (fbS fm 1)).1 c sp ∧ Hp No w w' [(key, sob EG 154 (mk2 (fbS fm 0) (fbS fm 1)).1 sp), (rX b EI (mk2 (fbS fm 0) (fbS fm 1)).2 145)]) := by
 let x1 : Array Value := #[i64 0, sN0, sN0]
 have H := Hp.start No w
 refine enter (n := 131) Tryz.func35 rfl rfl (bLe rfl) ?_
 refine go 1 ?_
 intro b1 w2 K1 H3 L1
 refine go 3 ?_
 refine sq ((r_eqlI rfl rfl).as (v' := .bool false) (by rfl)) ?_
 refine go 1 ?_
 refine sq ((r_eqlI rfl rfl).as (v' := .bool true) (by rfl)) ?_
 refine go 4 ?_
 refine sq ((r_lss64 (a := fm) (b := (1#64) <<< (2 : Nat)) rfl rfl).as (v' := .bool true) (by exact congrArg Value.bool (decide_eq_true hf))) ?_
 refine go 1 ?_
 refine sq ((r_mulI rfl rfl om).as (v' := iN 256) (by rfl)) ?_
 refine go 3 ?_
 intro b5 w6 M1 H7 N1
 refine go 1 ?_
 have H9 := H7.nil (sob EG 154 [] [])
 have O1 := H9.a3 rfl
 refine go 1 ?_
 intro a0 P1 Q1 p0 R1
 rw [padX_nil] at p0
 refine go 2 ?_
 refine loopAny (σ := Nat × Option Nat × Nat × LV) (fun (i, kz, cz, sz) => [(0, i64 2), (1, u64 fm), (4, pT b1), (7, pT b5), (8, pT a0), (36, i64 2), (37, iN i)]) (fun (i, kz, cz, sz) w' => (i ≤ 2 ∧ Sl EG kz (opsS 256 fm i).1 cz sz) ∧ Hp No w w' [(rC b5 #[iN 256, sO kz (List.length ((opsS 256 fm i).1)) cz, sN0] 143), (kz, sob EG 154 ((opsS 256 fm i).1) sz), (rX a0 EI (padX ((opsS 256 fm i).2)) 146), (rC b1 x1 104)]) (fun (i, kz, cz, sz) => 2 - i) ((0, none, 0, [])) ?_ ?_ ?_
 ·exact kp
 ·exact ⟨⟨om, Sl.none⟩, (p0.pk 4 [2, 1, 0, 3])⟩
 rintro ⟨i, kz, cz, sz⟩ ρ O0 ⟨⟨hq, hSz⟩, HL⟩
 have hol := opsS_len 256 fm i
 have hi1 := inW_len (64 * (2 * i)) 64
 have hi2 := inW_len (64 * (2 * i + 1)) 64
 have hpx : (padX (opsS 256 fm i).2).length = 128 := padX_len (by rw [hol.2]; omega)
 refine go 1 ?_
 refine condProp (((i : Nat) : Int) < (2 : Int)) rfl (fun P0 => ?_) (fun P0 => ?_)
 ·refine go 4 ?_
  refine sq ((r_mulI rfl rfl om).as (v' := iN (2 * i)) (by exact congrArg i64 om)) ?_
  refine cl (input_ok b5 (2 * i) om O0) ?_
  rintro _ Q0 ⟨rfl, R0⟩
  have S0 := HL.ext R0
  refine go 2 ?_
  refine sq ((r_mulI rfl rfl om).as (v' := iN (2 * i)) (by exact congrArg i64 om)) ?_
  refine sq ((r_addI rfl rfl om).as (v' := iN (2 * i + 1)) (by exact congrArg i64 om)) ?_
  refine cl (input_ok b5 (2 * i + 1) om Q0) ?_
  rintro _ S1 ⟨rfl, T0⟩
  have T1 := S0.ext T0
  refine go 1 ?_
  intro h0 U1 V1 W1 X1
  refine go 1 ?_
  intro i0 Y1 Z1 U0 c2
  refine d_store (k := 1) (v := .agg (cel EI (inW (64 * (2 * i)) 64)).toArray) (cs' := (cel EI (inW (64 * (2 * i)) 64)).toArray) U0 rfl rfl rfl siz145 (by exact celSize (by rw [hi1]; rfl)) (by exact celOne _) (by rw [List.size_toArray, cel_length]; show _ ≤ _ * 1; first | omega | (simp only [List.length_set]; omega) | exact bLe rfl | (simp <;> omega)) (by exact putAll (by rw [List.length_replicate]; exact hi1.symm)) ?_
  intro d2 V0 e2
  have W0 := V0.a6 rfl
  refine d_store (k := 0) (v := .agg (cel EI (inW (64 * (2 * i + 1)) 64)).toArray) (cs' := (cel EI (inW (64 * (2 * i + 1)) 64)).toArray) W0 rfl rfl rfl siz145 (by exact celSize (by rw [hi2]; rfl)) (by exact celOne _) (by rw [List.size_toArray, cel_length]; show _ ≤ _ * 1; first | omega | (simp only [List.length_set]; omega) | exact bLe rfl | (simp <;> omega)) (by exact putAll (by rw [List.length_replicate]; exact hi2.symm)) ?_
  intro q0 X0 f2
  have r0 := X0.a6 rfl
  refine go 5 ?_
  refine condProp (((fm >>> (i : Nat)) &&& (1#64)) = (1#64)) rfl (fun e0 => ?_) (fun e0 => ?_)
  ·refine go 4 ?_
   have Y0 := ((r0.pk 6 [2, 3, 0, 1, 4, 5])).b2 rfl
   refine cl (mxor_ok b5 256 kz cz sz ((opsS 256 fm i).1) hSz om om (inW (64 * (2 * i)) 64) (inW (64 * (2 * i + 1)) 64) om om [(rX i0 EI (inW (64 * (2 * i + 1)) 64) 145), (rX h0 EI (inW (64 * (2 * i)) 64) 145), (rX a0 EI (padX ((opsS 256 fm i).2)) 146), (rC b1 x1 104)] w q0 Y0) ?_
   rintro _ g2 ⟨rfl, l0, s0, u0, Z0, c1⟩
   have d1 := c1.a6 rfl
   have hnr : (xoS 256 ((opsS 256 fm i).1) (inW (64 * (2 * i)) 64) (inW (64 * (2 * i + 1)) 64) 64).2.length = 64 := (xoS_len 256 ((opsS 256 fm i).1) (inW (64 * (2 * i)) 64) (inW (64 * (2 * i + 1)) 64) 64).2
   refine go 1 ?_
   refine d_store (k := 4) (v := .agg (cel EI ((xoS 256 ((opsS 256 fm i).1) (inW (64 * (2 * i)) 64) (inW (64 * (2 * i + 1)) 64) 64).2)).toArray) (cs' := (cel EI (padX ((opsS 256 fm i).2 ++ (xoS 256 ((opsS 256 fm i).1) (inW (64 * (2 * i)) 64) (inW (64 * (2 * i + 1)) 64) 64).2))).toArray) d1 rfl rfl rfl siz145 (by exact celSize (by rw [hnr]; rfl)) (by exact celOne _) (by rw [List.size_toArray, cel_length, padX_len (by rw [hol.2]; omega)]; show _ ≤ _ * 1; omega) (by exact padX_put (by rw [hol.2]; omega) (by rw [hol.2]; omega) (by first | exact hnr)) ?_
   intro e1 g1 h2
   have h1 := g1.a6 rfl
   refine go 2 ?_
   have w0 : (xoS 256 ((opsS 256 fm i).1) (inW (64 * (2 * i)) 64) (inW (64 * (2 * i + 1)) 64) 64).1 = (opsS 256 fm (i + 1)).1 := by rw [opsS, opS_t e0]
   have x0 := Z0
   rw [w0] at x0
   have y0 : Hp No w e1 [(rC b5 #[iN 256, sO l0 (List.length ((opsS 256 fm (i + 1)).1)) s0, sN0] 143), (l0, sob EG 154 ((opsS 256 fm (i + 1)).1) u0), (rX i0 EI (inW (64 * (2 * i + 1)) 64) 145), (rX h0 EI (inW (64 * (2 * i)) 64) 145), (rX a0 EI (padX ((opsS 256 fm i).2 ++ (xoS 256 ((opsS 256 fm i).1) (inW (64 * (2 * i)) 64) (inW (64 * (2 * i + 1)) 64) 64).2)) 146), (rC b1 x1 104)] := by rw [← w0]; exact h1
   rw [show (opsS 256 fm i).2 ++ (xoS 256 ((opsS 256 fm i).1) (inW (64 * (2 * i)) 64) (inW (64 * (2 * i + 1)) 64) 64).2 = (opsS 256 fm (i + 1)).2 from by rw [opsS, opS_t e0]] at y0
   exact ⟨(i + 1, l0, s0, u0), _, rfl, kp, ⟨⟨om, x0⟩, ((y0.dropk 3).dropk 2)⟩, vd⟩
  ·refine go 4 ?_
   have i1 := ((r0.pk 6 [2, 3, 0, 1, 4, 5])).b2 rfl
   refine cl (madd_ok b5 256 kz cz sz ((opsS 256 fm i).1) hSz om om (inW (64 * (2 * i)) 64) (inW (64 * (2 * i + 1)) 64) om om [(rX i0 EI (inW (64 * (2 * i + 1)) 64) 145), (rX h0 EI (inW (64 * (2 * i)) 64) 145), (rX a0 EI (padX ((opsS 256 fm i).2)) 146), (rC b1 x1 104)] w q0 i1) ?_
   rintro _ i2 ⟨rfl, m0, z0, A0, j1, k1⟩
   have l1 := k1.a6 rfl
   have hnr : (adS 256 ((opsS 256 fm i).1) (inW (64 * (2 * i)) 64) (inW (64 * (2 * i + 1)) 64) 63).2.1.length = 64 := (adS_len 256 ((opsS 256 fm i).1) (inW (64 * (2 * i)) 64) (inW (64 * (2 * i + 1)) 64) 63).2
   refine go 1 ?_
   refine d_store (k := 4) (v := .agg (cel EI ((adS 256 ((opsS 256 fm i).1) (inW (64 * (2 * i)) 64) (inW (64 * (2 * i + 1)) 64) 63).2.1)).toArray) (cs' := (cel EI (padX ((opsS 256 fm i).2 ++ (adS 256 ((opsS 256 fm i).1) (inW (64 * (2 * i)) 64) (inW (64 * (2 * i + 1)) 64) 63).2.1))).toArray) l1 rfl rfl rfl siz145 (by exact celSize (by rw [hnr]; rfl)) (by exact celOne _) (by rw [List.size_toArray, cel_length, padX_len (by rw [hol.2]; omega)]; show _ ≤ _ * 1; omega) (by exact padX_put (by rw [hol.2]; omega) (by rw [hol.2]; omega) (by first | exact hnr)) ?_
   intro m1 n1 j2
   have p1 := n1.a6 rfl
   refine go 2 ?_
   have B0 : (adS 256 ((opsS 256 fm i).1) (inW (64 * (2 * i)) 64) (inW (64 * (2 * i + 1)) 64) 63).1 = (opsS 256 fm (i + 1)).1 := by rw [opsS, opS_f e0]
   have C0 := j1
   rw [B0] at C0
   have D0 : Hp No w m1 [(rC b5 #[iN 256, sO m0 (List.length ((opsS 256 fm (i + 1)).1)) z0, sN0] 143), (m0, sob EG 154 ((opsS 256 fm (i + 1)).1) A0), (rX i0 EI (inW (64 * (2 * i + 1)) 64) 145), (rX h0 EI (inW (64 * (2 * i)) 64) 145), (rX a0 EI (padX ((opsS 256 fm i).2 ++ (adS 256 ((opsS 256 fm i).1) (inW (64 * (2 * i)) 64) (inW (64 * (2 * i + 1)) 64) 63).2.1)) 146), (rC b1 x1 104)] := by rw [← B0]; exact p1
   rw [show (opsS 256 fm i).2 ++ (adS 256 ((opsS 256 fm i).1) (inW (64 * (2 * i)) 64) (inW (64 * (2 * i + 1)) 64) 63).2.1 = (opsS 256 fm (i + 1)).2 from by rw [opsS, opS_f e0]] at D0
   exact ⟨(i + 1, m0, z0, A0), _, rfl, kp, ⟨⟨om, C0⟩, ((D0.dropk 3).dropk 2)⟩, vd⟩
 ·have hie : i = 2 := by omega
  rw [hie, opsS_two] at HL hSz hol
  obtain ⟨o1, ho1⟩ : ∃ q, q = opS 256 [] 0 64 (fbS fm 0) := ⟨_, rfl⟩
  rw [← ho1] at HL hSz hol
  have j0 := opS_len 256 [] 0 64 (fbS fm 0)
  rw [← ho1] at j0
  obtain ⟨o2, ho2⟩ : ∃ q, q = opS 256 o1.1 128 192 (fbS fm 1) := ⟨_, rfl⟩
  rw [← ho2] at HL hSz hol
  have E0 := opS_len 256 o1.1 128 192 (fbS fm 1)
  rw [← ho2] at E0
  rw [padX_full (by rw [List.length_append]; omega)] at HL
  simp only [List.length_nil] at j0
  dsimp only at HL hSz
  have k2 := HL.a4 rfl
  have hpx : (o1.2 ++ o2.2).length = 128 := by rw [List.length_append]; omega
  refine go 1 ?_
  intro b0 q1 l2 r1 m2
  let x2 : Option Addr := some ⟨b0, 0, none⟩
  refine go 1 ?_
  have s1 := ((r1.pk 5 [1, 2, 0, 3, 4])).as (L' := (_ :: _ :: [(rX b0 EI (List.replicate 64 0) 145), (rX a0 EI (o1.2 ++ o2.2) 146), (rC b1 x1 104)])) rfl
  refine cl (gate_ok b5 256 kz cz sz o2.1 hSz om om (1 : Int) (0 : Int) (0 : Int) [(rX b0 EI (List.replicate 64 0) 145), (rX a0 EI (o1.2 ++ o2.2) 146), (rC b1 x1 104)] w q1 s1) ?_
  rintro wv81 t1 ⟨hwv82, f0, n0, o0, u1, w1⟩
  obtain ⟨n2, F0⟩ : ∃ q, q = wrW 256 o2.1 := ⟨_, rfl⟩
  rw [← F0] at hwv82
  subst hwv82
  have y1 := w1.a5 rfl
  refine go 1 ?_
  subst F0
  have G0 : o2.1 ++ [(⟨(1 : Int), (0 : Int), (0 : Int)⟩ : Gt)] = ze o2.1 := by rfl
  have H0 := u1
  rw [G0] at H0
  have z1 : Hp No w t1 [(rC b5 #[iN 256, sO f0 (List.length (ze o2.1)) n0, sN0] 143), (f0, sob EG 154 (ze o2.1) o0), (rX b0 EI (List.replicate 64 0) 145), (rX a0 EI (o1.2 ++ o2.2) 146), (rC b1 x1 104)] := by rw [← G0]; exact y1
  have hzl : (ze o2.1).length = o2.1.length + 1 := by simp [ze]
  refine go 1 ?_
  refine sq ((r_eqlI rfl rfl).as (v' := .bool false) (by rfl)) ?_
  refine go 1 ?_
  refine sq ((r_eqlI rfl rfl).as (v' := .bool true) (by rfl)) ?_
  refine go 2 ?_
  refine loopAny (σ := Nat) (fun i => [(4, pT b1), (7, pT b5), (8, pT a0), (12, pT b0), (13, i64 ((wrW 256 o2.1))), (94, iN i)]) (fun i w' => i ≤ 64 ∧ Hp No w w' [(rX b0 EI (padW (List.replicate i (wrW 256 o2.1))) 145), (rC b5 #[iN 256, sO f0 (List.length (ze o2.1)) n0, sN0] 143), (f0, sob EG 154 (ze o2.1) o0), (rX a0 EI (o1.2 ++ o2.2) 146), (rC b1 x1 104)]) (fun i => 64 - i) (0) ?_ ?_ ?_
  ·exact kp
  ·exact ⟨Nat.zero_le _, (z1.pk 5 [2, 0, 1, 3, 4])⟩
  rintro i ρ A1 ⟨hq2, k0⟩
  have hpl : (padW (List.replicate i (wrW 256 o2.1))).length = 64 := padW_len (by rw [List.length_replicate]; exact hq2)
  refine go 1 ?_
  refine condProp (((i : Nat) : Int) < (64 : Int)) rfl (fun B1 => ?_) (fun B1 => ?_)
  ·refine go 6 ?_
   intro p2 I0 q2
   refine go 2 ?_
   rw [padW_rep om] at I0
   exact ⟨i + 1, _, rfl, kp, ⟨om, I0⟩, vd⟩
  ·have hj : i = 64 := by omega
   rw [hj, padW_full List.length_replicate] at k0
   refine go 2 ?_
   refine sq ((r_loadA (cs' := (cel EI (((o1.2 ++ o2.2).drop 0).take 64)).toArray) agg145 siz145 (k0.get (k := 3) rfl) (off := 0) rfl (by rw [List.size_toArray, cel_length]; show _ ≤ _ * 1; omega) (by exact ext_mid _ _ _ rfl)).as (v' := .agg (cel EI o1.2).toArray) (by exact congrArg (fun q => Value.agg (cel EI q).toArray) (first_of j0.2))) ?_
   refine go 1 ?_
   refine sq ((r_loadA (cs' := (cel EI (((o1.2 ++ o2.2).drop 64).take 64)).toArray) agg145 siz145 (k0.get (k := 3) rfl) (off := 64) rfl (by rw [List.size_toArray, cel_length]; show _ ≤ _ * 1; omega) (by exact ext_mid _ _ _ rfl)).as (v' := .agg (cel EI o2.2).toArray) (by exact congrArg (fun q => Value.agg (cel EI q).toArray) (second_of j0.2 E0.2))) ?_
   have C1 := ((k0.pk 5 [1, 2, 0, 3, 4])).as (L' := (_ :: _ :: [(rX b0 EI (List.replicate 64 (wrW 256 o2.1)) 145), (rX a0 EI (o1.2 ++ o2.2) 146), (rC b1 x1 104)])) rfl
   refine cl (mless_ok b5 256 f0 n0 o0 (ze o2.1) H0 om om o1.2 o2.2 om om [(rX b0 EI (List.replicate 64 (wrW 256 o2.1)) 145), (rX a0 EI (o1.2 ++ o2.2) 146), (rC b1 x1 104)] w A1 C1) ?_
   rintro wv101 r2 ⟨hwv102, c0, d0, D1, E1, F1⟩
   obtain ⟨J0, K0⟩ : ∃ q, q = (leG 256 (ze o2.1) o1.2 o2.2).2 := ⟨_, rfl⟩
   rw [← K0] at hwv102
   subst hwv102
   have G1 := F1.a5 rfl
   refine sq (r_indexA (off' := 0) (j := 0) arr145 (b := b0) (off := 0) rfl rfl vo om om) ?_
   refine d_store (k := 2) (v := i64 J0) (cs' := (cel EI ((List.replicate 64 (wrW 256 o2.1)).set 0 J0)).toArray) G1 rfl rfl rfl siz3 (by rfl) (by exact EI.one _) (by rw [List.size_toArray, cel_length]; show _ ≤ _ * 1; rw [List.length_replicate]; omega) (by exact put1 (E := EI) rfl _ _ _) ?_
   intro s2 H1 t2
   have L0 := H1.a5 rfl
   subst K0
   rw [rep_set] at L0
   have hrl : ((leG 256 (ze o2.1) o1.2 o2.2).2 :: List.replicate 63 (wrW 256 o2.1)).length = 64 := by rw [List.length_cons, List.length_replicate]
   refine wnil ?_
   refine blockNormal ?_
   refine thenNormal ?_
   refine sR ?_
   refine sMv ?_
   refine sq (r_sliceA0 arr145 (b := b0) (off := 0) rfl (bLe rfl)) ?_
   refine sq (r_nilCheck rfl) ?_
   refine sq (r_fieldAddr (off' := 0) fld143_0 (by decide) (b := b5) (off := 0) rfl om) ?_
   refine sq (r_fieldAddr (off' := 2) fld104_2 (by decide) (b := b5) (off := 0) rfl om) ?_
   refine d_store (k := 0) (v := .slice x2 64 64) (cs' := #[iN 256, sO c0 (List.length ((leG 256 (ze o2.1) o1.2 o2.2).1)) d0, .slice x2 64 64]) L0 rfl rfl rfl siz100 (by rfl) (oneL rfl) (by exact bLe rfl) (by rfl) ?_
   intro u2 I1 y2
   have M0 := I1.a5 rfl
   refine wS ?_
   refine sMv ?_
   refine sq (r_nilCheck rfl) ?_
   refine sq (r_fieldAddr (off' := 0) fld143_0 (by decide) (b := b5) (off := 0) rfl om) ?_
   refine sq (r_loadA (cs' := #[iN 256, sO c0 (List.length ((leG 256 (ze o2.1) o1.2 o2.2).1)) d0, .slice x2 64 64]) agg104 siz104 (M0.get (k := 0) rfl) (off := 0) rfl (by exact bLe rfl) (by rfl)) ?_
   refine d_store (k := 4) (v := .agg #[iN 256, sO c0 (List.length ((leG 256 (ze o2.1) o1.2 o2.2).1)) d0, .slice x2 64 64]) (cs' := #[iN 256, sO c0 (List.length ((leG 256 (ze o2.1) o1.2 o2.2).1)) d0, .slice x2 64 64]) M0 rfl rfl rfl siz104 (by rfl) (oneL rfl) (by exact bLe rfl) (by rfl) ?_
   intro z2 J1 A2
   have N0 := J1.a5 rfl
   refine sAv ?_
   refine wend ?_
   refine retAny ?_
   refine retG (rs := [.cell 4 104, .tmp 5]) (vs := [.agg #[iN 256, sO c0 (List.length ((leG 256 (ze o2.1) o1.2 o2.2).1)) d0, .slice x2 64 64], .nilIface]) rfl ⟨r_loadA (cs' := #[iN 256, sO c0 (List.length ((leG 256 (ze o2.1) o1.2 o2.2).1)) d0, .slice x2 64 64]) agg104 siz104 (N0.get (k := 4) rfl) (off := 0) rfl (by exact bLe rfl) (by rfl), ⟨rfl, rfl⟩, trivial⟩ ?_
   rw [mk2_eq ho1 ho2]
   exact ⟨_, rfl, c0, d0, D1, b0, rfl, E1, (((N0.dropk 4).dropk 3).dropk 0)⟩
theorem make_k3 (fm : BitVec 64) (hf : fm < 4#64) (w : World) : Calls Tryz.prog 35 [i64 (3 : Int), u64 fm].toArray w (Ret fun v w' => ∃ (key : Option Nat) (c : Nat) (sp : LV) (b : Nat), v = .tuple #[.agg #[i64 ((256 : Nat) : Int), sO key (mk3 (fbS fm 0) (fbS fm 1)).1.length c, .slice (some ⟨b, 0, none⟩) 64 64], .nilIface] ∧ Sl EG key (mk3 (fbS fm 0) (fbS fm 1)).1 c sp ∧ Hp No w w' [(key, sob EG 154 (mk3 (fbS fm 0) (fbS fm 1)).1 sp), (rX b EI (mk3 (fbS fm 0) (fbS fm 1)).2 145)]) := by
 let x1 : Array Value := #[i64 0, sN0, sN0]
 have H := Hp.start No w
 refine enter (n := 131) Tryz.func35 rfl rfl (bLe rfl) ?_
 refine go 1 ?_
 intro b1 w2 k2 H3 l2
 refine go 3 ?_
 refine sq ((r_eqlI rfl rfl).as (v' := .bool false) (by rfl)) ?_
 refine go 1 ?_
 refine sq ((r_eqlI rfl rfl).as (v' := .bool false) (by rfl)) ?_
 refine go 1 ?_
 refine sq ((r_eqlI rfl rfl).as (v' := .bool true) (by rfl)) ?_
 refine go 4 ?_
 refine sq ((r_lss64 (a := fm) (b := (1#64) <<< (2 : Nat)) rfl rfl).as (v' := .bool true) (by exact congrArg Value.bool (decide_eq_true hf))) ?_
 refine go 1 ?_
 refine sq ((r_mulI rfl rfl om).as (v' := iN 256) (by rfl)) ?_
 refine go 3 ?_
 intro b5 w6 m2 H7 n2
 refine go 1 ?_
 have H9 := H7.nil (sob EG 154 [] [])
 have p2 := H9.a3 rfl
 refine go 1 ?_
 intro d0 q2 r2 H0 s2
 rw [padX_nil] at H0
 refine go 2 ?_
 refine loopAny (σ := Nat × Option Nat × Nat × LV) (fun (i, kz, cz, sz) => [(0, i64 3), (1, u64 fm), (4, pT b1), (7, pT b5), (8, pT d0), (36, i64 2), (37, iN i)]) (fun (i, kz, cz, sz) w' => (i ≤ 2 ∧ Sl EG kz (opsS 256 fm i).1 cz sz) ∧ Hp No w w' [(rC b5 #[iN 256, sO kz (List.length ((opsS 256 fm i).1)) cz, sN0] 143), (kz, sob EG 154 ((opsS 256 fm i).1) sz), (rX d0 EI (padX ((opsS 256 fm i).2)) 146), (rC b1 x1 104)]) (fun (i, kz, cz, sz) => 2 - i) ((0, none, 0, [])) ?_ ?_ ?_
 ·exact kp
 ·exact ⟨⟨om, Sl.none⟩, (H0.pk 4 [2, 1, 0, 3])⟩
 rintro ⟨i, kz, cz, sz⟩ ρ c1 ⟨⟨hq, hSz⟩, HL⟩
 have hol := opsS_len 256 fm i
 have hi1 := inW_len (64 * (2 * i)) 64
 have hi2 := inW_len (64 * (2 * i + 1)) 64
 have hpx : (padX (opsS 256 fm i).2).length = 128 := padX_len (by rw [hol.2]; omega)
 refine go 1 ?_
 refine condProp (((i : Nat) : Int) < (2 : Int)) rfl (fun d1 => ?_) (fun d1 => ?_)
 ·refine go 4 ?_
  refine sq ((r_mulI rfl rfl om).as (v' := iN (2 * i)) (by exact congrArg i64 om)) ?_
  refine cl (input_ok b5 (2 * i) om c1) ?_
  rintro _ e1 ⟨rfl, g1⟩
  have h1 := HL.ext g1
  refine go 2 ?_
  refine sq ((r_mulI rfl rfl om).as (v' := iN (2 * i)) (by exact congrArg i64 om)) ?_
  refine sq ((r_addI rfl rfl om).as (v' := iN (2 * i + 1)) (by exact congrArg i64 om)) ?_
  refine cl (input_ok b5 (2 * i + 1) om e1) ?_
  rintro _ t2 ⟨rfl, i1⟩
  have u2 := h1.ext i1
  refine go 1 ?_
  intro n0 y2 z2 A2 B2
  refine go 1 ?_
  intro o0 C2 D2 j1 E2
  refine d_store (k := 1) (v := .agg (cel EI (inW (64 * (2 * i)) 64)).toArray) (cs' := (cel EI (inW (64 * (2 * i)) 64)).toArray) j1 rfl rfl rfl siz145 (by exact celSize (by rw [hi1]; rfl)) (by exact celOne _) (by rw [List.size_toArray, cel_length]; show _ ≤ _ * 1; first | omega | (simp only [List.length_set]; omega) | exact bLe rfl | (simp <;> omega)) (by exact putAll (by rw [List.length_replicate]; exact hi1.symm)) ?_
  intro F2 k1 G2
  have l1 := k1.a6 rfl
  refine d_store (k := 0) (v := .agg (cel EI (inW (64 * (2 * i + 1)) 64)).toArray) (cs' := (cel EI (inW (64 * (2 * i + 1)) 64)).toArray) l1 rfl rfl rfl siz145 (by exact celSize (by rw [hi2]; rfl)) (by exact celOne _) (by rw [List.size_toArray, cel_length]; show _ ≤ _ * 1; first | omega | (simp only [List.length_set]; omega) | exact bLe rfl | (simp <;> omega)) (by exact putAll (by rw [List.length_replicate]; exact hi2.symm)) ?_
  intro I0 m1 H2
  have J0 := m1.a6 rfl
  refine go 5 ?_
  refine condProp (((fm >>> (i : Nat)) &&& (1#64)) = (1#64)) rfl (fun j0 => ?_) (fun j0 => ?_)
  ·refine go 4 ?_
   have n1 := ((J0.pk 6 [2, 3, 0, 1, 4, 5])).b2 rfl
   refine cl (mxor_ok b5 256 kz cz sz ((opsS 256 fm i).1) hSz om om (inW (64 * (2 * i)) 64) (inW (64 * (2 * i + 1)) 64) om om [(rX o0 EI (inW (64 * (2 * i + 1)) 64) 145), (rX n0 EI (inW (64 * (2 * i)) 64) 145), (rX d0 EI (padX ((opsS 256 fm i).2)) 146), (rC b1 x1 104)] w I0 n1) ?_
   rintro _ I2 ⟨rfl, u0, K0, L0, p1, q1⟩
   have r1 := q1.a6 rfl
   have hnr : (xoS 256 ((opsS 256 fm i).1) (inW (64 * (2 * i)) 64) (inW (64 * (2 * i + 1)) 64) 64).2.length = 64 := (xoS_len 256 ((opsS 256 fm i).1) (inW (64 * (2 * i)) 64) (inW (64 * (2 * i + 1)) 64) 64).2
   refine go 1 ?_
   refine d_store (k := 4) (v := .agg (cel EI ((xoS 256 ((opsS 256 fm i).1) (inW (64 * (2 * i)) 64) (inW (64 * (2 * i + 1)) 64) 64).2)).toArray) (cs' := (cel EI (padX ((opsS 256 fm i).2 ++ (xoS 256 ((opsS 256 fm i).1) (inW (64 * (2 * i)) 64) (inW (64 * (2 * i + 1)) 64) 64).2))).toArray) r1 rfl rfl rfl siz145 (by exact celSize (by rw [hnr]; rfl)) (by exact celOne _) (by rw [List.size_toArray, cel_length, padX_len (by rw [hol.2]; omega)]; show _ ≤ _ * 1; omega) (by exact padX_put (by rw [hol.2]; omega) (by rw [hol.2]; omega) (by first | exact hnr)) ?_
   intro s1 t1 J2
   have u1 := t1.a6 rfl
   refine go 2 ?_
   have M0 : (xoS 256 ((opsS 256 fm i).1) (inW (64 * (2 * i)) 64) (inW (64 * (2 * i + 1)) 64) 64).1 = (opsS 256 fm (i + 1)).1 := by rw [opsS, opS_t j0]
   have N0 := p1
   rw [M0] at N0
   have O0 : Hp No w s1 [(rC b5 #[iN 256, sO u0 (List.length ((opsS 256 fm (i + 1)).1)) K0, sN0] 143), (u0, sob EG 154 ((opsS 256 fm (i + 1)).1) L0), (rX o0 EI (inW (64 * (2 * i + 1)) 64) 145), (rX n0 EI (inW (64 * (2 * i)) 64) 145), (rX d0 EI (padX ((opsS 256 fm i).2 ++ (xoS 256 ((opsS 256 fm i).1) (inW (64 * (2 * i)) 64) (inW (64 * (2 * i + 1)) 64) 64).2)) 146), (rC b1 x1 104)] := by rw [← M0]; exact u1
   rw [show (opsS 256 fm i).2 ++ (xoS 256 ((opsS 256 fm i).1) (inW (64 * (2 * i)) 64) (inW (64 * (2 * i + 1)) 64) 64).2 = (opsS 256 fm (i + 1)).2 from by rw [opsS, opS_t j0]] at O0
   exact ⟨(i + 1, u0, K0, L0), _, rfl, kp, ⟨⟨om, N0⟩, ((O0.dropk 3).dropk 2)⟩, vd⟩
  ·refine go 4 ?_
   have w1 := ((J0.pk 6 [2, 3, 0, 1, 4, 5])).b2 rfl
   refine cl (madd_ok b5 256 kz cz sz ((opsS 256 fm i).1) hSz om om (inW (64 * (2 * i)) 64) (inW (64 * (2 * i + 1)) 64) om om [(rX o0 EI (inW (64 * (2 * i + 1)) 64) 145), (rX n0 EI (inW (64 * (2 * i)) 64) 145), (rX d0 EI (padX ((opsS 256 fm i).2)) 146), (rC b1 x1 104)] w I0 w1) ?_
   rintro _ K2 ⟨rfl, x0, P0, Q0, y1, z1⟩
   have A1 := z1.a6 rfl
   have hnr : (adS 256 ((opsS 256 fm i).1) (inW (64 * (2 * i)) 64) (inW (64 * (2 * i + 1)) 64) 63).2.1.length = 64 := (adS_len 256 ((opsS 256 fm i).1) (inW (64 * (2 * i)) 64) (inW (64 * (2 * i + 1)) 64) 63).2
   refine go 1 ?_
   refine d_store (k := 4) (v := .agg (cel EI ((adS 256 ((opsS 256 fm i).1) (inW (64 * (2 * i)) 64) (inW (64 * (2 * i + 1)) 64) 63).2.1)).toArray) (cs' := (cel EI (padX ((opsS 256 fm i).2 ++ (adS 256 ((opsS 256 fm i).1) (inW (64 * (2 * i)) 64) (inW (64 * (2 * i + 1)) 64) 63).2.1))).toArray) A1 rfl rfl rfl siz145 (by exact celSize (by rw [hnr]; rfl)) (by exact celOne _) (by rw [List.size_toArray, cel_length, padX_len (by rw [hol.2]; omega)]; show _ ≤ _ * 1; omega) (by exact padX_put (by rw [hol.2]; omega) (by rw [hol.2]; omega) (by first | exact hnr)) ?_
   intro B1 C1 L2
   have D1 := C1.a6 rfl
   refine go 2 ?_
   have R0 : (adS 256 ((opsS 256 fm i).1) (inW (64 * (2 * i)) 64) (inW (64 * (2 * i + 1)) 64) 63).1 = (opsS 256 fm (i + 1)).1 := by rw [opsS, opS_f j0]
   have S0 := y1
   rw [R0] at S0
   have T0 : Hp No w B1 [(rC b5 #[iN 256, sO x0 (List.length ((opsS 256 fm (i + 1)).1)) P0, sN0] 143), (x0, sob EG 154 ((opsS 256 fm (i + 1)).1) Q0), (rX o0 EI (inW (64 * (2 * i + 1)) 64) 145), (rX n0 EI (inW (64 * (2 * i)) 64) 145), (rX d0 EI (padX ((opsS 256 fm i).2 ++ (adS 256 ((opsS 256 fm i).1) (inW (64 * (2 * i)) 64) (inW (64 * (2 * i + 1)) 64) 63).2.1)) 146), (rC b1 x1 104)] := by rw [← R0]; exact D1
   rw [show (opsS 256 fm i).2 ++ (adS 256 ((opsS 256 fm i).1) (inW (64 * (2 * i)) 64) (inW (64 * (2 * i + 1)) 64) 63).2.1 = (opsS 256 fm (i + 1)).2 from by rw [opsS, opS_f j0]] at T0
   exact ⟨(i + 1, x0, P0, Q0), _, rfl, kp, ⟨⟨om, S0⟩, ((T0.dropk 3).dropk 2)⟩, vd⟩
 ·have hie : i = 2 := by omega
  rw [hie, opsS_two] at HL hSz hol
  obtain ⟨o1, ho1⟩ : ∃ q, q = opS 256 [] 0 64 (fbS fm 0) := ⟨_, rfl⟩
  rw [← ho1] at HL hSz hol
  have h0 := opS_len 256 [] 0 64 (fbS fm 0)
  rw [← ho1] at h0
  obtain ⟨o2, ho2⟩ : ∃ q, q = opS 256 o1.1 128 192 (fbS fm 1) := ⟨_, rfl⟩
  rw [← ho2] at HL hSz hol
  have y0 := opS_len 256 o1.1 128 192 (fbS fm 1)
  rw [← ho2] at y0
  rw [padX_full (by rw [List.length_append]; omega)] at HL
  simp only [List.length_nil] at h0
  dsimp only at HL hSz
  have M2 := HL.a4 rfl
  have hpx : (o1.2 ++ o2.2).length = 128 := by rw [List.length_append]; omega
  refine go 1 ?_
  intro e0 E1 N2 F1 O2
  let x2 : Option Addr := some ⟨e0, 0, none⟩
  refine go 1 ?_
  have G1 := ((F1.pk 5 [1, 2, 0, 3, 4])).as (L' := (_ :: _ :: [(rX e0 EI (List.replicate 64 0) 145), (rX d0 EI (o1.2 ++ o2.2) 146), (rC b1 x1 104)])) rfl
  refine cl (gate_ok b5 256 kz cz sz o2.1 hSz om om (1 : Int) (0 : Int) (0 : Int) [(rX e0 EI (List.replicate 64 0) 145), (rX d0 EI (o1.2 ++ o2.2) 146), (rC b1 x1 104)] w E1 G1) ?_
  rintro wv81 H1 ⟨hwv82, k0, z0, A0, I1, J1⟩
  obtain ⟨P2, U0⟩ : ∃ q, q = wrW 256 o2.1 := ⟨_, rfl⟩
  rw [← U0] at hwv82
  subst hwv82
  have K1 := J1.a5 rfl
  refine go 1 ?_
  subst U0
  have V0 : o2.1 ++ [(⟨(1 : Int), (0 : Int), (0 : Int)⟩ : Gt)] = ze o2.1 := by rfl
  have W0 := I1
  rw [V0] at W0
  have L1 : Hp No w H1 [(rC b5 #[iN 256, sO k0 (List.length (ze o2.1)) z0, sN0] 143), (k0, sob EG 154 (ze o2.1) A0), (rX e0 EI (List.replicate 64 0) 145), (rX d0 EI (o1.2 ++ o2.2) 146), (rC b1 x1 104)] := by rw [← V0]; exact K1
  have hzl : (ze o2.1).length = o2.1.length + 1 := by simp [ze]
  refine go 1 ?_
  refine sq ((r_eqlI rfl rfl).as (v' := .bool false) (by rfl)) ?_
  refine go 1 ?_
  refine sq ((r_eqlI rfl rfl).as (v' := .bool false) (by rfl)) ?_
  refine go 1 ?_
  refine sq ((r_eqlI rfl rfl).as (v' := .bool true) (by rfl)) ?_
  refine go 1 ?_
  let i0 : List RW := [(rX d0 EI (o1.2 ++ o2.2) 146), (rC b1 x1 104)]
  let B0 := fun (b0 : Option Nat) (a0 : Int) (c0 : Nat) => ((rC b5 #[iN 256, sO b0 (List.length ((piS 256 ((leG 256 (ze o2.1) o1.2 o2.2).1) a0 o2.2 o1.2 64).1)) c0, sN0] 143) : RW)
  let C0 := ((rX e0 EI (List.replicate 64 0) 145) : RW)
  let M1 : Tab := [zt3 false false false fun _ _ _ w' => Hp No w w' ((rC b5 #[iN 256, sO k0 (List.length (ze o2.1)) z0, sN0] 143) :: (k0, sob EG 154 (ze o2.1) A0) :: C0 :: i0), zt3 true false false fun v6 _ _ w' => ∃ l0 p0 q0 a0, v6 = i64 a0 ∧ Sl EG l0 ((leG 256 (ze o2.1) o1.2 o2.2).1) p0 q0 ∧ a0 = (leG 256 (ze o2.1) o1.2 o2.2).2 ∧ Hp No w w' ((rC b5 #[iN 256, sO l0 (List.length ((leG 256 (ze o2.1) o1.2 o2.2).1)) p0, sN0] 143) :: (l0, sob EG 154 ((leG 256 (ze o2.1) o1.2 o2.2).1) q0) :: C0 :: i0), zt3 true true false fun v6 v11 _ w' => ∃ a0 b0 c0 f0, v6 = i64 a0 ∧ v11 = .agg (cel EI ((piS 256 ((leG 256 (ze o2.1) o1.2 o2.2).1) a0 o2.2 o1.2 64).2)).toArray ∧ Sl EG b0 ((piS 256 ((leG 256 (ze o2.1) o1.2 o2.2).1) a0 o2.2 o1.2 64).1) c0 f0 ∧ a0 = (leG 256 (ze o2.1) o1.2 o2.2).2 ∧ Hp No w w' ((B0 b0 a0 c0) :: (b0, sob EG 154 ((piS 256 ((leG 256 (ze o2.1) o1.2 o2.2).1) a0 o2.2 o1.2 64).1) f0) :: C0 :: i0), zt3 true true true fun v6 v11 _ w' => ∃ a0 b0 c0 f0, v6 = i64 a0 ∧ v11 = .agg (cel EI ((piS 256 ((leG 256 (ze o2.1) o1.2 o2.2).1) a0 o2.2 o1.2 64).2)).toArray ∧ Sl EG b0 ((piS 256 ((leG 256 (ze o2.1) o1.2 o2.2).1) a0 o2.2 o1.2 64).1) c0 f0 ∧ a0 = (leG 256 (ze o2.1) o1.2 o2.2).2 ∧ Hp No w w' ((B0 b0 a0 c0) :: (b0, sob EG 154 ((piS 256 ((leG 256 (ze o2.1) o1.2 o2.2).1) a0 o2.2 o1.2 64).1) f0) :: (rX e0 EI ((piS 256 ((leG 256 (ze o2.1) o1.2 o2.2).1) a0 o2.2 o1.2 64).2) 145) :: i0)]
  refine drawH (m := 13) [0, 0, 0, 4, 0, 16, 62, 0, 128, 0, 512, 2047, 4095] [6, 11, 12] i0 M1 mixed (fun _ e => L1.ext e) (A_ (fun _ _ h => h.drop1.drop1.drop1) (A_ (fun _ _ ⟨_, _, _, _, _, _, _, h⟩ => h.drop1.drop1.drop1) (A_ (fun _ _ ⟨_, _, _, _, _, _, _, _, h⟩ => h.drop1.drop1.drop1) (A_ (fun _ _ ⟨_, _, _, _, _, _, _, _, h⟩ => h.drop1.drop1.drop1) trivial)))) (fun D0 => ?_)
  refine gk 3 ?_
  refine lkH (.agg (cel EI o1.2).toArray) (fun _ uw hcx => (r_loadA (cs' := (cel EI (((o1.2 ++ o2.2).drop 0).take 64)).toArray) agg145 siz145 (hcx.get (k := 0) rfl) (off := 0) rfl (by rw [List.size_toArray, cel_length]; show _ ≤ _ * 1; omega) (by exact ext_mid _ _ _ rfl)).as (v' := .agg (cel EI o1.2).toArray) (by exact congrArg (fun q => Value.agg (cel EI q).toArray) (first_of h0.2))) ?_
  refine gk 1 ?_
  refine lkH (.agg (cel EI o2.2).toArray) (fun _ uw hcx => (r_loadA (cs' := (cel EI (((o1.2 ++ o2.2).drop 64).take 64)).toArray) agg145 siz145 (hcx.get (k := 0) rfl) (off := 64) rfl (by rw [List.size_toArray, cel_length]; show _ ≤ _ * 1; omega) (by exact ext_mid _ _ _ rfl)).as (v' := .agg (cel EI o2.2).toArray) (by exact congrArg (fun q => Value.agg (cel EI q).toArray) (second_of h0.2 y0.2))) ?_
  refine WalkT.eff D0 0 ?_ ?_
  ·refine A_ (fun r w0 uw hF hE => ?_) trivial
   have N1 := hF.ext hE
   refine gW fun Q' hK => ?_
   have O1 := N1.as (L' := (_ :: _ :: [(rX e0 EI (List.replicate 64 0) 145), (rX d0 EI (o1.2 ++ o2.2) 146), (rC b1 x1 104)])) rfl
   refine cl (mless_ok b5 256 k0 z0 A0 (ze o2.1) W0 om om o1.2 o2.2 om om [(rX e0 EI (List.replicate 64 0) 145), (rX d0 EI (o1.2 ++ o2.2) 146), (rC b1 x1 104)] w uw O1) ?_
   rintro wv156 Q2 ⟨hwv157, P1, Q1, R1, S1, T1⟩
   obtain ⟨U1, X0⟩ : ∃ q, q = (leG 256 (ze o2.1) o1.2 o2.2).2 := ⟨_, rfl⟩
   rw [← X0] at hwv157
   subst hwv157
   have V1 := T1.a5 rfl
   exact hK _ _ (E_ P1 (E_ Q1 (E_ R1 (E_ U1 (A_ rfl (A_ S1 (A_ X0 V1)))))))
  refine gk 1 ?_
  refine lkH (.agg (cel EI o2.2).toArray) (fun _ uw hcx => (r_loadA (cs' := (cel EI (((o1.2 ++ o2.2).drop 64).take 64)).toArray) agg145 siz145 (hcx.get (k := 0) rfl) (off := 64) rfl (by rw [List.size_toArray, cel_length]; show _ ≤ _ * 1; omega) (by exact ext_mid _ _ _ rfl)).as (v' := .agg (cel EI o2.2).toArray) (by exact congrArg (fun q => Value.agg (cel EI q).toArray) (second_of h0.2 y0.2))) ?_
  refine gk 1 ?_
  refine lkH (.agg (cel EI o1.2).toArray) (fun _ uw hcx => (r_loadA (cs' := (cel EI (((o1.2 ++ o2.2).drop 0).take 64)).toArray) agg145 siz145 (hcx.get (k := 0) rfl) (off := 0) rfl (by rw [List.size_toArray, cel_length]; show _ ≤ _ * 1; omega) (by exact ext_mid _ _ _ rfl)).as (v' := .agg (cel EI o1.2).toArray) (by exact congrArg (fun q => Value.agg (cel EI q).toArray) (first_of h0.2))) ?_
  refine WalkT.eff D0 1 ?_ ?_
  ·refine A_ (fun r w0 uw hF hE => ?_) trivial
   obtain ⟨l0, p0, q0, a0, e6, W1, m0, E0⟩ := hF
   replace E0 := E0.ext hE
   dsimp only
   rw [e6]
   refine gW fun Q' hK => ?_
   have hlg := leG_len 256 (ze o2.1) o1.2 o2.2
   have X1 := E0.as (L' := (_ :: _ :: [(rX e0 EI (List.replicate 64 0) 145), (rX d0 EI (o1.2 ++ o2.2) 146), (rC b1 x1 104)])) rfl
   refine cl (mpick_ok b5 256 l0 p0 q0 ((leG 256 (ze o2.1) o1.2 o2.2).1) W1 om om a0 o2.2 o1.2 om om [(rX e0 EI (List.replicate 64 0) 145), (rX d0 EI (o1.2 ++ o2.2) 146), (rC b1 x1 104)] w uw X1) ?_
   rintro _ R2 ⟨rfl, Y1, Z1, c2, d2, e2⟩
   have f2 := e2.a5 rfl
   exact hK _ _ (E_ a0 (E_ Y1 (E_ Z1 (E_ c2 (A_ e6 (A_ rfl (A_ d2 (A_ m0 f2))))))))
  refine WalkT.eff D0 2 ?_ ?_
  ·refine A_ (fun r w0 uw hF hE => ?_) trivial
   obtain ⟨a0, b0, c0, f0, e6, r0, F0, m0, G0⟩ := hF
   replace G0 := G0.ext hE
   dsimp only
   rw [r0]
   refine gW0 fun Q' hK => ?_
   have hnr : ((piS 256 ((leG 256 (ze o2.1) o1.2 o2.2).1) a0 o2.2 o1.2 64).2).length = 64 := (piS_len _ _ _ _ _ _).2
   refine d_store (k := 2) (v := .agg (cel EI ((piS 256 ((leG 256 (ze o2.1) o1.2 o2.2).1) a0 o2.2 o1.2 64).2)).toArray) (cs' := (cel EI ((piS 256 ((leG 256 (ze o2.1) o1.2 o2.2).1) a0 o2.2 o1.2 64).2)).toArray) G0 rfl rfl rfl siz145 (by exact celSize (by rw [hnr]; rfl)) (by exact celOne _) (by rw [List.size_toArray, cel_length]; show _ ≤ _ * 1; first | omega | (simp only [List.length_set]; omega) | exact bLe rfl | (simp <;> omega)) (by exact putAll (by rw [List.length_replicate]; exact hnr.symm)) ?_
   intro S2 g2 T2
   have h2 := g2.a5 rfl
   exact hK _ (fun _ => (E_ a0 (E_ b0 (E_ c0 (E_ f0 (A_ e6 (A_ r0 (A_ F0 (A_ m0 h2)))))))))
  refine WalkT.nil ?_
  intro r w0 U2 hF hE
  obtain ⟨a0, b0, c0, f0, e6, r0, F0, m0, s0⟩ := hF
  replace s0 := s0.ext hE
  dsimp only
  rw [e6, r0]
  dsimp only [i0, B0] at s0
  subst m0
  have hrl : (piS 256 (leG 256 (ze o2.1) o1.2 o2.2).1 (leG 256 (ze o2.1) o1.2 o2.2).2 o2.2 o1.2 64).2.length = 64 := (piS_len _ _ _ _ _ _).2
  refine wnil ?_
  refine blockNormal ?_
  refine thenNormal ?_
  refine sR ?_
  refine sMv ?_
  refine sq (r_sliceA0 arr145 (b := e0) (off := 0) rfl (bLe rfl)) ?_
  refine sq (r_nilCheck rfl) ?_
  refine sq (r_fieldAddr (off' := 0) fld143_0 (by decide) (b := b5) (off := 0) rfl om) ?_
  refine sq (r_fieldAddr (off' := 2) fld104_2 (by decide) (b := b5) (off := 0) rfl om) ?_
  refine d_store (k := 0) (v := .slice x2 64 64) (cs' := #[iN 256, sO b0 (List.length ((piS 256 ((leG 256 (ze o2.1) o1.2 o2.2).1) ((leG 256 (ze o2.1) o1.2 o2.2).2) o2.2 o1.2 64).1)) c0, .slice x2 64 64]) s0 rfl rfl rfl siz100 (by rfl) (oneL rfl) (by exact bLe rfl) (by rfl) ?_
  intro V2 i2 X2
  have Y0 := i2.a5 rfl
  refine wS ?_
  refine sMv ?_
  refine sq (r_nilCheck rfl) ?_
  refine sq (r_fieldAddr (off' := 0) fld143_0 (by decide) (b := b5) (off := 0) rfl om) ?_
  refine sq (r_loadA (cs' := #[iN 256, sO b0 (List.length ((piS 256 ((leG 256 (ze o2.1) o1.2 o2.2).1) ((leG 256 (ze o2.1) o1.2 o2.2).2) o2.2 o1.2 64).1)) c0, .slice x2 64 64]) agg104 siz104 (Y0.get (k := 0) rfl) (off := 0) rfl (by exact bLe rfl) (by rfl)) ?_
  refine d_store (k := 4) (v := .agg #[iN 256, sO b0 (List.length ((piS 256 ((leG 256 (ze o2.1) o1.2 o2.2).1) ((leG 256 (ze o2.1) o1.2 o2.2).2) o2.2 o1.2 64).1)) c0, .slice x2 64 64]) (cs' := #[iN 256, sO b0 (List.length ((piS 256 ((leG 256 (ze o2.1) o1.2 o2.2).1) ((leG 256 (ze o2.1) o1.2 o2.2).2) o2.2 o1.2 64).1)) c0, .slice x2 64 64]) Y0 rfl rfl rfl siz104 (by rfl) (oneL rfl) (by exact bLe rfl) (by rfl) ?_
  intro Y2 j2 Z2
  have Z0 := j2.a5 rfl
  refine sAv ?_
  refine wend ?_
  refine retAny ?_
  refine retG (rs := [.cell 4 104, .tmp 5]) (vs := [.agg #[iN 256, sO b0 (List.length ((piS 256 ((leG 256 (ze o2.1) o1.2 o2.2).1) ((leG 256 (ze o2.1) o1.2 o2.2).2) o2.2 o1.2 64).1)) c0, .slice x2 64 64], .nilIface]) rfl ⟨r_loadA (cs' := #[iN 256, sO b0 (List.length ((piS 256 ((leG 256 (ze o2.1) o1.2 o2.2).1) ((leG 256 (ze o2.1) o1.2 o2.2).2) o2.2 o1.2 64).1)) c0, .slice x2 64 64]) agg104 siz104 (Z0.get (k := 4) rfl) (off := 0) rfl (by exact bLe rfl) (by rfl), ⟨rfl, rfl⟩, trivial⟩ ?_
  rw [mk3_eq ho1 ho2]
  exact ⟨_, rfl, b0, c0, f0, e0, rfl, F0, (((Z0.dropk 4).dropk 3).dropk 0)⟩
end Go.Proofs.YtohngnahcgbfmaaGreatDoor.Cm
