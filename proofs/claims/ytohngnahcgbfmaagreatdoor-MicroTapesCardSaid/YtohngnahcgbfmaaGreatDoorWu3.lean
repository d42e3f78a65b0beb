/- What the claim has need of: ErrD, VcAuto, Fcts, Fault, FaultK, Circ, Circ2, Cm, Cm2, Cm3, Cm4, Cm5, Cm6, Cm7. -/
import Derived.Test.YtohngnahcgbfmaaGreatDoorWu2
import Derived.Test.YtohngnahcgbfmaaGreatDoorProg
import Derived.Laws.StructEq
set_option linter.unusedVariables false
set_option maxHeartbeats 16000000
set_option maxRecDepth 20000
namespace Go.Proofs.YtohngnahcgbfmaaGreatDoor.Vc
open Go
def Er (lo : Nat) (w : World) (e : Int) : Nat → Value → Prop
 | 0, v => v = .iface 63 (i64 e)
 | k + 1, v => ∃ (b : Nat) (nm : ByteArray) (at' : Int) (v' : Value), v = .iface 122 (.pointer (some ⟨b, 0, none⟩)) ∧ lo ≤ b ∧ w.heap[b]? = some (.cells #[.string nm, i64 at', i64 ((k + 1 : Nat) : Int), v'] 126 (0, 0)) ∧ Er lo w e k v'
theorem Er.chg {lo : Nat} {M : Nat → Prop} {w w' : World} {e : Int} (hC : Chg M w w') (hM : ∀ b, lo ≤ b → ¬ M b) : ∀ {k : Nat} {v : Value}, Er lo w e k v → Er lo w' e k v
 | 0, _, h => h
 | _ + 1, _, ⟨b, nm, at', v', h1, h2, h3, h4⟩ => ⟨b, nm, at', v', h1, h2, hC.blk _ _ (hM b h2) h3, Er.chg hC hM h4⟩
theorem Er.chgs {lo : Nat} {N : Nat → Prop} {w w' : World} {e : Int} (hC : Chg N w w') (hN : ∀ b, lo ≤ b → b < w.heap.size → ¬ N b) : ∀ {k : Nat} {v : Value}, Er lo w e k v → Er lo w' e k v
 | 0, _, h => h
 | _ + 1, _, ⟨b, nm, at', v', h1, h2, h3, h4⟩ => ⟨b, nm, at', v', h1, h2, hC.blk _ _ (hN b h2 (kC h3)) h3, Er.chgs hC hN h4⟩
theorem Er.ext {lo : Nat} {w w' : World} {e : Int} {k : Nat} {v : Value} (h : Er lo w e k v) (hE : Ext w w') : Er lo w' e k v := Er.chg hE (fun _ _ x => x) h
theorem Er.mono {lo lo' : Nat} {w : World} {e : Int} (hl : lo' ≤ lo) : ∀ {k : Nat} {v : Value}, Er lo w e k v → Er lo' w e k v
 | 0, _, h => h
 | _ + 1, _, ⟨b, nm, at', v', h1, h2, h3, h4⟩ => ⟨b, nm, at', v', h1, Nat.le_trans hl h2, h3, Er.mono hl h4⟩
theorem Er.iface {lo : Nat} {w : World} {e : Int} : ∀ {k : Nat} {v : Value}, Er lo w e k v → ∃ T x, v = .iface T x
 | 0, _, h => ⟨_, _, h⟩
 | _ + 1, _, ⟨_, _, _, _, h1, _, _, _⟩ => ⟨_, _, h1⟩
def Gl (w : World) : Prop := ∃ (cs : Array Value) (T : TypeId) (fr : Nat × Nat), w.heap[0]? = some (.cells cs T fr) ∧ cs[0]? = some (.iface 193 (.agg #[typeHandle Tryz.prog 31]))
theorem Chg.gl {M : Nat → Prop} {w w' : World} (h : Chg M w w') (hM : ¬ M 0) (hG : Gl w) : Gl w' := by
 obtain ⟨cs, T, fr, h1, h2⟩ := hG
 exact ⟨cs, T, fr, h.blk _ _ hM h1, h2⟩
theorem Gl.lt {w : World} (hG : Gl w) : 0 < w.heap.size := by
 obtain ⟨cs, T, fr, h1, _⟩ := hG
 exact kC h1
end Go.Proofs.YtohngnahcgbfmaaGreatDoor.Vc
namespace Go.Proofs.YtohngnahcgbfmaaGreatDoor.Vc
open Go
class Fct {α : Type} (a : α) (b : outParam α) : Prop where h : a = b
class Fit {α : Type} (P : Program) (T : TypeId) (E : Enc α) : Prop where h : wC P T E
class ZerO (P : Program) (T : TypeId) (o : outParam Obj) : Prop where h : ∃ z, YB P T = some z ∧ Obj.cells z.cells T (0, 0) = o
structure Fu (n : Nat) (G : Prop) : Prop where out : G
theorem PD {n : Nat} {G G' : Prop} (f : G' → G) (h : Fu n G') : Fu (n + 1) G := ⟨f h.out⟩
theorem BC {n : Nat} {G G' : Prop} (f : G' → G) (h : Fu n G') : Fu n G := ⟨f h.out⟩
theorem vfB {n : Nat} {G G' : Prop} (f : G' → G) (h : Fu (n + 1) G') : Fu (n + 1) G := ⟨f h.out⟩
theorem YQ {G : Prop} (h : G) : Fu 0 G := ⟨h⟩
structure Kp (K : Prop) : Prop where out : K
inductive InR (key : Option Nat) (o : Obj) : List RW → Prop
 |here {L : List RW} : InR key o ((key, o) :: L)
 |there {p : RW} {L : List RW} (h : InR key o L) : InR key o (p :: L)
theorem InR.mem {key : Option Nat} {o : Obj} {L : List RW} (h : InR key o L) : (key, o) ∈ L := by
 induction h with
 |here => exact List.mem_cons_self
 |there _ ih => exact List.mem_cons_of_mem _ ih
inductive SetF (key : Option Nat) (o : Obj) : List RW → (RW → List RW) → Prop
 |here {L : List RW} : SetF key o ((key, o) :: L) (fun p => p :: L)
 |there {q : RW} {L : List RW} {F : RW → List RW} (h : SetF key o L F) : SetF key o (q :: L) (fun p => q :: F p)
theorem SetF.at {key : Option Nat} {o : Obj} {L : List RW} {F : RW → List RW} (h : SetF key o L F) : ∃ k : Nat, L[k]? = some (key, o) ∧ ∀ p, L.set k p = F p := by
 induction h with
 |here => exact ⟨0, rfl, fun _ => rfl⟩
 |there _ ih => obtain ⟨k, h1, h2⟩ := ih; exact ⟨k + 1, h1, fun p => by rw [List.set_cons_succ, h2]⟩
inductive SetL {α : Type} (v : α) : List α → Nat → List α → Prop
 |here {a : α} {l : List α} : SetL v (a :: l) 0 (v :: l)
 |there {a : α} {l l' : List α} {i : Nat} (h : SetL v l i l') : SetL v (a :: l) (i + 1) (a :: l')
theorem SetL.eq {α : Type} {v : α} {l l' : List α} {i : Nat} (h : SetL v l i l') : l.set i v = l' ∧ i < l.length := by
 induction h with
 |here => exact ⟨rfl, by simp⟩
 |there _ ih => exact ⟨by rw [List.set_cons_succ, ih.1], by simp; exact ih.2⟩
inductive TakL {α : Type} : Nat → List α → List α → Prop
 |nil {l : List α} : TakL 0 l []
 |cons {a : α} {l l' : List α} {n : Nat} (h : TakL n l l') : TakL (n + 1) (a :: l) (a :: l')
inductive DrpL {α : Type} : Nat → Nat → List α → List α → Prop
 |here {l l' : List α} {n : Nat} (h : TakL n l l') : DrpL 0 n l l'
 |there {a : α} {l l' : List α} {i n : Nat} (h : DrpL i n l l') : DrpL (i + 1) n (a :: l) l'
theorem TakL.eq {α : Type} {l l' : List α} {n : Nat} (h : TakL n l l') : l.take n = l' ∧ n ≤ l.length := by
 induction h with
 |nil => exact ⟨rfl, Nat.zero_le _⟩
 |cons _ ih => exact ⟨by rw [List.take_succ_cons, ih.1], by simp; exact ih.2⟩
theorem DrpL.eq {α : Type} {l l' : List α} {i n : Nat} (h : DrpL i n l l') : (l.drop i).take n = l' ∧ i + n ≤ l.length := by
 induction h with
 |here h => exact ⟨by simpa using h.eq.1, by simpa using h.eq.2⟩
 |there _ ih => exact ⟨by simpa using ih.1, by have := ih.2; simp; omega⟩
inductive PutL : LV → LV → Nat → LV → Prop
 |nil {l : LV} : PutL [] l 0 l
 |here {v : Value} {vs : LV} {a : Value} {l l' : LV} (h : PutL vs l 0 l') : PutL (v :: vs) (a :: l) 0 (v :: l')
 |there {vs : LV} {a : Value} {l l' : LV} {i : Nat} (h : PutL vs l i l') : PutL vs (a :: l) (i + 1) (a :: l')
theorem YG (a : Value) : ∀ (vs l : LV) (i : Nat), yD (a :: l).toArray (i + 1) vs = ((a :: (yD l.toArray i vs).toList)).toArray
 |[], l, i => by simp [yD]
 |v :: vs, l, i => by
  rw [yD, yD]
  have := YG a vs (l.set i v) (i + 1)
  simpa using this
theorem PutL.eq {vs l l' : LV} {i : Nat} (h : PutL vs l i l') : yD l.toArray i vs = l'.toArray ∧ i + vs.length ≤ l.length := by
 induction h with
 |nil => exact ⟨rfl, by simp⟩
 |@here v vs a l l' _ ih =>
  refine ⟨?_, by have := ih.2; simp at this ⊢; omega⟩
  rw [yD]
  have e : (a :: l).toArray.setIfInBounds 0 v = (v :: l).toArray := by simp
  rw [e, YG, ih.1]
 |@there vs a l l' i _ ih =>
  refine ⟨by rw [YG, ih.1], by have := ih.2; simp at this ⊢; omega⟩
inductive FillL (place : Nat → Option (Nat × Nat)) : List (Nat × Value) → LV → LV → Prop
 |nil {l : LV} : FillL place [] l l
 |cons {i off s : Nat} {v u : Value} {vs : LV} {ps : List (Nat × Value)} {l l1 l2 : LV} (hp : place i = some (off, s)) (hu : v = u) (hv : u.cells = vs.toArray) (hs : Nat.beq vs.length s = true) (h : PutL vs l off l1) (r : FillL place ps l1 l2) : FillL place ((i, v) :: ps) l l2
theorem II (off : Nat) : ∀ (vs : LV) (k : Nat) (cs : Array Value), (vs.zipIdx k).foldl (fun cs (p : Value × Nat) => cs.setIfInBounds (off + p.2) p.1) cs = yD cs (off + k) vs
 |[], _, _ => rfl
 |v :: vs, k, cs => by rw [List.zipIdx_cons, List.foldl_cons, II off vs (k + 1)]; rfl
theorem FillL.eq {place : Nat → Option (Nat × Nat)} {ps : List (Nat × Value)} {l l' : LV} (h : FillL place ps l l') : Instr.fill place l.toArray ps = some l'.toArray := by
 induction h with
 |nil => rfl
 |@cons i off s v u vs ps l l1 l2 hp hu hv hs hput _ ih =>
  subst hu
  obtain ⟨e1, e2⟩ := hput.eq
  have hs' := Nat.eq_of_beq_eq_true hs
  unfold Instr.fill
  rw [hp]
  have h1 : v.cells.size = s := by rw [hv]; simpa using hs'
  have h2 : ¬ ((decide (v.cells.size ≠ s) || decide (off + v.cells.size > l.toArray.size)) = true) := by rw [h1]; simp; omega
  simp only
  rw [if_neg h2]
  have e3 : v.cells.zipIdx.foldl (fun cs (p : Value × Nat) => cs.setIfInBounds (off + p.2) p.1) l.toArray = l1.toArray := by
   rw [← e1, hv]
   have := II off vs 0 l.toArray
   simpa using this
  exact (congrArg (fun x => Instr.fill place x ps) e3).trans ih
class ArrE (α : outParam Type) (P : Program) (T : TypeId) (E : outParam (Enc α)) : Prop where h : True
inductive EncP {α : Type} (E : Enc α) : List (Nat × Value) → List α → Prop
 |nil : EncP E [] []
 |cons {i : Nat} {v : Value} {a : α} {ps : List (Nat × Value)} {l : List α} (hv : v = E.val a) (h : EncP E ps l) : EncP E ((i, v) :: ps) (a :: l)
theorem vIn {key : Option Nat} {o : Obj} {L : List RW} (h : InR key o L := by (repeat (first | exact InR.here | apply InR.there)) <;> fail) : InR key o L := h
theorem YF {key : Option Nat} {o : Obj} {L : List RW} {F : RW → List RW} (h : SetF key o L F := by (repeat (first | exact SetF.here | apply SetF.there)) <;> fail) : SetF key o L F := h
theorem om {p : Prop} (h : p := by omega) : p := h
class ValAs {α : Type} (E : Enc α) (f : outParam (α → Value)) : Prop where h : ∀ a, E.val a = f a
instance : ValAs E8 u8 := ⟨fun _ => rfl⟩
instance : ValAs E32 u32 := ⟨fun _ => rfl⟩
instance : ValAs E64 u64 := ⟨fun _ => rfl⟩
instance : ValAs EI i64 := ⟨fun _ => rfl⟩
instance : ValAs EB .bool := ⟨fun _ => rfl⟩
instance : ValAs EG (fun g => .agg #[i64 g.k, i64 g.a, i64 g.b]) := ⟨fun _ => rfl⟩
instance : ValAs PA (fun t => .agg #[u64 t.a, u64 t.b, u64 t.c]) := ⟨fun _ => rfl⟩
instance : ValAs zB (fun o => .agg #[u64 o.p, u64 o.q, u64 o.r, u64 o.s, .bool o.ch]) := ⟨fun _ => rfl⟩
instance : ValAs bB (fun l => .agg (uA E64 [l.1, l.2]).toArray) := ⟨fun _ => rfl⟩
instance : ValAs xE (fun o => .agg #[i64 o.kd, i64 o.a, i64 o.b, i64 o.k, u64 o.c, i64 o.pt]) := ⟨fun _ => rfl⟩
instance : ValAs IB (fun o => .agg #[u64 o.w, u64 o.t.a, u64 o.t.b, u64 o.t.c, .slice o.os.a o.os.n o.os.c, .slice o.zs.a o.zs.n o.zs.c]) := ⟨fun _ => rfl⟩
instance : ValAs ES (fun s => .slice s.a s.n s.c) := ⟨fun _ => rfl⟩
instance : ValAs ET (fun l => .string (PV l)) := ⟨fun _ => rfl⟩
class Dft {α : Type} (E : Enc α) (d : outParam α) : Prop where h : True
instance : Dft E8 0#8 := ⟨trivial⟩
instance : Dft E32 0#32 := ⟨trivial⟩
instance : Dft E64 0#64 := ⟨trivial⟩
instance : Dft EB false := ⟨trivial⟩
instance : Dft EI 0 := ⟨trivial⟩
instance : Dft EG g0 := ⟨trivial⟩
instance : Dft ES NH := ⟨trivial⟩
instance : Dft ET [] := ⟨trivial⟩
instance : Dft PA tr0 := ⟨trivial⟩
instance : Dft zB eB := ⟨trivial⟩
instance : Dft xE DB := ⟨trivial⟩
instance : Dft IB JB := ⟨trivial⟩
section
variable {M : Nat → Prop} {w₀ w : World} {L : List RW} {b : Nat} {o : Obj} {α : Type} {E : Enc α} {key : Option Nat} {X : TypeId} {l : List α} {c : Nat} {sp pre : LV} {a : Option Addr}
theorem Hp.inr (H : Hp M w₀ w L) (h : InR (some b) o L) : w.heap[b]? = some o := H.has _ h.mem b rfl
theorem Hp.rdI (H : Hp M w₀ w L) (h : InR key (qA E X l sp) L) (hS : Sl E key l c sp) : Rd E w (sA key) l := Rd.mine hS fun g hg => H.has _ h.mem g hg
theorem Hp.rdJ (H : Hp M w₀ w L) (hS : SlP E key a pre l c sp) (h : InR key (JA E X pre l sp) L) : Rd E w a l := rJ hS fun g hg => H.has _ h.mem g hg
end
theorem kD {p : Prop} (h : p := by first | with_reducible assumption | assumption) : p := h
theorem gF {w : World} {b : Nat} {o : Obj} (h : w.heap[b]? = some o := by first
 |exact Hp.inr kD vIn
 |with_reducible assumption
 |exact Hp.keepE kD (by with_reducible assumption)
 |exact Hp.keepE kD (by assumption)
 |assumption) : w.heap[b]? = some o := h
theorem IC {α : Type} {E : Enc α} {w : World} {a : Option Addr} {l : List α} (h : Rd E w a l := by first
 |with_reducible assumption
 |exact Hp.rdI kD vIn kD
 |exact Rd.ext (by with_reducible assumption) (Hp.chg kD)
 |exact Hp.rdJ kD (by first | with_reducible assumption | exact Sk.ok.t (by with_reducible assumption) | exact Sk.ok.b (by with_reducible assumption) | exact Sk.ok.o (by with_reducible assumption)) vIn
 |exact Rd.row gF
 |exact Rd.nil) : Rd E w a l := h
section
variable {P : Program} {n : Nat} {ops : Array Oper} {Q : Exit → Act → World → Prop} {ρ : TA} {w w₀ : World} {d : Option Nat} {t T T' S : TypeId} {pos : String} {after : Array Edge} {g : Option (Nat × Bool)} {x y : Operand}
 {M : Nat → Prop} {L L' : List RW} {rest : List Oper} {b k off : Nat} {cs cs' : Array Value} {X : TypeId} {fr : Nat × Nat} {a : Option Addr}
theorem BB {k : Nat} (h : ev n ρ x = .int .u64 (@OfNat.ofNat Int k instOfNat)) (hk : Nat.blt k 18446744073709551616 = true) : ev n ρ x = u64 (BitVec.ofNat 64 k) := by
 rw [h]
 have hk2 : k < 18446744073709551616 := by simpa [Nat.blt_eq] using hk
 show Value.int .u64 (k : Int) = Value.int .u64 ((BitVec.ofNat 64 k).toNat : Int)
 rw [BitVec.toNat_ofNat, Nat.mod_eq_of_lt (by omega)]
theorem zC {k : Nat} (h : ev n ρ x = .int .u8 (@OfNat.ofNat Int k instOfNat)) (hk : Nat.blt k 256 = true) : ev n ρ x = u8 (BitVec.ofNat 8 k) := by
 rw [h]
 have hk2 : k < 256 := by simpa [Nat.blt_eq] using hk
 show Value.int .u8 (k : Int) = Value.int .u8 ((BitVec.ofNat 8 k).toNat : Int)
 rw [BitVec.toNat_ofNat, Nat.mod_eq_of_lt (by omega)]
theorem NP {k : Nat} (h : ev n ρ x = .int .u32 (@OfNat.ofNat Int k instOfNat)) (hk : Nat.blt k 4294967296 = true) : ev n ρ x = u32 (BitVec.ofNat 32 k) := by
 rw [h]
 have hk2 : k < 4294967296 := by simpa [Nat.blt_eq] using hk
 show Value.int .u32 (k : Int) = Value.int .u32 ((BitVec.ofNat 32 k).toNat : Int)
 rw [BitVec.toNat_ofNat, Nat.mod_eq_of_lt (by omega)]
theorem vmvP {p : Option Addr} (hx : ev n ρ x = .pointer p) : Runs P n ρ ⟨d, .move x, t, pos, after, g⟩ w (.pointer p) w := CA hx
theorem vavP {p : Option Addr} (hx : ev n ρ x = .pointer p) : Runs P n ρ ⟨d, .assign x, t, pos, after, g⟩ w (.pointer p) w := zA hx
theorem vmvS {p : Option Addr} {m c : Nat} (hx : ev n ρ x = .slice p m c) : Runs P n ρ ⟨d, .move x, t, pos, after, g⟩ w (.slice p m c) w := CA hx
theorem vavS {p : Option Addr} {m c : Nat} (hx : ev n ρ x = .slice p m c) : Runs P n ρ ⟨d, .assign x, t, pos, after, g⟩ w (.slice p m c) w := zA hx
theorem vmvW {i : BitVec 64} (hx : ev n ρ x = u64 i) : Runs P n ρ ⟨d, .move x, t, pos, after, g⟩ w (u64 i) w := CA hx
theorem vmvY {i : BitVec 8} (hx : ev n ρ x = u8 i) : Runs P n ρ ⟨d, .move x, t, pos, after, g⟩ w (u8 i) w := CA hx
theorem vmvX {i : BitVec 32} (hx : ev n ρ x = u32 i) : Runs P n ρ ⟨d, .move x, t, pos, after, g⟩ w (u32 i) w := CA hx
theorem vmvG {i : Int} (hx : ev n ρ x = i64 i) : Runs P n ρ ⟨d, .move x, t, pos, after, g⟩ w (i64 i) w := CA hx
theorem VT {k : Nat} (hx : ev n ρ x = .int .u64 (@OfNat.ofNat Int k instOfNat)) (hk : Nat.blt k 18446744073709551616 = true) : Runs P n ρ ⟨d, .move x, t, pos, after, g⟩ w (u64 (BitVec.ofNat 64 k)) w := CA (BB hx hk)
theorem IV {k : Nat} (hx : ev n ρ x = .int .u8 (@OfNat.ofNat Int k instOfNat)) (hk : Nat.blt k 256 = true) : Runs P n ρ ⟨d, .move x, t, pos, after, g⟩ w (u8 (BitVec.ofNat 8 k)) w := CA (zC hx hk)
theorem WT {k : Nat} (hx : ev n ρ x = .int .u32 (@OfNat.ofNat Int k instOfNat)) (hk : Nat.blt k 4294967296 = true) : Runs P n ρ ⟨d, .move x, t, pos, after, g⟩ w (u32 (BitVec.ofNat 32 k)) w := CA (NP hx hk)
theorem vmvI {kk : IntKind} {i : Int} (hx : ev n ρ x = .int kk i) : Runs P n ρ ⟨d, .move x, t, pos, after, g⟩ w (.int kk i) w := CA hx
theorem vavW {i : BitVec 64} (hx : ev n ρ x = u64 i) : Runs P n ρ ⟨d, .assign x, t, pos, after, g⟩ w (u64 i) w := zA hx
theorem vavY {i : BitVec 8} (hx : ev n ρ x = u8 i) : Runs P n ρ ⟨d, .assign x, t, pos, after, g⟩ w (u8 i) w := zA hx
theorem vavX {i : BitVec 32} (hx : ev n ρ x = u32 i) : Runs P n ρ ⟨d, .assign x, t, pos, after, g⟩ w (u32 i) w := zA hx
theorem vavG {i : Int} (hx : ev n ρ x = i64 i) : Runs P n ρ ⟨d, .assign x, t, pos, after, g⟩ w (i64 i) w := zA hx
theorem XT {k : Nat} (hx : ev n ρ x = .int .u64 (@OfNat.ofNat Int k instOfNat)) (hk : Nat.blt k 18446744073709551616 = true) : Runs P n ρ ⟨d, .assign x, t, pos, after, g⟩ w (u64 (BitVec.ofNat 64 k)) w := zA (BB hx hk)
theorem JV {k : Nat} (hx : ev n ρ x = .int .u8 (@OfNat.ofNat Int k instOfNat)) (hk : Nat.blt k 256 = true) : Runs P n ρ ⟨d, .assign x, t, pos, after, g⟩ w (u8 (BitVec.ofNat 8 k)) w := zA (zC hx hk)
theorem YT {k : Nat} (hx : ev n ρ x = .int .u32 (@OfNat.ofNat Int k instOfNat)) (hk : Nat.blt k 4294967296 = true) : Runs P n ρ ⟨d, .assign x, t, pos, after, g⟩ w (u32 (BitVec.ofNat 32 k)) w := zA (NP hx hk)
theorem vavI {kk : IntKind} {i : Int} (hx : ev n ρ x = .int kk i) : Runs P n ρ ⟨d, .assign x, t, pos, after, g⟩ w (.int kk i) w := zA hx
theorem vmvB {c : Bool} (hx : ev n ρ x = .bool c) : Runs P n ρ ⟨d, .move x, t, pos, after, g⟩ w (.bool c) w := CA hx
theorem vavB {c : Bool} (hx : ev n ρ x = .bool c) : Runs P n ρ ⟨d, .assign x, t, pos, after, g⟩ w (.bool c) w := zA hx
theorem vmvA {cs : Array Value} (hx : ev n ρ x = .agg cs) : Runs P n ρ ⟨d, .move x, t, pos, after, g⟩ w (.agg cs) w := CA hx
theorem vavA {cs : Array Value} (hx : ev n ρ x = .agg cs) : Runs P n ρ ⟨d, .assign x, t, pos, after, g⟩ w (.agg cs) w := zA hx
theorem vmvF {T : TypeId} {v : Value} (hx : ev n ρ x = .iface T v) : Runs P n ρ ⟨d, .move x, t, pos, after, g⟩ w (.iface T v) w := CA hx
theorem vavF {T : TypeId} {v : Value} (hx : ev n ρ x = .iface T v) : Runs P n ρ ⟨d, .assign x, t, pos, after, g⟩ w (.iface T v) w := zA hx
theorem vmvN  (hx : ev n ρ x = .nilIface) : Runs P n ρ ⟨d, .move x, t, pos, after, g⟩ w (.nilIface) w := CA hx
theorem vavN  (hx : ev n ρ x = .nilIface) : Runs P n ρ ⟨d, .assign x, t, pos, after, g⟩ w (.nilIface) w := zA hx
theorem vmvT {cs : Array Value} (hx : ev n ρ x = .tuple cs) : Runs P n ρ ⟨d, .move x, t, pos, after, g⟩ w (.tuple cs) w := CA hx
theorem vavT {cs : Array Value} (hx : ev n ρ x = .tuple cs) : Runs P n ρ ⟨d, .assign x, t, pos, after, g⟩ w (.tuple cs) w := zA hx
theorem LQ {f o z : Nat} {U : TypeId} [h : Fct (TB P S f) (some (o, z, U))] (hx : ev n ρ x = .pointer (some ⟨b, 0, none⟩)) (hz : z ≠ 0) : Runs P n ρ ⟨d, .fieldAddr S x f, t, pos, after, g⟩ w (.pointer (some ⟨b, o, none⟩)) w := rA h.h hz hx (Nat.zero_add _)
theorem PS {f o z : Nat} {U : TypeId} [h : Fct (TB P S f) (some (o, z, U))] (hx : ev n ρ x = .pointer (some ⟨b, off, none⟩)) (hz : z ≠ 0) : Runs P n ρ ⟨d, .fieldAddr S x f, t, pos, after, g⟩ w (.pointer (some ⟨b, off + o, none⟩)) w := rA h.h hz hx rfl
theorem WN {m j : Nat} {kk : IntKind} [h : Fct (jD P T) (some (m, 1))] (hx : ev n ρ x = .pointer (some ⟨b, 0, none⟩)) (hy : ev n ρ y = .int kk (j : Int)) (hj : j < m) : Runs P n ρ ⟨d, .indexAddr T x y, t, pos, after, g⟩ w (.pointer (some ⟨b, j, none⟩)) w := IA h.h hx hy rfl hj (by omega)
theorem IQ {m j : Nat} {kk : IntKind} [h : Fct (jD P T) (some (m, 1))] (hx : ev n ρ x = .pointer (some ⟨b, off, none⟩)) (hy : ev n ρ y = .int kk (j : Int)) (hj : j < m) : Runs P n ρ ⟨d, .indexAddr T x y, t, pos, after, g⟩ w (.pointer (some ⟨b, off + j, none⟩)) w := IA h.h hx hy rfl hj (by omega)
theorem JQ {m j z : Nat} {kk : IntKind} [h : Fct (jD P T) (some (m, z))] (hx : ev n ρ x = .pointer (some ⟨b, 0, none⟩)) (hy : ev n ρ y = .int kk (j : Int)) (hj : j < m) : Runs P n ρ ⟨d, .indexAddr T x y, t, pos, after, g⟩ w (.pointer (some ⟨b, j * z, none⟩)) w := IA h.h hx hy rfl hj (by omega)
theorem OS {m j z : Nat} {kk : IntKind} [h : Fct (jD P T) (some (m, z))] (hx : ev n ρ x = .pointer (some ⟨b, off, none⟩)) (hy : ev n ρ y = .int kk (j : Int)) (hj : j < m) : Runs P n ρ ⟨d, .indexAddr T x y, t, pos, after, g⟩ w (.pointer (some ⟨b, off + j * z, none⟩)) w := IA h.h hx hy rfl hj rfl
theorem MS {l : LV} {v : Value} [h1 : Fct (NA P T) true] (hx : ev n ρ x = .pointer (some ⟨b, off, none⟩)) (h : w.heap[b]? = some (.cells l.toArray X fr)) (hv : l[off]? = some v) : Runs P n ρ ⟨d, .load T x, t, pos, after, g⟩ w v w := DA h1.h h hx (by simpa using hv)
theorem NS {l l' : LV} {s : Nat} [h1 : Fct (OA P T) true] [h2 : Fct (UB P T) (some s)] (hx : ev n ρ x = .pointer (some ⟨b, off, none⟩)) (h : w.heap[b]? = some (.cells l.toArray X fr)) (hc : DrpL off s l l') : Runs P n ρ ⟨d, .load T x, t, pos, after, g⟩ w (.agg l'.toArray) w :=
 mB h1.h h2.h h hx (by simpa using hc.eq.2) (by have hc := hc.eq.1; subst hc; simp [List.extract, Nat.add_sub_cancel_left])
theorem LS {α : Type} {E : Enc α} {l : List α} {s : Nat} [h1 : Fct (OA P T) true] [h2 : Fct (UB P T) (some s)] (hx : ev n ρ x = .pointer (some ⟨b, 0, none⟩)) (h : w.heap[b]? = some (.cells (uA E l).toArray X fr)) (hs : l.length * E.s = s) : Runs P n ρ ⟨d, .load T x, t, pos, after, g⟩ w (.agg (uA E l).toArray) w :=
 mB h1.h h2.h h hx (by rw [List.size_toArray, oA, hs]; omega) (YD (by rw [oA, hs]))
theorem uV {e : TypeId} {z m c j : Nat} {kk : IntKind} {α : Type} {E : Enc α} {l : List α} [hT : Fct (eD P T) (some (e, z))] (hx : ev n ρ x = .slice a m c) (hR : Rd E w a l) (hy : ev n ρ y = .int kk (j : Int)) (hm : m = l.length) (hj : j < l.length) : Runs P n ρ ⟨d, .indexAddr T x y, t, pos, after, g⟩ w (.pointer (oC a (j * z))) w := TC hT.h hR hx hy rfl hm hj
theorem tV {e : TypeId} {z m c : Nat} {kk : IntKind} {i : Int} {α : Type} {E : Enc α} {l : List α} [hT : Fct (eD P T) (some (e, z))] (hx : ev n ρ x = .slice a m c) (hR : Rd E w a l) (hy : ev n ρ y = .int kk i) (hi : 0 ≤ i) (hm : m = l.length) (hj : i.toNat < l.length) : Runs P n ρ ⟨d, .indexAddr T x y, t, pos, after, g⟩ w (.pointer (oC a (i.toNat * z))) w := TC hT.h hR hx hy (Int.toNat_of_nonneg hi).symm hm hj
theorem GQ {m : Nat} {kk : IntKind} {i : Int} [h : Fct (jD P T) (some (m, 1))] (hx : ev n ρ x = .pointer (some ⟨b, 0, none⟩)) (hy : ev n ρ y = .int kk i) (hi : 0 ≤ i) (hj : i.toNat < m) : Runs P n ρ ⟨d, .indexAddr T x y, t, pos, after, g⟩ w (.pointer (some ⟨b, i.toNat, none⟩)) w := IA h.h hx hy (Int.toNat_of_nonneg hi).symm hj (by omega)
theorem VN {m : Nat} {kk : IntKind} {i : Int} [h : Fct (jD P T) (some (m, 1))] (hx : ev n ρ x = .pointer (some ⟨b, off, none⟩)) (hy : ev n ρ y = .int kk i) (hi : 0 ≤ i) (hj : i.toNat < m) : Runs P n ρ ⟨d, .indexAddr T x y, t, pos, after, g⟩ w (.pointer (some ⟨b, off + i.toNat, none⟩)) w := IA h.h hx hy (Int.toNat_of_nonneg hi).symm hj (by omega)
theorem UN {m z : Nat} {kk : IntKind} {i : Int} [h : Fct (jD P T) (some (m, z))] (hx : ev n ρ x = .pointer (some ⟨b, 0, none⟩)) (hy : ev n ρ y = .int kk i) (hi : 0 ≤ i) (hj : i.toNat < m) : Runs P n ρ ⟨d, .indexAddr T x y, t, pos, after, g⟩ w (.pointer (some ⟨b, i.toNat * z, none⟩)) w := IA h.h hx hy (Int.toNat_of_nonneg hi).symm hj (by omega)
theorem TN {m z : Nat} {kk : IntKind} {i : Int} [h : Fct (jD P T) (some (m, z))] (hx : ev n ρ x = .pointer (some ⟨b, off, none⟩)) (hy : ev n ρ y = .int kk i) (hi : 0 ≤ i) (hj : i.toNat < m) : Runs P n ρ ⟨d, .indexAddr T x y, t, pos, after, g⟩ w (.pointer (some ⟨b, off + i.toNat * z, none⟩)) w := IA h.h hx hy (Int.toNat_of_nonneg hi).symm hj (by omega)
theorem sV {e : TypeId} {z m c : Nat} [h : Fct (eD P T) (some (e, z))] (hx : ev n ρ x = .slice a m c) : Runs P n ρ ⟨d, .call ⟨.builtin .len, #[x], #[T]⟩, t, pos, after, g⟩ w (i64 (m : Int)) w := VH h.h hx
theorem MW {k : IntKind} {xv : Value} [hT : Fct (P.underlying S) (some (.int k))] (hx : ev n ρ x = xv) : Runs P n ρ ⟨d, .makeInterface S x, t, pos, after, g⟩ w (.iface S xv) w := kT hT.h hx
theorem KS {S : TypeId} {xv : Value} [hT : Fct (xI P T) true] (hx : ev n ρ x = .iface S xv) (hy : ev n ρ y = .nilIface) : Runs P n ρ ⟨d, .binOp .neq T x y T', t, pos, after, g⟩ w (.bool true) w := oG hT.h hx hy
theorem RS {S : TypeId} {xv : Value} [hT : Fct (xI P T) true] (hx : ev n ρ x = .iface S xv) (hy : ev n ρ y = .nilIface) : Runs P n ρ ⟨d, .binOp .eql T x y T', t, pos, after, g⟩ w (.bool false) w := xJ hT.h hx hy
theorem JS {c : Value} [hT : Fct (xI P T) true] (hx : ev n ρ x = .nilIface) (hy : ev n ρ (.const c) = .nilIface) : Runs P n ρ ⟨d, .binOp .neq T x (.const c) T', t, pos, after, g⟩ w (.bool false) w := rE hT.h hx hy
theorem QS {c : Value} [hT : Fct (xI P T) true] (hx : ev n ρ x = .nilIface) (hy : ev n ρ (.const c) = .nilIface) : Runs P n ρ ⟨d, .binOp .eql T x (.const c) T', t, pos, after, g⟩ w (.bool true) w := vR hT.h hx hy
theorem SS {a : Int} [hs : Fct (P.underlying S) (some (.int .i64))] [hT : Fct (P.underlying T) (some (.int .u64))] (hx : ev n ρ x = i64 a) : Runs P n ρ ⟨d, .convert S T x, t, pos, after, g⟩ w (u64 (BitVec.ofInt 64 a)) w := zR hs.h hT.h hx
theorem VS {a : BitVec 64} [hs : Fct (P.underlying S) (some (.int .u64))] [hT : Fct (P.underlying T) (some (.int .i64))] (hx : ev n ρ x = u64 a) : Runs P n ρ ⟨d, .convert S T x, t, pos, after, g⟩ w (i64 a.toInt) w := RE hs.h hT.h hx
theorem wV {a : BitVec 8} [hs : Fct (P.underlying S) (some (.int .u8))] [hT : Fct (P.underlying T) (some (.int .i64))] (hx : ev n ρ x = u8 a) : Runs P n ρ ⟨d, .convert S T x, t, pos, after, g⟩ w (i64 (a.toNat : Int)) w := FU hs.h hT.h hx
theorem vV {a : Int} [hs : Fct (P.underlying S) (some (.int .i64))] [hT : Fct (P.underlying T) (some (.int .u8))] (hx : ev n ρ x = i64 a) : Runs P n ρ ⟨d, .convert S T x, t, pos, after, g⟩ w (u8 (BitVec.ofInt 8 a)) w := EU hs.h hT.h hx
theorem US {a : BitVec 8} [hs : Fct (P.underlying S) (some (.int .u8))] [hT : Fct (P.underlying T) (some (.int .u64))] (hx : ev n ρ x = u8 a) : Runs P n ρ ⟨d, .convert S T x, t, pos, after, g⟩ w (u64 (a.setWidth 64)) w := AR hs.h hT.h hx
theorem WS {a : BitVec 64} [hs : Fct (P.underlying S) (some (.int .u64))] [hT : Fct (P.underlying T) (some (.int .u8))] (hx : ev n ρ x = u64 a) : Runs P n ρ ⟨d, .convert S T x, t, pos, after, g⟩ w (u8 (a.setWidth 8)) w := BR hs.h hT.h hx
theorem OW {α : Type} {E : Enc α} {l : List α} {j k : Nat} {v : α} (hx : ev n ρ x = .pointer (oC a (j * k))) {f : α → Value} (hR : Rd E w a l) (hF : Fit P T E) (hd : Dft E v) (hf : ValAs E f) (hk : k = E.s) (hj : j < l.length) : Runs P n ρ ⟨d, .load T x, t, pos, after, g⟩ w (f (l.getD j v)) w := hf.h _ ▸ AD hF.h hR hx (by rw [hk]) (QA hj)
theorem PW {α : Type} {E : Enc α} {l : List α} {j : Nat} {v : α} (hx : ev n ρ x = .pointer (some ⟨b, j, none⟩)) (h : w.heap[b]? = some (.cells (uA E l).toArray X fr)) {f : α → Value} (hF : Fit P T E) (hd : Dft E v) (hf : ValAs E f) (hE : E.s = 1) (hj : j < l.length) : Runs P n ρ ⟨d, .load T x, t, pos, after, g⟩ w (f (l.getD j v)) w := hf.h _ ▸ BD hF.h h (QA hj) hE hx
inductive NthL {α : Type} (v : α) : List α → Nat → Prop
 |here {l : List α} : NthL v (v :: l) 0
 |there {a : α} {l : List α} {i : Nat} (h : NthL v l i) : NthL v (a :: l) (i + 1)
theorem NthL.eq {α : Type} {v : α} {l : List α} {i : Nat} (h : NthL v l i) : l[i]? = some v := by
 induction h with
 |here => rfl
 |there _ ih => simpa using ih
theorem NW {α : Type} {E : Enc α} {l : List α} {j : Nat} {v : α} (hx : ev n ρ x = .pointer (some ⟨b, j, none⟩)) (h : w.heap[b]? = some (.cells (uA E l).toArray X fr)) {f : α → Value} (hj : NthL v l j) (hF : Fit P T E) (hf : ValAs E f) (hE : E.s = 1) : Runs P n ρ ⟨d, .load T x, t, pos, after, g⟩ w (f v) w := hf.h _ ▸ BD hF.h h hj.eq hE hx
theorem KQ {α : Type} {E : Enc α} {l : List α} {k o z f : Nat} {U : TypeId} [hf : Fct (TB P S f) (some (o, z, U))] (hx : ev n ρ x = .pointer (oC a k)) (hz : z ≠ 0) (hR : Rd E w a l) (hl : 0 < l.length) : Runs P n ρ ⟨d, .fieldAddr S x f, t, pos, after, g⟩ w (.pointer (oC a (k + o))) w := mP hf.h hz hR hl hx rfl
inductive IsTv : Bool → Prop | mk : IsTv true
inductive IsFv : Bool → Prop | mk : IsFv false
theorem HS {c : Operand} {b : Bool} {u : Value} (hc : ev n ρ c = .bool b) (hb : IsTv b) (hx : ev n ρ x = u) : Runs P n ρ ⟨d, .pick c x y, t, pos, after, g⟩ w u w := by cases hb; exact bC hc hx
theorem IS {c : Operand} {b : Bool} {v : Value} (hc : ev n ρ c = .bool b) (hb : IsFv b) (hy : ev n ρ y = v) : Runs P n ρ ⟨d, .pick c x y, t, pos, after, g⟩ w v w := by cases hb; exact WB hc hy
theorem qV {b : Bool} (hx : ev n ρ x = .bool b) (hb : IsTv b) : Runs P n ρ ⟨d, .unOp .not T x, t, pos, after, g⟩ w (.bool false) w := by cases hb; exact sU hx
theorem rV {b : Bool} (hx : ev n ρ x = .bool b) (hb : IsFv b) : Runs P n ρ ⟨d, .unOp .not T x, t, pos, after, g⟩ w (.bool true) w := by cases hb; exact tU hx
theorem PQ {X : Array Value} {T2 : TypeId} {fr : Nat × Nat} {pl : Array (Nat × Nat)} [hz : ZerO P T (.cells X T2 fr)] [hu : Fct (JI P T) (some pl)] : Runs P n ρ ⟨d, .build T #[], t, pos, after, g⟩ w (.agg X) w := by
 obtain ⟨z, h1, h2⟩ := hz.h
 exact QE h1 hu.h (ps := []) rfl (by cases h2; rfl)
theorem YN {X : Array Value} {T2 : TypeId} {fr : Nat × Nat} {m s : Nat} [hz : ZerO P T (.cells X T2 fr)] [ha : Fct (jD P T) (some (m, s))] : Runs P n ρ ⟨d, .build T #[], t, pos, after, g⟩ w (.agg X) w := by
 obtain ⟨z, h1, h2⟩ := hz.h
 exact pG h1 ha.h (ps := []) rfl (by cases h2; rfl)
theorem OQ {α : Type} {E : Enc α} {parts : List (Nat × Operand)} {z : Value} {ps : List (Nat × Value)} {m s : Nat} {l : List α} [hz : Fct (YB P T) (some z)] [ha : Fct (jD P T) (some (m, s))] [hE : ArrE α P T E] (hp : (parts.map fun q => (q.1, ev n ρ q.2)) = ps) (hl : EncP E ps l) (hf : Instr.fill (fun i => some (i * s, s)) z.cells ps = some (uA E l).toArray) : Runs P n ρ ⟨d, .build T parts.toArray, t, pos, after, g⟩ w (.agg (uA E l).toArray) w := pG hz.h ha.h hp hf
theorem NQ {parts : List (Nat × Operand)} {z : Value} {ps : List (Nat × Value)} {m s : Nat} {l l' : LV} [hz : Fct (YB P T) (some z)] [ha : Fct (jD P T) (some (m, s))] (hp : (parts.map fun q => (q.1, ev n ρ q.2)) = ps) (hl : z.cells = l.toArray) (hf : FillL (fun i => some (i * s, s)) ps l l') : Runs P n ρ ⟨d, .build T parts.toArray, t, pos, after, g⟩ w (.agg l'.toArray) w := pG hz.h ha.h hp (by rw [hl]; exact hf.eq)
theorem MQ {parts : List (Nat × Operand)} {z : Value} {ps : List (Nat × Value)} {pl : Array (Nat × Nat)} {l l' : LV} [hz : Fct (YB P T) (some z)] [hu : Fct (JI P T) (some pl)] (hp : (parts.map fun q => (q.1, ev n ρ q.2)) = ps) (hl : z.cells = l.toArray) (hf : FillL (pl[·]?) ps l l') : Runs P n ρ ⟨d, .build T parts.toArray, t, pos, after, g⟩ w (.agg l'.toArray) w := QE hz.h hu.h hp (by rw [hl]; exact hf.eq)
theorem XN {l : LV} {i : Nat} {v : Value} (hx : ev n ρ x = .tuple l.toArray) (hv : l[i]? = some v) : Runs P n ρ ⟨d, .extract x i, t, pos, after, g⟩ w v w := kN hx (by simpa using hv)
end
section
variable {P : Program} {n : Nat} {ρ : TA} {w w' : World} {v : Value} {d : Option Nat} {t T S : TypeId} {pos : String} {after : Array Edge} {g : Option (Nat × Bool)} {x y z : Operand} {f : Nat} {pz : Array (Nat × Operand)} {uo : UnOp}
theorem UQ (h : Runs P n ρ ⟨d, .move x, t, pos, after, g⟩ w v w') : Runs P n ρ ⟨d, .move x, t, pos, after, g⟩ w v w' := h
theorem UM (h : Runs P n ρ ⟨d, .assign x, t, pos, after, g⟩ w v w') : Runs P n ρ ⟨d, .assign x, t, pos, after, g⟩ w v w' := h
theorem eO (h : Runs P n ρ ⟨d, .fieldAddr S x f, t, pos, after, g⟩ w v w') : Runs P n ρ ⟨d, .fieldAddr S x f, t, pos, after, g⟩ w v w' := h
theorem VQ (h : Runs P n ρ ⟨d, .load T x, t, pos, after, g⟩ w v w') : Runs P n ρ ⟨d, .load T x, t, pos, after, g⟩ w v w' := h
theorem dO (h : Runs P n ρ ⟨d, .indexAddr T x y, t, pos, after, g⟩ w v w') : Runs P n ρ ⟨d, .indexAddr T x y, t, pos, after, g⟩ w v w' := h
theorem yO (h : Runs P n ρ ⟨d, .binOp .add T x y S, t, pos, after, g⟩ w v w') : Runs P n ρ ⟨d, .binOp .add T x y S, t, pos, after, g⟩ w v w' := h
theorem jO (h : Runs P n ρ ⟨d, .binOp .sub T x y S, t, pos, after, g⟩ w v w') : Runs P n ρ ⟨d, .binOp .sub T x y S, t, pos, after, g⟩ w v w' := h
theorem qO (h : Runs P n ρ ⟨d, .binOp .mul T x y S, t, pos, after, g⟩ w v w') : Runs P n ρ ⟨d, .binOp .mul T x y S, t, pos, after, g⟩ w v w' := h
theorem rO (h : Runs P n ρ ⟨d, .binOp .lss T x y S, t, pos, after, g⟩ w v w') : Runs P n ρ ⟨d, .binOp .lss T x y S, t, pos, after, g⟩ w v w' := h
theorem wO (h : Runs P n ρ ⟨d, .binOp .eql T x y S, t, pos, after, g⟩ w v w') : Runs P n ρ ⟨d, .binOp .eql T x y S, t, pos, after, g⟩ w v w' := h
theorem uO (h : Runs P n ρ ⟨d, .binOp .gtr T x y S, t, pos, after, g⟩ w v w') : Runs P n ρ ⟨d, .binOp .gtr T x y S, t, pos, after, g⟩ w v w' := h
theorem pO (h : Runs P n ρ ⟨d, .binOp .neq T x y S, t, pos, after, g⟩ w v w') : Runs P n ρ ⟨d, .binOp .neq T x y S, t, pos, after, g⟩ w v w' := h
theorem vO (h : Runs P n ρ ⟨d, .binOp .geq T x y S, t, pos, after, g⟩ w v w') : Runs P n ρ ⟨d, .binOp .geq T x y S, t, pos, after, g⟩ w v w' := h
theorem tO (h : Runs P n ρ ⟨d, .binOp .leq T x y S, t, pos, after, g⟩ w v w') : Runs P n ρ ⟨d, .binOp .leq T x y S, t, pos, after, g⟩ w v w' := h
theorem iO (h : Runs P n ρ ⟨d, .binOp .xor T x y S, t, pos, after, g⟩ w v w') : Runs P n ρ ⟨d, .binOp .xor T x y S, t, pos, after, g⟩ w v w' := h
theorem xO (h : Runs P n ρ ⟨d, .binOp .and T x y S, t, pos, after, g⟩ w v w') : Runs P n ρ ⟨d, .binOp .and T x y S, t, pos, after, g⟩ w v w' := h
theorem XQ (h : Runs P n ρ ⟨d, .binOp .or T x y S, t, pos, after, g⟩ w v w') : Runs P n ρ ⟨d, .binOp .or T x y S, t, pos, after, g⟩ w v w' := h
theorem lO (h : Runs P n ρ ⟨d, .binOp .shl T x y S, t, pos, after, g⟩ w v w') : Runs P n ρ ⟨d, .binOp .shl T x y S, t, pos, after, g⟩ w v w' := h
theorem kO (h : Runs P n ρ ⟨d, .binOp .shr T x y S, t, pos, after, g⟩ w v w') : Runs P n ρ ⟨d, .binOp .shr T x y S, t, pos, after, g⟩ w v w' := h
theorem mO (h : Runs P n ρ ⟨d, .binOp .rem T x y S, t, pos, after, g⟩ w v w') : Runs P n ρ ⟨d, .binOp .rem T x y S, t, pos, after, g⟩ w v w' := h
theorem oO (h : Runs P n ρ ⟨d, .binOp .quo T x y S, t, pos, after, g⟩ w v w') : Runs P n ρ ⟨d, .binOp .quo T x y S, t, pos, after, g⟩ w v w' := h
theorem TQ (h : Runs P n ρ ⟨d, .pick x y z, t, pos, after, g⟩ w v w') : Runs P n ρ ⟨d, .pick x y z, t, pos, after, g⟩ w v w' := h
theorem SQ (h : Runs P n ρ ⟨d, .unOp uo T x, t, pos, after, g⟩ w v w') : Runs P n ρ ⟨d, .unOp uo T x, t, pos, after, g⟩ w v w' := h
theorem gO (h : Runs P n ρ ⟨d, .build T pz, t, pos, after, g⟩ w v w') : Runs P n ρ ⟨d, .build T pz, t, pos, after, g⟩ w v w' := h
theorem WQ (h : Runs P n ρ ⟨d, .convert S T x, t, pos, after, g⟩ w v w') : Runs P n ρ ⟨d, .convert S T x, t, pos, after, g⟩ w v w' := h
end
theorem ru {R : Prop} (h : R := by first
 |with_reducible apply UQ
  first
   |with_reducible apply vmvP
    rfl
   |with_reducible apply vmvS
    rfl
   |with_reducible apply vmvW
    rfl
   |with_reducible apply vmvY
    rfl
   |with_reducible apply vmvX
    rfl
   |with_reducible apply VT
    rfl
    rfl
   |with_reducible apply IV
    rfl
    rfl
   |with_reducible apply WT
    rfl
    rfl
   |with_reducible apply vmvG
    rfl
   |with_reducible apply vmvI
    rfl
   |with_reducible apply vmvB
    rfl
   |with_reducible apply vmvA
    rfl
   |with_reducible apply vmvF
    rfl
   |with_reducible apply vmvN
    rfl
   |with_reducible apply vmvT
    rfl
   |with_reducible apply CA
    rfl
 |with_reducible apply UM
  first
   |with_reducible apply vavP
    rfl
   |with_reducible apply vavS
    rfl
   |with_reducible apply vavW
    rfl
   |with_reducible apply vavY
    rfl
   |with_reducible apply vavX
    rfl
   |with_reducible apply XT
    rfl
    rfl
   |with_reducible apply JV
    rfl
    rfl
   |with_reducible apply YT
    rfl
    rfl
   |with_reducible apply vavG
    rfl
   |with_reducible apply vavI
    rfl
   |with_reducible apply vavB
    rfl
   |with_reducible apply vavA
    rfl
   |with_reducible apply vavF
    rfl
   |with_reducible apply vavN
    rfl
   |with_reducible apply vavT
    rfl
   |with_reducible apply zA
    rfl
 |with_reducible apply wB
  rfl
 |with_reducible apply eO
  first
   |with_reducible apply LQ
    rfl
    decide
   |with_reducible apply PS
    rfl
    decide
   |with_reducible apply KQ
    rfl
    decide
    exact IC
    first | omega | (simp only [List.length_set]; omega) | exact Nat.le_of_ble_eq_true rfl | exact BitVec.isLt _ | (simp <;> omega)
 |with_reducible apply XN
  rfl
  rfl
 |with_reducible apply VQ
  first
   |with_reducible apply MS
    rfl
    exact gF
    rfl
   |with_reducible apply NW
    rfl
    exact gF
    ((repeat (first | with_reducible exact NthL.here | with_reducible apply NthL.there)) <;> fail)
    infer_instance
    infer_instance
    rfl
   |with_reducible apply PW
    rfl
    exact gF
    infer_instance
    infer_instance
    infer_instance
    rfl
    first | omega | (simp only [List.length_set]; omega) | exact Nat.le_of_ble_eq_true rfl | exact BitVec.isLt _ | (simp <;> omega)
   |with_reducible apply LS
    rfl
    exact gF
    first | (show _ * 1 = _; omega) | (show _ * 1 = _; simp only [List.length_set]; omega) | rfl | (show _ * 1 = _; simp; omega)
   |with_reducible apply NS
    rfl
    exact gF
    (repeat (first | with_reducible exact TakL.nil | with_reducible apply TakL.cons | with_reducible apply DrpL.here | with_reducible apply DrpL.there)) <;> fail
   |with_reducible apply OW
    rfl
    exact IC
    infer_instance
    infer_instance
    infer_instance
    rfl
    first | omega | (simp only [List.length_set]; omega) | exact Nat.le_of_ble_eq_true rfl | exact BitVec.isLt _ | (simp <;> omega)
 |with_reducible apply dO
  first
   |with_reducible apply WN
    rfl
    rfl
    first | omega | (simp only [List.length_set]; omega) | exact Nat.le_of_ble_eq_true rfl | exact BitVec.isLt _ | (simp <;> omega)
   |with_reducible apply IQ
    rfl
    rfl
    first | omega | (simp only [List.length_set]; omega) | exact Nat.le_of_ble_eq_true rfl | exact BitVec.isLt _ | (simp <;> omega)
   |with_reducible apply JQ
    rfl
    rfl
    first | omega | (simp only [List.length_set]; omega) | exact Nat.le_of_ble_eq_true rfl | exact BitVec.isLt _ | (simp <;> omega)
   |with_reducible apply OS
    rfl
    rfl
    first | omega | (simp only [List.length_set]; omega) | exact Nat.le_of_ble_eq_true rfl | exact BitVec.isLt _ | (simp <;> omega)
   |with_reducible apply uV
    rfl
    exact IC
    rfl
    first | rfl | omega | (simp; omega)
    first | omega | (simp only [List.length_set]; omega) | exact Nat.le_of_ble_eq_true rfl | exact BitVec.isLt _ | (simp <;> omega)
   |with_reducible apply tV
    rfl
    exact IC
    rfl
    omega
    first | rfl | omega | (simp; omega)
    first | omega | (simp only [List.length_set]; omega) | exact Nat.le_of_ble_eq_true rfl | exact BitVec.isLt _ | (simp <;> omega)
   |with_reducible apply GQ
    rfl
    rfl
    omega
    omega
   |with_reducible apply VN
    rfl
    rfl
    omega
    omega
   |with_reducible apply UN
    rfl
    rfl
    omega
    omega
   |with_reducible apply TN
    rfl
    rfl
    omega
    omega
 |with_reducible apply sV
  rfl
 |with_reducible apply yO
  first
   |with_reducible apply aB
    rfl
    rfl
    omega
   |with_reducible apply yR
    first | rfl | exact BB rfl rfl
    first | rfl | exact BB rfl rfl
   |with_reducible apply DU
    first | rfl | exact zC rfl rfl
    first | rfl | exact zC rfl rfl
 |with_reducible apply jO
  first
   |with_reducible apply UG
    rfl
    rfl
    omega
   |with_reducible apply tJ
    first | rfl | exact BB rfl rfl
    first | rfl | exact BB rfl rfl
   |with_reducible apply lU
    first | rfl | exact zC rfl rfl
    first | rfl | exact zC rfl rfl
 |with_reducible apply qO
  first
   |with_reducible apply KB
    rfl
    rfl
    omega
   |with_reducible apply pR
    first | rfl | exact BB rfl rfl
    first | rfl | exact BB rfl rfl
   |with_reducible apply uU
    first | rfl | exact zC rfl rfl
    first | rfl | exact zC rfl rfl
 |with_reducible apply rO
  first
   |with_reducible apply KC
    rfl
    rfl
   |with_reducible apply OE
    first | rfl | exact BB rfl rfl
    first | rfl | exact BB rfl rfl
   |with_reducible apply wU
    first | rfl | exact zC rfl rfl
    first | rfl | exact zC rfl rfl
 |with_reducible apply wO
  first
   |with_reducible apply iB
    rfl
    rfl
   |with_reducible apply VD
    first | rfl | exact BB rfl rfl
    first | rfl | exact BB rfl rfl
   |with_reducible apply BU
    first | rfl | exact zC rfl rfl
    first | rfl | exact zC rfl rfl
   |with_reducible apply RS
    rfl
    rfl
   |with_reducible apply QS
    rfl
    rfl
 |with_reducible apply uO
  first
   |with_reducible apply UC
    rfl
    rfl
   |with_reducible apply rR
    first | rfl | exact BB rfl rfl
    first | rfl | exact BB rfl rfl
   |with_reducible apply yU
    first | rfl | exact zC rfl rfl
    first | rfl | exact zC rfl rfl
 |with_reducible apply pO
  first
   |with_reducible apply qD
    rfl
    rfl
   |with_reducible apply vJ
    first | rfl | exact BB rfl rfl
    first | rfl | exact BB rfl rfl
   |with_reducible apply UH
    first | rfl | exact zC rfl rfl
    first | rfl | exact zC rfl rfl
   |with_reducible apply JS
    rfl
    rfl
   |with_reducible apply KS
    rfl
    rfl
 |with_reducible apply vO
  first
   |with_reducible apply WG
    rfl
    rfl
   |with_reducible apply tR
    first | rfl | exact BB rfl rfl
    first | rfl | exact BB rfl rfl
   |with_reducible apply zU
    first | rfl | exact zC rfl rfl
    first | rfl | exact zC rfl rfl
 |with_reducible apply tO
  first
   |with_reducible apply jP
    rfl
    rfl
   |with_reducible apply qR
    first | rfl | exact BB rfl rfl
    first | rfl | exact BB rfl rfl
   |with_reducible apply xU
    first | rfl | exact zC rfl rfl
    first | rfl | exact zC rfl rfl
 |with_reducible apply iO
  first
   |with_reducible apply iR
    first | rfl | exact BB rfl rfl
    first | rfl | exact BB rfl rfl
   |with_reducible apply kU
    first | rfl | exact zC rfl rfl
    first | rfl | exact zC rfl rfl
 |with_reducible apply xO
  first
   |with_reducible apply qG
    first | rfl | exact BB rfl rfl
    first | rfl | exact BB rfl rfl
   |with_reducible apply CU
    first | rfl | exact zC rfl rfl
    first | rfl | exact zC rfl rfl
 |with_reducible apply XQ
  first
   |with_reducible apply rU
    first | rfl | exact BB rfl rfl
    first | rfl | exact BB rfl rfl
   |with_reducible apply VV
    first | rfl | exact zC rfl rfl
    first | rfl | exact zC rfl rfl
 |with_reducible apply lO
  first
   |with_reducible apply VL
    first | rfl | exact BB rfl rfl
    rfl
   |with_reducible apply oU
    first | rfl | exact zC rfl rfl
    rfl
 |with_reducible apply kO
  first
   |with_reducible apply jR
    first | rfl | exact BB rfl rfl
    rfl
   |with_reducible apply nU
    first | rfl | exact zC rfl rfl
    rfl
 |with_reducible apply mO
  first
   |with_reducible apply uJ
    first | rfl | exact BB rfl rfl
    first | rfl | exact BB rfl rfl
    decide
   |with_reducible apply pU
    rfl
    rfl
    omega
 |with_reducible apply oO
  first
   |with_reducible apply kR
    first | rfl | exact BB rfl rfl
    first | rfl | exact BB rfl rfl
    decide
   |with_reducible apply qU
    rfl
    rfl
    omega
 |with_reducible apply TQ
  first
   |with_reducible apply HS
    rfl
    with_reducible exact IsTv.mk
    rfl
   |with_reducible apply IS
    rfl
    with_reducible exact IsFv.mk
    rfl
 |with_reducible apply SQ
  first
   |with_reducible apply qV
    rfl
    with_reducible exact IsTv.mk
   |with_reducible apply rV
    rfl
    with_reducible exact IsFv.mk
   |with_reducible apply WL
    rfl
 |with_reducible apply gO
  first
   |with_reducible apply PQ
   |with_reducible apply YN
   |with_reducible apply OQ
    rfl
    ((repeat (first | exact EncP.nil | (apply EncP.cons; rfl))) <;> fail)
    rfl
   |with_reducible apply NQ
    rfl
    rfl
    ((repeat (first | exact FillL.nil | (apply FillL.cons; rfl; exact vE; rfl; rfl; ((repeat (first | exact PutL.nil | apply PutL.here | apply PutL.there)) <;> fail)))) <;> fail)
   |with_reducible apply MQ
    rfl
    rfl
    ((repeat (first | exact FillL.nil | (apply FillL.cons; rfl; exact vE; rfl; rfl; ((repeat (first | exact PutL.nil | apply PutL.here | apply PutL.there)) <;> fail)))) <;> fail)
 |with_reducible apply MW
  rfl
 |with_reducible apply WQ
  first
   |with_reducible apply SS
    rfl
   |with_reducible apply VS
    rfl
   |with_reducible apply wV
    rfl
   |with_reducible apply vV
    rfl
   |with_reducible apply US
    rfl
   |with_reducible apply WS
    rfl
 |with_reducible apply vU
  rfl
  rfl
 |with_reducible apply hP
  rfl
  rfl) : R := h
theorem yes {P : Program} {n : Nat} {ρ : TA} {o : Oper} {w w' : World} {p : Prop} {_ : Decidable p} (h : Runs P n ρ o w (.bool (decide p)) w') (hp : p := by omega) : Runs P n ρ o w (.bool true) w' := h.as (congrArg Value.bool (decide_eq_true hp))
theorem no {P : Program} {n : Nat} {ρ : TA} {o : Oper} {w w' : World} {p : Prop} {_ : Decidable p} (h : Runs P n ρ o w (.bool (decide p)) w') (hp : ¬ p := by omega) : Runs P n ρ o w (.bool false) w' := h.as (congrArg Value.bool (decide_eq_false hp))
theorem vNP {v : Value} {p : Option Addr} (h : v = .pointer p) : v = .pointer p := h
theorem vNS {v : Value} {p : Option Addr} {m c : Nat} (h : v = .slice p m c) : v = .slice p m c := h
theorem vNW {v : Value} {i : BitVec 64} (h : v = u64 i) : v = u64 i := h
theorem vNY {v : Value} {i : BitVec 8} (h : v = u8 i) : v = u8 i := h
theorem vNX {v : Value} {i : BitVec 32} (h : v = u32 i) : v = u32 i := h
theorem vNG {v : Value} {i : Int} (h : v = i64 i) : v = i64 i := h
theorem vNI {v : Value} {kk : IntKind} {i : Int} (h : v = .int kk i) : v = .int kk i := h
theorem vNB {v : Value} {c : Bool} (h : v = .bool c) : v = .bool c := h
theorem vNA {v : Value} {cs : Array Value} (h : v = .agg cs) : v = .agg cs := h
theorem vNF {v : Value} {T : TypeId} {u : Value} (h : v = .iface T u) : v = .iface T u := h
theorem vNN {v : Value}  (h : v = .nilIface) : v = .nilIface := h
theorem vNT {v : Value} {cs : Array Value} (h : v = .tuple cs) : v = .tuple cs := h
theorem KV {v : Value} {k : Nat} (h : v = .int .u64 (@OfNat.ofNat Int k instOfNat)) (hk : Nat.blt k 18446744073709551616 = true) : v = u64 (BitVec.ofNat 64 k) := by
 rw [h]
 have hk2 : k < 18446744073709551616 := by simpa [Nat.blt_eq] using hk
 show Value.int .u64 (k : Int) = Value.int .u64 ((BitVec.ofNat 64 k).toNat : Int)
 rw [BitVec.toNat_ofNat, Nat.mod_eq_of_lt (by omega)]
theorem vNl8 {v : Value} {k : Nat} (h : v = .int .u8 (@OfNat.ofNat Int k instOfNat)) (hk : Nat.blt k 256 = true) : v = u8 (BitVec.ofNat 8 k) := by
 rw [h]
 have hk2 : k < 256 := by simpa [Nat.blt_eq] using hk
 show Value.int .u8 (k : Int) = Value.int .u8 ((BitVec.ofNat 8 k).toNat : Int)
 rw [BitVec.toNat_ofNat, Nat.mod_eq_of_lt (by omega)]
theorem MV {v : Value} {k : Nat} (h : v = .int .u32 (@OfNat.ofNat Int k instOfNat)) (hk : Nat.blt k 4294967296 = true) : v = u32 (BitVec.ofNat 32 k) := by
 rw [h]
 have hk2 : k < 4294967296 := by simpa [Nat.blt_eq] using hk
 show Value.int .u32 (k : Int) = Value.int .u32 ((BitVec.ofNat 32 k).toNat : Int)
 rw [BitVec.toNat_ofNat, Nat.mod_eq_of_lt (by omega)]
theorem vE {v u : Value} (h : v = u := by first | exact vNP (by rfl) | exact vNS (by rfl) | exact vNW (by rfl) | exact vNY (by rfl) | exact vNX (by rfl) | exact KV (by rfl) (by rfl) | exact vNl8 (by rfl) (by rfl) | exact MV (by rfl) (by rfl) | exact vNG (by rfl) | exact vNI (by rfl) | exact vNB (by rfl) | exact vNA (by rfl) | exact vNF (by rfl) | exact vNN (by rfl) | exact vNT (by rfl) | rfl) : v = u := h
section
variable {P : Program} {n : Nat} {ops : Array Oper} {Q : Exit → Act → World → Prop} {ρ : TA} {w w₀ : World} {M : Nat → Prop} {L L' : List RW} {d : Option Nat} {t T : TypeId} {pos : String} {after : Array Edge} {rest : List Oper} {x y : Operand} {b off : Nat} {X : TypeId}
theorem vsR {id : Nat} {l : List Oper} {y : Code} (h : W P n l.toArray (Exit.then (y.wp P Q) Q) l ρ w) : (Code.seq (.region id l.toArray false) y).wp P Q (St n ρ) w := OG h
inductive IsT : Bool → Prop | mk : IsT true
inductive IsF : Bool → Prop | mk : IsF false
theorem vcT {c : Operand} {b : Bool} {x y : Code} (hc : ev n ρ c = .bool b) (hb : IsT b) (h : x.wp P Q (St n ρ) w) : (Code.cond c x y).wp P Q (St n ρ) w := by cases hb; exact GB hc h
theorem vcF {c : Operand} {b : Bool} {x y : Code} (hc : ev n ρ c = .bool b) (hb : IsF b) (h : y.wp P Q (St n ρ) w) : (Code.cond c x y).wp P Q (St n ρ) w := by cases hb; exact dE hc h
theorem vqT {op : Op} {v : Value} {w' : World} {j d' : Nat} {c : Bool} (hj : (ops[j]?).bind (·.dst) = some d') (hd : Nat.blt d' n = true) (hb : ρ d' = .bool c) (hw : IsT c) (hr : Runs P n ρ ⟨d, op, t, pos, after, some (j, true)⟩ w v w') (h : W P n ops Q rest (sB ρ d v) w') : W P n ops Q (⟨d, op, t, pos, after, some (j, true)⟩ :: rest) ρ w := by
 cases hw; exact LA (by rw [gA hj hd hb]; rfl) hr h
theorem vqF {op : Op} {v : Value} {w' : World} {j d' : Nat} {c : Bool} (hj : (ops[j]?).bind (·.dst) = some d') (hd : Nat.blt d' n = true) (hb : ρ d' = .bool c) (hw : IsF c) (hr : Runs P n ρ ⟨d, op, t, pos, after, some (j, false)⟩ w v w') (h : W P n ops Q rest (sB ρ d v) w') : W P n ops Q (⟨d, op, t, pos, after, some (j, false)⟩ :: rest) ρ w := by
 cases hw; exact LA (by rw [gA hj hd hb]; rfl) hr h
theorem vkT {op : Op} {j d' : Nat} {c : Bool} (hj : (ops[j]?).bind (·.dst) = some d') (hd : Nat.blt d' n = true) (hb : ρ d' = .bool c) (hw : IsF c) (h : W P n ops Q rest (sB ρ d undef) w) : W P n ops Q (⟨d, op, t, pos, after, some (j, true)⟩ :: rest) ρ w := by
 cases hw; exact cB (by rw [gA hj hd hb]; rfl) h
theorem vkF {op : Op} {j d' : Nat} {c : Bool} (hj : (ops[j]?).bind (·.dst) = some d') (hd : Nat.blt d' n = true) (hb : ρ d' = .bool c) (hw : IsT c) (h : W P n ops Q rest (sB ρ d undef) w) : W P n ops Q (⟨d, op, t, pos, after, some (j, false)⟩ :: rest) ρ w := by
 cases hw; exact cB (by rw [gA hj hd hb]; rfl) h
theorem vkU {op : Op} {j d' : Nat} {want : Bool} (hj : (ops[j]?).bind (·.dst) = some d') (hd : Nat.blt d' n = true) (hb : ρ d' = undef) (h : W P n ops Q rest (sB ρ d undef) w) : W P n ops Q (⟨d, op, t, pos, after, some (j, want)⟩ :: rest) ρ w :=
 cB (jK hj hd hb) h
theorem JJ {o : Obj} [hz : ZerO P T o] (H : Hp M w₀ w L) (h : ∀ b w', w.heap.size ≤ b → Hp M w₀ w' ((some b, o) :: L) → Ext w w' → W P n ops Q rest (sB ρ d (.pointer (some ⟨b, 0, none⟩))) w') : W P n ops Q (⟨d, .alloc T, t, pos, after, none⟩ :: rest) ρ w := by
 obtain ⟨z, h1, h2⟩ := hz.h
 exact CR H h1 h2 h
theorem UR {v : Value} {l : LV} (H : Hp M w₀ w L) (hx : ev n ρ x = v) (hl : v.cells = l.toArray) (h : ∀ b w', w.heap.size ≤ b → Hp M w₀ w' ((some b, .cells l.toArray T (0, 0)) :: L) → Ext w w' → W P n ops Q rest (sB ρ d (.pointer (some ⟨b, 0, none⟩))) w') : W P n ops Q (⟨d, .box T x, t, pos, after, none⟩ :: rest) ρ w :=
 nT H hx (by rw [hl]) h
theorem vG {α : Type} {E : Enc α} {l : List α} {v : α} {F : RW → List RW} [h2 : Fct (UB P T) (some 1)] (H : Hp M w₀ w L) (hx : ev n ρ x = .pointer (some ⟨b, off, none⟩)) (hL : SetF (some b) (.cells (uA E l).toArray X (0, 0)) L F) (hE : E.s = 1) (hy : ev n ρ y = E.val v) (ho : off < l.length)
  (h : ∀ w', Hp M w₀ w' (F (some b, .cells (uA E (l.set off v)).toArray X (0, 0))) → Chg (· = b) w w' → W P n ops Q rest ρ w') : W P n ops Q (⟨none, .store T x y, t, pos, after, none⟩ :: rest) ρ w := by
 obtain ⟨k, hk, e⟩ := hL.at
 refine GA H hk hx hy h2.h (by rw [E.hs, hE]) (E.one _) (by rw [List.size_toArray, oA, hE]; omega) (wI hE _ _ _) fun w' H' hC => h w' (by rw [← e]; exact H') hC
theorem zH {α : Type} {E : Enc α} {l l' : List α} {v : α} {F : RW → List RW} [h2 : Fct (UB P T) (some 1)] (H : Hp M w₀ w L) (hx : ev n ρ x = .pointer (some ⟨b, off, none⟩)) (hL : SetF (some b) (.cells (uA E l).toArray X (0, 0)) L F) (hE : E.s = 1) (hy : ev n ρ y = E.val v) (hl : SetL v l off l')
  (h : ∀ w', Hp M w₀ w' (F (some b, .cells (uA E l').toArray X (0, 0))) → Chg (· = b) w w' → W P n ops Q rest ρ w') : W P n ops Q (⟨none, .store T x y, t, pos, after, none⟩ :: rest) ρ w := by
 obtain ⟨rfl, ho⟩ := hl.eq
 exact vG H hx hL hE hy ho h
theorem AH {α : Type} {E : Enc α} {l l' : List α} {s : Nat} {F : RW → List RW} [h2 : Fct (UB P T) (some s)] (H : Hp M w₀ w L) (hx : ev n ρ x = .pointer (some ⟨b, 0, none⟩)) (hL : SetF (some b) (.cells (uA E l).toArray X (0, 0)) L F) (hy : ev n ρ y = .agg (uA E l').toArray) (ho : l.length * E.s = s) (ho' : l'.length * E.s = s)
  (h : ∀ w', Hp M w₀ w' (F (some b, .cells (uA E l').toArray X (0, 0))) → Chg (· = b) w w' → W P n ops Q rest ρ w') : W P n ops Q (⟨none, .store T x y, t, pos, after, none⟩ :: rest) ρ w := by
 obtain ⟨k, hk, e⟩ := hL.at
 have e2 : l.length = l'.length := Nat.eq_of_mul_eq_mul_right E.pos (by omega)
 exact GA H hk hx hy h2.h (HB ho') (fC _) (by rw [List.size_toArray, oA]; omega) (VC e2) fun w' H' hC => h w' (by rw [← e]; exact H') hC
theorem yH {l l' vs : LV} {v : Value} {s : Nat} {F : RW → List RW} [h2 : Fct (UB P T) (some s)] (H : Hp M w₀ w L) (hx : ev n ρ x = .pointer (some ⟨b, off, none⟩)) (hL : SetF (some b) (.cells l.toArray X (0, 0)) L F) (hy : ev n ρ y = v) (hv : v.cells = vs.toArray) (hl : PutL vs l off l') (hs : Nat.beq vs.length s = true) (h1 : (vs.all fun u => u.oneCell') = true)
  (h : ∀ w', Hp M w₀ w' (F (some b, .cells l'.toArray X (0, 0))) → Chg (· = b) w w' → W P n ops Q rest ρ w') : W P n ops Q (⟨none, .store T x y, t, pos, after, none⟩ :: rest) ρ w := by
 obtain ⟨k, hk, e⟩ := hL.at
 obtain ⟨e1, e2⟩ := hl.eq
 have hs' := Nat.eq_of_beq_eq_true hs
 exact GA (cs' := l'.toArray) H hk hx hy h2.h (by rw [hv]; simpa using hs') (by rw [hv]; intro u hu; exact List.all_eq_true.1 h1 u (by simpa using hu)) (by rw [List.size_toArray]; omega) (by rw [hv]; simpa using e1) fun w' H' hC => h w' (by rw [← e]; exact H') hC
theorem iM {α : Type} {E : Enc α} {l : List α} {j k c : Nat} {v : α} {key : Option Nat} {sp : LV} {F : RW → List RW} [h2 : Fct (UB P T) (some k)] (H : Hp M w₀ w L) (hx : ev n ρ x = .pointer (oC (sA key) (j * k))) (hL : SetF key (qA E X l sp) L F) (hS : Sl E key l c sp) (hk : k = E.s) (hy : ev n ρ y = E.val v) (hj : j < l.length)
  (h : ∀ w', Sl E key (l.set j v) c sp → Hp M w₀ w' (F (key, qA E X (l.set j v) sp)) → W P n ops Q rest ρ w') : W P n ops Q (⟨none, .store T x y, t, pos, after, none⟩ :: rest) ρ w := by
 obtain ⟨i, hi, e⟩ := hL.at
 subst hk
 exact mQ (a := l[j]) H hi hS hx rfl hy rfl h2.h (List.getElem?_eq_getElem hj) fun w' hS' H' => h w' hS' (by rw [← e]; exact H')
theorem IJ {α : Type} {E : Enc α} {l l2 : List α} {S T : TypeId} {s m c m2 c2 by' : Nat} {z : Value} {a2 : Option Addr} {key : Option Nat} {sp : LV} {F : RW → List RW} [hT : Fct (eD P S) (some (T, s))] [hz : Fct (YB P T) (some z)] [hby : Fct (ZF P T) (some by')] (H : Hp M w₀ w L) (hx : ev n ρ x = .slice (sA key) m c) (hL : SetF key (qA E T l sp) L F) (hS : Sl E key l c sp) (hy : ev n ρ y = .slice a2 m2 c2) (hR : Rd E w a2 l2) (hs : s = E.s) (hzs : z.cells.size = s)
  (hm : m = l.length) (hm2 : m2 = l2.length) (hb : (m + m2) * by' ≤ 140737488355328 ∧ m + m2 ≤ 140737488355328)
  (h : ∀ key' c' sp' w', Sl E key' (l ++ l2) c' sp' → (l2 ≠ [] → key' ≠ none) → Hp M w₀ w' (F (key', qA E T (l ++ l2) sp')) → W P n ops Q rest (sB ρ d (.slice (sA key') (m + m2) c')) w') :
  W P n ops Q (⟨d, .call ⟨.builtin .append, #[x, y], #[S, S]⟩, t, pos, after, none⟩ :: rest) ρ w := by
 obtain ⟨k, hk, e⟩ := hL.at
 subst hs
 exact uK H hk hS hT.h hz.h hzs hby.h hR hx hm hy hm2 hb fun key' c' sp' w' h1 h2 h3 => h key' c' sp' w' h1 h2 (by rw [← e]; exact h3)
theorem tT {α : Type} {E : Enc α} {l l2 : List α} {S T : TypeId} {s m c m2 c2 by' : Nat} {z : Value} {a2 : Option Addr} {key : Option Nat} {sp : LV} {F : RW → List RW} [hT : Fct (eD P S) (some (T, s))] [hz : Fct (YB P T) (some z)] [hby : Fct (ZF P T) (some by')] (H : Hp M w₀ w L) (hx : ev n ρ x = .slice (sA key) m c) (hL : SetF key (qA E T l sp) L F) (hS : Sl E key l c sp) (hy : ev n ρ y = .slice a2 m2 c2) (hR : Rd E w a2 l2) (hs : s = E.s) (hzs : z.cells.size = s)
  (h : m = l.length ∧ m2 = l2.length ∧ ((m + m2) * by' ≤ 140737488355328 ∧ m + m2 ≤ 140737488355328) ∧ ∀ key' c' sp' w', Sl E key' (l ++ l2) c' sp' → (l2 ≠ [] → key' ≠ none) → Hp M w₀ w' (F (key', qA E T (l ++ l2) sp')) → W P n ops Q rest (sB ρ d (.slice (sA key') (m + m2) c')) w') :
  W P n ops Q (⟨d, .call ⟨.builtin .append, #[x, y], #[S, S]⟩, t, pos, after, none⟩ :: rest) ρ w := IJ H hx hL hS hy hR hs hzs h.1 h.2.1 h.2.2.1 h.2.2.2
theorem bS {α : Type} {E : Enc α} {l : List α} {S T : TypeId} {s m : Nat} {z : Value} {parts : List (Nat × Operand)} {ps : List (Nat × Value)} [hT : Fct (eD P S) (some (T, s))] [hz : Fct (YB P T) (some z)] (h : ∀ b w', Sl E (some b) l m [] → Hp M w₀ w' ((some b, qA E T l []) :: L) → Ext w w' → W P n ops Q rest (sB ρ d (.slice (sA (some b)) m m)) w')
  (H : Hp M w₀ w L := by exact kD) (hs : s = E.s := by rfl) (hp : (parts.map fun q => (q.1, ev n ρ q.2)) = ps := by rfl) (hm : m = l.length := by rfl) (hps : ps = l.zipIdx.map fun p => (p.2, E.val p.1) := by rfl) (hb : Nat.ble (m * s) 16777216 = true := by rfl) :
  W P n ops Q (⟨d, .buildSlice S m parts.toArray, t, pos, after, none⟩ :: rest) ρ w := by
 subst hs
 exact zJ H hT.h hz.h (Nat.le_of_ble_eq_true hb) (by simpa using hp) (lS hm hps) hm h
theorem cl {f : FuncId} {xs : List Operand} {ats : Array TypeId} {vs : LV} {R : Value → World → Prop} [hf : Fct (mA P f) true] (hc : Calls P f vs.toArray w fun e w' => ∃ v, e = .returned v ∧ R v w') (h : ∀ v w', R v w' → W P n ops Q rest (sB ρ d v) w') (ha : xs.map (ev n ρ) = vs := by rfl) :
  W P n ops Q (⟨d, .call ⟨.value (.func f), xs.toArray, ats⟩, t, pos, after, none⟩ :: rest) ρ w := wQ hf.h ha hc h
theorem asN {o : Oper} {w' : World} {z : Int} (k : Nat) (h : Runs P n ρ o w (i64 z) w') (e : z = (k : Int) := by omega) : Runs P n ρ o w (i64 (k : Int)) w' := h.as (congrArg i64 e)
inductive ResO (P : Program) (n : Nat) (ρ : TA) (w : World) : List ResultVar → LV → Prop
 |nil : ResO P n ρ w [] []
 |tmp {t : Nat} {v : Value} {rs : List ResultVar} {vs : LV} (h1 : Nat.blt t n = true) (h2 : ρ t = v) (h : ResO P n ρ w rs vs) : ResO P n ρ w (.tmp t :: rs) (v :: vs)
 |cell {a : Nat} {T : TypeId} {v : Value} {rs : List ResultVar} {vs : LV} (h1 : Runs P n ρ ⟨none, .load T (.tmp a), 0, "", #[], none⟩ w v w) (h : ResO P n ρ w rs vs) : ResO P n ρ w (.cell a T :: rs) (v :: vs)
theorem ResO.ok {rs : List ResultVar} {vs : LV} (h : ResO P n ρ w rs vs) : tI P n ρ w rs vs := by
 induction h with
 |nil => trivial
 |tmp h1 h2 _ ih => exact ⟨⟨h1, h2⟩, ih⟩
 |cell h1 _ ih => exact ⟨h1, ih⟩
theorem cT {rs : List ResultVar} {vs : LV} (h : ResO P n ρ w rs vs := by (repeat (first | exact ResO.nil | (apply ResO.tmp; rfl; exact vE) | (apply ResO.cell; exact ru))) <;> fail) : ResO P n ρ w rs vs := h
theorem eR {fn : Func} {R : Ending → World → Prop} {rs : List ResultVar} {vs : LV} (hr : fn.results = rs.toArray) (h : ResO P n ρ w rs vs) (hR : R (.returned (kL vs)) w) : bodyPost P fn R .ret (St n ρ) w := sK hr h.ok hR
theorem pS {fn : Func} {R : Ending → World → Prop} {rs : List ResultVar} {vs : LV} (hr : fn.results = rs.toArray) (h : ResO P n ρ w rs vs) (hR : R (.returned (kL vs)) w) : bodyPost P fn R .normal (St n ρ) w := endG hr h.ok hR
end
section
variable {P : Program} {m n : Nat} {ops : Array Oper} {Q : Exit → Act → World → Prop} {ρ : TA} {w : World} {d : Option Nat} {op : Op} {t T : TypeId} {x y : Operand} {pos : String} {after : Array Edge} {rest : List Oper} {gg : Nat × Bool} {c : Code} {a : Act} {fn : Func} {R : Ending → World → Prop} {e : Exit}
theorem vgN (h : Fu n (W P m ops Q (⟨d, op, t, pos, after, none⟩ :: rest) ρ w)) : Fu n (W P m ops Q (⟨d, op, t, pos, after, none⟩ :: rest) ρ w) := h
theorem vgG (h : Fu n (W P m ops Q (⟨d, op, t, pos, after, some gg⟩ :: rest) ρ w)) : Fu n (W P m ops Q (⟨d, op, t, pos, after, some gg⟩ :: rest) ρ w) := h
theorem vgE (h : Fu n (W P m ops Q [] ρ w)) : Fu n (W P m ops Q [] ρ w) := h
theorem vgC (h : Fu n (c.wp P Q a w)) : Fu n (c.wp P Q a w) := h
theorem vgR (h : Fu n (bodyPost P fn R e a w)) : Fu n (bodyPost P fn R e a w) := h
theorem kK (h : Fu n (W P m ops Q (⟨d, .store T x y, t, pos, after, none⟩ :: rest) ρ w)) : Fu n (W P m ops Q (⟨d, .store T x y, t, pos, after, none⟩ :: rest) ρ w) := h
theorem lK (h : Fu n (W P m ops Q (⟨d, .alloc T, t, pos, after, none⟩ :: rest) ρ w)) : Fu n (W P m ops Q (⟨d, .alloc T, t, pos, after, none⟩ :: rest) ρ w) := h
theorem cO (h : Fu n (W P m ops Q (⟨d, .box T x, t, pos, after, none⟩ :: rest) ρ w)) : Fu n (W P m ops Q (⟨d, .box T x, t, pos, after, none⟩ :: rest) ρ w) := h
end
theorem go (n : Nat) {K G : Prop} (k : K) (h : Kp K → Fu n G := by
 intro k
 repeat (first
  |with_reducible apply vgN
   first
    |with_reducible exact YQ k.out
    |refine PD (sq ru) ?_
    |with_reducible apply kK
     first
      |refine PD (zH kD (by rfl) YF (by rfl) (by rfl) (by (repeat (first | with_reducible exact SetL.here | with_reducible apply SetL.there)) <;> fail)) ?_
      |refine PD (vG kD (by rfl) YF (by rfl) (by rfl) (by first | omega | (simp only [List.length_set]; omega) | exact Nat.le_of_ble_eq_true rfl | exact BitVec.isLt _ | (simp <;> omega))) ?_
      |refine PD (AH kD (by rfl) YF (by rfl) (by first | (show _ * 1 = _; omega) | (show _ * 1 = _; simp only [List.length_set]; omega) | rfl | (show _ * 1 = _; simp; omega)) (by first | (show _ * 1 = _; omega) | (show _ * 1 = _; simp only [List.length_set]; omega) | rfl | (show _ * 1 = _; simp; omega))) ?_
      |refine PD (yH kD (by rfl) YF vE (by rfl) (by (repeat (first | with_reducible exact PutL.nil | with_reducible apply PutL.here | with_reducible apply PutL.there)) <;> fail) (by rfl) (by rfl)) ?_
      |refine PD (iM kD (by rfl) YF kD (by rfl) (by rfl) (by first | omega | (simp only [List.length_set]; omega) | exact Nat.le_of_ble_eq_true rfl | exact BitVec.isLt _ | (simp <;> omega))) ?_
    |with_reducible apply lK
     refine PD (JJ kD) ?_
    |with_reducible apply cO
     refine PD (UR kD vE (by rfl)) ?_
    |refine PD (IJ kD (by rfl) YF kD (by rfl) IC (by rfl) (by rfl) (by first | rfl | omega | (simp; omega)) (by first | rfl | omega | (simp; omega)) (by omega)) ?_
    |refine PD (IJ (key := none) kD (by rfl) YF kD (by rfl) IC (by rfl) (by rfl) (by first | rfl | omega | (simp; omega)) (by first | rfl | omega | (simp; omega)) (by omega)) ?_
  |with_reducible apply vgG
   first
    |refine BC (vkT (by rfl) (by rfl) (by rfl) (by with_reducible exact IsF.mk)) ?_
    |refine BC (vkF (by rfl) (by rfl) (by rfl) (by with_reducible exact IsT.mk)) ?_
    |refine BC (vkU (by rfl) (by rfl) (by rfl)) ?_
    |with_reducible exact YQ k.out
    |refine PD (vqT (by rfl) (by rfl) (by rfl) (by with_reducible exact IsT.mk) ru) ?_
    |refine PD (vqF (by rfl) (by rfl) (by rfl) (by with_reducible exact IsF.mk) ru) ?_
  |with_reducible apply vgE
   first
    |with_reducible refine BC jF ?_
    |with_reducible refine BC BE ?_
  |with_reducible apply vgC
   first
    |with_reducible refine BC vsR ?_
    |with_reducible refine BC PG ?_
    |with_reducible refine BC qI ?_
    |with_reducible refine BC ED ?_
    |with_reducible refine BC zF ?_
    |with_reducible refine BC EF ?_
    |with_reducible refine BC CD ?_
    |refine BC (vcT (by rfl) (by with_reducible exact IsT.mk)) ?_
    |refine BC (vcF (by rfl) (by with_reducible exact IsF.mk)) ?_
    |with_reducible exact YQ k.out
  |with_reducible apply vgR
   first
    |refine BC (eR (by rfl) cT) ?_
    |refine BC (pS (by rfl) cT) ?_
  |with_reducible refine BC RA ?_
  |with_reducible refine BC aD ?_
  |with_reducible refine BC HD ?_
  |with_reducible refine BC iG ?_
  |with_reducible refine BC CG ?_
  |with_reducible refine BC fE ?_
  |refine BC (rF (by rfl)) ?_
  |with_reducible refine BC jF ?_
  |with_reducible refine BC vsR ?_
  |with_reducible refine BC PG ?_
  |with_reducible refine BC qI ?_
  |with_reducible refine BC ED ?_
  |with_reducible refine BC RA ?_
  |with_reducible refine BC aD ?_
  |with_reducible refine BC zF ?_
  |with_reducible refine BC EF ?_
  |with_reducible refine BC HD ?_
  |with_reducible refine BC iG ?_
  |with_reducible refine BC CG ?_
  |with_reducible refine BC CD ?_
  |with_reducible refine BC fE ?_
  |refine BC (rF (by rfl)) ?_
  |refine BC (vcT (by rfl) (by with_reducible exact IsT.mk)) ?_
  |refine BC (vcF (by rfl) (by with_reducible exact IsF.mk)) ?_
  |with_reducible refine BC BE ?_
  |refine BC (eR (by rfl) cT) ?_
  |refine BC (pS (by rfl) cT) ?_
  |refine BC (vkT (by rfl) (by rfl) (by rfl) (by with_reducible exact IsF.mk)) ?_
  |refine BC (vkF (by rfl) (by rfl) (by rfl) (by with_reducible exact IsT.mk)) ?_
  |refine BC (vkU (by rfl) (by rfl) (by rfl)) ?_
  |with_reducible exact YQ k.out
  |refine PD (sq ru) ?_
  |refine PD (vqT (by rfl) (by rfl) (by rfl) (by with_reducible exact IsT.mk) ru) ?_
  |refine PD (vqF (by rfl) (by rfl) (by rfl) (by with_reducible exact IsF.mk) ru) ?_
  |refine PD (JJ kD) ?_
  |refine PD (UR kD vE (by rfl)) ?_
  |refine PD (zH kD (by rfl) YF (by rfl) (by rfl) (by (repeat (first | with_reducible exact SetL.here | with_reducible apply SetL.there)) <;> fail)) ?_
  |refine PD (vG kD (by rfl) YF (by rfl) (by rfl) (by first | omega | (simp only [List.length_set]; omega) | exact Nat.le_of_ble_eq_true rfl | exact BitVec.isLt _ | (simp <;> omega))) ?_
  |refine PD (AH kD (by rfl) YF (by rfl) (by first | (show _ * 1 = _; omega) | (show _ * 1 = _; simp only [List.length_set]; omega) | rfl | (show _ * 1 = _; simp; omega)) (by first | (show _ * 1 = _; omega) | (show _ * 1 = _; simp only [List.length_set]; omega) | rfl | (show _ * 1 = _; simp; omega))) ?_
  |refine PD (yH kD (by rfl) YF vE (by rfl) (by (repeat (first | with_reducible exact PutL.nil | with_reducible apply PutL.here | with_reducible apply PutL.there)) <;> fail) (by rfl) (by rfl)) ?_
  |refine PD (iM kD (by rfl) YF kD (by rfl) (by rfl) (by first | omega | (simp only [List.length_set]; omega) | exact Nat.le_of_ble_eq_true rfl | exact BitVec.isLt _ | (simp <;> omega))) ?_
  |refine PD (IJ kD (by rfl) YF kD (by rfl) IC (by rfl) (by rfl) (by first | rfl | omega | (simp; omega)) (by first | rfl | omega | (simp; omega)) (by omega)) ?_
  |refine PD (IJ (key := none) kD (by rfl) YF kD (by rfl) IC (by rfl) (by rfl) (by first | rfl | omega | (simp; omega)) (by first | rfl | omega | (simp; omega)) (by omega)) ?_)) : G := (h ⟨k⟩).out
theorem gj (n : Nat) {K G : Prop} (k : K) (h : Kp K → Fu n G := by
 intro k
 repeat (first
  |with_reducible apply vgN
   first
    |with_reducible exact YQ k.out
    |refine PD (sq ru) ?_
    |with_reducible apply kK
     first
      |refine PD (zH kD (by rfl) YF (by rfl) (by rfl) (by (repeat (first | with_reducible exact SetL.here | with_reducible apply SetL.there)) <;> fail)) ?_
      |refine PD (vG kD (by rfl) YF (by rfl) (by rfl) (by first | omega | (simp only [List.length_set]; omega) | exact Nat.le_of_ble_eq_true rfl | exact BitVec.isLt _ | (simp <;> omega))) ?_
      |refine PD (AH kD (by rfl) YF (by rfl) (by first | (show _ * 1 = _; omega) | (show _ * 1 = _; simp only [List.length_set]; omega) | rfl | (show _ * 1 = _; simp; omega)) (by first | (show _ * 1 = _; omega) | (show _ * 1 = _; simp only [List.length_set]; omega) | rfl | (show _ * 1 = _; simp; omega))) ?_
      |refine PD (yH kD (by rfl) YF vE (by rfl) (by (repeat (first | with_reducible exact PutL.nil | with_reducible apply PutL.here | with_reducible apply PutL.there)) <;> fail) (by rfl) (by rfl)) ?_
      |refine PD (iM kD (by rfl) YF kD (by rfl) (by rfl) (by first | omega | (simp only [List.length_set]; omega) | exact Nat.le_of_ble_eq_true rfl | exact BitVec.isLt _ | (simp <;> omega))) ?_
    |with_reducible apply lK
     refine PD (JJ kD) ?_
    |with_reducible apply cO
     refine PD (UR kD vE (by rfl)) ?_
    |refine PD (IJ kD (by rfl) YF kD (by rfl) IC (by rfl) (by rfl) (by first | rfl | omega | (simp; omega)) (by first | rfl | omega | (simp; omega)) (by omega)) ?_
    |refine PD (IJ (key := none) kD (by rfl) YF kD (by rfl) IC (by rfl) (by rfl) (by first | rfl | omega | (simp; omega)) (by first | rfl | omega | (simp; omega)) (by omega)) ?_
  |with_reducible apply vgG
   first
    |refine BC (vkT (by rfl) (by rfl) (by rfl) (by with_reducible exact IsF.mk)) ?_
    |refine BC (vkF (by rfl) (by rfl) (by rfl) (by with_reducible exact IsT.mk)) ?_
    |refine BC (vkU (by rfl) (by rfl) (by rfl)) ?_
    |with_reducible exact YQ k.out
    |refine PD (vqT (by rfl) (by rfl) (by rfl) (by with_reducible exact IsT.mk) ru) ?_
    |refine PD (vqF (by rfl) (by rfl) (by rfl) (by with_reducible exact IsF.mk) ru) ?_
  |with_reducible apply vgE
   first
    |with_reducible refine BC jF ?_
    |with_reducible refine BC BE ?_
  |with_reducible apply vgC
   first
    |with_reducible refine vfB vsR ?_
    |with_reducible refine vfB PG ?_
    |with_reducible refine vfB qI ?_
    |with_reducible refine vfB ED ?_
    |with_reducible refine BC zF ?_
    |with_reducible refine BC EF ?_
    |with_reducible refine BC CD ?_
    |refine BC (vcT (by rfl) (by with_reducible exact IsT.mk)) ?_
    |refine BC (vcF (by rfl) (by with_reducible exact IsF.mk)) ?_
    |with_reducible exact YQ k.out
  |with_reducible apply vgR
   first
    |refine BC (eR (by rfl) cT) ?_
    |refine BC (pS (by rfl) cT) ?_
  |with_reducible refine BC RA ?_
  |with_reducible refine BC aD ?_
  |with_reducible refine BC HD ?_
  |with_reducible refine BC iG ?_
  |with_reducible refine BC CG ?_
  |with_reducible refine BC fE ?_
  |refine BC (rF (by rfl)) ?_
  |with_reducible refine BC jF ?_
  |with_reducible refine BC RA ?_
  |with_reducible refine BC aD ?_
  |with_reducible refine BC zF ?_
  |with_reducible refine BC EF ?_
  |with_reducible refine BC HD ?_
  |with_reducible refine BC iG ?_
  |with_reducible refine BC CG ?_
  |with_reducible refine BC CD ?_
  |with_reducible refine BC fE ?_
  |refine BC (rF (by rfl)) ?_
  |refine BC (vcT (by rfl) (by with_reducible exact IsT.mk)) ?_
  |refine BC (vcF (by rfl) (by with_reducible exact IsF.mk)) ?_
  |with_reducible refine BC BE ?_
  |refine BC (eR (by rfl) cT) ?_
  |refine BC (pS (by rfl) cT) ?_
  |refine BC (vkT (by rfl) (by rfl) (by rfl) (by with_reducible exact IsF.mk)) ?_
  |refine BC (vkF (by rfl) (by rfl) (by rfl) (by with_reducible exact IsT.mk)) ?_
  |refine BC (vkU (by rfl) (by rfl) (by rfl)) ?_
  |with_reducible exact YQ k.out
  |refine PD (sq ru) ?_
  |refine PD (vqT (by rfl) (by rfl) (by rfl) (by with_reducible exact IsT.mk) ru) ?_
  |refine PD (vqF (by rfl) (by rfl) (by rfl) (by with_reducible exact IsF.mk) ru) ?_
  |refine PD (JJ kD) ?_
  |refine PD (UR kD vE (by rfl)) ?_
  |refine PD (zH kD (by rfl) YF (by rfl) (by rfl) (by (repeat (first | with_reducible exact SetL.here | with_reducible apply SetL.there)) <;> fail)) ?_
  |refine PD (vG kD (by rfl) YF (by rfl) (by rfl) (by first | omega | (simp only [List.length_set]; omega) | exact Nat.le_of_ble_eq_true rfl | exact BitVec.isLt _ | (simp <;> omega))) ?_
  |refine PD (AH kD (by rfl) YF (by rfl) (by first | (show _ * 1 = _; omega) | (show _ * 1 = _; simp only [List.length_set]; omega) | rfl | (show _ * 1 = _; simp; omega)) (by first | (show _ * 1 = _; omega) | (show _ * 1 = _; simp only [List.length_set]; omega) | rfl | (show _ * 1 = _; simp; omega))) ?_
  |refine PD (yH kD (by rfl) YF vE (by rfl) (by (repeat (first | with_reducible exact PutL.nil | with_reducible apply PutL.here | with_reducible apply PutL.there)) <;> fail) (by rfl) (by rfl)) ?_
  |refine PD (iM kD (by rfl) YF kD (by rfl) (by rfl) (by first | omega | (simp only [List.length_set]; omega) | exact Nat.le_of_ble_eq_true rfl | exact BitVec.isLt _ | (simp <;> omega))) ?_
  |refine PD (IJ kD (by rfl) YF kD (by rfl) IC (by rfl) (by rfl) (by first | rfl | omega | (simp; omega)) (by first | rfl | omega | (simp; omega)) (by omega)) ?_
  |refine PD (IJ (key := none) kD (by rfl) YF kD (by rfl) IC (by rfl) (by rfl) (by first | rfl | omega | (simp; omega)) (by first | rfl | omega | (simp; omega)) (by omega)) ?_)) : G := (h ⟨k⟩).out
theorem OD {K G : Prop} (k : K) (h : Kp K → G := by
 intro k
 first
  |exact tT kD (by rfl) YF kD (by rfl) IC (by rfl) (by rfl) k.out
  |exact tT (key := none) kD (by rfl) YF kD (by rfl) IC (by rfl) (by rfl) k.out) : G := h ⟨k⟩
theorem uC {w : World} (h : Gl w := by first | with_reducible assumption | exact Chg.gl (Hp.chg kD) (fun x => x) kD) : Gl w := h
theorem kp {p : Prop} (h : p := by (repeat (first | exact trivial | refine ⟨rfl, ?_⟩)) <;> fail) : p := h
theorem Hp.pk {M : Nat → Prop} {w₀ w : World} {L : List RW} (H : Hp M w₀ w L) (m : Nat) (idx : List Nat) (hn : idx.Nodup := by decide) (hm : ∀ i ∈ idx, i < m := by decide) : Hp M w₀ w (idx.filterMap (fun i => L[i]?) ++ L.drop m) := H.pick m idx hn hm
theorem xC {G : Prop} (h : G := by exact Gives.run rfl ru (by first | exact ⟨rfl, Chg.refl _ _⟩ | exact ⟨rfl, rfl⟩)) : G := h
section
variable {P : Program} {n : Nat} {ops : Array Oper} {mask : List Nat} {es : List Nat} {tab : mC} {M : Nat → Prop} {w₀ : World} {C : List RW} {Fin : (TA → TA) → Prop} {i k : Nat} {o : Oper} {l : List Oper} {ρ' : TA → TA} {v : Value}
theorem vlk (hg : o.guard = none) (hne : es.contains i = false) (h1 : ∀ r w, Hp M w₀ w C → Runs P n (ρ' r) o w v w) (h2 : GG P n ops es M w₀ C tab mask Fin (i + 1) k l fun r => sB (ρ' r) o.dst v) : GG P n ops es M w₀ C tab mask Fin i (k + 1) (o :: l) ρ' := ZB v h1 h2 hg hne
theorem vwk {CC : World → Prop} {R : World → World → Prop} {K ks : List (Option pH)} (hg : o.guard = none) (hR : ∀ w, R w w) (h1 : ∀ r w, CC w → Runs P n (ρ' r) o w v w) (h2 : Walk P n ops CC R mask K Fin (i + 1) ks l fun r => sB (ρ' r) o.dst v) : Walk P n ops CC R mask K Fin i (none :: ks) (o :: l) ρ' :=
 ⟨v, fun r w hC _ => Gives.run hg (h1 r w hC) ⟨rfl, hR w⟩, h2⟩
theorem vlkS {v : TA → Value} (hne : es.contains i = false) (h1 : AllT (EK mask es i) (fun _ f => ∀ r w0 w, f (es.map r) w0 → Ext w0 w → Gives P n ops (ρ' r) o w fun u w' => u = v r ∧ Ext w w') tab) (hv : ∀ r r' : TA, (∀ e ∈ es, SD mask i e = true → r e = r' e) → v r = v r') (h2 : GG P n ops es M w₀ C tab mask Fin (i + 1) k l fun r => sB (ρ' r) o.dst (v r)) : GG P n ops es M w₀ C tab mask Fin i (k + 1) (o :: l) ρ' := aA v hv h1 h2 hne
end
theorem gk (n : Nat) {K G : Prop} (k : K) (h : Kp K → Fu n G := by
 intro k
 repeat (first
  |with_reducible exact YQ k.out
  |refine PD (vlk rfl rfl (fun _ uw hcx => ru)) ?_
  |refine PD (vlkS rfl (by (repeat (first | exact trivial | (refine A_ (fun r w0 uw hF hE => ?_) ?_; ((repeat (first | (refine Exists.elim hF ?_; intro _ hF) | (refine And.elim ?_ hF; intro _ hF))); have HH := Hp.ext hF hE; exact xC)))) <;> fail) (fun _ _ _ => rfl)) ?_
  |refine PD (vwk rfl (fun _ => Chg.refl _ _) (fun _ uw hC => by have HH := Hp.ext kD hC; exact ru)) ?_)) : G := (h ⟨k⟩).out
end Go.Proofs.YtohngnahcgbfmaaGreatDoor.Vc
namespace Go.Proofs.YtohngnahcgbfmaaGreatDoor
open Go Vc
open Vc
instance : Fct (Tryz.prog.eqGuardType Tryz.prog.depth 29) false := ⟨kr⟩
instance : Fct (Tryz.prog.follows .mixedOrders) true := ⟨kr⟩
instance : Fct (Tryz.prog.underlying 122) (some (.pointer 126)) := ⟨kr⟩
instance : Fct (Tryz.prog.underlying 124) (some (.pointer 122)) := ⟨kr⟩
instance : Fct (Tryz.prog.underlying 2) (some (.int .i64)) := ⟨kr⟩
instance : Fct (Tryz.prog.underlying 216) (some (.array 16 5)) := ⟨kr⟩
instance : Fct (Tryz.prog.underlying 23) (some (.slice 34)) := ⟨kr⟩
instance : Fct (Tryz.prog.underlying 29) (some (.array 2 3)) := ⟨kr⟩
instance : Fct (Tryz.prog.underlying 3) (some (.int .i64)) := ⟨kr⟩
instance : Fct (Tryz.prog.underlying 34) (some (.int .u64)) := ⟨kr⟩
instance : Fct (Tryz.prog.underlying 5) (some (.int .u8)) := ⟨kr⟩
instance : Fct (Tryz.prog.underlying 63) (some (.int .i64)) := ⟨kr⟩
instance : Fct (Tryz.prog.underlying 64) (some (.int .u64)) := ⟨kr⟩
instance : Fct (Tryz.prog.underlying 94) (some (.pointer 232)) := ⟨kr⟩
instance : Fct (jD Tryz.prog 117) (some (5, 1)) := ⟨kr⟩
instance : Fct (jD Tryz.prog 119) (some (2, 2)) := ⟨kr⟩
instance : Fct (jD Tryz.prog 145) (some (64, 1)) := ⟨kr⟩
instance : Fct (jD Tryz.prog 146) (some (2, 64)) := ⟨kr⟩
instance : Fct (jD Tryz.prog 216) (some (16, 1)) := ⟨kr⟩
instance : Fct (jD Tryz.prog 229) (some (11, 16)) := ⟨kr⟩
instance : Fct (jD Tryz.prog 230) (some (256, 1)) := ⟨kr⟩
instance : Fct (jD Tryz.prog 239) (some (4, 1)) := ⟨kr⟩
instance : Fct (jD Tryz.prog 24) (some (2, 1)) := ⟨kr⟩
instance : Fct (jD Tryz.prog 29) (some (2, 1)) := ⟨kr⟩
instance : Fct (jD Tryz.prog 38) (some (2, 1)) := ⟨kr⟩
instance : Fct (jD Tryz.prog 43) (some (2, 3)) := ⟨kr⟩
instance : Fct (jD Tryz.prog 50) (some (2, 1)) := ⟨kr⟩
instance : Fct (jD Tryz.prog 81) (some (2, 1)) := ⟨kr⟩
instance : Fct (jD Tryz.prog 83) (some (2, 1)) := ⟨kr⟩
instance : Fct (jD Tryz.prog 87) (some (2, 1)) := ⟨kr⟩
instance : Fct (jD Tryz.prog 92) (some (2, 6)) := ⟨kr⟩
instance : Fct (ZF Tryz.prog 121) (some 40) := ⟨kr⟩
instance : Fct (ZF Tryz.prog 127) (some 8) := ⟨kr⟩
instance : Fct (ZF Tryz.prog 154) (some 24) := ⟨kr⟩
instance : Fct (ZF Tryz.prog 210) (some 24) := ⟨kr⟩
instance : Fct (ZF Tryz.prog 3) (some 8) := ⟨kr⟩
instance : Fct (ZF Tryz.prog 34) (some 8) := ⟨kr⟩
instance : Fct (ZF Tryz.prog 66) (some 24) := ⟨kr⟩
instance : Fct (ZF Tryz.prog 83) (some 16) := ⟨kr⟩
instance : Fct (ZF Tryz.prog 91) (some 80) := ⟨kr⟩
instance : Fct (mA Tryz.prog 10) true := ⟨kr⟩
instance : Fct (mA Tryz.prog 100) true := ⟨kr⟩
instance : Fct (mA Tryz.prog 101) true := ⟨kr⟩
instance : Fct (mA Tryz.prog 102) true := ⟨kr⟩
instance : Fct (mA Tryz.prog 103) true := ⟨kr⟩
instance : Fct (mA Tryz.prog 104) true := ⟨kr⟩
instance : Fct (mA Tryz.prog 11) true := ⟨kr⟩
instance : Fct (mA Tryz.prog 124) true := ⟨kr⟩
instance : Fct (mA Tryz.prog 13) true := ⟨kr⟩
instance : Fct (mA Tryz.prog 14) true := ⟨kr⟩
instance : Fct (mA Tryz.prog 15) true := ⟨kr⟩
instance : Fct (mA Tryz.prog 16) true := ⟨kr⟩
instance : Fct (mA Tryz.prog 17) true := ⟨kr⟩
instance : Fct (mA Tryz.prog 18) true := ⟨kr⟩
instance : Fct (mA Tryz.prog 19) true := ⟨kr⟩
instance : Fct (mA Tryz.prog 20) true := ⟨kr⟩
instance : Fct (mA Tryz.prog 21) true := ⟨kr⟩
instance : Fct (mA Tryz.prog 22) true := ⟨kr⟩
instance : Fct (mA Tryz.prog 23) true := ⟨kr⟩
instance : Fct (mA Tryz.prog 24) true := ⟨kr⟩
instance : Fct (mA Tryz.prog 25) true := ⟨kr⟩
instance : Fct (mA Tryz.prog 26) true := ⟨kr⟩
instance : Fct (mA Tryz.prog 27) true := ⟨kr⟩
instance : Fct (mA Tryz.prog 28) true := ⟨kr⟩
instance : Fct (mA Tryz.prog 29) true := ⟨kr⟩
instance : Fct (mA Tryz.prog 30) true := ⟨kr⟩
instance : Fct (mA Tryz.prog 31) true := ⟨kr⟩
instance : Fct (mA Tryz.prog 32) true := ⟨kr⟩
instance : Fct (mA Tryz.prog 33) true := ⟨kr⟩
instance : Fct (mA Tryz.prog 34) true := ⟨kr⟩
instance : Fct (mA Tryz.prog 35) true := ⟨kr⟩
instance : Fct (mA Tryz.prog 36) true := ⟨kr⟩
instance : Fct (mA Tryz.prog 37) true := ⟨kr⟩
instance : Fct (mA Tryz.prog 38) true := ⟨kr⟩
instance : Fct (mA Tryz.prog 39) true := ⟨kr⟩
instance : Fct (mA Tryz.prog 40) true := ⟨kr⟩
instance : Fct (mA Tryz.prog 41) true := ⟨kr⟩
instance : Fct (mA Tryz.prog 42) true := ⟨kr⟩
instance : Fct (mA Tryz.prog 43) true := ⟨kr⟩
instance : Fct (mA Tryz.prog 44) true := ⟨kr⟩
instance : Fct (mA Tryz.prog 45) true := ⟨kr⟩
instance : Fct (mA Tryz.prog 46) true := ⟨kr⟩
instance : Fct (mA Tryz.prog 47) true := ⟨kr⟩
instance : Fct (mA Tryz.prog 48) true := ⟨kr⟩
instance : Fct (mA Tryz.prog 49) true := ⟨kr⟩
instance : Fct (mA Tryz.prog 50) true := ⟨kr⟩
instance : Fct (mA Tryz.prog 51) true := ⟨kr⟩
instance : Fct (mA Tryz.prog 52) true := ⟨kr⟩
instance : Fct (mA Tryz.prog 53) true := ⟨kr⟩
instance : Fct (mA Tryz.prog 54) true := ⟨kr⟩
instance : Fct (mA Tryz.prog 55) true := ⟨kr⟩
instance : Fct (mA Tryz.prog 56) true := ⟨kr⟩
instance : Fct (mA Tryz.prog 58) true := ⟨kr⟩
instance : Fct (mA Tryz.prog 6) true := ⟨kr⟩
instance : Fct (mA Tryz.prog 62) true := ⟨kr⟩
instance : Fct (mA Tryz.prog 63) true := ⟨kr⟩
instance : Fct (mA Tryz.prog 64) true := ⟨kr⟩
instance : Fct (mA Tryz.prog 65) true := ⟨kr⟩
instance : Fct (mA Tryz.prog 66) true := ⟨kr⟩
instance : Fct (mA Tryz.prog 68) true := ⟨kr⟩
instance : Fct (mA Tryz.prog 69) true := ⟨kr⟩
instance : Fct (mA Tryz.prog 7) true := ⟨kr⟩
instance : Fct (mA Tryz.prog 70) true := ⟨kr⟩
instance : Fct (mA Tryz.prog 71) true := ⟨kr⟩
instance : Fct (mA Tryz.prog 72) true := ⟨kr⟩
instance : Fct (mA Tryz.prog 73) true := ⟨kr⟩
instance : Fct (mA Tryz.prog 74) true := ⟨kr⟩
instance : Fct (mA Tryz.prog 75) true := ⟨kr⟩
instance : Fct (mA Tryz.prog 76) true := ⟨kr⟩
instance : Fct (mA Tryz.prog 77) true := ⟨kr⟩
instance : Fct (mA Tryz.prog 78) true := ⟨kr⟩
instance : Fct (mA Tryz.prog 8) true := ⟨kr⟩
instance : Fct (mA Tryz.prog 81) true := ⟨kr⟩
instance : Fct (mA Tryz.prog 82) true := ⟨kr⟩
instance : Fct (mA Tryz.prog 83) true := ⟨kr⟩
instance : Fct (mA Tryz.prog 84) true := ⟨kr⟩
instance : Fct (mA Tryz.prog 85) true := ⟨kr⟩
instance : Fct (mA Tryz.prog 86) true := ⟨kr⟩
instance : Fct (mA Tryz.prog 87) true := ⟨kr⟩
instance : Fct (mA Tryz.prog 88) true := ⟨kr⟩
instance : Fct (mA Tryz.prog 89) true := ⟨kr⟩
instance : Fct (mA Tryz.prog 9) true := ⟨kr⟩
instance : Fct (mA Tryz.prog 90) true := ⟨kr⟩
instance : Fct (mA Tryz.prog 91) true := ⟨kr⟩
instance : Fct (mA Tryz.prog 92) true := ⟨kr⟩
instance : Fct (mA Tryz.prog 93) true := ⟨kr⟩
instance : Fct (mA Tryz.prog 94) true := ⟨kr⟩
instance : Fct (mA Tryz.prog 95) true := ⟨kr⟩
instance : Fct (mA Tryz.prog 96) true := ⟨kr⟩
instance : Fct (mA Tryz.prog 97) true := ⟨kr⟩
instance : Fct (mA Tryz.prog 98) true := ⟨kr⟩
instance : Fct (mA Tryz.prog 99) true := ⟨kr⟩
instance : Fct (xS Tryz.prog 63) true := ⟨kr⟩
instance : Fct (TB Tryz.prog 104 0) (some (0, 1, 3)) := ⟨kr⟩
instance : Fct (TB Tryz.prog 104 1) (some (1, 1, 102)) := ⟨kr⟩
instance : Fct (TB Tryz.prog 104 2) (some (2, 1, 100)) := ⟨kr⟩
instance : Fct (TB Tryz.prog 110 0) (some (0, 1, 39)) := ⟨kr⟩
instance : Fct (TB Tryz.prog 112 0) (some (0, 1, 40)) := ⟨kr⟩
instance : Fct (TB Tryz.prog 114 0) (some (0, 1, 110)) := ⟨kr⟩
instance : Fct (TB Tryz.prog 114 1) (some (1, 1, 110)) := ⟨kr⟩
instance : Fct (TB Tryz.prog 114 2) (some (2, 1, 112)) := ⟨kr⟩
instance : Fct (TB Tryz.prog 121 0) (some (0, 4, 119)) := ⟨kr⟩
instance : Fct (TB Tryz.prog 121 1) (some (4, 1, 4)) := ⟨kr⟩
instance : Fct (TB Tryz.prog 126 2) (some (2, 1, 3)) := ⟨kr⟩
instance : Fct (TB Tryz.prog 126 3) (some (3, 1, 31)) := ⟨kr⟩
instance : Fct (TB Tryz.prog 129 0) (some (0, 1, 127)) := ⟨kr⟩
instance : Fct (TB Tryz.prog 129 1) (some (1, 1, 127)) := ⟨kr⟩
instance : Fct (TB Tryz.prog 129 2) (some (2, 1, 127)) := ⟨kr⟩
instance : Fct (TB Tryz.prog 129 3) (some (3, 1, 3)) := ⟨kr⟩
instance : Fct (TB Tryz.prog 129 4) (some (4, 1, 4)) := ⟨kr⟩
instance : Fct (TB Tryz.prog 129 5) (some (5, 1, 4)) := ⟨kr⟩
instance : Fct (TB Tryz.prog 129 6) (some (6, 1, 3)) := ⟨kr⟩
instance : Fct (TB Tryz.prog 143 0) (some (0, 3, 104)) := ⟨kr⟩
instance : Fct (TB Tryz.prog 154 0) (some (0, 1, 150)) := ⟨kr⟩
instance : Fct (TB Tryz.prog 154 1) (some (1, 1, 3)) := ⟨kr⟩
instance : Fct (TB Tryz.prog 154 2) (some (2, 1, 3)) := ⟨kr⟩
instance : Fct (TB Tryz.prog 175 0) (some (0, 1, 3)) := ⟨kr⟩
instance : Fct (TB Tryz.prog 175 1) (some (1, 1, 173)) := ⟨kr⟩
instance : Fct (TB Tryz.prog 175 2) (some (2, 1, 100)) := ⟨kr⟩
instance : Fct (TB Tryz.prog 210 0) (some (0, 1, 3)) := ⟨kr⟩
instance : Fct (TB Tryz.prog 232 0) (some (0, 176, 229)) := ⟨kr⟩
instance : Fct (TB Tryz.prog 232 1) (some (176, 256, 230)) := ⟨kr⟩
instance : Fct (TB Tryz.prog 26 0) (some (0, 1, 22)) := ⟨kr⟩
instance : Fct (TB Tryz.prog 26 1) (some (1, 2, 24)) := ⟨kr⟩
instance : Fct (TB Tryz.prog 26 2) (some (3, 2, 24)) := ⟨kr⟩
instance : Fct (TB Tryz.prog 26 3) (some (5, 1, 23)) := ⟨kr⟩
instance : Fct (TB Tryz.prog 36 0) (some (0, 1, 33)) := ⟨kr⟩
instance : Fct (TB Tryz.prog 36 1) (some (1, 1, 3)) := ⟨kr⟩
instance : Fct (TB Tryz.prog 36 2) (some (2, 1, 3)) := ⟨kr⟩
instance : Fct (TB Tryz.prog 36 3) (some (3, 1, 3)) := ⟨kr⟩
instance : Fct (TB Tryz.prog 36 4) (some (4, 1, 34)) := ⟨kr⟩
instance : Fct (TB Tryz.prog 36 5) (some (5, 1, 3)) := ⟨kr⟩
instance : Fct (TB Tryz.prog 42 0) (some (0, 1, 39)) := ⟨kr⟩
instance : Fct (TB Tryz.prog 42 1) (some (1, 1, 39)) := ⟨kr⟩
instance : Fct (TB Tryz.prog 42 2) (some (2, 1, 40)) := ⟨kr⟩
instance : Fct (TB Tryz.prog 57 0) (some (0, 1, 3)) := ⟨kr⟩
instance : Fct (TB Tryz.prog 57 1) (some (1, 1, 3)) := ⟨kr⟩
instance : Fct (TB Tryz.prog 57 2) (some (2, 1, 3)) := ⟨kr⟩
instance : Fct (TB Tryz.prog 57 3) (some (3, 2, 29)) := ⟨kr⟩
instance : Fct (TB Tryz.prog 57 4) (some (5, 1, 3)) := ⟨kr⟩
instance : Fct (TB Tryz.prog 57 5) (some (6, 2, 29)) := ⟨kr⟩
instance : Fct (TB Tryz.prog 66 0) (some (0, 1, 34)) := ⟨kr⟩
instance : Fct (TB Tryz.prog 66 1) (some (1, 1, 34)) := ⟨kr⟩
instance : Fct (TB Tryz.prog 66 2) (some (2, 1, 34)) := ⟨kr⟩
instance : Fct (TB Tryz.prog 91 0) (some (0, 1, 34)) := ⟨kr⟩
instance : Fct (TB Tryz.prog 91 1) (some (1, 3, 66)) := ⟨kr⟩
instance : Fct (TB Tryz.prog 91 2) (some (4, 1, 40)) := ⟨kr⟩
instance : Fct (TB Tryz.prog 91 3) (some (5, 1, 89)) := ⟨kr⟩
instance : Fct (TB Tryz.prog 96 0) (some (0, 1, 23)) := ⟨kr⟩
instance : Fct (TB Tryz.prog 96 1) (some (1, 1, 94)) := ⟨kr⟩
instance : Fct (TB Tryz.prog 96 2) (some (2, 1, 3)) := ⟨kr⟩
instance : Fct (TB Tryz.prog 96 3) (some (3, 1, 3)) := ⟨kr⟩
instance : Fct (ZR Tryz.prog 122 198) true := ⟨kr⟩
instance : Fct (OA Tryz.prog 104) true := ⟨kr⟩
instance : Fct (OA Tryz.prog 117) true := ⟨kr⟩
instance : Fct (OA Tryz.prog 121) true := ⟨kr⟩
instance : Fct (OA Tryz.prog 129) true := ⟨kr⟩
instance : Fct (OA Tryz.prog 145) true := ⟨kr⟩
instance : Fct (OA Tryz.prog 163) true := ⟨kr⟩
instance : Fct (OA Tryz.prog 175) true := ⟨kr⟩
instance : Fct (OA Tryz.prog 216) true := ⟨kr⟩
instance : Fct (OA Tryz.prog 239) true := ⟨kr⟩
instance : Fct (OA Tryz.prog 24) true := ⟨kr⟩
instance : Fct (OA Tryz.prog 26) true := ⟨kr⟩
instance : Fct (OA Tryz.prog 29) true := ⟨kr⟩
instance : Fct (OA Tryz.prog 36) true := ⟨kr⟩
instance : Fct (OA Tryz.prog 38) true := ⟨kr⟩
instance : Fct (OA Tryz.prog 43) true := ⟨kr⟩
instance : Fct (OA Tryz.prog 50) true := ⟨kr⟩
instance : Fct (OA Tryz.prog 57) true := ⟨kr⟩
instance : Fct (OA Tryz.prog 66) true := ⟨kr⟩
instance : Fct (OA Tryz.prog 83) true := ⟨kr⟩
instance : Fct (OA Tryz.prog 87) true := ⟨kr⟩
instance : Fct (OA Tryz.prog 92) true := ⟨kr⟩
instance : Fct (xI Tryz.prog 20) true := ⟨kr⟩
instance : Fct (xI Tryz.prog 31) true := ⟨kr⟩
instance : Fct (NA Tryz.prog 100) true := ⟨kr⟩
instance : Fct (NA Tryz.prog 102) true := ⟨kr⟩
instance : Fct (NA Tryz.prog 122) true := ⟨kr⟩
instance : Fct (NA Tryz.prog 127) true := ⟨kr⟩
instance : Fct (NA Tryz.prog 150) true := ⟨kr⟩
instance : Fct (NA Tryz.prog 157) true := ⟨kr⟩
instance : Fct (NA Tryz.prog 173) true := ⟨kr⟩
instance : Fct (NA Tryz.prog 22) true := ⟨kr⟩
instance : Fct (NA Tryz.prog 23) true := ⟨kr⟩
instance : Fct (NA Tryz.prog 3) true := ⟨kr⟩
instance : Fct (NA Tryz.prog 31) true := ⟨kr⟩
instance : Fct (NA Tryz.prog 33) true := ⟨kr⟩
instance : Fct (NA Tryz.prog 34) true := ⟨kr⟩
instance : Fct (NA Tryz.prog 37) true := ⟨kr⟩
instance : Fct (NA Tryz.prog 39) true := ⟨kr⟩
instance : Fct (NA Tryz.prog 4) true := ⟨kr⟩
instance : Fct (NA Tryz.prog 40) true := ⟨kr⟩
instance : Fct (NA Tryz.prog 48) true := ⟨kr⟩
instance : Fct (NA Tryz.prog 5) true := ⟨kr⟩
instance : Fct (NA Tryz.prog 80) true := ⟨kr⟩
instance : Fct (NA Tryz.prog 89) true := ⟨kr⟩
instance : Fct (NA Tryz.prog 94) true := ⟨kr⟩
instance : Fct (QD Tryz.prog 122 195) true := ⟨kr⟩
instance : Fct (QD Tryz.prog 63 195) true := ⟨kr⟩
instance : Fct (QD Tryz.prog 63 198) true := ⟨kr⟩
instance : Fct (QD Tryz.prog 63 200) true := ⟨kr⟩
instance : Fct (QD Tryz.prog 63 205) true := ⟨kr⟩
instance : Fct (JI Tryz.prog 104) (some #[(0, 1), (1, 1), (2, 1)]) := ⟨kr⟩
instance : Fct (JI Tryz.prog 114) (some #[(0, 1), (1, 1), (2, 1)]) := ⟨kr⟩
instance : Fct (JI Tryz.prog 121) (some #[(0, 4), (4, 1)]) := ⟨kr⟩
instance : Fct (JI Tryz.prog 126) (some #[(0, 1), (1, 1), (2, 1), (3, 1)]) := ⟨kr⟩
instance : Fct (JI Tryz.prog 129) (some #[(0, 1), (1, 1), (2, 1), (3, 1), (4, 1), (5, 1), (6, 1)]) := ⟨kr⟩
instance : Fct (JI Tryz.prog 143) (some #[(0, 3)]) := ⟨kr⟩
instance : Fct (JI Tryz.prog 154) (some #[(0, 1), (1, 1), (2, 1)]) := ⟨kr⟩
instance : Fct (JI Tryz.prog 175) (some #[(0, 1), (1, 1), (2, 1)]) := ⟨kr⟩
instance : Fct (JI Tryz.prog 210) (some #[(0, 1), (1, 1), (2, 1)]) := ⟨kr⟩
instance : Fct (JI Tryz.prog 232) (some #[(0, 176), (176, 256)]) := ⟨kr⟩
instance : Fct (JI Tryz.prog 36) (some #[(0, 1), (1, 1), (2, 1), (3, 1), (4, 1), (5, 1)]) := ⟨kr⟩
instance : Fct (JI Tryz.prog 57) (some #[(0, 1), (1, 1), (2, 1), (3, 2), (5, 1), (6, 2)]) := ⟨kr⟩
instance : Fct (JI Tryz.prog 66) (some #[(0, 1), (1, 1), (2, 1)]) := ⟨kr⟩
instance : Fct (JI Tryz.prog 96) (some #[(0, 1), (1, 1), (2, 1), (3, 1)]) := ⟨kr⟩
instance : Fct (UB Tryz.prog 100) (some 1) := ⟨kr⟩
instance : Fct (UB Tryz.prog 102) (some 1) := ⟨kr⟩
instance : Fct (UB Tryz.prog 104) (some 3) := ⟨kr⟩
instance : Fct (UB Tryz.prog 117) (some 5) := ⟨kr⟩
instance : Fct (UB Tryz.prog 121) (some 5) := ⟨kr⟩
instance : Fct (UB Tryz.prog 122) (some 1) := ⟨kr⟩
instance : Fct (UB Tryz.prog 127) (some 1) := ⟨kr⟩
instance : Fct (UB Tryz.prog 129) (some 7) := ⟨kr⟩
instance : Fct (UB Tryz.prog 145) (some 64) := ⟨kr⟩
instance : Fct (UB Tryz.prog 154) (some 3) := ⟨kr⟩
instance : Fct (UB Tryz.prog 163) (some 3) := ⟨kr⟩
instance : Fct (UB Tryz.prog 173) (some 1) := ⟨kr⟩
instance : Fct (UB Tryz.prog 175) (some 3) := ⟨kr⟩
instance : Fct (UB Tryz.prog 216) (some 16) := ⟨kr⟩
instance : Fct (UB Tryz.prog 23) (some 1) := ⟨kr⟩
instance : Fct (UB Tryz.prog 239) (some 4) := ⟨kr⟩
instance : Fct (UB Tryz.prog 24) (some 2) := ⟨kr⟩
instance : Fct (UB Tryz.prog 26) (some 6) := ⟨kr⟩
instance : Fct (UB Tryz.prog 29) (some 2) := ⟨kr⟩
instance : Fct (UB Tryz.prog 3) (some 1) := ⟨kr⟩
instance : Fct (UB Tryz.prog 34) (some 1) := ⟨kr⟩
instance : Fct (UB Tryz.prog 36) (some 6) := ⟨kr⟩
instance : Fct (UB Tryz.prog 38) (some 2) := ⟨kr⟩
instance : Fct (UB Tryz.prog 39) (some 1) := ⟨kr⟩
instance : Fct (UB Tryz.prog 40) (some 1) := ⟨kr⟩
instance : Fct (UB Tryz.prog 43) (some 6) := ⟨kr⟩
instance : Fct (UB Tryz.prog 5) (some 1) := ⟨kr⟩
instance : Fct (UB Tryz.prog 50) (some 2) := ⟨kr⟩
instance : Fct (UB Tryz.prog 57) (some 8) := ⟨kr⟩
instance : Fct (UB Tryz.prog 66) (some 3) := ⟨kr⟩
instance : Fct (UB Tryz.prog 80) (some 1) := ⟨kr⟩
instance : Fct (UB Tryz.prog 83) (some 2) := ⟨kr⟩
instance : Fct (UB Tryz.prog 87) (some 2) := ⟨kr⟩
instance : Fct (UB Tryz.prog 89) (some 1) := ⟨kr⟩
instance : Fct (UB Tryz.prog 92) (some 12) := ⟨kr⟩
instance : Fct (eD Tryz.prog 100) (some (3, 1)) := ⟨kr⟩
instance : Fct (eD Tryz.prog 102) (some (154, 3)) := ⟨kr⟩
instance : Fct (eD Tryz.prog 173) (some (210, 3)) := ⟨kr⟩
instance : Fct (eD Tryz.prog 182) (some (87, 2)) := ⟨kr⟩
instance : Fct (eD Tryz.prog 22) (some (36, 6)) := ⟨kr⟩
instance : Fct (eD Tryz.prog 23) (some (34, 1)) := ⟨kr⟩
instance : Fct (eD Tryz.prog 39) (some (66, 3)) := ⟨kr⟩
instance : Fct (eD Tryz.prog 40) (some (121, 5)) := ⟨kr⟩
instance : Fct (eD Tryz.prog 74) (some (127, 1)) := ⟨kr⟩
instance : Fct (eD Tryz.prog 80) (some (91, 6)) := ⟨kr⟩
instance : Fct (eD Tryz.prog 89) (some (83, 2)) := ⟨kr⟩
instance : Fct (typeHandle Tryz.prog 31) (.pointer (some ⟨1, 31, none⟩)) := ⟨kr⟩
instance : Fct (YB Tryz.prog 104) (some (.agg #[.int .i64 0, .slice none 0 0, .slice none 0 0])) := ⟨kr⟩
instance : Fct (YB Tryz.prog 114) (some (.agg #[.slice none 0 0, .slice none 0 0, .slice none 0 0])) := ⟨kr⟩
instance : Fct (YB Tryz.prog 117) (some (.agg (List.replicate 5 (.int .u64 0)).toArray)) := ⟨kr⟩
instance : Fct (YB Tryz.prog 119) (some (.agg (List.replicate 4 (.int .u64 0)).toArray)) := ⟨kr⟩
instance : Fct (YB Tryz.prog 121) (some (.agg #[.int .u64 0, .int .u64 0, .int .u64 0, .int .u64 0, .bool false])) := ⟨kr⟩
instance : Fct (YB Tryz.prog 122) (some (.pointer none)) := ⟨kr⟩
instance : Fct (YB Tryz.prog 126) (some (.agg #[.string ⟨#[]⟩, .int .i64 0, .int .i64 0, .nilIface])) := ⟨kr⟩
instance : Fct (YB Tryz.prog 127) (some (.int .i64 0)) := ⟨kr⟩
instance : Fct (YB Tryz.prog 129) (some (.agg #[.int .i64 0, .int .i64 0, .int .i64 0, .int .i64 0, .bool false, .bool false, .int .i64 0])) := ⟨kr⟩
instance : Fct (YB Tryz.prog 143) (some (.agg #[.int .i64 0, .slice none 0 0, .slice none 0 0])) := ⟨kr⟩
instance : Fct (YB Tryz.prog 145) (some (.agg (List.replicate 64 (.int .i64 0)).toArray)) := ⟨kr⟩
instance : Fct (YB Tryz.prog 146) (some (.agg (List.replicate 128 (.int .i64 0)).toArray)) := ⟨kr⟩
instance : Fct (YB Tryz.prog 154) (some (.agg #[.int .i64 0, .int .i64 0, .int .i64 0])) := ⟨kr⟩
instance : Fct (YB Tryz.prog 163) (some (.agg #[.pointer none, .pointer none, .int .u64 0])) := ⟨kr⟩
instance : Fct (YB Tryz.prog 175) (some (.agg #[.int .i64 0, .slice none 0 0, .slice none 0 0])) := ⟨kr⟩
instance : Fct (YB Tryz.prog 210) (some (.agg #[.int .i64 0, .int .i64 0, .int .i64 0])) := ⟨kr⟩
instance : Fct (YB Tryz.prog 216) (some (.agg (List.replicate 16 (.int .u8 0)).toArray)) := ⟨kr⟩
instance : Fct (YB Tryz.prog 232) (some (.agg (List.replicate 432 (.int .u8 0)).toArray)) := ⟨kr⟩
instance : Fct (YB Tryz.prog 239) (some (.agg (List.replicate 4 (.int .u8 0)).toArray)) := ⟨kr⟩
instance : Fct (YB Tryz.prog 24) (some (.agg (List.replicate 2 (.slice none 0 0)).toArray)) := ⟨kr⟩
instance : Fct (YB Tryz.prog 29) (some (.agg (List.replicate 2 (.int .i64 0)).toArray)) := ⟨kr⟩
instance : Fct (YB Tryz.prog 3) (some (.int .i64 0)) := ⟨kr⟩
instance : Fct (YB Tryz.prog 34) (some (.int .u64 0)) := ⟨kr⟩
instance : Fct (YB Tryz.prog 36) (some (.agg #[.int .i64 0, .int .i64 0, .int .i64 0, .int .i64 0, .int .u64 0, .int .i64 0])) := ⟨kr⟩
instance : Fct (YB Tryz.prog 38) (some (.agg (List.replicate 2 (.pointer none)).toArray)) := ⟨kr⟩
instance : Fct (YB Tryz.prog 43) (some (.agg (List.replicate 6 (.slice none 0 0)).toArray)) := ⟨kr⟩
instance : Fct (YB Tryz.prog 50) (some (.agg (List.replicate 2 (.pointer none)).toArray)) := ⟨kr⟩
instance : Fct (YB Tryz.prog 57) (some (.agg #[.int .i64 0, .int .i64 0, .int .i64 0, .int .i64 0, .int .i64 0, .int .i64 0, .int .i64 0, .int .i64 0])) := ⟨kr⟩
instance : Fct (YB Tryz.prog 66) (some (.agg #[.int .u64 0, .int .u64 0, .int .u64 0])) := ⟨kr⟩
instance : Fct (YB Tryz.prog 81) (some (.agg (List.replicate 2 (.slice none 0 0)).toArray)) := ⟨kr⟩
instance : Fct (YB Tryz.prog 83) (some (.agg (List.replicate 2 (.int .u64 0)).toArray)) := ⟨kr⟩
instance : Fct (YB Tryz.prog 87) (some (.agg (List.replicate 2 (.int .u64 0)).toArray)) := ⟨kr⟩
instance : Fct (YB Tryz.prog 91) (some (.agg #[.int .u64 0, .int .u64 0, .int .u64 0, .int .u64 0, .slice none 0 0, .slice none 0 0])) := ⟨kr⟩
instance : Fct (YB Tryz.prog 92) (some (.agg #[.int .u64 0, .int .u64 0, .int .u64 0, .int .u64 0, .slice none 0 0, .slice none 0 0, .int .u64 0, .int .u64 0, .int .u64 0, .int .u64 0, .slice none 0 0, .slice none 0 0])) := ⟨kr⟩
instance : Fct (YB Tryz.prog 96) (some (.agg #[.slice none 0 0, .pointer none, .int .i64 0, .int .i64 0])) := ⟨kr⟩
instance : Fit Tryz.prog 121 zB := ⟨wL (by kernel_rfl) (by kernel_rfl)⟩
instance : Fit Tryz.prog 127 EI := ⟨OF (by kernel_rfl) (by kernel_rfl)⟩
instance : Fit Tryz.prog 154 EG := ⟨yW (by kernel_rfl) (by kernel_rfl)⟩
instance : Fit Tryz.prog 3 EI := ⟨OF (by kernel_rfl) (by kernel_rfl)⟩
instance : Fit Tryz.prog 34 E64 := ⟨UE (by kernel_rfl) (by kernel_rfl)⟩
instance : Fit Tryz.prog 36 xE := ⟨kI (by kernel_rfl) (by kernel_rfl)⟩
instance : Fit Tryz.prog 5 E8 := ⟨zT (by kernel_rfl) (by kernel_rfl)⟩
instance : Fit Tryz.prog 66 PA := ⟨eQ (by kernel_rfl) (by kernel_rfl)⟩
instance : Fit Tryz.prog 83 bB := ⟨TJ (by kernel_rfl) (by kernel_rfl)⟩
instance : Fit Tryz.prog 83 bB := ⟨⟨by kernel_rfl, .inr ⟨by kernel_rfl, fun _ => rfl⟩⟩⟩
instance : Fit Tryz.prog 87 bB := ⟨TJ (by kernel_rfl) (by kernel_rfl)⟩
instance : Fit Tryz.prog 91 IB := ⟨dV (by kernel_rfl) (by kernel_rfl)⟩
instance : ZerO Tryz.prog 104 (.cells #[i64 ((0 : Int)), .slice none 0 0, .slice none 0 0] 104 (0, 0)) := ⟨_, (by kernel_rfl : YB Tryz.prog 104 = some (.agg #[.int .i64 0, .slice none 0 0, .slice none 0 0])), by kernel_rfl⟩
instance : ZerO Tryz.prog 117 (.cells (uA E64 (List.replicate 5 0#64)).toArray 117 (0, 0)) := ⟨_, (by kernel_rfl : YB Tryz.prog 117 = some (.agg (List.replicate 5 (.int .u64 0)).toArray)), by kernel_rfl⟩
instance : ZerO Tryz.prog 121 (.cells #[u64 (0#64), u64 (0#64), u64 (0#64), u64 (0#64), .bool (false)] 121 (0, 0)) := ⟨_, (by kernel_rfl : YB Tryz.prog 121 = some (.agg #[.int .u64 0, .int .u64 0, .int .u64 0, .int .u64 0, .bool false])), by kernel_rfl⟩
instance : ZerO Tryz.prog 122 (.cells #[.pointer none] 122 (0, 0)) := ⟨_, (by kernel_rfl : YB Tryz.prog 122 = some (.pointer none)), by kernel_rfl⟩
instance : ZerO Tryz.prog 129 (.cells #[i64 ((0 : Int)), i64 ((0 : Int)), i64 ((0 : Int)), i64 ((0 : Int)), .bool (false), .bool (false), i64 ((0 : Int))] 129 (0, 0)) := ⟨_, (by kernel_rfl : YB Tryz.prog 129 = some (.agg #[.int .i64 0, .int .i64 0, .int .i64 0, .int .i64 0, .bool false, .bool false, .int .i64 0])), by kernel_rfl⟩
instance : ZerO Tryz.prog 145 (.cells (uA EI (List.replicate 64 0)).toArray 145 (0, 0)) := ⟨_, (by kernel_rfl : YB Tryz.prog 145 = some (.agg (List.replicate 64 (.int .i64 0)).toArray)), by kernel_rfl⟩
instance : ZerO Tryz.prog 146 (.cells (uA EI (List.replicate 128 0)).toArray 146 (0, 0)) := ⟨_, (by kernel_rfl : YB Tryz.prog 146 = some (.agg (List.replicate 128 (.int .i64 0)).toArray)), by kernel_rfl⟩
instance : ZerO Tryz.prog 154 (.cells #[i64 ((0 : Int)), i64 ((0 : Int)), i64 ((0 : Int))] 154 (0, 0)) := ⟨_, (by kernel_rfl : YB Tryz.prog 154 = some (.agg #[.int .i64 0, .int .i64 0, .int .i64 0])), by kernel_rfl⟩
instance : ZerO Tryz.prog 163 (.cells #[.pointer none, .pointer none, u64 (0#64)] 163 (0, 0)) := ⟨_, (by kernel_rfl : YB Tryz.prog 163 = some (.agg #[.pointer none, .pointer none, .int .u64 0])), by kernel_rfl⟩
instance : ZerO Tryz.prog 175 (.cells #[i64 ((0 : Int)), .slice none 0 0, .slice none 0 0] 175 (0, 0)) := ⟨_, (by kernel_rfl : YB Tryz.prog 175 = some (.agg #[.int .i64 0, .slice none 0 0, .slice none 0 0])), by kernel_rfl⟩
instance : ZerO Tryz.prog 216 (.cells (uA E8 (List.replicate 16 0#8)).toArray 216 (0, 0)) := ⟨_, (by kernel_rfl : YB Tryz.prog 216 = some (.agg (List.replicate 16 (.int .u8 0)).toArray)), by kernel_rfl⟩
instance : ZerO Tryz.prog 239 (.cells (uA E8 ([0#8, 0#8, 0#8, 0#8])).toArray 239 (0, 0)) := ⟨_, (by kernel_rfl : YB Tryz.prog 239 = some (.agg (List.replicate 4 (.int .u8 0)).toArray)), by kernel_rfl⟩
instance : ZerO Tryz.prog 24 (.cells #[.slice none 0 0, .slice none 0 0] 24 (0, 0)) := ⟨_, (by kernel_rfl : YB Tryz.prog 24 = some (.agg (List.replicate 2 (.slice none 0 0)).toArray)), by kernel_rfl⟩
instance : ZerO Tryz.prog 26 (.cells #[.slice none 0 0, .slice none 0 0, .slice none 0 0, .slice none 0 0, .slice none 0 0, .slice none 0 0] 26 (0, 0)) := ⟨_, (by kernel_rfl : YB Tryz.prog 26 = some (.agg #[.slice none 0 0, .slice none 0 0, .slice none 0 0, .slice none 0 0, .slice none 0 0, .slice none 0 0])), by kernel_rfl⟩
instance : ZerO Tryz.prog 29 (.cells (uA EI ([0, 0])).toArray 29 (0, 0)) := ⟨_, (by kernel_rfl : YB Tryz.prog 29 = some (.agg (List.replicate 2 (.int .i64 0)).toArray)), by kernel_rfl⟩
instance : ZerO Tryz.prog 36 (.cells #[i64 ((0 : Int)), i64 ((0 : Int)), i64 ((0 : Int)), i64 ((0 : Int)), u64 (0#64), i64 ((0 : Int))] 36 (0, 0)) := ⟨_, (by kernel_rfl : YB Tryz.prog 36 = some (.agg #[.int .i64 0, .int .i64 0, .int .i64 0, .int .i64 0, .int .u64 0, .int .i64 0])), by kernel_rfl⟩
instance : ZerO Tryz.prog 38 (.cells #[.pointer none, .pointer none] 38 (0, 0)) := ⟨_, (by kernel_rfl : YB Tryz.prog 38 = some (.agg (List.replicate 2 (.pointer none)).toArray)), by kernel_rfl⟩
instance : ZerO Tryz.prog 43 (.cells #[.slice none 0 0, .slice none 0 0, .slice none 0 0, .slice none 0 0, .slice none 0 0, .slice none 0 0] 43 (0, 0)) := ⟨_, (by kernel_rfl : YB Tryz.prog 43 = some (.agg (List.replicate 6 (.slice none 0 0)).toArray)), by kernel_rfl⟩
instance : ZerO Tryz.prog 50 (.cells #[.pointer none, .pointer none] 50 (0, 0)) := ⟨_, (by kernel_rfl : YB Tryz.prog 50 = some (.agg (List.replicate 2 (.pointer none)).toArray)), by kernel_rfl⟩
instance : ZerO Tryz.prog 57 (.cells #[i64 ((0 : Int)), i64 ((0 : Int)), i64 ((0 : Int)), i64 ((0 : Int)), i64 ((0 : Int)), i64 ((0 : Int)), i64 ((0 : Int)), i64 ((0 : Int))] 57 (0, 0)) := ⟨_, (by kernel_rfl : YB Tryz.prog 57 = some (.agg #[.int .i64 0, .int .i64 0, .int .i64 0, .int .i64 0, .int .i64 0, .int .i64 0, .int .i64 0, .int .i64 0])), by kernel_rfl⟩
instance : ZerO Tryz.prog 66 (.cells #[u64 (0#64), u64 (0#64), u64 (0#64)] 66 (0, 0)) := ⟨_, (by kernel_rfl : YB Tryz.prog 66 = some (.agg #[.int .u64 0, .int .u64 0, .int .u64 0])), by kernel_rfl⟩
instance : ZerO Tryz.prog 81 (.cells #[.slice none 0 0, .slice none 0 0] 81 (0, 0)) := ⟨_, (by kernel_rfl : YB Tryz.prog 81 = some (.agg (List.replicate 2 (.slice none 0 0)).toArray)), by kernel_rfl⟩
instance : ZerO Tryz.prog 83 (.cells (uA E64 ([0#64, 0#64])).toArray 83 (0, 0)) := ⟨_, (by kernel_rfl : YB Tryz.prog 83 = some (.agg (List.replicate 2 (.int .u64 0)).toArray)), by kernel_rfl⟩
instance : ZerO Tryz.prog 87 (.cells (uA E64 ([0#64, 0#64])).toArray 87 (0, 0)) := ⟨_, (by kernel_rfl : YB Tryz.prog 87 = some (.agg (List.replicate 2 (.int .u64 0)).toArray)), by kernel_rfl⟩
instance : ArrE _ Tryz.prog 117 E64 := ⟨trivial⟩
instance : ArrE _ Tryz.prog 145 EI := ⟨trivial⟩
instance : ArrE _ Tryz.prog 216 E8 := ⟨trivial⟩
instance : ArrE _ Tryz.prog 230 E8 := ⟨trivial⟩
instance : ArrE _ Tryz.prog 239 E8 := ⟨trivial⟩
instance : ArrE _ Tryz.prog 29 EI := ⟨trivial⟩
instance : ArrE _ Tryz.prog 83 E64 := ⟨trivial⟩
instance : ArrE _ Tryz.prog 87 E64 := ⟨trivial⟩
instance : Dft bB Gb.kB := ⟨trivial⟩
end Go.Proofs.YtohngnahcgbfmaaGreatDoor
namespace Go.Proofs.YtohngnahcgbfmaaGreatDoor.Vc
open Go
abbrev NB := BitVec 64 × BitVec 64
abbrev pT (b : Nat) : Value := .pointer (some ⟨b, 0, none⟩)
theorem dB {n m : Nat} (h : Nat.ble n m = true) : n ≤ m := Nat.le_of_ble_eq_true h
theorem sR {P : Program} {n : Nat} {Q : Exit → Act → World → Prop} {ρ : TA} {w : World} {id : Nat} {l : List Oper} {y : Code} (h : W P n l.toArray (Exit.then (y.wp P Q) Q) l ρ w) : (Code.seq (.region id l.toArray false) y).wp P Q (St n ρ) w := OG h
theorem gW {P : Program} {n : Nat} {ops : Array Oper} {ρ : TA} {o : Oper} {w : World} {S : Value → World → Prop} {d : Nat} (h : ∀ Q' : Exit → Act → World → Prop, (∀ u w', S u w' → W P n ops Q' [] (sB ρ (some d) u) w') → W P n ops Q' [o] ρ w) (hd : o.dst = some d := by rfl) (hn : Nat.blt d n = true := by rfl) : Gives P n ops ρ o w S := Gives.ofW hd hn h
theorem MC {P : Program} {n : Nat} {ops : Array Oper} {ρ : TA} {o : Oper} {w : World} {S : Value → World → Prop} (h : ∀ Q' : Exit → Act → World → Prop, (∀ w', (∀ u, S u w') → W P n ops Q' [] ρ w') → W P n ops Q' [o] ρ w) (hd : o.dst = none := by rfl) : Gives P n ops ρ o w S := Gives.ofW0 hd h
theorem vd {a b : Nat} (h : a < b := by first | omega | (dsimp only; omega)) : a < b := h
theorem rG1 {P : Program} {n : Nat} {ρ : TA} {w : World} {fn : Func} {R : Ending → World → Prop} (d : Nat) (v : Value) (hr : fn.results = #[.tmp d]) (hd : Nat.blt d n = true ∧ ρ d = v) (hR : R (.returned v) w) : bodyPost P fn R .ret (St n ρ) w := sK (rs := [.tmp d]) (vs := [v]) hr ⟨hd, trivial⟩ hR
section
variable {M : Nat → Prop} {w₀ w : World} {L R : List RW}
theorem Hp.a1 (H : Hp M w₀ w L) {a0 : RW} (e : L = [a0]) : Hp M w₀ w [a0] := e ▸ H
theorem Hp.b1 (H : Hp M w₀ w L) {a0 : RW} (e : L = a0 :: R) : Hp M w₀ w (a0 :: R) := e ▸ H
theorem Hp.a2 (H : Hp M w₀ w L) {a0 a1 : RW} (e : L = [a0, a1]) : Hp M w₀ w [a0, a1] := e ▸ H
theorem Hp.b2 (H : Hp M w₀ w L) {a0 a1 : RW} (e : L = a0 :: a1 :: R) : Hp M w₀ w (a0 :: a1 :: R) := e ▸ H
theorem Hp.a3 (H : Hp M w₀ w L) {a0 a1 a2 : RW} (e : L = [a0, a1, a2]) : Hp M w₀ w [a0, a1, a2] := e ▸ H
theorem Hp.b3 (H : Hp M w₀ w L) {a0 a1 a2 : RW} (e : L = a0 :: a1 :: a2 :: R) : Hp M w₀ w (a0 :: a1 :: a2 :: R) := e ▸ H
theorem Hp.a4 (H : Hp M w₀ w L) {a0 a1 a2 a3 : RW} (e : L = [a0, a1, a2, a3]) : Hp M w₀ w [a0, a1, a2, a3] := e ▸ H
theorem Hp.b4 (H : Hp M w₀ w L) {a0 a1 a2 a3 : RW} (e : L = a0 :: a1 :: a2 :: a3 :: R) : Hp M w₀ w (a0 :: a1 :: a2 :: a3 :: R) := e ▸ H
theorem Hp.a5 (H : Hp M w₀ w L) {a0 a1 a2 a3 a4 : RW} (e : L = [a0, a1, a2, a3, a4]) : Hp M w₀ w [a0, a1, a2, a3, a4] := e ▸ H
theorem Hp.a6 (H : Hp M w₀ w L) {a0 a1 a2 a3 a4 a5 : RW} (e : L = [a0, a1, a2, a3, a4, a5]) : Hp M w₀ w [a0, a1, a2, a3, a4, a5] := e ▸ H
theorem Hp.b6 (H : Hp M w₀ w L) {a0 a1 a2 a3 a4 a5 : RW} (e : L = a0 :: a1 :: a2 :: a3 :: a4 :: a5 :: R) : Hp M w₀ w (a0 :: a1 :: a2 :: a3 :: a4 :: a5 :: R) := e ▸ H
theorem Hp.a7 (H : Hp M w₀ w L) {a0 a1 a2 a3 a4 a5 a6 : RW} (e : L = [a0, a1, a2, a3, a4, a5, a6]) : Hp M w₀ w [a0, a1, a2, a3, a4, a5, a6] := e ▸ H
theorem Hp.b7 (H : Hp M w₀ w L) {a0 a1 a2 a3 a4 a5 a6 : RW} (e : L = a0 :: a1 :: a2 :: a3 :: a4 :: a5 :: a6 :: R) : Hp M w₀ w (a0 :: a1 :: a2 :: a3 :: a4 :: a5 :: a6 :: R) := e ▸ H
theorem Hp.a8 (H : Hp M w₀ w L) {a0 a1 a2 a3 a4 a5 a6 a7 : RW} (e : L = [a0, a1, a2, a3, a4, a5, a6, a7]) : Hp M w₀ w [a0, a1, a2, a3, a4, a5, a6, a7] := e ▸ H
theorem Hp.b8 (H : Hp M w₀ w L) {a0 a1 a2 a3 a4 a5 a6 a7 : RW} (e : L = a0 :: a1 :: a2 :: a3 :: a4 :: a5 :: a6 :: a7 :: R) : Hp M w₀ w (a0 :: a1 :: a2 :: a3 :: a4 :: a5 :: a6 :: a7 :: R) := e ▸ H
theorem Hp.a9 (H : Hp M w₀ w L) {a0 a1 a2 a3 a4 a5 a6 a7 a8 : RW} (e : L = [a0, a1, a2, a3, a4, a5, a6, a7, a8]) : Hp M w₀ w [a0, a1, a2, a3, a4, a5, a6, a7, a8] := e ▸ H
theorem Hp.a10 (H : Hp M w₀ w L) {a0 a1 a2 a3 a4 a5 a6 a7 a8 a9 : RW} (e : L = [a0, a1, a2, a3, a4, a5, a6, a7, a8, a9]) : Hp M w₀ w [a0, a1, a2, a3, a4, a5, a6, a7, a8, a9] := e ▸ H
theorem Hp.b10 (H : Hp M w₀ w L) {a0 a1 a2 a3 a4 a5 a6 a7 a8 a9 : RW} (e : L = a0 :: a1 :: a2 :: a3 :: a4 :: a5 :: a6 :: a7 :: a8 :: a9 :: R) : Hp M w₀ w (a0 :: a1 :: a2 :: a3 :: a4 :: a5 :: a6 :: a7 :: a8 :: a9 :: R) := e ▸ H
theorem Hp.a11 (H : Hp M w₀ w L) {a0 a1 a2 a3 a4 a5 a6 a7 a8 a9 a10 : RW} (e : L = [a0, a1, a2, a3, a4, a5, a6, a7, a8, a9, a10]) : Hp M w₀ w [a0, a1, a2, a3, a4, a5, a6, a7, a8, a9, a10] := e ▸ H
theorem Hp.a12 (H : Hp M w₀ w L) {a0 a1 a2 a3 a4 a5 a6 a7 a8 a9 a10 a11 : RW} (e : L = [a0, a1, a2, a3, a4, a5, a6, a7, a8, a9, a10, a11]) : Hp M w₀ w [a0, a1, a2, a3, a4, a5, a6, a7, a8, a9, a10, a11] := e ▸ H
theorem Hp.b12 (H : Hp M w₀ w L) {a0 a1 a2 a3 a4 a5 a6 a7 a8 a9 a10 a11 : RW} (e : L = a0 :: a1 :: a2 :: a3 :: a4 :: a5 :: a6 :: a7 :: a8 :: a9 :: a10 :: a11 :: R) : Hp M w₀ w (a0 :: a1 :: a2 :: a3 :: a4 :: a5 :: a6 :: a7 :: a8 :: a9 :: a10 :: a11 :: R) := e ▸ H
theorem Hp.a13 (H : Hp M w₀ w L) {a0 a1 a2 a3 a4 a5 a6 a7 a8 a9 a10 a11 a12 : RW} (e : L = [a0, a1, a2, a3, a4, a5, a6, a7, a8, a9, a10, a11, a12]) : Hp M w₀ w [a0, a1, a2, a3, a4, a5, a6, a7, a8, a9, a10, a11, a12] := e ▸ H
theorem Hp.a14 (H : Hp M w₀ w L) {a0 a1 a2 a3 a4 a5 a6 a7 a8 a9 a10 a11 a12 a13 : RW} (e : L = [a0, a1, a2, a3, a4, a5, a6, a7, a8, a9, a10, a11, a12, a13]) : Hp M w₀ w [a0, a1, a2, a3, a4, a5, a6, a7, a8, a9, a10, a11, a12, a13] := e ▸ H
theorem Hp.a15 (H : Hp M w₀ w L) {a0 a1 a2 a3 a4 a5 a6 a7 a8 a9 a10 a11 a12 a13 a14 : RW} (e : L = [a0, a1, a2, a3, a4, a5, a6, a7, a8, a9, a10, a11, a12, a13, a14]) : Hp M w₀ w [a0, a1, a2, a3, a4, a5, a6, a7, a8, a9, a10, a11, a12, a13, a14] := e ▸ H
theorem Hp.a16 (H : Hp M w₀ w L) {a0 a1 a2 a3 a4 a5 a6 a7 a8 a9 a10 a11 a12 a13 a14 a15 : RW} (e : L = [a0, a1, a2, a3, a4, a5, a6, a7, a8, a9, a10, a11, a12, a13, a14, a15]) : Hp M w₀ w [a0, a1, a2, a3, a4, a5, a6, a7, a8, a9, a10, a11, a12, a13, a14, a15] := e ▸ H
end
theorem ZH {v : Value} (h : v.cells.toList.all (·.oneCell') = true) : ∀ u ∈ v.cells.toList, u.oneCell' = true := fun u hu => List.all_eq_true.1 h u hu
theorem RL {P : Program} {n : Nat} {ops : Array Oper} {Q : Exit → Act → World → Prop} {ρ : TA} {w : World} {d : Option Nat} {x : Operand} {t : TypeId} {pos : String} {after : Array Edge} {rest : List Oper} (h : W P n ops Q rest (sB ρ d (ev n ρ x)) w) : W P n ops Q (⟨d, .move x, t, pos, after, none⟩ :: rest) ρ w := sq (CA rfl) h
theorem XK {P : Program} {n : Nat} {ops : Array Oper} {Q : Exit → Act → World → Prop} {ρ : TA} {w : World} {d : Option Nat} {x : Operand} {t : TypeId} {pos : String} {after : Array Edge} {rest : List Oper} (h : W P n ops Q rest (sB ρ d (ev n ρ x)) w) : W P n ops Q (⟨d, .assign x, t, pos, after, none⟩ :: rest) ρ w := sq (zA rfl) h
abbrev iN (n : Nat) : Value := i64 (n : Int)
abbrev yA : Value := .slice none 0 0
abbrev rC (b : Nat) (x : Array Value) (t : TypeId) : RW := (some b, .cells x t (0, 0))
abbrev rX {α : Type} (b : Nat) (E : Enc α) (l : List α) (t : TypeId) : RW := (some b, .cells (uA E l).toArray t (0, 0))
theorem wS {P : Program} {n : Nat} {ops : Array Oper} {Q : Exit → Act → World → Prop} {ρ : TA} {w : World} {id : Nat} {l : List Oper} {y : Code} (h : W P n l.toArray (Exit.then (y.wp P Q) Q) l ρ w) : W P n ops (Exit.then ((Code.seq (.region id l.toArray false) y).wp P Q) Q) [] ρ w := jF (OG h)
abbrev sO (k : Option Nat) (n c : Nat) : Value := .slice (sA k) n c
theorem mT {α : Type} {a b : α} {l : List α} (h : a ∈ l) : a ∈ b :: l := List.mem_cons_of_mem _ h
theorem vF {α : Type} {a b : α} [h : Fct a b] : a = b := h.h
abbrev Ca (f : Nat) (l : LV) (w : World) (R : Value → World → Prop) : Prop := Calls Tryz.prog f l.toArray w (NM R)
theorem bT {p : Prop} {_ : Decidable p} (h : p) : Value.bool (decide p) = .bool true := congrArg Value.bool (decide_eq_true h)
theorem bF {p : Prop} {_ : Decidable p} (h : ¬ p) : Value.bool (decide p) = .bool false := congrArg Value.bool (decide_eq_false h)
theorem Hp.lT {M : Nat → Prop} {w₀ w : World} {L : List RW} (H : Hp M w₀ w L) (i : Nat) {b : Nat} {o : Obj} (h : L[i]? = some (some b, o) := by rfl) : b < w.heap.size := H.lt (List.mem_of_getElem? h) rfl
theorem tA {a : Prop} (h : a) : a ∧ True := ⟨h, trivial⟩
theorem tB {a b : Prop} (h : a) (k : b) : a ∧ b ∧ True := ⟨h, k, trivial⟩
theorem EC {p : Prop} (h : p := by (repeat (refine A_ (fun _ _ vh => ?_) ?_; · (repeat (first | replace vh := And.right vh | refine Exists.elim vh fun _ vh => ?_)); (repeat (first | exact vh | exact vh.lft | replace vh := vh.drop1)))); exact trivial) : p := h
theorem vo {p : Prop} (h : p := by first | rfl | omega | (simp; omega)) : p := h
end Go.Proofs.YtohngnahcgbfmaaGreatDoor.Vc
namespace Go.Proofs.YtohngnahcgbfmaaGreatDoor.Er
open Go Vc
theorem call124 : mA Tryz.prog 124 = true := by kernel_rfl
theorem call39 : mA Tryz.prog 39 = true := by kernel_rfl
theorem call58 : mA Tryz.prog 58 = true := by kernel_rfl
theorem cmpI63 : xS Tryz.prog 63 = true := by kernel_rfl
theorem GN : ZR Tryz.prog 122 198 = true := by kernel_rfl
theorem IK : xI Tryz.prog 31 = true := by kernel_rfl
theorem EN : QD Tryz.prog 122 195 = true := by kernel_rfl
theorem MP : QD Tryz.prog 63 195 = true := by kernel_rfl
theorem HK : QD Tryz.prog 63 198 = true := by kernel_rfl
theorem GK : QD Tryz.prog 63 200 = true := by kernel_rfl
theorem LP : QD Tryz.prog 63 205 = true := by kernel_rfl
theorem LU : NA Tryz.prog 157 = true := by kernel_rfl
theorem bU : Tryz.prog.underlying 122 = some (.pointer 126) := by kernel_rfl
theorem aU : Tryz.prog.underlying 124 = some (.pointer 122) := by kernel_rfl
theorem KL : Tryz.prog.underlying 63 = some (.int .i64) := by kernel_rfl
theorem GH (v : Value) (w : World) : Xc Tryz.prog 57 [.iface 63 v] w (fun r w' => r = .iface 193 (.agg #[.pointer (some ⟨1, 63, none⟩)]) ∧ w = w') :=
 Xc.of (e := Extern.ReflectliteType.typeOf) Tryz.func57 (by kernel_rfl) (by kernel_rfl) (by kernel_rfl) (by kernel_rfl) (by kernel_rfl) ⟨rfl, rfl⟩
theorem gK (v : Value) (w : World) : Xc Tryz.prog 57 [.iface 122 v] w (fun r w' => r = .iface 193 (.agg #[.pointer (some ⟨1, 122, none⟩)]) ∧ w = w') :=
 Xc.of (e := Extern.ReflectliteType.typeOf) Tryz.func57 (by kernel_rfl) (by kernel_rfl) (by kernel_rfl) (by kernel_rfl) (by kernel_rfl) ⟨rfl, rfl⟩
theorem fJ  (w : World) : Xc Tryz.prog 130 [.agg #[.pointer (some ⟨1, 63, none⟩)]] w (fun r w' => r = .bool true ∧ w = w') :=
 Xc.of (e := (Extern.ReflectliteType.method fun t => do Extern.Rtype.noPackHeld "Comparable" t; pure (.bool (← typeInfo t).comparable))) Tryz.func130 (by kernel_rfl) (by kernel_rfl) (by kernel_rfl) (by kernel_rfl) (by kernel_rfl) ⟨rfl, rfl⟩
theorem JH  (w : World) : Xc Tryz.prog 129 [.agg #[.pointer (some ⟨1, 63, none⟩)], .iface 193 (.agg #[.pointer (some ⟨1, 122, none⟩)])] w (fun r w' => r = .bool false ∧ w = w') :=
 Xc.of (e := (Extern.ReflectliteType.relation "AssignableTo" Extern.ReflectliteType.assignableTo)) Tryz.func129 (by kernel_rfl) (by kernel_rfl) (by kernel_rfl) (by kernel_rfl) (by kernel_rfl) ⟨rfl, rfl⟩
theorem qH  (w : World) : Xc Tryz.prog 129 [.agg #[.pointer (some ⟨1, 122, none⟩)], .iface 193 (.agg #[.pointer (some ⟨1, 122, none⟩)])] w (fun r w' => r = .bool true ∧ w = w') :=
 Xc.of (e := (Extern.ReflectliteType.relation "AssignableTo" Extern.ReflectliteType.assignableTo)) Tryz.func129 (by kernel_rfl) (by kernel_rfl) (by kernel_rfl) (by kernel_rfl) (by kernel_rfl) ⟨rfl, rfl⟩
theorem bG (t : Addr) (w : World) : Xc Tryz.prog 59 [.iface 124 (.pointer (some t))] w (fun r w' => ∃ b, r = .agg #[.pointer (some ⟨1, 124, none⟩), pT b, .int .u64 150] ∧ w.heap.size ≤ b ∧ w'.heap[b]? = some (.cells #[.pointer (some t)] 124 (0, 0)) ∧ Ext w w') :=
 Xc.of (e := (fun args => Extern.ReflectliteValue.unpack (args.getD 0 (.tuple #[])))) (v := .agg #[.pointer (some ⟨1, 124, none⟩), .pointer (some ⟨w.heap.size, 0, none⟩), .int .u64 150]) (w' := w.alloc (.cells #[.pointer (some t)] 124)) Tryz.func59 (by kernel_rfl) (by kernel_rfl) (by kernel_rfl) (by kernel_rfl) (by kernel_rfl) ⟨w.heap.size, rfl, Nat.le_refl _, gE _ _, Ext.alloc _ _⟩
theorem zI (a : Addr) (w : World) : Xc Tryz.prog 60 [.agg #[.pointer (some ⟨1, 124, none⟩), .pointer (some a), .int .u64 150]] w (fun r w' => r = .iface 193 (.agg #[.pointer (some ⟨1, 124, none⟩)]) ∧ w = w') :=
 Xc.of (e := (Extern.ReflectliteValue.methodAny (Extern.ReflectliteValue.valueError "reflectlite.Value.Type" 0) (fun t _ _ _ => Extern.ReflectliteType.toType t))) Tryz.func60 (by kernel_rfl) (by kernel_rfl) (by kernel_rfl) (by kernel_rfl) (by kernel_rfl) ⟨rfl, rfl⟩
theorem AI  (w : World) : Xc Tryz.prog 119 [.pointer (some ⟨1, 124, none⟩)] w (fun r w' => r = u8 22#8 ∧ w = w') :=
 Xc.of (e := (Extern.ReflectliteType.abiMethod fun t => do pure (.int .u8 (← Extern.Rtype.kind t)))) Tryz.func119 (by kernel_rfl) (by kernel_rfl) (by kernel_rfl) (by kernel_rfl) (by kernel_rfl) ⟨rfl, rfl⟩
theorem BI  (w : World) : Xc Tryz.prog 119 [.pointer (some ⟨1, 122, none⟩)] w (fun r w' => r = u8 22#8 ∧ w = w') :=
 Xc.of (e := (Extern.ReflectliteType.abiMethod fun t => do pure (.int .u8 (← Extern.Rtype.kind t)))) Tryz.func119 (by kernel_rfl) (by kernel_rfl) (by kernel_rfl) (by kernel_rfl) (by kernel_rfl) ⟨rfl, rfl⟩
theorem rlm (z : Sem Value) (f : TypeId → Addr → Nat → Nat → Sem Value) (v : Value) : Extern.ReflectliteValue.method z f #[v] = (do match ← Extern.ReflectliteValue.parts v with | none => z | some (t, a, fl) => f t a fl (fl % 32)) := rfl
theorem vK (a : Addr) (w : World) : (Extern.ReflectliteValue.parts (.agg #[.pointer (some ⟨1, 124, none⟩), .pointer (some a), .int .u64 150])).run Tryz.prog w = .ok (some (124, a, 150)) w := by kernel_rfl
theorem IH (a p : Addr) (w : World) (ha : w.cell? a = some (.pointer (some p))) : Xc Tryz.prog 61 [.agg #[.pointer (some ⟨1, 124, none⟩), .pointer (some a), .int .u64 150]] w (fun r w' => r = .bool false ∧ w = w') :=
 Xc.of (e := (Extern.ReflectliteValue.method (Extern.ReflectliteValue.valueError "reflectlite.Value.IsNil" 0) Extern.ReflectliteValue.isNil)) Tryz.func61 (by kernel_rfl) (by kernel_rfl) (by kernel_rfl) (by kernel_rfl) (by show (Extern.ReflectliteValue.method _ _ #[_]).run _ _ = _; rw [rlm]; simp only [Sem.run_bind, vK, Result.andThen]; simp [Extern.ReflectliteValue.isNil, loadVar, isAgg, underlying, ha, Result.andThen]) ⟨rfl, rfl⟩
theorem DI  (w : World) : Xc Tryz.prog 131 [.agg #[.pointer (some ⟨1, 124, none⟩)]] w (fun r w' => r = .iface 193 (.agg #[.pointer (some ⟨1, 122, none⟩)]) ∧ w = w') :=
 Xc.of (e := (Extern.ReflectliteType.method Extern.ReflectliteType.elem)) Tryz.func131 (by kernel_rfl) (by kernel_rfl) (by kernel_rfl) (by kernel_rfl) (by kernel_rfl) ⟨rfl, rfl⟩
theorem CI  (w : World) : Xc Tryz.prog 132 [.agg #[.pointer (some ⟨1, 122, none⟩)], .iface 193 (.agg #[.pointer (some ⟨1, 31, none⟩)])] w (fun r w' => r = .bool true ∧ w = w') :=
 Xc.of (e := (Extern.ReflectliteType.relation "Implements" Extern.ReflectliteType.implements_)) Tryz.func132 (by kernel_rfl) (by kernel_rfl) (by kernel_rfl) (by kernel_rfl) (by kernel_rfl) ⟨rfl, rfl⟩
theorem HJ (v : Value) : XS Tryz.prog 193 "Comparable" (.agg #[v]) 130 (.agg #[v]) := fun w => by kernel_rfl
theorem oF (v : Value) : XS Tryz.prog 193 "AssignableTo" (.agg #[v]) 129 (.agg #[v]) := fun w => by kernel_rfl
theorem JP (v : Value) : XS Tryz.prog 193 "Elem" (.agg #[v]) 131 (.agg #[v]) := fun w => by kernel_rfl
theorem uG (v : Value) : XS Tryz.prog 193 "Implements" (.agg #[v]) 132 (.agg #[v]) := fun w => by kernel_rfl
theorem GJ (v : Value) : XS Tryz.prog 193 "Kind" (.agg #[v]) 119 v := fun w => by kernel_rfl
theorem IP (v : Value) : XS Tryz.prog 122 "Unwrap" v 124 v := fun w => by kernel_rfl
theorem SI : typeHandle Tryz.prog 31 = .pointer (some ⟨1, 31, none⟩) := by kernel_rfl
theorem VM (b : Nat) (nm : ByteArray) (at1 d : Int) (v1 : Value) (w : World) (hb : w.heap[b]? = some (.cells #[.string nm, i64 at1, i64 d, v1] 126 (0, 0))) : Ca 124 [pT b] w fun v w' => v1 = v ∧ Ext w w' := by
 have H := Hp.start No w
 refine enter (n := 7) Tryz.func124 rfl rfl (dB rfl) ?_
 refine go 6 ?_
 exact ⟨_, rfl, rfl, H.chg⟩
theorem XU (e e2 : Int) (k : Nat) (v : Value) (lo : Nat) (w : World) (hEr : Er lo w e k v) : Calls Tryz.prog 58 [v, .iface 63 (i64 e2), .bool true].toArray w (NM fun r w' => r = .bool (decide (e = e2)) ∧ Ext w w') := by
 have H := Hp.start No w
 refine enter (n := 54) Tryz.func58 rfl rfl (dB rfl) ?_
 refine go 1 ?_
 refine AA (σ := Value × Nat) (fun (v, k) => [(0, v), (1, .iface 63 (i64 e2)), (2, .bool true)]) (fun (v, k) w' => Er lo w' e k v ∧ Hp No w w' []) (fun (v, k) => k) ((v, k)) ?_ ?_ ?_
 ·exact kp
 ·exact ⟨hEr, H⟩
 rintro ⟨v, k⟩ ρ w1 ⟨hEr, HL⟩
 rcases k with _ | k
 ·obtain rfl : v = .iface 63 (i64 e) := hEr
  refine go 4 ?_
  refine LA (v := .bool (decide (e = e2))) (w' := w1) (gA (d' := 15) (b := true) rfl rfl rfl) (xR vF vF (a := e) (b := e2) rfl rfl) ?_
  refine go 1 ?_
  refine iA (e = e2) rfl (fun a0 => ?_) (fun a0 => ?_)
  ·refine go 1 ?_
   exact ⟨_, rfl, by first | (rw [decide_eq_true a0]; rfl) | (rw [decide_eq_false a0]; rfl), HL.chg⟩
  ·refine go 1 ?_
   refine sq (PE MP rfl) ?_
   refine go 9 ?_
   refine sq (PE HK rfl) ?_
   refine go 2 ?_
   refine sq (PE GK rfl) ?_
   refine go 4 ?_
   exact ⟨_, rfl, by first | (rw [decide_eq_true a0]; rfl) | (rw [decide_eq_false a0]; rfl), HL.chg⟩
 ·obtain ⟨b, nm, at1, v1, rfl, hlo, hb, d0⟩ := hEr
  refine go 4 ?_
  refine LA (v := .bool false) (w' := w1) (gA (d' := 15) (b := true) rfl rfl rfl) (wR vF rfl rfl rfl) ?_
  refine go 2 ?_
  refine sq (PE EN rfl) ?_
  refine go 9 ?_
  refine sq (WV GN rfl) ?_
  refine go 4 ?_
  refine eF (UA rfl _ _) (Enters.inv (vs := []) vF rfl (IP _) rfl) (VM b nm at1 _ v1 w1 hb) ?_
  rintro _ w3 ⟨rfl, b0⟩
  have H6 := HL.ext b0
  refine go 1 ?_
  have c0 := d0.ext b0
  obtain ⟨T1, x1, rfl⟩ := c0.iface
  refine go 2 ?_
  exact ⟨(.iface T1 x1, k), _, rfl, kp, ⟨c0, H6⟩, Nat.lt_succ_self k⟩
theorem WU (e e2 : Int) (k : Nat) (v : Value) (lo : Nat) (w : World) (hEr : Er lo w e k v) : Calls Tryz.prog 39 [v, .iface 63 (i64 e2)].toArray w (NM fun r w' => r = .bool (decide (e = e2)) ∧ Ext w w') := by
 obtain ⟨T0, x0, rfl⟩ := hEr.iface
 have H := Hp.start No w
 refine enter (n := 22) Tryz.func39 rfl rfl (dB rfl) (sR (XK (jF (PG (sR (RL (sq (xJ vF rfl rfl) (RL (LA (v := .iface 63 (i64 e2)) (w' := w) (gA (d' := 8) (b := false) rfl rfl rfl) (CA (v := .iface 63 (i64 e2)) rfl) (LA (v := .bool false) (w' := w) (gA (d' := 8) (b := false) rfl rfl rfl) (xJ vF rfl rfl) (sq (WB (v := .bool false) rfl rfl) (jF (dE rfl (ED ?_))))))))))))))
 refine RA (sR (RL (PH (UA rfl _ _) (cF (vs := [.iface 63 (i64 e2)]) rfl (GH (i64 e2) w)) ?_)))
 rintro _ _ ⟨rfl, rfl⟩
 refine PH (UA rfl _ _) (iE (vs := []) rfl (HJ _) rfl (fJ w)) ?_
 rintro _ _ ⟨rfl, rfl⟩
 refine XK (wS (RL (RL (RL (wQ vF rfl (XU e e2 k (.iface T0 x0) lo w (hEr.ext H.chg)) ?_)))))
 rintro _ w5 ⟨rfl, a0⟩
 have H7 := H.ext a0
 exact XK (jF (CD (rG1 4 (.bool (decide (e = e2))) rfl ⟨rfl, rfl⟩ (⟨_, rfl, rfl, H7.chg⟩))))
theorem iW (e e2 : Int) (k : Nat) (v : Value) (lo : Nat) (w : World) (hEr : Er lo w e k v) : Calls Tryz.prog 20 [v, i64 e2].toArray w (NM fun r w' => r = .bool (decide (e = e2)) ∧ Ext w w') := by
 obtain ⟨T0, x0, rfl⟩ := hEr.iface
 have H := Hp.start No w
 refine enter (n := 13) Tryz.func20 rfl rfl (dB rfl) (sR (XK (wS (RL (sq (oG vF rfl rfl) (RL (LA (v := .iface T0 x0) (w' := w) (gA (d' := 7) (b := true) rfl rfl rfl) (CA (v := .iface T0 x0) rfl) (LA (v := i64 e2) (w' := w) (gA (d' := 7) (b := true) rfl rfl rfl) (CA (v := i64 e2) rfl) (LA (v := .iface 63 (i64 e2)) (w' := w) (gA (d' := 7) (b := true) rfl rfl rfl) (kT vF (xv := i64 e2) rfl) (eF (gA (d' := 7) (b := true) rfl rfl rfl) (cA (vs := [.iface T0 x0, .iface 63 (i64 e2)]) vF rfl) (WU e e2 k (.iface T0 x0) lo w (hEr.ext H.chg)) ?_))))))))))
 rintro _ w1 ⟨rfl, a0⟩
 have H3 := H.ext a0
 exact sq (bC (u := .bool (decide (e = e2))) rfl rfl) (XK (jF (CD (rG1 4 (.bool (decide (e = e2))) rfl ⟨rfl, rfl⟩ (⟨_, rfl, rfl, H3.chg⟩)))))
theorem oV (e : Int) (t b : Nat) (w : World) : Ca 62 [.iface 63 (i64 e), .iface 124 (pT t), .agg #[.pointer (some ⟨1, 124, none⟩), pT b, .int .u64 150], .iface 193 (.agg #[.pointer (some ⟨1, 122, none⟩)])] w fun v w' => v = .bool false ∧ Ext w w' := by
 have H := Hp.start No w
 refine enter (n := 62) Tryz.func62 rfl rfl (dB rfl) ?_
 refine go 1 ?_
 intro b1 w2 a0 H3 b0
 refine go 1 ?_
 refine AA (σ := Unit) (fun _ => [(0, .iface 63 (i64 e)), (1, .iface 124 (pT t)), (3, .iface 193 (.agg #[.pointer (some ⟨1, 122, none⟩)])), (6, pT b1)]) (fun _ w' => True ∧ Hp No w w' [(rC b1 #[.pointer (some ⟨1, 124, none⟩), pT b, .int .u64 150] 163)]) (fun _ => 0) (()) ?_ ?_ ?_
 ·exact kp
 ·exact ⟨trivial, H3⟩
 rintro _ ρ w5 ⟨_, HL⟩
 refine go 1 ?_
 refine PH (UA rfl _ _) (cF (vs := [.iface 63 (i64 e)]) rfl (GH (i64 e) w5)) ?_
 rintro _ _ ⟨rfl, rfl⟩
 refine go 1 ?_
 refine PH (UA rfl _ _) (iE (vs := [.iface 193 (.agg #[.pointer (some ⟨1, 122, none⟩)])]) rfl (oF _) rfl (JH w5)) ?_
 rintro _ _ ⟨rfl, rfl⟩
 refine go 1 ?_
 refine sq (PE LP rfl) ?_
 refine go 9 ?_
 refine sq (PE HK rfl) ?_
 refine go 2 ?_
 refine sq (PE GK rfl) ?_
 refine go 4 ?_
 exact ⟨_, rfl, rfl, HL.chg⟩
theorem nV (e : Int) (t : Nat) (w : World) (hG : Gl w) : Ca 41 [.iface 63 (i64 e), .iface 124 (pT t)] w fun v w' => v = .bool false ∧ Ext w w' := by
 obtain ⟨gcs, gT, gfr, hg, hgv⟩ := hG
 rw [SI] at hgv
 have H := Hp.start No w
 refine enter (n := 42) Tryz.func41 rfl rfl (dB rfl) ?_
 refine go 6 ?_
 refine PH (UA rfl _ _) (cF (vs := [.iface 124 (pT t)]) rfl (bG ⟨t, 0, none⟩ w)) ?_
 rintro _ w1 ⟨b3, rfl, c0, ho5, d0⟩
 have H7 := H.add1 d0 c0 ho5
 have h0 := H7.a1 rfl
 refine go 1 ?_
 intro b8 w9 i0 j0 k0
 refine go 1 ?_
 intro a0 b0 l0
 refine go 1 ?_
 refine PH (UA rfl _ _) (cF (vs := [.agg #[.pointer (some ⟨1, 124, none⟩), pT b3, .int .u64 150]]) rfl (zI ⟨b3, 0, none⟩ a0)) ?_
 rintro _ _ ⟨rfl, rfl⟩
 refine go 2 ?_
 refine PH (UA rfl _ _) (iE (vs := []) rfl (GJ _) rfl (AI a0)) ?_
 rintro _ _ ⟨rfl, rfl⟩
 refine sq ((UH (a := 22#8) (b := 22#8) rfl rfl).as (v' := .bool false) (by rfl)) ?_
 refine go 2 ?_
 refine PH (gA (d' := 20) (b := false) rfl rfl rfl) (cF (vs := [.agg #[.pointer (some ⟨1, 124, none⟩), pT b3, .int .u64 150]]) rfl (IH ⟨b3, 0, none⟩ ⟨t, 0, none⟩ a0 (by rw [YE (b0.get (k := 1) rfl)]; rfl))) ?_
 rintro _ _ ⟨rfl, rfl⟩
 refine go 2 ?_
 refine PH (UA rfl _ _) (iE (vs := []) rfl (JP _) rfl (DI a0)) ?_
 rintro _ _ ⟨rfl, rfl⟩
 refine go 2 ?_
 refine PH (UA rfl _ _) (iE (vs := []) rfl (GJ _) rfl (BI a0)) ?_
 rintro _ _ ⟨rfl, rfl⟩
 refine sq ((UH (a := 22#8) (b := 20#8) rfl rfl).as (v' := .bool true) (by rfl)) ?_
 refine go 2 ?_
 refine LA (v := .iface 193 (.agg #[.pointer (some ⟨1, 31, none⟩)])) (w' := a0) (gA (d' := 30) (b := true) rfl rfl rfl) (DA (v := .iface 193 (.agg #[.pointer (some ⟨1, 31, none⟩)])) vF (b0.keepE hg) (off := 0) rfl hgv) (PH (gA (d' := 30) (b := true) rfl rfl rfl) (iE (vs := [.iface 193 (.agg #[.pointer (some ⟨1, 31, none⟩)])]) rfl (uG _) rfl (CI a0)) ?_)
 rintro _ _ ⟨rfl, rfl⟩
 refine go 6 ?_
 refine cl (oV e t b3 a0) ?_
 rintro _ m0 ⟨rfl, e0⟩
 have f0 := b0.ext e0
 refine go 1 ?_
 exact ⟨_, rfl, rfl, f0.chg⟩
theorem YA (e at1 : Int) (nm : ByteArray) (w : World) (hG : Gl w) : Ca 22 [.iface 63 (i64 e), .string nm, i64 at1] w fun v w' => Er w.heap.size w' e 1 v ∧ Ext w w' := by
 have H := Hp.start No w
 refine enter (n := 29) Tryz.func22 rfl rfl (dB rfl) ?_
 refine go 5 ?_
 intro b1 w2 c0 H3 d0
 refine go 1 ?_
 refine sq (wJ vF (xv := pT b1) rfl) (cl (nV e b1 w2 uC) ?_)
 rintro _ w5 ⟨rfl, b0⟩
 have H7 := H3.ext b0
 refine go 2 ?_
 refine dE rfl ?_
 refine go 6 ?_
 intro b8 w9 e0 a0 f0
 refine sq (wJ vF (xv := pT b8) rfl) ?_
 refine go 1 ?_
 exact ⟨_, rfl, ⟨b8, _, _, _, rfl, (a0.own _ (List.mem_of_getElem? (i := 0) rfl) _ rfl).resolve_left (fun h => h), a0.get (k := 0) rfl, rfl⟩, a0.chg⟩
end Go.Proofs.YtohngnahcgbfmaaGreatDoor.Er
namespace Go.Proofs.YtohngnahcgbfmaaGreatDoor.Ek
open Go Vc Er
theorem IK : xI Tryz.prog 31 = true := by kernel_rfl
theorem MU : NA Tryz.prog 122 = true := by kernel_rfl
theorem LU : NA Tryz.prog 157 = true := by kernel_rfl
theorem mL : NA Tryz.prog 3 = true := by kernel_rfl
theorem gU : UB Tryz.prog 122 = some 1 := by kernel_rfl
theorem bU : Tryz.prog.underlying 122 = some (.pointer 126) := by kernel_rfl
theorem aU : Tryz.prog.underlying 124 = some (.pointer 122) := by kernel_rfl
theorem rls (v x : Value) : Extern.ReflectliteValue.set #[v, x] = (do
  let (some (dst, a, fl), some (src, b, _)) := (← Extern.ReflectliteValue.parts v, ← Extern.ReflectliteValue.parts x)
   | unsupported (.noEntry "extern/(internal/reflectlite.Value).Set.zeroValue")
  if fl / Extern.ReflectliteValue.flagAddr % 2 == 0 then unsupported (.noEntry "extern/(internal/reflectlite.Value).Set.unaddressable")
  let val ← loadVar src b
  if ← Extern.Rtype.directlyAssignable dst src then storeVar dst a val
  else if ← Extern.Rtype.implements dst src then
   if (← Extern.Rtype.kind src) == 20 then
    match val with
    | .nilIface => unsupported (.noEntry "extern/reflectlite: a nil value of one interface type handed on as a value of another")
    | _ => storeVar dst a val
   else storeVar dst a (.iface src val)
  else panicString ("reflectlite.Set: value of type " ++ (← Extern.Rtype.spelt src) ++ " is not assignable to type " ++ (← Extern.Rtype.spelt dst))
  pure (.tuple #[])) := rfl
theorem eJ (t : Addr) (w : World) : Xc Tryz.prog 59 [.iface 122 (.pointer (some t))] w (fun r w' => ∃ b, r = .agg #[.pointer (some ⟨1, 122, none⟩), pT b, .int .u64 150] ∧ w.heap.size ≤ b ∧ w'.heap[b]? = some (.cells #[.pointer (some t)] 122 (0, 0)) ∧ Ext w w') :=
 Xc.of (e := (fun args => Extern.ReflectliteValue.unpack (args.getD 0 (.tuple #[])))) (v := .agg #[.pointer (some ⟨1, 122, none⟩), .pointer (some ⟨w.heap.size, 0, none⟩), .int .u64 150]) (w' := w.alloc (.cells #[.pointer (some t)] 122)) Tryz.func59 (by kernel_rfl) (by kernel_rfl) (by kernel_rfl) (by kernel_rfl) (by kernel_rfl) ⟨w.heap.size, rfl, Nat.le_refl _, gE _ _, Ext.alloc _ _⟩
theorem ON (w : World) : (Extern.Rtype.elem? 124).run Tryz.prog w = .ok (some 122) w := by kernel_rfl
theorem dW (p : Addr) (w : World) : (Extern.ReflectliteValue.mk 122 p Extern.ReflectliteValue.flagAddr).run Tryz.prog w = .ok (.agg #[.pointer (some ⟨1, 122, none⟩), .pointer (some p), .int .u64 406]) w := by kernel_rfl
theorem bL (a p : Addr) (w : World) (ha : w.cell? a = some (.pointer (some p))) : Xc Tryz.prog 79 [.agg #[.pointer (some ⟨1, 124, none⟩), .pointer (some a), .int .u64 150]] w (fun r w' => r = .agg #[.pointer (some ⟨1, 122, none⟩), .pointer (some p), .int .u64 406] ∧ w = w') :=
 Xc.of (e := (Extern.ReflectliteValue.method (Extern.ReflectliteValue.valueError "reflectlite.Value.Elem" 0) Extern.ReflectliteValue.elem)) Tryz.func79 (by kernel_rfl) (by kernel_rfl) (by kernel_rfl) (by kernel_rfl) (by show (Extern.ReflectliteValue.method _ _ #[_]).run _ _ = _; rw [rlm]; simp only [Sem.run_bind, vK, Result.andThen]; simp [Extern.ReflectliteValue.elem, loadVar, isAgg, underlying, Tryz.underlying124, ha, Result.andThen, ON, dW]) ⟨rfl, rfl⟩
theorem HU (a : Addr) (w : World) : (Extern.ReflectliteValue.parts (.agg #[.pointer (some ⟨1, 122, none⟩), .pointer (some a), .int .u64 406])).run Tryz.prog w = .ok (some (122, a, 406)) w := by kernel_rfl
theorem GU (a : Addr) (w : World) : (Extern.ReflectliteValue.parts (.agg #[.pointer (some ⟨1, 122, none⟩), .pointer (some a), .int .u64 150])).run Tryz.prog w = .ok (some (122, a, 150)) w := by kernel_rfl
theorem QN (w : World) : (Extern.Rtype.directlyAssignable 122 122).run Tryz.prog w = .ok true w := by kernel_rfl
theorem RT (t b : Nat) (p old : Value) (hp : p.cells = #[p]) (ho : p.oneCell' = true) (X T2 : TypeId) (fr : Nat × Nat) (w : World) (hb : w.heap[b]? = some (.cells #[p] X fr)) (ht : w.heap[t]? = some (.cells #[old] T2 (0, 0))) :
  Xc Tryz.prog 80 [.agg #[.pointer (some ⟨1, 122, none⟩), pT t, .int .u64 406], .agg #[.pointer (some ⟨1, 122, none⟩), pT b, .int .u64 150]] w (fun r w' => r = .tuple #[] ∧ Chg (· = t) w w' ∧ w'.heap[t]? = some (.cells #[p] T2 (0, 0))) := by
 have h1 := RG (P := Tryz.prog) (off := 0) MU hb rfl
 have h2 := RH (P := Tryz.prog) (off := 0) (v := p) gU (by rw [hp]; rfl) (by rw [hp]; intro u hu; rw [List.mem_singleton.1 hu]; exact ho) ht (Nat.le_refl 1)
 rw [hp] at h2
 refine Xc.of (e := Extern.ReflectliteValue.set) (w' := setBlk w t (.cells #[p] T2 (0, 0))) Tryz.func80 (by kernel_rfl) (by kernel_rfl) (by kernel_rfl) (by kernel_rfl) ?_ ⟨rfl, Chg.setBlk _ _ _, RF ht⟩
 show (Extern.ReflectliteValue.set #[_, _]).run _ _ = _
 rw [rls]
 simp only [Sem.run_bind, HU, GU, Result.andThen]
 simp [Extern.ReflectliteValue.flagAddr, h1, Result.andThen, QN, h2]
 rfl
theorem DS (b t vb : Nat) (w : World) (ht : w.heap[t]? = some (.cells #[.pointer none] 122 (0, 0))) (hvb : w.heap[vb]? = some (.cells #[pT t] 124 (0, 0))) (hvt : ¬ (vb = t)) : Ca 62 [.iface 122 (pT b), .iface 124 (pT t), .agg #[.pointer (some ⟨1, 124, none⟩), pT vb, .int .u64 150], .iface 193 (.agg #[.pointer (some ⟨1, 122, none⟩)])] w fun v w' => v = .bool true ∧ Chg (· = t) w w' ∧ w'.heap[t]? = some (.cells #[pT b] 122 (0, 0)) := by
 have H := Hp.start1 (M := (· = t)) rfl ht
 refine enter (n := 62) Tryz.func62 rfl rfl (dB rfl) ?_
 refine go 1 ?_
 intro b1 w2 k0 H3 l0
 refine go 1 ?_
 refine AA (σ := Unit) (fun _ => [(0, .iface 122 (pT b)), (1, .iface 124 (pT t)), (3, .iface 193 (.agg #[.pointer (some ⟨1, 122, none⟩)])), (6, pT b1)]) (fun _ w' => True ∧ Hp (· = t) w w' [(rC b1 #[.pointer (some ⟨1, 124, none⟩), pT vb, .int .u64 150] 163), (rC t #[.pointer none] 122)]) (fun _ => 0) (()) ?_ ?_ ?_
 ·exact kp
 ·exact ⟨trivial, H3⟩
 rintro _ ρ w5 ⟨_, HL⟩
 refine go 1 ?_
 refine PH (UA rfl _ _) (cF (vs := [.iface 122 (pT b)]) rfl (gK (pT b) w5)) ?_
 rintro _ _ ⟨rfl, rfl⟩
 refine go 1 ?_
 refine PH (UA rfl _ _) (iE (vs := [.iface 193 (.agg #[.pointer (some ⟨1, 122, none⟩)])]) rfl (oF _) rfl (qH w5)) ?_
 rintro _ _ ⟨rfl, rfl⟩
 refine go 1 ?_
 refine PH (UA rfl _ _) (cF (vs := [.agg #[.pointer (some ⟨1, 124, none⟩), pT vb, .int .u64 150]]) rfl (bL ⟨vb, 0, none⟩ ⟨t, 0, none⟩ w5 (by rw [YE (HL.keep hvt hvb)]; rfl))) ?_
 rintro _ _ ⟨rfl, rfl⟩
 refine go 1 ?_
 refine PH (UA rfl _ _) (cF (vs := [.iface 122 (pT b)]) rfl (eJ ⟨b, 0, none⟩ w5)) ?_
 rintro _ d0 ⟨b0, rfl, e0, ho17, f0⟩
 have hvs := HL.chg.size
 have h0 := HL.add1 f0 e0 ho17
 have a0 := h0.a3 rfl
 refine PH (UA rfl _ _) (cF (vs := [.agg #[.pointer (some ⟨1, 122, none⟩), pT t, .int .u64 406], .agg #[.pointer (some ⟨1, 122, none⟩), pT b0, .int .u64 150]]) rfl (RT t b0 (pT b) _ rfl rfl _ _ _ d0 (a0.get (k := 0) rfl) (a0.get (k := 2) rfl))) ?_
 rintro _ m0 ⟨rfl, i0, j0⟩
 have c0 := (a0.set (k := 2) rfl i0 j0).a3 rfl
 refine go 1 ?_
 exact ⟨_, rfl, rfl, c0.chg, c0.get (k := 2) rfl⟩
theorem CS (b t : Nat) (w : World) (hG : Gl w) (hM0 : ¬ (0 = t)) (ht : w.heap[t]? = some (.cells #[.pointer none] 122 (0, 0))) : Ca 41 [.iface 122 (pT b), .iface 124 (pT t)] w fun v w' => v = .bool true ∧ Chg (· = t) w w' ∧ w'.heap[t]? = some (.cells #[pT b] 122 (0, 0)) := by
 let x1 : Value := .agg #[.pointer (some ⟨1, 31, none⟩)]
 obtain ⟨gcs, gT, gfr, hg, hgv⟩ := hG
 rw [SI] at hgv
 have H := Hp.start1 (M := (· = t)) rfl ht
 refine enter (n := 42) Tryz.func41 rfl rfl (dB rfl) ?_
 refine go 6 ?_
 refine PH (UA rfl _ _) (cF (vs := [.iface 124 (pT t)]) rfl (bG ⟨t, 0, none⟩ w)) ?_
 rintro _ w1 ⟨b3, rfl, d0, ho5, e0⟩
 let x2 : Value := .agg #[.pointer (some ⟨1, 124, none⟩), pT b3, .int .u64 150]
 have hvs := H.chg.size
 have H7 := H.add1 e0 d0 ho5
 have i0 := H7.a2 rfl
 refine go 1 ?_
 intro b8 w9 j0 k0 l0
 refine go 1 ?_
 intro a0 b0 m0
 refine go 1 ?_
 refine PH (UA rfl _ _) (cF (vs := [x2]) rfl (zI ⟨b3, 0, none⟩ a0)) ?_
 rintro _ _ ⟨rfl, rfl⟩
 refine go 2 ?_
 refine PH (UA rfl _ _) (iE (vs := []) rfl (GJ _) rfl (AI a0)) ?_
 rintro _ _ ⟨rfl, rfl⟩
 refine sq ((UH (a := 22#8) (b := 22#8) rfl rfl).as (v' := .bool false) (by rfl)) ?_
 refine go 2 ?_
 refine PH (gA (d' := 20) (b := false) rfl rfl rfl) (cF (vs := [x2]) rfl (IH ⟨b3, 0, none⟩ ⟨t, 0, none⟩ a0 (by rw [YE (b0.get (k := 1) rfl)]; rfl))) ?_
 rintro _ _ ⟨rfl, rfl⟩
 refine go 2 ?_
 refine PH (UA rfl _ _) (iE (vs := []) rfl (JP _) rfl (DI a0)) ?_
 rintro _ _ ⟨rfl, rfl⟩
 refine go 2 ?_
 refine PH (UA rfl _ _) (iE (vs := []) rfl (GJ _) rfl (BI a0)) ?_
 rintro _ _ ⟨rfl, rfl⟩
 refine sq ((UH (a := 22#8) (b := 20#8) rfl rfl).as (v' := .bool true) (by rfl)) ?_
 refine go 2 ?_
 refine LA (v := .iface 193 x1) (w' := a0) (gA (d' := 30) (b := true) rfl rfl rfl) (DA (v := .iface 193 x1) vF (b0.keep hM0 hg) (off := 0) rfl hgv) (PH (gA (d' := 30) (b := true) rfl rfl rfl) (iE (vs := [.iface 193 x1]) rfl (uG _) rfl (CI a0)) ?_)
 rintro _ _ ⟨rfl, rfl⟩
 refine go 6 ?_
 refine cl (DS b t b3 a0 gF gF (fun e2 => by have := kC ht; omega)) ?_
 rintro _ n0 ⟨rfl, f0, h0⟩
 have c0 := (b0.set (k := 2) rfl f0 h0).a3 rfl
 refine go 1 ?_
 exact ⟨_, rfl, rfl, c0.chg, c0.get (k := 2) rfl⟩
end Go.Proofs.YtohngnahcgbfmaaGreatDoor.Ek
namespace Go.Proofs.YtohngnahcgbfmaaGreatDoor.Er
open Go Vc Circ
theorem OC : wC Tryz.prog 3 EI := OF (by kernel_rfl) (by kernel_rfl)
theorem iI : TB Tryz.prog 104 0 = some (0, 1, 3) := by kernel_rfl
theorem MK : TB Tryz.prog 104 1 = some (1, 1, 102) := by kernel_rfl
theorem LK : TB Tryz.prog 104 2 = some (2, 1, 100) := by kernel_rfl
theorem cQ : TB Tryz.prog 154 1 = some (1, 1, 3) := by kernel_rfl
theorem bQ : TB Tryz.prog 154 2 = some (2, 1, 3) := by kernel_rfl
theorem AP : NA Tryz.prog 100 = true := by kernel_rfl
theorem zP : NA Tryz.prog 102 = true := by kernel_rfl
theorem mL : NA Tryz.prog 3 = true := by kernel_rfl
theorem QH : eD Tryz.prog 100 = some (3, 1) := by kernel_rfl
theorem JO : eD Tryz.prog 102 = some (154, 3) := by kernel_rfl
theorem qQ (n : Int) (gs : List Gt) (ol : List Int) (ga oa : Option Addr) (gc oc : Nat) (w : World) (hG : Gl w) (hGs : Rd EG w ga gs) (hOl : Rd EI w oa ol) (hgl : gs.length ≤ 140737488355328) (hol : ol.length ≤ 140737488355328) : Ca 99 [.agg #[i64 n, .slice ga gs.length gc, .slice oa ol.length oc]] w fun v w' => ((v = .nilIface ∧ IsC n gs ol) ∨ (Er w.heap.size w' 90 1 v ∧ ¬ IsC n gs ol)) ∧ Ext w w' := by
 have H := Hp.start No w
 refine enter (n := 109) Tryz.func99 rfl rfl (dB rfl) ?_
 refine go 1 ?_
 intro b1 w2 z1 H3 A1
 refine go 5 ?_
 by_cases g5 : (n : Int) < (0 : Int)
 ·refine cB (gA (d' := 12) (b := true) rfl rfl (bT (g5))) (cB (gA (d' := 12) (b := true) rfl rfl (bT (g5))) (cB (gA (d' := 12) (b := true) rfl rfl (bT (g5))) (sq (bC (u := .bool true) (bT (g5)) rfl) ?_)))
  refine go 7 ?_
  have := H3.lT 0
  refine cl (YA (90 : Int) n ({data := #[99, 105, 114, 99, 117, 105, 116]}) w2 uC) ?_
  rintro v8 w6 ⟨j0, E0⟩
  have F0 := H3.ext E0
  obtain ⟨B1, C1, rfl⟩ := j0.iface
  refine go 1 ?_
  exact ⟨_, rfl, .inr ⟨j0.mono H3.chg.size, fun hg => by have := hg.lo; have := hg.hi; have := hg.gates; have := hg.outs; omega⟩, F0.chg⟩
 ·refine LA (v := pT b1) (w' := w2) (gA (d' := 12) (b := false) rfl rfl (bF (g5))) (rA (off' := 0) vF (by decide) (b := b1) (off := 0) rfl om) (LA (v := i64 n) (w' := w2) (gA (d' := 12) (b := false) rfl rfl (bF (g5))) (DA (v := i64 n) vF (H3.get (k := 0) rfl) (off := 0) rfl (by rfl)) (LA (v := .bool (decide (((4096 : Int) : Int) < n))) (w' := w2) (gA (d' := 12) (b := false) rfl rfl (bF (g5))) (UC rfl rfl) (sq (WB (v := .bool (decide (((4096 : Int) : Int) < n))) (bF (g5)) rfl) ?_)))
  refine go 1 ?_
  by_cases g14 : ((4096 : Int) : Int) < n
  ·refine cB (gA (d' := 17) (b := true) rfl rfl (bT (g14))) (cB (gA (d' := 17) (b := true) rfl rfl (bT (g14))) (cB (gA (d' := 17) (b := true) rfl rfl (bT (g14))) (cB (gA (d' := 17) (b := true) rfl rfl (bT (g14))) (sq (bC (u := .bool true) (bT (g14)) rfl) ?_))))
   refine go 5 ?_
   have := H3.lT 0
   refine cl (YA (90 : Int) n ({data := #[99, 105, 114, 99, 117, 105, 116]}) w2 uC) ?_
   rintro v17 D1 ⟨k0, G0⟩
   have H0 := H3.ext G0
   obtain ⟨E1, F1, rfl⟩ := k0.iface
   refine go 1 ?_
   exact ⟨_, rfl, .inr ⟨k0.mono H3.chg.size, fun hg => by have := hg.lo; have := hg.hi; have := hg.gates; have := hg.outs; omega⟩, H0.chg⟩
  ·refine LA (v := .pointer (some ⟨b1, 1, none⟩)) (w' := w2) (gA (d' := 17) (b := false) rfl rfl (bF (g14))) (rA (off' := 1) vF (by decide) (b := b1) (off := 0) rfl om) (LA (v := .slice ga gs.length gc) (w' := w2) (gA (d' := 17) (b := false) rfl rfl (bF (g14))) (DA (v := .slice ga gs.length gc) vF (H3.get (k := 0) rfl) (off := 1) rfl (by rfl)) (LA (v := iN gs.length) (w' := w2) (gA (d' := 17) (b := false) rfl rfl (bF (g14))) (VH vF (a := ga) (m := gs.length) (c := gc) rfl) (LA (v := .bool (decide (((4096 : Int) : Int) < (gs.length : Nat)))) (w' := w2) (gA (d' := 17) (b := false) rfl rfl (bF (g14))) (UC rfl rfl) (sq (WB (v := .bool (decide (((4096 : Int) : Int) < (gs.length : Nat)))) (bF (g14)) rfl) ?_))))
   refine go 1 ?_
   by_cases g23 : ((4096 : Int) : Int) < (gs.length : Nat)
   ·refine cB (gA (d' := 23) (b := true) rfl rfl (bT (g23))) (cB (gA (d' := 23) (b := true) rfl rfl (bT (g23))) (cB (gA (d' := 23) (b := true) rfl rfl (bT (g23))) (cB (gA (d' := 23) (b := true) rfl rfl (bT (g23))) (sq (bC (u := .bool true) (bT (g23)) rfl) ?_))))
    refine go 3 ?_
    have := H3.lT 0
    refine cl (YA (90 : Int) n ({data := #[99, 105, 114, 99, 117, 105, 116]}) w2 uC) ?_
    rintro v26 G1 ⟨l0, I0⟩
    have J0 := H3.ext I0
    obtain ⟨H1, I1, rfl⟩ := l0.iface
    refine go 1 ?_
    exact ⟨_, rfl, .inr ⟨l0.mono H3.chg.size, fun hg => by have := hg.lo; have := hg.hi; have := hg.gates; have := hg.outs; omega⟩, J0.chg⟩
   ·refine LA (v := .pointer (some ⟨b1, 2, none⟩)) (w' := w2) (gA (d' := 23) (b := false) rfl rfl (bF (g23))) (rA (off' := 2) vF (by decide) (b := b1) (off := 0) rfl om) (LA (v := .slice oa ol.length oc) (w' := w2) (gA (d' := 23) (b := false) rfl rfl (bF (g23))) (DA (v := .slice oa ol.length oc) vF (H3.get (k := 0) rfl) (off := 2) rfl (by rfl)) (LA (v := iN ol.length) (w' := w2) (gA (d' := 23) (b := false) rfl rfl (bF (g23))) (VH vF (a := oa) (m := ol.length) (c := oc) rfl) (LA (v := .bool (decide (((64 : Int) : Int) < (ol.length : Nat)))) (w' := w2) (gA (d' := 23) (b := false) rfl rfl (bF (g23))) (UC rfl rfl) (sq (WB (v := .bool (decide (((64 : Int) : Int) < (ol.length : Nat)))) (bF (g23)) rfl) ?_))))
    refine go 0 ?_
    refine iA (((64 : Int) : Int) < (ol.length : Nat)) rfl (fun K0 => ?_) (fun K0 => ?_)
    ·refine go 3 ?_
     have := H3.lT 0
     refine cl (YA (90 : Int) n ({data := #[99, 105, 114, 99, 117, 105, 116]}) w2 uC) ?_
     rintro v34 J1 ⟨m0, L0⟩
     have M0 := H3.ext L0
     obtain ⟨K1, L1, rfl⟩ := m0.iface
     refine go 1 ?_
     exact ⟨_, rfl, .inr ⟨m0.mono H3.chg.size, fun hg => by have := hg.lo; have := hg.hi; have := hg.gates; have := hg.outs; omega⟩, M0.chg⟩
    ·refine go 4 ?_
     refine AA (σ := Nat) (fun i => [(1, pT b1), (34, .slice ga gs.length gc), (35, iN gs.length), (36, iN i)]) (fun i w' => i ≤ gs.length ∧ (∀ j, j < i → uD (gs.getD j g0) (n + (j : Nat))) ∧ Hp No w w' [(rC b1 #[i64 n, .slice ga gs.length gc, .slice oa ol.length oc] 104)]) (fun i => gs.length - i) (0) ?_ ?_ ?_
     ·exact kp
     ·exact ⟨om, fun j hj => by omega, H3⟩
     rintro i ρ M1 ⟨hi, hgs, HL⟩
     refine go 1 ?_
     refine iA (((i : Nat) : Int) < (gs.length : Nat)) rfl (fun N0 => ?_) (fun N0 => ?_)
     ·refine go 4 ?_
      intro h0 N1 O1 P1 Q1
      let y1 : Option Addr := some ⟨h0, 2, none⟩
      refine go 2 ?_
      intro b0 a0 R1
      refine go 9 ?_
      by_cases g49 : (0 : Int) ≤ ((gs.getD i g0).a)
      ·refine LA (v := .pointer (some ⟨h0, 1, none⟩)) (w' := b0) (gA (d' := 48) (b := true) rfl rfl (bT (g49))) (rA (off' := 1) vF (by decide) (b := h0) (off := 0) rfl om) (LA (v := i64 ((gs.getD i g0).a)) (w' := b0) (gA (d' := 48) (b := true) rfl rfl (bT (g49))) (DA (v := i64 ((gs.getD i g0).a)) vF (a0.get (k := 0) rfl) (off := 1) rfl (by rfl)) (LA (v := i64 (n + (i : Nat))) (w' := b0) (gA (d' := 48) (b := true) rfl rfl (bT (g49))) (CA (v := i64 (n + (i : Nat))) rfl) (LA (v := .bool (decide (((gs.getD i g0).a : Int) < (n + (i : Nat))))) (w' := b0) (gA (d' := 48) (b := true) rfl rfl (bT (g49))) (KC rfl rfl) (sq (bC (u := .bool (decide (((gs.getD i g0).a : Int) < (n + (i : Nat))))) (bT (g49)) rfl) ?_))))
       refine go 5 ?_
       refine iA (((gs.getD i g0).k : Int) = (1 : Int)) rfl (fun f0 => ?_) (fun f0 => ?_)
       ·refine go 0 ?_
        refine GB (bT (f0)) ?_
        refine go 2 ?_
        by_cases g50 : ((gs.getD i g0).a : Int) < (n + (i : Nat))
        ·refine LA (v := .pointer y1) (w' := b0) (gA (d' := 60) (b := true) rfl rfl (bT (g50))) (rA (off' := 2) vF (by decide) (b := h0) (off := 0) rfl om) (LA (v := i64 ((gs.getD i g0).b)) (w' := b0) (gA (d' := 60) (b := true) rfl rfl (bT (g50))) (DA (v := i64 ((gs.getD i g0).b)) vF (a0.get (k := 0) rfl) (off := 2) rfl (by rfl)) (LA (v := .bool (decide ((0 : Int) ≤ ((gs.getD i g0).b)))) (w' := b0) (gA (d' := 60) (b := true) rfl rfl (bT (g50))) (WG rfl rfl) (sq (bC (u := .bool (decide ((0 : Int) ≤ ((gs.getD i g0).b)))) (bT (g50)) rfl) ?_)))
         refine go 1 ?_
         by_cases g51 : (0 : Int) ≤ ((gs.getD i g0).b)
         ·refine LA (v := .pointer y1) (w' := b0) (gA (d' := 65) (b := true) rfl rfl (bT (g51))) (rA (off' := 2) vF (by decide) (b := h0) (off := 0) rfl om) (LA (v := i64 ((gs.getD i g0).b)) (w' := b0) (gA (d' := 65) (b := true) rfl rfl (bT (g51))) (DA (v := i64 ((gs.getD i g0).b)) vF (a0.get (k := 0) rfl) (off := 2) rfl (by rfl)) (LA (v := i64 (n + (i : Nat))) (w' := b0) (gA (d' := 65) (b := true) rfl rfl (bT (g51))) (CA (v := i64 (n + (i : Nat))) rfl) (LA (v := .bool (decide (((gs.getD i g0).b : Int) < (n + (i : Nat))))) (w' := b0) (gA (d' := 65) (b := true) rfl rfl (bT (g51))) (KC rfl rfl) (sq (bC (u := .bool (decide (((gs.getD i g0).b : Int) < (n + (i : Nat))))) (bT (g51)) rfl) ?_))))
          refine go 3 ?_
          refine PC (!(decide (((gs.getD i g0).b : Int) < (n + (i : Nat))))) rfl (fun c0 => ?_) (fun c0 => ?_)
          ·replace c0 : ¬ (((gs.getD i g0).b : Int) < (n + (i : Nat))) := by simpa using c0
           refine go 2 ?_
           have := a0.lT 0
           have := a0.lT 1
           refine cl (YA (90 : Int) (i : Nat) ({data := #[103, 97, 116, 101]}) b0 uC) ?_
           rintro v54 S1 ⟨n0, O0⟩
           have P0 := a0.ext O0
           obtain ⟨T1, U1, rfl⟩ := n0.iface
           refine go 1 ?_
           exact ⟨_, rfl, .inr ⟨n0.mono a0.chg.size, fun hg => by have := hg.gok i om; unfold uD at this; omega⟩, P0.chg⟩
          ·replace c0 : ((gs.getD i g0).b : Int) < (n + (i : Nat)) := by simpa using c0
           refine go 2 ?_
           have hgi : uD (gs.getD i g0) (n + (i : Nat)) := by unfold uD; omega
           exact ⟨i + 1, _, rfl, kp, ⟨om, fun j hj => if h : j < i then hgs j h else by (rw [show j = i by omega]; exact hgi), (a0.dropk 0)⟩, vd⟩
         ·refine cB (gA (d' := 65) (b := false) rfl rfl (bF (g51))) (cB (gA (d' := 65) (b := false) rfl rfl (bF (g51))) (cB (gA (d' := 65) (b := false) rfl rfl (bF (g51))) (cB (gA (d' := 65) (b := false) rfl rfl (bF (g51))) (sq (WB (v := .bool false) (bF (g51)) rfl) ?_))))
          refine go 5 ?_
          have := a0.lT 0
          have := a0.lT 1
          refine cl (YA (90 : Int) (i : Nat) ({data := #[103, 97, 116, 101]}) b0 uC) ?_
          rintro v62 V1 ⟨o0, Q0⟩
          have R0 := a0.ext Q0
          obtain ⟨W1, X1, rfl⟩ := o0.iface
          refine go 1 ?_
          exact ⟨_, rfl, .inr ⟨o0.mono a0.chg.size, fun hg => by have := hg.gok i om; unfold uD at this; omega⟩, R0.chg⟩
        ·refine cB (gA (d' := 60) (b := false) rfl rfl (bF (g50))) (cB (gA (d' := 60) (b := false) rfl rfl (bF (g50))) (cB (gA (d' := 60) (b := false) rfl rfl (bF (g50))) (sq (WB (v := .bool false) (bF (g50)) rfl) ?_)))
         refine go 7 ?_
         have := a0.lT 0
         have := a0.lT 1
         refine cl (YA (90 : Int) (i : Nat) ({data := #[103, 97, 116, 101]}) b0 uC) ?_
         rintro v70 Y1 ⟨p0, S0⟩
         have T0 := a0.ext S0
         obtain ⟨Z1, c2, rfl⟩ := p0.iface
         refine go 1 ?_
         exact ⟨_, rfl, .inr ⟨p0.mono a0.chg.size, fun hg => by have := hg.gok i om; unfold uD at this; omega⟩, T0.chg⟩
       ·refine go 2 ?_
        refine iA (((gs.getD i g0).k : Int) = (2 : Int)) rfl (fun f0 => ?_) (fun f0 => ?_)
        ·refine go 2 ?_
         by_cases g76 : ((gs.getD i g0).a : Int) < (n + (i : Nat))
         ·refine LA (v := .pointer y1) (w' := b0) (gA (d' := 60) (b := true) rfl rfl (bT (g76))) (rA (off' := 2) vF (by decide) (b := h0) (off := 0) rfl om) (LA (v := i64 ((gs.getD i g0).b)) (w' := b0) (gA (d' := 60) (b := true) rfl rfl (bT (g76))) (DA (v := i64 ((gs.getD i g0).b)) vF (a0.get (k := 0) rfl) (off := 2) rfl (by rfl)) (LA (v := .bool (decide ((0 : Int) ≤ ((gs.getD i g0).b)))) (w' := b0) (gA (d' := 60) (b := true) rfl rfl (bT (g76))) (WG rfl rfl) (sq (bC (u := .bool (decide ((0 : Int) ≤ ((gs.getD i g0).b)))) (bT (g76)) rfl) ?_)))
          refine go 1 ?_
          by_cases g77 : (0 : Int) ≤ ((gs.getD i g0).b)
          ·refine LA (v := .pointer y1) (w' := b0) (gA (d' := 65) (b := true) rfl rfl (bT (g77))) (rA (off' := 2) vF (by decide) (b := h0) (off := 0) rfl om) (LA (v := i64 ((gs.getD i g0).b)) (w' := b0) (gA (d' := 65) (b := true) rfl rfl (bT (g77))) (DA (v := i64 ((gs.getD i g0).b)) vF (a0.get (k := 0) rfl) (off := 2) rfl (by rfl)) (LA (v := i64 (n + (i : Nat))) (w' := b0) (gA (d' := 65) (b := true) rfl rfl (bT (g77))) (CA (v := i64 (n + (i : Nat))) rfl) (LA (v := .bool (decide (((gs.getD i g0).b : Int) < (n + (i : Nat))))) (w' := b0) (gA (d' := 65) (b := true) rfl rfl (bT (g77))) (KC rfl rfl) (sq (bC (u := .bool (decide (((gs.getD i g0).b : Int) < (n + (i : Nat))))) (bT (g77)) rfl) ?_))))
           refine go 3 ?_
           refine PC (!(decide (((gs.getD i g0).b : Int) < (n + (i : Nat))))) rfl (fun c0 => ?_) (fun c0 => ?_)
           ·replace c0 : ¬ (((gs.getD i g0).b : Int) < (n + (i : Nat))) := by simpa using c0
            refine go 2 ?_
            have := a0.lT 0
            have := a0.lT 1
            refine cl (YA (90 : Int) (i : Nat) ({data := #[103, 97, 116, 101]}) b0 uC) ?_
            rintro v80 d2 ⟨q0, U0⟩
            have V0 := a0.ext U0
            obtain ⟨e2, f2, rfl⟩ := q0.iface
            refine go 1 ?_
            exact ⟨_, rfl, .inr ⟨q0.mono a0.chg.size, fun hg => by have := hg.gok i om; unfold uD at this; omega⟩, V0.chg⟩
           ·replace c0 : ((gs.getD i g0).b : Int) < (n + (i : Nat)) := by simpa using c0
            refine go 2 ?_
            have hgi : uD (gs.getD i g0) (n + (i : Nat)) := by unfold uD; omega
            exact ⟨i + 1, _, rfl, kp, ⟨om, fun j hj => if h : j < i then hgs j h else by (rw [show j = i by omega]; exact hgi), (a0.dropk 0)⟩, vd⟩
          ·refine cB (gA (d' := 65) (b := false) rfl rfl (bF (g77))) (cB (gA (d' := 65) (b := false) rfl rfl (bF (g77))) (cB (gA (d' := 65) (b := false) rfl rfl (bF (g77))) (cB (gA (d' := 65) (b := false) rfl rfl (bF (g77))) (sq (WB (v := .bool false) (bF (g77)) rfl) ?_))))
           refine go 5 ?_
           have := a0.lT 0
           have := a0.lT 1
           refine cl (YA (90 : Int) (i : Nat) ({data := #[103, 97, 116, 101]}) b0 uC) ?_
           rintro v88 g2 ⟨r0, W0⟩
           have X0 := a0.ext W0
           obtain ⟨h2, i2, rfl⟩ := r0.iface
           refine go 1 ?_
           exact ⟨_, rfl, .inr ⟨r0.mono a0.chg.size, fun hg => by have := hg.gok i om; unfold uD at this; omega⟩, X0.chg⟩
         ·refine cB (gA (d' := 60) (b := false) rfl rfl (bF (g76))) (cB (gA (d' := 60) (b := false) rfl rfl (bF (g76))) (cB (gA (d' := 60) (b := false) rfl rfl (bF (g76))) (sq (WB (v := .bool false) (bF (g76)) rfl) ?_)))
          refine go 7 ?_
          have := a0.lT 0
          have := a0.lT 1
          refine cl (YA (90 : Int) (i : Nat) ({data := #[103, 97, 116, 101]}) b0 uC) ?_
          rintro v96 j2 ⟨s0, Y0⟩
          have Z0 := a0.ext Y0
          obtain ⟨k2, l2, rfl⟩ := s0.iface
          refine go 1 ?_
          exact ⟨_, rfl, .inr ⟨s0.mono a0.chg.size, fun hg => by have := hg.gok i om; unfold uD at this; omega⟩, Z0.chg⟩
        ·refine go 2 ?_
         refine iA (((gs.getD i g0).k : Int) = (3 : Int)) rfl (fun i0 => ?_) (fun i0 => ?_)
         ·refine go 2 ?_
          by_cases g102 : ((gs.getD i g0).a : Int) < (n + (i : Nat))
          ·refine LA (v := .pointer y1) (w' := b0) (gA (d' := 74) (b := true) rfl rfl (bT (g102))) (rA (off' := 2) vF (by decide) (b := h0) (off := 0) rfl om) (LA (v := i64 ((gs.getD i g0).b)) (w' := b0) (gA (d' := 74) (b := true) rfl rfl (bT (g102))) (DA (v := i64 ((gs.getD i g0).b)) vF (a0.get (k := 0) rfl) (off := 2) rfl (by rfl)) (LA (v := .bool (decide (((gs.getD i g0).b : Int) = (0 : Int)))) (w' := b0) (gA (d' := 74) (b := true) rfl rfl (bT (g102))) (iB rfl rfl) (sq (bC (u := .bool (decide (((gs.getD i g0).b : Int) = (0 : Int)))) (bT (g102)) rfl) ?_)))
           refine go 3 ?_
           refine PC (!(decide (((gs.getD i g0).b : Int) = (0 : Int)))) rfl (fun c0 => ?_) (fun c0 => ?_)
           ·replace c0 : ¬ (((gs.getD i g0).b : Int) = (0 : Int)) := by simpa using c0
            refine go 2 ?_
            have := a0.lT 0
            have := a0.lT 1
            refine cl (YA (90 : Int) (i : Nat) ({data := #[103, 97, 116, 101]}) b0 uC) ?_
            rintro v105 m2 ⟨u0, c1⟩
            have d1 := a0.ext c1
            obtain ⟨n2, o2, rfl⟩ := u0.iface
            refine go 1 ?_
            exact ⟨_, rfl, .inr ⟨u0.mono a0.chg.size, fun hg => by have := hg.gok i om; unfold uD at this; omega⟩, d1.chg⟩
           ·replace c0 : ((gs.getD i g0).b : Int) = (0 : Int) := by simpa using c0
            refine go 2 ?_
            have hgi : uD (gs.getD i g0) (n + (i : Nat)) := by unfold uD; omega
            exact ⟨i + 1, _, rfl, kp, ⟨om, fun j hj => if h : j < i then hgs j h else by (rw [show j = i by omega]; exact hgi), (a0.dropk 0)⟩, vd⟩
          ·refine cB (gA (d' := 74) (b := false) rfl rfl (bF (g102))) (cB (gA (d' := 74) (b := false) rfl rfl (bF (g102))) (cB (gA (d' := 74) (b := false) rfl rfl (bF (g102))) (sq (WB (v := .bool false) (bF (g102)) rfl) ?_)))
           refine go 5 ?_
           have := a0.lT 0
           have := a0.lT 1
           refine cl (YA (90 : Int) (i : Nat) ({data := #[103, 97, 116, 101]}) b0 uC) ?_
           rintro v113 p2 ⟨w0, e1⟩
           have g1 := a0.ext e1
           obtain ⟨q2, r2, rfl⟩ := w0.iface
           refine go 1 ?_
           exact ⟨_, rfl, .inr ⟨w0.mono a0.chg.size, fun hg => by have := hg.gok i om; unfold uD at this; omega⟩, g1.chg⟩
         ·refine go 5 ?_
          have := a0.lT 0
          have := a0.lT 1
          refine cl (YA (90 : Int) (i : Nat) ({data := #[103, 97, 116, 101]}) b0 uC) ?_
          rintro v121 s2 ⟨x0, h1⟩
          have i1 := a0.ext h1
          obtain ⟨t2, u2, rfl⟩ := x0.iface
          refine go 1 ?_
          exact ⟨_, rfl, .inr ⟨x0.mono a0.chg.size, fun hg => by have := hg.gok i om; unfold uD at this; omega⟩, i1.chg⟩
      ·refine cB (gA (d' := 48) (b := false) rfl rfl (bF (g49))) (cB (gA (d' := 48) (b := false) rfl rfl (bF (g49))) (cB (gA (d' := 48) (b := false) rfl rfl (bF (g49))) (cB (gA (d' := 48) (b := false) rfl rfl (bF (g49))) (sq (WB (v := .bool false) (bF (g49)) rfl) ?_))))
       refine go 5 ?_
       refine iA (((gs.getD i g0).k : Int) = (1 : Int)) rfl (fun f0 => ?_) (fun f0 => ?_)
       ·refine go 0 ?_
        refine GB (bT (f0)) ?_
        refine go 10 ?_
        have := a0.lT 0
        have := a0.lT 1
        refine cl (YA (90 : Int) (i : Nat) ({data := #[103, 97, 116, 101]}) b0 uC) ?_
        rintro v129 x2 ⟨y0, j1⟩
        have k1 := a0.ext j1
        obtain ⟨y2, z2, rfl⟩ := y0.iface
        refine go 1 ?_
        exact ⟨_, rfl, .inr ⟨y0.mono a0.chg.size, fun hg => by have := hg.gok i om; unfold uD at this; omega⟩, k1.chg⟩
       ·refine go 2 ?_
        refine iA (((gs.getD i g0).k : Int) = (2 : Int)) rfl (fun f0 => ?_) (fun f0 => ?_)
        ·refine go 10 ?_
         have := a0.lT 0
         have := a0.lT 1
         refine cl (YA (90 : Int) (i : Nat) ({data := #[103, 97, 116, 101]}) b0 uC) ?_
         rintro v137 A2 ⟨z0, l1⟩
         have m1 := a0.ext l1
         obtain ⟨B2, C2, rfl⟩ := z0.iface
         refine go 1 ?_
         exact ⟨_, rfl, .inr ⟨z0.mono a0.chg.size, fun hg => by have := hg.gok i om; unfold uD at this; omega⟩, m1.chg⟩
        ·refine go 2 ?_
         refine iA (((gs.getD i g0).k : Int) = (3 : Int)) rfl (fun i0 => ?_) (fun i0 => ?_)
         ·refine go 8 ?_
          have := a0.lT 0
          have := a0.lT 1
          refine cl (YA (90 : Int) (i : Nat) ({data := #[103, 97, 116, 101]}) b0 uC) ?_
          rintro v145 D2 ⟨A0, n1⟩
          have o1 := a0.ext n1
          obtain ⟨E2, F2, rfl⟩ := A0.iface
          refine go 1 ?_
          exact ⟨_, rfl, .inr ⟨A0.mono a0.chg.size, fun hg => by have := hg.gok i om; unfold uD at this; omega⟩, o1.chg⟩
         ·refine go 5 ?_
          have := a0.lT 0
          have := a0.lT 1
          refine cl (YA (90 : Int) (i : Nat) ({data := #[103, 97, 116, 101]}) b0 uC) ?_
          rintro v153 G2 ⟨B0, p1⟩
          have q1 := a0.ext p1
          obtain ⟨H2, I2, rfl⟩ := B0.iface
          refine go 1 ?_
          exact ⟨_, rfl, .inr ⟨B0.mono a0.chg.size, fun hg => by have := hg.gok i om; unfold uD at this; omega⟩, q1.chg⟩
     ·refine go 4 ?_
      refine AA (σ := Nat) (fun q => [(1, pT b1), (86, .slice oa ol.length oc), (87, iN ol.length), (88, iN q)]) (fun q w' => q ≤ ol.length ∧ (∀ j, j < q → 0 ≤ ol.getD j 0 ∧ ol.getD j 0 < n + (gs.length : Nat)) ∧ Hp No w w' [(rC b1 #[i64 n, .slice ga gs.length gc, .slice oa ol.length oc] 104)]) (fun q => ol.length - q) (0) ?_ ?_ ?_
      ·exact kp
      ·exact ⟨om, fun j hj => by omega, HL⟩
      rintro q ρ d0 ⟨hq, hos, e0⟩
      refine go 1 ?_
      refine iA (((q : Nat) : Int) < (ol.length : Nat)) rfl (fun r1 => ?_) (fun r1 => ?_)
      ·refine go 8 ?_
       by_cases g161 : (ol.getD q 0 : Int) < (0 : Int)
       ·refine cB (gA (d' := 95) (b := true) rfl rfl (bT (g161))) (cB (gA (d' := 95) (b := true) rfl rfl (bT (g161))) (cB (gA (d' := 95) (b := true) rfl rfl (bT (g161))) (cB (gA (d' := 95) (b := true) rfl rfl (bT (g161))) (cB (gA (d' := 95) (b := true) rfl rfl (bT (g161))) (cB (gA (d' := 95) (b := true) rfl rfl (bT (g161))) (cB (gA (d' := 95) (b := true) rfl rfl (bT (g161))) (cB (gA (d' := 95) (b := true) rfl rfl (bT (g161))) (sq (bC (u := .bool true) (bT (g161)) rfl) ?_))))))))
        refine go 2 ?_
        have := e0.lT 0
        refine cl (YA (90 : Int) (q : Nat) ({data := #[111, 117, 116]}) d0 uC) ?_
        rintro v164 J2 ⟨C0, s1⟩
        have t1 := e0.ext s1
        obtain ⟨K2, L2, rfl⟩ := C0.iface
        refine go 1 ?_
        exact ⟨_, rfl, .inr ⟨C0.mono e0.chg.size, fun hg => by have := hg.ook q om; omega⟩, t1.chg⟩
       ·refine LA (v := i64 (ol.getD q 0)) (w' := d0) (gA (d' := 95) (b := false) rfl rfl (bF (g161))) (CA (v := i64 (ol.getD q 0)) rfl) (LA (v := pT b1) (w' := d0) (gA (d' := 95) (b := false) rfl rfl (bF (g161))) (rA (off' := 0) vF (by decide) (b := b1) (off := 0) rfl om) (LA (v := i64 n) (w' := d0) (gA (d' := 95) (b := false) rfl rfl (bF (g161))) (DA (v := i64 n) vF (e0.get (k := 0) rfl) (off := 0) rfl (by rfl)) (LA (v := .pointer (some ⟨b1, 1, none⟩)) (w' := d0) (gA (d' := 95) (b := false) rfl rfl (bF (g161))) (rA (off' := 1) vF (by decide) (b := b1) (off := 0) rfl om) (LA (v := .slice ga gs.length gc) (w' := d0) (gA (d' := 95) (b := false) rfl rfl (bF (g161))) (DA (v := .slice ga gs.length gc) vF (e0.get (k := 0) rfl) (off := 1) rfl (by rfl)) (LA (v := iN gs.length) (w' := d0) (gA (d' := 95) (b := false) rfl rfl (bF (g161))) (VH vF (a := ga) (m := gs.length) (c := gc) rfl) (LA (v := i64 (n + (gs.length : Nat))) (w' := d0) (gA (d' := 95) (b := false) rfl rfl (bF (g161))) (aB rfl rfl om) (LA (v := .bool (decide ((n + (gs.length : Nat) : Int) ≤ (ol.getD q 0)))) (w' := d0) (gA (d' := 95) (b := false) rfl rfl (bF (g161))) (WG rfl rfl) (sq (WB (v := .bool (decide ((n + (gs.length : Nat) : Int) ≤ (ol.getD q 0)))) (bF (g161)) rfl) ?_))))))))
        refine go 0 ?_
        refine iA ((n + (gs.length : Nat) : Int) ≤ (ol.getD q 0)) rfl (fun u1 => ?_) (fun u1 => ?_)
        ·refine go 2 ?_
         have := e0.lT 0
         refine cl (YA (90 : Int) (q : Nat) ({data := #[111, 117, 116]}) d0 uC) ?_
         rintro v172 M2 ⟨D0, w1⟩
         have x1 := e0.ext w1
         obtain ⟨N2, O2, rfl⟩ := D0.iface
         refine go 1 ?_
         exact ⟨_, rfl, .inr ⟨D0.mono e0.chg.size, fun hg => by have := hg.ook q om; omega⟩, x1.chg⟩
        ·refine go 2 ?_
         exact ⟨q + 1, _, rfl, kp, ⟨om, fun j hj => if h : j < q then hos j h else by (rw [show j = q by omega]; omega), e0⟩, vd⟩
      ·refine go 1 ?_
       exact ⟨_, rfl, .inl ⟨rfl, ⟨om, by omega, by omega, by omega, fun j hj => hgs j om, fun j hj => hos j om⟩⟩, e0.chg⟩
theorem IM (n : Int) (gs : List Gt) (ol : List Int) (ga oa : Option Addr) (gc oc : Nat) (w : World) (hGs : Rd EG w ga gs) (hgl : gs.length ≤ 140737488355328) : Ca 37 [.agg #[i64 n, .slice ga gs.length gc, .slice oa ol.length oc]] w fun v w' => v = iN (FB gs gs.length) ∧ Ext w w' := by
 have H := Hp.start No w
 refine enter (n := 20) Tryz.func37 rfl rfl (dB rfl) ?_
 refine go 1 ?_
 intro b1 w2 d0 H3 e0
 refine go 6 ?_
 refine AA (σ := Nat) (fun i => [(1, pT b1), (3, iN (FB gs i)), (7, .slice ga gs.length gc), (8, iN gs.length), (9, iN i)]) (fun i w' => i ≤ gs.length ∧ Hp No w w' [(rC b1 #[i64 n, .slice ga gs.length gc, .slice oa ol.length oc] 104)]) (fun i => gs.length - i) (0) ?_ ?_ ?_
 ·exact kp
 ·exact ⟨om, H3⟩
 rintro i ρ w5 ⟨hi, HL⟩
 have hle := DG gs i
 refine go 1 ?_
 refine iA (((i : Nat) : Int) < (gs.length : Nat)) rfl (fun c0 => ?_) (fun c0 => ?_)
 ·refine go 3 ?_
  intro b7 w8 f0 H9 h0
  refine go 1 ?_
  intro i0 b0 j0
  refine go 3 ?_
  refine iA (((gs.getD i g0).k : Int) = (2 : Int)) rfl (fun a0 => ?_) (fun a0 => ?_)
  ·refine go 5 ?_
   exact ⟨i + 1, _, rfl, ⟨rfl, congrArg i64 (by rw [FB, if_pos a0]; rfl), rfl, rfl, rfl, trivial⟩, ⟨om, (b0.dropk 0)⟩, vd⟩
  ·refine go 2 ?_
   exact ⟨i + 1, _, rfl, ⟨rfl, congrArg i64 (by rw [FB, if_neg a0]), rfl, rfl, rfl, trivial⟩, ⟨om, (b0.dropk 0)⟩, vd⟩
 ·obtain rfl : i = gs.length := by omega
  refine go 2 ?_
  exact ⟨_, rfl, rfl, HL.chg⟩
end Go.Proofs.YtohngnahcgbfmaaGreatDoor.Er
namespace Go.Proofs.YtohngnahcgbfmaaGreatDoor.Er
open Go Vc Circ
theorem AL (n : Int) (gs : List Gt) (ol : List Int) (ga oa : Option Addr) (gc oc : Nat) (w : World) (hG : Gl w) (hGs : Rd EG w ga gs) (hOl : Rd EI w oa ol) (hgl : gs.length ≤ 140737488355328) (hol : ol.length ≤ 140737488355328) (hb : IsC n gs ol) : Calls Tryz.prog 99 [.agg #[i64 n, .slice ga gs.length gc, .slice oa ol.length oc]].toArray w (NM fun v w' => v = .nilIface ∧ Ext w w') :=
 (qQ n gs ol ga oa gc oc w hG hGs hOl hgl hol).mono fun e w' ⟨v, he, h, hE⟩ => by
  rcases h with ⟨h, _⟩ | ⟨_, h⟩
  ·exact ⟨v, he, h, hE⟩
  ·exact absurd hb h
end Go.Proofs.YtohngnahcgbfmaaGreatDoor.Er
namespace Go.Proofs.YtohngnahcgbfmaaGreatDoor.Cm
open Go Vc Er Circ
theorem agg145 : OA Tryz.prog 145 = true := by kernel_rfl
theorem arr145 : jD Tryz.prog 145 = some (64, 1) := by kernel_rfl
theorem iI : TB Tryz.prog 104 0 = some (0, 1, 3) := by kernel_rfl
theorem MK : TB Tryz.prog 104 1 = some (1, 1, 102) := by kernel_rfl
theorem sW : TB Tryz.prog 143 0 = some (0, 3, 104) := by kernel_rfl
theorem BA : Tryz.prog.follows .mixedOrders = true := by kernel_rfl
theorem zP : NA Tryz.prog 102 = true := by kernel_rfl
theorem mL : NA Tryz.prog 3 = true := by kernel_rfl
theorem siz145 : UB Tryz.prog 145 = some 64 := by kernel_rfl
theorem fU : UB Tryz.prog 3 = some 1 := by kernel_rfl
theorem JO : eD Tryz.prog 102 = some (154, 3) := by kernel_rfl
theorem XB (b n : Nat) (key : Option Nat) (c : Nat) (sp : LV) (gs : List Gt) (hSw : Sl EG key gs c sp) (hn : n ≤ 1000) (hlen : gs.length ≤ 4000) (kd xa xb : Int) (R : List RW) (w₀ w : World) (H : Hp No w₀ w ((rC b #[iN n, sO key (List.length gs) c, yA] 143) :: (key, qA EG 154 gs sp) :: R)) : Ca 54 [pT b, i64 kd, i64 xa, i64 xb] w fun v w' => v = i64 (FA n gs) ∧ ∃ (key' : Option Nat) (c' : Nat) (sp' : LV), Sl EG key' (gs ++ [(⟨kd, xa, xb⟩ : Gt)]) c' sp' ∧ Hp No w₀ w' ((rC b #[iN n, sO key' (List.length (gs ++ [(⟨kd, xa, xb⟩ : Gt)])) c', yA] 143) :: (key', qA EG 154 (gs ++ [(⟨kd, xa, xb⟩ : Gt)]) sp') :: R) := by
 skip
 refine enter (n := 37) Tryz.func54 rfl rfl (dB rfl) ?_
 refine go 11 ?_
 refine bS (E := EG) (l := ([⟨kd, xa, xb⟩] : List Gt)) fun b1 w3 m0 H4 n0 => ?_
 refine go 1 ?_
 intro b0 c7 c0 o0 d0 p0 e0
 have f0 : gs ++ ([⟨kd, xa, xb⟩] : List Gt) = gs ++ [(⟨kd, xa, xb⟩ : Gt)] := by rfl
 have a0 := d0
 have h0 := e0
 rw [f0] at a0 h0
 refine go 4 ?_
 intro i0 j0 q0
 refine go 0 ?_
 refine uB (K := [none, none, none, none, none, none, none, none, none, none, none, none, none, none]) [0, 1, 3, 7, 15, 0, 32, 96, 224, 480, 992, 2047, 4095, 8191] (fun w' => Ext i0 w') (fun w' w'' => Ext w' w'') BA (by kernel_rfl) (Ext.drew _) (fun _ _ h h' => h.trans h') ?_ ?_
 ·exact xB (by decide)
 refine gk 12 ?_
 refine ⟨i64 (FA n gs), fun _ r0 s0 _ => Gives.run rfl ((UG rfl rfl om).as (v' := i64 (FA n gs)) (by exact congrArg i64 (by unfold FA; omega))) ⟨rfl, Chg.refl _ _⟩, ?_⟩
 refine gk 1 ?_
 intro r50 u0 k0 hF
 have l0 := j0.ext k0
 refine go 0 ?_
 refine ⟨_, rfl, rfl, b0, c7, c0, a0, ?_⟩
 rw [show List.length (gs ++ [(⟨kd, xa, xb⟩ : Gt)]) = gs.length + 1 from by rw [List.length_append]; rfl]
 exact (l0.dropk 0)
theorem pI (b n : Nat) (key : Option Nat) (c : Nat) (sp : LV) (gs : List Gt) (hSw : Sl EG key gs c sp) (hn : n ≤ 1000) (hlen : gs.length ≤ 3900) (xa xb xc : Int) (R : List RW) (w₀ w : World) (H : Hp No w₀ w ((rC b #[iN n, sO key (List.length gs) c, yA] 143) :: (key, qA EG 154 gs sp) :: R)) : Ca 78 [pT b, i64 xa, i64 xb, i64 xc] w fun v w' => v = i64 (EH n gs) ∧ ∃ (key' : Option Nat) (c' : Nat) (sp' : LV), Sl EG key' (mE n gs xa xb xc) c' sp' ∧ Hp No w₀ w' ((rC b #[iN n, sO key' (List.length (mE n gs xa xb xc)) c', yA] 143) :: (key', qA EG 154 (mE n gs xa xb xc) sp') :: R) := by
 skip
 refine enter (n := 22) Tryz.func78 rfl rfl (dB rfl) ?_
 refine go 7 ?_
 have H1 := H.b2 rfl
 refine cl (XB b n key c sp gs hSw hn om (1 : Int) xa xc R w₀ w H1) ?_
 rintro wv10 w2 ⟨hwv11, h0, c5, i0, j0, k0⟩
 obtain ⟨a0, c0⟩ : ∃ q, q = FA n gs := ⟨_, rfl⟩
 rw [← c0] at hwv11
 subst hwv11
 have H9 := k0.b2 rfl
 refine go 3 ?_
 have l0 := H9.b2 rfl
 refine cl (XB b n h0 c5 i0 (gs ++ [(⟨(1 : Int), xa, xc⟩ : Gt)]) j0 hn (by simp only [List.length_append, List.length_cons, List.length_nil]; omega) (1 : Int) xb xc R w₀ w2 l0) ?_
 rintro wv22 m0 ⟨hwv23, n0, o0, p0, q0, r0⟩
 obtain ⟨b0, d0⟩ : ∃ q, q = FA n (gs ++ [(⟨(1 : Int), xa, xc⟩ : Gt)]) := ⟨_, rfl⟩
 rw [← d0] at hwv23
 subst hwv23
 have s0 := r0.b2 rfl
 have u0 := s0.b2 rfl
 refine cl (XB b n n0 o0 p0 (gs ++ [(⟨(1 : Int), xa, xc⟩ : Gt)] ++ [(⟨(1 : Int), xb, xc⟩ : Gt)]) q0 hn (by simp only [List.length_append, List.length_cons, List.length_nil]; omega) (2 : Int) a0 b0 R w₀ m0 u0) ?_
 rintro wv34 w0 ⟨hwv35, x0, y0, z0, A0, B0⟩
 obtain ⟨C0, e0⟩ : ∃ q, q = FA n (gs ++ [(⟨(1 : Int), xa, xc⟩ : Gt)] ++ [(⟨(1 : Int), xb, xc⟩ : Gt)]) := ⟨_, rfl⟩
 rw [← e0] at hwv35
 subst hwv35
 have D0 := B0.b2 rfl
 have E0 := D0.b2 rfl
 refine cl (XB b n x0 y0 z0 (gs ++ [(⟨(1 : Int), xa, xc⟩ : Gt)] ++ [(⟨(1 : Int), xb, xc⟩ : Gt)] ++ [(⟨(2 : Int), a0, b0⟩ : Gt)]) A0 hn (by simp only [List.length_append, List.length_cons, List.length_nil]; omega) (1 : Int) xc C0 R w₀ w0 E0) ?_
 rintro wv46 L0 ⟨hwv47, F0, G0, H0, I0, J0⟩
 obtain ⟨M0, f0⟩ : ∃ q, q = FA n (gs ++ [(⟨(1 : Int), xa, xc⟩ : Gt)] ++ [(⟨(1 : Int), xb, xc⟩ : Gt)] ++ [(⟨(2 : Int), a0, b0⟩ : Gt)]) := ⟨_, rfl⟩
 rw [← f0] at hwv47
 subst hwv47
 have K0 := J0.b2 rfl
 refine go 1 ?_
 subst f0
 subst e0
 subst d0
 subst c0
 rw [show FA n (gs ++ [⟨1, xa, xc⟩] ++ [⟨1, xb, xc⟩] ++ [⟨2, FA n gs, FA n (gs ++ [⟨1, xa, xc⟩])⟩]) = EH n gs from by unfold EH FA; simp only [List.length_append, List.length_cons, List.length_nil]]
 exact ⟨_, rfl, rfl, F0, G0, H0, I0, K0⟩
theorem JE (b iw : Nat) (hiw : iw ≤ 10) (w : World) : Ca 51 [pT b, iN iw] w fun v w' => v = .agg (uA EI (xA (64 * iw) 64)).toArray ∧ Ext w w' := by
 have H := Hp.start No w
 refine enter (n := 18) Tryz.func51 rfl rfl (dB rfl) ?_
 refine go 1 ?_
 intro b1 w2 d0 H3 e0
 refine go 1 ?_
 intro b5 w6 f0 H7 h0
 refine go 1 ?_
 refine AA (σ := Nat) (fun i => [(1, iN iw), (4, pT b1), (5, pT b5), (7, iN i)]) (fun i w' => i ≤ 64 ∧ Hp No w w' [(rX b5 EI (pC (xA (64 * iw) i)) 145), (rX b1 EI (List.replicate 64 0) 145)]) (fun i => 64 - i) (0) ?_ ?_ ?_
 ·exact kp
 ·exact ⟨Nat.zero_le _, H7⟩
 rintro i ρ w9 ⟨hq, HL⟩
 have hpl : (pC (xA (64 * iw) i)).length = 64 := HE (by rw [tD]; exact hq)
 refine go 1 ?_
 refine iA (((i : Nat) : Int) < (64 : Int)) rfl (fun c8 => ?_) (fun c8 => ?_)
 ·refine go 4 ?_
  refine sq ((KB rfl rfl om).as (v' := iN (64 * iw)) (by exact congrArg i64 om)) ?_
  refine go 1 ?_
  refine sq ((aB rfl rfl om).as (v' := i64 (((64 * iw + i : Nat) : Int))) (by exact congrArg i64 om)) ?_
  refine go 2 ?_
  intro i0 a0 j0
  refine go 2 ?_
  rw [JD _ (tD _ _) om] at a0
  exact ⟨i + 1, _, rfl, kp, ⟨om, a0⟩, vd⟩
 ·have hqe : i = 64 := by omega
  have hpf := (tD (64 * iw) i).trans hqe
  rw [bE hpf] at HL
  refine go 1 ?_
  refine GA (k := 1) (v := .agg (uA EI (xA (64 * iw) i)).toArray) (cs' := (uA EI (xA (64 * iw) i)).toArray) HL rfl rfl rfl vF (by exact HB (by rw [hpf]; rfl)) (by exact fC _) (by rw [List.size_toArray, oA]; show _ ≤ _ * 1; first | omega | (simp only [List.length_set]; omega) | exact dB rfl | (simp <;> omega)) (by exact VC (by rw [List.length_replicate]; exact hpf.symm)) fun k0 b0 l0 => ?_
  have c0 := b0.a2 rfl
  refine go 0 ?_
  subst hqe
  exact ⟨_, rfl, rfl, c0.chg⟩
end Go.Proofs.YtohngnahcgbfmaaGreatDoor.Cm
namespace Go.Proofs.YtohngnahcgbfmaaGreatDoor.Cm
open Go Vc Er Circ
theorem OC : wC Tryz.prog 3 EI := OF (by kernel_rfl) (by kernel_rfl)
theorem CJ (b n : Nat) (key : Option Nat) (c : Nat) (sp : LV) (gs : List Gt) (hSw : Sl EG key gs c sp) (hn : n ≤ 1000) (hlen : gs.length ≤ 3000) (ra rb : List Int) (hra : ra.length = 64) (hrb : rb.length = 64) (R : List RW) (w₀ w : World) (H : Hp No w₀ w ((rC b #[iN n, sO key (List.length gs) c, yA] 143) :: (key, qA EG 154 gs sp) :: R)) : Ca 52 [pT b, .agg (uA EI ra).toArray, .agg (uA EI rb).toArray] w fun v w' => v = .agg (uA EI ((NC n gs ra rb 64).2)).toArray ∧ ∃ (key' : Option Nat) (c' : Nat) (sp' : LV), Sl EG key' ((NC n gs ra rb 64).1) c' sp' ∧ Hp No w₀ w' ((rC b #[iN n, sO key' (List.length ((NC n gs ra rb 64).1)) c', yA] 143) :: (key', qA EG 154 ((NC n gs ra rb 64).1) sp') :: R) := by
 skip
 refine enter (n := 24) Tryz.func52 rfl rfl (dB rfl) ?_
 refine go 1 ?_
 intro b1 w2 L0 H3 M0
 refine go 1 ?_
 intro b5 w6 N0 H7 O0
 refine go 1 ?_
 intro b9 P0 Q0 R0 S0
 refine go 1 ?_
 intro e0 T0 U0 r0 V0
 refine go 1 ?_
 refine AA (σ := Nat × Option Nat × Nat × LV) (fun (i, kz, cz, sz) => [(0, pT b), (4, pT b1), (5, pT b5), (6, pT b9), (7, pT e0), (9, iN i)]) (fun (i, kz, cz, sz) w' => (i ≤ 64 ∧ Sl EG kz ((NC n gs ra rb i).1) cz sz) ∧ Hp No w₀ w' ((rC b #[iN n, sO kz (List.length ((NC n gs ra rb i).1)) cz, yA] 143) :: (kz, qA EG 154 ((NC n gs ra rb i).1) sz) :: (rX e0 EI (pC ((NC n gs ra rb i).2)) 145) :: (rX b1 EI ra 145) :: (rX b5 EI rb 145) :: (rX b9 EI (List.replicate 64 0) 145) :: R)) (fun (i, kz, cz, sz) => 64 - i) ((0, key, c, sp)) ?_ ?_ ?_
 ·exact kp
 ·exact ⟨⟨om, hSw⟩, (r0.pk 6 [4, 5, 0, 3, 2, 1])⟩
 rintro ⟨i, kz, cz, sz⟩ ρ W0 ⟨⟨hq, hSz⟩, HL⟩
 have hxl := ME n gs ra rb i
 have hpl : (pC (NC n gs ra rb i).2).length = 64 := HE (by rw [hxl.2]; exact hq)
 refine go 1 ?_
 refine iA (((i : Nat) : Int) < (64 : Int)) rfl (fun s0 => ?_) (fun s0 => ?_)
 ·refine go 2 ?_
  let f0 : List RW := ((rX b1 EI ra 145) :: (rX b5 EI rb 145) :: (rX b9 EI (List.replicate 64 0) 145) :: R)
  let j0 := fun (a0 : Option Nat) (b0 : LV) => ((a0, qA EG 154 (((NC n gs ra rb i).1) ++ [(⟨(1 : Int), ra.getD i 0, rb.getD i 0⟩ : Gt)]) b0) : RW)
  let k0 := fun (a0 : Option Nat) (c0 : Nat) => ((rC b #[iN n, sO a0 (List.length (((NC n gs ra rb i).1) ++ [(⟨(1 : Int), ra.getD i 0, rb.getD i 0⟩ : Gt)])) c0, yA] 143) : RW)
  let n0 := ((rX e0 EI (pC ((NC n gs ra rb i).2)) 145) : RW)
  let l0 := fun (a0 : Option Nat) (c0 : Nat) (b0 : LV) => (Sl EG a0 (((NC n gs ra rb i).1) ++ [(⟨(1 : Int), ra.getD i 0, rb.getD i 0⟩ : Gt)]) c0 b0 : Prop)
  let u0 : mC := [nC false false fun _ _ w' => Hp No w₀ w' ((rC b #[iN n, sO kz (List.length ((NC n gs ra rb i).1)) cz, yA] 143) :: (kz, qA EG 154 ((NC n gs ra rb i).1) sz) :: n0 :: f0), nC true false fun v8 _ w' => ∃ a0 c0 b0 d0, v8 = i64 d0 ∧ (l0 a0 c0 b0) ∧ d0 = FA n ((NC n gs ra rb i).1) ∧ Hp No w₀ w' ((k0 a0 c0) :: (j0 a0 b0) :: n0 :: f0), nC true true fun v8 _ w' => ∃ a0 c0 b0 d0, v8 = i64 d0 ∧ (l0 a0 c0 b0) ∧ d0 = FA n ((NC n gs ra rb i).1) ∧ Hp No w₀ w' ((k0 a0 c0) :: (j0 a0 b0) :: (rX e0 EI ((pC ((NC n gs ra rb i).2)).set i d0) 145) :: f0)]
  refine MA (m := 11) [0, 0, 0, 4, 12, 0, 32, 96, 254, 511, 1023] [8, 10] f0 u0 BA (fun _ e => HL.ext e) EC (fun o0 => ?_)
  refine gk 8 ?_
  refine WalkT.eff o0 0 ?_ ?_
  ·refine tA fun r w0 uw hF hE => ?_
   have x0 := hF.ext hE
   refine gW fun Q' hK => ?_
   have y0 := x0.b2 rfl
   refine cl (XB b n kz cz sz ((NC n gs ra rb i).1) hSz hn om (1 : Int) (ra.getD i 0) (rb.getD i 0) ((rX e0 EI (pC ((NC n gs ra rb i).2)) 145) :: (rX b1 EI ra 145) :: (rX b5 EI rb 145) :: (rX b9 EI (List.replicate 64 0) 145) :: R) w₀ uw y0) ?_
   rintro wv70 X0 ⟨hwv71, z0, A0, B0, C0, D0⟩
   obtain ⟨E0, p0⟩ : ∃ q, q = FA n ((NC n gs ra rb i).1) := ⟨_, rfl⟩
   rw [← p0] at hwv71
   subst hwv71
   have F0 := D0.b6 rfl
   exact hK _ _ (E_ z0 (E_ A0 (E_ B0 (E_ E0 (A_ rfl (A_ C0 (A_ p0 F0)))))))
  refine gk 1 ?_
  refine WalkT.eff o0 1 ?_ ?_
  ·refine tA fun r w0 uw hF hE => ?_
   obtain ⟨a0, c0, b0, d0, e8, i0, m0, q0⟩ := hF
   replace q0 := q0.ext hE
   dsimp only
   rw [e8]
   refine MC fun Q' hK => ?_
   refine go 1 ?_
   intro Y0 G0 Z0
   exact hK _ (fun _ => (E_ a0 (E_ c0 (E_ b0 (E_ d0 (A_ e8 (A_ i0 (A_ m0 G0))))))))
  refine WalkT.nil fun r w0 c1 hF hE => ?_
  obtain ⟨a0, c0, b0, d0, e8, i0, m0, h0⟩ := hF
  replace h0 := h0.ext hE
  dsimp only
  rw [e8]
  dsimp only [l0] at i0
  dsimp only [f0, k0, j0] at h0
  subst m0
  refine go 2 ?_
  rw [JD (l := (NC n gs ra rb i).2) _ hxl.2 om] at h0
  have H0 := h0
  have I0 := H0.b6 rfl
  exact ⟨(i + 1, a0, c0, b0), _, rfl, kp, ⟨⟨om, i0⟩, I0⟩, vd⟩
 ·have hie : i = 64 := by omega
  have hrl := hxl.2.trans hie
  rw [bE hrl] at HL
  refine go 1 ?_
  refine GA (k := 5) (v := .agg (uA EI ((NC n gs ra rb i).2)).toArray) (cs' := (uA EI ((NC n gs ra rb i).2)).toArray) HL rfl rfl rfl vF (by exact HB (by rw [hrl]; rfl)) (by exact fC _) (by rw [List.size_toArray, oA]; show _ ≤ _ * 1; first | omega | (simp only [List.length_set]; omega) | exact dB rfl | (simp <;> omega)) (by exact VC (by rw [List.length_replicate]; exact hrl.symm)) fun d1 J0 e1 => ?_
  have K0 := J0.b6 rfl
  refine go 0 ?_
  subst hie
  exact ⟨_, rfl, rfl, kz, cz, sz, hSz, ((((K0.dropk 5).dropk 4).dropk 3).dropk 2)⟩
end Go.Proofs.YtohngnahcgbfmaaGreatDoor.Cm
namespace Go.Proofs.YtohngnahcgbfmaaGreatDoor.Cm
open Go Vc Er Circ
theorem FJ (b n : Nat) (key : Option Nat) (c : Nat) (sp : LV) (gs : List Gt) (hSw : Sl EG key gs c sp) (hn : n ≤ 1000) (hlen : gs.length ≤ 3000) (ra rb : List Int) (hra : ra.length = 64) (hrb : rb.length = 64) (R : List RW) (w₀ w : World) (H : Hp No w₀ w ((rC b #[iN n, sO key (List.length gs) c, yA] 143) :: (key, qA EG 154 gs sp) :: R)) : Ca 53 [pT b, .agg (uA EI ra).toArray, .agg (uA EI rb).toArray] w fun v w' => v = .agg (uA EI ((gB n gs ra rb 63).2.1)).toArray ∧ ∃ (key' : Option Nat) (c' : Nat) (sp' : LV), Sl EG key' ((gB n gs ra rb 63).1) c' sp' ∧ Hp No w₀ w' ((rC b #[iN n, sO key' (List.length ((gB n gs ra rb 63).1)) c', yA] 143) :: (key', qA EG 154 ((gB n gs ra rb 63).1) sp') :: R) := by
 skip
 refine enter (n := 52) Tryz.func53 rfl rfl (dB rfl) ?_
 refine go 1 ?_
 intro b1 w2 j2 H3 k2
 refine go 1 ?_
 intro b5 w6 l2 H7 m2
 refine go 1 ?_
 intro b9 n2 o2 p2 q2
 refine go 1 ?_
 intro e0 X0 r2 Y0 s2
 refine go 5 ?_
 have Z0 := ((Y0.pk 6 [4, 5, 0, 1, 2, 3])).b2 rfl
 refine cl (XB b n key c sp gs hSw hn om (1 : Int) (ra.getD 0 0) (rb.getD 0 0) ((rX e0 EI (List.replicate 64 0) 145) :: (rX b9 EI (List.replicate 64 0) 145) :: (rX b5 EI rb 145) :: (rX b1 EI ra 145) :: R) w₀ X0 Z0) ?_
 rintro wv26 t2 ⟨hwv27, c1, d1, e1, g1, h1⟩
 obtain ⟨i1, G0⟩ : ∃ q, q = FA n gs := ⟨_, rfl⟩
 rw [← G0] at hwv27
 subst hwv27
 have u2 := h1.b6 rfl
 refine go 2 ?_
 intro j1 k1 x2
 refine go 5 ?_
 have l1 := k1.b2 rfl
 refine cl (XB b n c1 d1 e1 (gs ++ [(⟨(1 : Int), ra.getD 0 0, rb.getD 0 0⟩ : Gt)]) g1 hn (by simp only [List.length_append, List.length_cons, List.length_nil]; omega) (2 : Int) (ra.getD 0 0) (rb.getD 0 0) ((rX e0 EI ((List.replicate 64 0).set 0 i1) 145) :: (rX b9 EI (List.replicate 64 0) 145) :: (rX b5 EI rb 145) :: (rX b1 EI ra 145) :: R) w₀ j1 l1) ?_
 rintro wv41 y2 ⟨hwv42, m1, n1, o1, p1, q1⟩
 obtain ⟨z2, H0⟩ : ∃ q, q = FA n (gs ++ [(⟨(1 : Int), ra.getD 0 0, rb.getD 0 0⟩ : Gt)]) := ⟨_, rfl⟩
 rw [← H0] at hwv42
 subst hwv42
 have I0 := q1.b6 rfl
 refine go 1 ?_
 subst H0
 subst G0
 rw [rP] at I0
 have r1 := I0.b6 rfl
 have s1 := r1.b6 rfl
 refine go 1 ?_
 refine AA (σ := Nat × Option Nat × Nat × LV) (fun (i, kz, cz, sz) => [(0, pT b), (4, pT b1), (5, pT b5), (6, pT b9), (7, pT e0), (8, i64 ((gB n gs ra rb i).2.2)), (9, iN (i + 1))]) (fun (i, kz, cz, sz) w' => (i ≤ 63 ∧ Sl EG kz ((gB n gs ra rb i).1) cz sz) ∧ Hp No w₀ w' ((rC b #[iN n, sO kz (List.length ((gB n gs ra rb i).1)) cz, yA] 143) :: (kz, qA EG 154 ((gB n gs ra rb i).1) sz) :: (rX e0 EI (pC ((gB n gs ra rb i).2.1)) 145) :: (rX b1 EI ra 145) :: (rX b5 EI rb 145) :: (rX b9 EI (List.replicate 64 0) 145) :: R)) (fun (i, kz, cz, sz) => 63 - i) ((0, m1, n1, o1)) ?_ ?_ ?_
 ·exact kp
 ·exact ⟨⟨om, p1⟩, (s1.pk 6 [0, 1, 2, 5, 4, 3])⟩
 rintro ⟨i, kz, cz, sz⟩ ρ A2 ⟨⟨hq, hSz⟩, HL⟩
 have hal := ZE n gs ra rb i
 have hpl : (pC (gB n gs ra rb i).2.1).length = 64 := HE (by rw [hal.2]; omega)
 refine go 2 ?_
 refine iA ((((i + 1) : Nat) : Int) < (64 : Int)) rfl (fun t1 => ?_) (fun t1 => ?_)
 ·refine go 0 ?_
  let i0 : List RW := ((rX b1 EI ra 145) :: (rX b5 EI rb 145) :: (rX b9 EI (List.replicate 64 0) 145) :: R)
  let x0 := fun (b0 : Option Nat) (a0 : Int) (d0 : LV) => ((b0, qA EG 154 (((gB n gs ra rb i).1) ++ [(⟨(1 : Int), ra.getD (i + 1) 0, rb.getD (i + 1) 0⟩ : Gt)] ++ [(⟨(1 : Int), a0, (gB n gs ra rb i).2.2⟩ : Gt)]) d0) : RW)
  let y0 := fun (b0 : Option Nat) (a0 : Int) (c0 : Nat) => ((rC b #[iN n, sO b0 (List.length (((gB n gs ra rb i).1) ++ [(⟨(1 : Int), ra.getD (i + 1) 0, rb.getD (i + 1) 0⟩ : Gt)] ++ [(⟨(1 : Int), a0, (gB n gs ra rb i).2.2⟩ : Gt)])) c0, yA] 143) : RW)
  let z0 := ((rX e0 EI (pC ((gB n gs ra rb i).2.1)) 145) : RW)
  let A0 := fun (b0 : Option Nat) (a0 : Int) (c0 : Nat) (d0 : LV) => (Sl EG b0 (((gB n gs ra rb i).1) ++ [(⟨(1 : Int), ra.getD (i + 1) 0, rb.getD (i + 1) 0⟩ : Gt)] ++ [(⟨(1 : Int), a0, (gB n gs ra rb i).2.2⟩ : Gt)]) c0 d0 : Prop)
  let u1 : mC := [RB false false false fun _ _ _ w' => Hp No w₀ w' ((rC b #[iN n, sO kz (List.length ((gB n gs ra rb i).1)) cz, yA] 143) :: (kz, qA EG 154 ((gB n gs ra rb i).1) sz) :: z0 :: i0), RB true false false fun v9 _ _ w' => ∃ j0 n0 o0 a0, v9 = i64 a0 ∧ Sl EG j0 (((gB n gs ra rb i).1) ++ [(⟨(1 : Int), ra.getD (i + 1) 0, rb.getD (i + 1) 0⟩ : Gt)]) n0 o0 ∧ a0 = FA n ((gB n gs ra rb i).1) ∧ Hp No w₀ w' ((rC b #[iN n, sO j0 (List.length (((gB n gs ra rb i).1) ++ [(⟨(1 : Int), ra.getD (i + 1) 0, rb.getD (i + 1) 0⟩ : Gt)])) n0, yA] 143) :: (j0, qA EG 154 (((gB n gs ra rb i).1) ++ [(⟨(1 : Int), ra.getD (i + 1) 0, rb.getD (i + 1) 0⟩ : Gt)]) o0) :: z0 :: i0), RB true true false fun v9 v11 _ w' => ∃ a0 b0 c0 d0 f0, v9 = i64 a0 ∧ v11 = i64 f0 ∧ (A0 b0 a0 c0 d0) ∧ a0 = FA n ((gB n gs ra rb i).1) ∧ f0 = FA n (((gB n gs ra rb i).1) ++ [(⟨(1 : Int), ra.getD (i + 1) 0, rb.getD (i + 1) 0⟩ : Gt)]) ∧ Hp No w₀ w' ((y0 b0 a0 c0) :: (x0 b0 a0 d0) :: z0 :: i0), RB true true true fun v9 v11 _ w' => ∃ a0 b0 c0 d0 f0, v9 = i64 a0 ∧ v11 = i64 f0 ∧ (A0 b0 a0 c0 d0) ∧ a0 = FA n ((gB n gs ra rb i).1) ∧ f0 = FA n (((gB n gs ra rb i).1) ++ [(⟨(1 : Int), ra.getD (i + 1) 0, rb.getD (i + 1) 0⟩ : Gt)]) ∧ Hp No w₀ w' ((y0 b0 a0 c0) :: (x0 b0 a0 d0) :: (rX e0 EI ((pC ((gB n gs ra rb i).2.1)).set (i + 1) f0) 145) :: i0)]
  refine MA (m := 14) [0, 0, 0, 0, 8, 24, 0, 64, 192, 508, 0, 2046, 4095, 8191] [9, 11, 13] i0 u1 BA (fun _ e => HL.ext e) EC (fun B0 => ?_)
  refine gk 9 ?_
  refine WalkT.eff B0 0 ?_ ?_
  ·refine tA fun r w0 uw hF hE => ?_
   have w1 := hF.ext hE
   refine gW fun Q' hK => ?_
   have y1 := w1.b2 rfl
   refine cl (XB b n kz cz sz ((gB n gs ra rb i).1) hSz hn om (1 : Int) (ra.getD (i + 1) 0) (rb.getD (i + 1) 0) ((rX e0 EI (pC ((gB n gs ra rb i).2.1)) 145) :: (rX b1 EI ra 145) :: (rX b5 EI rb 145) :: (rX b9 EI (List.replicate 64 0) 145) :: R) w₀ uw y1) ?_
   rintro wv125 B2 ⟨hwv126, z1, A1, B1, C1, D1⟩
   obtain ⟨E1, J0⟩ : ∃ q, q = FA n ((gB n gs ra rb i).1) := ⟨_, rfl⟩
   rw [← J0] at hwv126
   subst hwv126
   have F1 := D1.b6 rfl
   exact hK _ _ (E_ z1 (E_ A1 (E_ B1 (E_ E1 (A_ rfl (A_ C1 (A_ J0 F1)))))))
  refine gk 1 ?_
  refine WalkT.eff B0 1 ?_ ?_
  ·refine tA fun r w0 uw hF hE => ?_
   obtain ⟨j0, n0, o0, a0, e9, G1, k0, C0⟩ := hF
   replace C0 := C0.ext hE
   dsimp only
   rw [e9]
   refine gW fun Q' hK => ?_
   have H1 := C0.b2 rfl
   refine cl (XB b n j0 n0 o0 (((gB n gs ra rb i).1) ++ [(⟨(1 : Int), ra.getD (i + 1) 0, rb.getD (i + 1) 0⟩ : Gt)]) G1 hn (by simp only [List.length_append, List.length_cons, List.length_nil]; omega) (1 : Int) a0 ((gB n gs ra rb i).2.2) ((rX e0 EI (pC ((gB n gs ra rb i).2.1)) 145) :: (rX b1 EI ra 145) :: (rX b5 EI rb 145) :: (rX b9 EI (List.replicate 64 0) 145) :: R) w₀ uw H1) ?_
   rintro wv138 C2 ⟨hwv139, I1, J1, K1, L1, M1⟩
   obtain ⟨N1, K0⟩ : ∃ q, q = FA n (((gB n gs ra rb i).1) ++ [(⟨(1 : Int), ra.getD (i + 1) 0, rb.getD (i + 1) 0⟩ : Gt)]) := ⟨_, rfl⟩
   rw [← K0] at hwv139
   subst hwv139
   have O1 := M1.b6 rfl
   exact hK _ _ (E_ a0 (E_ I1 (E_ J1 (E_ K1 (E_ N1 (A_ e9 (A_ rfl (A_ L1 (A_ k0 (A_ K0 O1))))))))))
  refine gk 1 ?_
  refine WalkT.eff B0 2 ?_ ?_
  ·refine tA fun r w0 uw hF hE => ?_
   obtain ⟨a0, b0, c0, d0, f0, e9, p0, q0, k0, D0, L0⟩ := hF
   replace L0 := L0.ext hE
   dsimp only
   rw [p0]
   refine MC fun Q' hK => ?_
   refine go 1 ?_
   intro D2 P1 E2
   exact hK _ (fun _ => (E_ a0 (E_ b0 (E_ c0 (E_ d0 (E_ f0 (A_ e9 (A_ p0 (A_ q0 (A_ k0 (A_ D0 P1)))))))))))
  refine WalkT.nil fun r w0 M0 hF hE => ?_
  obtain ⟨a0, b0, c0, d0, f0, e9, p0, q0, k0, D0, r0⟩ := hF
  let x1 : RW := (b0, qA EG 154 (uI n ((gB n gs ra rb i).1) (ra.getD (i + 1) 0) (rb.getD (i + 1) 0) (gB n gs ra rb i).2.2) d0)
  replace r0 := r0.ext hE
  dsimp only
  rw [e9, p0]
  dsimp only [A0] at q0
  dsimp only [i0, y0, x0] at r0
  subst D0
  subst k0
  have N0 : ((gB n gs ra rb i).1) ++ [(⟨(1 : Int), ra.getD (i + 1) 0, rb.getD (i + 1) 0⟩ : Gt)] ++ [(⟨(1 : Int), (FA n ((gB n gs ra rb i).1)), (gB n gs ra rb i).2.2⟩ : Gt)] = uI n ((gB n gs ra rb i).1) (ra.getD (i + 1) 0) (rb.getD (i + 1) 0) (gB n gs ra rb i).2.2 := by rfl
  have E0 := q0
  rw [N0] at E0
  have O0 : Hp No w₀ M0 ((rC b #[iN n, sO b0 (List.length (uI n ((gB n gs ra rb i).1) (ra.getD (i + 1) 0) (rb.getD (i + 1) 0) (gB n gs ra rb i).2.2)) c0, yA] 143) :: x1 :: (rX e0 EI ((pC ((gB n gs ra rb i).2.1)).set (i + 1) (FA n (((gB n gs ra rb i).1) ++ [(⟨(1 : Int), ra.getD (i + 1) 0, rb.getD (i + 1) 0⟩ : Gt)]))) 145) :: (rX b1 EI ra 145) :: (rX b5 EI rb 145) :: (rX b9 EI (List.replicate 64 0) 145) :: R) := by rw [← N0]; exact r0
  rw [JD (l := (gB n gs ra rb i).2.1) _ hal.2 om] at O0
  have P0 := O0.b6 rfl
  refine go 2 ?_
  refine iA ((((i + 1) : Nat) : Int) < (63 : Int)) rfl (fun Q1 => ?_) (fun Q1 => ?_)
  ·let s0 : List RW := ((rX e0 EI (pC ((gB n gs ra rb i).2.1 ++ [FA n ((gB n gs ra rb i).1 ++ [(⟨1, ra.getD (i + 1) 0, rb.getD (i + 1) 0⟩ : Gt)])])) 145) :: (rX b1 EI ra 145) :: (rX b5 EI rb 145) :: (rX b9 EI (List.replicate 64 0) 145) :: R)
   let R1 : mC := [XF false fun _ w' => Hp No w₀ w' ((rC b #[iN n, sO b0 (List.length (uI n ((gB n gs ra rb i).1) (ra.getD (i + 1) 0) (rb.getD (i + 1) 0) (gB n gs ra rb i).2.2)) c0, yA] 143) :: x1 :: s0), XF true fun v8 w' => ∃ h0 l0 m0 F0, v8 = i64 F0 ∧ Sl EG h0 (mE n (uI n ((gB n gs ra rb i).1) (ra.getD (i + 1) 0) (rb.getD (i + 1) 0) (gB n gs ra rb i).2.2) (ra.getD (i + 1) 0) (rb.getD (i + 1) 0) ((gB n gs ra rb i).2.2)) l0 m0 ∧ F0 = EH n (uI n ((gB n gs ra rb i).1) (ra.getD (i + 1) 0) (rb.getD (i + 1) 0) (gB n gs ra rb i).2.2) ∧ Hp No w₀ w' ((rC b #[iN n, sO h0 (List.length (mE n (uI n ((gB n gs ra rb i).1) (ra.getD (i + 1) 0) (rb.getD (i + 1) 0) (gB n gs ra rb i).2.2) (ra.getD (i + 1) 0) (rb.getD (i + 1) 0) ((gB n gs ra rb i).2.2))) l0, yA] 143) :: (h0, qA EG 154 (mE n (uI n ((gB n gs ra rb i).1) (ra.getD (i + 1) 0) (rb.getD (i + 1) 0) (gB n gs ra rb i).2.2) (ra.getD (i + 1) 0) (rb.getD (i + 1) 0) ((gB n gs ra rb i).2.2)) m0) :: s0)]
   refine MA (m := 10) [0, 0, 2, 6, 0, 16, 48, 0, 255, 511] [8] s0 R1 BA (fun _ e => P0.ext e) EC (fun S1 => ?_)
   refine gk 8 ?_
   refine WalkT.eff S1 0 ?_ ?_
   ·refine tA fun r w0 uw hF hE => ?_
    have T1 := hF.ext hE
    refine gW fun Q' hK => ?_
    have U1 := T1.as (L' := (_ :: _ :: ((rX e0 EI (pC ((gB n gs ra rb i).2.1 ++ [FA n ((gB n gs ra rb i).1 ++ [(⟨1, ra.getD (i + 1) 0, rb.getD (i + 1) 0⟩ : Gt)])])) 145) :: (rX b1 EI ra 145) :: (rX b5 EI rb 145) :: (rX b9 EI (List.replicate 64 0) 145) :: R))) rfl
    refine cl (pI b n b0 c0 d0 (uI n ((gB n gs ra rb i).1) (ra.getD (i + 1) 0) (rb.getD (i + 1) 0) (gB n gs ra rb i).2.2) E0 hn (by simp only [bK]; omega) (ra.getD (i + 1) 0) (rb.getD (i + 1) 0) ((gB n gs ra rb i).2.2) ((rX e0 EI (pC ((gB n gs ra rb i).2.1 ++ [FA n ((gB n gs ra rb i).1 ++ [(⟨1, ra.getD (i + 1) 0, rb.getD (i + 1) 0⟩ : Gt)])])) 145) :: (rX b1 EI ra 145) :: (rX b5 EI rb 145) :: (rX b9 EI (List.replicate 64 0) 145) :: R) w₀ uw U1) ?_
    rintro wv190 F2 ⟨hwv191, V1, W1, X1, Y1, Z1⟩
    obtain ⟨c2, Q0⟩ : ∃ q, q = EH n (uI n ((gB n gs ra rb i).1) (ra.getD (i + 1) 0) (rb.getD (i + 1) 0) (gB n gs ra rb i).2.2) := ⟨_, rfl⟩
    rw [← Q0] at hwv191
    subst hwv191
    have d2 := Z1.b6 rfl
    exact hK _ _ (E_ V1 (E_ W1 (E_ X1 (E_ c2 (A_ rfl (A_ Y1 (A_ Q0 d2)))))))
   refine bA (fun r => r 8) (fun r r' h => h 8 (by decide) rfl) (fun _ _ => zA rfl) (WalkT.nil fun r w0 e2 hF hE => ?_)
   obtain ⟨h0, l0, m0, F0, e8, f2, g2, u0⟩ := hF
   replace u0 := u0.ext hE
   dsimp only
   rw [e8]
   dsimp only [s0] at u0
   subst g2
   refine go 1 ?_
   refine sq ((aB rfl rfl om).as (v' := iN (i + 1 + 1)) (by rfl)) ?_
   refine go 1 ?_
   have R0 : mE n (uI n ((gB n gs ra rb i).1) (ra.getD (i + 1) 0) (rb.getD (i + 1) 0) (gB n gs ra rb i).2.2) (ra.getD (i + 1) 0) (rb.getD (i + 1) 0) ((gB n gs ra rb i).2.2) = (gB n gs ra rb (i + 1)).1 := by rw [gB, if_pos om]
   have S0 := f2
   rw [R0] at S0
   have T0 : Hp No w₀ e2 ((rC b #[iN n, sO h0 (List.length ((gB n gs ra rb (i + 1)).1)) l0, yA] 143) :: (h0, qA EG 154 ((gB n gs ra rb (i + 1)).1) m0) :: (rX e0 EI (pC ((gB n gs ra rb i).2.1 ++ [FA n ((gB n gs ra rb i).1 ++ [(⟨1, ra.getD (i + 1) 0, rb.getD (i + 1) 0⟩ : Gt)])])) 145) :: (rX b1 EI ra 145) :: (rX b5 EI rb 145) :: (rX b9 EI (List.replicate 64 0) 145) :: R) := by rw [← R0]; exact u0
   rw [show (gB n gs ra rb i).2.1 ++ [FA n ((gB n gs ra rb i).1 ++ [(⟨1, ra.getD (i + 1) 0, rb.getD (i + 1) 0⟩ : Gt)])] = (gB n gs ra rb (i + 1)).2.1 from by rw [gB, if_pos om]] at T0
   exact ⟨(i + 1, h0, l0, m0), _, rfl, ⟨rfl, rfl, rfl, rfl, rfl, congrArg i64 (by rw [gB, if_pos om]), rfl, trivial⟩, ⟨⟨om, S0⟩, T0⟩, vd⟩
  ·refine go 1 ?_
   refine sq ((aB rfl rfl om).as (v' := iN (i + 1 + 1)) (by rfl)) ?_
   refine go 1 ?_
   have U0 : uI n ((gB n gs ra rb i).1) (ra.getD (i + 1) 0) (rb.getD (i + 1) 0) (gB n gs ra rb i).2.2 = (gB n gs ra rb (i + 1)).1 := by rw [gB, if_neg om]
   have V0 := E0
   rw [U0] at V0
   have W0 : Hp No w₀ M0 ((rC b #[iN n, sO b0 (List.length ((gB n gs ra rb (i + 1)).1)) c0, yA] 143) :: (b0, qA EG 154 ((gB n gs ra rb (i + 1)).1) d0) :: (rX e0 EI (pC ((gB n gs ra rb i).2.1 ++ [FA n ((gB n gs ra rb i).1 ++ [(⟨1, ra.getD (i + 1) 0, rb.getD (i + 1) 0⟩ : Gt)])])) 145) :: (rX b1 EI ra 145) :: (rX b5 EI rb 145) :: (rX b9 EI (List.replicate 64 0) 145) :: R) := by rw [← U0]; exact P0
   rw [show (gB n gs ra rb i).2.1 ++ [FA n ((gB n gs ra rb i).1 ++ [(⟨1, ra.getD (i + 1) 0, rb.getD (i + 1) 0⟩ : Gt)])] = (gB n gs ra rb (i + 1)).2.1 from by rw [gB, if_neg om]] at W0
   exact ⟨(i + 1, b0, c0, d0), _, rfl, ⟨rfl, rfl, rfl, rfl, rfl, congrArg i64 (by rw [gB, if_neg om]), rfl, trivial⟩, ⟨⟨om, V0⟩, W0⟩, vd⟩
 ·have hie : i = 63 := by omega
  have hrl : (gB n gs ra rb i).2.1.length = 64 := by rw [hal.2, hie]
  rw [bE hrl] at HL
  refine go 1 ?_
  refine GA (k := 5) (v := .agg (uA EI ((gB n gs ra rb i).2.1)).toArray) (cs' := (uA EI ((gB n gs ra rb i).2.1)).toArray) HL rfl rfl rfl vF (by exact HB (by rw [hrl]; rfl)) (by exact fC _) (by rw [List.size_toArray, oA]; show _ ≤ _ * 1; first | omega | (simp only [List.length_set]; omega) | exact dB rfl | (simp <;> omega)) (by exact VC (by rw [List.length_replicate]; exact hrl.symm)) fun G2 h2 H2 => ?_
  have i2 := h2.b6 rfl
  refine go 0 ?_
  subst hie
  exact ⟨_, rfl, rfl, kz, cz, sz, hSz, ((((i2.dropk 5).dropk 4).dropk 3).dropk 2)⟩
end Go.Proofs.YtohngnahcgbfmaaGreatDoor.Cm
namespace Go.Proofs.YtohngnahcgbfmaaGreatDoor.Cm
open Go Vc Er Circ
theorem AK (b n : Nat) (key : Option Nat) (c : Nat) (sp : LV) (gs : List Gt) (hSw : Sl EG key gs c sp) (hn : n ≤ 1000) (hlen : gs.length ≤ 3000) (ra rb : List Int) (hra : ra.length = 64) (hrb : rb.length = 64) (R : List RW) (w₀ w : World) (H : Hp No w₀ w ((rC b #[iN n, sO key (List.length gs) c, yA] 143) :: (key, qA EG 154 gs sp) :: R)) : Ca 55 [pT b, .agg (uA EI ra).toArray, .agg (uA EI rb).toArray] w fun v w' => v = i64 (cC n gs ra rb).2 ∧ ∃ (key' : Option Nat) (c' : Nat) (sp' : LV), Sl EG key' ((cC n gs ra rb).1) c' sp' ∧ Hp No w₀ w' ((rC b #[iN n, sO key' (List.length ((cC n gs ra rb).1)) c', yA] 143) :: (key', qA EG 154 ((cC n gs ra rb).1) sp') :: R) := by
 skip
 refine enter (n := 41) Tryz.func55 rfl rfl (dB rfl) ?_
 refine go 1 ?_
 intro b1 w2 H2 H3 I2
 refine go 1 ?_
 intro b5 w6 J2 H7 K2
 let x3 := (rX b5 EI rb 145) :: (rX b1 EI ra 145) :: R
 let x1 := (rX b1 EI ra 145) :: (rX b5 EI rb 145) :: R
 refine go 1 ?_
 have g1 := (H7.pk 4 [2, 3, 0, 1])
 let h0 : List RW := x3
 let h1 : mC := [nC false false fun _ _ w' => Hp No w₀ w' ((rC b #[iN n, sO key (List.length gs) c, yA] 143) :: (key, qA EG 154 gs sp) :: h0), nC true false fun v4 _ w' => ∃ i0 u0 x0 a0, v4 = i64 a0 ∧ Sl EG i0 (gs ++ [(⟨(3 : Int), ra.getD 0 0, (0 : Int)⟩ : Gt)]) u0 x0 ∧ a0 = FA n gs ∧ Hp No w₀ w' ((rC b #[iN n, sO i0 (List.length (gs ++ [(⟨(3 : Int), ra.getD 0 0, (0 : Int)⟩ : Gt)])) u0, yA] 143) :: (i0, qA EG 154 (gs ++ [(⟨(3 : Int), ra.getD 0 0, (0 : Int)⟩ : Gt)]) x0) :: h0), nC true true fun v4 v7 w' => ∃ a0 d0 j0 k0 F0, v4 = i64 a0 ∧ v7 = i64 F0 ∧ Sl EG d0 (gs ++ [(⟨(3 : Int), ra.getD 0 0, (0 : Int)⟩ : Gt)] ++ [(⟨(2 : Int), a0, rb.getD 0 0⟩ : Gt)]) j0 k0 ∧ a0 = FA n gs ∧ F0 = FA n (gs ++ [(⟨(3 : Int), ra.getD 0 0, (0 : Int)⟩ : Gt)]) ∧ Hp No w₀ w' ((rC b #[iN n, sO d0 (List.length (gs ++ [(⟨(3 : Int), ra.getD 0 0, (0 : Int)⟩ : Gt)] ++ [(⟨(2 : Int), a0, rb.getD 0 0⟩ : Gt)])) j0, yA] 143) :: (d0, qA EG 154 (gs ++ [(⟨(3 : Int), ra.getD 0 0, (0 : Int)⟩ : Gt)] ++ [(⟨(2 : Int), a0, rb.getD 0 0⟩ : Gt)]) k0) :: h0)]
 refine MA (m := 9) [0, 0, 0, 4, 14, 0, 32, 127, 255] [4, 7] h0 h1 BA (fun _ e => g1.ext e) EC (fun O0 => ?_)
 refine gk 4 ?_
 refine WalkT.eff O0 0 ?_ ?_
 ·refine tA fun r w0 uw hF hE => ?_
  have i1 := hF.ext hE
  refine gW fun Q' hK => ?_
  have j1 := i1.b2 rfl
  refine cl (XB b n key c sp gs hSw hn om (3 : Int) (ra.getD 0 0) (0 : Int) x3 w₀ uw j1) ?_
  rintro wv75 L2 ⟨hwv76, k1, l1, m1, n1, o1⟩
  obtain ⟨p1, P0⟩ : ∃ q, q = FA n gs := ⟨_, rfl⟩
  rw [← P0] at hwv76
  subst hwv76
  have q1 := o1.b4 rfl
  exact hK _ _ (E_ k1 (E_ l1 (E_ m1 (E_ p1 (A_ rfl (A_ n1 (A_ P0 q1)))))))
 refine gk 2 ?_
 refine WalkT.eff O0 1 ?_ ?_
 ·refine tA fun r w0 uw hF hE => ?_
  obtain ⟨i0, u0, x0, a0, e4, r1, G0, H0⟩ := hF
  replace H0 := H0.ext hE
  dsimp only
  rw [e4]
  refine gW fun Q' hK => ?_
  have s1 := H0.b2 rfl
  refine cl (XB b n i0 u0 x0 (gs ++ [(⟨(3 : Int), ra.getD 0 0, (0 : Int)⟩ : Gt)]) r1 hn (by simp only [List.length_append, List.length_cons, List.length_nil]; omega) (2 : Int) a0 (rb.getD 0 0) x3 w₀ uw s1) ?_
  rintro wv88 M2 ⟨hwv89, t1, u1, w1, y1, z1⟩
  obtain ⟨A1, Q0⟩ : ∃ q, q = FA n (gs ++ [(⟨(3 : Int), ra.getD 0 0, (0 : Int)⟩ : Gt)]) := ⟨_, rfl⟩
  rw [← Q0] at hwv89
  subst hwv89
  have B1 := z1.b4 rfl
  exact hK _ _ (E_ a0 (E_ t1 (E_ u1 (E_ w1 (E_ A1 (A_ e4 (A_ rfl (A_ y1 (A_ G0 (A_ Q0 B1))))))))))
 refine bA (fun r => r 7) (fun r r' h => h 7 (by decide) rfl) (fun _ _ => zA rfl) (WalkT.nil fun r w0 C1 hF hE => ?_)
 obtain ⟨a0, d0, j0, k0, F0, e4, e7, D1, G0, E1, y0⟩ := hF
 replace y0 := y0.ext hE
 dsimp only
 rw [e4, e7]
 dsimp only [h0] at y0
 subst E1
 subst G0
 have R0 : gs ++ [(⟨(3 : Int), ra.getD 0 0, (0 : Int)⟩ : Gt)] ++ [(⟨(2 : Int), (FA n gs), rb.getD 0 0⟩ : Gt)] = (jB n gs ra rb 0).1 := by rfl
 have S0 := D1
 rw [R0] at S0
 have F1 : Hp No w₀ C1 ((rC b #[iN n, sO d0 (List.length ((jB n gs ra rb 0).1)) j0, yA] 143) :: (d0, qA EG 154 ((jB n gs ra rb 0).1) k0) :: (rX b5 EI rb 145) :: (rX b1 EI ra 145) :: R) := by rw [← R0]; exact y0
 refine go 1 ?_
 refine AA (σ := Nat × Option Nat × Nat × LV) (fun (i, kz, cz, sz) => [(0, pT b), (4, pT b1), (5, pT b5), (7, i64 ((jB n gs ra rb i).2)), (8, iN (i + 1))]) (fun (i, kz, cz, sz) w' => (i ≤ 62 ∧ Sl EG kz (jB n gs ra rb i).1 cz sz) ∧ Hp No w₀ w' ((rC b #[iN n, sO kz (List.length ((jB n gs ra rb i).1)) cz, yA] 143) :: (kz, qA EG 154 ((jB n gs ra rb i).1) sz) :: (rX b1 EI ra 145) :: (rX b5 EI rb 145) :: R)) (fun (i, kz, cz, sz) => 62 - i) ((0, d0, j0, k0)) ?_ ?_ ?_
 ·exact kp
 ·exact ⟨⟨om, S0⟩, (F1.pk 4 [0, 1, 3, 2])⟩
 rintro ⟨i, kz, cz, sz⟩ ρ N2 ⟨⟨hq, hSz⟩, HL⟩
 let x2 : Array Value := #[iN n, sO kz (List.length ((jB n gs ra rb i).1)) cz, yA]
 have hll := MJ n gs ra rb i
 refine go 2 ?_
 refine iA ((((i + 1) : Nat) : Int) < (63 : Int)) rfl (fun G1 => ?_) (fun G1 => ?_)
 ·refine go 0 ?_
  let l0 : List RW := x1
  let H1 : mC := [nC false false fun _ _ w' => Hp No w₀ w' ((rC b x2 143) :: (kz, qA EG 154 ((jB n gs ra rb i).1) sz) :: l0), nC true false fun v5 _ w' => ∃ m0 z0 A0 b0, v5 = i64 b0 ∧ Sl EG m0 (((jB n gs ra rb i).1) ++ [(⟨(3 : Int), ra.getD (i + 1) 0, (0 : Int)⟩ : Gt)]) z0 A0 ∧ b0 = FA n ((jB n gs ra rb i).1) ∧ Hp No w₀ w' ((rC b #[iN n, sO m0 (List.length (((jB n gs ra rb i).1) ++ [(⟨(3 : Int), ra.getD (i + 1) 0, (0 : Int)⟩ : Gt)])) z0, yA] 143) :: (m0, qA EG 154 (((jB n gs ra rb i).1) ++ [(⟨(3 : Int), ra.getD (i + 1) 0, (0 : Int)⟩ : Gt)]) A0) :: l0), nC true true fun v5 v10 w' => ∃ b0 e0 n0 o0 I0, v5 = i64 b0 ∧ v10 = i64 I0 ∧ Sl EG e0 (mE n (((jB n gs ra rb i).1) ++ [(⟨(3 : Int), ra.getD (i + 1) 0, (0 : Int)⟩ : Gt)]) b0 (rb.getD (i + 1) 0) ((jB n gs ra rb i).2)) n0 o0 ∧ b0 = FA n ((jB n gs ra rb i).1) ∧ I0 = EH n (((jB n gs ra rb i).1) ++ [(⟨(3 : Int), ra.getD (i + 1) 0, (0 : Int)⟩ : Gt)]) ∧ Hp No w₀ w' ((rC b #[iN n, sO e0 (List.length (mE n (((jB n gs ra rb i).1) ++ [(⟨(3 : Int), ra.getD (i + 1) 0, (0 : Int)⟩ : Gt)]) b0 (rb.getD (i + 1) 0) ((jB n gs ra rb i).2))) n0, yA] 143) :: (e0, qA EG 154 (mE n (((jB n gs ra rb i).1) ++ [(⟨(3 : Int), ra.getD (i + 1) 0, (0 : Int)⟩ : Gt)]) b0 (rb.getD (i + 1) 0) ((jB n gs ra rb i).2)) o0) :: l0)]
  refine MA (m := 12) [0, 0, 0, 4, 12, 30, 0, 64, 192, 0, 1023, 2047] [5, 10] l0 H1 BA (fun _ e => HL.ext e) EC (fun T0 => ?_)
  refine gk 5 ?_
  refine WalkT.eff T0 0 ?_ ?_
  ·refine tA fun r w0 uw hF hE => ?_
   have I1 := hF.ext hE
   refine gW fun Q' hK => ?_
   have J1 := I1.b2 rfl
   refine cl (XB b n kz cz sz ((jB n gs ra rb i).1) hSz hn om (3 : Int) (ra.getD (i + 1) 0) (0 : Int) x1 w₀ uw J1) ?_
   rintro wv163 O2 ⟨hwv164, K1, L1, M1, N1, O1⟩
   obtain ⟨P1, U0⟩ : ∃ q, q = FA n ((jB n gs ra rb i).1) := ⟨_, rfl⟩
   rw [← U0] at hwv164
   subst hwv164
   have Q1 := O1.b4 rfl
   exact hK _ _ (E_ K1 (E_ L1 (E_ M1 (E_ P1 (A_ rfl (A_ N1 (A_ U0 Q1)))))))
  refine gk 4 ?_
  refine WalkT.eff T0 1 ?_ ?_
  ·refine tA fun r w0 uw hF hE => ?_
   obtain ⟨m0, z0, A0, b0, e5, R1, J0, K0⟩ := hF
   replace K0 := K0.ext hE
   dsimp only
   rw [e5]
   refine gW fun Q' hK => ?_
   have S1 := K0.b2 rfl
   refine cl (pI b n m0 z0 A0 (((jB n gs ra rb i).1) ++ [(⟨(3 : Int), ra.getD (i + 1) 0, (0 : Int)⟩ : Gt)]) R1 hn (by simp only [List.length_append, List.length_cons, List.length_nil]; omega) b0 (rb.getD (i + 1) 0) ((jB n gs ra rb i).2) x1 w₀ uw S1) ?_
   rintro wv176 P2 ⟨hwv177, T1, U1, V1, W1, X1⟩
   obtain ⟨Y1, V0⟩ : ∃ q, q = EH n (((jB n gs ra rb i).1) ++ [(⟨(3 : Int), ra.getD (i + 1) 0, (0 : Int)⟩ : Gt)]) := ⟨_, rfl⟩
   rw [← V0] at hwv177
   subst hwv177
   have Z1 := X1.b4 rfl
   exact hK _ _ (E_ b0 (E_ T1 (E_ U1 (E_ V1 (E_ Y1 (A_ e5 (A_ rfl (A_ W1 (A_ J0 (A_ V0 Z1))))))))))
  refine bA (fun r => r 10) (fun r r' h => h 10 (by decide) rfl) (fun _ _ => zA rfl) (WalkT.nil fun r w0 c2 hF hE => ?_)
  obtain ⟨b0, e0, n0, o0, I0, e5, d2, e2, J0, f2, B0⟩ := hF
  replace B0 := B0.ext hE
  dsimp only
  rw [e5, d2]
  dsimp only [l0] at B0
  subst f2
  subst J0
  refine go 1 ?_
  refine sq ((aB rfl rfl om).as (v' := iN (i + 1 + 1)) (by rfl)) ?_
  refine go 1 ?_
  have W0 : mE n (((jB n gs ra rb i).1) ++ [(⟨(3 : Int), ra.getD (i + 1) 0, (0 : Int)⟩ : Gt)]) (FA n ((jB n gs ra rb i).1)) (rb.getD (i + 1) 0) ((jB n gs ra rb i).2) = (jB n gs ra rb (i + 1)).1 := by rfl
  have X0 := e2
  rw [W0] at X0
  have g2 : Hp No w₀ c2 ((rC b #[iN n, sO e0 (List.length ((jB n gs ra rb (i + 1)).1)) n0, yA] 143) :: (e0, qA EG 154 ((jB n gs ra rb (i + 1)).1) o0) :: (rX b1 EI ra 145) :: (rX b5 EI rb 145) :: R) := by rw [← W0]; exact B0
  exact ⟨(i + 1, e0, n0, o0), _, rfl, kp, ⟨⟨om, X0⟩, g2⟩, vd⟩
 ·have hie : i = 62 := by omega
  refine go 0 ?_
  let p0 : List RW := x1
  let h2 : mC := [nC false false fun _ _ w' => Hp No w₀ w' ((rC b x2 143) :: (kz, qA EG 154 ((jB n gs ra rb i).1) sz) :: p0), nC true false fun v6 _ w' => ∃ q0 C0 D0 c0, v6 = i64 c0 ∧ Sl EG q0 (((jB n gs ra rb i).1) ++ [(⟨(3 : Int), rb.getD 63 0, (0 : Int)⟩ : Gt)]) C0 D0 ∧ c0 = FA n ((jB n gs ra rb i).1) ∧ Hp No w₀ w' ((rC b #[iN n, sO q0 (List.length (((jB n gs ra rb i).1) ++ [(⟨(3 : Int), rb.getD 63 0, (0 : Int)⟩ : Gt)])) C0, yA] 143) :: (q0, qA EG 154 (((jB n gs ra rb i).1) ++ [(⟨(3 : Int), rb.getD 63 0, (0 : Int)⟩ : Gt)]) D0) :: p0), nC true true fun v6 v8 w' => ∃ c0 f0 r0 s0 L0, v6 = i64 c0 ∧ v8 = i64 L0 ∧ Sl EG f0 (mE n (((jB n gs ra rb i).1) ++ [(⟨(3 : Int), rb.getD 63 0, (0 : Int)⟩ : Gt)]) (ra.getD 63 0) c0 ((jB n gs ra rb i).2)) r0 s0 ∧ c0 = FA n ((jB n gs ra rb i).1) ∧ L0 = EH n (((jB n gs ra rb i).1) ++ [(⟨(3 : Int), rb.getD 63 0, (0 : Int)⟩ : Gt)]) ∧ Hp No w₀ w' ((rC b #[iN n, sO f0 (List.length (mE n (((jB n gs ra rb i).1) ++ [(⟨(3 : Int), rb.getD 63 0, (0 : Int)⟩ : Gt)]) (ra.getD 63 0) c0 ((jB n gs ra rb i).2))) r0, yA] 143) :: (f0, qA EG 154 (mE n (((jB n gs ra rb i).1) ++ [(⟨(3 : Int), rb.getD 63 0, (0 : Int)⟩ : Gt)]) (ra.getD 63 0) c0 ((jB n gs ra rb i).2)) s0) :: p0)]
  refine MA (m := 10) [0, 0, 2, 0, 0, 16, 56, 0, 255, 511] [6, 8] p0 h2 BA (fun _ e => HL.ext e) EC (fun Y0 => ?_)
  refine gk 6 ?_
  refine WalkT.eff Y0 0 ?_ ?_
  ·refine tA fun r w0 uw hF hE => ?_
   have i2 := hF.ext hE
   refine gW fun Q' hK => ?_
   have j2 := i2.b2 rfl
   refine cl (XB b n kz cz sz ((jB n gs ra rb i).1) hSz hn om (3 : Int) (rb.getD 63 0) (0 : Int) x1 w₀ uw j2) ?_
   rintro wv249 Q2 ⟨hwv250, k2, l2, m2, n2, o2⟩
   obtain ⟨p2, Z0⟩ : ∃ q, q = FA n ((jB n gs ra rb i).1) := ⟨_, rfl⟩
   rw [← Z0] at hwv250
   subst hwv250
   have q2 := o2.b4 rfl
   exact hK _ _ (E_ k2 (E_ l2 (E_ m2 (E_ p2 (A_ rfl (A_ n2 (A_ Z0 q2)))))))
  refine gk 1 ?_
  refine WalkT.eff Y0 1 ?_ ?_
  ·refine tA fun r w0 uw hF hE => ?_
   obtain ⟨q0, C0, D0, c0, e6, r2, M0, N0⟩ := hF
   replace N0 := N0.ext hE
   dsimp only
   rw [e6]
   refine gW fun Q' hK => ?_
   have s2 := N0.b2 rfl
   refine cl (pI b n q0 C0 D0 (((jB n gs ra rb i).1) ++ [(⟨(3 : Int), rb.getD 63 0, (0 : Int)⟩ : Gt)]) r2 hn (by simp only [List.length_append, List.length_cons, List.length_nil]; omega) (ra.getD 63 0) c0 ((jB n gs ra rb i).2) x1 w₀ uw s2) ?_
   rintro wv262 R2 ⟨hwv263, t2, u2, y2, z2, A2⟩
   obtain ⟨B2, c1⟩ : ∃ q, q = EH n (((jB n gs ra rb i).1) ++ [(⟨(3 : Int), rb.getD 63 0, (0 : Int)⟩ : Gt)]) := ⟨_, rfl⟩
   rw [← c1] at hwv263
   subst hwv263
   have C2 := A2.b4 rfl
   exact hK _ _ (E_ c0 (E_ t2 (E_ u2 (E_ y2 (E_ B2 (A_ e6 (A_ rfl (A_ z2 (A_ M0 (A_ c1 C2))))))))))
  refine bA (fun r => r 8) (fun r r' h => h 8 (by decide) rfl) (fun _ _ => zA rfl) (WalkT.nil fun r w0 D2 hF hE => ?_)
  obtain ⟨c0, f0, r0, s0, L0, e6, e8, E2, M0, F2, E0⟩ := hF
  replace E0 := E0.ext hE
  dsimp only
  rw [e6, e8]
  dsimp only [p0] at E0
  subst F2
  subst M0
  refine go 0 ?_
  have d1 : mE n (((jB n gs ra rb i).1) ++ [(⟨(3 : Int), rb.getD 63 0, (0 : Int)⟩ : Gt)]) (ra.getD 63 0) (FA n ((jB n gs ra rb i).1)) ((jB n gs ra rb i).2) = (cC n gs ra rb).1 := by rw [NJ hie]
  have e1 := E2
  rw [d1] at e1
  have G2 : Hp No w₀ D2 ((rC b #[iN n, sO f0 (List.length ((cC n gs ra rb).1)) r0, yA] 143) :: (f0, qA EG 154 ((cC n gs ra rb).1) s0) :: (rX b1 EI ra 145) :: (rX b5 EI rb 145) :: R) := by rw [← d1]; exact E0
  exact ⟨_, rfl, congrArg i64 (by rw [NJ hie]), f0, r0, s0, e1, ((G2.dropk 3).dropk 2)⟩
end Go.Proofs.YtohngnahcgbfmaaGreatDoor.Cm
namespace Go.Proofs.YtohngnahcgbfmaaGreatDoor.Cm
open Go Vc Er Circ
theorem DP (b n : Nat) (key : Option Nat) (c : Nat) (sp : LV) (gs : List Gt) (hSw : Sl EG key gs c sp) (hn : n ≤ 1000) (hlen : gs.length ≤ 3000) (ws : Int) (ra rb : List Int) (hra : ra.length = 64) (hrb : rb.length = 64) (R : List RW) (w₀ w : World) (H : Hp No w₀ w ((rC b #[iN n, sO key (List.length gs) c, yA] 143) :: (key, qA EG 154 gs sp) :: R)) : Ca 56 [pT b, i64 ws, .agg (uA EI ra).toArray, .agg (uA EI rb).toArray] w fun v w' => v = .agg (uA EI ((yC n gs ws ra rb 64).2)).toArray ∧ ∃ (key' : Option Nat) (c' : Nat) (sp' : LV), Sl EG key' ((yC n gs ws ra rb 64).1) c' sp' ∧ Hp No w₀ w' ((rC b #[iN n, sO key' (List.length ((yC n gs ws ra rb 64).1)) c', yA] 143) :: (key', qA EG 154 ((yC n gs ws ra rb 64).1) sp') :: R) := by
 skip
 refine enter (n := 34) Tryz.func56 rfl rfl (dB rfl) ?_
 refine go 1 ?_
 intro b1 w2 B1 H3 C1
 refine go 1 ?_
 intro b5 w6 D1 H7 E1
 refine go 1 ?_
 intro b9 F1 G1 H1 I1
 refine go 1 ?_
 intro h0 J1 K1 O0 L1
 refine go 1 ?_
 refine AA (σ := Nat × Option Nat × Nat × LV) (fun (i, kz, cz, sz) => [(0, pT b), (1, i64 ws), (6, pT b1), (7, pT b5), (8, pT b9), (9, pT h0), (11, iN i)]) (fun (i, kz, cz, sz) w' => (i ≤ 64 ∧ Sl EG kz ((yC n gs ws ra rb i).1) cz sz) ∧ Hp No w₀ w' ((rC b #[iN n, sO kz (List.length ((yC n gs ws ra rb i).1)) cz, yA] 143) :: (kz, qA EG 154 ((yC n gs ws ra rb i).1) sz) :: (rX h0 EI (pC ((yC n gs ws ra rb i).2)) 145) :: (rX b1 EI ra 145) :: (rX b5 EI rb 145) :: (rX b9 EI (List.replicate 64 0) 145) :: R)) (fun (i, kz, cz, sz) => 64 - i) ((0, key, c, sp)) ?_ ?_ ?_
 ·exact kp
 ·exact ⟨⟨om, hSw⟩, (O0.pk 6 [4, 5, 0, 3, 2, 1])⟩
 rintro ⟨i, kz, cz, sz⟩ ρ M1 ⟨⟨hq, hSz⟩, HL⟩
 have hpi := sE n gs ws ra rb i
 have hpl : (pC (yC n gs ws ra rb i).2).length = 64 := HE (by rw [hpi.2]; exact hq)
 refine go 1 ?_
 refine iA (((i : Nat) : Int) < (64 : Int)) rfl (fun P0 => ?_) (fun P0 => ?_)
 ·refine go 2 ?_
  let j0 : List RW := ((rX b1 EI ra 145) :: (rX b5 EI rb 145) :: (rX b9 EI (List.replicate 64 0) 145) :: R)
  let B0 := fun (c0 : Option Nat) (a0 : Int) (b0 : Int) (d0 : LV) => ((c0, qA EG 154 (((yC n gs ws ra rb i).1) ++ [(⟨(1 : Int), ra.getD i 0, rb.getD i 0⟩ : Gt)] ++ [(⟨(2 : Int), ws, a0⟩ : Gt)] ++ [(⟨(1 : Int), rb.getD i 0, b0⟩ : Gt)]) d0) : RW)
  let C0 := fun (c0 : Option Nat) (a0 : Int) (b0 : Int) (e0 : Nat) => ((rC b #[iN n, sO c0 (List.length (((yC n gs ws ra rb i).1) ++ [(⟨(1 : Int), ra.getD i 0, rb.getD i 0⟩ : Gt)] ++ [(⟨(2 : Int), ws, a0⟩ : Gt)] ++ [(⟨(1 : Int), rb.getD i 0, b0⟩ : Gt)])) e0, yA] 143) : RW)
  let p0 := ((rX h0 EI (pC ((yC n gs ws ra rb i).2)) 145) : RW)
  let D0 := fun (c0 : Option Nat) (a0 : Int) (b0 : Int) (e0 : Nat) (d0 : LV) => (Sl EG c0 (((yC n gs ws ra rb i).1) ++ [(⟨(1 : Int), ra.getD i 0, rb.getD i 0⟩ : Gt)] ++ [(⟨(2 : Int), ws, a0⟩ : Gt)] ++ [(⟨(1 : Int), rb.getD i 0, b0⟩ : Gt)]) e0 d0 : Prop)
  let Q0 : mC := [RD false false false false fun _ _ _ _ w' => Hp No w₀ w' ((rC b #[iN n, sO kz (List.length ((yC n gs ws ra rb i).1)) cz, yA] 143) :: (kz, qA EG 154 ((yC n gs ws ra rb i).1) sz) :: p0 :: j0), RD true false false false fun v14 _ _ _ w' => ∃ m0 q0 r0 a0, v14 = i64 a0 ∧ Sl EG m0 (((yC n gs ws ra rb i).1) ++ [(⟨(1 : Int), ra.getD i 0, rb.getD i 0⟩ : Gt)]) q0 r0 ∧ a0 = FA n ((yC n gs ws ra rb i).1) ∧ Hp No w₀ w' ((rC b #[iN n, sO m0 (List.length (((yC n gs ws ra rb i).1) ++ [(⟨(1 : Int), ra.getD i 0, rb.getD i 0⟩ : Gt)])) q0, yA] 143) :: (m0, qA EG 154 (((yC n gs ws ra rb i).1) ++ [(⟨(1 : Int), ra.getD i 0, rb.getD i 0⟩ : Gt)]) r0) :: p0 :: j0), RD true true false false fun v14 v15 _ _ w' => ∃ a0 n0 s0 u0 b0, v14 = i64 a0 ∧ v15 = i64 b0 ∧ Sl EG n0 (((yC n gs ws ra rb i).1) ++ [(⟨(1 : Int), ra.getD i 0, rb.getD i 0⟩ : Gt)] ++ [(⟨(2 : Int), ws, a0⟩ : Gt)]) s0 u0 ∧ a0 = FA n ((yC n gs ws ra rb i).1) ∧ b0 = FA n (((yC n gs ws ra rb i).1) ++ [(⟨(1 : Int), ra.getD i 0, rb.getD i 0⟩ : Gt)]) ∧ Hp No w₀ w' ((rC b #[iN n, sO n0 (List.length (((yC n gs ws ra rb i).1) ++ [(⟨(1 : Int), ra.getD i 0, rb.getD i 0⟩ : Gt)] ++ [(⟨(2 : Int), ws, a0⟩ : Gt)])) s0, yA] 143) :: (n0, qA EG 154 (((yC n gs ws ra rb i).1) ++ [(⟨(1 : Int), ra.getD i 0, rb.getD i 0⟩ : Gt)] ++ [(⟨(2 : Int), ws, a0⟩ : Gt)]) u0) :: p0 :: j0), RD true true true false fun v14 v15 v16 _ w' => ∃ a0 b0 c0 e0 d0 f0, v14 = i64 a0 ∧ v15 = i64 b0 ∧ v16 = i64 f0 ∧ (D0 c0 a0 b0 e0 d0) ∧ a0 = FA n ((yC n gs ws ra rb i).1) ∧ b0 = FA n (((yC n gs ws ra rb i).1) ++ [(⟨(1 : Int), ra.getD i 0, rb.getD i 0⟩ : Gt)]) ∧ f0 = FA n (((yC n gs ws ra rb i).1) ++ [(⟨(1 : Int), ra.getD i 0, rb.getD i 0⟩ : Gt)] ++ [(⟨(2 : Int), ws, a0⟩ : Gt)]) ∧ Hp No w₀ w' ((C0 c0 a0 b0 e0) :: (B0 c0 a0 b0 d0) :: p0 :: j0), RD true true true true fun v14 v15 v16 _ w' => ∃ a0 b0 c0 e0 d0 f0, v14 = i64 a0 ∧ v15 = i64 b0 ∧ v16 = i64 f0 ∧ (D0 c0 a0 b0 e0 d0) ∧ a0 = FA n ((yC n gs ws ra rb i).1) ∧ b0 = FA n (((yC n gs ws ra rb i).1) ++ [(⟨(1 : Int), ra.getD i 0, rb.getD i 0⟩ : Gt)]) ∧ f0 = FA n (((yC n gs ws ra rb i).1) ++ [(⟨(1 : Int), ra.getD i 0, rb.getD i 0⟩ : Gt)] ++ [(⟨(2 : Int), ws, a0⟩ : Gt)]) ∧ Hp No w₀ w' ((C0 c0 a0 b0 e0) :: (B0 c0 a0 b0 d0) :: (rX h0 EI ((pC ((yC n gs ws ra rb i).2)).set i f0) 145) :: j0)]
  refine MA (m := 19) [0, 0, 0, 4, 12, 0, 0, 0, 0, 256, 768, 0, 2048, 6144, 16256, 32736, 65534, 131071, 262143] [14, 15, 16, 18] j0 Q0 BA (fun _ e => HL.ext e) EC (fun x0 => ?_)
  refine gk 14 ?_
  refine WalkT.eff x0 0 ?_ ?_
  ·refine tA fun r w0 uw hF hE => ?_
   have R0 := hF.ext hE
   refine gW fun Q' hK => ?_
   have S0 := R0.b2 rfl
   refine cl (XB b n kz cz sz ((yC n gs ws ra rb i).1) hSz hn om (1 : Int) (ra.getD i 0) (rb.getD i 0) ((rX h0 EI (pC ((yC n gs ws ra rb i).2)) 145) :: (rX b1 EI ra 145) :: (rX b5 EI rb 145) :: (rX b9 EI (List.replicate 64 0) 145) :: R) w₀ uw S0) ?_
   rintro wv122 N1 ⟨hwv123, T0, U0, V0, W0, X0⟩
   obtain ⟨Y0, H0⟩ : ∃ q, q = FA n ((yC n gs ws ra rb i).1) := ⟨_, rfl⟩
   rw [← H0] at hwv123
   subst hwv123
   have Z0 := X0.b6 rfl
   exact hK _ _ (E_ T0 (E_ U0 (E_ V0 (E_ Y0 (A_ rfl (A_ W0 (A_ H0 Z0)))))))
  refine WalkT.eff x0 1 ?_ ?_
  ·refine tA fun r w0 uw hF hE => ?_
   obtain ⟨m0, q0, r0, a0, i0, c1, k0, E0⟩ := hF
   replace E0 := E0.ext hE
   dsimp only
   rw [i0]
   refine gW fun Q' hK => ?_
   have d1 := E0.b2 rfl
   refine cl (XB b n m0 q0 r0 (((yC n gs ws ra rb i).1) ++ [(⟨(1 : Int), ra.getD i 0, rb.getD i 0⟩ : Gt)]) c1 hn (by simp only [List.length_append, List.length_cons, List.length_nil]; omega) (2 : Int) ws a0 ((rX h0 EI (pC ((yC n gs ws ra rb i).2)) 145) :: (rX b1 EI ra 145) :: (rX b5 EI rb 145) :: (rX b9 EI (List.replicate 64 0) 145) :: R) w₀ uw d1) ?_
   rintro wv135 O1 ⟨hwv136, e1, g1, h1, i1, j1⟩
   obtain ⟨k1, I0⟩ : ∃ q, q = FA n (((yC n gs ws ra rb i).1) ++ [(⟨(1 : Int), ra.getD i 0, rb.getD i 0⟩ : Gt)]) := ⟨_, rfl⟩
   rw [← I0] at hwv136
   subst hwv136
   have l1 := j1.b6 rfl
   exact hK _ _ (E_ a0 (E_ e1 (E_ g1 (E_ h1 (E_ k1 (A_ i0 (A_ rfl (A_ i1 (A_ k0 (A_ I0 l1))))))))))
  refine WalkT.eff x0 2 ?_ ?_
  ·refine tA fun r w0 uw hF hE => ?_
   obtain ⟨a0, n0, s0, u0, b0, i0, l0, m1, k0, o0, F0⟩ := hF
   replace F0 := F0.ext hE
   dsimp only
   rw [l0]
   refine gW fun Q' hK => ?_
   have n1 := F0.b2 rfl
   refine cl (XB b n n0 s0 u0 (((yC n gs ws ra rb i).1) ++ [(⟨(1 : Int), ra.getD i 0, rb.getD i 0⟩ : Gt)] ++ [(⟨(2 : Int), ws, a0⟩ : Gt)]) m1 hn (by simp only [List.length_append, List.length_cons, List.length_nil]; omega) (1 : Int) (rb.getD i 0) b0 ((rX h0 EI (pC ((yC n gs ws ra rb i).2)) 145) :: (rX b1 EI ra 145) :: (rX b5 EI rb 145) :: (rX b9 EI (List.replicate 64 0) 145) :: R) w₀ uw n1) ?_
   rintro wv148 P1 ⟨hwv149, o1, p1, q1, r1, s1⟩
   obtain ⟨t1, J0⟩ : ∃ q, q = FA n (((yC n gs ws ra rb i).1) ++ [(⟨(1 : Int), ra.getD i 0, rb.getD i 0⟩ : Gt)] ++ [(⟨(2 : Int), ws, a0⟩ : Gt)]) := ⟨_, rfl⟩
   rw [← J0] at hwv149
   subst hwv149
   have u1 := s1.b6 rfl
   exact hK _ _ (E_ a0 (E_ b0 (E_ o1 (E_ p1 (E_ q1 (E_ t1 (A_ i0 (A_ l0 (A_ rfl (A_ r1 (A_ k0 (A_ o0 (A_ J0 u1)))))))))))))
  refine gk 1 ?_
  refine WalkT.eff x0 3 ?_ ?_
  ·refine tA fun r w0 uw hF hE => ?_
   obtain ⟨a0, b0, c0, e0, d0, f0, i0, l0, y0, z0, k0, o0, G0, K0⟩ := hF
   replace K0 := K0.ext hE
   dsimp only
   rw [y0]
   refine MC fun Q' hK => ?_
   refine go 1 ?_
   intro Q1 w1 R1
   exact hK _ (fun _ => (E_ a0 (E_ b0 (E_ c0 (E_ e0 (E_ d0 (E_ f0 (A_ i0 (A_ l0 (A_ y0 (A_ z0 (A_ k0 (A_ o0 (A_ G0 w1))))))))))))))
  refine WalkT.nil fun r w0 x1 hF hE => ?_
  obtain ⟨a0, b0, c0, e0, d0, f0, i0, l0, y0, z0, k0, o0, G0, A0⟩ := hF
  replace A0 := A0.ext hE
  dsimp only
  rw [i0, l0, y0]
  dsimp only [D0] at z0
  dsimp only [j0, C0, B0] at A0
  subst G0
  subst o0
  subst k0
  have L0 : ((yC n gs ws ra rb i).1) ++ [(⟨(1 : Int), ra.getD i 0, rb.getD i 0⟩ : Gt)] ++ [(⟨(2 : Int), ws, (FA n ((yC n gs ws ra rb i).1))⟩ : Gt)] ++ [(⟨(1 : Int), rb.getD i 0, (FA n (((yC n gs ws ra rb i).1) ++ [(⟨(1 : Int), ra.getD i 0, rb.getD i 0⟩ : Gt)]))⟩ : Gt)] = (yC n gs ws ra rb (i + 1)).1 := by rfl
  have M0 := z0
  rw [L0] at M0
  have N0 : Hp No w₀ x1 ((rC b #[iN n, sO c0 (List.length ((yC n gs ws ra rb (i + 1)).1)) e0, yA] 143) :: (c0, qA EG 154 ((yC n gs ws ra rb (i + 1)).1) d0) :: (rX h0 EI ((pC ((yC n gs ws ra rb i).2)).set i (FA n (((yC n gs ws ra rb i).1) ++ [(⟨(1 : Int), ra.getD i 0, rb.getD i 0⟩ : Gt)] ++ [(⟨(2 : Int), ws, (FA n ((yC n gs ws ra rb i).1))⟩ : Gt)]))) 145) :: (rX b1 EI ra 145) :: (rX b5 EI rb 145) :: (rX b9 EI (List.replicate 64 0) 145) :: R) := by rw [← L0]; exact A0
  rw [JD (l := (yC n gs ws ra rb i).2) _ hpi.2 om] at N0
  have y1 := N0.b6 rfl
  refine go 2 ?_
  exact ⟨(i + 1, c0, e0, d0), _, rfl, kp, ⟨⟨om, M0⟩, y1⟩, vd⟩
 ·have hie : i = 64 := by omega
  have hrl := hpi.2.trans hie
  rw [bE hrl] at HL
  refine go 1 ?_
  refine GA (k := 5) (v := .agg (uA EI ((yC n gs ws ra rb i).2)).toArray) (cs' := (uA EI ((yC n gs ws ra rb i).2)).toArray) HL rfl rfl rfl vF (by exact HB (by rw [hrl]; rfl)) (by exact fC _) (by rw [List.size_toArray, oA]; show _ ≤ _ * 1; first | omega | (simp only [List.length_set]; omega) | exact dB rfl | (simp <;> omega)) (by exact VC (by rw [List.length_replicate]; exact hrl.symm)) fun S1 z1 T1 => ?_
  have A1 := z1.b6 rfl
  refine go 0 ?_
  subst hie
  exact ⟨_, rfl, rfl, kz, cz, sz, hSz, ((((A1.dropk 5).dropk 4).dropk 3).dropk 2)⟩
end Go.Proofs.YtohngnahcgbfmaaGreatDoor.Cm
namespace Go.Proofs.YtohngnahcgbfmaaGreatDoor.Cm
open Go Vc Er Circ
theorem GL : OA Tryz.prog 104 = true := by kernel_rfl
theorem LK : TB Tryz.prog 104 2 = some (2, 1, 100) := by kernel_rfl
theorem siz100 : UB Tryz.prog 100 = some 1 := by kernel_rfl
theorem cL : UB Tryz.prog 104 = some 3 := by kernel_rfl
theorem KL : Tryz.prog.underlying 63 = some (.int .i64) := by kernel_rfl
theorem HP (kd : Int) (fm : BitVec 64) (w : World) (hG : Gl w) (hb : ¬ (kd = 1 ∧ fm < 2#64) ∧ ¬ ((kd = 2 ∨ kd = 3) ∧ fm < 4#64)) : Ca 35 [i64 kd, u64 fm] w fun v w' => (∃ ev, v = .tuple #[.agg #[i64 (0 : Int), yA, yA], ev] ∧ Er w.heap.size w' 1 1 ev) ∧ Ext w w' := by
 have H := Hp.start No w
 refine enter (n := 131) Tryz.func35 rfl rfl (dB rfl) ?_
 refine go 1 ?_
 intro b1 w2 w0 H3 x0
 refine go 5 ?_
 refine iA ((kd : Int) = (1 : Int)) rfl (fun c0 => ?_) (fun c0 => ?_)
 ·refine go 5 ?_
  refine iA (fm.toNat < ((1#64) <<< (1 : Nat)).toNat) rfl (fun a0 => ?_) (fun a0 => ?_)
  ·exfalso
   first | exact hb.1 ⟨c0, a0⟩ | exact hb.2 ⟨.inl b0, a0⟩ | exact hb.2 ⟨.inr b0, a0⟩
  ·refine go 3 ?_
   have := H3.lT 0
   refine cl (YA (1 : Int) kd ({data := #[109, 97, 107, 101]}) w2 uC) ?_
   rintro v7 w5 ⟨d0, m0⟩
   have y0 := H3.ext m0
   obtain ⟨z0, A0, rfl⟩ := d0.iface
   refine go 1 ?_
   intro B0 n0 e0
   refine go 1 ?_
   exact ⟨_, rfl, ⟨_, rfl, (Er.chgs (e0.mono (M' := fun x => x = b1) (fun _ h => by subst h; simp)) (fun x h1 h2 h3 => by have := e0.size; rcases h3 with rfl <;> omega) d0).mono H3.chg.size⟩, n0.chg⟩
 ·refine go 2 ?_
  refine iA ((kd : Int) = (2 : Int)) rfl (fun b0 => ?_) (fun b0 => ?_)
  ·refine go 0 ?_
   refine GB (bT (b0)) ?_
   refine go 4 ?_
   refine iA (fm.toNat < ((1#64) <<< (2 : Nat)).toNat) rfl (fun a0 => ?_) (fun a0 => ?_)
   ·exfalso
    first | exact hb.1 ⟨c0, a0⟩ | exact hb.2 ⟨.inl b0, a0⟩ | exact hb.2 ⟨.inr b0, a0⟩
   ·refine go 3 ?_
    have := H3.lT 0
    refine cl (YA (1 : Int) kd ({data := #[109, 97, 107, 101]}) w2 uC) ?_
    rintro v18 C0 ⟨f0, o0⟩
    have D0 := H3.ext o0
    obtain ⟨E0, F0, rfl⟩ := f0.iface
    refine go 1 ?_
    intro G0 p0 h0
    refine go 1 ?_
    exact ⟨_, rfl, ⟨_, rfl, (Er.chgs (h0.mono (M' := fun x => x = b1) (fun _ h => by subst h; simp)) (fun x h1 h2 h3 => by have := h0.size; rcases h3 with rfl <;> omega) f0).mono H3.chg.size⟩, p0.chg⟩
  ·refine go 2 ?_
   refine iA ((kd : Int) = (3 : Int)) rfl (fun b0 => ?_) (fun b0 => ?_)
   ·refine go 4 ?_
    refine iA (fm.toNat < ((1#64) <<< (2 : Nat)).toNat) rfl (fun a0 => ?_) (fun a0 => ?_)
    ·exfalso
     first | exact hb.1 ⟨c0, a0⟩ | exact hb.2 ⟨.inl b0, a0⟩ | exact hb.2 ⟨.inr b0, a0⟩
    ·refine go 3 ?_
     have := H3.lT 0
     refine cl (YA (1 : Int) kd ({data := #[109, 97, 107, 101]}) w2 uC) ?_
     rintro v29 H0 ⟨i0, q0⟩
     have I0 := H3.ext q0
     obtain ⟨J0, K0, rfl⟩ := i0.iface
     refine go 1 ?_
     intro L0 r0 j0
     refine go 1 ?_
     exact ⟨_, rfl, ⟨_, rfl, (Er.chgs (j0.mono (M' := fun x => x = b1) (fun _ h => by subst h; simp)) (fun x h1 h2 h3 => by have := j0.size; rcases h3 with rfl <;> omega) i0).mono H3.chg.size⟩, r0.chg⟩
   ·refine go 3 ?_
    have := H3.lT 0
    refine cl (YA (1 : Int) kd ({data := #[109, 97, 107, 101]}) w2 uC) ?_
    rintro v40 M0 ⟨k0, s0⟩
    have N0 := H3.ext s0
    obtain ⟨O0, P0, rfl⟩ := k0.iface
    refine go 1 ?_
    intro Q0 u0 l0
    refine go 1 ?_
    exact ⟨_, rfl, ⟨_, rfl, (Er.chgs (l0.mono (M' := fun x => x = b1) (fun _ h => by subst h; simp)) (fun x h1 h2 h3 => by have := l0.size; rcases h3 with rfl <;> omega) k0).mono H3.chg.size⟩, u0.chg⟩
theorem TR (fm : BitVec 64) (hf : fm < 2#64) (w : World) : Ca 35 [i64 (1 : Int), u64 fm] w fun v w' => ∃ (key : Option Nat) (c : Nat) (sp : LV) (b : Nat), v = .tuple #[.agg #[i64 ((128 : Nat) : Int), sO key (EJ (CB fm 0)).1.length c, .slice (some ⟨b, 0, none⟩) 64 64], .nilIface] ∧ Sl EG key (EJ (CB fm 0)).1 c sp ∧ Hp No w w' [(key, qA EG 154 (EJ (CB fm 0)).1 sp), (rX b EI (EJ (CB fm 0)).2 145)] := by
 let x1 : Array Value := #[i64 0, yA, yA]
 have H := Hp.start No w
 refine enter (n := 131) Tryz.func35 rfl rfl (dB rfl) ?_
 refine go 1 ?_
 intro b1 w2 T1 H3 U1
 refine go 3 ?_
 refine sq ((iB rfl rfl).as (v' := .bool true) (by rfl)) ?_
 refine go 5 ?_
 refine sq ((OE (a := fm) (b := (1#64) <<< (1 : Nat)) rfl rfl).as (v' := .bool true) (by exact bT (hf))) ?_
 refine go 1 ?_
 refine sq ((KB rfl rfl om).as (v' := iN 128) (by rfl)) ?_
 refine go 3 ?_
 intro b5 w6 V1 H7 W1
 refine go 1 ?_
 have H9 := H7.nil (qA EG 154 [] [])
 have X1 := H9.a3 rfl
 refine go 1 ?_
 intro a0 Y1 Z1 k0 c2
 rw [WH] at k0
 refine go 2 ?_
 refine AA (σ := Nat × Option Nat × Nat × LV) (fun (i, kz, cz, sz) => [(0, i64 1), (1, u64 fm), (4, pT b1), (7, pT b5), (8, pT a0), (36, i64 1), (37, iN i)]) (fun (i, kz, cz, sz) w' => (i ≤ 1 ∧ Sl EG kz (KA 128 fm i).1 cz sz) ∧ Hp No w w' [(rC b5 #[iN 128, sO kz (List.length ((KA 128 fm i).1)) cz, yA] 143), (kz, qA EG 154 ((KA 128 fm i).1) sz), (rX a0 EI (gC ((KA 128 fm i).2)) 146), (rC b1 x1 104)]) (fun (i, kz, cz, sz) => 1 - i) ((0, none, 0, [])) ?_ ?_ ?_
 ·exact kp
 ·exact ⟨⟨om, Sl.none⟩, (k0.pk 4 [2, 1, 0, 3])⟩
 rintro ⟨i, kz, cz, sz⟩ ρ S0 ⟨⟨hq, hSz⟩, HL⟩
 have hol := XH 128 fm i
 have hi1 := tD (64 * (2 * i)) 64
 have hi2 := tD (64 * (2 * i + 1)) 64
 have hpx : (gC (KA 128 fm i).2).length = 128 := fD (by rw [hol.2]; omega)
 refine go 1 ?_
 refine iA (((i : Nat) : Int) < (1 : Int)) rfl (fun T0 => ?_) (fun T0 => ?_)
 ·refine go 4 ?_
  refine sq ((KB rfl rfl om).as (v' := iN (2 * i)) (by exact congrArg i64 om)) ?_
  refine cl (JE b5 (2 * i) om S0) ?_
  rintro _ U0 ⟨rfl, V0⟩
  have W0 := HL.ext V0
  refine go 2 ?_
  refine sq ((KB rfl rfl om).as (v' := iN (2 * i)) (by exact congrArg i64 om)) ?_
  refine sq ((aB rfl rfl om).as (v' := iN (2 * i + 1)) (by exact congrArg i64 om)) ?_
  refine cl (JE b5 (2 * i + 1) om U0) ?_
  rintro _ d2 ⟨rfl, X0⟩
  have e2 := W0.ext X0
  refine go 1 ?_
  intro d0 f2 g2 h2 i2
  refine go 1 ?_
  intro e0 j2 k2 Y0 l2
  refine GA (k := 1) (v := .agg (uA EI (xA (64 * (2 * i)) 64)).toArray) (cs' := (uA EI (xA (64 * (2 * i)) 64)).toArray) Y0 rfl rfl rfl vF (by exact HB (by rw [hi1]; rfl)) (by exact fC _) (by rw [List.size_toArray, oA]; show _ ≤ _ * 1; first | omega | (simp only [List.length_set]; omega) | exact dB rfl | (simp <;> omega)) (by exact VC (by rw [List.length_replicate]; exact hi1.symm)) ?_
  intro m2 Z0 n2
  have c1 := Z0.a6 rfl
  refine GA (k := 0) (v := .agg (uA EI (xA (64 * (2 * i + 1)) 64)).toArray) (cs' := (uA EI (xA (64 * (2 * i + 1)) 64)).toArray) c1 rfl rfl rfl vF (by exact HB (by rw [hi2]; rfl)) (by exact fC _) (by rw [List.size_toArray, oA]; show _ ≤ _ * 1; first | omega | (simp only [List.length_set]; omega) | exact dB rfl | (simp <;> omega)) (by exact VC (by rw [List.length_replicate]; exact hi2.symm)) ?_
  intro l0 d1 o2
  have m0 := d1.a6 rfl
  refine go 5 ?_
  refine iA (((fm >>> (i : Nat)) &&& (1#64)) = (1#64)) rfl (fun c0 => ?_) (fun c0 => ?_)
  ·refine go 4 ?_
   have e1 := ((m0.pk 6 [2, 3, 0, 1, 4, 5])).b2 rfl
   refine cl (CJ b5 128 kz cz sz ((KA 128 fm i).1) hSz om om (xA (64 * (2 * i)) 64) (xA (64 * (2 * i + 1)) 64) om om [(rX e0 EI (xA (64 * (2 * i + 1)) 64) 145), (rX d0 EI (xA (64 * (2 * i)) 64) 145), (rX a0 EI (gC ((KA 128 fm i).2)) 146), (rC b1 x1 104)] w l0 e1) ?_
   rintro _ p2 ⟨rfl, f0, n0, o0, g1, h1⟩
   have i1 := h1.a6 rfl
   have hnr : (NC 128 ((KA 128 fm i).1) (xA (64 * (2 * i)) 64) (xA (64 * (2 * i + 1)) 64) 64).2.length = 64 := (ME 128 ((KA 128 fm i).1) (xA (64 * (2 * i)) 64) (xA (64 * (2 * i + 1)) 64) 64).2
   refine go 1 ?_
   refine GA (k := 4) (v := .agg (uA EI ((NC 128 ((KA 128 fm i).1) (xA (64 * (2 * i)) 64) (xA (64 * (2 * i + 1)) 64) 64).2)).toArray) (cs' := (uA EI (gC ((KA 128 fm i).2 ++ (NC 128 ((KA 128 fm i).1) (xA (64 * (2 * i)) 64) (xA (64 * (2 * i + 1)) 64) 64).2))).toArray) i1 rfl rfl rfl vF (by exact HB (by rw [hnr]; rfl)) (by exact fC _) (by rw [List.size_toArray, oA, fD (by rw [hol.2]; omega)]; show _ ≤ _ * 1; omega) (by exact GE (by rw [hol.2]; omega) (by rw [hol.2]; omega) (by first | exact hnr)) ?_
   intro j1 k1 q2
   have l1 := k1.a6 rfl
   refine go 2 ?_
   have p0 : (NC 128 ((KA 128 fm i).1) (xA (64 * (2 * i)) 64) (xA (64 * (2 * i + 1)) 64) 64).1 = (KA 128 fm (i + 1)).1 := by rw [KA, LI c0]
   have q0 := g1
   rw [p0] at q0
   have r0 : Hp No w j1 [(rC b5 #[iN 128, sO f0 (List.length ((KA 128 fm (i + 1)).1)) n0, yA] 143), (f0, qA EG 154 ((KA 128 fm (i + 1)).1) o0), (rX e0 EI (xA (64 * (2 * i + 1)) 64) 145), (rX d0 EI (xA (64 * (2 * i)) 64) 145), (rX a0 EI (gC ((KA 128 fm i).2 ++ (NC 128 ((KA 128 fm i).1) (xA (64 * (2 * i)) 64) (xA (64 * (2 * i + 1)) 64) 64).2)) 146), (rC b1 x1 104)] := by rw [← p0]; exact l1
   rw [show (KA 128 fm i).2 ++ (NC 128 ((KA 128 fm i).1) (xA (64 * (2 * i)) 64) (xA (64 * (2 * i + 1)) 64) 64).2 = (KA 128 fm (i + 1)).2 from by rw [KA, LI c0]] at r0
   exact ⟨(i + 1, f0, n0, o0), _, rfl, kp, ⟨⟨om, q0⟩, ((r0.dropk 3).dropk 2)⟩, vd⟩
  ·refine go 4 ?_
   have m1 := ((m0.pk 6 [2, 3, 0, 1, 4, 5])).b2 rfl
   refine cl (FJ b5 128 kz cz sz ((KA 128 fm i).1) hSz om om (xA (64 * (2 * i)) 64) (xA (64 * (2 * i + 1)) 64) om om [(rX e0 EI (xA (64 * (2 * i + 1)) 64) 145), (rX d0 EI (xA (64 * (2 * i)) 64) 145), (rX a0 EI (gC ((KA 128 fm i).2)) 146), (rC b1 x1 104)] w l0 m1) ?_
   rintro _ r2 ⟨rfl, h0, s0, u0, n1, p1⟩
   have q1 := p1.a6 rfl
   have hnr : (gB 128 ((KA 128 fm i).1) (xA (64 * (2 * i)) 64) (xA (64 * (2 * i + 1)) 64) 63).2.1.length = 64 := (ZE 128 ((KA 128 fm i).1) (xA (64 * (2 * i)) 64) (xA (64 * (2 * i + 1)) 64) 63).2
   refine go 1 ?_
   refine GA (k := 4) (v := .agg (uA EI ((gB 128 ((KA 128 fm i).1) (xA (64 * (2 * i)) 64) (xA (64 * (2 * i + 1)) 64) 63).2.1)).toArray) (cs' := (uA EI (gC ((KA 128 fm i).2 ++ (gB 128 ((KA 128 fm i).1) (xA (64 * (2 * i)) 64) (xA (64 * (2 * i + 1)) 64) 63).2.1))).toArray) q1 rfl rfl rfl vF (by exact HB (by rw [hnr]; rfl)) (by exact fC _) (by rw [List.size_toArray, oA, fD (by rw [hol.2]; omega)]; show _ ≤ _ * 1; omega) (by exact GE (by rw [hol.2]; omega) (by rw [hol.2]; omega) (by first | exact hnr)) ?_
   intro r1 s1 s2
   have t1 := s1.a6 rfl
   refine go 2 ?_
   have w0 : (gB 128 ((KA 128 fm i).1) (xA (64 * (2 * i)) 64) (xA (64 * (2 * i + 1)) 64) 63).1 = (KA 128 fm (i + 1)).1 := by rw [KA, MI c0]
   have x0 := n1
   rw [w0] at x0
   have y0 : Hp No w r1 [(rC b5 #[iN 128, sO h0 (List.length ((KA 128 fm (i + 1)).1)) s0, yA] 143), (h0, qA EG 154 ((KA 128 fm (i + 1)).1) u0), (rX e0 EI (xA (64 * (2 * i + 1)) 64) 145), (rX d0 EI (xA (64 * (2 * i)) 64) 145), (rX a0 EI (gC ((KA 128 fm i).2 ++ (gB 128 ((KA 128 fm i).1) (xA (64 * (2 * i)) 64) (xA (64 * (2 * i + 1)) 64) 63).2.1)) 146), (rC b1 x1 104)] := by rw [← w0]; exact t1
   rw [show (KA 128 fm i).2 ++ (gB 128 ((KA 128 fm i).1) (xA (64 * (2 * i)) 64) (xA (64 * (2 * i + 1)) 64) 63).2.1 = (KA 128 fm (i + 1)).2 from by rw [KA, MI c0]] at y0
   exact ⟨(i + 1, h0, s0, u0), _, rfl, kp, ⟨⟨om, x0⟩, ((y0.dropk 3).dropk 2)⟩, vd⟩
 ·have hie : i = 1 := by omega
  rw [hie, tP] at HL hSz hol
  obtain ⟨o1, ho1⟩ : ∃ q, q = WC 128 [] 0 64 (CB fm 0) := ⟨_, rfl⟩
  rw [← ho1] at HL hSz hol
  have z0 := tC 128 [] 0 64 (CB fm 0)
  rw [← ho1] at z0
  simp only [List.length_nil] at z0
  have t2 := HL.a4 rfl
  have hpx : (gC o1.2).length = 128 := fD om
  refine go 1 ?_
  intro b0 u1 u2 w1 y2
  let x2 : Option Addr := some ⟨b0, 0, none⟩
  refine go 1 ?_
  have y1 := ((w1.pk 5 [1, 2, 0, 3, 4])).b2 rfl
  refine cl (XB b5 128 kz cz sz o1.1 hSz om om (1 : Int) (0 : Int) (0 : Int) [(rX b0 EI (List.replicate 64 0) 145), (rX a0 EI (gC o1.2) 146), (rC b1 x1 104)] w u1 y1) ?_
  rintro wv81 A0 ⟨hwv82, i0, B0, C0, z1, A1⟩
  obtain ⟨z2, D0⟩ : ∃ q, q = FA 128 o1.1 := ⟨_, rfl⟩
  rw [← D0] at hwv82
  subst hwv82
  have B1 := A1.a5 rfl
  refine go 1 ?_
  subst D0
  have E0 : o1.1 ++ [(⟨(1 : Int), (0 : Int), (0 : Int)⟩ : Gt)] = ze o1.1 := by rfl
  have F0 := z1
  rw [E0] at F0
  have G0 : Hp No w A0 [(rC b5 #[iN 128, sO i0 (List.length (ze o1.1)) B0, yA] 143), (i0, qA EG 154 (ze o1.1) C0), (rX b0 EI (List.replicate 64 0) 145), (rX a0 EI (gC o1.2) 146), (rC b1 x1 104)] := by rw [← E0]; exact B1
  have hzl : (ze o1.1).length = o1.1.length + 1 := by simp [ze]
  refine go 1 ?_
  refine sq ((iB rfl rfl).as (v' := .bool true) (by rfl)) ?_
  refine go 4 ?_
  refine sq ((BD (E := EI) (l := gC o1.2) (j := 63) (a := (gC o1.2).getD 63 0) OC (G0.get (k := 3) rfl) (QA om) rfl rfl).as (v' := i64 (o1.2.getD 63 0)) (by exact congrArg i64 (XL om))) ?_
  have C1 := G0.b2 rfl
  refine cl (XB b5 128 i0 B0 C0 (ze o1.1) F0 om om (3 : Int) (o1.2.getD 63 0) (0 : Int) [(rX b0 EI (List.replicate 64 0) 145), (rX a0 EI (gC o1.2) 146), (rC b1 x1 104)] w A0 C1) ?_
  rintro wv96 A2 ⟨hwv97, D1, E1, F1, G1, H1⟩
  obtain ⟨B2, H0⟩ : ∃ q, q = FA 128 (ze o1.1) := ⟨_, rfl⟩
  rw [← H0] at hwv97
  subst hwv97
  have I1 := H1.a5 rfl
  refine go 1 ?_
  subst H0
  refine go 1 ?_
  refine AA (σ := Nat × Option Nat × Nat × LV) (fun (i, ky, cy, sy) => [(4, pT b1), (7, pT b5), (8, pT a0), (12, pT b0), (13, i64 ((FA 128 o1.1))), (14, i64 ((FA 128 (ze o1.1)))), (77, iN i)]) (fun (i, ky, cy, sy) w' => (i ≤ 63 ∧ Sl EG ky (lD 128 (ze o1.1 ++ [(⟨3, o1.2.getD 63 0, 0⟩ : Gt)]) (FA 128 (ze o1.1)) o1.2 i).1 cy sy) ∧ Hp No w w' [(rC b5 #[iN 128, sO ky (List.length ((lD 128 (ze o1.1 ++ [(⟨3, o1.2.getD 63 0, 0⟩ : Gt)]) (FA 128 (ze o1.1)) o1.2 i).1)) cy, yA] 143), (ky, qA EG 154 ((lD 128 (ze o1.1 ++ [(⟨3, o1.2.getD 63 0, 0⟩ : Gt)]) (FA 128 (ze o1.1)) o1.2 i).1) sy), (rX b0 EI (pC ((lD 128 (ze o1.1 ++ [(⟨3, o1.2.getD 63 0, 0⟩ : Gt)]) (FA 128 (ze o1.1)) o1.2 i).2)) 145), (rX a0 EI (gC o1.2) 146), (rC b1 x1 104)]) (fun (i, ky, cy, sy) => 63 - i) ((0, D1, E1, F1)) ?_ ?_ ?_
  ·exact kp
  ·exact ⟨⟨om, G1⟩, I1⟩
  rintro ⟨i, ky, cy, sy⟩ ρ J1 ⟨⟨hq2, hSy⟩, I0⟩
  have hre := yF 128 (ze o1.1 ++ [(⟨3, o1.2.getD 63 0, 0⟩ : Gt)]) (FA 128 (ze o1.1)) o1.2 i
  have hgl : (ze o1.1 ++ [(⟨3, o1.2.getD 63 0, 0⟩ : Gt)]).length = o1.1.length + 2 := by rw [List.length_append, hzl]; rfl
  have hpl : (pC (lD 128 (ze o1.1 ++ [(⟨3, o1.2.getD 63 0, 0⟩ : Gt)]) (FA 128 (ze o1.1)) o1.2 i).2).length = 64 := HE (by rw [hre.2]; omega)
  refine go 1 ?_
  refine iA (((i : Nat) : Int) < (63 : Int)) rfl (fun K1 => ?_) (fun K1 => ?_)
  ·refine go 8 ?_
   refine sq ((BD (E := EI) (l := gC o1.2) (j := i) (a := (gC o1.2).getD i 0) OC (I0.get (k := 3) rfl) (QA om) rfl rfl).as (v' := i64 (o1.2.getD i 0)) (by exact congrArg i64 (XL om))) ?_
   have L1 := I0.as (L' := (_ :: _ :: [(rX b0 EI (pC ((lD 128 (ze o1.1 ++ [(⟨3, o1.2.getD 63 0, 0⟩ : Gt)]) (FA 128 (ze o1.1)) o1.2 i).2)) 145), (rX a0 EI (gC o1.2) 146), (rC b1 x1 104)])) rfl
   refine cl (XB b5 128 ky cy sy ((lD 128 (ze o1.1 ++ [(⟨3, o1.2.getD 63 0, 0⟩ : Gt)]) (FA 128 (ze o1.1)) o1.2 i).1) hSy om om (2 : Int) (FA 128 (ze o1.1)) (o1.2.getD i 0) [(rX b0 EI (pC ((lD 128 (ze o1.1 ++ [(⟨3, o1.2.getD 63 0, 0⟩ : Gt)]) (FA 128 (ze o1.1)) o1.2 i).2)) 145), (rX a0 EI (gC o1.2) 146), (rC b1 x1 104)] w J1 L1) ?_
   rintro wv110 C2 ⟨hwv111, j0, J0, K0, M1, N1⟩
   obtain ⟨D2, L0⟩ : ∃ q, q = FA 128 ((lD 128 (ze o1.1 ++ [(⟨3, o1.2.getD 63 0, 0⟩ : Gt)]) (FA 128 (ze o1.1)) o1.2 i).1) := ⟨_, rfl⟩
   rw [← L0] at hwv111
   subst hwv111
   have E2 := N1.a5 rfl
   refine go 2 ?_
   intro O1 P1 F2
   refine go 2 ?_
   subst L0
   have M0 : (lD 128 (ze o1.1 ++ [(⟨3, o1.2.getD 63 0, 0⟩ : Gt)]) (FA 128 (ze o1.1)) o1.2 i).1 ++ [(⟨(2 : Int), (FA 128 (ze o1.1)), o1.2.getD i 0⟩ : Gt)] = (lD 128 (ze o1.1 ++ [(⟨3, o1.2.getD 63 0, 0⟩ : Gt)]) (FA 128 (ze o1.1)) o1.2 (i + 1)).1 := by rfl
   have N0 := M1
   rw [M0] at N0
   have O0 : Hp No w O1 [(rC b5 #[iN 128, sO j0 (List.length ((lD 128 (ze o1.1 ++ [(⟨3, o1.2.getD 63 0, 0⟩ : Gt)]) (FA 128 (ze o1.1)) o1.2 (i + 1)).1)) J0, yA] 143), (j0, qA EG 154 ((lD 128 (ze o1.1 ++ [(⟨3, o1.2.getD 63 0, 0⟩ : Gt)]) (FA 128 (ze o1.1)) o1.2 (i + 1)).1) K0), (rX b0 EI ((pC ((lD 128 (ze o1.1 ++ [(⟨3, o1.2.getD 63 0, 0⟩ : Gt)]) (FA 128 (ze o1.1)) o1.2 i).2)).set i (FA 128 ((lD 128 (ze o1.1 ++ [(⟨3, o1.2.getD 63 0, 0⟩ : Gt)]) (FA 128 (ze o1.1)) o1.2 i).1))) 145), (rX a0 EI (gC o1.2) 146), (rC b1 x1 104)] := by rw [← M0]; exact P1
   rw [JD (l := (lD 128 (ze o1.1 ++ [(⟨3, o1.2.getD 63 0, 0⟩ : Gt)]) (FA 128 (ze o1.1)) o1.2 i).2) _ hre.2 om] at O0
   have Q1 := O0.a5 rfl
   exact ⟨(i + 1, j0, J0, K0), _, rfl, kp, ⟨⟨om, N0⟩, Q1⟩, vd⟩
  ·have hj : i = 63 := by omega
   refine go 3 ?_
   intro G2 P0 H2
   rw [mN (hre.2.trans hj)] at P0
   have hrl : ((lD 128 (ze o1.1 ++ [(⟨3, o1.2.getD 63 0, 0⟩ : Gt)]) (FA 128 (ze o1.1)) o1.2 i).2 ++ [FA 128 o1.1]).length = 64 := by rw [List.length_append, hre.2, hj]; rfl
   refine BE ?_
   refine aD ?_
   refine RA ?_
   refine sR ?_
   refine RL ?_
   refine sq (VG vF (b := b0) (off := 0) rfl (dB rfl)) ?_
   refine sq (wB rfl) ?_
   refine sq (rA (off' := 0) vF (by decide) (b := b5) (off := 0) rfl om) ?_
   refine sq (rA (off' := 2) vF (by decide) (b := b5) (off := 0) rfl om) ?_
   refine GA (k := 0) (v := .slice x2 64 64) (cs' := #[iN 128, sO ky (List.length ((lD 128 (ze o1.1 ++ [(⟨3, o1.2.getD 63 0, 0⟩ : Gt)]) (FA 128 (ze o1.1)) o1.2 i).1)) cy, .slice x2 64 64]) P0 rfl rfl rfl vF (by rfl) (ZH rfl) (by exact dB rfl) (by rfl) ?_
   intro I2 R1 J2
   have Q0 := R1.a5 rfl
   refine wS ?_
   refine RL ?_
   refine sq (wB rfl) ?_
   refine sq (rA (off' := 0) vF (by decide) (b := b5) (off := 0) rfl om) ?_
   refine sq (mB (cs' := #[iN 128, sO ky (List.length ((lD 128 (ze o1.1 ++ [(⟨3, o1.2.getD 63 0, 0⟩ : Gt)]) (FA 128 (ze o1.1)) o1.2 i).1)) cy, .slice x2 64 64]) vF vF (Q0.get (k := 0) rfl) (off := 0) rfl (by exact dB rfl) (by rfl)) ?_
   refine GA (k := 4) (v := .agg #[iN 128, sO ky (List.length ((lD 128 (ze o1.1 ++ [(⟨3, o1.2.getD 63 0, 0⟩ : Gt)]) (FA 128 (ze o1.1)) o1.2 i).1)) cy, .slice x2 64 64]) (cs' := #[iN 128, sO ky (List.length ((lD 128 (ze o1.1 ++ [(⟨3, o1.2.getD 63 0, 0⟩ : Gt)]) (FA 128 (ze o1.1)) o1.2 i).1)) cy, .slice x2 64 64]) Q0 rfl rfl rfl vF (by rfl) (ZH rfl) (by exact dB rfl) (by rfl) ?_
   intro K2 S1 L2
   have R0 := S1.a5 rfl
   refine XK ?_
   refine jF ?_
   refine CD ?_
   refine sK (rs := [.cell 4 104, .tmp 5]) (vs := [.agg #[iN 128, sO ky (List.length ((lD 128 (ze o1.1 ++ [(⟨3, o1.2.getD 63 0, 0⟩ : Gt)]) (FA 128 (ze o1.1)) o1.2 i).1)) cy, .slice x2 64 64], .nilIface]) rfl ⟨mB (cs' := #[iN 128, sO ky (List.length ((lD 128 (ze o1.1 ++ [(⟨3, o1.2.getD 63 0, 0⟩ : Gt)]) (FA 128 (ze o1.1)) o1.2 i).1)) cy, .slice x2 64 64]) vF vF (R0.get (k := 4) rfl) (off := 0) rfl (by exact dB rfl) (by rfl), ⟨rfl, rfl⟩, trivial⟩ ?_
   subst hj
   rw [show (EJ (CB fm 0)) = _ from pL _, ← ho1]
   exact ⟨_, rfl, ky, cy, sy, b0, rfl, hSy, (((R0.dropk 4).dropk 3).dropk 0)⟩
end Go.Proofs.YtohngnahcgbfmaaGreatDoor.Cm
namespace Go.Proofs.YtohngnahcgbfmaaGreatDoor.Cm
open Go Vc Er Circ
theorem SR (fm : BitVec 64) (hf : fm < 4#64) (w : World) : Ca 35 [i64 (2 : Int), u64 fm] w fun v w' => ∃ (key : Option Nat) (c : Nat) (sp : LV) (b : Nat), v = .tuple #[.agg #[i64 ((256 : Nat) : Int), sO key (DJ (CB fm 0) (CB fm 1)).1.length c, .slice (some ⟨b, 0, none⟩) 64 64], .nilIface] ∧ Sl EG key (DJ (CB fm 0) (CB fm 1)).1 c sp ∧ Hp No w w' [(key, qA EG 154 (DJ (CB fm 0) (CB fm 1)).1 sp), (rX b EI (DJ (CB fm 0) (CB fm 1)).2 145)] := by
 let x1 : Array Value := #[i64 0, yA, yA]
 have H := Hp.start No w
 refine enter (n := 131) Tryz.func35 rfl rfl (dB rfl) ?_
 refine go 1 ?_
 intro b1 w2 K1 H3 L1
 refine go 3 ?_
 refine sq ((iB rfl rfl).as (v' := .bool false) (by rfl)) ?_
 refine go 1 ?_
 refine sq ((iB rfl rfl).as (v' := .bool true) (by rfl)) ?_
 refine go 4 ?_
 refine sq ((OE (a := fm) (b := (1#64) <<< (2 : Nat)) rfl rfl).as (v' := .bool true) (by exact bT (hf))) ?_
 refine go 1 ?_
 refine sq ((KB rfl rfl om).as (v' := iN 256) (by rfl)) ?_
 refine go 3 ?_
 intro b5 w6 M1 H7 N1
 refine go 1 ?_
 have H9 := H7.nil (qA EG 154 [] [])
 have O1 := H9.a3 rfl
 refine go 1 ?_
 intro a0 P1 Q1 p0 R1
 rw [WH] at p0
 refine go 2 ?_
 refine AA (σ := Nat × Option Nat × Nat × LV) (fun (i, kz, cz, sz) => [(0, i64 2), (1, u64 fm), (4, pT b1), (7, pT b5), (8, pT a0), (36, i64 2), (37, iN i)]) (fun (i, kz, cz, sz) w' => (i ≤ 2 ∧ Sl EG kz (KA 256 fm i).1 cz sz) ∧ Hp No w w' [(rC b5 #[iN 256, sO kz (List.length ((KA 256 fm i).1)) cz, yA] 143), (kz, qA EG 154 ((KA 256 fm i).1) sz), (rX a0 EI (gC ((KA 256 fm i).2)) 146), (rC b1 x1 104)]) (fun (i, kz, cz, sz) => 2 - i) ((0, none, 0, [])) ?_ ?_ ?_
 ·exact kp
 ·exact ⟨⟨om, Sl.none⟩, (p0.pk 4 [2, 1, 0, 3])⟩
 rintro ⟨i, kz, cz, sz⟩ ρ O0 ⟨⟨hq, hSz⟩, HL⟩
 have hol := XH 256 fm i
 have hi1 := tD (64 * (2 * i)) 64
 have hi2 := tD (64 * (2 * i + 1)) 64
 have hpx : (gC (KA 256 fm i).2).length = 128 := fD (by rw [hol.2]; omega)
 refine go 1 ?_
 refine iA (((i : Nat) : Int) < (2 : Int)) rfl (fun P0 => ?_) (fun P0 => ?_)
 ·refine go 4 ?_
  refine sq ((KB rfl rfl om).as (v' := iN (2 * i)) (by exact congrArg i64 om)) ?_
  refine cl (JE b5 (2 * i) om O0) ?_
  rintro _ Q0 ⟨rfl, R0⟩
  have S0 := HL.ext R0
  refine go 2 ?_
  refine sq ((KB rfl rfl om).as (v' := iN (2 * i)) (by exact congrArg i64 om)) ?_
  refine sq ((aB rfl rfl om).as (v' := iN (2 * i + 1)) (by exact congrArg i64 om)) ?_
  refine cl (JE b5 (2 * i + 1) om Q0) ?_
  rintro _ S1 ⟨rfl, T0⟩
  have T1 := S0.ext T0
  refine go 1 ?_
  intro h0 U1 V1 W1 X1
  refine go 1 ?_
  intro i0 Y1 Z1 U0 c2
  refine GA (k := 1) (v := .agg (uA EI (xA (64 * (2 * i)) 64)).toArray) (cs' := (uA EI (xA (64 * (2 * i)) 64)).toArray) U0 rfl rfl rfl vF (by exact HB (by rw [hi1]; rfl)) (by exact fC _) (by rw [List.size_toArray, oA]; show _ ≤ _ * 1; first | omega | (simp only [List.length_set]; omega) | exact dB rfl | (simp <;> omega)) (by exact VC (by rw [List.length_replicate]; exact hi1.symm)) ?_
  intro d2 V0 e2
  have W0 := V0.a6 rfl
  refine GA (k := 0) (v := .agg (uA EI (xA (64 * (2 * i + 1)) 64)).toArray) (cs' := (uA EI (xA (64 * (2 * i + 1)) 64)).toArray) W0 rfl rfl rfl vF (by exact HB (by rw [hi2]; rfl)) (by exact fC _) (by rw [List.size_toArray, oA]; show _ ≤ _ * 1; first | omega | (simp only [List.length_set]; omega) | exact dB rfl | (simp <;> omega)) (by exact VC (by rw [List.length_replicate]; exact hi2.symm)) ?_
  intro q0 X0 f2
  have r0 := X0.a6 rfl
  refine go 5 ?_
  refine iA (((fm >>> (i : Nat)) &&& (1#64)) = (1#64)) rfl (fun e0 => ?_) (fun e0 => ?_)
  ·refine go 4 ?_
   have Y0 := ((r0.pk 6 [2, 3, 0, 1, 4, 5])).b2 rfl
   refine cl (CJ b5 256 kz cz sz ((KA 256 fm i).1) hSz om om (xA (64 * (2 * i)) 64) (xA (64 * (2 * i + 1)) 64) om om [(rX i0 EI (xA (64 * (2 * i + 1)) 64) 145), (rX h0 EI (xA (64 * (2 * i)) 64) 145), (rX a0 EI (gC ((KA 256 fm i).2)) 146), (rC b1 x1 104)] w q0 Y0) ?_
   rintro _ g2 ⟨rfl, l0, s0, u0, Z0, c1⟩
   have d1 := c1.a6 rfl
   have hnr : (NC 256 ((KA 256 fm i).1) (xA (64 * (2 * i)) 64) (xA (64 * (2 * i + 1)) 64) 64).2.length = 64 := (ME 256 ((KA 256 fm i).1) (xA (64 * (2 * i)) 64) (xA (64 * (2 * i + 1)) 64) 64).2
   refine go 1 ?_
   refine GA (k := 4) (v := .agg (uA EI ((NC 256 ((KA 256 fm i).1) (xA (64 * (2 * i)) 64) (xA (64 * (2 * i + 1)) 64) 64).2)).toArray) (cs' := (uA EI (gC ((KA 256 fm i).2 ++ (NC 256 ((KA 256 fm i).1) (xA (64 * (2 * i)) 64) (xA (64 * (2 * i + 1)) 64) 64).2))).toArray) d1 rfl rfl rfl vF (by exact HB (by rw [hnr]; rfl)) (by exact fC _) (by rw [List.size_toArray, oA, fD (by rw [hol.2]; omega)]; show _ ≤ _ * 1; omega) (by exact GE (by rw [hol.2]; omega) (by rw [hol.2]; omega) (by first | exact hnr)) ?_
   intro e1 g1 h2
   have h1 := g1.a6 rfl
   refine go 2 ?_
   have w0 : (NC 256 ((KA 256 fm i).1) (xA (64 * (2 * i)) 64) (xA (64 * (2 * i + 1)) 64) 64).1 = (KA 256 fm (i + 1)).1 := by rw [KA, LI e0]
   have x0 := Z0
   rw [w0] at x0
   have y0 : Hp No w e1 [(rC b5 #[iN 256, sO l0 (List.length ((KA 256 fm (i + 1)).1)) s0, yA] 143), (l0, qA EG 154 ((KA 256 fm (i + 1)).1) u0), (rX i0 EI (xA (64 * (2 * i + 1)) 64) 145), (rX h0 EI (xA (64 * (2 * i)) 64) 145), (rX a0 EI (gC ((KA 256 fm i).2 ++ (NC 256 ((KA 256 fm i).1) (xA (64 * (2 * i)) 64) (xA (64 * (2 * i + 1)) 64) 64).2)) 146), (rC b1 x1 104)] := by rw [← w0]; exact h1
   rw [show (KA 256 fm i).2 ++ (NC 256 ((KA 256 fm i).1) (xA (64 * (2 * i)) 64) (xA (64 * (2 * i + 1)) 64) 64).2 = (KA 256 fm (i + 1)).2 from by rw [KA, LI e0]] at y0
   exact ⟨(i + 1, l0, s0, u0), _, rfl, kp, ⟨⟨om, x0⟩, ((y0.dropk 3).dropk 2)⟩, vd⟩
  ·refine go 4 ?_
   have i1 := ((r0.pk 6 [2, 3, 0, 1, 4, 5])).b2 rfl
   refine cl (FJ b5 256 kz cz sz ((KA 256 fm i).1) hSz om om (xA (64 * (2 * i)) 64) (xA (64 * (2 * i + 1)) 64) om om [(rX i0 EI (xA (64 * (2 * i + 1)) 64) 145), (rX h0 EI (xA (64 * (2 * i)) 64) 145), (rX a0 EI (gC ((KA 256 fm i).2)) 146), (rC b1 x1 104)] w q0 i1) ?_
   rintro _ i2 ⟨rfl, m0, z0, A0, j1, k1⟩
   have l1 := k1.a6 rfl
   have hnr : (gB 256 ((KA 256 fm i).1) (xA (64 * (2 * i)) 64) (xA (64 * (2 * i + 1)) 64) 63).2.1.length = 64 := (ZE 256 ((KA 256 fm i).1) (xA (64 * (2 * i)) 64) (xA (64 * (2 * i + 1)) 64) 63).2
   refine go 1 ?_
   refine GA (k := 4) (v := .agg (uA EI ((gB 256 ((KA 256 fm i).1) (xA (64 * (2 * i)) 64) (xA (64 * (2 * i + 1)) 64) 63).2.1)).toArray) (cs' := (uA EI (gC ((KA 256 fm i).2 ++ (gB 256 ((KA 256 fm i).1) (xA (64 * (2 * i)) 64) (xA (64 * (2 * i + 1)) 64) 63).2.1))).toArray) l1 rfl rfl rfl vF (by exact HB (by rw [hnr]; rfl)) (by exact fC _) (by rw [List.size_toArray, oA, fD (by rw [hol.2]; omega)]; show _ ≤ _ * 1; omega) (by exact GE (by rw [hol.2]; omega) (by rw [hol.2]; omega) (by first | exact hnr)) ?_
   intro m1 n1 j2
   have p1 := n1.a6 rfl
   refine go 2 ?_
   have B0 : (gB 256 ((KA 256 fm i).1) (xA (64 * (2 * i)) 64) (xA (64 * (2 * i + 1)) 64) 63).1 = (KA 256 fm (i + 1)).1 := by rw [KA, MI e0]
   have C0 := j1
   rw [B0] at C0
   have D0 : Hp No w m1 [(rC b5 #[iN 256, sO m0 (List.length ((KA 256 fm (i + 1)).1)) z0, yA] 143), (m0, qA EG 154 ((KA 256 fm (i + 1)).1) A0), (rX i0 EI (xA (64 * (2 * i + 1)) 64) 145), (rX h0 EI (xA (64 * (2 * i)) 64) 145), (rX a0 EI (gC ((KA 256 fm i).2 ++ (gB 256 ((KA 256 fm i).1) (xA (64 * (2 * i)) 64) (xA (64 * (2 * i + 1)) 64) 63).2.1)) 146), (rC b1 x1 104)] := by rw [← B0]; exact p1
   rw [show (KA 256 fm i).2 ++ (gB 256 ((KA 256 fm i).1) (xA (64 * (2 * i)) 64) (xA (64 * (2 * i + 1)) 64) 63).2.1 = (KA 256 fm (i + 1)).2 from by rw [KA, MI e0]] at D0
   exact ⟨(i + 1, m0, z0, A0), _, rfl, kp, ⟨⟨om, C0⟩, ((D0.dropk 3).dropk 2)⟩, vd⟩
 ·have hie : i = 2 := by omega
  rw [hie, wK] at HL hSz hol
  obtain ⟨o1, ho1⟩ : ∃ q, q = WC 256 [] 0 64 (CB fm 0) := ⟨_, rfl⟩
  rw [← ho1] at HL hSz hol
  have j0 := tC 256 [] 0 64 (CB fm 0)
  rw [← ho1] at j0
  obtain ⟨o2, ho2⟩ : ∃ q, q = WC 256 o1.1 128 192 (CB fm 1) := ⟨_, rfl⟩
  rw [← ho2] at HL hSz hol
  have E0 := tC 256 o1.1 128 192 (CB fm 1)
  rw [← ho2] at E0
  rw [KI (by rw [List.length_append]; omega)] at HL
  simp only [List.length_nil] at j0
  dsimp only at HL hSz
  have k2 := HL.a4 rfl
  have hpx : (o1.2 ++ o2.2).length = 128 := by rw [List.length_append]; omega
  refine go 1 ?_
  intro b0 q1 l2 r1 m2
  let x2 : Option Addr := some ⟨b0, 0, none⟩
  refine go 1 ?_
  have s1 := ((r1.pk 5 [1, 2, 0, 3, 4])).as (L' := (_ :: _ :: [(rX b0 EI (List.replicate 64 0) 145), (rX a0 EI (o1.2 ++ o2.2) 146), (rC b1 x1 104)])) rfl
  refine cl (XB b5 256 kz cz sz o2.1 hSz om om (1 : Int) (0 : Int) (0 : Int) [(rX b0 EI (List.replicate 64 0) 145), (rX a0 EI (o1.2 ++ o2.2) 146), (rC b1 x1 104)] w q1 s1) ?_
  rintro wv81 t1 ⟨hwv82, f0, n0, o0, u1, w1⟩
  obtain ⟨n2, F0⟩ : ∃ q, q = FA 256 o2.1 := ⟨_, rfl⟩
  rw [← F0] at hwv82
  subst hwv82
  have y1 := w1.a5 rfl
  refine go 1 ?_
  subst F0
  have G0 : o2.1 ++ [(⟨(1 : Int), (0 : Int), (0 : Int)⟩ : Gt)] = ze o2.1 := by rfl
  have H0 := u1
  rw [G0] at H0
  have z1 : Hp No w t1 [(rC b5 #[iN 256, sO f0 (List.length (ze o2.1)) n0, yA] 143), (f0, qA EG 154 (ze o2.1) o0), (rX b0 EI (List.replicate 64 0) 145), (rX a0 EI (o1.2 ++ o2.2) 146), (rC b1 x1 104)] := by rw [← G0]; exact y1
  have hzl : (ze o2.1).length = o2.1.length + 1 := by simp [ze]
  refine go 1 ?_
  refine sq ((iB rfl rfl).as (v' := .bool false) (by rfl)) ?_
  refine go 1 ?_
  refine sq ((iB rfl rfl).as (v' := .bool true) (by rfl)) ?_
  refine go 2 ?_
  refine AA (σ := Nat) (fun i => [(4, pT b1), (7, pT b5), (8, pT a0), (12, pT b0), (13, i64 ((FA 256 o2.1))), (94, iN i)]) (fun i w' => i ≤ 64 ∧ Hp No w w' [(rX b0 EI (pC (List.replicate i (FA 256 o2.1))) 145), (rC b5 #[iN 256, sO f0 (List.length (ze o2.1)) n0, yA] 143), (f0, qA EG 154 (ze o2.1) o0), (rX a0 EI (o1.2 ++ o2.2) 146), (rC b1 x1 104)]) (fun i => 64 - i) (0) ?_ ?_ ?_
  ·exact kp
  ·exact ⟨Nat.zero_le _, (z1.pk 5 [2, 0, 1, 3, 4])⟩
  rintro i ρ A1 ⟨hq2, k0⟩
  have hpl : (pC (List.replicate i (FA 256 o2.1))).length = 64 := HE (by rw [List.length_replicate]; exact hq2)
  refine go 1 ?_
  refine iA (((i : Nat) : Int) < (64 : Int)) rfl (fun B1 => ?_) (fun B1 => ?_)
  ·refine go 6 ?_
   intro p2 I0 q2
   refine go 2 ?_
   rw [qP om] at I0
   exact ⟨i + 1, _, rfl, kp, ⟨om, I0⟩, vd⟩
  ·have hj : i = 64 := by omega
   rw [hj, bE List.length_replicate] at k0
   refine go 2 ?_
   refine sq ((mB (cs' := (uA EI (((o1.2 ++ o2.2).drop 0).take 64)).toArray) vF vF (k0.get (k := 3) rfl) (off := 0) rfl (by rw [List.size_toArray, oA]; show _ ≤ _ * 1; omega) (by exact XE _ _ _ rfl)).as (v' := .agg (uA EI o1.2).toArray) (by exact congrArg (fun q => Value.agg (uA EI q).toArray) (mI j0.2))) ?_
   refine go 1 ?_
   refine sq ((mB (cs' := (uA EI (((o1.2 ++ o2.2).drop 64).take 64)).toArray) vF vF (k0.get (k := 3) rfl) (off := 64) rfl (by rw [List.size_toArray, oA]; show _ ≤ _ * 1; omega) (by exact XE _ _ _ rfl)).as (v' := .agg (uA EI o2.2).toArray) (by exact congrArg (fun q => Value.agg (uA EI q).toArray) (QG j0.2 E0.2))) ?_
   have C1 := ((k0.pk 5 [1, 2, 0, 3, 4])).as (L' := (_ :: _ :: [(rX b0 EI (List.replicate 64 (FA 256 o2.1)) 145), (rX a0 EI (o1.2 ++ o2.2) 146), (rC b1 x1 104)])) rfl
   refine cl (AK b5 256 f0 n0 o0 (ze o2.1) H0 om om o1.2 o2.2 om om [(rX b0 EI (List.replicate 64 (FA 256 o2.1)) 145), (rX a0 EI (o1.2 ++ o2.2) 146), (rC b1 x1 104)] w A1 C1) ?_
   rintro wv101 r2 ⟨hwv102, c0, d0, D1, E1, F1⟩
   obtain ⟨J0, K0⟩ : ∃ q, q = (cC 256 (ze o2.1) o1.2 o2.2).2 := ⟨_, rfl⟩
   rw [← K0] at hwv102
   subst hwv102
   have G1 := F1.a5 rfl
   refine sq (IA (off' := 0) (j := 0) vF (b := b0) (off := 0) rfl rfl vo om om) ?_
   refine GA (k := 2) (v := i64 J0) (cs' := (uA EI ((List.replicate 64 (FA 256 o2.1)).set 0 J0)).toArray) G1 rfl rfl rfl vF (by rfl) (by exact EI.one _) (by rw [List.size_toArray, oA]; show _ ≤ _ * 1; rw [List.length_replicate]; omega) (by exact wI (E := EI) rfl _ _ _) ?_
   intro s2 H1 t2
   have L0 := H1.a5 rfl
   subst K0
   rw [fR] at L0
   have hrl : ((cC 256 (ze o2.1) o1.2 o2.2).2 :: List.replicate 63 (FA 256 o2.1)).length = 64 := by rw [List.length_cons, List.length_replicate]
   refine BE ?_
   refine aD ?_
   refine RA ?_
   refine sR ?_
   refine RL ?_
   refine sq (VG vF (b := b0) (off := 0) rfl (dB rfl)) ?_
   refine sq (wB rfl) ?_
   refine sq (rA (off' := 0) vF (by decide) (b := b5) (off := 0) rfl om) ?_
   refine sq (rA (off' := 2) vF (by decide) (b := b5) (off := 0) rfl om) ?_
   refine GA (k := 0) (v := .slice x2 64 64) (cs' := #[iN 256, sO c0 (List.length ((cC 256 (ze o2.1) o1.2 o2.2).1)) d0, .slice x2 64 64]) L0 rfl rfl rfl vF (by rfl) (ZH rfl) (by exact dB rfl) (by rfl) ?_
   intro u2 I1 y2
   have M0 := I1.a5 rfl
   refine wS ?_
   refine RL ?_
   refine sq (wB rfl) ?_
   refine sq (rA (off' := 0) vF (by decide) (b := b5) (off := 0) rfl om) ?_
   refine sq (mB (cs' := #[iN 256, sO c0 (List.length ((cC 256 (ze o2.1) o1.2 o2.2).1)) d0, .slice x2 64 64]) vF vF (M0.get (k := 0) rfl) (off := 0) rfl (by exact dB rfl) (by rfl)) ?_
   refine GA (k := 4) (v := .agg #[iN 256, sO c0 (List.length ((cC 256 (ze o2.1) o1.2 o2.2).1)) d0, .slice x2 64 64]) (cs' := #[iN 256, sO c0 (List.length ((cC 256 (ze o2.1) o1.2 o2.2).1)) d0, .slice x2 64 64]) M0 rfl rfl rfl vF (by rfl) (ZH rfl) (by exact dB rfl) (by rfl) ?_
   intro z2 J1 A2
   have N0 := J1.a5 rfl
   refine XK ?_
   refine jF ?_
   refine CD ?_
   refine sK (rs := [.cell 4 104, .tmp 5]) (vs := [.agg #[iN 256, sO c0 (List.length ((cC 256 (ze o2.1) o1.2 o2.2).1)) d0, .slice x2 64 64], .nilIface]) rfl ⟨mB (cs' := #[iN 256, sO c0 (List.length ((cC 256 (ze o2.1) o1.2 o2.2).1)) d0, .slice x2 64 64]) vF vF (N0.get (k := 4) rfl) (off := 0) rfl (by exact dB rfl) (by rfl), ⟨rfl, rfl⟩, trivial⟩ ?_
   rw [FP ho1 ho2]
   exact ⟨_, rfl, c0, d0, D1, b0, rfl, E1, (((N0.dropk 4).dropk 3).dropk 0)⟩
theorem RR (fm : BitVec 64) (hf : fm < 4#64) (w : World) : Ca 35 [i64 (3 : Int), u64 fm] w fun v w' => ∃ (key : Option Nat) (c : Nat) (sp : LV) (b : Nat), v = .tuple #[.agg #[i64 ((256 : Nat) : Int), sO key (dK (CB fm 0) (CB fm 1)).1.length c, .slice (some ⟨b, 0, none⟩) 64 64], .nilIface] ∧ Sl EG key (dK (CB fm 0) (CB fm 1)).1 c sp ∧ Hp No w w' [(key, qA EG 154 (dK (CB fm 0) (CB fm 1)).1 sp), (rX b EI (dK (CB fm 0) (CB fm 1)).2 145)] := by
 let x1 : Array Value := #[i64 0, yA, yA]
 have H := Hp.start No w
 refine enter (n := 131) Tryz.func35 rfl rfl (dB rfl) ?_
 refine go 1 ?_
 intro b1 w2 k2 H3 l2
 refine go 3 ?_
 refine sq ((iB rfl rfl).as (v' := .bool false) (by rfl)) ?_
 refine go 1 ?_
 refine sq ((iB rfl rfl).as (v' := .bool false) (by rfl)) ?_
 refine go 1 ?_
 refine sq ((iB rfl rfl).as (v' := .bool true) (by rfl)) ?_
 refine go 4 ?_
 refine sq ((OE (a := fm) (b := (1#64) <<< (2 : Nat)) rfl rfl).as (v' := .bool true) (by exact bT (hf))) ?_
 refine go 1 ?_
 refine sq ((KB rfl rfl om).as (v' := iN 256) (by rfl)) ?_
 refine go 3 ?_
 intro b5 w6 m2 H7 n2
 refine go 1 ?_
 have H9 := H7.nil (qA EG 154 [] [])
 have p2 := H9.a3 rfl
 refine go 1 ?_
 intro d0 q2 r2 H0 s2
 rw [WH] at H0
 refine go 2 ?_
 refine AA (σ := Nat × Option Nat × Nat × LV) (fun (i, kz, cz, sz) => [(0, i64 3), (1, u64 fm), (4, pT b1), (7, pT b5), (8, pT d0), (36, i64 2), (37, iN i)]) (fun (i, kz, cz, sz) w' => (i ≤ 2 ∧ Sl EG kz (KA 256 fm i).1 cz sz) ∧ Hp No w w' [(rC b5 #[iN 256, sO kz (List.length ((KA 256 fm i).1)) cz, yA] 143), (kz, qA EG 154 ((KA 256 fm i).1) sz), (rX d0 EI (gC ((KA 256 fm i).2)) 146), (rC b1 x1 104)]) (fun (i, kz, cz, sz) => 2 - i) ((0, none, 0, [])) ?_ ?_ ?_
 ·exact kp
 ·exact ⟨⟨om, Sl.none⟩, (H0.pk 4 [2, 1, 0, 3])⟩
 rintro ⟨i, kz, cz, sz⟩ ρ c1 ⟨⟨hq, hSz⟩, HL⟩
 have hol := XH 256 fm i
 have hi1 := tD (64 * (2 * i)) 64
 have hi2 := tD (64 * (2 * i + 1)) 64
 have hpx : (gC (KA 256 fm i).2).length = 128 := fD (by rw [hol.2]; omega)
 refine go 1 ?_
 refine iA (((i : Nat) : Int) < (2 : Int)) rfl (fun d1 => ?_) (fun d1 => ?_)
 ·refine go 4 ?_
  refine sq ((KB rfl rfl om).as (v' := iN (2 * i)) (by exact congrArg i64 om)) ?_
  refine cl (JE b5 (2 * i) om c1) ?_
  rintro _ e1 ⟨rfl, g1⟩
  have h1 := HL.ext g1
  refine go 2 ?_
  refine sq ((KB rfl rfl om).as (v' := iN (2 * i)) (by exact congrArg i64 om)) ?_
  refine sq ((aB rfl rfl om).as (v' := iN (2 * i + 1)) (by exact congrArg i64 om)) ?_
  refine cl (JE b5 (2 * i + 1) om e1) ?_
  rintro _ t2 ⟨rfl, i1⟩
  have u2 := h1.ext i1
  refine go 1 ?_
  intro n0 y2 z2 A2 B2
  refine go 1 ?_
  intro o0 C2 D2 j1 E2
  refine GA (k := 1) (v := .agg (uA EI (xA (64 * (2 * i)) 64)).toArray) (cs' := (uA EI (xA (64 * (2 * i)) 64)).toArray) j1 rfl rfl rfl vF (by exact HB (by rw [hi1]; rfl)) (by exact fC _) (by rw [List.size_toArray, oA]; show _ ≤ _ * 1; first | omega | (simp only [List.length_set]; omega) | exact dB rfl | (simp <;> omega)) (by exact VC (by rw [List.length_replicate]; exact hi1.symm)) ?_
  intro F2 k1 G2
  have l1 := k1.a6 rfl
  refine GA (k := 0) (v := .agg (uA EI (xA (64 * (2 * i + 1)) 64)).toArray) (cs' := (uA EI (xA (64 * (2 * i + 1)) 64)).toArray) l1 rfl rfl rfl vF (by exact HB (by rw [hi2]; rfl)) (by exact fC _) (by rw [List.size_toArray, oA]; show _ ≤ _ * 1; first | omega | (simp only [List.length_set]; omega) | exact dB rfl | (simp <;> omega)) (by exact VC (by rw [List.length_replicate]; exact hi2.symm)) ?_
  intro I0 m1 H2
  have J0 := m1.a6 rfl
  refine go 5 ?_
  refine iA (((fm >>> (i : Nat)) &&& (1#64)) = (1#64)) rfl (fun j0 => ?_) (fun j0 => ?_)
  ·refine go 4 ?_
   have n1 := ((J0.pk 6 [2, 3, 0, 1, 4, 5])).b2 rfl
   refine cl (CJ b5 256 kz cz sz ((KA 256 fm i).1) hSz om om (xA (64 * (2 * i)) 64) (xA (64 * (2 * i + 1)) 64) om om [(rX o0 EI (xA (64 * (2 * i + 1)) 64) 145), (rX n0 EI (xA (64 * (2 * i)) 64) 145), (rX d0 EI (gC ((KA 256 fm i).2)) 146), (rC b1 x1 104)] w I0 n1) ?_
   rintro _ I2 ⟨rfl, u0, K0, L0, p1, q1⟩
   have r1 := q1.a6 rfl
   have hnr : (NC 256 ((KA 256 fm i).1) (xA (64 * (2 * i)) 64) (xA (64 * (2 * i + 1)) 64) 64).2.length = 64 := (ME 256 ((KA 256 fm i).1) (xA (64 * (2 * i)) 64) (xA (64 * (2 * i + 1)) 64) 64).2
   refine go 1 ?_
   refine GA (k := 4) (v := .agg (uA EI ((NC 256 ((KA 256 fm i).1) (xA (64 * (2 * i)) 64) (xA (64 * (2 * i + 1)) 64) 64).2)).toArray) (cs' := (uA EI (gC ((KA 256 fm i).2 ++ (NC 256 ((KA 256 fm i).1) (xA (64 * (2 * i)) 64) (xA (64 * (2 * i + 1)) 64) 64).2))).toArray) r1 rfl rfl rfl vF (by exact HB (by rw [hnr]; rfl)) (by exact fC _) (by rw [List.size_toArray, oA, fD (by rw [hol.2]; omega)]; show _ ≤ _ * 1; omega) (by exact GE (by rw [hol.2]; omega) (by rw [hol.2]; omega) (by first | exact hnr)) ?_
   intro s1 t1 J2
   have u1 := t1.a6 rfl
   refine go 2 ?_
   have M0 : (NC 256 ((KA 256 fm i).1) (xA (64 * (2 * i)) 64) (xA (64 * (2 * i + 1)) 64) 64).1 = (KA 256 fm (i + 1)).1 := by rw [KA, LI j0]
   have N0 := p1
   rw [M0] at N0
   have O0 : Hp No w s1 [(rC b5 #[iN 256, sO u0 (List.length ((KA 256 fm (i + 1)).1)) K0, yA] 143), (u0, qA EG 154 ((KA 256 fm (i + 1)).1) L0), (rX o0 EI (xA (64 * (2 * i + 1)) 64) 145), (rX n0 EI (xA (64 * (2 * i)) 64) 145), (rX d0 EI (gC ((KA 256 fm i).2 ++ (NC 256 ((KA 256 fm i).1) (xA (64 * (2 * i)) 64) (xA (64 * (2 * i + 1)) 64) 64).2)) 146), (rC b1 x1 104)] := by rw [← M0]; exact u1
   rw [show (KA 256 fm i).2 ++ (NC 256 ((KA 256 fm i).1) (xA (64 * (2 * i)) 64) (xA (64 * (2 * i + 1)) 64) 64).2 = (KA 256 fm (i + 1)).2 from by rw [KA, LI j0]] at O0
   exact ⟨(i + 1, u0, K0, L0), _, rfl, kp, ⟨⟨om, N0⟩, ((O0.dropk 3).dropk 2)⟩, vd⟩
  ·refine go 4 ?_
   have w1 := ((J0.pk 6 [2, 3, 0, 1, 4, 5])).b2 rfl
   refine cl (FJ b5 256 kz cz sz ((KA 256 fm i).1) hSz om om (xA (64 * (2 * i)) 64) (xA (64 * (2 * i + 1)) 64) om om [(rX o0 EI (xA (64 * (2 * i + 1)) 64) 145), (rX n0 EI (xA (64 * (2 * i)) 64) 145), (rX d0 EI (gC ((KA 256 fm i).2)) 146), (rC b1 x1 104)] w I0 w1) ?_
   rintro _ K2 ⟨rfl, x0, P0, Q0, y1, z1⟩
   have A1 := z1.a6 rfl
   have hnr : (gB 256 ((KA 256 fm i).1) (xA (64 * (2 * i)) 64) (xA (64 * (2 * i + 1)) 64) 63).2.1.length = 64 := (ZE 256 ((KA 256 fm i).1) (xA (64 * (2 * i)) 64) (xA (64 * (2 * i + 1)) 64) 63).2
   refine go 1 ?_
   refine GA (k := 4) (v := .agg (uA EI ((gB 256 ((KA 256 fm i).1) (xA (64 * (2 * i)) 64) (xA (64 * (2 * i + 1)) 64) 63).2.1)).toArray) (cs' := (uA EI (gC ((KA 256 fm i).2 ++ (gB 256 ((KA 256 fm i).1) (xA (64 * (2 * i)) 64) (xA (64 * (2 * i + 1)) 64) 63).2.1))).toArray) A1 rfl rfl rfl vF (by exact HB (by rw [hnr]; rfl)) (by exact fC _) (by rw [List.size_toArray, oA, fD (by rw [hol.2]; omega)]; show _ ≤ _ * 1; omega) (by exact GE (by rw [hol.2]; omega) (by rw [hol.2]; omega) (by first | exact hnr)) ?_
   intro B1 C1 L2
   have D1 := C1.a6 rfl
   refine go 2 ?_
   have R0 : (gB 256 ((KA 256 fm i).1) (xA (64 * (2 * i)) 64) (xA (64 * (2 * i + 1)) 64) 63).1 = (KA 256 fm (i + 1)).1 := by rw [KA, MI j0]
   have S0 := y1
   rw [R0] at S0
   have T0 : Hp No w B1 [(rC b5 #[iN 256, sO x0 (List.length ((KA 256 fm (i + 1)).1)) P0, yA] 143), (x0, qA EG 154 ((KA 256 fm (i + 1)).1) Q0), (rX o0 EI (xA (64 * (2 * i + 1)) 64) 145), (rX n0 EI (xA (64 * (2 * i)) 64) 145), (rX d0 EI (gC ((KA 256 fm i).2 ++ (gB 256 ((KA 256 fm i).1) (xA (64 * (2 * i)) 64) (xA (64 * (2 * i + 1)) 64) 63).2.1)) 146), (rC b1 x1 104)] := by rw [← R0]; exact D1
   rw [show (KA 256 fm i).2 ++ (gB 256 ((KA 256 fm i).1) (xA (64 * (2 * i)) 64) (xA (64 * (2 * i + 1)) 64) 63).2.1 = (KA 256 fm (i + 1)).2 from by rw [KA, MI j0]] at T0
   exact ⟨(i + 1, x0, P0, Q0), _, rfl, kp, ⟨⟨om, S0⟩, ((T0.dropk 3).dropk 2)⟩, vd⟩
 ·have hie : i = 2 := by omega
  rw [hie, wK] at HL hSz hol
  obtain ⟨o1, ho1⟩ : ∃ q, q = WC 256 [] 0 64 (CB fm 0) := ⟨_, rfl⟩
  rw [← ho1] at HL hSz hol
  have h0 := tC 256 [] 0 64 (CB fm 0)
  rw [← ho1] at h0
  obtain ⟨o2, ho2⟩ : ∃ q, q = WC 256 o1.1 128 192 (CB fm 1) := ⟨_, rfl⟩
  rw [← ho2] at HL hSz hol
  have y0 := tC 256 o1.1 128 192 (CB fm 1)
  rw [← ho2] at y0
  rw [KI (by rw [List.length_append]; omega)] at HL
  simp only [List.length_nil] at h0
  dsimp only at HL hSz
  have M2 := HL.a4 rfl
  have hpx : (o1.2 ++ o2.2).length = 128 := by rw [List.length_append]; omega
  refine go 1 ?_
  intro e0 E1 N2 F1 O2
  let x2 : Option Addr := some ⟨e0, 0, none⟩
  refine go 1 ?_
  have G1 := ((F1.pk 5 [1, 2, 0, 3, 4])).as (L' := (_ :: _ :: [(rX e0 EI (List.replicate 64 0) 145), (rX d0 EI (o1.2 ++ o2.2) 146), (rC b1 x1 104)])) rfl
  refine cl (XB b5 256 kz cz sz o2.1 hSz om om (1 : Int) (0 : Int) (0 : Int) [(rX e0 EI (List.replicate 64 0) 145), (rX d0 EI (o1.2 ++ o2.2) 146), (rC b1 x1 104)] w E1 G1) ?_
  rintro wv81 H1 ⟨hwv82, k0, z0, A0, I1, J1⟩
  obtain ⟨P2, U0⟩ : ∃ q, q = FA 256 o2.1 := ⟨_, rfl⟩
  rw [← U0] at hwv82
  subst hwv82
  have K1 := J1.a5 rfl
  refine go 1 ?_
  subst U0
  have V0 : o2.1 ++ [(⟨(1 : Int), (0 : Int), (0 : Int)⟩ : Gt)] = ze o2.1 := by rfl
  have W0 := I1
  rw [V0] at W0
  have L1 : Hp No w H1 [(rC b5 #[iN 256, sO k0 (List.length (ze o2.1)) z0, yA] 143), (k0, qA EG 154 (ze o2.1) A0), (rX e0 EI (List.replicate 64 0) 145), (rX d0 EI (o1.2 ++ o2.2) 146), (rC b1 x1 104)] := by rw [← V0]; exact K1
  have hzl : (ze o2.1).length = o2.1.length + 1 := by simp [ze]
  refine go 1 ?_
  refine sq ((iB rfl rfl).as (v' := .bool false) (by rfl)) ?_
  refine go 1 ?_
  refine sq ((iB rfl rfl).as (v' := .bool false) (by rfl)) ?_
  refine go 1 ?_
  refine sq ((iB rfl rfl).as (v' := .bool true) (by rfl)) ?_
  refine go 1 ?_
  let i0 : List RW := [(rX d0 EI (o1.2 ++ o2.2) 146), (rC b1 x1 104)]
  let B0 := fun (b0 : Option Nat) (a0 : Int) (c0 : Nat) => ((rC b5 #[iN 256, sO b0 (List.length ((yC 256 ((cC 256 (ze o2.1) o1.2 o2.2).1) a0 o2.2 o1.2 64).1)) c0, yA] 143) : RW)
  let C0 := ((rX e0 EI (List.replicate 64 0) 145) : RW)
  let M1 : mC := [RB false false false fun _ _ _ w' => Hp No w w' ((rC b5 #[iN 256, sO k0 (List.length (ze o2.1)) z0, yA] 143) :: (k0, qA EG 154 (ze o2.1) A0) :: C0 :: i0), RB true false false fun v6 _ _ w' => ∃ l0 p0 q0 a0, v6 = i64 a0 ∧ Sl EG l0 ((cC 256 (ze o2.1) o1.2 o2.2).1) p0 q0 ∧ a0 = (cC 256 (ze o2.1) o1.2 o2.2).2 ∧ Hp No w w' ((rC b5 #[iN 256, sO l0 (List.length ((cC 256 (ze o2.1) o1.2 o2.2).1)) p0, yA] 143) :: (l0, qA EG 154 ((cC 256 (ze o2.1) o1.2 o2.2).1) q0) :: C0 :: i0), RB true true false fun v6 v11 _ w' => ∃ a0 b0 c0 f0, v6 = i64 a0 ∧ v11 = .agg (uA EI ((yC 256 ((cC 256 (ze o2.1) o1.2 o2.2).1) a0 o2.2 o1.2 64).2)).toArray ∧ Sl EG b0 ((yC 256 ((cC 256 (ze o2.1) o1.2 o2.2).1) a0 o2.2 o1.2 64).1) c0 f0 ∧ a0 = (cC 256 (ze o2.1) o1.2 o2.2).2 ∧ Hp No w w' ((B0 b0 a0 c0) :: (b0, qA EG 154 ((yC 256 ((cC 256 (ze o2.1) o1.2 o2.2).1) a0 o2.2 o1.2 64).1) f0) :: C0 :: i0), RB true true true fun v6 v11 _ w' => ∃ a0 b0 c0 f0, v6 = i64 a0 ∧ v11 = .agg (uA EI ((yC 256 ((cC 256 (ze o2.1) o1.2 o2.2).1) a0 o2.2 o1.2 64).2)).toArray ∧ Sl EG b0 ((yC 256 ((cC 256 (ze o2.1) o1.2 o2.2).1) a0 o2.2 o1.2 64).1) c0 f0 ∧ a0 = (cC 256 (ze o2.1) o1.2 o2.2).2 ∧ Hp No w w' ((B0 b0 a0 c0) :: (b0, qA EG 154 ((yC 256 ((cC 256 (ze o2.1) o1.2 o2.2).1) a0 o2.2 o1.2 64).1) f0) :: (rX e0 EI ((yC 256 ((cC 256 (ze o2.1) o1.2 o2.2).1) a0 o2.2 o1.2 64).2) 145) :: i0)]
  refine MA (m := 13) [0, 0, 0, 4, 0, 16, 62, 0, 128, 0, 512, 2047, 4095] [6, 11, 12] i0 M1 BA (fun _ e => L1.ext e) EC (fun D0 => ?_)
  refine gk 3 ?_
  refine ZB (.agg (uA EI o1.2).toArray) (fun _ uw hcx => (mB (cs' := (uA EI (((o1.2 ++ o2.2).drop 0).take 64)).toArray) vF vF (hcx.get (k := 0) rfl) (off := 0) rfl (by rw [List.size_toArray, oA]; show _ ≤ _ * 1; omega) (by exact XE _ _ _ rfl)).as (v' := .agg (uA EI o1.2).toArray) (by exact congrArg (fun q => Value.agg (uA EI q).toArray) (mI h0.2))) ?_
  refine gk 1 ?_
  refine ZB (.agg (uA EI o2.2).toArray) (fun _ uw hcx => (mB (cs' := (uA EI (((o1.2 ++ o2.2).drop 64).take 64)).toArray) vF vF (hcx.get (k := 0) rfl) (off := 64) rfl (by rw [List.size_toArray, oA]; show _ ≤ _ * 1; omega) (by exact XE _ _ _ rfl)).as (v' := .agg (uA EI o2.2).toArray) (by exact congrArg (fun q => Value.agg (uA EI q).toArray) (QG h0.2 y0.2))) ?_
  refine WalkT.eff D0 0 ?_ ?_
  ·refine tA fun r w0 uw hF hE => ?_
   have N1 := hF.ext hE
   refine gW fun Q' hK => ?_
   have O1 := N1.as (L' := (_ :: _ :: [(rX e0 EI (List.replicate 64 0) 145), (rX d0 EI (o1.2 ++ o2.2) 146), (rC b1 x1 104)])) rfl
   refine cl (AK b5 256 k0 z0 A0 (ze o2.1) W0 om om o1.2 o2.2 om om [(rX e0 EI (List.replicate 64 0) 145), (rX d0 EI (o1.2 ++ o2.2) 146), (rC b1 x1 104)] w uw O1) ?_
   rintro wv156 Q2 ⟨hwv157, P1, Q1, R1, S1, T1⟩
   obtain ⟨U1, X0⟩ : ∃ q, q = (cC 256 (ze o2.1) o1.2 o2.2).2 := ⟨_, rfl⟩
   rw [← X0] at hwv157
   subst hwv157
   have V1 := T1.a5 rfl
   exact hK _ _ (E_ P1 (E_ Q1 (E_ R1 (E_ U1 (A_ rfl (A_ S1 (A_ X0 V1)))))))
  refine gk 1 ?_
  refine ZB (.agg (uA EI o2.2).toArray) (fun _ uw hcx => (mB (cs' := (uA EI (((o1.2 ++ o2.2).drop 64).take 64)).toArray) vF vF (hcx.get (k := 0) rfl) (off := 64) rfl (by rw [List.size_toArray, oA]; show _ ≤ _ * 1; omega) (by exact XE _ _ _ rfl)).as (v' := .agg (uA EI o2.2).toArray) (by exact congrArg (fun q => Value.agg (uA EI q).toArray) (QG h0.2 y0.2))) ?_
  refine gk 1 ?_
  refine ZB (.agg (uA EI o1.2).toArray) (fun _ uw hcx => (mB (cs' := (uA EI (((o1.2 ++ o2.2).drop 0).take 64)).toArray) vF vF (hcx.get (k := 0) rfl) (off := 0) rfl (by rw [List.size_toArray, oA]; show _ ≤ _ * 1; omega) (by exact XE _ _ _ rfl)).as (v' := .agg (uA EI o1.2).toArray) (by exact congrArg (fun q => Value.agg (uA EI q).toArray) (mI h0.2))) ?_
  refine WalkT.eff D0 1 ?_ ?_
  ·refine tA fun r w0 uw hF hE => ?_
   obtain ⟨l0, p0, q0, a0, e6, W1, m0, E0⟩ := hF
   replace E0 := E0.ext hE
   dsimp only
   rw [e6]
   refine gW fun Q' hK => ?_
   have hlg := BF 256 (ze o2.1) o1.2 o2.2
   have X1 := E0.as (L' := (_ :: _ :: [(rX e0 EI (List.replicate 64 0) 145), (rX d0 EI (o1.2 ++ o2.2) 146), (rC b1 x1 104)])) rfl
   refine cl (DP b5 256 l0 p0 q0 ((cC 256 (ze o2.1) o1.2 o2.2).1) W1 om om a0 o2.2 o1.2 om om [(rX e0 EI (List.replicate 64 0) 145), (rX d0 EI (o1.2 ++ o2.2) 146), (rC b1 x1 104)] w uw X1) ?_
   rintro _ R2 ⟨rfl, Y1, Z1, c2, d2, e2⟩
   have f2 := e2.a5 rfl
   exact hK _ _ (E_ a0 (E_ Y1 (E_ Z1 (E_ c2 (A_ e6 (A_ rfl (A_ d2 (A_ m0 f2))))))))
  refine WalkT.eff D0 2 ?_ ?_
  ·refine tA fun r w0 uw hF hE => ?_
   obtain ⟨a0, b0, c0, f0, e6, r0, F0, m0, G0⟩ := hF
   replace G0 := G0.ext hE
   dsimp only
   rw [r0]
   refine MC fun Q' hK => ?_
   have hnr : ((yC 256 ((cC 256 (ze o2.1) o1.2 o2.2).1) a0 o2.2 o1.2 64).2).length = 64 := (sE _ _ _ _ _ _).2
   refine GA (k := 2) (v := .agg (uA EI ((yC 256 ((cC 256 (ze o2.1) o1.2 o2.2).1) a0 o2.2 o1.2 64).2)).toArray) (cs' := (uA EI ((yC 256 ((cC 256 (ze o2.1) o1.2 o2.2).1) a0 o2.2 o1.2 64).2)).toArray) G0 rfl rfl rfl vF (by exact HB (by rw [hnr]; rfl)) (by exact fC _) (by rw [List.size_toArray, oA]; show _ ≤ _ * 1; first | omega | (simp only [List.length_set]; omega) | exact dB rfl | (simp <;> omega)) (by exact VC (by rw [List.length_replicate]; exact hnr.symm)) ?_
   intro S2 g2 T2
   have h2 := g2.a5 rfl
   exact hK _ (fun _ => (E_ a0 (E_ b0 (E_ c0 (E_ f0 (A_ e6 (A_ r0 (A_ F0 (A_ m0 h2)))))))))
  refine WalkT.nil ?_
  intro r w0 U2 hF hE
  obtain ⟨a0, b0, c0, f0, e6, r0, F0, m0, s0⟩ := hF
  replace s0 := s0.ext hE
  dsimp only
  rw [e6, r0]
  dsimp only [i0, B0] at s0
  subst m0
  have hrl : (yC 256 (cC 256 (ze o2.1) o1.2 o2.2).1 (cC 256 (ze o2.1) o1.2 o2.2).2 o2.2 o1.2 64).2.length = 64 := (sE _ _ _ _ _ _).2
  refine BE ?_
  refine aD ?_
  refine RA ?_
  refine sR ?_
  refine RL ?_
  refine sq (VG vF (b := e0) (off := 0) rfl (dB rfl)) ?_
  refine sq (wB rfl) ?_
  refine sq (rA (off' := 0) vF (by decide) (b := b5) (off := 0) rfl om) ?_
  refine sq (rA (off' := 2) vF (by decide) (b := b5) (off := 0) rfl om) ?_
  refine GA (k := 0) (v := .slice x2 64 64) (cs' := #[iN 256, sO b0 (List.length ((yC 256 ((cC 256 (ze o2.1) o1.2 o2.2).1) ((cC 256 (ze o2.1) o1.2 o2.2).2) o2.2 o1.2 64).1)) c0, .slice x2 64 64]) s0 rfl rfl rfl vF (by rfl) (ZH rfl) (by exact dB rfl) (by rfl) ?_
  intro V2 i2 X2
  have Y0 := i2.a5 rfl
  refine wS ?_
  refine RL ?_
  refine sq (wB rfl) ?_
  refine sq (rA (off' := 0) vF (by decide) (b := b5) (off := 0) rfl om) ?_
  refine sq (mB (cs' := #[iN 256, sO b0 (List.length ((yC 256 ((cC 256 (ze o2.1) o1.2 o2.2).1) ((cC 256 (ze o2.1) o1.2 o2.2).2) o2.2 o1.2 64).1)) c0, .slice x2 64 64]) vF vF (Y0.get (k := 0) rfl) (off := 0) rfl (by exact dB rfl) (by rfl)) ?_
  refine GA (k := 4) (v := .agg #[iN 256, sO b0 (List.length ((yC 256 ((cC 256 (ze o2.1) o1.2 o2.2).1) ((cC 256 (ze o2.1) o1.2 o2.2).2) o2.2 o1.2 64).1)) c0, .slice x2 64 64]) (cs' := #[iN 256, sO b0 (List.length ((yC 256 ((cC 256 (ze o2.1) o1.2 o2.2).1) ((cC 256 (ze o2.1) o1.2 o2.2).2) o2.2 o1.2 64).1)) c0, .slice x2 64 64]) Y0 rfl rfl rfl vF (by rfl) (ZH rfl) (by exact dB rfl) (by rfl) ?_
  intro Y2 j2 Z2
  have Z0 := j2.a5 rfl
  refine XK ?_
  refine jF ?_
  refine CD ?_
  refine sK (rs := [.cell 4 104, .tmp 5]) (vs := [.agg #[iN 256, sO b0 (List.length ((yC 256 ((cC 256 (ze o2.1) o1.2 o2.2).1) ((cC 256 (ze o2.1) o1.2 o2.2).2) o2.2 o1.2 64).1)) c0, .slice x2 64 64], .nilIface]) rfl ⟨mB (cs' := #[iN 256, sO b0 (List.length ((yC 256 ((cC 256 (ze o2.1) o1.2 o2.2).1) ((cC 256 (ze o2.1) o1.2 o2.2).2) o2.2 o1.2 64).1)) c0, .slice x2 64 64]) vF vF (Z0.get (k := 4) rfl) (off := 0) rfl (by exact dB rfl) (by rfl), ⟨rfl, rfl⟩, trivial⟩ ?_
  rw [EP ho1 ho2]
  exact ⟨_, rfl, b0, c0, f0, e0, rfl, F0, (((Z0.dropk 4).dropk 3).dropk 0)⟩
end Go.Proofs.YtohngnahcgbfmaaGreatDoor.Cm
