/- What the claim has need of: ErrD, VcAuto, Fcts. -/
import Derived.Test.YtljlkhobfdofhaaGreatDoorWv4
import Derived.Test.YtljlkhobfdofhaaGreatDoorProg
set_option linter.unusedVariables false
set_option maxHeartbeats 16000000
set_option maxRecDepth 20000
namespace Go.Proofs.YtljlkhobfdofhaaGreatDoor.Vc
open Go
def Er (lo:Nat) (w:World) (e:Int):Nat→Value→Prop
 | 0,v=>v=.iface 49 (i64 e)
 | k+1,v=>∃ (b:Nat) (nm:ByteArray) (at':Int) (v':Value),v=.iface 172 (.pointer (some ⟨b,0,none⟩))∧lo≤b∧w.heap[b]?=some (.cells #[.string nm,i64 at',i64 ((k+1:Nat):Int),v'] 175 (0,0))∧Er lo w e k v'
theorem Er.chg {lo:Nat} {M:Nat→Prop} {w w':World} {e:Int} (hC:Chg M w w') (hM:∀ b,lo≤b→¬ M b):∀ {k:Nat} {v:Value},Er lo w e k v→Er lo w' e k v
 | 0,_,h=>h
 | _+1,_,⟨b,nm,at',v',h1,h2,h3,h4⟩=>⟨b,nm,at',v',h1,h2,hC.blk _ _ (hM b h2) h3,Er.chg hC hM h4⟩
theorem Er.chgs {lo:Nat} {N:Nat→Prop} {w w':World} {e:Int} (hC:Chg N w w') (hN:∀ b,lo≤b→b<w.heap.size→¬ N b):∀ {k:Nat} {v:Value},Er lo w e k v→Er lo w' e k v
 | 0,_,h=>h
 | _+1,_,⟨b,nm,at',v',h1,h2,h3,h4⟩=>⟨b,nm,at',v',h1,h2,hC.blk _ _ (hN b h2 (xB h3)) h3,Er.chgs hC hN h4⟩
theorem Er.ext {lo:Nat} {w w':World} {e:Int} {k:Nat} {v:Value} (h:Er lo w e k v) (hE:Ext w w'):Er lo w' e k v:=Er.chg hE (fun _ _ x=>x) h
theorem Er.mono {lo lo':Nat} {w:World} {e:Int} (hl:lo'≤lo):∀ {k:Nat} {v:Value},Er lo w e k v→Er lo' w e k v
 | 0,_,h=>h
 | _+1,_,⟨b,nm,at',v',h1,h2,h3,h4⟩=>⟨b,nm,at',v',h1,Nat.le_trans hl h2,h3,Er.mono hl h4⟩
theorem Er.iface {lo:Nat} {w:World} {e:Int}:∀ {k:Nat} {v:Value},Er lo w e k v→∃ T x,v=.iface T x
 | 0,_,h=>⟨_,_,h⟩
 | _+1,_,⟨_,_,_,_,h1,_,_,_⟩=>⟨_,_,h1⟩
def Gl (w:World):Prop:=∃ (cs:Array Value) (T:TypeId) (fr:Nat × Nat),w.heap[0]?=some (.cells cs T fr)∧cs[0]?=some (.iface 312 (.agg #[typeHandle Tryz.prog 41]))
theorem Chg.gl {M:Nat→Prop} {w w':World} (h:Chg M w w') (hM:¬ M 0) (hG:Gl w):Gl w':=by
 obtain ⟨cs,T,fr,h1,h2⟩:=hG
 exact ⟨cs,T,fr,h.blk _ _ hM h1,h2⟩
theorem Ext.gl {w w':World} (h:Ext w w') (hG:Gl w):Gl w':=Chg.gl h (fun x=>x) hG
theorem Gl.lt {w:World} (hG:Gl w):0<w.heap.size:=by
 obtain ⟨cs,T,fr,h1,_⟩:=hG
 exact xB h1
end Go.Proofs.YtljlkhobfdofhaaGreatDoor.Vc
namespace Go.Proofs.YtljlkhobfdofhaaGreatDoor.Vc
open Go
class Fct {α:Type} (a:α) (b:outParam α):Prop where h:a=b
class Fit {α:Type} (P:Program) (T:TypeId) (E:Enc α):Prop where h:pD P T E
class ZerO (P:Program) (T:TypeId) (o:outParam Obj):Prop where h:∃ z,YB P T=some z∧Obj.cells z.cells T (0,0)=o
structure Fu (n:Nat) (G:Prop):Prop where out:G
theorem AE {n:Nat} {G G':Prop} (f:G'→G) (h:Fu n G'):Fu (n+1) G:=⟨f h.out⟩
theorem LC {n:Nat} {G G':Prop} (f:G'→G) (h:Fu n G'):Fu n G:=⟨f h.out⟩
theorem vfB {n:Nat} {G G':Prop} (f:G'→G) (h:Fu (n+1) G'):Fu (n+1) G:=⟨f h.out⟩
theorem tY {G:Prop} (h:G):Fu 0 G:=⟨h⟩
structure Kp (K:Prop):Prop where out:K
inductive InR (key:Option Nat) (o:Obj):List RW→Prop
 |here {L:List RW}:InR key o ((key,o)::L)
 |there {p:RW} {L:List RW} (h:InR key o L):InR key o (p::L)
theorem InR.mem {key:Option Nat} {o:Obj} {L:List RW} (h:InR key o L):(key,o)∈L:=by
 induction h with
 |here=>exact List.mem_cons_self
 |there _ ih=>exact List.mem_cons_of_mem _ ih
inductive SetF (key:Option Nat) (o:Obj):List RW→(RW→List RW)→Prop
 |here {L:List RW}:SetF key o ((key,o)::L) (fun p=>p::L)
 |there {q:RW} {L:List RW} {F:RW→List RW} (h:SetF key o L F):SetF key o (q::L) (fun p=>q::F p)
theorem SetF.at {key:Option Nat} {o:Obj} {L:List RW} {F:RW→List RW} (h:SetF key o L F):∃ k:Nat,L[k]?=some (key,o)∧∀ p,L.set k p=F p:=by
 induction h with
 |here=>exact ⟨0,rfl,fun _=>rfl⟩
 |there _ ih=>obtain ⟨k,h1,h2⟩:=ih; exact ⟨k+1,h1,fun p=>by rw [List.set_cons_succ,h2]⟩
inductive SetL {α:Type} (v:α):List α→Nat→List α→Prop
 |here {a:α} {l:List α}:SetL v (a::l) 0 (v::l)
 |there {a:α} {l l':List α} {i:Nat} (h:SetL v l i l'):SetL v (a::l) (i+1) (a::l')
theorem SetL.eq {α:Type} {v:α} {l l':List α} {i:Nat} (h:SetL v l i l'):l.set i v=l'∧i<l.length:=by
 induction h with
 |here=>exact ⟨rfl,by simp⟩
 |there _ ih=>exact ⟨by rw [List.set_cons_succ,ih.1],by simp; exact ih.2⟩
inductive TakL {α:Type}:Nat→List α→List α→Prop
 |nil {l:List α}:TakL 0 l []
 |cons {a:α} {l l':List α} {n:Nat} (h:TakL n l l'):TakL (n+1) (a::l) (a::l')
inductive DrpL {α:Type}:Nat→Nat→List α→List α→Prop
 |here {l l':List α} {n:Nat} (h:TakL n l l'):DrpL 0 n l l'
 |there {a:α} {l l':List α} {i n:Nat} (h:DrpL i n l l'):DrpL (i+1) n (a::l) l'
theorem TakL.eq {α:Type} {l l':List α} {n:Nat} (h:TakL n l l'):l.take n=l'∧n≤l.length:=by
 induction h with
 |nil=>exact ⟨rfl,Nat.zero_le _⟩
 |cons _ ih=>exact ⟨by rw [List.take_succ_cons,ih.1],by simp; exact ih.2⟩
theorem DrpL.eq {α:Type} {l l':List α} {i n:Nat} (h:DrpL i n l l'):(l.drop i).take n=l'∧i+n≤l.length:=by
 induction h with
 |here h=>exact ⟨by simpa using h.eq.1,by simpa using h.eq.2⟩
 |there _ ih=>exact ⟨by simpa using ih.1,by have:=ih.2; simp; omega⟩
inductive PutL:LV→LV→Nat→LV→Prop
 |nil {l:LV}:PutL [] l 0 l
 |here {v:Value} {vs:LV} {a:Value} {l l':LV} (h:PutL vs l 0 l'):PutL (v::vs) (a::l) 0 (v::l')
 |there {vs:LV} {a:Value} {l l':LV} {i:Nat} (h:PutL vs l i l'):PutL vs (a::l) (i+1) (a::l')
theorem bJ (a:Value):∀ (vs l:LV) (i:Nat),sD (a::l).toArray (i+1) vs=((a::(sD l.toArray i vs).toList)).toArray
 |[],l,i=>by simp [sD]
 |v::vs,l,i=>by
  rw [sD,sD]
  have:=bJ a vs (l.set i v) (i+1)
  simpa using this
theorem PutL.eq {vs l l':LV} {i:Nat} (h:PutL vs l i l'):sD l.toArray i vs=l'.toArray∧i+vs.length≤l.length:=by
 induction h with
 |nil=>exact ⟨rfl,by simp⟩
 |@here v vs a l l' _ ih =>
  refine ⟨?_,by have:=ih.2; simp at this ⊢; omega⟩
  rw [sD]
  have e:(a::l).toArray.setIfInBounds 0 v=(v::l).toArray:=by simp
  rw [e,bJ,ih.1]
 |@there vs a l l' i _ ih =>
  refine ⟨by rw [bJ,ih.1],by have:=ih.2; simp at this ⊢; omega⟩
inductive FillL (place:Nat→Option (Nat × Nat)):List (Nat × Value)→LV→LV→Prop
 |nil {l:LV}:FillL place [] l l
 |cons {i off s:Nat} {v u:Value} {vs:LV} {ps:List (Nat × Value)} {l l1 l2:LV} (hp:place i=some (off,s)) (hu:v=u) (hv:u.cells=vs.toArray) (hs:Nat.beq vs.length s=true) (h:PutL vs l off l1) (r:FillL place ps l1 l2):FillL place ((i,v)::ps) l l2
theorem NL (off:Nat):∀ (vs:LV) (k:Nat) (cs:Array Value),(vs.zipIdx k).foldl (fun cs (p:Value × Nat)=>cs.setIfInBounds (off+p.2) p.1) cs=sD cs (off+k) vs
 |[],_,_=>rfl
 |v::vs,k,cs=>by rw [List.zipIdx_cons,List.foldl_cons,NL off vs (k+1)]; rfl
theorem FillL.eq {place:Nat→Option (Nat × Nat)} {ps:List (Nat × Value)} {l l':LV} (h:FillL place ps l l'):Instr.fill place l.toArray ps=some l'.toArray:=by
 induction h with
 |nil=>rfl
 |@cons i off s v u vs ps l l1 l2 hp hu hv hs hput _ ih =>
  subst hu
  obtain ⟨e1,e2⟩:=hput.eq
  have hs':=Nat.eq_of_beq_eq_true hs
  unfold Instr.fill
  rw [hp]
  have h1:v.cells.size=s:=by rw [hv]; simpa using hs'
  have h2:¬ ((decide (v.cells.size≠s) || decide (off+v.cells.size > l.toArray.size))=true):=by rw [h1]; simp; omega
  simp only
  rw [if_neg h2]
  have e3:v.cells.zipIdx.foldl (fun cs (p:Value × Nat)=>cs.setIfInBounds (off+p.2) p.1) l.toArray=l1.toArray:=by
   rw [← e1,hv]
   have:=NL off vs 0 l.toArray
   simpa using this
  exact (congrArg (fun x=>Instr.fill place x ps) e3).trans ih
class ArrE (α:outParam Type) (P:Program) (T:TypeId) (E:outParam (Enc α)):Prop where h:True
inductive EncP {α:Type} (E:Enc α):List (Nat × Value)→List α→Prop
 |nil:EncP E [] []
 |cons {i:Nat} {v:Value} {a:α} {ps:List (Nat × Value)} {l:List α} (hv:v=E.val a) (h:EncP E ps l):EncP E ((i,v)::ps) (a::l)
theorem vIn {key:Option Nat} {o:Obj} {L:List RW} (h:InR key o L:=by (repeat (first | exact InR.here | apply InR.there))<;>fail):InR key o L:=h
theorem FH {key:Option Nat} {o:Obj} {L:List RW} {F:RW→List RW} (h:SetF key o L F:=by (repeat (first | exact SetF.here | apply SetF.there))<;>fail):SetF key o L F:=h
theorem om {p:Prop} (h:p:=by omega):p:=h
class ValAs {α:Type} (E:Enc α) (f:outParam (α→Value)):Prop where h:∀ a,E.val a=f a
instance:ValAs E8 u8:=⟨fun _=>rfl⟩
instance:ValAs E32 u32:=⟨fun _=>rfl⟩
instance:ValAs E64 u64:=⟨fun _=>rfl⟩
instance:ValAs EI i64:=⟨fun _=>rfl⟩
instance:ValAs EB .bool:=⟨fun _=>rfl⟩
instance:ValAs EG (fun g=>.agg #[i64 g.k,i64 g.a,i64 g.b]):=⟨fun _=>rfl⟩
instance:ValAs aD (fun t=>.agg #[u64 t.a,u64 t.b,u64 t.c]):=⟨fun _=>rfl⟩
instance:ValAs UC (fun o=>.agg #[u64 o.p,u64 o.q,u64 o.r,u64 o.s,.bool o.ch]):=⟨fun _=>rfl⟩
instance:ValAs aB (fun l=>.agg (xA E64 [l.1,l.2]).toArray):=⟨fun _=>rfl⟩
instance:ValAs cH (fun o=>.agg #[i64 o.kd,i64 o.a,i64 o.b,i64 o.k,u64 o.c,i64 o.pt]):=⟨fun _=>rfl⟩
instance:ValAs aC (fun o=>.agg #[u64 o.w,u64 o.t.a,u64 o.t.b,u64 o.t.c,.slice o.os.a o.os.n o.os.c,.slice o.zs.a o.zs.n o.zs.c]):=⟨fun _=>rfl⟩
instance:ValAs ES (fun s=>.slice s.a s.n s.c):=⟨fun _=>rfl⟩
instance:ValAs ET (fun l=>.string (strB l)):=⟨fun _=>rfl⟩
class Dft {α:Type} (E:Enc α) (d:outParam α):Prop where h:True
instance:Dft E8 0#8:=⟨trivial⟩
instance:Dft E32 0#32:=⟨trivial⟩
instance:Dft E64 0#64:=⟨trivial⟩
instance:Dft EB false:=⟨trivial⟩
instance:Dft EI 0:=⟨trivial⟩
instance:Dft EG g0:=⟨trivial⟩
instance:Dft ES sK:=⟨trivial⟩
instance:Dft ET []:=⟨trivial⟩
instance:Dft aD pC:=⟨trivial⟩
instance:Dft UC WA:=⟨trivial⟩
instance:Dft cH UA:=⟨trivial⟩
instance:Dft aC XB:=⟨trivial⟩
section
variable {M:Nat→Prop} {w₀ w:World} {L:List RW} {b:Nat} {o:Obj} {α:Type} {E:Enc α} {key:Option Nat} {X:TypeId} {l:List α} {c:Nat} {sp pre:LV} {a:Option Addr}
theorem Hp.inr (H:Hp M w₀ w L) (h:InR (some b) o L):w.heap[b]?=some o:=H.has _ h.mem b rfl
theorem Hp.rdI (H:Hp M w₀ w L) (h:InR key (wA E X l sp) L) (hS:Sl E key l c sp):Rd E w (CA key) l:=Rd.mine hS fun g hg=>H.has _ h.mem g hg
theorem Hp.rdJ (H:Hp M w₀ w L) (hS:SlP E key a pre l c sp) (h:InR key (KF E X pre l sp) L):Rd E w a l:=CM hS fun g hg=>H.has _ h.mem g hg
end
theorem ND {p:Prop} (h:p:=by first | with_reducible assumption | assumption):p:=h
theorem IJ {w:World} {b:Nat} {o:Obj} (h:w.heap[b]?=some o:=by first
 |exact Hp.inr ND vIn
 |with_reducible assumption
 |exact Hp.keepE ND (by with_reducible assumption)
 |exact Hp.keepE ND (by assumption)
 |assumption):w.heap[b]?=some o:=h
theorem VD {α:Type} {E:Enc α} {w:World} {a:Option Addr} {l:List α} (h:Rd E w a l:=by first
 |with_reducible assumption
 |exact Hp.rdI ND vIn ND
 |exact Rd.ext (by with_reducible assumption) (Hp.chg ND)
 |exact Hp.rdJ ND (by first | with_reducible assumption | exact Sk.ok.t (by with_reducible assumption) | exact Sk.ok.b (by with_reducible assumption) | exact Sk.ok.o (by with_reducible assumption)) vIn
 |exact Rd.row IJ
 |exact Rd.nil):Rd E w a l:=h
section
variable {P:Program} {n:Nat} {ops:Array Oper} {Q:Exit→Act→World→Prop} {ρ:EA} {w w₀:World} {d:Option Nat} {t T T' S:TypeId} {pos:String} {after:Array Edge} {g:Option (Nat × Bool)} {x y:Operand}
 {M:Nat→Prop} {L L':List RW} {rest:List Oper} {b k off:Nat} {cs cs':Array Value} {X:TypeId} {fr:Nat × Nat} {a:Option Addr}
theorem yB {k:Nat} (h:ev n ρ x=.int .u64 (@OfNat.ofNat Int k instOfNat)) (hk:Nat.blt k 18446744073709551616=true):ev n ρ x=u64 (BitVec.ofNat 64 k):=by
 rw [h]
 have hk2:k<18446744073709551616:=by simpa [Nat.blt_eq] using hk
 show Value.int .u64 (k:Int)=Value.int .u64 ((BitVec.ofNat 64 k).toNat:Int)
 rw [BitVec.toNat_ofNat,Nat.mod_eq_of_lt (by omega)]
theorem FC {k:Nat} (h:ev n ρ x=.int .u8 (@OfNat.ofNat Int k instOfNat)) (hk:Nat.blt k 256=true):ev n ρ x=u8 (BitVec.ofNat 8 k):=by
 rw [h]
 have hk2:k<256:=by simpa [Nat.blt_eq] using hk
 show Value.int .u8 (k:Int)=Value.int .u8 ((BitVec.ofNat 8 k).toNat:Int)
 rw [BitVec.toNat_ofNat,Nat.mod_eq_of_lt (by omega)]
theorem zW {k:Nat} (h:ev n ρ x=.int .u32 (@OfNat.ofNat Int k instOfNat)) (hk:Nat.blt k 4294967296=true):ev n ρ x=u32 (BitVec.ofNat 32 k):=by
 rw [h]
 have hk2:k<4294967296:=by simpa [Nat.blt_eq] using hk
 show Value.int .u32 (k:Int)=Value.int .u32 ((BitVec.ofNat 32 k).toNat:Int)
 rw [BitVec.toNat_ofNat,Nat.mod_eq_of_lt (by omega)]
theorem vmvP {p:Option Addr} (hx:ev n ρ x=.pointer p):Runs P n ρ ⟨d,.move x,t,pos,after,g⟩ w (.pointer p) w:=NA hx
theorem vavP {p:Option Addr} (hx:ev n ρ x=.pointer p):Runs P n ρ ⟨d,.assign x,t,pos,after,g⟩ w (.pointer p) w:=MA hx
theorem vmvS {p:Option Addr} {m c:Nat} (hx:ev n ρ x=.slice p m c):Runs P n ρ ⟨d,.move x,t,pos,after,g⟩ w (.slice p m c) w:=NA hx
theorem vavS {p:Option Addr} {m c:Nat} (hx:ev n ρ x=.slice p m c):Runs P n ρ ⟨d,.assign x,t,pos,after,g⟩ w (.slice p m c) w:=MA hx
theorem vmvW {i:BitVec 64} (hx:ev n ρ x=u64 i):Runs P n ρ ⟨d,.move x,t,pos,after,g⟩ w (u64 i) w:=NA hx
theorem vmvY {i:BitVec 8} (hx:ev n ρ x=u8 i):Runs P n ρ ⟨d,.move x,t,pos,after,g⟩ w (u8 i) w:=NA hx
theorem vmvX {i:BitVec 32} (hx:ev n ρ x=u32 i):Runs P n ρ ⟨d,.move x,t,pos,after,g⟩ w (u32 i) w:=NA hx
theorem vmvG {i:Int} (hx:ev n ρ x=i64 i):Runs P n ρ ⟨d,.move x,t,pos,after,g⟩ w (i64 i) w:=NA hx
theorem vmvl64 {k:Nat} (hx:ev n ρ x=.int .u64 (@OfNat.ofNat Int k instOfNat)) (hk:Nat.blt k 18446744073709551616=true):Runs P n ρ ⟨d,.move x,t,pos,after,g⟩ w (u64 (BitVec.ofNat 64 k)) w:=NA (yB hx hk)
theorem vmvl8 {k:Nat} (hx:ev n ρ x=.int .u8 (@OfNat.ofNat Int k instOfNat)) (hk:Nat.blt k 256=true):Runs P n ρ ⟨d,.move x,t,pos,after,g⟩ w (u8 (BitVec.ofNat 8 k)) w:=NA (FC hx hk)
theorem vmvl32 {k:Nat} (hx:ev n ρ x=.int .u32 (@OfNat.ofNat Int k instOfNat)) (hk:Nat.blt k 4294967296=true):Runs P n ρ ⟨d,.move x,t,pos,after,g⟩ w (u32 (BitVec.ofNat 32 k)) w:=NA (zW hx hk)
theorem vmvI {kk:IntKind} {i:Int} (hx:ev n ρ x=.int kk i):Runs P n ρ ⟨d,.move x,t,pos,after,g⟩ w (.int kk i) w:=NA hx
theorem vavW {i:BitVec 64} (hx:ev n ρ x=u64 i):Runs P n ρ ⟨d,.assign x,t,pos,after,g⟩ w (u64 i) w:=MA hx
theorem vavY {i:BitVec 8} (hx:ev n ρ x=u8 i):Runs P n ρ ⟨d,.assign x,t,pos,after,g⟩ w (u8 i) w:=MA hx
theorem vavX {i:BitVec 32} (hx:ev n ρ x=u32 i):Runs P n ρ ⟨d,.assign x,t,pos,after,g⟩ w (u32 i) w:=MA hx
theorem vavG {i:Int} (hx:ev n ρ x=i64 i):Runs P n ρ ⟨d,.assign x,t,pos,after,g⟩ w (i64 i) w:=MA hx
theorem vavl64 {k:Nat} (hx:ev n ρ x=.int .u64 (@OfNat.ofNat Int k instOfNat)) (hk:Nat.blt k 18446744073709551616=true):Runs P n ρ ⟨d,.assign x,t,pos,after,g⟩ w (u64 (BitVec.ofNat 64 k)) w:=MA (yB hx hk)
theorem vavl8 {k:Nat} (hx:ev n ρ x=.int .u8 (@OfNat.ofNat Int k instOfNat)) (hk:Nat.blt k 256=true):Runs P n ρ ⟨d,.assign x,t,pos,after,g⟩ w (u8 (BitVec.ofNat 8 k)) w:=MA (FC hx hk)
theorem vavl32 {k:Nat} (hx:ev n ρ x=.int .u32 (@OfNat.ofNat Int k instOfNat)) (hk:Nat.blt k 4294967296=true):Runs P n ρ ⟨d,.assign x,t,pos,after,g⟩ w (u32 (BitVec.ofNat 32 k)) w:=MA (zW hx hk)
theorem vavI {kk:IntKind} {i:Int} (hx:ev n ρ x=.int kk i):Runs P n ρ ⟨d,.assign x,t,pos,after,g⟩ w (.int kk i) w:=MA hx
theorem vmvB {c:Bool} (hx:ev n ρ x=.bool c):Runs P n ρ ⟨d,.move x,t,pos,after,g⟩ w (.bool c) w:=NA hx
theorem vavB {c:Bool} (hx:ev n ρ x=.bool c):Runs P n ρ ⟨d,.assign x,t,pos,after,g⟩ w (.bool c) w:=MA hx
theorem vmvA {cs:Array Value} (hx:ev n ρ x=.agg cs):Runs P n ρ ⟨d,.move x,t,pos,after,g⟩ w (.agg cs) w:=NA hx
theorem vavA {cs:Array Value} (hx:ev n ρ x=.agg cs):Runs P n ρ ⟨d,.assign x,t,pos,after,g⟩ w (.agg cs) w:=MA hx
theorem vmvF {T:TypeId} {v:Value} (hx:ev n ρ x=.iface T v):Runs P n ρ ⟨d,.move x,t,pos,after,g⟩ w (.iface T v) w:=NA hx
theorem vavF {T:TypeId} {v:Value} (hx:ev n ρ x=.iface T v):Runs P n ρ ⟨d,.assign x,t,pos,after,g⟩ w (.iface T v) w:=MA hx
theorem vmvN  (hx:ev n ρ x=.nilIface):Runs P n ρ ⟨d,.move x,t,pos,after,g⟩ w (.nilIface) w:=NA hx
theorem vavN  (hx:ev n ρ x=.nilIface):Runs P n ρ ⟨d,.assign x,t,pos,after,g⟩ w (.nilIface) w:=MA hx
theorem vmvT {cs:Array Value} (hx:ev n ρ x=.tuple cs):Runs P n ρ ⟨d,.move x,t,pos,after,g⟩ w (.tuple cs) w:=NA hx
theorem vavT {cs:Array Value} (hx:ev n ρ x=.tuple cs):Runs P n ρ ⟨d,.assign x,t,pos,after,g⟩ w (.tuple cs) w:=MA hx
theorem ZX {f o z:Nat} {U:TypeId} [h:Fct (mC P S f) (some (o,z,U))] (hx:ev n ρ x=.pointer (some ⟨b,0,none⟩)) (hz:z≠0):Runs P n ρ ⟨d,.fieldAddr S x f,t,pos,after,g⟩ w (.pointer (some ⟨b,o,none⟩)) w:=vA h.h hz hx (Nat.zero_add _)
theorem a_field {f o z:Nat} {U:TypeId} [h:Fct (mC P S f) (some (o,z,U))] (hx:ev n ρ x=.pointer (some ⟨b,off,none⟩)) (hz:z≠0):Runs P n ρ ⟨d,.fieldAddr S x f,t,pos,after,g⟩ w (.pointer (some ⟨b,off+o,none⟩)) w:=vA h.h hz hx rfl
theorem JT {m j:Nat} {kk:IntKind} [h:Fct (UD P T) (some (m,1))] (hx:ev n ρ x=.pointer (some ⟨b,0,none⟩)) (hy:ev n ρ y=.int kk (j:Int)) (hj:j<m):Runs P n ρ ⟨d,.indexAddr T x y,t,pos,after,g⟩ w (.pointer (some ⟨b,j,none⟩)) w:=LA h.h hx hy rfl hj (by omega)
theorem WX {m j:Nat} {kk:IntKind} [h:Fct (UD P T) (some (m,1))] (hx:ev n ρ x=.pointer (some ⟨b,off,none⟩)) (hy:ev n ρ y=.int kk (j:Int)) (hj:j<m):Runs P n ρ ⟨d,.indexAddr T x y,t,pos,after,g⟩ w (.pointer (some ⟨b,off+j,none⟩)) w:=LA h.h hx hy rfl hj (by omega)
theorem XX {m j z:Nat} {kk:IntKind} [h:Fct (UD P T) (some (m,z))] (hx:ev n ρ x=.pointer (some ⟨b,0,none⟩)) (hy:ev n ρ y=.int kk (j:Int)) (hj:j<m):Runs P n ρ ⟨d,.indexAddr T x y,t,pos,after,g⟩ w (.pointer (some ⟨b,j*z,none⟩)) w:=LA h.h hx hy rfl hj (by omega)
theorem a_index {m j z:Nat} {kk:IntKind} [h:Fct (UD P T) (some (m,z))] (hx:ev n ρ x=.pointer (some ⟨b,off,none⟩)) (hy:ev n ρ y=.int kk (j:Int)) (hj:j<m):Runs P n ρ ⟨d,.indexAddr T x y,t,pos,after,g⟩ w (.pointer (some ⟨b,off+j*z,none⟩)) w:=LA h.h hx hy rfl hj rfl
theorem a_loadC {l:LV} {v:Value} [h1:Fct (QA P T) true] (hx:ev n ρ x=.pointer (some ⟨b,off,none⟩)) (h:w.heap[b]?=some (.cells l.toArray X fr)) (hv:l[off]?=some v):Runs P n ρ ⟨d,.load T x,t,pos,after,g⟩ w v w:=FA h1.h h hx (by simpa using hv)
theorem a_loadA {l l':LV} {s:Nat} [h1:Fct (SA P T) true] [h2:Fct (ZB P T) (some s)] (hx:ev n ρ x=.pointer (some ⟨b,off,none⟩)) (h:w.heap[b]?=some (.cells l.toArray X fr)) (hc:DrpL off s l l'):Runs P n ρ ⟨d,.load T x,t,pos,after,g⟩ w (.agg l'.toArray) w :=
 kB h1.h h2.h h hx (by simpa using hc.eq.2) (by have hc:=hc.eq.1; subst hc; simp [List.extract,Nat.add_sub_cancel_left])
theorem a_loadE {α:Type} {E:Enc α} {l:List α} {s:Nat} [h1:Fct (SA P T) true] [h2:Fct (ZB P T) (some s)] (hx:ev n ρ x=.pointer (some ⟨b,0,none⟩)) (h:w.heap[b]?=some (.cells (xA E l).toArray X fr)) (hs:l.length*E.s=s):Runs P n ρ ⟨d,.load T x,t,pos,after,g⟩ w (.agg (xA E l).toArray) w :=
 kB h1.h h2.h h hx (by rw [List.size_toArray,qA,hs]; omega) (LEq (by rw [qA,hs]))
theorem a_idxS {e:TypeId} {z m c j:Nat} {kk:IntKind} {α:Type} {E:Enc α} {l:List α} [hT:Fct (qD P T) (some (e,z))] (hx:ev n ρ x=.slice a m c) (hR:Rd E w a l) (hy:ev n ρ y=.int kk (j:Int)) (hm:m=l.length) (hj:j<l.length):Runs P n ρ ⟨d,.indexAddr T x y,t,pos,after,g⟩ w (.pointer (LD a (j*z))) w:=OF hT.h hR hx hy rfl hm hj
theorem a_idxT {e:TypeId} {z m c:Nat} {kk:IntKind} {i:Int} {α:Type} {E:Enc α} {l:List α} [hT:Fct (qD P T) (some (e,z))] (hx:ev n ρ x=.slice a m c) (hR:Rd E w a l) (hy:ev n ρ y=.int kk i) (hi:0≤i) (hm:m=l.length) (hj:i.toNat<l.length):Runs P n ρ ⟨d,.indexAddr T x y,t,pos,after,g⟩ w (.pointer (LD a (i.toNat*z))) w:=OF hT.h hR hx hy (Int.toNat_of_nonneg hi).symm hm hj
theorem VX {m:Nat} {kk:IntKind} {i:Int} [h:Fct (UD P T) (some (m,1))] (hx:ev n ρ x=.pointer (some ⟨b,0,none⟩)) (hy:ev n ρ y=.int kk i) (hi:0≤i) (hj:i.toNat<m):Runs P n ρ ⟨d,.indexAddr T x y,t,pos,after,g⟩ w (.pointer (some ⟨b,i.toNat,none⟩)) w:=LA h.h hx hy (Int.toNat_of_nonneg hi).symm hj (by omega)
theorem IT {m:Nat} {kk:IntKind} {i:Int} [h:Fct (UD P T) (some (m,1))] (hx:ev n ρ x=.pointer (some ⟨b,off,none⟩)) (hy:ev n ρ y=.int kk i) (hi:0≤i) (hj:i.toNat<m):Runs P n ρ ⟨d,.indexAddr T x y,t,pos,after,g⟩ w (.pointer (some ⟨b,off+i.toNat,none⟩)) w:=LA h.h hx hy (Int.toNat_of_nonneg hi).symm hj (by omega)
theorem HT {m z:Nat} {kk:IntKind} {i:Int} [h:Fct (UD P T) (some (m,z))] (hx:ev n ρ x=.pointer (some ⟨b,0,none⟩)) (hy:ev n ρ y=.int kk i) (hi:0≤i) (hj:i.toNat<m):Runs P n ρ ⟨d,.indexAddr T x y,t,pos,after,g⟩ w (.pointer (some ⟨b,i.toNat*z,none⟩)) w:=LA h.h hx hy (Int.toNat_of_nonneg hi).symm hj (by omega)
theorem GT {m z:Nat} {kk:IntKind} {i:Int} [h:Fct (UD P T) (some (m,z))] (hx:ev n ρ x=.pointer (some ⟨b,off,none⟩)) (hy:ev n ρ y=.int kk i) (hi:0≤i) (hj:i.toNat<m):Runs P n ρ ⟨d,.indexAddr T x y,t,pos,after,g⟩ w (.pointer (some ⟨b,off+i.toNat*z,none⟩)) w:=LA h.h hx hy (Int.toNat_of_nonneg hi).symm hj (by omega)
theorem a_lenS {e:TypeId} {z m c:Nat} [h:Fct (qD P T) (some (e,z))] (hx:ev n ρ x=.slice a m c):Runs P n ρ ⟨d,.call ⟨.builtin .len,#[x],#[T]⟩,t,pos,after,g⟩ w (i64 (m:Int)) w:=EK h.h hx
theorem a_mkI {k:IntKind} {xv:Value} [hT:Fct (P.underlying S) (some (.int k))] (hx:ev n ρ x=xv):Runs P n ρ ⟨d,.makeInterface S x,t,pos,after,g⟩ w (.iface S xv) w:=r_mkI hT.h hx
theorem a_neqIN {S:TypeId} {xv:Value} [hT:Fct (xL P T) true] (hx:ev n ρ x=.iface S xv) (hy:ev n ρ y=.nilIface):Runs P n ρ ⟨d,.binOp .neq T x y T',t,pos,after,g⟩ w (.bool true) w:=OQ hT.h hx hy
theorem a_eqlIN {S:TypeId} {xv:Value} [hT:Fct (xL P T) true] (hx:ev n ρ x=.iface S xv) (hy:ev n ρ y=.nilIface):Runs P n ρ ⟨d,.binOp .eql T x y T',t,pos,after,g⟩ w (.bool false) w:=mZ hT.h hx hy
theorem a_neqNN {c:Value} [hT:Fct (xL P T) true] (hx:ev n ρ x=.nilIface) (hy:ev n ρ (.const c)=.nilIface):Runs P n ρ ⟨d,.binOp .neq T x (.const c) T',t,pos,after,g⟩ w (.bool false) w:=iF hT.h hx hy
theorem a_eqlNN {c:Value} [hT:Fct (xL P T) true] (hx:ev n ρ x=.nilIface) (hy:ev n ρ (.const c)=.nilIface):Runs P n ρ ⟨d,.binOp .eql T x (.const c) T',t,pos,after,g⟩ w (.bool true) w:=lZ hT.h hx hy
theorem a_Ito64 {a:Int} [hs:Fct (P.underlying S) (some (.int .i64))] [hT:Fct (P.underlying T) (some (.int .u64))] (hx:ev n ρ x=i64 a):Runs P n ρ ⟨d,.convert S T x,t,pos,after,g⟩ w (u64 (BitVec.ofInt 64 a)) w:=oZ hs.h hT.h hx
theorem a_64toI {a:BitVec 64} [hs:Fct (P.underlying S) (some (.int .u64))] [hT:Fct (P.underlying T) (some (.int .i64))] (hx:ev n ρ x=u64 a):Runs P n ρ ⟨d,.convert S T x,t,pos,after,g⟩ w (i64 a.toInt) w:=OJ hs.h hT.h hx
theorem a_8toI {a:BitVec 8} [hs:Fct (P.underlying S) (some (.int .u8))] [hT:Fct (P.underlying T) (some (.int .i64))] (hx:ev n ρ x=u8 a):Runs P n ρ ⟨d,.convert S T x,t,pos,after,g⟩ w (i64 (a.toNat:Int)) w:=r_8toI hs.h hT.h hx
theorem a_Ito8 {a:Int} [hs:Fct (P.underlying S) (some (.int .i64))] [hT:Fct (P.underlying T) (some (.int .u8))] (hx:ev n ρ x=i64 a):Runs P n ρ ⟨d,.convert S T x,t,pos,after,g⟩ w (u8 (BitVec.ofInt 8 a)) w:=r_Ito8 hs.h hT.h hx
theorem a_8to64 {a:BitVec 8} [hs:Fct (P.underlying S) (some (.int .u8))] [hT:Fct (P.underlying T) (some (.int .u64))] (hx:ev n ρ x=u8 a):Runs P n ρ ⟨d,.convert S T x,t,pos,after,g⟩ w (u64 (a.setWidth 64)) w:=pZ hs.h hT.h hx
theorem a_64to8 {a:BitVec 64} [hs:Fct (P.underlying S) (some (.int .u64))] [hT:Fct (P.underlying T) (some (.int .u8))] (hx:ev n ρ x=u64 a):Runs P n ρ ⟨d,.convert S T x,t,pos,after,g⟩ w (u8 (a.setWidth 8)) w:=qZ hs.h hT.h hx
theorem a_ldD {α:Type} {E:Enc α} {l:List α} {j k:Nat} {v:α} (hx:ev n ρ x=.pointer (LD a (j*k))) {f:α→Value} (hR:Rd E w a l) (hF:Fit P T E) (hd:Dft E v) (hf:ValAs E f) (hk:k=E.s) (hj:j<l.length):Runs P n ρ ⟨d,.load T x,t,pos,after,g⟩ w (f (l.getD j v)) w:=hf.h _ ▸ lG hF.h hR hx (by rw [hk]) (rB hj)
theorem a_ld0 {α:Type} {E:Enc α} {l:List α} {j:Nat} {v:α} (hx:ev n ρ x=.pointer (some ⟨b,j,none⟩)) (h:w.heap[b]?=some (.cells (xA E l).toArray X fr)) {f:α→Value} (hF:Fit P T E) (hd:Dft E v) (hf:ValAs E f) (hE:E.s=1) (hj:j<l.length):Runs P n ρ ⟨d,.load T x,t,pos,after,g⟩ w (f (l.getD j v)) w:=hf.h _ ▸ fE hF.h h (rB hj) hE hx
inductive NthL {α:Type} (v:α):List α→Nat→Prop
 |here {l:List α}:NthL v (v::l) 0
 |there {a:α} {l:List α} {i:Nat} (h:NthL v l i):NthL v (a::l) (i+1)
theorem NthL.eq {α:Type} {v:α} {l:List α} {i:Nat} (h:NthL v l i):l[i]?=some v:=by
 induction h with
 |here=>rfl
 |there _ ih=>simpa using ih
theorem a_ldN {α:Type} {E:Enc α} {l:List α} {j:Nat} {v:α} (hx:ev n ρ x=.pointer (some ⟨b,j,none⟩)) (h:w.heap[b]?=some (.cells (xA E l).toArray X fr)) {f:α→Value} (hj:NthL v l j) (hF:Fit P T E) (hf:ValAs E f) (hE:E.s=1):Runs P n ρ ⟨d,.load T x,t,pos,after,g⟩ w (f v) w:=hf.h _ ▸ fE hF.h h hj.eq hE hx
theorem YX {α:Type} {E:Enc α} {l:List α} {k o z f:Nat} {U:TypeId} [hf:Fct (mC P S f) (some (o,z,U))] (hx:ev n ρ x=.pointer (LD a k)) (hz:z≠0) (hR:Rd E w a l) (hl:0<l.length):Runs P n ρ ⟨d,.fieldAddr S x f,t,pos,after,g⟩ w (.pointer (LD a (k+o))) w:=oV hf.h hz hR hl hx rfl
inductive IsTv:Bool→Prop | mk:IsTv true
inductive IsFv:Bool→Prop | mk:IsFv false
theorem a_pickT {c:Operand} {b:Bool} {u:Value} (hc:ev n ρ c=.bool b) (hb:IsTv b) (hx:ev n ρ x=u):Runs P n ρ ⟨d,.pick c x y,t,pos,after,g⟩ w u w:=by cases hb; exact fD hc hx
theorem a_pickF {c:Operand} {b:Bool} {v:Value} (hc:ev n ρ c=.bool b) (hb:IsFv b) (hy:ev n ρ y=v):Runs P n ρ ⟨d,.pick c x y,t,pos,after,g⟩ w v w:=by cases hb; exact gD hc hy
theorem a_notT {b:Bool} (hx:ev n ρ x=.bool b) (hb:IsTv b):Runs P n ρ ⟨d,.unOp .not T x,t,pos,after,g⟩ w (.bool false) w:=by cases hb; exact r_notT hx
theorem a_notF {b:Bool} (hx:ev n ρ x=.bool b) (hb:IsFv b):Runs P n ρ ⟨d,.unOp .not T x,t,pos,after,g⟩ w (.bool true) w:=by cases hb; exact r_notF hx
theorem dY {X:Array Value} {T2:TypeId} {fr:Nat × Nat} {pl:Array (Nat × Nat)} [hz:ZerO P T (.cells X T2 fr)] [hu:Fct (TN P T) (some pl)]:Runs P n ρ ⟨d,.build T #[],t,pos,after,g⟩ w (.agg X) w:=by
 obtain ⟨z,h1,h2⟩:=hz.h
 exact PF h1 hu.h (ps:=[]) rfl (by cases h2; rfl)
theorem LTq {X:Array Value} {T2:TypeId} {fr:Nat × Nat} {m s:Nat} [hz:ZerO P T (.cells X T2 fr)] [ha:Fct (UD P T) (some (m,s))]:Runs P n ρ ⟨d,.build T #[],t,pos,after,g⟩ w (.agg X) w:=by
 obtain ⟨z,h1,h2⟩:=hz.h
 exact AG h1 ha.h (ps:=[]) rfl (by cases h2; rfl)
theorem cY {α:Type} {E:Enc α} {parts:List (Nat × Operand)} {z:Value} {ps:List (Nat × Value)} {m s:Nat} {l:List α} [hz:Fct (YB P T) (some z)] [ha:Fct (UD P T) (some (m,s))] [hE:ArrE α P T E] (hp:(parts.map fun q=>(q.1,ev n ρ q.2))=ps) (hl:EncP E ps l) (hf:Instr.fill (fun i=>some (i*s,s)) z.cells ps=some (xA E l).toArray):Runs P n ρ ⟨d,.build T parts.toArray,t,pos,after,g⟩ w (.agg (xA E l).toArray) w:=AG hz.h ha.h hp hf
theorem bY {parts:List (Nat × Operand)} {z:Value} {ps:List (Nat × Value)} {m s:Nat} {l l':LV} [hz:Fct (YB P T) (some z)] [ha:Fct (UD P T) (some (m,s))] (hp:(parts.map fun q=>(q.1,ev n ρ q.2))=ps) (hl:z.cells=l.toArray) (hf:FillL (fun i=>some (i*s,s)) ps l l'):Runs P n ρ ⟨d,.build T parts.toArray,t,pos,after,g⟩ w (.agg l'.toArray) w:=AG hz.h ha.h hp (by rw [hl]; exact hf.eq)
theorem aY {parts:List (Nat × Operand)} {z:Value} {ps:List (Nat × Value)} {pl:Array (Nat × Nat)} {l l':LV} [hz:Fct (YB P T) (some z)] [hu:Fct (TN P T) (some pl)] (hp:(parts.map fun q=>(q.1,ev n ρ q.2))=ps) (hl:z.cells=l.toArray) (hf:FillL (pl[·]?) ps l l'):Runs P n ρ ⟨d,.build T parts.toArray,t,pos,after,g⟩ w (.agg l'.toArray) w:=PF hz.h hu.h hp (by rw [hl]; exact hf.eq)
theorem KT {l:LV} {i:Nat} {v:Value} (hx:ev n ρ x=.tuple l.toArray) (hv:l[i]?=some v):Runs P n ρ ⟨d,.extract x i,t,pos,after,g⟩ w v w:=ML hx (by simpa using hv)
end
section
variable {P:Program} {n:Nat} {ρ:EA} {w w':World} {v:Value} {d:Option Nat} {t T S:TypeId} {pos:String} {after:Array Edge} {g:Option (Nat × Bool)} {x y z:Operand} {f:Nat} {pz:Array (Nat × Operand)} {uo:UnOp}
theorem pY (h:Runs P n ρ ⟨d,.move x,t,pos,after,g⟩ w v w'):Runs P n ρ ⟨d,.move x,t,pos,after,g⟩ w v w':=h
theorem jS (h:Runs P n ρ ⟨d,.assign x,t,pos,after,g⟩ w v w'):Runs P n ρ ⟨d,.assign x,t,pos,after,g⟩ w v w':=h
theorem aU (h:Runs P n ρ ⟨d,.fieldAddr S x f,t,pos,after,g⟩ w v w'):Runs P n ρ ⟨d,.fieldAddr S x f,t,pos,after,g⟩ w v w':=h
theorem qY (h:Runs P n ρ ⟨d,.load T x,t,pos,after,g⟩ w v w'):Runs P n ρ ⟨d,.load T x,t,pos,after,g⟩ w v w':=h
theorem ZT (h:Runs P n ρ ⟨d,.indexAddr T x y,t,pos,after,g⟩ w v w'):Runs P n ρ ⟨d,.indexAddr T x y,t,pos,after,g⟩ w v w':=h
theorem rU (h:Runs P n ρ ⟨d,.binOp .add T x y S,t,pos,after,g⟩ w v w'):Runs P n ρ ⟨d,.binOp .add T x y S,t,pos,after,g⟩ w v w':=h
theorem dU (h:Runs P n ρ ⟨d,.binOp .sub T x y S,t,pos,after,g⟩ w v w'):Runs P n ρ ⟨d,.binOp .sub T x y S,t,pos,after,g⟩ w v w':=h
theorem kU (h:Runs P n ρ ⟨d,.binOp .mul T x y S,t,pos,after,g⟩ w v w'):Runs P n ρ ⟨d,.binOp .mul T x y S,t,pos,after,g⟩ w v w':=h
theorem lU (h:Runs P n ρ ⟨d,.binOp .lss T x y S,t,pos,after,g⟩ w v w'):Runs P n ρ ⟨d,.binOp .lss T x y S,t,pos,after,g⟩ w v w':=h
theorem pU (h:Runs P n ρ ⟨d,.binOp .eql T x y S,t,pos,after,g⟩ w v w'):Runs P n ρ ⟨d,.binOp .eql T x y S,t,pos,after,g⟩ w v w':=h
theorem nU (h:Runs P n ρ ⟨d,.binOp .gtr T x y S,t,pos,after,g⟩ w v w'):Runs P n ρ ⟨d,.binOp .gtr T x y S,t,pos,after,g⟩ w v w':=h
theorem jU (h:Runs P n ρ ⟨d,.binOp .neq T x y S,t,pos,after,g⟩ w v w'):Runs P n ρ ⟨d,.binOp .neq T x y S,t,pos,after,g⟩ w v w':=h
theorem oU (h:Runs P n ρ ⟨d,.binOp .geq T x y S,t,pos,after,g⟩ w v w'):Runs P n ρ ⟨d,.binOp .geq T x y S,t,pos,after,g⟩ w v w':=h
theorem mU (h:Runs P n ρ ⟨d,.binOp .leq T x y S,t,pos,after,g⟩ w v w'):Runs P n ρ ⟨d,.binOp .leq T x y S,t,pos,after,g⟩ w v w':=h
theorem cU (h:Runs P n ρ ⟨d,.binOp .xor T x y S,t,pos,after,g⟩ w v w'):Runs P n ρ ⟨d,.binOp .xor T x y S,t,pos,after,g⟩ w v w':=h
theorem qU (h:Runs P n ρ ⟨d,.binOp .and T x y S,t,pos,after,g⟩ w v w'):Runs P n ρ ⟨d,.binOp .and T x y S,t,pos,after,g⟩ w v w':=h
theorem sY (h:Runs P n ρ ⟨d,.binOp .or T x y S,t,pos,after,g⟩ w v w'):Runs P n ρ ⟨d,.binOp .or T x y S,t,pos,after,g⟩ w v w':=h
theorem fU (h:Runs P n ρ ⟨d,.binOp .shl T x y S,t,pos,after,g⟩ w v w'):Runs P n ρ ⟨d,.binOp .shl T x y S,t,pos,after,g⟩ w v w':=h
theorem eU (h:Runs P n ρ ⟨d,.binOp .shr T x y S,t,pos,after,g⟩ w v w'):Runs P n ρ ⟨d,.binOp .shr T x y S,t,pos,after,g⟩ w v w':=h
theorem gU (h:Runs P n ρ ⟨d,.binOp .rem T x y S,t,pos,after,g⟩ w v w'):Runs P n ρ ⟨d,.binOp .rem T x y S,t,pos,after,g⟩ w v w':=h
theorem iU (h:Runs P n ρ ⟨d,.binOp .quo T x y S,t,pos,after,g⟩ w v w'):Runs P n ρ ⟨d,.binOp .quo T x y S,t,pos,after,g⟩ w v w':=h
theorem oY (h:Runs P n ρ ⟨d,.pick x y z,t,pos,after,g⟩ w v w'):Runs P n ρ ⟨d,.pick x y z,t,pos,after,g⟩ w v w':=h
theorem nY (h:Runs P n ρ ⟨d,.unOp uo T x,t,pos,after,g⟩ w v w'):Runs P n ρ ⟨d,.unOp uo T x,t,pos,after,g⟩ w v w':=h
theorem bU (h:Runs P n ρ ⟨d,.build T pz,t,pos,after,g⟩ w v w'):Runs P n ρ ⟨d,.build T pz,t,pos,after,g⟩ w v w':=h
theorem rY (h:Runs P n ρ ⟨d,.convert S T x,t,pos,after,g⟩ w v w'):Runs P n ρ ⟨d,.convert S T x,t,pos,after,g⟩ w v w':=h
end
theorem ru {R:Prop} (h:R:=by first
 |with_reducible apply pY
  first
   |with_reducible apply vmvP
    rfl
   |with_reducible apply vmvS
    rfl
   |with_reducible apply vmvW
    rfl
   |with_reducible apply vmvY
    rfl
   |with_reducible apply vmvX
    rfl
   |with_reducible apply vmvl64
    rfl
    rfl
   |with_reducible apply vmvl8
    rfl
    rfl
   |with_reducible apply vmvl32
    rfl
    rfl
   |with_reducible apply vmvG
    rfl
   |with_reducible apply vmvI
    rfl
   |with_reducible apply vmvB
    rfl
   |with_reducible apply vmvA
    rfl
   |with_reducible apply vmvF
    rfl
   |with_reducible apply vmvN
    rfl
   |with_reducible apply vmvT
    rfl
   |with_reducible apply NA
    rfl
 |with_reducible apply jS
  first
   |with_reducible apply vavP
    rfl
   |with_reducible apply vavS
    rfl
   |with_reducible apply vavW
    rfl
   |with_reducible apply vavY
    rfl
   |with_reducible apply vavX
    rfl
   |with_reducible apply vavl64
    rfl
    rfl
   |with_reducible apply vavl8
    rfl
    rfl
   |with_reducible apply vavl32
    rfl
    rfl
   |with_reducible apply vavG
    rfl
   |with_reducible apply vavI
    rfl
   |with_reducible apply vavB
    rfl
   |with_reducible apply vavA
    rfl
   |with_reducible apply vavF
    rfl
   |with_reducible apply vavN
    rfl
   |with_reducible apply vavT
    rfl
   |with_reducible apply MA
    rfl
 |with_reducible apply MB
  rfl
 |with_reducible apply aU
  first
   |with_reducible apply ZX
    rfl
    decide
   |with_reducible apply a_field
    rfl
    decide
   |with_reducible apply YX
    rfl
    decide
    exact VD
    first | omega | (simp only [List.length_set]; omega) | exact Nat.le_of_ble_eq_true rfl | exact BitVec.isLt _ | (simp<;>omega)
 |with_reducible apply KT
  rfl
  rfl
 |with_reducible apply qY
  first
   |with_reducible apply a_loadC
    rfl
    exact IJ
    rfl
   |with_reducible apply a_ldN
    rfl
    exact IJ
    ((repeat (first | with_reducible exact NthL.here | with_reducible apply NthL.there))<;>fail)
    infer_instance
    infer_instance
    rfl
   |with_reducible apply a_ld0
    rfl
    exact IJ
    infer_instance
    infer_instance
    infer_instance
    rfl
    first | omega | (simp only [List.length_set]; omega) | exact Nat.le_of_ble_eq_true rfl | exact BitVec.isLt _ | (simp<;>omega)
   |with_reducible apply a_loadE
    rfl
    exact IJ
    first | (show _*1=_; omega) | (show _*1=_; simp only [List.length_set]; omega) | rfl | (show _*1=_; simp; omega)
   |with_reducible apply a_loadA
    rfl
    exact IJ
    (repeat (first | with_reducible exact TakL.nil | with_reducible apply TakL.cons | with_reducible apply DrpL.here | with_reducible apply DrpL.there))<;>fail
   |with_reducible apply a_ldD
    rfl
    exact VD
    infer_instance
    infer_instance
    infer_instance
    rfl
    first | omega | (simp only [List.length_set]; omega) | exact Nat.le_of_ble_eq_true rfl | exact BitVec.isLt _ | (simp<;>omega)
 |with_reducible apply ZT
  first
   |with_reducible apply JT
    rfl
    rfl
    first | omega | (simp only [List.length_set]; omega) | exact Nat.le_of_ble_eq_true rfl | exact BitVec.isLt _ | (simp<;>omega)
   |with_reducible apply WX
    rfl
    rfl
    first | omega | (simp only [List.length_set]; omega) | exact Nat.le_of_ble_eq_true rfl | exact BitVec.isLt _ | (simp<;>omega)
   |with_reducible apply XX
    rfl
    rfl
    first | omega | (simp only [List.length_set]; omega) | exact Nat.le_of_ble_eq_true rfl | exact BitVec.isLt _ | (simp<;>omega)
   |with_reducible apply a_index
    rfl
    rfl
    first | omega | (simp only [List.length_set]; omega) | exact Nat.le_of_ble_eq_true rfl | exact BitVec.isLt _ | (simp<;>omega)
   |with_reducible apply a_idxS
    rfl
    exact VD
    rfl
    first | rfl | omega | (simp; omega)
    first | omega | (simp only [List.length_set]; omega) | exact Nat.le_of_ble_eq_true rfl | exact BitVec.isLt _ | (simp<;>omega)
   |with_reducible apply a_idxT
    rfl
    exact VD
    rfl
    omega
    first | rfl | omega | (simp; omega)
    first | omega | (simp only [List.length_set]; omega) | exact Nat.le_of_ble_eq_true rfl | exact BitVec.isLt _ | (simp<;>omega)
   |with_reducible apply VX
    rfl
    rfl
    omega
    omega
   |with_reducible apply IT
    rfl
    rfl
    omega
    omega
   |with_reducible apply HT
    rfl
    rfl
    omega
    omega
   |with_reducible apply GT
    rfl
    rfl
    omega
    omega
 |with_reducible apply a_lenS
  rfl
 |with_reducible apply rU
  first
   |with_reducible apply iC
    rfl
    rfl
    omega
   |with_reducible apply nZ
    first | rfl | exact yB rfl rfl
    first | rfl | exact yB rfl rfl
   |with_reducible apply r_add8
    first | rfl | exact FC rfl rfl
    first | rfl | exact FC rfl rfl
 |with_reducible apply dU
  first
   |with_reducible apply CP
    rfl
    rfl
    omega
   |with_reducible apply DM
    first | rfl | exact yB rfl rfl
    first | rfl | exact yB rfl rfl
   |with_reducible apply r_sub8
    first | rfl | exact FC rfl rfl
    first | rfl | exact FC rfl rfl
 |with_reducible apply kU
  first
   |with_reducible apply AC
    rfl
    rfl
    omega
   |with_reducible apply fZ
    first | rfl | exact yB rfl rfl
    first | rfl | exact yB rfl rfl
   |with_reducible apply r_mul8
    first | rfl | exact FC rfl rfl
    first | rfl | exact FC rfl rfl
 |with_reducible apply lU
  first
   |with_reducible apply bD
    rfl
    rfl
   |with_reducible apply MJ
    first | rfl | exact yB rfl rfl
    first | rfl | exact yB rfl rfl
   |with_reducible apply r_lss8
    first | rfl | exact FC rfl rfl
    first | rfl | exact FC rfl rfl
 |with_reducible apply pU
  first
   |with_reducible apply RB
    rfl
    rfl
   |with_reducible apply NJ
    first | rfl | exact yB rfl rfl
    first | rfl | exact yB rfl rfl
   |with_reducible apply r_eql8
    first | rfl | exact FC rfl rfl
    first | rfl | exact FC rfl rfl
   |with_reducible apply a_eqlIN
    rfl
    rfl
   |with_reducible apply a_eqlNN
    rfl
    rfl
 |with_reducible apply nU
  first
   |with_reducible apply iE
    rfl
    rfl
   |with_reducible apply iZ
    first | rfl | exact yB rfl rfl
    first | rfl | exact yB rfl rfl
   |with_reducible apply r_gtr8
    first | rfl | exact FC rfl rfl
    first | rfl | exact FC rfl rfl
 |with_reducible apply jU
  first
   |with_reducible apply TE
    rfl
    rfl
   |with_reducible apply PQ
    first | rfl | exact yB rfl rfl
    first | rfl | exact yB rfl rfl
   |with_reducible apply EP
    first | rfl | exact FC rfl rfl
    first | rfl | exact FC rfl rfl
   |with_reducible apply a_neqNN
    rfl
    rfl
   |with_reducible apply a_neqIN
    rfl
    rfl
 |with_reducible apply oU
  first
   |with_reducible apply ZI
    rfl
    rfl
   |with_reducible apply jZ
    first | rfl | exact yB rfl rfl
    first | rfl | exact yB rfl rfl
   |with_reducible apply r_geq8
    first | rfl | exact FC rfl rfl
    first | rfl | exact FC rfl rfl
 |with_reducible apply mU
  first
   |with_reducible apply r_leqI
    rfl
    rfl
   |with_reducible apply gZ
    first | rfl | exact yB rfl rfl
    first | rfl | exact yB rfl rfl
   |with_reducible apply r_leq8
    first | rfl | exact FC rfl rfl
    first | rfl | exact FC rfl rfl
 |with_reducible apply cU
  first
   |with_reducible apply ZY
    first | rfl | exact yB rfl rfl
    first | rfl | exact yB rfl rfl
   |with_reducible apply r_xor8
    first | rfl | exact FC rfl rfl
    first | rfl | exact FC rfl rfl
 |with_reducible apply qU
  first
   |with_reducible apply fI
    first | rfl | exact yB rfl rfl
    first | rfl | exact yB rfl rfl
   |with_reducible apply r_and8
    first | rfl | exact FC rfl rfl
    first | rfl | exact FC rfl rfl
 |with_reducible apply sY
  first
   |with_reducible apply r_or64
    first | rfl | exact yB rfl rfl
    first | rfl | exact yB rfl rfl
   |with_reducible apply r_or8
    first | rfl | exact FC rfl rfl
    first | rfl | exact FC rfl rfl
 |with_reducible apply fU
  first
   |with_reducible apply MQ
    first | rfl | exact yB rfl rfl
    rfl
   |with_reducible apply r_shl8
    first | rfl | exact FC rfl rfl
    rfl
 |with_reducible apply eU
  first
   |with_reducible apply aZ
    first | rfl | exact yB rfl rfl
    rfl
   |with_reducible apply r_shr8
    first | rfl | exact FC rfl rfl
    rfl
 |with_reducible apply gU
  first
   |with_reducible apply bZ
    first | rfl | exact yB rfl rfl
    first | rfl | exact yB rfl rfl
    decide
   |with_reducible apply r_remI
    rfl
    rfl
    omega
 |with_reducible apply iU
  first
   |with_reducible apply cZ
    first | rfl | exact yB rfl rfl
    first | rfl | exact yB rfl rfl
    decide
   |with_reducible apply r_quoI
    rfl
    rfl
    omega
 |with_reducible apply oY
  first
   |with_reducible apply a_pickT
    rfl
    with_reducible exact IsTv.mk
    rfl
   |with_reducible apply a_pickF
    rfl
    with_reducible exact IsFv.mk
    rfl
 |with_reducible apply nY
  first
   |with_reducible apply a_notT
    rfl
    with_reducible exact IsTv.mk
   |with_reducible apply a_notF
    rfl
    with_reducible exact IsFv.mk
   |with_reducible apply NQ
    rfl
 |with_reducible apply bU
  first
   |with_reducible apply dY
   |with_reducible apply LTq
   |with_reducible apply cY
    rfl
    ((repeat (first | exact EncP.nil | (apply EncP.cons; rfl)))<;>fail)
    rfl
   |with_reducible apply bY
    rfl
    rfl
    ((repeat (first | exact FillL.nil | (apply FillL.cons; rfl; exact vE; rfl; rfl; ((repeat (first | exact PutL.nil | apply PutL.here | apply PutL.there))<;>fail))))<;>fail)
   |with_reducible apply aY
    rfl
    rfl
    ((repeat (first | exact FillL.nil | (apply FillL.cons; rfl; exact vE; rfl; rfl; ((repeat (first | exact PutL.nil | apply PutL.here | apply PutL.there))<;>fail))))<;>fail)
 |with_reducible apply a_mkI
  rfl
 |with_reducible apply rY
  first
   |with_reducible apply a_Ito64
    rfl
   |with_reducible apply a_64toI
    rfl
   |with_reducible apply a_8toI
    rfl
   |with_reducible apply a_Ito8
    rfl
   |with_reducible apply a_8to64
    rfl
   |with_reducible apply a_64to8
    rfl
 |with_reducible apply jV
  rfl
  rfl
 |with_reducible apply FP
  rfl
  rfl):R:=h
theorem LI {P:Program} {n:Nat} {ρ:EA} {o:Oper} {w w':World} {p:Prop} {_:Decidable p} (h:Runs P n ρ o w (.bool (decide p)) w') (hp:p:=by omega):Runs P n ρ o w (.bool true) w':=h.as (congrArg Value.bool (decide_eq_true hp))
theorem no {P:Program} {n:Nat} {ρ:EA} {o:Oper} {w w':World} {p:Prop} {_:Decidable p} (h:Runs P n ρ o w (.bool (decide p)) w') (hp:¬ p:=by omega):Runs P n ρ o w (.bool false) w':=h.as (congrArg Value.bool (decide_eq_false hp))
theorem vNP {v:Value} {p:Option Addr} (h:v=.pointer p):v=.pointer p:=h
theorem vNS {v:Value} {p:Option Addr} {m c:Nat} (h:v=.slice p m c):v=.slice p m c:=h
theorem vNW {v:Value} {i:BitVec 64} (h:v=u64 i):v=u64 i:=h
theorem vNY {v:Value} {i:BitVec 8} (h:v=u8 i):v=u8 i:=h
theorem vNX {v:Value} {i:BitVec 32} (h:v=u32 i):v=u32 i:=h
theorem vNG {v:Value} {i:Int} (h:v=i64 i):v=i64 i:=h
theorem vNI {v:Value} {kk:IntKind} {i:Int} (h:v=.int kk i):v=.int kk i:=h
theorem vNB {v:Value} {c:Bool} (h:v=.bool c):v=.bool c:=h
theorem vNA {v:Value} {cs:Array Value} (h:v=.agg cs):v=.agg cs:=h
theorem vNF {v:Value} {T:TypeId} {u:Value} (h:v=.iface T u):v=.iface T u:=h
theorem vNN {v:Value}  (h:v=.nilIface):v=.nilIface:=h
theorem vNT {v:Value} {cs:Array Value} (h:v=.tuple cs):v=.tuple cs:=h
theorem vNl64 {v:Value} {k:Nat} (h:v=.int .u64 (@OfNat.ofNat Int k instOfNat)) (hk:Nat.blt k 18446744073709551616=true):v=u64 (BitVec.ofNat 64 k):=by
 rw [h]
 have hk2:k<18446744073709551616:=by simpa [Nat.blt_eq] using hk
 show Value.int .u64 (k:Int)=Value.int .u64 ((BitVec.ofNat 64 k).toNat:Int)
 rw [BitVec.toNat_ofNat,Nat.mod_eq_of_lt (by omega)]
theorem vNl8 {v:Value} {k:Nat} (h:v=.int .u8 (@OfNat.ofNat Int k instOfNat)) (hk:Nat.blt k 256=true):v=u8 (BitVec.ofNat 8 k):=by
 rw [h]
 have hk2:k<256:=by simpa [Nat.blt_eq] using hk
 show Value.int .u8 (k:Int)=Value.int .u8 ((BitVec.ofNat 8 k).toNat:Int)
 rw [BitVec.toNat_ofNat,Nat.mod_eq_of_lt (by omega)]
theorem vNl32 {v:Value} {k:Nat} (h:v=.int .u32 (@OfNat.ofNat Int k instOfNat)) (hk:Nat.blt k 4294967296=true):v=u32 (BitVec.ofNat 32 k):=by
 rw [h]
 have hk2:k<4294967296:=by simpa [Nat.blt_eq] using hk
 show Value.int .u32 (k:Int)=Value.int .u32 ((BitVec.ofNat 32 k).toNat:Int)
 rw [BitVec.toNat_ofNat,Nat.mod_eq_of_lt (by omega)]
theorem vE {v u:Value} (h:v=u:=by first | exact vNP (by rfl) | exact vNS (by rfl) | exact vNW (by rfl) | exact vNY (by rfl) | exact vNX (by rfl) | exact vNl64 (by rfl) (by rfl) | exact vNl8 (by rfl) (by rfl) | exact vNl32 (by rfl) (by rfl) | exact vNG (by rfl) | exact vNI (by rfl) | exact vNB (by rfl) | exact vNA (by rfl) | exact vNF (by rfl) | exact vNN (by rfl) | exact vNT (by rfl) | rfl):v=u:=h
section
variable {P:Program} {n:Nat} {ops:Array Oper} {Q:Exit→Act→World→Prop} {ρ:EA} {w w₀:World} {M:Nat→Prop} {L L':List RW} {d:Option Nat} {t T:TypeId} {pos:String} {after:Array Edge} {rest:List Oper} {x y:Operand} {b off:Nat} {X:TypeId}
theorem vsR {id:Nat} {l:List Oper} {y:Code} (h:W P n l.toArray (Exit.then (y.wp P Q) Q) l ρ w):(Code.seq (.region id l.toArray false) y).wp P Q (St n ρ) w:=TI h
inductive IsT:Bool→Prop | mk:IsT true
inductive IsF:Bool→Prop | mk:IsF false
theorem vcT {c:Operand} {b:Bool} {x y:Code} (hc:ev n ρ c=.bool b) (hb:IsT b) (h:x.wp P Q (St n ρ) w):(Code.cond c x y).wp P Q (St n ρ) w:=by cases hb; exact ZC hc h
theorem vcF {c:Operand} {b:Bool} {x y:Code} (hc:ev n ρ c=.bool b) (hb:IsF b) (h:y.wp P Q (St n ρ) w):(Code.cond c x y).wp P Q (St n ρ) w:=by cases hb; exact CF hc h
theorem vqT {op:Op} {v:Value} {w':World} {j d':Nat} {c:Bool} (hj:(ops[j]?).bind (·.dst)=some d') (hd:Nat.blt d' n=true) (hb:ρ d'=.bool c) (hw:IsT c) (hr:Runs P n ρ ⟨d,op,t,pos,after,some (j,true)⟩ w v w') (h:W P n ops Q rest (XA ρ d v) w'):W P n ops Q (⟨d,op,t,pos,after,some (j,true)⟩::rest) ρ w:=by
 cases hw; exact ZA (by rw [oA hj hd hb]; rfl) hr h
theorem vqF {op:Op} {v:Value} {w':World} {j d':Nat} {c:Bool} (hj:(ops[j]?).bind (·.dst)=some d') (hd:Nat.blt d' n=true) (hb:ρ d'=.bool c) (hw:IsF c) (hr:Runs P n ρ ⟨d,op,t,pos,after,some (j,false)⟩ w v w') (h:W P n ops Q rest (XA ρ d v) w'):W P n ops Q (⟨d,op,t,pos,after,some (j,false)⟩::rest) ρ w:=by
 cases hw; exact ZA (by rw [oA hj hd hb]; rfl) hr h
theorem vkT {op:Op} {j d':Nat} {c:Bool} (hj:(ops[j]?).bind (·.dst)=some d') (hd:Nat.blt d' n=true) (hb:ρ d'=.bool c) (hw:IsF c) (h:W P n ops Q rest (XA ρ d undef) w):W P n ops Q (⟨d,op,t,pos,after,some (j,true)⟩::rest) ρ w:=by
 cases hw; exact uB (by rw [oA hj hd hb]; rfl) h
theorem vkF {op:Op} {j d':Nat} {c:Bool} (hj:(ops[j]?).bind (·.dst)=some d') (hd:Nat.blt d' n=true) (hb:ρ d'=.bool c) (hw:IsT c) (h:W P n ops Q rest (XA ρ d undef) w):W P n ops Q (⟨d,op,t,pos,after,some (j,false)⟩::rest) ρ w:=by
 cases hw; exact uB (by rw [oA hj hd hb]; rfl) h
theorem vkU {op:Op} {j d':Nat} {want:Bool} (hj:(ops[j]?).bind (·.dst)=some d') (hd:Nat.blt d' n=true) (hb:ρ d'=undef) (h:W P n ops Q rest (XA ρ d undef) w):W P n ops Q (⟨d,op,t,pos,after,some (j,want)⟩::rest) ρ w :=
 uB (CN hj hd hb) h
theorem SM {o:Obj} [hz:ZerO P T o] (H:Hp M w₀ w L) (h:∀ b w',w.heap.size≤b→Hp M w₀ w' ((some b,o)::L)→Ext w w'→W P n ops Q rest (XA ρ d (.pointer (some ⟨b,0,none⟩))) w'):W P n ops Q (⟨d,.alloc T,t,pos,after,none⟩::rest) ρ w:=by
 obtain ⟨z,h1,h2⟩:=hz.h
 exact rZ H h1 h2 h
theorem YZ {v:Value} {l:LV} (H:Hp M w₀ w L) (hx:ev n ρ x=v) (hl:v.cells=l.toArray) (h:∀ b w',w.heap.size≤b→Hp M w₀ w' ((some b,.cells l.toArray T (0,0))::L)→Ext w w'→W P n ops Q rest (XA ρ d (.pointer (some ⟨b,0,none⟩))) w'):W P n ops Q (⟨d,.box T x,t,pos,after,none⟩::rest) ρ w :=
 q_box H hx (by rw [hl]) h
theorem pI {α:Type} {E:Enc α} {l:List α} {v:α} {F:RW→List RW} [h2:Fct (ZB P T) (some 1)] (H:Hp M w₀ w L) (hx:ev n ρ x=.pointer (some ⟨b,off,none⟩)) (hL:SetF (some b) (.cells (xA E l).toArray X (0,0)) L F) (hE:E.s=1) (hy:ev n ρ y=E.val v) (ho:off<l.length)
  (h:∀ w',Hp M w₀ w' (F (some b,.cells (xA E (l.set off v)).toArray X (0,0)))→Chg (·=b) w w'→W P n ops Q rest ρ w'):W P n ops Q (⟨none,.store T x y,t,pos,after,none⟩::rest) ρ w:=by
 obtain ⟨k,hk,e⟩:=hL.at
 refine GA H hk hx hy h2.h (by rw [E.hs,hE]) (E.one _) (by rw [List.size_toArray,qA,hE]; omega) (eH hE _ _ _) fun w' H' hC=>h w' (by rw [← e]; exact H') hC
theorem UJ {α:Type} {E:Enc α} {l l':List α} {v:α} {F:RW→List RW} [h2:Fct (ZB P T) (some 1)] (H:Hp M w₀ w L) (hx:ev n ρ x=.pointer (some ⟨b,off,none⟩)) (hL:SetF (some b) (.cells (xA E l).toArray X (0,0)) L F) (hE:E.s=1) (hy:ev n ρ y=E.val v) (hl:SetL v l off l')
  (h:∀ w',Hp M w₀ w' (F (some b,.cells (xA E l').toArray X (0,0)))→Chg (·=b) w w'→W P n ops Q rest ρ w'):W P n ops Q (⟨none,.store T x y,t,pos,after,none⟩::rest) ρ w:=by
 obtain ⟨rfl,ho⟩:=hl.eq
 exact pI H hx hL hE hy ho h
theorem VJ {α:Type} {E:Enc α} {l l':List α} {s:Nat} {F:RW→List RW} [h2:Fct (ZB P T) (some s)] (H:Hp M w₀ w L) (hx:ev n ρ x=.pointer (some ⟨b,0,none⟩)) (hL:SetF (some b) (.cells (xA E l).toArray X (0,0)) L F) (hy:ev n ρ y=.agg (xA E l').toArray) (ho:l.length*E.s=s) (ho':l'.length*E.s=s)
  (h:∀ w',Hp M w₀ w' (F (some b,.cells (xA E l').toArray X (0,0)))→Chg (·=b) w w'→W P n ops Q rest ρ w'):W P n ops Q (⟨none,.store T x y,t,pos,after,none⟩::rest) ρ w:=by
 obtain ⟨k,hk,e⟩:=hL.at
 have e2:l.length=l'.length:=Nat.eq_of_mul_eq_mul_right E.pos (by omega)
 exact GA H hk hx hy h2.h (IB ho') (jC _) (by rw [List.size_toArray,qA]; omega) (kD e2) fun w' H' hC=>h w' (by rw [← e]; exact H') hC
theorem TJ {l l' vs:LV} {v:Value} {s:Nat} {F:RW→List RW} [h2:Fct (ZB P T) (some s)] (H:Hp M w₀ w L) (hx:ev n ρ x=.pointer (some ⟨b,off,none⟩)) (hL:SetF (some b) (.cells l.toArray X (0,0)) L F) (hy:ev n ρ y=v) (hv:v.cells=vs.toArray) (hl:PutL vs l off l') (hs:Nat.beq vs.length s=true) (h1:(vs.all fun u=>u.oneCell')=true)
  (h:∀ w',Hp M w₀ w' (F (some b,.cells l'.toArray X (0,0)))→Chg (·=b) w w'→W P n ops Q rest ρ w'):W P n ops Q (⟨none,.store T x y,t,pos,after,none⟩::rest) ρ w:=by
 obtain ⟨k,hk,e⟩:=hL.at
 obtain ⟨e1,e2⟩:=hl.eq
 have hs':=Nat.eq_of_beq_eq_true hs
 exact GA (cs':=l'.toArray) H hk hx hy h2.h (by rw [hv]; simpa using hs') (by rw [hv]; intro u hu; exact List.all_eq_true.1 h1 u (by simpa using hu)) (by rw [List.size_toArray]; omega) (by rw [hv]; simpa using e1) fun w' H' hC=>h w' (by rw [← e]; exact H') hC
theorem fR {α:Type} {E:Enc α} {l:List α} {j k c:Nat} {v:α} {key:Option Nat} {sp:LV} {F:RW→List RW} [h2:Fct (ZB P T) (some k)] (H:Hp M w₀ w L) (hx:ev n ρ x=.pointer (LD (CA key) (j*k))) (hL:SetF key (wA E X l sp) L F) (hS:Sl E key l c sp) (hk:k=E.s) (hy:ev n ρ y=E.val v) (hj:j<l.length)
  (h:∀ w',Sl E key (l.set j v) c sp→Hp M w₀ w' (F (key,wA E X (l.set j v) sp))→W P n ops Q rest ρ w'):W P n ops Q (⟨none,.store T x y,t,pos,after,none⟩::rest) ρ w:=by
 obtain ⟨i,hi,e⟩:=hL.at
 subst hk
 exact vX (a:=l[j]) H hi hS hx rfl hy rfl h2.h (List.getElem?_eq_getElem hj) fun w' hS' H'=>h w' hS' (by rw [← e]; exact H')
theorem RM {α:Type} {E:Enc α} {l l2:List α} {S T:TypeId} {s m c m2 c2 by':Nat} {z:Value} {a2:Option Addr} {key:Option Nat} {sp:LV} {F:RW→List RW} [hT:Fct (qD P S) (some (T,s))] [hz:Fct (YB P T) (some z)] [hby:Fct (BI P T) (some by')] (H:Hp M w₀ w L) (hx:ev n ρ x=.slice (CA key) m c) (hL:SetF key (wA E T l sp) L F) (hS:Sl E key l c sp) (hy:ev n ρ y=.slice a2 m2 c2) (hR:Rd E w a2 l2) (hs:s=E.s) (hzs:z.cells.size=s)
  (hm:m=l.length) (hm2:m2=l2.length) (hb:(m+m2)*by'≤140737488355328∧m+m2≤140737488355328)
  (h:∀ key' c' sp' w',Sl E key' (l++l2) c' sp'→(l2≠[]→key'≠none)→Hp M w₀ w' (F (key',wA E T (l++l2) sp'))→W P n ops Q rest (XA ρ d (.slice (CA key') (m+m2) c')) w') :
  W P n ops Q (⟨d,.call ⟨.builtin .append,#[x,y],#[S,S]⟩,t,pos,after,none⟩::rest) ρ w:=by
 obtain ⟨k,hk,e⟩:=hL.at
 subst hs
 exact tV H hk hS hT.h hz.h hzs hby.h hR hx hm hy hm2 hb fun key' c' sp' w' h1 h2 h3=>h key' c' sp' w' h1 h2 (by rw [← e]; exact h3)
theorem mAppQ {α:Type} {E:Enc α} {l l2:List α} {S T:TypeId} {s m c m2 c2 by':Nat} {z:Value} {a2:Option Addr} {key:Option Nat} {sp:LV} {F:RW→List RW} [hT:Fct (qD P S) (some (T,s))] [hz:Fct (YB P T) (some z)] [hby:Fct (BI P T) (some by')] (H:Hp M w₀ w L) (hx:ev n ρ x=.slice (CA key) m c) (hL:SetF key (wA E T l sp) L F) (hS:Sl E key l c sp) (hy:ev n ρ y=.slice a2 m2 c2) (hR:Rd E w a2 l2) (hs:s=E.s) (hzs:z.cells.size=s)
  (h:m=l.length∧m2=l2.length∧((m+m2)*by'≤140737488355328∧m+m2≤140737488355328)∧∀ key' c' sp' w',Sl E key' (l++l2) c' sp'→(l2≠[]→key'≠none)→Hp M w₀ w' (F (key',wA E T (l++l2) sp'))→W P n ops Q rest (XA ρ d (.slice (CA key') (m+m2) c')) w') :
  W P n ops Q (⟨d,.call ⟨.builtin .append,#[x,y],#[S,S]⟩,t,pos,after,none⟩::rest) ρ w:=RM H hx hL hS hy hR hs hzs h.1 h.2.1 h.2.2.1 h.2.2.2
theorem bS {α:Type} {E:Enc α} {l:List α} {S T:TypeId} {s m:Nat} {z:Value} {parts:List (Nat × Operand)} {ps:List (Nat × Value)} [hT:Fct (qD P S) (some (T,s))] [hz:Fct (YB P T) (some z)] (h:∀ b w',Sl E (some b) l m []→Hp M w₀ w' ((some b,wA E T l [])::L)→Ext w w'→W P n ops Q rest (XA ρ d (.slice (CA (some b)) m m)) w')
  (H:Hp M w₀ w L:=by exact ND) (hs:s=E.s:=by rfl) (hp:(parts.map fun q=>(q.1,ev n ρ q.2))=ps:=by rfl) (hm:m=l.length:=by rfl) (hps:ps=l.zipIdx.map fun p=>(p.2,E.val p.1):=by rfl) (hb:Nat.ble (m*s) 16777216=true:=by rfl) :
  W P n ops Q (⟨d,.buildSlice S m parts.toArray,t,pos,after,none⟩::rest) ρ w:=by
 subst hs
 exact FM H hT.h hz.h (Nat.le_of_ble_eq_true hb) (by simpa using hp) (fillAll hm hps) hm h
theorem cl {f:FuncId} {xs:List Operand} {ats:Array TypeId} {vs:LV} {R:Value→World→Prop} [hf:Fct (rA P f) true] (hc:Calls P f vs.toArray w fun e w'=>∃ v,e=.returned v∧R v w') (h:∀ v w',R v w'→W P n ops Q rest (XA ρ d v) w') (ha:xs.map (ev n ρ)=vs:=by rfl) :
  W P n ops Q (⟨d,.call ⟨.value (.func f),xs.toArray,ats⟩,t,pos,after,none⟩::rest) ρ w:=c_call hf.h ha hc h
theorem PR {o:Oper} {w':World} {z:Int} (k:Nat) (h:Runs P n ρ o w (i64 z) w') (e:z=(k:Int):=by omega):Runs P n ρ o w (i64 (k:Int)) w':=h.as (congrArg i64 e)
inductive ResO (P:Program) (n:Nat) (ρ:EA) (w:World):List ResultVar→LV→Prop
 |nil:ResO P n ρ w [] []
 |tmp {t:Nat} {v:Value} {rs:List ResultVar} {vs:LV} (h1:Nat.blt t n=true) (h2:ρ t=v) (h:ResO P n ρ w rs vs):ResO P n ρ w (.tmp t::rs) (v::vs)
 |cell {a:Nat} {T:TypeId} {v:Value} {rs:List ResultVar} {vs:LV} (h1:Runs P n ρ ⟨none,.load T (.tmp a),0, "", #[],none⟩ w v w) (h:ResO P n ρ w rs vs):ResO P n ρ w (.cell a T::rs) (v::vs)
theorem ResO.ok {rs:List ResultVar} {vs:LV} (h:ResO P n ρ w rs vs):vL P n ρ w rs vs:=by
 induction h with
 |nil=>trivial
 |tmp h1 h2 _ ih=>exact ⟨⟨h1,h2⟩,ih⟩
 |cell h1 _ ih=>exact ⟨h1,ih⟩
theorem vRs {rs:List ResultVar} {vs:LV} (h:ResO P n ρ w rs vs:=by (repeat (first | exact ResO.nil | (apply ResO.tmp; rfl; exact vE) | (apply ResO.cell; exact ru)))<;>fail):ResO P n ρ w rs vs:=h
theorem UY {fn:Func} {R:Ending→World→Prop} {rs:List ResultVar} {vs:LV} (hr:fn.results=rs.toArray) (h:ResO P n ρ w rs vs) (hR:R (.returned (CK vs)) w):bodyPost P fn R .ret (St n ρ) w:=zP hr h.ok hR
theorem endX {fn:Func} {R:Ending→World→Prop} {rs:List ResultVar} {vs:LV} (hr:fn.results=rs.toArray) (h:ResO P n ρ w rs vs) (hR:R (.returned (CK vs)) w):bodyPost P fn R .normal (St n ρ) w:=endG hr h.ok hR
end
section
variable {P:Program} {m n:Nat} {ops:Array Oper} {Q:Exit→Act→World→Prop} {ρ:EA} {w:World} {d:Option Nat} {op:Op} {t T:TypeId} {x y:Operand} {pos:String} {after:Array Edge} {rest:List Oper} {gg:Nat × Bool} {c:Code} {a:Act} {fn:Func} {R:Ending→World→Prop} {e:Exit}
theorem vgN (h:Fu n (W P m ops Q (⟨d,op,t,pos,after,none⟩::rest) ρ w)):Fu n (W P m ops Q (⟨d,op,t,pos,after,none⟩::rest) ρ w):=h
theorem vgG (h:Fu n (W P m ops Q (⟨d,op,t,pos,after,some gg⟩::rest) ρ w)):Fu n (W P m ops Q (⟨d,op,t,pos,after,some gg⟩::rest) ρ w):=h
theorem vgE (h:Fu n (W P m ops Q [] ρ w)):Fu n (W P m ops Q [] ρ w):=h
theorem vgC (h:Fu n (c.wp P Q a w)):Fu n (c.wp P Q a w):=h
theorem vgR (h:Fu n (bodyPost P fn R e a w)):Fu n (bodyPost P fn R e a w):=h
theorem EN (h:Fu n (W P m ops Q (⟨d,.store T x y,t,pos,after,none⟩::rest) ρ w)):Fu n (W P m ops Q (⟨d,.store T x y,t,pos,after,none⟩::rest) ρ w):=h
theorem FN (h:Fu n (W P m ops Q (⟨d,.alloc T,t,pos,after,none⟩::rest) ρ w)):Fu n (W P m ops Q (⟨d,.alloc T,t,pos,after,none⟩::rest) ρ w):=h
theorem YT (h:Fu n (W P m ops Q (⟨d,.box T x,t,pos,after,none⟩::rest) ρ w)):Fu n (W P m ops Q (⟨d,.box T x,t,pos,after,none⟩::rest) ρ w):=h
end
theorem go (n:Nat) {K G:Prop} (k:K) (h:Kp K→Fu n G:=by
 intro k
 repeat (first
  |with_reducible apply vgN
   first
    |with_reducible exact tY k.out
    |refine AE (sq ru) ?_
    |with_reducible apply EN
     first
      |refine AE (UJ ND (by rfl) FH (by rfl) (by rfl) (by (repeat (first | with_reducible exact SetL.here | with_reducible apply SetL.there))<;>fail)) ?_
      |refine AE (pI ND (by rfl) FH (by rfl) (by rfl) (by first | omega | (simp only [List.length_set]; omega) | exact Nat.le_of_ble_eq_true rfl | exact BitVec.isLt _ | (simp<;>omega))) ?_
      |refine AE (VJ ND (by rfl) FH (by rfl) (by first | (show _*1=_; omega) | (show _*1=_; simp only [List.length_set]; omega) | rfl | (show _*1=_; simp; omega)) (by first | (show _*1=_; omega) | (show _*1=_; simp only [List.length_set]; omega) | rfl | (show _*1=_; simp; omega))) ?_
      |refine AE (TJ ND (by rfl) FH vE (by rfl) (by (repeat (first | with_reducible exact PutL.nil | with_reducible apply PutL.here | with_reducible apply PutL.there))<;>fail) (by rfl) (by rfl)) ?_
      |refine AE (fR ND (by rfl) FH ND (by rfl) (by rfl) (by first | omega | (simp only [List.length_set]; omega) | exact Nat.le_of_ble_eq_true rfl | exact BitVec.isLt _ | (simp<;>omega))) ?_
    |with_reducible apply FN
     refine AE (SM ND) ?_
    |with_reducible apply YT
     refine AE (YZ ND vE (by rfl)) ?_
    |refine AE (RM ND (by rfl) FH ND (by rfl) VD (by rfl) (by rfl) (by first | rfl | omega | (simp; omega)) (by first | rfl | omega | (simp; omega)) (by omega)) ?_
    |refine AE (RM (key:=none) ND (by rfl) FH ND (by rfl) VD (by rfl) (by rfl) (by first | rfl | omega | (simp; omega)) (by first | rfl | omega | (simp; omega)) (by omega)) ?_
  |with_reducible apply vgG
   first
    |refine LC (vkT (by rfl) (by rfl) (by rfl) (by with_reducible exact IsF.mk)) ?_
    |refine LC (vkF (by rfl) (by rfl) (by rfl) (by with_reducible exact IsT.mk)) ?_
    |refine LC (vkU (by rfl) (by rfl) (by rfl)) ?_
    |with_reducible exact tY k.out
    |refine AE (vqT (by rfl) (by rfl) (by rfl) (by with_reducible exact IsT.mk) ru) ?_
    |refine AE (vqF (by rfl) (by rfl) (by rfl) (by with_reducible exact IsF.mk) ru) ?_
  |with_reducible apply vgE
   first
    |with_reducible refine LC NI ?_
    |with_reducible refine LC mH ?_
  |with_reducible apply vgC
   first
    |with_reducible refine LC vsR ?_
    |with_reducible refine LC xG ?_
    |with_reducible refine LC cF ?_
    |with_reducible refine LC LF ?_
    |with_reducible refine LC xF ?_
    |with_reducible refine LC cG ?_
    |with_reducible refine LC RE ?_
    |refine LC (vcT (by rfl) (by with_reducible exact IsT.mk)) ?_
    |refine LC (vcF (by rfl) (by with_reducible exact IsF.mk)) ?_
    |with_reducible exact tY k.out
  |with_reducible apply vgR
   first
    |refine LC (UY (by rfl) vRs) ?_
    |refine LC (endX (by rfl) vRs) ?_
  |with_reducible refine LC AB ?_
  |with_reducible refine LC oD ?_
  |with_reducible refine LC pE ?_
  |with_reducible refine LC JJ ?_
  |with_reducible refine LC CI ?_
  |with_reducible refine LC kE ?_
  |refine LC (FF (by rfl)) ?_
  |with_reducible refine LC NI ?_
  |with_reducible refine LC vsR ?_
  |with_reducible refine LC xG ?_
  |with_reducible refine LC cF ?_
  |with_reducible refine LC LF ?_
  |with_reducible refine LC AB ?_
  |with_reducible refine LC oD ?_
  |with_reducible refine LC xF ?_
  |with_reducible refine LC cG ?_
  |with_reducible refine LC pE ?_
  |with_reducible refine LC JJ ?_
  |with_reducible refine LC CI ?_
  |with_reducible refine LC RE ?_
  |with_reducible refine LC kE ?_
  |refine LC (FF (by rfl)) ?_
  |refine LC (vcT (by rfl) (by with_reducible exact IsT.mk)) ?_
  |refine LC (vcF (by rfl) (by with_reducible exact IsF.mk)) ?_
  |with_reducible refine LC mH ?_
  |refine LC (UY (by rfl) vRs) ?_
  |refine LC (endX (by rfl) vRs) ?_
  |refine LC (vkT (by rfl) (by rfl) (by rfl) (by with_reducible exact IsF.mk)) ?_
  |refine LC (vkF (by rfl) (by rfl) (by rfl) (by with_reducible exact IsT.mk)) ?_
  |refine LC (vkU (by rfl) (by rfl) (by rfl)) ?_
  |with_reducible exact tY k.out
  |refine AE (sq ru) ?_
  |refine AE (vqT (by rfl) (by rfl) (by rfl) (by with_reducible exact IsT.mk) ru) ?_
  |refine AE (vqF (by rfl) (by rfl) (by rfl) (by with_reducible exact IsF.mk) ru) ?_
  |refine AE (SM ND) ?_
  |refine AE (YZ ND vE (by rfl)) ?_
  |refine AE (UJ ND (by rfl) FH (by rfl) (by rfl) (by (repeat (first | with_reducible exact SetL.here | with_reducible apply SetL.there))<;>fail)) ?_
  |refine AE (pI ND (by rfl) FH (by rfl) (by rfl) (by first | omega | (simp only [List.length_set]; omega) | exact Nat.le_of_ble_eq_true rfl | exact BitVec.isLt _ | (simp<;>omega))) ?_
  |refine AE (VJ ND (by rfl) FH (by rfl) (by first | (show _*1=_; omega) | (show _*1=_; simp only [List.length_set]; omega) | rfl | (show _*1=_; simp; omega)) (by first | (show _*1=_; omega) | (show _*1=_; simp only [List.length_set]; omega) | rfl | (show _*1=_; simp; omega))) ?_
  |refine AE (TJ ND (by rfl) FH vE (by rfl) (by (repeat (first | with_reducible exact PutL.nil | with_reducible apply PutL.here | with_reducible apply PutL.there))<;>fail) (by rfl) (by rfl)) ?_
  |refine AE (fR ND (by rfl) FH ND (by rfl) (by rfl) (by first | omega | (simp only [List.length_set]; omega) | exact Nat.le_of_ble_eq_true rfl | exact BitVec.isLt _ | (simp<;>omega))) ?_
  |refine AE (RM ND (by rfl) FH ND (by rfl) VD (by rfl) (by rfl) (by first | rfl | omega | (simp; omega)) (by first | rfl | omega | (simp; omega)) (by omega)) ?_
  |refine AE (RM (key:=none) ND (by rfl) FH ND (by rfl) VD (by rfl) (by rfl) (by first | rfl | omega | (simp; omega)) (by first | rfl | omega | (simp; omega)) (by omega)) ?_)):G:=(h ⟨k⟩).out
theorem gj (n:Nat) {K G:Prop} (k:K) (h:Kp K→Fu n G:=by
 intro k
 repeat (first
  |with_reducible apply vgN
   first
    |with_reducible exact tY k.out
    |refine AE (sq ru) ?_
    |with_reducible apply EN
     first
      |refine AE (UJ ND (by rfl) FH (by rfl) (by rfl) (by (repeat (first | with_reducible exact SetL.here | with_reducible apply SetL.there))<;>fail)) ?_
      |refine AE (pI ND (by rfl) FH (by rfl) (by rfl) (by first | omega | (simp only [List.length_set]; omega) | exact Nat.le_of_ble_eq_true rfl | exact BitVec.isLt _ | (simp<;>omega))) ?_
      |refine AE (VJ ND (by rfl) FH (by rfl) (by first | (show _*1=_; omega) | (show _*1=_; simp only [List.length_set]; omega) | rfl | (show _*1=_; simp; omega)) (by first | (show _*1=_; omega) | (show _*1=_; simp only [List.length_set]; omega) | rfl | (show _*1=_; simp; omega))) ?_
      |refine AE (TJ ND (by rfl) FH vE (by rfl) (by (repeat (first | with_reducible exact PutL.nil | with_reducible apply PutL.here | with_reducible apply PutL.there))<;>fail) (by rfl) (by rfl)) ?_
      |refine AE (fR ND (by rfl) FH ND (by rfl) (by rfl) (by first | omega | (simp only [List.length_set]; omega) | exact Nat.le_of_ble_eq_true rfl | exact BitVec.isLt _ | (simp<;>omega))) ?_
    |with_reducible apply FN
     refine AE (SM ND) ?_
    |with_reducible apply YT
     refine AE (YZ ND vE (by rfl)) ?_
    |refine AE (RM ND (by rfl) FH ND (by rfl) VD (by rfl) (by rfl) (by first | rfl | omega | (simp; omega)) (by first | rfl | omega | (simp; omega)) (by omega)) ?_
    |refine AE (RM (key:=none) ND (by rfl) FH ND (by rfl) VD (by rfl) (by rfl) (by first | rfl | omega | (simp; omega)) (by first | rfl | omega | (simp; omega)) (by omega)) ?_
  |with_reducible apply vgG
   first
    |refine LC (vkT (by rfl) (by rfl) (by rfl) (by with_reducible exact IsF.mk)) ?_
    |refine LC (vkF (by rfl) (by rfl) (by rfl) (by with_reducible exact IsT.mk)) ?_
    |refine LC (vkU (by rfl) (by rfl) (by rfl)) ?_
    |with_reducible exact tY k.out
    |refine AE (vqT (by rfl) (by rfl) (by rfl) (by with_reducible exact IsT.mk) ru) ?_
    |refine AE (vqF (by rfl) (by rfl) (by rfl) (by with_reducible exact IsF.mk) ru) ?_
  |with_reducible apply vgE
   first
    |with_reducible refine LC NI ?_
    |with_reducible refine LC mH ?_
  |with_reducible apply vgC
   first
    |with_reducible refine vfB vsR ?_
    |with_reducible refine vfB xG ?_
    |with_reducible refine vfB cF ?_
    |with_reducible refine vfB LF ?_
    |with_reducible refine LC xF ?_
    |with_reducible refine LC cG ?_
    |with_reducible refine LC RE ?_
    |refine LC (vcT (by rfl) (by with_reducible exact IsT.mk)) ?_
    |refine LC (vcF (by rfl) (by with_reducible exact IsF.mk)) ?_
    |with_reducible exact tY k.out
  |with_reducible apply vgR
   first
    |refine LC (UY (by rfl) vRs) ?_
    |refine LC (endX (by rfl) vRs) ?_
  |with_reducible refine LC AB ?_
  |with_reducible refine LC oD ?_
  |with_reducible refine LC pE ?_
  |with_reducible refine LC JJ ?_
  |with_reducible refine LC CI ?_
  |with_reducible refine LC kE ?_
  |refine LC (FF (by rfl)) ?_
  |with_reducible refine LC NI ?_
  |with_reducible refine LC AB ?_
  |with_reducible refine LC oD ?_
  |with_reducible refine LC xF ?_
  |with_reducible refine LC cG ?_
  |with_reducible refine LC pE ?_
  |with_reducible refine LC JJ ?_
  |with_reducible refine LC CI ?_
  |with_reducible refine LC RE ?_
  |with_reducible refine LC kE ?_
  |refine LC (FF (by rfl)) ?_
  |refine LC (vcT (by rfl) (by with_reducible exact IsT.mk)) ?_
  |refine LC (vcF (by rfl) (by with_reducible exact IsF.mk)) ?_
  |with_reducible refine LC mH ?_
  |refine LC (UY (by rfl) vRs) ?_
  |refine LC (endX (by rfl) vRs) ?_
  |refine LC (vkT (by rfl) (by rfl) (by rfl) (by with_reducible exact IsF.mk)) ?_
  |refine LC (vkF (by rfl) (by rfl) (by rfl) (by with_reducible exact IsT.mk)) ?_
  |refine LC (vkU (by rfl) (by rfl) (by rfl)) ?_
  |with_reducible exact tY k.out
  |refine AE (sq ru) ?_
  |refine AE (vqT (by rfl) (by rfl) (by rfl) (by with_reducible exact IsT.mk) ru) ?_
  |refine AE (vqF (by rfl) (by rfl) (by rfl) (by with_reducible exact IsF.mk) ru) ?_
  |refine AE (SM ND) ?_
  |refine AE (YZ ND vE (by rfl)) ?_
  |refine AE (UJ ND (by rfl) FH (by rfl) (by rfl) (by (repeat (first | with_reducible exact SetL.here | with_reducible apply SetL.there))<;>fail)) ?_
  |refine AE (pI ND (by rfl) FH (by rfl) (by rfl) (by first | omega | (simp only [List.length_set]; omega) | exact Nat.le_of_ble_eq_true rfl | exact BitVec.isLt _ | (simp<;>omega))) ?_
  |refine AE (VJ ND (by rfl) FH (by rfl) (by first | (show _*1=_; omega) | (show _*1=_; simp only [List.length_set]; omega) | rfl | (show _*1=_; simp; omega)) (by first | (show _*1=_; omega) | (show _*1=_; simp only [List.length_set]; omega) | rfl | (show _*1=_; simp; omega))) ?_
  |refine AE (TJ ND (by rfl) FH vE (by rfl) (by (repeat (first | with_reducible exact PutL.nil | with_reducible apply PutL.here | with_reducible apply PutL.there))<;>fail) (by rfl) (by rfl)) ?_
  |refine AE (fR ND (by rfl) FH ND (by rfl) (by rfl) (by first | omega | (simp only [List.length_set]; omega) | exact Nat.le_of_ble_eq_true rfl | exact BitVec.isLt _ | (simp<;>omega))) ?_
  |refine AE (RM ND (by rfl) FH ND (by rfl) VD (by rfl) (by rfl) (by first | rfl | omega | (simp; omega)) (by first | rfl | omega | (simp; omega)) (by omega)) ?_
  |refine AE (RM (key:=none) ND (by rfl) FH ND (by rfl) VD (by rfl) (by rfl) (by first | rfl | omega | (simp; omega)) (by first | rfl | omega | (simp; omega)) (by omega)) ?_)):G:=(h ⟨k⟩).out
theorem aH {K G:Prop} (k:K) (h:Kp K→G:=by
 intro k
 first
  |exact mAppQ ND (by rfl) FH ND (by rfl) VD (by rfl) (by rfl) k.out
  |exact mAppQ (key:=none) ND (by rfl) FH ND (by rfl) VD (by rfl) (by rfl) k.out):G:=h ⟨k⟩
theorem gE {w:World} (h:Gl w:=by first | with_reducible assumption | exact Chg.gl (Hp.chg ND) (fun x=>x) ND):Gl w:=h
theorem kp {p:Prop} (h:p:=by (repeat (first | exact trivial | refine ⟨rfl,?_⟩))<;>fail):p:=h
theorem Hp.pk {M:Nat→Prop} {w₀ w:World} {L:List RW} (H:Hp M w₀ w L) (m:Nat) (idx:List Nat) (hn:idx.Nodup:=by decide) (hm:∀ i∈idx,i<m:=by decide):Hp M w₀ w (idx.filterMap (fun i=>L[i]?)++L.drop m):=H.pick m idx hn hm
theorem nH {G:Prop} (h:G:=by exact Gives.run rfl ru (by first | exact ⟨rfl,Chg.refl _ _⟩ | exact ⟨rfl,rfl⟩)):G:=h
section
variable {P:Program} {n:Nat} {ops:Array Oper} {mask:List Nat} {es:List Nat} {tab:PD} {M:Nat→Prop} {w₀:World} {C:List RW} {Fin:(EA→EA)→Prop} {i k:Nat} {o:Oper} {l:List Oper} {ρ':EA→EA} {v:Value}
theorem vlk (hg:o.guard=none) (hne:es.contains i=false) (h1:∀ r w,Hp M w₀ w C→Runs P n (ρ' r) o w v w) (h2:HI P n ops es M w₀ C tab mask Fin (i+1) k l fun r=>XA (ρ' r) o.dst v):HI P n ops es M w₀ C tab mask Fin i (k+1) (o::l) ρ':=JC v h1 h2 hg hne
theorem vwk {CC:World→Prop} {R:World→World→Prop} {K ks:List (Option yJ)} (hg:o.guard=none) (hR:∀ w,R w w) (h1:∀ r w,CC w→Runs P n (ρ' r) o w v w) (h2:Walk P n ops CC R mask K Fin (i+1) ks l fun r=>XA (ρ' r) o.dst v):Walk P n ops CC R mask K Fin i (none::ks) (o::l) ρ' :=
 ⟨v,fun r w hC _=>Gives.run hg (h1 r w hC) ⟨rfl,hR w⟩,h2⟩
theorem vlkS {v:EA→Value} (hne:es.contains i=false) (h1:AllT (qO mask es i) (fun _ f=>∀ r w0 w,f (es.map r) w0→Ext w0 w→Gives P n ops (ρ' r) o w fun u w'=>u=v r∧Ext w w') tab) (hv:∀ r r':EA,(∀ e∈es,fC mask i e=true→r e=r' e)→v r=v r') (h2:HI P n ops es M w₀ C tab mask Fin (i+1) k l fun r=>XA (ρ' r) o.dst (v r)):HI P n ops es M w₀ C tab mask Fin i (k+1) (o::l) ρ':=aA v hv h1 h2 hne
end
theorem gk (n:Nat) {K G:Prop} (k:K) (h:Kp K→Fu n G:=by
 intro k
 repeat (first
  |with_reducible exact tY k.out
  |refine AE (vlk rfl rfl (fun _ uw hcx=>ru)) ?_
  |refine AE (vlkS rfl (by (repeat (first | exact trivial | (refine A_ (fun r w0 uw hF hE=>?_) ?_; ((repeat (first | (refine Exists.elim hF ?_; intro _ hF) | (refine And.elim ?_ hF; intro _ hF))); have HH:=Hp.ext hF hE; exact nH))))<;>fail) (fun _ _ _=>rfl)) ?_
  |refine AE (vwk rfl (fun _=>Chg.refl _ _) (fun _ uw hC=>by have HH:=Hp.ext ND hC; exact ru)) ?_)):G:=(h ⟨k⟩).out
end Go.Proofs.YtljlkhobfdofhaaGreatDoor.Vc
namespace Go.Proofs.YtljlkhobfdofhaaGreatDoor
open Go Vc
open Vc
instance:Fct (Tryz.prog.follows .mixedOrders) true:=⟨kr⟩
instance:Fct (Tryz.prog.underlying 172) (some (.pointer 175)):=⟨kr⟩
instance:Fct (Tryz.prog.underlying 173) (some (.pointer 172)):=⟨kr⟩
instance:Fct (Tryz.prog.underlying 2) (some (.int .i64)):=⟨kr⟩
instance:Fct (Tryz.prog.underlying 236) (some (.pointer 456)):=⟨kr⟩
instance:Fct (Tryz.prog.underlying 3) (some (.int .i64)):=⟨kr⟩
instance:Fct (Tryz.prog.underlying 32) (some (.array 2 3)):=⟨kr⟩
instance:Fct (Tryz.prog.underlying 4) (some .bool):=⟨kr⟩
instance:Fct (Tryz.prog.underlying 415) (some (.array 16 5)):=⟨kr⟩
instance:Fct (Tryz.prog.underlying 49) (some (.int .i64)):=⟨kr⟩
instance:Fct (Tryz.prog.underlying 5) (some (.int .u8)):=⟨kr⟩
instance:Fct (Tryz.prog.underlying 57) (some (.int .u64)):=⟨kr⟩
instance:Fct (Tryz.prog.underlying 59) (some (.int .u64)):=⟨kr⟩
instance:Fct (Tryz.prog.underlying 60) (some (.slice 57)):=⟨kr⟩
instance:Fct (UD Tryz.prog 128) (some (2,1)):=⟨kr⟩
instance:Fct (UD Tryz.prog 130) (some (2,1)):=⟨kr⟩
instance:Fct (UD Tryz.prog 134) (some (2,1)):=⟨kr⟩
instance:Fct (UD Tryz.prog 142) (some (2,6)):=⟨kr⟩
instance:Fct (UD Tryz.prog 231) (some (5,1)):=⟨kr⟩
instance:Fct (UD Tryz.prog 233) (some (2,2)):=⟨kr⟩
instance:Fct (UD Tryz.prog 32) (some (2,1)):=⟨kr⟩
instance:Fct (UD Tryz.prog 336) (some (64,1)):=⟨kr⟩
instance:Fct (UD Tryz.prog 337) (some (2,64)):=⟨kr⟩
instance:Fct (UD Tryz.prog 415) (some (16,1)):=⟨kr⟩
instance:Fct (UD Tryz.prog 453) (some (11,16)):=⟨kr⟩
instance:Fct (UD Tryz.prog 454) (some (256,1)):=⟨kr⟩
instance:Fct (UD Tryz.prog 479) (some (4,1)):=⟨kr⟩
instance:Fct (UD Tryz.prog 58) (some (6,1)):=⟨kr⟩
instance:Fct (UD Tryz.prog 61) (some (2,1)):=⟨kr⟩
instance:Fct (UD Tryz.prog 64) (some (2,1)):=⟨kr⟩
instance:Fct (UD Tryz.prog 66) (some (2,1)):=⟨kr⟩
instance:Fct (BI Tryz.prog 130) (some 16):=⟨kr⟩
instance:Fct (BI Tryz.prog 137) (some 24):=⟨kr⟩
instance:Fct (BI Tryz.prog 141) (some 80):=⟨kr⟩
instance:Fct (BI Tryz.prog 235) (some 40):=⟨kr⟩
instance:Fct (BI Tryz.prog 3) (some 8):=⟨kr⟩
instance:Fct (BI Tryz.prog 327) (some 8):=⟨kr⟩
instance:Fct (BI Tryz.prog 345) (some 24):=⟨kr⟩
instance:Fct (BI Tryz.prog 57) (some 8):=⟨kr⟩
instance:Fct (rA Tryz.prog 11) true:=⟨kr⟩
instance:Fct (rA Tryz.prog 151) true:=⟨kr⟩
instance:Fct (rA Tryz.prog 152) true:=⟨kr⟩
instance:Fct (rA Tryz.prog 153) true:=⟨kr⟩
instance:Fct (rA Tryz.prog 154) true:=⟨kr⟩
instance:Fct (rA Tryz.prog 155) true:=⟨kr⟩
instance:Fct (rA Tryz.prog 156) true:=⟨kr⟩
instance:Fct (rA Tryz.prog 157) true:=⟨kr⟩
instance:Fct (rA Tryz.prog 158) true:=⟨kr⟩
instance:Fct (rA Tryz.prog 160) true:=⟨kr⟩
instance:Fct (rA Tryz.prog 161) true:=⟨kr⟩
instance:Fct (rA Tryz.prog 162) true:=⟨kr⟩
instance:Fct (rA Tryz.prog 163) true:=⟨kr⟩
instance:Fct (rA Tryz.prog 164) true:=⟨kr⟩
instance:Fct (rA Tryz.prog 165) true:=⟨kr⟩
instance:Fct (rA Tryz.prog 166) true:=⟨kr⟩
instance:Fct (rA Tryz.prog 167) true:=⟨kr⟩
instance:Fct (rA Tryz.prog 168) true:=⟨kr⟩
instance:Fct (rA Tryz.prog 169) true:=⟨kr⟩
instance:Fct (rA Tryz.prog 17) true:=⟨kr⟩
instance:Fct (rA Tryz.prog 170) true:=⟨kr⟩
instance:Fct (rA Tryz.prog 18) true:=⟨kr⟩
instance:Fct (rA Tryz.prog 19) true:=⟨kr⟩
instance:Fct (rA Tryz.prog 20) true:=⟨kr⟩
instance:Fct (rA Tryz.prog 21) true:=⟨kr⟩
instance:Fct (rA Tryz.prog 229) true:=⟨kr⟩
instance:Fct (rA Tryz.prog 230) true:=⟨kr⟩
instance:Fct (rA Tryz.prog 231) true:=⟨kr⟩
instance:Fct (rA Tryz.prog 232) true:=⟨kr⟩
instance:Fct (rA Tryz.prog 233) true:=⟨kr⟩
instance:Fct (rA Tryz.prog 234) true:=⟨kr⟩
instance:Fct (rA Tryz.prog 235) true:=⟨kr⟩
instance:Fct (rA Tryz.prog 236) true:=⟨kr⟩
instance:Fct (rA Tryz.prog 237) true:=⟨kr⟩
instance:Fct (rA Tryz.prog 238) true:=⟨kr⟩
instance:Fct (rA Tryz.prog 239) true:=⟨kr⟩
instance:Fct (rA Tryz.prog 240) true:=⟨kr⟩
instance:Fct (rA Tryz.prog 241) true:=⟨kr⟩
instance:Fct (rA Tryz.prog 242) true:=⟨kr⟩
instance:Fct (rA Tryz.prog 243) true:=⟨kr⟩
instance:Fct (rA Tryz.prog 288) true:=⟨kr⟩
instance:Fct (rA Tryz.prog 289) true:=⟨kr⟩
instance:Fct (rA Tryz.prog 290) true:=⟨kr⟩
instance:Fct (rA Tryz.prog 291) true:=⟨kr⟩
instance:Fct (rA Tryz.prog 292) true:=⟨kr⟩
instance:Fct (rA Tryz.prog 31) true:=⟨kr⟩
instance:Fct (rA Tryz.prog 312) true:=⟨kr⟩
instance:Fct (rA Tryz.prog 313) true:=⟨kr⟩
instance:Fct (rA Tryz.prog 324) true:=⟨kr⟩
instance:Fct (rA Tryz.prog 34) true:=⟨kr⟩
instance:Fct (rA Tryz.prog 43) true:=⟨kr⟩
instance:Fct (rA Tryz.prog 44) true:=⟨kr⟩
instance:Fct (rA Tryz.prog 45) true:=⟨kr⟩
instance:Fct (rA Tryz.prog 46) true:=⟨kr⟩
instance:Fct (rA Tryz.prog 47) true:=⟨kr⟩
instance:Fct (rA Tryz.prog 48) true:=⟨kr⟩
instance:Fct (rA Tryz.prog 49) true:=⟨kr⟩
instance:Fct (rA Tryz.prog 50) true:=⟨kr⟩
instance:Fct (rA Tryz.prog 51) true:=⟨kr⟩
instance:Fct (rA Tryz.prog 52) true:=⟨kr⟩
instance:Fct (rA Tryz.prog 59) true:=⟨kr⟩
instance:Fct (rA Tryz.prog 7) true:=⟨kr⟩
instance:Fct (rA Tryz.prog 78) true:=⟨kr⟩
instance:Fct (rA Tryz.prog 83) true:=⟨kr⟩
instance:Fct (rA Tryz.prog 84) true:=⟨kr⟩
instance:Fct (rA Tryz.prog 85) true:=⟨kr⟩
instance:Fct (rA Tryz.prog 86) true:=⟨kr⟩
instance:Fct (rA Tryz.prog 87) true:=⟨kr⟩
instance:Fct (rA Tryz.prog 88) true:=⟨kr⟩
instance:Fct (rA Tryz.prog 89) true:=⟨kr⟩
instance:Fct (rA Tryz.prog 90) true:=⟨kr⟩
instance:Fct (rA Tryz.prog 91) true:=⟨kr⟩
instance:Fct (rA Tryz.prog 92) true:=⟨kr⟩
instance:Fct (rA Tryz.prog 93) true:=⟨kr⟩
instance:Fct (rA Tryz.prog 94) true:=⟨kr⟩
instance:Fct (rA Tryz.prog 95) true:=⟨kr⟩
instance:Fct (rA Tryz.prog 96) true:=⟨kr⟩
instance:Fct (mC Tryz.prog 105 0) (some (0,1,103)):=⟨kr⟩
instance:Fct (mC Tryz.prog 105 1) (some (1,1,3)):=⟨kr⟩
instance:Fct (mC Tryz.prog 105 2) (some (2,1,3)):=⟨kr⟩
instance:Fct (mC Tryz.prog 105 3) (some (3,1,3)):=⟨kr⟩
instance:Fct (mC Tryz.prog 105 4) (some (4,1,57)):=⟨kr⟩
instance:Fct (mC Tryz.prog 105 5) (some (5,1,3)):=⟨kr⟩
instance:Fct (mC Tryz.prog 137 0) (some (0,1,57)):=⟨kr⟩
instance:Fct (mC Tryz.prog 137 1) (some (1,1,57)):=⟨kr⟩
instance:Fct (mC Tryz.prog 137 2) (some (2,1,57)):=⟨kr⟩
instance:Fct (mC Tryz.prog 141 0) (some (0,1,57)):=⟨kr⟩
instance:Fct (mC Tryz.prog 141 1) (some (1,3,137)):=⟨kr⟩
instance:Fct (mC Tryz.prog 141 2) (some (4,1,138)):=⟨kr⟩
instance:Fct (mC Tryz.prog 141 3) (some (5,1,139)):=⟨kr⟩
instance:Fct (mC Tryz.prog 218 0) (some (0,1,3)):=⟨kr⟩
instance:Fct (mC Tryz.prog 218 1) (some (1,1,216)):=⟨kr⟩
instance:Fct (mC Tryz.prog 218 2) (some (2,1,33)):=⟨kr⟩
instance:Fct (mC Tryz.prog 226 0) (some (0,1,224)):=⟨kr⟩
instance:Fct (mC Tryz.prog 228 0) (some (0,1,138)):=⟨kr⟩
instance:Fct (mC Tryz.prog 230 0) (some (0,1,226)):=⟨kr⟩
instance:Fct (mC Tryz.prog 230 1) (some (1,1,226)):=⟨kr⟩
instance:Fct (mC Tryz.prog 230 2) (some (2,1,228)):=⟨kr⟩
instance:Fct (mC Tryz.prog 235 0) (some (0,4,233)):=⟨kr⟩
instance:Fct (mC Tryz.prog 235 1) (some (4,1,4)):=⟨kr⟩
instance:Fct (mC Tryz.prog 238 0) (some (0,1,60)):=⟨kr⟩
instance:Fct (mC Tryz.prog 238 1) (some (1,1,236)):=⟨kr⟩
instance:Fct (mC Tryz.prog 238 2) (some (2,1,3)):=⟨kr⟩
instance:Fct (mC Tryz.prog 238 3) (some (3,1,3)):=⟨kr⟩
instance:Fct (mC Tryz.prog 329 0) (some (0,1,327)):=⟨kr⟩
instance:Fct (mC Tryz.prog 329 1) (some (1,1,327)):=⟨kr⟩
instance:Fct (mC Tryz.prog 329 2) (some (2,1,327)):=⟨kr⟩
instance:Fct (mC Tryz.prog 329 3) (some (3,1,3)):=⟨kr⟩
instance:Fct (mC Tryz.prog 329 4) (some (4,1,4)):=⟨kr⟩
instance:Fct (mC Tryz.prog 329 5) (some (5,1,4)):=⟨kr⟩
instance:Fct (mC Tryz.prog 329 6) (some (6,1,3)):=⟨kr⟩
instance:Fct (mC Tryz.prog 334 0) (some (0,3,218)):=⟨kr⟩
instance:Fct (mC Tryz.prog 345 0) (some (0,1,341)):=⟨kr⟩
instance:Fct (mC Tryz.prog 345 1) (some (1,1,3)):=⟨kr⟩
instance:Fct (mC Tryz.prog 345 2) (some (2,1,3)):=⟨kr⟩
instance:Fct (mC Tryz.prog 35 0) (some (0,1,3)):=⟨kr⟩
instance:Fct (mC Tryz.prog 35 1) (some (1,1,3)):=⟨kr⟩
instance:Fct (mC Tryz.prog 35 2) (some (2,1,3)):=⟨kr⟩
instance:Fct (mC Tryz.prog 35 3) (some (3,2,32)):=⟨kr⟩
instance:Fct (mC Tryz.prog 35 4) (some (5,1,3)):=⟨kr⟩
instance:Fct (mC Tryz.prog 35 5) (some (6,2,32)):=⟨kr⟩
instance:Fct (mC Tryz.prog 39 0) (some (0,1,31)):=⟨kr⟩
instance:Fct (mC Tryz.prog 39 1) (some (1,2,32)):=⟨kr⟩
instance:Fct (mC Tryz.prog 456 0) (some (0,176,453)):=⟨kr⟩
instance:Fct (mC Tryz.prog 456 1) (some (176,256,454)):=⟨kr⟩
instance:Fct (SA Tryz.prog 105) true:=⟨kr⟩
instance:Fct (SA Tryz.prog 130) true:=⟨kr⟩
instance:Fct (SA Tryz.prog 134) true:=⟨kr⟩
instance:Fct (SA Tryz.prog 137) true:=⟨kr⟩
instance:Fct (SA Tryz.prog 142) true:=⟨kr⟩
instance:Fct (SA Tryz.prog 201) true:=⟨kr⟩
instance:Fct (SA Tryz.prog 218) true:=⟨kr⟩
instance:Fct (SA Tryz.prog 231) true:=⟨kr⟩
instance:Fct (SA Tryz.prog 235) true:=⟨kr⟩
instance:Fct (SA Tryz.prog 32) true:=⟨kr⟩
instance:Fct (SA Tryz.prog 329) true:=⟨kr⟩
instance:Fct (SA Tryz.prog 336) true:=⟨kr⟩
instance:Fct (SA Tryz.prog 35) true:=⟨kr⟩
instance:Fct (SA Tryz.prog 415) true:=⟨kr⟩
instance:Fct (SA Tryz.prog 479) true:=⟨kr⟩
instance:Fct (SA Tryz.prog 61) true:=⟨kr⟩
instance:Fct (SA Tryz.prog 64) true:=⟨kr⟩
instance:Fct (SA Tryz.prog 66) true:=⟨kr⟩
instance:Fct (xL Tryz.prog 20) true:=⟨kr⟩
instance:Fct (xL Tryz.prog 41) true:=⟨kr⟩
instance:Fct (QA Tryz.prog 103) true:=⟨kr⟩
instance:Fct (QA Tryz.prog 127) true:=⟨kr⟩
instance:Fct (QA Tryz.prog 138) true:=⟨kr⟩
instance:Fct (QA Tryz.prog 139) true:=⟨kr⟩
instance:Fct (QA Tryz.prog 204) true:=⟨kr⟩
instance:Fct (QA Tryz.prog 216) true:=⟨kr⟩
instance:Fct (QA Tryz.prog 224) true:=⟨kr⟩
instance:Fct (QA Tryz.prog 236) true:=⟨kr⟩
instance:Fct (QA Tryz.prog 3) true:=⟨kr⟩
instance:Fct (QA Tryz.prog 31) true:=⟨kr⟩
instance:Fct (QA Tryz.prog 327) true:=⟨kr⟩
instance:Fct (QA Tryz.prog 33) true:=⟨kr⟩
instance:Fct (QA Tryz.prog 341) true:=⟨kr⟩
instance:Fct (QA Tryz.prog 4) true:=⟨kr⟩
instance:Fct (QA Tryz.prog 5) true:=⟨kr⟩
instance:Fct (QA Tryz.prog 57) true:=⟨kr⟩
instance:Fct (QA Tryz.prog 60) true:=⟨kr⟩
instance:Fct (QA Tryz.prog 63) true:=⟨kr⟩
instance:Fct (QA Tryz.prog 65) true:=⟨kr⟩
instance:Fct (QA Tryz.prog 9) true:=⟨kr⟩
instance:Fct (BG Tryz.prog 49 316) true:=⟨kr⟩
instance:Fct (BG Tryz.prog 49 319) true:=⟨kr⟩
instance:Fct (BG Tryz.prog 49 321) true:=⟨kr⟩
instance:Fct (TN Tryz.prog 137) (some #[(0,1),(1,1),(2,1)]):=⟨kr⟩
instance:Fct (TN Tryz.prog 175) (some #[(0,1),(1,1),(2,1),(3,1)]):=⟨kr⟩
instance:Fct (TN Tryz.prog 218) (some #[(0,1),(1,1),(2,1)]):=⟨kr⟩
instance:Fct (TN Tryz.prog 230) (some #[(0,1),(1,1),(2,1)]):=⟨kr⟩
instance:Fct (TN Tryz.prog 235) (some #[(0,4),(4,1)]):=⟨kr⟩
instance:Fct (TN Tryz.prog 238) (some #[(0,1),(1,1),(2,1),(3,1)]):=⟨kr⟩
instance:Fct (TN Tryz.prog 329) (some #[(0,1),(1,1),(2,1),(3,1),(4,1),(5,1),(6,1)]):=⟨kr⟩
instance:Fct (TN Tryz.prog 334) (some #[(0,3)]):=⟨kr⟩
instance:Fct (TN Tryz.prog 345) (some #[(0,1),(1,1),(2,1)]):=⟨kr⟩
instance:Fct (TN Tryz.prog 456) (some #[(0,176),(176,256)]):=⟨kr⟩
instance:Fct (TN Tryz.prog 47) (some #[(0,3),(3,1)]):=⟨kr⟩
instance:Fct (ZB Tryz.prog 105) (some 6):=⟨kr⟩
instance:Fct (ZB Tryz.prog 127) (some 1):=⟨kr⟩
instance:Fct (ZB Tryz.prog 130) (some 2):=⟨kr⟩
instance:Fct (ZB Tryz.prog 134) (some 2):=⟨kr⟩
instance:Fct (ZB Tryz.prog 137) (some 3):=⟨kr⟩
instance:Fct (ZB Tryz.prog 138) (some 1):=⟨kr⟩
instance:Fct (ZB Tryz.prog 139) (some 1):=⟨kr⟩
instance:Fct (ZB Tryz.prog 142) (some 12):=⟨kr⟩
instance:Fct (ZB Tryz.prog 201) (some 3):=⟨kr⟩
instance:Fct (ZB Tryz.prog 216) (some 1):=⟨kr⟩
instance:Fct (ZB Tryz.prog 218) (some 3):=⟨kr⟩
instance:Fct (ZB Tryz.prog 224) (some 1):=⟨kr⟩
instance:Fct (ZB Tryz.prog 231) (some 5):=⟨kr⟩
instance:Fct (ZB Tryz.prog 235) (some 5):=⟨kr⟩
instance:Fct (ZB Tryz.prog 3) (some 1):=⟨kr⟩
instance:Fct (ZB Tryz.prog 32) (some 2):=⟨kr⟩
instance:Fct (ZB Tryz.prog 327) (some 1):=⟨kr⟩
instance:Fct (ZB Tryz.prog 329) (some 7):=⟨kr⟩
instance:Fct (ZB Tryz.prog 33) (some 1):=⟨kr⟩
instance:Fct (ZB Tryz.prog 336) (some 64):=⟨kr⟩
instance:Fct (ZB Tryz.prog 345) (some 3):=⟨kr⟩
instance:Fct (ZB Tryz.prog 35) (some 8):=⟨kr⟩
instance:Fct (ZB Tryz.prog 39) (some 16):=⟨kr⟩
instance:Fct (ZB Tryz.prog 415) (some 16):=⟨kr⟩
instance:Fct (ZB Tryz.prog 479) (some 4):=⟨kr⟩
instance:Fct (ZB Tryz.prog 5) (some 1):=⟨kr⟩
instance:Fct (ZB Tryz.prog 57) (some 1):=⟨kr⟩
instance:Fct (ZB Tryz.prog 58) (some 6):=⟨kr⟩
instance:Fct (ZB Tryz.prog 60) (some 1):=⟨kr⟩
instance:Fct (ZB Tryz.prog 61) (some 2):=⟨kr⟩
instance:Fct (ZB Tryz.prog 64) (some 2):=⟨kr⟩
instance:Fct (ZB Tryz.prog 66) (some 2):=⟨kr⟩
instance:Fct (qD Tryz.prog 127) (some (141,6)):=⟨kr⟩
instance:Fct (qD Tryz.prog 138) (some (235,5)):=⟨kr⟩
instance:Fct (qD Tryz.prog 139) (some (130,2)):=⟨kr⟩
instance:Fct (qD Tryz.prog 216) (some (345,3)):=⟨kr⟩
instance:Fct (qD Tryz.prog 224) (some (137,3)):=⟨kr⟩
instance:Fct (qD Tryz.prog 239) (some (327,1)):=⟨kr⟩
instance:Fct (qD Tryz.prog 31) (some (105,6)):=⟨kr⟩
instance:Fct (qD Tryz.prog 33) (some (3,1)):=⟨kr⟩
instance:Fct (qD Tryz.prog 353) (some (134,2)):=⟨kr⟩
instance:Fct (qD Tryz.prog 60) (some (57,1)):=⟨kr⟩
instance:Fct (typeHandle Tryz.prog 41) (.pointer (some ⟨7,41,none⟩)):=⟨kr⟩
instance:Fct (YB Tryz.prog 105) (some (.agg #[.int .i64 0,.int .i64 0,.int .i64 0,.int .i64 0,.int .u64 0,.int .i64 0])):=⟨kr⟩
instance:Fct (YB Tryz.prog 128) (some (.agg (List.replicate 2 (.slice none 0 0)).toArray)):=⟨kr⟩
instance:Fct (YB Tryz.prog 130) (some (.agg (List.replicate 2 (.int .u64 0)).toArray)):=⟨kr⟩
instance:Fct (YB Tryz.prog 134) (some (.agg (List.replicate 2 (.int .u64 0)).toArray)):=⟨kr⟩
instance:Fct (YB Tryz.prog 137) (some (.agg #[.int .u64 0,.int .u64 0,.int .u64 0])):=⟨kr⟩
instance:Fct (YB Tryz.prog 141) (some (.agg #[.int .u64 0,.int .u64 0,.int .u64 0,.int .u64 0,.slice none 0 0,.slice none 0 0])):=⟨kr⟩
instance:Fct (YB Tryz.prog 142) (some (.agg #[.int .u64 0,.int .u64 0,.int .u64 0,.int .u64 0,.slice none 0 0,.slice none 0 0,.int .u64 0,.int .u64 0,.int .u64 0,.int .u64 0,.slice none 0 0,.slice none 0 0])):=⟨kr⟩
instance:Fct (YB Tryz.prog 172) (some (.pointer none)):=⟨kr⟩
instance:Fct (YB Tryz.prog 175) (some (.agg #[.string ⟨#[]⟩,.int .i64 0,.int .i64 0,.nilIface])):=⟨kr⟩
instance:Fct (YB Tryz.prog 201) (some (.agg #[.pointer none,.pointer none,.int .u64 0])):=⟨kr⟩
instance:Fct (YB Tryz.prog 218) (some (.agg #[.int .i64 0,.slice none 0 0,.slice none 0 0])):=⟨kr⟩
instance:Fct (YB Tryz.prog 230) (some (.agg #[.slice none 0 0,.slice none 0 0,.slice none 0 0])):=⟨kr⟩
instance:Fct (YB Tryz.prog 231) (some (.agg (List.replicate 5 (.int .u64 0)).toArray)):=⟨kr⟩
instance:Fct (YB Tryz.prog 233) (some (.agg (List.replicate 4 (.int .u64 0)).toArray)):=⟨kr⟩
instance:Fct (YB Tryz.prog 235) (some (.agg #[.int .u64 0,.int .u64 0,.int .u64 0,.int .u64 0,.bool false])):=⟨kr⟩
instance:Fct (YB Tryz.prog 238) (some (.agg #[.slice none 0 0,.pointer none,.int .i64 0,.int .i64 0])):=⟨kr⟩
instance:Fct (YB Tryz.prog 3) (some (.int .i64 0)):=⟨kr⟩
instance:Fct (YB Tryz.prog 32) (some (.agg (List.replicate 2 (.int .i64 0)).toArray)):=⟨kr⟩
instance:Fct (YB Tryz.prog 327) (some (.int .i64 0)):=⟨kr⟩
instance:Fct (YB Tryz.prog 329) (some (.agg #[.int .i64 0,.int .i64 0,.int .i64 0,.int .i64 0,.bool false,.bool false,.int .i64 0])):=⟨kr⟩
instance:Fct (YB Tryz.prog 334) (some (.agg #[.int .i64 0,.slice none 0 0,.slice none 0 0])):=⟨kr⟩
instance:Fct (YB Tryz.prog 336) (some (.agg (List.replicate 64 (.int .i64 0)).toArray)):=⟨kr⟩
instance:Fct (YB Tryz.prog 337) (some (.agg (List.replicate 128 (.int .i64 0)).toArray)):=⟨kr⟩
instance:Fct (YB Tryz.prog 345) (some (.agg #[.int .i64 0,.int .i64 0,.int .i64 0])):=⟨kr⟩
instance:Fct (YB Tryz.prog 35) (some (.agg #[.int .i64 0,.int .i64 0,.int .i64 0,.int .i64 0,.int .i64 0,.int .i64 0,.int .i64 0,.int .i64 0])):=⟨kr⟩
instance:Fct (YB Tryz.prog 39) (some (.agg #[.slice none 0 0,.int .i64 0,.int .i64 0,.slice none 0 0,.int .i64 0,.int .i64 0,.int .i64 0,.int .i64 0,.int .i64 0,.int .i64 0,.int .i64 0,.int .i64 0,.int .i64 0,.slice none 0 0,.slice none 0 0,.slice none 0 0])):=⟨kr⟩
instance:Fct (YB Tryz.prog 415) (some (.agg (List.replicate 16 (.int .u8 0)).toArray)):=⟨kr⟩
instance:Fct (YB Tryz.prog 456) (some (.agg (List.replicate 432 (.int .u8 0)).toArray)):=⟨kr⟩
instance:Fct (YB Tryz.prog 47) (some (.agg #[.bool false,.bool false,.bool false,.int .i64 0])):=⟨kr⟩
instance:Fct (YB Tryz.prog 479) (some (.agg (List.replicate 4 (.int .u8 0)).toArray)):=⟨kr⟩
instance:Fct (YB Tryz.prog 57) (some (.int .u64 0)):=⟨kr⟩
instance:Fct (YB Tryz.prog 58) (some (.agg (List.replicate 6 (.string ⟨#[]⟩)).toArray)):=⟨kr⟩
instance:Fct (YB Tryz.prog 61) (some (.agg (List.replicate 2 (.slice none 0 0)).toArray)):=⟨kr⟩
instance:Fct (YB Tryz.prog 64) (some (.agg (List.replicate 2 (.pointer none)).toArray)):=⟨kr⟩
instance:Fct (YB Tryz.prog 66) (some (.agg (List.replicate 2 (.pointer none)).toArray)):=⟨kr⟩
instance:Fit Tryz.prog 105 cH:=⟨aQ (by kernel_rfl) (by kernel_rfl)⟩
instance:Fit Tryz.prog 130 aB:=⟨bQ (by kernel_rfl) (by kernel_rfl)⟩
instance:Fit Tryz.prog 130 aB:=⟨⟨by kernel_rfl,.inr ⟨by kernel_rfl,fun _=>rfl⟩⟩⟩
instance:Fit Tryz.prog 134 aB:=⟨bQ (by kernel_rfl) (by kernel_rfl)⟩
instance:Fit Tryz.prog 137 aD:=⟨gX (by kernel_rfl) (by kernel_rfl)⟩
instance:Fit Tryz.prog 141 aC:=⟨fitsDr (by kernel_rfl) (by kernel_rfl)⟩
instance:Fit Tryz.prog 235 UC:=⟨ZP (by kernel_rfl) (by kernel_rfl)⟩
instance:Fit Tryz.prog 3 EI:=⟨jH (by kernel_rfl) (by kernel_rfl)⟩
instance:Fit Tryz.prog 327 EI:=⟨jH (by kernel_rfl) (by kernel_rfl)⟩
instance:Fit Tryz.prog 345 EG:=⟨fitsG (by kernel_rfl) (by kernel_rfl)⟩
instance:Fit Tryz.prog 49 EI:=⟨jH (by kernel_rfl) (by kernel_rfl)⟩
instance:Fit Tryz.prog 5 E8:=⟨fits8 (by kernel_rfl) (by kernel_rfl)⟩
instance:Fit Tryz.prog 57 E64:=⟨FG (by kernel_rfl) (by kernel_rfl)⟩
instance:ZerO Tryz.prog 105 (.cells #[i64 ((0:Int)),i64 ((0:Int)),i64 ((0:Int)),i64 ((0:Int)),u64 (0#64),i64 ((0:Int))] 105 (0,0)):=⟨_,(by kernel_rfl:YB Tryz.prog 105=some (.agg #[.int .i64 0,.int .i64 0,.int .i64 0,.int .i64 0,.int .u64 0,.int .i64 0])),by kernel_rfl⟩
instance:ZerO Tryz.prog 128 (.cells #[.slice none 0 0,.slice none 0 0] 128 (0,0)):=⟨_,(by kernel_rfl:YB Tryz.prog 128=some (.agg (List.replicate 2 (.slice none 0 0)).toArray)),by kernel_rfl⟩
instance:ZerO Tryz.prog 130 (.cells (xA E64 ([0#64,0#64])).toArray 130 (0,0)):=⟨_,(by kernel_rfl:YB Tryz.prog 130=some (.agg (List.replicate 2 (.int .u64 0)).toArray)),by kernel_rfl⟩
instance:ZerO Tryz.prog 134 (.cells (xA E64 ([0#64,0#64])).toArray 134 (0,0)):=⟨_,(by kernel_rfl:YB Tryz.prog 134=some (.agg (List.replicate 2 (.int .u64 0)).toArray)),by kernel_rfl⟩
instance:ZerO Tryz.prog 137 (.cells #[u64 (0#64),u64 (0#64),u64 (0#64)] 137 (0,0)):=⟨_,(by kernel_rfl:YB Tryz.prog 137=some (.agg #[.int .u64 0,.int .u64 0,.int .u64 0])),by kernel_rfl⟩
instance:ZerO Tryz.prog 172 (.cells #[.pointer none] 172 (0,0)):=⟨_,(by kernel_rfl:YB Tryz.prog 172=some (.pointer none)),by kernel_rfl⟩
instance:ZerO Tryz.prog 201 (.cells #[.pointer none,.pointer none,u64 (0#64)] 201 (0,0)):=⟨_,(by kernel_rfl:YB Tryz.prog 201=some (.agg #[.pointer none,.pointer none,.int .u64 0])),by kernel_rfl⟩
instance:ZerO Tryz.prog 218 (.cells #[i64 ((0:Int)),.slice none 0 0,.slice none 0 0] 218 (0,0)):=⟨_,(by kernel_rfl:YB Tryz.prog 218=some (.agg #[.int .i64 0,.slice none 0 0,.slice none 0 0])),by kernel_rfl⟩
instance:ZerO Tryz.prog 231 (.cells (xA E64 (List.replicate 5 0#64)).toArray 231 (0,0)):=⟨_,(by kernel_rfl:YB Tryz.prog 231=some (.agg (List.replicate 5 (.int .u64 0)).toArray)),by kernel_rfl⟩
instance:ZerO Tryz.prog 235 (.cells #[u64 (0#64),u64 (0#64),u64 (0#64),u64 (0#64),.bool (false)] 235 (0,0)):=⟨_,(by kernel_rfl:YB Tryz.prog 235=some (.agg #[.int .u64 0,.int .u64 0,.int .u64 0,.int .u64 0,.bool false])),by kernel_rfl⟩
instance:ZerO Tryz.prog 32 (.cells (xA EI ([0,0])).toArray 32 (0,0)):=⟨_,(by kernel_rfl:YB Tryz.prog 32=some (.agg (List.replicate 2 (.int .i64 0)).toArray)),by kernel_rfl⟩
instance:ZerO Tryz.prog 329 (.cells #[i64 ((0:Int)),i64 ((0:Int)),i64 ((0:Int)),i64 ((0:Int)),.bool (false),.bool (false),i64 ((0:Int))] 329 (0,0)):=⟨_,(by kernel_rfl:YB Tryz.prog 329=some (.agg #[.int .i64 0,.int .i64 0,.int .i64 0,.int .i64 0,.bool false,.bool false,.int .i64 0])),by kernel_rfl⟩
instance:ZerO Tryz.prog 336 (.cells (xA EI (List.replicate 64 0)).toArray 336 (0,0)):=⟨_,(by kernel_rfl:YB Tryz.prog 336=some (.agg (List.replicate 64 (.int .i64 0)).toArray)),by kernel_rfl⟩
instance:ZerO Tryz.prog 337 (.cells (xA EI (List.replicate 128 0)).toArray 337 (0,0)):=⟨_,(by kernel_rfl:YB Tryz.prog 337=some (.agg (List.replicate 128 (.int .i64 0)).toArray)),by kernel_rfl⟩
instance:ZerO Tryz.prog 345 (.cells #[i64 ((0:Int)),i64 ((0:Int)),i64 ((0:Int))] 345 (0,0)):=⟨_,(by kernel_rfl:YB Tryz.prog 345=some (.agg #[.int .i64 0,.int .i64 0,.int .i64 0])),by kernel_rfl⟩
instance:ZerO Tryz.prog 35 (.cells #[i64 ((0:Int)),i64 ((0:Int)),i64 ((0:Int)),i64 ((0:Int)),i64 ((0:Int)),i64 ((0:Int)),i64 ((0:Int)),i64 ((0:Int))] 35 (0,0)):=⟨_,(by kernel_rfl:YB Tryz.prog 35=some (.agg #[.int .i64 0,.int .i64 0,.int .i64 0,.int .i64 0,.int .i64 0,.int .i64 0,.int .i64 0,.int .i64 0])),by kernel_rfl⟩
instance:ZerO Tryz.prog 39 (.cells #[.slice none 0 0,i64 ((0:Int)),i64 ((0:Int)),.slice none 0 0,i64 ((0:Int)),i64 ((0:Int)),i64 ((0:Int)),i64 ((0:Int)),i64 ((0:Int)),i64 ((0:Int)),i64 ((0:Int)),i64 ((0:Int)),i64 ((0:Int)),.slice none 0 0,.slice none 0 0,.slice none 0 0] 39 (0,0)):=⟨_,(by kernel_rfl:YB Tryz.prog 39=some (.agg #[.slice none 0 0,.int .i64 0,.int .i64 0,.slice none 0 0,.int .i64 0,.int .i64 0,.int .i64 0,.int .i64 0,.int .i64 0,.int .i64 0,.int .i64 0,.int .i64 0,.int .i64 0,.slice none 0 0,.slice none 0 0,.slice none 0 0])),by kernel_rfl⟩
instance:ZerO Tryz.prog 415 (.cells (xA E8 (List.replicate 16 0#8)).toArray 415 (0,0)):=⟨_,(by kernel_rfl:YB Tryz.prog 415=some (.agg (List.replicate 16 (.int .u8 0)).toArray)),by kernel_rfl⟩
instance:ZerO Tryz.prog 479 (.cells (xA E8 ([0#8,0#8,0#8,0#8])).toArray 479 (0,0)):=⟨_,(by kernel_rfl:YB Tryz.prog 479=some (.agg (List.replicate 4 (.int .u8 0)).toArray)),by kernel_rfl⟩
instance:ZerO Tryz.prog 49 (.cells (xA EI ([0])).toArray 49 (0,0)):=⟨_,(by kernel_rfl:YB Tryz.prog 49=some (.int .i64 0)),by kernel_rfl⟩
instance:ZerO Tryz.prog 58 (.cells #[.string (⟨#[]⟩),.string (⟨#[]⟩),.string (⟨#[]⟩),.string (⟨#[]⟩),.string (⟨#[]⟩),.string (⟨#[]⟩)] 58 (0,0)):=⟨_,(by kernel_rfl:YB Tryz.prog 58=some (.agg (List.replicate 6 (.string ⟨#[]⟩)).toArray)),by kernel_rfl⟩
instance:ZerO Tryz.prog 61 (.cells #[.slice none 0 0,.slice none 0 0] 61 (0,0)):=⟨_,(by kernel_rfl:YB Tryz.prog 61=some (.agg (List.replicate 2 (.slice none 0 0)).toArray)),by kernel_rfl⟩
instance:ZerO Tryz.prog 64 (.cells #[.pointer none,.pointer none] 64 (0,0)):=⟨_,(by kernel_rfl:YB Tryz.prog 64=some (.agg (List.replicate 2 (.pointer none)).toArray)),by kernel_rfl⟩
instance:ZerO Tryz.prog 66 (.cells #[.pointer none,.pointer none] 66 (0,0)):=⟨_,(by kernel_rfl:YB Tryz.prog 66=some (.agg (List.replicate 2 (.pointer none)).toArray)),by kernel_rfl⟩
instance:ArrE _ Tryz.prog 130 E64:=⟨trivial⟩
instance:ArrE _ Tryz.prog 134 E64:=⟨trivial⟩
instance:ArrE _ Tryz.prog 231 E64:=⟨trivial⟩
instance:ArrE _ Tryz.prog 32 EI:=⟨trivial⟩
instance:ArrE _ Tryz.prog 336 EI:=⟨trivial⟩
instance:ArrE _ Tryz.prog 415 E8:=⟨trivial⟩
instance:ArrE _ Tryz.prog 454 E8:=⟨trivial⟩
instance:ArrE _ Tryz.prog 479 E8:=⟨trivial⟩
instance:Dft aB Gb.PA:=⟨trivial⟩
end Go.Proofs.YtljlkhobfdofhaaGreatDoor
namespace Go.Proofs.YtljlkhobfdofhaaGreatDoor.Vc
open Go
abbrev NB:=BitVec 64 × BitVec 64
abbrev pT (b:Nat):Value:=.pointer (some ⟨b,0,none⟩)
theorem vB {n m:Nat} (h:Nat.ble n m=true):n≤m:=Nat.le_of_ble_eq_true h
theorem sR {P:Program} {n:Nat} {Q:Exit→Act→World→Prop} {ρ:EA} {w:World} {id:Nat} {l:List Oper} {y:Code} (h:W P n l.toArray (Exit.then (y.wp P Q) Q) l ρ w):(Code.seq (.region id l.toArray false) y).wp P Q (St n ρ) w:=TI h
theorem gW {P:Program} {n:Nat} {ops:Array Oper} {ρ:EA} {o:Oper} {w:World} {S:Value→World→Prop} {d:Nat} (h:∀ Q':Exit→Act→World→Prop,(∀ u w',S u w'→W P n ops Q' [] (XA ρ (some d) u) w')→W P n ops Q' [o] ρ w) (hd:o.dst=some d:=by rfl) (hn:Nat.blt d n=true:=by rfl):Gives P n ops ρ o w S:=Gives.ofW hd hn h
theorem PE {P:Program} {n:Nat} {ops:Array Oper} {ρ:EA} {o:Oper} {w:World} {S:Value→World→Prop} (h:∀ Q':Exit→Act→World→Prop,(∀ w',(∀ u,S u w')→W P n ops Q' [] ρ w')→W P n ops Q' [o] ρ w) (hd:o.dst=none:=by rfl):Gives P n ops ρ o w S:=Gives.ofW0 hd h
theorem vd {a b:Nat} (h:a<b:=by first | omega | (dsimp only; omega)):a<b:=h
section
variable {M:Nat→Prop} {w₀ w:World} {L R:List RW}
theorem Hp.a1 (H:Hp M w₀ w L) {a0:RW} (e:L=[a0]):Hp M w₀ w [a0]:=e ▸ H
theorem Hp.b1 (H:Hp M w₀ w L) {a0:RW} (e:L=a0::R):Hp M w₀ w (a0::R):=e ▸ H
theorem Hp.a2 (H:Hp M w₀ w L) {a0 a1:RW} (e:L=[a0,a1]):Hp M w₀ w [a0,a1]:=e ▸ H
theorem Hp.b2 (H:Hp M w₀ w L) {a0 a1:RW} (e:L=a0::a1::R):Hp M w₀ w (a0::a1::R):=e ▸ H
theorem Hp.a3 (H:Hp M w₀ w L) {a0 a1 a2:RW} (e:L=[a0,a1,a2]):Hp M w₀ w [a0,a1,a2]:=e ▸ H
theorem Hp.a4 (H:Hp M w₀ w L) {a0 a1 a2 a3:RW} (e:L=[a0,a1,a2,a3]):Hp M w₀ w [a0,a1,a2,a3]:=e ▸ H
theorem Hp.b4 (H:Hp M w₀ w L) {a0 a1 a2 a3:RW} (e:L=a0::a1::a2::a3::R):Hp M w₀ w (a0::a1::a2::a3::R):=e ▸ H
theorem Hp.a5 (H:Hp M w₀ w L) {a0 a1 a2 a3 a4:RW} (e:L=[a0,a1,a2,a3,a4]):Hp M w₀ w [a0,a1,a2,a3,a4]:=e ▸ H
theorem Hp.a6 (H:Hp M w₀ w L) {a0 a1 a2 a3 a4 a5:RW} (e:L=[a0,a1,a2,a3,a4,a5]):Hp M w₀ w [a0,a1,a2,a3,a4,a5]:=e ▸ H
theorem Hp.b6 (H:Hp M w₀ w L) {a0 a1 a2 a3 a4 a5:RW} (e:L=a0::a1::a2::a3::a4::a5::R):Hp M w₀ w (a0::a1::a2::a3::a4::a5::R):=e ▸ H
theorem Hp.a7 (H:Hp M w₀ w L) {a0 a1 a2 a3 a4 a5 a6:RW} (e:L=[a0,a1,a2,a3,a4,a5,a6]):Hp M w₀ w [a0,a1,a2,a3,a4,a5,a6]:=e ▸ H
theorem Hp.b7 (H:Hp M w₀ w L) {a0 a1 a2 a3 a4 a5 a6:RW} (e:L=a0::a1::a2::a3::a4::a5::a6::R):Hp M w₀ w (a0::a1::a2::a3::a4::a5::a6::R):=e ▸ H
theorem Hp.a8 (H:Hp M w₀ w L) {a0 a1 a2 a3 a4 a5 a6 a7:RW} (e:L=[a0,a1,a2,a3,a4,a5,a6,a7]):Hp M w₀ w [a0,a1,a2,a3,a4,a5,a6,a7]:=e ▸ H
theorem Hp.b8 (H:Hp M w₀ w L) {a0 a1 a2 a3 a4 a5 a6 a7:RW} (e:L=a0::a1::a2::a3::a4::a5::a6::a7::R):Hp M w₀ w (a0::a1::a2::a3::a4::a5::a6::a7::R):=e ▸ H
theorem Hp.a10 (H:Hp M w₀ w L) {a0 a1 a2 a3 a4 a5 a6 a7 a8 a9:RW} (e:L=[a0,a1,a2,a3,a4,a5,a6,a7,a8,a9]):Hp M w₀ w [a0,a1,a2,a3,a4,a5,a6,a7,a8,a9]:=e ▸ H
theorem Hp.b10 (H:Hp M w₀ w L) {a0 a1 a2 a3 a4 a5 a6 a7 a8 a9:RW} (e:L=a0::a1::a2::a3::a4::a5::a6::a7::a8::a9::R):Hp M w₀ w (a0::a1::a2::a3::a4::a5::a6::a7::a8::a9::R):=e ▸ H
theorem Hp.a11 (H:Hp M w₀ w L) {a0 a1 a2 a3 a4 a5 a6 a7 a8 a9 a10:RW} (e:L=[a0,a1,a2,a3,a4,a5,a6,a7,a8,a9,a10]):Hp M w₀ w [a0,a1,a2,a3,a4,a5,a6,a7,a8,a9,a10]:=e ▸ H
theorem Hp.b12 (H:Hp M w₀ w L) {a0 a1 a2 a3 a4 a5 a6 a7 a8 a9 a10 a11:RW} (e:L=a0::a1::a2::a3::a4::a5::a6::a7::a8::a9::a10::a11::R):Hp M w₀ w (a0::a1::a2::a3::a4::a5::a6::a7::a8::a9::a10::a11::R):=e ▸ H
theorem Hp.a13 (H:Hp M w₀ w L) {a0 a1 a2 a3 a4 a5 a6 a7 a8 a9 a10 a11 a12:RW} (e:L=[a0,a1,a2,a3,a4,a5,a6,a7,a8,a9,a10,a11,a12]):Hp M w₀ w [a0,a1,a2,a3,a4,a5,a6,a7,a8,a9,a10,a11,a12]:=e ▸ H
theorem Hp.a14 (H:Hp M w₀ w L) {a0 a1 a2 a3 a4 a5 a6 a7 a8 a9 a10 a11 a12 a13:RW} (e:L=[a0,a1,a2,a3,a4,a5,a6,a7,a8,a9,a10,a11,a12,a13]):Hp M w₀ w [a0,a1,a2,a3,a4,a5,a6,a7,a8,a9,a10,a11,a12,a13]:=e ▸ H
theorem Hp.a15 (H:Hp M w₀ w L) {a0 a1 a2 a3 a4 a5 a6 a7 a8 a9 a10 a11 a12 a13 a14:RW} (e:L=[a0,a1,a2,a3,a4,a5,a6,a7,a8,a9,a10,a11,a12,a13,a14]):Hp M w₀ w [a0,a1,a2,a3,a4,a5,a6,a7,a8,a9,a10,a11,a12,a13,a14]:=e ▸ H
theorem Hp.a16 (H:Hp M w₀ w L) {a0 a1 a2 a3 a4 a5 a6 a7 a8 a9 a10 a11 a12 a13 a14 a15:RW} (e:L=[a0,a1,a2,a3,a4,a5,a6,a7,a8,a9,a10,a11,a12,a13,a14,a15]):Hp M w₀ w [a0,a1,a2,a3,a4,a5,a6,a7,a8,a9,a10,a11,a12,a13,a14,a15]:=e ▸ H
end
theorem MK {v:Value} (h:v.cells.toList.all (·.oneCell')=true):∀ u∈v.cells.toList,u.oneCell'=true:=fun u hu=>List.all_eq_true.1 h u hu
theorem sMv {P:Program} {n:Nat} {ops:Array Oper} {Q:Exit→Act→World→Prop} {ρ:EA} {w:World} {d:Option Nat} {x:Operand} {t:TypeId} {pos:String} {after:Array Edge} {rest:List Oper} (h:W P n ops Q rest (XA ρ d (ev n ρ x)) w):W P n ops Q (⟨d,.move x,t,pos,after,none⟩::rest) ρ w:=sq (NA rfl) h
theorem sAv {P:Program} {n:Nat} {ops:Array Oper} {Q:Exit→Act→World→Prop} {ρ:EA} {w:World} {d:Option Nat} {x:Operand} {t:TypeId} {pos:String} {after:Array Edge} {rest:List Oper} (h:W P n ops Q rest (XA ρ d (ev n ρ x)) w):W P n ops Q (⟨d,.assign x,t,pos,after,none⟩::rest) ρ w:=sq (MA rfl) h
abbrev iN (n:Nat):Value:=i64 (n:Int)
abbrev RA:Value:=.slice none 0 0
abbrev rC (b:Nat) (x:Array Value) (t:TypeId):RW:=(some b,.cells x t (0,0))
abbrev rX {α:Type} (b:Nat) (E:Enc α) (l:List α) (t:TypeId):RW:=(some b,.cells (xA E l).toArray t (0,0))
theorem wS {P:Program} {n:Nat} {ops:Array Oper} {Q:Exit→Act→World→Prop} {ρ:EA} {w:World} {id:Nat} {l:List Oper} {y:Code} (h:W P n l.toArray (Exit.then (y.wp P Q) Q) l ρ w):W P n ops (Exit.then ((Code.seq (.region id l.toArray false) y).wp P Q) Q) [] ρ w:=NI (TI h)
abbrev sO (k:Option Nat) (n c:Nat):Value:=.slice (CA k) n c
theorem mT {α:Type} {a b:α} {l:List α} (h:a∈l):a∈b::l:=List.mem_cons_of_mem _ h
theorem vF {α:Type} {a b:α} [h:Fct a b]:a=b:=h.h
abbrev Ca (f:Nat) (l:LV) (w:World) (R:Value→World→Prop):Prop:=Calls Tryz.prog f l.toArray w (tQ R)
theorem bT {p:Prop} {_:Decidable p} (h:p):Value.bool (decide p)=.bool true:=congrArg Value.bool (decide_eq_true h)
theorem bF {p:Prop} {_:Decidable p} (h:¬ p):Value.bool (decide p)=.bool false:=congrArg Value.bool (decide_eq_false h)
theorem Hp.lT {M:Nat→Prop} {w₀ w:World} {L:List RW} (H:Hp M w₀ w L) (i:Nat) {b:Nat} {o:Obj} (h:L[i]?=some (some b,o):=by rfl):b<w.heap.size:=H.lt (List.mem_of_getElem? h) rfl
theorem tA {a:Prop} (h:a):a∧True:=⟨h,trivial⟩
theorem tB {a b:Prop} (h:a) (k:b):a∧b∧True:=⟨h,k,trivial⟩
theorem zE {p:Prop} (h:p:=by (repeat (refine A_ (fun _ _ vh=>?_) ?_; · (repeat (first | replace vh:=And.right vh | refine Exists.elim vh fun _ vh=>?_)); (repeat (first | exact vh | exact vh.lft | replace vh:=vh.drop1)))); exact trivial):p:=h
theorem vo {p:Prop} (h:p:=by first | rfl | omega | (simp; omega)):p:=h
end Go.Proofs.YtljlkhobfdofhaaGreatDoor.Vc
