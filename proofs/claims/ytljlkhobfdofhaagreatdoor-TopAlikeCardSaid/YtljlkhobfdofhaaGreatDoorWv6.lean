/- What the claim has need of: RvE, RvB, RvF, RvG, RvH, RvI, RvJ. -/
import Derived.Test.YtljlkhobfdofhaaGreatDoorWv5
set_option linter.unusedVariables false
set_option maxHeartbeats 16000000
set_option maxRecDepth 20000
namespace Go.Proofs.YtljlkhobfdofhaaGreatDoor.Rv
open Go Vc
section
variable {α β R:Type}
noncomputable def mA (o:Option α) (k:α→Option β):Option β:=Option.rec none k o
noncomputable def KA (b:Bool) (x y:R):R:=Bool.rec y x b
noncomputable def LM (l:List α):Nat→Option α:=List.rec (fun _=>none) (fun a _ ih i=>Nat.rec (some a) (fun j _=>ih j) i) l
noncomputable def JO (l:List α):(List α→R)→R:=List.rec (fun k=>k []) (fun a _ ih k=>ih fun r=>k (a::r)) l
noncomputable def NG (l:List α) (m:List α):(List α→R)→R:=List.rec (fun k=>k m) (fun a _ ih k=>ih fun r=>k (a::r)) l
noncomputable def iR (v:α) (l:List α):Nat→(List α→R)→R:=List.rec (fun _ k=>k []) (fun a t ih i k=>Nat.rec (k (v::t)) (fun j _=>ih j fun r=>k (a::r)) i) l
noncomputable def yI (n:Nat):List α→List α:=Nat.rec (fun l=>l) (fun _ ih l=>ih (List.rec [] (fun _ t _=>t) l)) n
noncomputable def QH (l:List α):Nat→(List α→R)→R:=List.rec (fun _ k=>k []) (fun a t ih i k=>Nat.rec (k []) (fun j _=>ih j fun r=>k (a::r)) i) l
noncomputable def DC (l:List α):Nat:=List.rec 0 (fun _ _ ih=>Nat.succ ih) l
end
noncomputable def pg:Program:=Tryz.prog
abbrev Rs:=AV × Me
noncomputable def PT (k:IntKind):Nat:=IntKind.rec 128 32768 2147483648 9223372036854775808 256 65536 4294967296 18446744073709551616 k
noncomputable def sgn (k:IntKind):Bool:=IntKind.rec true true true true false false false false k
noncomputable def wr (k:IntKind) (x:Int):Int:=Int.rec (fun m=>KA (Nat.blt m (PT k)) (.ofNat m) (k.wrap (.ofNat m))) (fun m=>KA (sgn k) (KA (Nat.blt m (PT k)) (.negSucc m) (k.wrap (.negSucc m))) (k.wrap (.negSucc m))) x
noncomputable def addI (a b:Int):Int:=Int.rec (fun m=>Int.rec (fun n=>.ofNat (Nat.add m n)) (fun n=>a+b) b) (fun m=>a+b) a
noncomputable def AY (a b:Int):Int:=Int.rec (fun m=>Int.rec (fun n=>KA (Nat.ble n m) (.ofNat (Nat.sub m n)) (a-b)) (fun n=>a-b) b) (fun m=>a-b) a
noncomputable def mulI (a b:Int):Int:=Int.rec (fun m=>Int.rec (fun n=>.ofNat (Nat.mul m n)) (fun n=>a*b) b) (fun m=>a*b) a
noncomputable def ST (a b:Int):Bool:=Int.rec (fun m=>Int.rec (fun n=>Nat.beq m n) (fun n=>false) b) (fun m=>Int.rec (fun n=>false) (fun n=>Nat.beq m n) b) a
noncomputable def sW (a b:Int):Bool:=Int.rec (fun m=>Int.rec (fun n=>Nat.blt m n) (fun n=>false) b) (fun m=>Int.rec (fun n=>true) (fun n=>Nat.blt n m) b) a
noncomputable def SF (b:Bool):Bool:=KA b false true
noncomputable def bW (x:Int):Option Nat:=Int.rec some (fun _=>none) x
noncomputable def qR (k:IntKind):Nat:=IntKind.rec 0 1 2 3 4 5 6 7 k
noncomputable def ofC:Value→Option AV
 | .bool b=>some (.bool b)
 | .int k x=>some (.int k x)
 | .string s=>some (.str s.data.toList)
 | .pointer none=>some (.pv (.pointer none))
 | .slice none 0 0=>some (.pv (.slice none 0 0))
 | .map none=>some (.pv (.map none))
 | .nilFunc=>some (.pv .nilFunc)
 | .nilIface=>some (.pv .nilIface)
 | _=>none
structure En where
 m:Nat
 L:List (Nat × AV)
 F:Fr
noncomputable def tst (m t:Nat):Bool:=Nat.beq (Nat.land (Nat.shiftRight m t) 1) 1
noncomputable def NX (t:Nat) (L:List (Nat × AV)):Option AV:=List.rec none (fun p _ ih=>Bool.rec ih (some p.2) (Nat.beq p.1 t)) L
noncomputable def fF (t:Nat) (E:En):Option AV:=Bool.rec (NX t E.L) (pG (RN t) E.F) (tst E.m t)
noncomputable def zD (x:Operand):En→Option AV:=Operand.rec fF (fun v _=>ofC v) (fun _ _=>none) (fun f _=>some (.fn f [])) x
noncomputable def pH (T:TypeId):Nat:=match pg.underlying T with
 | some .string=>1
 | some (.slice _)=>2
 | some (.map _ _)=>3
 | some (.interface _)=>4
 | some (.pointer _)=>5
 | some .bool=>6
 | _=>0
noncomputable def UZ (T:TypeId):Option (TypeId × Bool):=match pg.underlying T with
 | some (.map k e)=>match pg.underlying k with
  | some .string=>some (e,true)
  | some (.int _)=>some (e,false)
  | _=>none
 | _=>none
noncomputable def VT (T:TypeId):Option (List AV):=match YB pg T with
 | some z=>z.cells.toList.mapM ofC
 | none=>none
noncomputable def plcs (T:TypeId):Option (List (Nat × Nat)):=match TN pg T with
 | some l=>some l.toList
 | none=>match UD pg T with
  | some (m,z)=>some ((List.range m).map fun i=>(i*z,z))
  | none=>none
noncomputable def vS (T:TypeId):Option (Nat × Nat × List AV):=mA (qD pg T) fun p=>mA (BI pg p.1) fun b=>mA (VT p.1) fun c=>KA (Nat.beq (DC c) p.2) (KA (Nat.beq p.2 0) none (some (p.2,b,c))) none
inductive CT
 | i (k:IntKind) | s | b | x
noncomputable def dG (S T:TypeId):CT:=match pg.underlying S,pg.underlying T with
 | some _,some (.int k)=>.i k
 | some _,some .string=>.s
 | some .string,some (.slice e)=>match pg.underlying e with
  | some (.int .u8)=>.b
  | _=>.x
 | _,_=>.x
noncomputable def methF (T:TypeId) (m:String):Option (FuncId × Option TypeId):=mA (pg.info? T) fun i=>mA (i.methods.find? fun q=>q.name == m) fun q=>KA q.path.isEmpty (mA q.func fun p=>match pg.underlying T with
 | some (.pointer e)=>some (p.1,KA p.2 none (some e))
 | some _=>KA p.2 none (some (p.1,none))
 | none=>none) none
abbrev B2:=IntKind→Int→Int→Option AV
noncomputable def bAdd:B2:=fun k a b=>some (.int k (wr k (addI a b)))
noncomputable def bSub:B2:=fun k a b=>some (.int k (wr k (AY a b)))
noncomputable def bMul:B2:=fun k a b=>some (.int k (wr k (mulI a b)))
noncomputable def bQuo:B2:=fun k a b=>KA (ST b 0) none (some (.int k (wr k (a.tdiv b))))
noncomputable def bRem:B2:=fun k a b=>KA (ST b 0) none (some (.int k (a.tmod b)))
noncomputable def bAnd:B2:=fun k a b=>some (.int k (k.wrap (BitVec.ofInt k.bits a&&&BitVec.ofInt k.bits b).toNat))
noncomputable def bOr:B2:=fun k a b=>some (.int k (k.wrap (BitVec.ofInt k.bits a ||| BitVec.ofInt k.bits b).toNat))
noncomputable def bXor:B2:=fun k a b=>some (.int k (k.wrap (BitVec.ofInt k.bits a^^^BitVec.ofInt k.bits b).toNat))
noncomputable def bAndN:B2:=fun k a b=>some (.int k (k.wrap (BitVec.ofInt k.bits a&&&~~~(BitVec.ofInt k.bits b)).toNat))
noncomputable def bShl:B2:=fun k a b=>KA (sW b 0) none (some (.int k (k.wrap (a*2 ^ (min b.toNat k.bits)))))
noncomputable def bShr:B2:=fun k a b=>KA (sW b 0) none (some (.int k (a.fdiv (2 ^ (min b.toNat k.bits)))))
noncomputable def bEql:B2:=fun k a b=>some (.bool (ST a b))
noncomputable def bNeq:B2:=fun k a b=>some (.bool (SF (ST a b)))
noncomputable def bLss:B2:=fun k a b=>some (.bool (sW a b))
noncomputable def bLeq:B2:=fun k a b=>some (.bool (SF (sW b a)))
noncomputable def bGtr:B2:=fun k a b=>some (.bool (sW b a))
noncomputable def bGeq:B2:=fun k a b=>some (.bool (SF (sW a b)))
noncomputable def ib (op:BinOp):B2:=BinOp.rec bAdd bSub bMul bQuo bRem bAnd bOr bXor bShl bShr bAndN bEql bNeq bLss bLeq bGtr bGeq op
noncomputable def LX (l:List UInt8):List UInt8→Bool:=List.rec (fun m=>List.rec true (fun _ _ _=>false) m) (fun a _ ih m=>List.rec false (fun b m _=>KA (Nat.beq a.toNat b.toNat) (ih m) false) m) l
noncomputable def nil? (v:AV):Option Bool:=Tag.rec (some true) none none none (some false) (some false) none none (some false) (some false) none none (some false) (some false) none v.tag
noncomputable def eqOp (op:BinOp):Bool→Option AV:=BinOp.rec (fun _=>none) (fun _=>none) (fun _=>none) (fun _=>none) (fun _=>none) (fun _=>none) (fun _=>none) (fun _=>none) (fun _=>none) (fun _=>none) (fun _=>none) (fun b=>some (.bool b)) (fun b=>some (.bool (SF b))) (fun _=>none) (fun _=>none) (fun _=>none) (fun _=>none) op
noncomputable def shB (op:BinOp):Bool:=BinOp.rec false false false false false false false false true true false false false false false false false op
noncomputable def binI (op:BinOp) (T:TypeId) (u v:AV):Option AV:=mA u.int? fun a=>mA v.int? fun b=>KA (KA (shB op) true (Nat.beq (qR a.1) (qR b.1))) (ib op a.1 a.2 b.2) none
noncomputable def binB (op:BinOp) (T:TypeId) (u v:AV):Option AV:=mA u.bool? fun a=>mA v.bool? fun b=>KA (Nat.beq (pH T) 6) (eqOp op (KA a b (SF b))) none
noncomputable def uN (u v:AV):Option AV:=mA u.str? fun a=>mA v.str? fun b=>KA (Nat.ble (Nat.add (DC a) (DC b)) 1000000) (NG a b fun l=>some (.str l)) none
noncomputable def qG (op:BinOp) (u v:AV):Option AV:=mA u.str? fun a=>mA v.str? fun b=>eqOp op (LX a b)
noncomputable def binS (op:BinOp) (T:TypeId) (u v:AV):Option AV:=BinOp.rec uN (qG .sub) (qG .sub) (qG .sub) (qG .sub) (qG .sub) (qG .sub) (qG .sub) (qG .sub) (qG .sub) (qG .sub) (qG .eql) (qG .neq) (qG .sub) (qG .sub) (qG .sub) (qG .sub) op u v
noncomputable def nilC (T:TypeId) (cs:Bool) (u:AV) (p:Value):Option Bool:=match p with
 | .nilIface=>KA (Nat.beq (pH T) 4) (Option.rec (mA u.iface? fun _=>some false) (fun q=>match q with
  | .nilIface=>KA cs (some true) none
  | _=>none) u.pv?) none
 | .slice none 0 0=>KA (Nat.beq (pH T) 2) (Option.rec (mA u.sl? fun _=>some false) (fun q=>match q with
  | .slice none 0 0=>some true
  | _=>none) u.pv?) none
 | .pointer none=>KA (Nat.beq (pH T) 5) (Option.rec (Option.rec (mA u.fp? fun _=>some false) (fun _=>some false) u.ptr?) (fun q=>match q with
  | .pointer none=>some true
  | _=>none) u.pv?) none
 | _=>none
noncomputable def AT (op:BinOp) (T:TypeId) (cs:Bool) (u v:AV):Option AV:=mA v.pv? fun p=>mA (nilC T cs u p) (eqOp op)
noncomputable def mQ (op:BinOp) (T:TypeId) (cs:Bool) (u v:AV):Option AV:=none
noncomputable def bin (op:BinOp) (T:TypeId) (cs:Bool) (u v:AV):Option AV:=Tag.rec AT (fun op T _=>binI op T) (fun op T _=>binB op T) (fun op T _=>binS op T) AT AT mQ mQ AT AT mQ mQ mQ mQ mQ u.tag op T cs u v
noncomputable def unO (op:UnOp) (u:AV):Option AV:=UnOp.rec (mA u.int? fun a=>some (.int a.1 (wr a.1 (AY 0 a.2)))) none (mA u.bool? fun b=>some (.bool (SF b))) none op
noncomputable def conI (v:AV) (c:CT):Option AV:=mA v.int? fun a=>CT.rec (fun k=>some (.int k (wr k a.2))) (mA (bW a.2) fun m=>KA (Nat.blt m 128) (some (.str [UInt8.ofNat m])) none) none none c
noncomputable def conS (v:AV) (c:CT):Option AV:=mA v.str? fun l=>CT.rec (fun _=>none) (some (.str l)) none none c
noncomputable def pJ (v:AV) (c:CT):Option AV:=none
noncomputable def conv (v:AV) (c:CT):Option AV:=Tag.rec pJ conI pJ conS pJ pJ pJ pJ pJ pJ pJ pJ pJ pJ pJ v.tag v c
noncomputable def yF (T:TypeId) (l:List AV) (off:Nat):Option AV:=KA (QA pg T) (LM l off)
 (KA (SA pg T) (mA (ZB pg T) fun s=>KA (Nat.ble 1 s) (KA (Nat.ble (Nat.add off s) (DC l)) (QH (yI off l) s fun l=>some (.agg l)) none) none) none)
noncomputable def obj (A:T8 AO) (id:Pa):Option (Nat × List (List AV)):=mA (get id A) fun o=>AO.rec (fun z g=>some (z,g)) (fun _=>none) none o
noncomputable def grp (A:T8 AO) (id:Pa):Option (List (List AV)):=mA (get id A) fun o=>AO.rec (fun z g=>some g) (fun _=>none) none o
noncomputable def mpo (A:T8 AO) (id:Pa):Option (List (Value × AV)):=mA (get id A) fun o=>AO.rec (fun z g=>none) some none o
noncomputable def loadF (T:TypeId) (v:AV):Option AV:=mA v.fp? fun l=>yF T l 0
noncomputable def load (T:TypeId) (A:T8 AO) (v:AV):Option AV:=Option.rec (loadF T v) (fun p=>mA (grp A p.1) fun g=>mA (LM g p.2.1) fun l=>yF T l p.2.2) v.ptr?
noncomputable def lX (S:TypeId) (f:Nat) (v:AV):Option AV:=mA (mC pg S f) fun q=>KA (Nat.beq q.2.1 0) none (Option.rec (mA v.fp? fun l=>some (.fp (yI q.1 l))) (fun p=>some (.ptr p.1 p.2.1 (Nat.add p.2.2 q.1))) v.ptr?)
noncomputable def PR (v:AV):Option Nat:=mA v.int? fun a=>bW a.2
noncomputable def ixS (v:AV) (T:TypeId) (j:Nat):Option AV:=mA v.sl? fun p=>mA (qD pg T) fun q=>KA (Nat.beq q.2 p.2.2.2) (KA (Nat.blt j p.2.2.1) (some (.ptr p.1 (Nat.add p.2.1 j) 0)) none) none
noncomputable def ixP (v:AV) (T:TypeId) (j:Nat):Option AV:=mA v.ptr? fun q=>mA (UD pg T) fun p=>KA (Nat.blt j p.1) (some (.ptr q.1 q.2.1 (Nat.add q.2.2 (Nat.mul j p.2)))) none
noncomputable def ixL (v:AV) (T:TypeId) (j:Nat):Option AV:=mA v.lst? fun l=>mA (qD pg T) fun q=>KA (Nat.beq q.2 l.1) (mA (LM l.2 j) fun c=>some (.fp c)) none
noncomputable def QT (v:AV) (T:TypeId) (j:Nat):Option AV:=none
noncomputable def idxA (T:TypeId) (v:AV) (j:Nat):Option AV:=Tag.rec QT QT QT QT ixP ixS QT ixL QT QT QT QT QT QT QT v.tag v T j
noncomputable def arr1 (T:TypeId):Option Nat:=match pg.underlying T with
 | some (.array m e)=>KA (QA pg e) (mA (ZB pg e) fun z=>KA (Nat.beq z 1) (some m) none) none
 | _=>none
noncomputable def idx (T:TypeId) (v:AV) (j:Nat):Option AV:=Option.rec (mA v.agg? fun l=>mA (arr1 T) fun m=>KA (Nat.blt j m) (LM l j) none) (fun l=>KA (Nat.beq (pH T) 1) (mA (LM l j) fun b=>some (.int .u8 (.ofNat b.toNat))) none) v.str?
noncomputable def lnX (T:TypeId) (A:T8 AO) (v:AV):Option Nat:=none
noncomputable def lnI (T:TypeId) (A:T8 AO) (v:AV):Option Nat:=KA (Nat.beq (pH T) 1) (mA v.str? fun l=>some (DC l)) none
noncomputable def lnS (T:TypeId) (A:T8 AO) (v:AV):Option Nat:=KA (Nat.beq (pH T) 2) (mA v.sl? fun p=>some p.2.2.1) none
noncomputable def lnE (T:TypeId) (A:T8 AO) (v:AV):Option Nat:=KA (Nat.beq (pH T) 2) (some 0) none
noncomputable def lnL (T:TypeId) (A:T8 AO) (v:AV):Option Nat:=KA (Nat.beq (pH T) 2) (mA v.lst? fun l=>some (DC l.2)) none
noncomputable def fJ (v:AV):Bool:=Option.rec false (fun p=>match p with
 | .slice none 0 0=>true
 | _=>false) v.pv?
noncomputable def lnV (T:TypeId) (A:T8 AO) (v:AV):Option Nat:=KA (fJ v) (lnE T A v) none
noncomputable def lnM (T:TypeId) (A:T8 AO) (v:AV):Option Nat:=KA (Nat.beq (pH T) 3) (mA v.map? fun id=>mA (mpo A id) fun l=>some (DC l)) none
noncomputable def VM (T:TypeId) (A:T8 AO) (v:AV):Option Nat:=Tag.rec lnV lnX lnX lnI lnX lnS lnE lnL lnX lnX lnX lnX lnX lnM lnX v.tag T A v
noncomputable def CV (F:En) (d:Nat) (o:Option Operand):Option Nat:=Option.rec (some d) (fun x=>mA (zD x F) PR) o
noncomputable def slI (v:AV) (T:TypeId) (l h:Nat):Option AV:=mA v.str? fun s=>KA (Nat.beq (pH T) 1) (KA (Nat.ble h (DC s)) (QH (yI l s) (Nat.sub h l) fun s=>some (.str s)) none) none
noncomputable def slS (v:AV) (T:TypeId) (l h:Nat):Option AV:=mA v.sl? fun p=>mA (qD pg T) fun q=>KA (Nat.beq q.2 p.2.2.2) (KA (Nat.ble h p.2.2.1) (KA (Nat.blt l h) (some (.sl p.1 (Nat.add p.2.1 l) (Nat.sub h l) p.2.2.2)) (KA (Nat.beq l 0) (some (.sl p.1 p.2.1 0 p.2.2.2)) none)) none) none
noncomputable def xS (v:AV) (T:TypeId) (l h:Nat):Option AV:=none
noncomputable def slc (v:AV) (T:TypeId) (l h:Nat):Option AV:=KA (Nat.ble l h) (Tag.rec xS xS xS slI xS slS xS xS xS xS xS xS xS xS xS v.tag v T l h) none
noncomputable def uI (a:AV) (k:Value):Option Bool:=match k with
 | .int kk y=>mA a.int? fun p=>KA (Nat.beq (qR p.1) (qR kk)) (some (ST p.2 y)) none
 | .string s=>mA a.str? fun l=>some (LX l s.data.toList)
 | _=>none
noncomputable def kR (a:AV) (l:List (Value × AV)):Option (Option AV):=List.rec (some none) (fun p _ ih=>mA (uI a p.1) fun b=>KA b (some (some p.2)) ih) l
noncomputable def rR (a:AV):Option Value:=Option.rec (mA a.int? fun p=>some (.int p.1 p.2)) (fun l=>some (.string ⟨⟨l⟩⟩)) a.str?
noncomputable def fH (a:AV) (key:Value) (v:AV) (l:List (Value × AV)):List (Value × AV):=List.rec [] (fun p t ih=>Option.rec (p::ih) (fun b=>KA b ((key,v)::t) (p::ih)) (uI a p.1)) l
noncomputable def zerV (T:TypeId):Option AV:=mA (YB pg T) ofC
noncomputable def VQ {R:Type} (off:Nat) (m l:List AV) (k:List AV→Option R):Option R:=KA (Nat.ble (Nat.add off (DC m)) (DC l)) (QH l off fun a=>NG m (yI (Nat.add off (DC m)) l) fun b=>NG a b k) none
noncomputable def evL (F:En) (l:List Operand):Option (List AV):=List.rec (some []) (fun x _ ih=>mA (zD x F) fun v=>mA ih fun r=>some (v::r)) l
noncomputable def jX (F:En) (pl:List (Nat × Nat)) (ps:List (Nat × Operand)):List AV→Option (List AV):=List.rec some (fun p _ ih z=>mA (LM pl p.1) fun q=>mA (zD p.2 F) fun v=>mA v.cells fun c=>KA (Nat.beq (DC c) q.2) (VQ q.1 c z ih) none) ps
noncomputable def kX (F:En) (z:Nat) (ps:List (Nat × Operand)):List (List AV)→Option (List (List AV)):=List.rec some (fun p _ ih g=>mA (zD p.2 F) fun v=>mA v.cells fun c=>KA (Nat.beq (DC c) z) (KA (Nat.blt p.1 (DC g)) (JO c fun c=>iR c g p.1 ih) none) none) ps
section
noncomputable def EJ (d:D) (c k:D→Option Rs):Option Rs:=D.rec (k .d1) (k .d2) (k .d3) (c .d0) d
noncomputable def kT (p:P4) (c k:P4→Option Rs):Option Rs:=EJ p.d (fun z=>EJ p.c (fun y=>EJ p.b (fun x=>EJ p.a (fun w=>c ⟨w,x,y,z⟩) fun w=>k ⟨w,x,y,z⟩) fun x=>k ⟨p.a,x,y,z⟩) fun y=>k ⟨p.a,p.b,y,z⟩) fun z=>k ⟨p.a,p.b,p.c,z⟩
noncomputable def incK (p:Pa) (k:Pa→Option Rs):Option Rs:=kT p.b (fun y=>kT p.a (fun x=>k ⟨x,y⟩) fun x=>k ⟨x,y⟩) fun y=>k ⟨p.a,y⟩
abbrev Kn:=AV→Me→Option Rs
noncomputable def gJ (M:Me) (o:AO) (k:Kn) (f:Pa→AV):Option Rs:=Option.rec (RI M.nx M.t (some o) fun t=>incK M.nx fun q=>k (f M.nx) ⟨t,q⟩) (fun _=>none) (get M.nx M.t)
noncomputable def sJ (M:Me) (id:Pa) (o:AO) (k:Me→Option Rs):Option Rs:=RI id M.t (some o) fun t=>k ⟨t,M.nx⟩
noncomputable def gpS (z:Nat) (A:T8 AO) (v:AV):Option (List (List AV)):=mA v.sl? fun p=>KA (Nat.beq p.2.2.2 z) (mA (grp A p.1) fun g=>KA (Nat.ble (Nat.add p.2.1 p.2.2.1) (DC g)) (QH (yI p.2.1 g) p.2.2.1 some) none) none
noncomputable def gpL (z:Nat) (A:T8 AO) (v:AV):Option (List (List AV)):=mA v.lst? fun l=>KA (Nat.beq l.1 z) (some l.2) none
noncomputable def gpN (z:Nat) (A:T8 AO) (v:AV):Option (List (List AV)):=KA (fJ v) (some []) none
noncomputable def gpE (z:Nat) (A:T8 AO) (v:AV):Option (List (List AV)):=some []
noncomputable def MW (z:Nat) (A:T8 AO) (v:AV):Option (List (List AV)):=none
noncomputable def dC (z:Nat) (A:T8 AO) (v:AV):Option (List (List AV)):=Tag.rec gpN MW MW MW MW gpS gpE gpL MW MW MW MW MW MW MW v.tag z A v
noncomputable def zM (m b:Nat):Bool:=KA (Nat.ble m 1000000) (Nat.ble b 1000000) false
noncomputable def appS (M:Me) (p:Pa × Nat × Nat × Nat) (b z:Nat) (m:List (List AV)) (k:Kn):Option Rs:=mA (grp M.t p.1) fun g=>KA (Nat.beq p.2.2.2 z) (KA (Nat.ble (Nat.add p.2.1 p.2.2.1) (DC g)) (KA (zM (Nat.add p.2.2.1 (DC m)) b)
 (QH (yI p.2.1 g) p.2.2.1 fun g=>NG g m fun g'=>RI p.1 M.t (some .dead) fun t=>gJ ⟨t,M.nx⟩ (.cells z g') k fun q=>.sl q 0 (Nat.add p.2.2.1 (DC m)) z) none) none) none
noncomputable def appN (M:Me) (a:AV) (b z:Nat) (m:List (List AV)) (k:Kn):Option Rs:=KA (KA (fJ a) true (Tag.rec false false false false false false true false false false false false false false false a.tag)) (KA (zM (DC m) b) (gJ M (.cells z m) k fun q=>.sl q 0 (DC m) z) none) none
noncomputable def isSl (a:AV):Bool:=KA (fJ a) true (Tag.rec false false false false false true true false false false false false false false false a.tag)
noncomputable def appK (M:Me) (a:AV) (b z:Nat) (m:List (List AV)) (k:Kn):Option Rs:=List.rec (KA (isSl a) (k a M) none) (fun _ _ _=>Option.rec (appN M a b z m k) (fun s=>appS M s b z m k) a.sl?) m
abbrev Cl:=FuncId→List AV→Me→Kn→Option Rs
abbrev Sm:=Cl→En→Me→Kn→Option Rs
noncomputable def UL (x:Operand):Sm:=fun _ F M k=>mA (zD x F) fun v=>k v M
noncomputable def aO (c a b:Operand):Sm:=fun _ F M k=>mA (zD c F) fun u=>mA u.bool? fun t=>mA (KA t (zD a F) (zD b F)) fun v=>k v M
noncomputable def QP (T:TypeId):Sm:=fun _ F M k=>mA (VT T) fun z=>gJ M (.cells (DC z) [z]) k fun q=>.ptr q 0 0
noncomputable def oBox (x:Operand):Sm:=fun _ F M k=>mA (zD x F) fun v=>mA v.cells fun c=>JO c fun z=>gJ M (.cells (DC z) [z]) k fun q=>.ptr q 0 0
noncomputable def PK (T:TypeId) (ps:Array (Nat × Operand)):Sm:=fun _ F M k=>mA (VT T) fun z=>mA (plcs T) fun pl=>mA (jX F pl ps.toList z) fun l=>k (.agg l) M
noncomputable def oBsl (T:TypeId) (m:Nat) (ps:Array (Nat × Operand)):Sm:=fun _ F M k=>mA (vS T) fun p=>KA (Nat.ble (Nat.mul m p.1) 16777216) (mA (kX F p.1 ps.toList (List.replicate m p.2.2)) fun g=>gJ M (.cells p.1 g) k fun q=>.sl q 0 m p.1) none
noncomputable def bO (T:TypeId) (x:Operand):Sm:=fun _ F M k=>mA (zD x F) fun v=>mA (load T M.t v) fun v=>k v M
noncomputable def SV (T:TypeId) (x y:Operand):Sm:=fun _ F M k=>mA (zD x F) fun a=>mA (zD y F) fun v=>mA a.ptr? fun p=>mA (obj M.t p.1) fun o=>mA (LM o.2 p.2.1) fun l=>mA v.cells fun c=>mA (ZB pg T) fun s=>KA (Nat.beq (DC c) s) (VQ p.2.2 c l fun l'=>iR l' o.2 p.2.1 fun g'=>sJ M p.1 (.cells o.1 g') fun M=>k .un M) none
noncomputable def TV (x:Operand):Sm:=fun _ F M k=>mA (zD x F) fun v=>mA (nil? v) fun b=>KA b none (k v M)
noncomputable def cst (x:Operand):Bool:=Operand.rec (fun _=>false) (fun _=>true) (fun _=>false) (fun _=>false) x
noncomputable def ZV (op:BinOp) (T:TypeId) (x y:Operand):Sm:=fun _ F M k=>mA (zD x F) fun a=>mA (zD y F) fun b=>mA (bin op T (cst y) a b) fun v=>k v M
noncomputable def oUn (op:UnOp) (x:Operand):Sm:=fun _ F M k=>mA (zD x F) fun a=>mA (unO op a) fun v=>k v M
noncomputable def SS (x:Operand):Sm:=fun _ F M k=>mA (zD x F) fun a=>mA a.str? fun l=>JO (l.map fun b=>[AV.int .u8 (.ofNat b.toNat)]) fun g=>k (.lst 1 g) M
noncomputable def cO (x:Operand) (c:CT):Sm:=fun _ F M k=>mA (zD x F) fun a=>mA (conv a c) fun v=>k v M
noncomputable def kI (S T:TypeId) (x:Operand):Sm:=CT.rec (fun i=>cO x (.i i)) (cO x .s) (SS x) (cO x .x) (dG S T)
noncomputable def UV (T:TypeId) (x:Operand):Sm:=fun _ F M k=>mA (zD x F) fun a=>KA (Nat.beq (pH T) 4) none (mA (pg.underlying T) fun _=>k (.iface T a) M)
noncomputable def RS (f:Fn) (c:Array Operand):Sm:=fun _ F M k=>match f with
 | .func f=>mA (evL F c.toList) fun l=>k (.fn f l) M
 | _=>none
noncomputable def oMkM (r:Option Operand):Sm:=Option.rec (fun _ F M k=>gJ M (.mp []) k .map) (fun _ _ _ _ _=>none) r
noncomputable def oMkS (T:TypeId) (x y:Operand):Sm:=fun _ F M k=>mA (vS T) fun p=>mA (zD x F) fun v=>mA (PR v) fun m=>mA (zD y F) fun w=>mA (PR w) fun n=>KA (Nat.beq m n) (KA (zM m p.2.1) (JO (List.replicate m p.2.2) fun g=>gJ M (.cells p.1 g) k fun q=>.sl q 0 m p.1) none) none
noncomputable def oSli (T:TypeId) (x:Operand) (lo hi mx:Option Operand):Sm:=fun _ F M k=>Option.rec (mA (zD x F) fun v=>mA (CV F 0 lo) fun l=>mA (Option.rec (VM T M.t v) (fun y=>mA (zD y F) PR) hi) fun h=>mA (slc v T l h) fun v=>k v M) (fun _=>none) mx
noncomputable def XV (S:TypeId) (x:Operand) (f:Nat):Sm:=fun _ F M k=>mA (zD x F) fun v=>mA (lX S f v) fun v=>k v M
noncomputable def WV (S:TypeId) (x:Operand) (f:Nat):Sm:=fun _ F M k=>mA (zD x F) fun v=>mA v.agg? fun l=>mA (mC pg S f) fun p=>mA (yF p.2.2 l p.1) fun v=>k v M
noncomputable def VV (T:TypeId) (x y:Operand):Sm:=fun _ F M k=>mA (zD x F) fun v=>mA (zD y F) fun u=>mA (PR u) fun j=>mA (idxA T v j) fun v=>k v M
noncomputable def oIx (T:TypeId) (x y:Operand):Sm:=fun _ F M k=>mA (zD x F) fun v=>mA (zD y F) fun u=>mA (PR u) fun j=>mA (idx T v j) fun v=>k v M
noncomputable def okV (ok:Bool) (v:AV) (b:Bool):AV:=KA ok (.tup [v,.bool b]) v
noncomputable def keyT (u:AV) (b:Bool):Bool:=Option.rec (SF b) (fun _=>b) u.str?
noncomputable def PP (T:TypeId) (x y:Operand) (ok:Bool):Sm:=fun _ F M k=>mA (zD x F) fun v=>mA (zD y F) fun u=>mA v.map? fun id=>mA (mpo M.t id) fun l=>mA (rR u) fun _=>mA (UZ T) fun e=>KA (keyT u e.2) (mA (kR u l) fun q=>Option.rec (mA (zerV e.1) fun v=>k (okV ok v false) M) (fun v=>k (okV ok v true) M) q) none
noncomputable def oMup (T:TypeId) (x y z:Operand):Sm:=fun _ F M k=>mA (zD x F) fun v=>mA (zD y F) fun u=>mA (zD z F) fun a=>mA v.map? fun id=>mA (mpo M.t id) fun l=>mA (rR u) fun key=>mA (UZ T) fun e=>KA (keyT u e.2) (mA (kR u l) fun q=>Option.rec (NG l [(key,a)] fun l=>sJ M id (.mp l) fun M=>k .un M)
  (fun _=>JO (fH u key a l) fun l=>sJ M id (.mp l) fun M=>k .un M) q) none
noncomputable def YV (x:Operand) (i:Nat):Sm:=fun _ F M k=>mA (zD x F) fun v=>mA v.tup? fun l=>mA (LM l i) fun v=>k v M
noncomputable def RV (x:Operand) (T:TypeId) (ok:Bool):Sm:=fun _ F M k=>mA (zD x F) fun v=>mA v.iface? fun p=>KA (Nat.beq (pH T) 4) none (mA (pg.underlying T) fun _=>KA (Nat.beq p.1 T) (k (okV ok p.2 true) M) none)
noncomputable def TZ (a b:Int):Int:=KA (sW a b) b a
noncomputable def QZ (a b:Int):Int:=KA (sW b a) b a
noncomputable def FX (x:Operand) (T:TypeId):Sm:=fun _ F M k=>mA (zD x F) fun v=>mA (VM T M.t v) fun m=>k (.int .i64 (.ofNat m)) M
noncomputable def aP (f:Int→Int→Int) (x y:Operand):Sm:=fun _ F M k=>mA (zD x F) fun v=>mA (zD y F) fun u=>mA v.int? fun a=>mA u.int? fun b=>KA (Nat.beq (qR a.1) 3) (KA (Nat.beq (qR b.1) 3) (k (.int .i64 (f a.2 b.2)) M) none) none
noncomputable def cApp (x y:Operand) (T T':TypeId):Sm:=fun _ F M k=>mA (zD x F) fun a=>mA (zD y F) fun b=>mA (vS T) fun p=>KA (Nat.beq T T') (mA (dC p.1 M.t b) fun m=>appK M a p.2.1 p.1 m k) none
noncomputable def cCopy (x y:Operand) (T T':TypeId):Sm:=fun _ F M k=>mA (zD x F) fun a=>mA (zD y F) fun b=>mA (vS T) fun s=>KA (Nat.beq s.1 1) (mA (dC s.1 M.t b) fun m=>KA (Nat.ble 1 (DC m)) (mA a.sl? fun p=>KA (Nat.beq p.2.2.2 s.1) (mA (grp M.t p.1) fun g=>KA (Nat.ble (Nat.add p.2.1 p.2.2.1) (DC g)) (KA (Nat.ble 1 p.2.2.1)
 (QH m p.2.2.1 fun m=>QH g p.2.1 fun h=>NG m (yI (Nat.add p.2.1 (DC m)) g) fun r=>NG h r fun g'=>sJ M p.1 (.cells s.1 g') fun M=>k (.int .i64 (.ofNat (DC m))) M) none) none) none) none) none
noncomputable def OK:Sm:=fun _ _ _ _=>none
noncomputable def two (f:Operand→Operand→TypeId→TypeId→Sm) (l:List Operand) (ts:List TypeId):Sm:=match l,ts with
 | [x,y],[T,T']=>f x y T T'
 | _,_=>OK
noncomputable def wU (f:Operand→TypeId→Sm) (l:List Operand) (ts:List TypeId):Sm:=match l,ts with
 | [x],[T]=>f x T
 | _,_=>OK
noncomputable def US (b:Builtin) (l:List Operand) (ts:List TypeId):Sm:=match b with
 | .len=>wU FX l ts
 | .append=>two cApp l ts
 | .copy=>two cCopy l ts
 | .max=>two (fun x y _ _=>aP TZ x y) l ts
 | .min=>two (fun x y _ _=>aP QZ x y) l ts
 | _=>OK
noncomputable def cVal (f:Operand) (l:List Operand):Sm:=fun call F M k=>mA (zD f F) fun v=>mA v.fn? fun p=>mA (evL F l) fun xs=>call p.1 (xs++p.2) M k
noncomputable def cInv (x:Operand) (m:String) (l:List Operand):Sm:=fun call F M k=>mA (zD x F) fun v=>mA v.iface? fun p=>mA (methF p.1 m) fun q=>mA (evL F l) fun xs=>Option.rec (call q.1 (p.2::xs) M k) (fun T=>mA (load T M.t p.2) fun r=>call q.1 (r::xs) M k) q.2
noncomputable def oCall (c:Call):Sm:=Callee.rec (fun f=>cVal f c.args.toList) (fun x m=>cInv x m c.args.toList) (fun b=>US b c.args.toList c.argTypes.toList) c.callee
noncomputable def cD (o:Op):Sm:=Op.rec (motive:=fun _=>Sm) UL UL aO QP (fun _ x=>oBox x) PK oBsl (fun T m k v=>oMup T m k v) bO SV (fun _=>OK) (fun _=>OK) TV (fun op T x y _=>ZV op T x y) (fun op _ x=>oUn op x) kI
 (fun _ _=>OK) UV (fun f q c=>KA q.isEmpty (RS f c) OK) (fun _ r=>oMkM r) (fun _ _=>OK) oMkS oSli XV WV VV oIx PP oMup (fun _ _ _=>OK) (fun _ _ _ _=>OK) (fun _ _=>OK) (fun _ _=>OK) (fun _=>OK) (fun x _ T ok=>RV x T ok) YV
 oCall (fun _=>OK) (fun _=>OK) (fun _=>OK) (fun _ _=>OK) (fun _ _ _=>OK) (fun _ _=>OK) o
noncomputable def eH (d:Nat) (E:En) (v:AV) (k:En→Option Rs):Option Rs:=Bool.rec (k ⟨E.m,(d,v)::E.L,E.F⟩) (LN (RN d) E.F (some v) fun F=>k ⟨E.m,E.L,F⟩) (tst E.m d)
noncomputable def CL (d:Option Nat) (E:En) (v:AV) (k:En→Option Rs):Option Rs:=Option.rec (k E) (fun d=>eH d E v k) d
noncomputable def QR (l:List AV):Nat→Fr→(Fr→Option Rs)→Option Rs:=List.rec (fun _ F k=>k F) (fun v _ ih i F k=>LN (RN i) F (some v) fun F=>ih (Nat.succ i) F k) l
noncomputable def CK (F:Fr) (A:T8 AO) (r:ResultVar):Option AV:=match r with
 | .tmp t=>pG (RN t) F
 | .cell t T=>mA (pG (RN t) F) fun a=>load T A a
noncomputable def YU (F:Fr) (A:T8 AO) (l:List ResultVar):Option (List AV):=List.rec (some []) (fun x _ ih=>mA (CK F A x) fun v=>mA ih fun r=>some (v::r)) l
noncomputable def one:List AV→AV
 | [v]=>v
 | l=>.tup l
noncomputable def XN (o:Oper) (ih:Cl→En→Me→(En→Me→Option Rs)→Option Rs) (call:Cl) (E:En) (M:Me) (k:En→Me→Option Rs):Option Rs:=cD o.op call E M fun v M=>CL o.dst E v fun E=>ih call E M k
noncomputable def FV (o:Oper) (ih:Cl→En→Me→(En→Me→Option Rs)→Option Rs) (call:Cl) (E:En) (M:Me) (k:En→Me→Option Rs):Option Rs:=CL o.dst E .un fun E=>ih call E M k
noncomputable def GE (E:En) (ops:Array Oper) (p:Nat × Bool):Option Bool:=mA ((ops[p.1]?).bind (·.dst)) fun t=>mA (fF t E) fun v=>match v with
 | .bool x=>some (KA p.2 x (SF x))
 | _=>some false
noncomputable def YQ (ops:Array Oper) (o:Oper) (ih:Cl→En→Me→(En→Me→Option Rs)→Option Rs) (p:Nat × Bool) (call:Cl) (E:En) (M:Me) (k:En→Me→Option Rs):Option Rs:=mA (GE E ops p) fun b=>KA b (XN o ih call E M k) (FV o ih call E M k)
noncomputable def YN (ops:Array Oper) (o:Oper) (ih:Cl→En→Me→(En→Me→Option Rs)→Option Rs):Cl→En→Me→(En→Me→Option Rs)→Option Rs:=Option.rec (XN o ih) (YQ ops o ih) o.guard
noncomputable def iI (ops:Array Oper) (l:List Oper):Cl→En→Me→(En→Me→Option Rs)→Option Rs:=List.rec (fun _ F M k=>k F M) (fun o _ ih=>YN ops o ih) l
noncomputable def SC (o:Op):Nat:=match o with
 | .move _ | .assign _ | .pick _ _ _ | .build _ _ | .nilCheck _ | .binOp _ _ _ _ _ | .unOp _ _ _ | .convert _ _ _ | .makeInterface _ _ | .makeFunc _ _ _ | .fieldAddr _ _ _ | .field _ _ _ | .indexAddr _ _ _ | .index _ _ _ | .typeAssert _ _ _ _ | .extract _ _=>0
 | .load _ _ | .lookup _ _ _ _ | .slice _ _ _ _ _=>1
 | .alloc _ | .makeMap _ _ | .makeSlice _ _ _=>2
 | .call c=>match c.callee with
  | .builtin .len | .builtin .max | .builtin .min=>1
  | _=>3
 | _=>3
noncomputable def wJ (ops:Array Oper):List Nat:=ops.toList.foldl (fun ms o=>ms++[o.after.toList.foldl (fun a e=>bif Region.binds .any e then a ||| ((1 <<< e.on) ||| ms.getD e.on 0) else a) 0]) []
noncomputable def DB (ops:Array Oper):List Nat:=ops.toList.map fun o=>SC o.op
noncomputable def ZF (cs:List Nat) (i:Nat):Nat:=((cs.take i).filter fun c=>Nat.ble 2 c).length
noncomputable def iL (cs:List Nat):List Nat:=(List.range cs.length).filter fun i=>Nat.ble 2 (cs.getD i 0)
noncomputable def UX (ms cs:List Nat) (i s:Nat):Bool:=(iL cs).all fun p=>(!fC ms i p || Nat.blt (ZF cs p) s) && (!fC ms p i || Nat.ble s (ZF cs p))
noncomputable def PI (ms cs:List Nat) (i:Nat):List Nat:=(List.range (ZF cs cs.length+1)).filter fun s=>Nat.beq (cs.getD i 0) 1 && !Nat.beq s (ZF cs i) && UX ms cs i s
noncomputable def jQ (ops:Array Oper) (ms cs:List Nat):Bool:=kH ops ms ops.size && (List.range cs.length).all fun i=>match cs.getD i 0 with
 | 2=>match ops[i]? with
  | some o=>(o.looksAt ops).all fun t=>match iD ops ops.size t with
   | some j=>!Nat.beq (cs.getD j 0) 2
   | none=>true
  | none=>false
 | 3=>(iL cs).all fun p=>Nat.ble i p || fC ms i p
 | _=>((iL cs).all fun q=>!fC ms i q || (iL cs).all fun p=>Nat.ble q p || fC ms i p) && ((PI ms cs i).isEmpty || match ops[i]? with
  | some o=>(o.looksAt ops).all fun t=>match iD ops ops.size t with
   | some j=>Nat.blt j i
   | none=>true
  | none=>false)
noncomputable def GK (ops:Array Oper) (ms cs:List Nat):List (Oper × List Nat):=((List.range cs.length).zip ops.toList).filterMap fun p=>match PI ms cs p.1 with
 | []=>none
 | l=>some (p.2,l.map fun s=>Nat.sub (ZF cs cs.length) s)
noncomputable def numD (d:D):Nat:=D.rec 0 1 2 3 d
noncomputable def qN (a b:D):Bool:=Nat.beq (numD a) (numD b)
noncomputable def DT (a b:P4):Bool:=KA (qN a.a b.a) (KA (qN a.b b.b) (KA (qN a.c b.c) (qN a.d b.d) false) false) false
noncomputable def beqP (a b:Pa):Bool:=KA (DT a.a b.a) (DT a.b b.b) false
noncomputable def beqU (a b:Value):Bool:=match a,b with
 | .pointer none,.pointer none=>true
 | .slice none 0 0,.slice none 0 0=>true
 | .map none,.map none=>true
 | .nilFunc,.nilFunc=>true
 | .nilIface,.nilIface=>true
 | _,_=>false
noncomputable def BT (a b:AV):Bool:=match a,b with
 | .pv u,.pv v=>beqU u v
 | .int k x,.int l y=>KA (Nat.beq (qR k) (qR l)) (ST x y) false
 | .bool x,.bool y=>KA x y (SF y)
 | .str l,.str m=>LX l m
 | .ptr p i j,.ptr q k l=>KA (beqP p q) (KA (Nat.beq i k) (Nat.beq j l) false) false
 | .sl p i j k,.sl q l m n=>KA (beqP p q) (KA (Nat.beq i l) (KA (Nat.beq j m) (Nat.beq k n) false) false) false
 | .e0,.e0=>true
 | .map p,.map q=>beqP p q
 | _,_=>false
noncomputable def MR (a:List AV):List AV→Bool:=List.rec (fun m=>List.rec true (fun _ _ _=>false) m) (fun x _ ih m=>List.rec false (fun y m _=>KA (BT x y) (ih m) false) m) a
noncomputable def beqV (a b:AV):Bool:=match a,b with
 | .agg l,.agg m=>MR l m
 | .tup l,.tup m=>MR l m
 | .iface t u,.iface s v=>KA (Nat.beq t s) (BT u v) false
 | _,_=>BT a b
abbrev Ks:=En→Me→List Me→Option Rs
abbrev Cd:=Cl→En→Me→List Me→Ks→Option Rs
noncomputable def zL (o:Oper) (M:Me) (S:List Me) (k:List Me→Option Rs):Option Rs:=KA (Nat.ble 2 (SC o.op)) (k (M::S)) (k S)
noncomputable def TU (o:Oper) (ih:Cd) (call:Cl) (E:En) (M:Me) (S:List Me) (k:Ks):Option Rs:=cD o.op call E M fun v M=>CL o.dst E v fun E=>zL o M S fun S=>ih call E M S k
noncomputable def offD (o:Oper) (ih:Cd) (call:Cl) (E:En) (M:Me) (S:List Me) (k:Ks):Option Rs:=CL o.dst E .un fun E=>zL o M S fun S=>ih call E M S k
noncomputable def grdD (ops:Array Oper) (o:Oper) (ih:Cd) (p:Nat × Bool) (call:Cl) (E:En) (M:Me) (S:List Me) (k:Ks):Option Rs:=mA (GE E ops p) fun b=>KA b (TU o ih call E M S k) (offD o ih call E M S k)
noncomputable def FT (ops:Array Oper) (o:Oper) (ih:Cd):Cd:=Option.rec (TU o ih) (grdD ops o ih) o.guard
noncomputable def BL (ops:Array Oper) (l:List Oper):Cd:=List.rec (fun _ E M S k=>k E M S) (fun o _ ih=>FT ops o ih) l
noncomputable def CU (o:Oper) (d:Nat) (call:Cl) (E:En) (S:List Me) (l:List Nat):Option Rs→Option Rs:=List.rec (fun k=>k) (fun s _ ih k=>mA (LM S s) fun M=>cD o.op call E M fun v _=>mA (fF d E) fun u=>KA (beqV v u) (ih k) none) l
noncomputable def AZ (ops:Array Oper) (o:Oper) (call:Cl) (E:En) (S:List Me) (l:List Nat) (k:Option Rs):Option Rs:=Option.rec none (fun d=>Option.rec (CU o d call E S l k) (fun p=>mA (GE E ops p) fun b=>KA b (CU o d call E S l k) k) o.guard) o.dst
noncomputable def agnD (ops:Array Oper) (call:Cl) (E:En) (S:List Me) (l:List (Oper × List Nat)):Option Rs→Option Rs:=List.rec (fun k=>k) (fun p _ ih k=>AZ ops p.1 call E S p.2 (ih k)) l
noncomputable def drwK (ops:Array Oper) (call:Cl) (E:En) (M:Me) (k:En→Me→Option Rs):Option Rs:=List.rec (iI ops ops.toList call E M k) (fun p l _=>BL ops ops.toList call E M [M] fun E M S=>agnD ops call E S (p::l) (k E M)) (GK ops (wJ ops) (DB ops))
inductive Lv
 | nx | ex (i:Nat) | rt
abbrev Kc:=Lv→Fr→Me→Option Rs
structure Cx where
 m:Nat
 n:Nat
abbrev Sc:=Cl→Cx→Fr→Me→Kc→Option Rs
noncomputable def KZ (f:Fr→Me→Option Rs) (k:Kc) (e:Lv) (F:Fr) (M:Me):Option Rs:=Lv.rec (f F M) (fun i=>k (.ex i) F M) (k .rt F M) e
noncomputable def blkK (id:Nat) (k:Kc) (e:Lv) (F:Fr) (M:Me):Option Rs:=Lv.rec (k .nx F M) (fun i=>KA (Nat.beq i id) (k .nx F M) (k (.ex i) F M)) (k .rt F M) e
noncomputable def jR (body:Fr→Me→Kc→Option Rs) (k:Kc) (m:Nat):Fr→Me→Option Rs:=Nat.rec (fun _ _=>none) (fun _ ih F M=>body F M fun e F M=>KZ ih k e F M) m
noncomputable def sSkip:Sc:=fun _ _ F M k=>k .nx F M
noncomputable def sNo:Sc:=fun _ _ _ _ _=>none
noncomputable def sReg (ops:Array Oper):Sc:=fun call c F M k=>iI ops ops.toList call ⟨c.m,[],F⟩ M fun E M=>k .nx E.F M
noncomputable def sDrw (ops:Array Oper):Sc:=fun call c F M k=>drwK ops call ⟨c.m,[],F⟩ M fun E M=>k .nx E.F M
noncomputable def sSeq (a b:Sc):Sc:=fun call m F M k=>a call m F M (KZ (fun F M=>b call m F M k) k)
noncomputable def sCond (c:Operand) (a b:Sc):Sc:=fun call m F M k=>mA (zD c ⟨m.m,[],F⟩) fun v=>mA v.bool? fun t=>KA t (a call m F M k) (b call m F M k)
noncomputable def sBlk (id:Nat) (a:Sc):Sc:=fun call m F M k=>a call m F M (blkK id k)
noncomputable def sLoop (a:Sc):Sc:=fun call m F M k=>jR (a call m) k m.n F M
noncomputable def sExit (id:Nat):Sc:=fun _ _ F M k=>k (.ex id) F M
noncomputable def sRet:Sc:=fun _ _ F M k=>k .rt F M
noncomputable def mG (c:Code):Sc:=Code.rec (motive:=fun _=>Sc) sSkip (fun _ ops d=>Bool.rec (sReg ops) (sDrw ops) d) (fun _ _ a b=>sSeq a b) (fun c _ _ a b=>sCond c a b) (fun id _ a=>sBlk id a) (fun _ a=>sLoop a) (fun _ _ _ _ _ _=>sNo) sExit (fun _ _=>sNo) (fun _=>sNo) (fun _=>sNo) sRet (fun _=>sNo) c
noncomputable def HW (b:UInt8) (l:List UInt8):Nat→Int:=List.rec (fun _=>.negSucc 0) (fun a _ ih i=>KA (Nat.beq a.toNat b.toNat) (.ofNat i) (ih (Nat.succ i))) l
noncomputable def cQ (s:String) (xs:List AV):Option AV:=match xs with
 | [a,b]=>mA a.str? fun l=>mA b.int? fun c=>KA (Nat.beq (qR c.1) 4) (KA (s == "internal/bytealg.IndexByteString") (some (.int .i64 (HW (UInt8.ofNat c.2.toNat) l 0))) none) none
 | _=>none
noncomputable def XU (fn:Func) (k:Kn) (F:Fr) (M:Me):Option Rs:=mA (YU F M.t fn.results.toList) fun l=>k (one l) M
noncomputable def KX (t:Nat):Nat:=Nat.shiftLeft 1 t
noncomputable def addM (x:Operand) (d m:Nat):Nat:=Operand.rec (fun t=>KA (tst d t) m (Nat.lor m (KX t))) (fun _=>m) (fun _=>m) (fun _=>m) x
noncomputable def useL (l:List Operand) (d:Nat):Nat→Nat:=List.rec (fun m=>m) (fun x _ ih m=>ih (addM x d m)) l
noncomputable def useO (l:List Oper):Nat→Nat→Nat:=List.rec (fun _ m=>m) (fun o _ ih d m=>ih (Option.rec d (fun t=>Nat.lor d (KX t)) o.dst) (useL o.op.operands.toList d m)) l
noncomputable def useC (c:Code):Nat→Nat:=Code.rec (motive:=fun _=>Nat→Nat) (fun m=>m) (fun _ ops _ m=>useO ops.toList 0 m) (fun _ _ a b m=>b (a m)) (fun c _ _ a b m=>b (a (addM c 0 m))) (fun _ _ a=>a) (fun _ a=>a) (fun _ _ _ _ _ _ m=>m) (fun _ m=>m) (fun _ a=>a) (fun _ m=>m) (fun _ m=>m) (fun m=>m) (fun _ m=>m) c
noncomputable def rH:ResultVar→Nat
 | .tmp t=>t
 | .cell t _=>t
noncomputable def tH (fn:Func) (c:Code):Nat:=List.rec (useC c 0) (fun r _ ih=>Nat.lor ih (KX (rH r))) fn.results.toList
noncomputable def okX (n:Nat) (x:Operand):Bool:=Operand.rec (fun t=>Nat.blt t n) (fun _=>true) (fun _=>true) (fun _=>true) x
noncomputable def okL (n:Nat) (l:List Operand):Bool:=List.rec true (fun x _ ih=>KA (okX n x) ih false) l
noncomputable def QV (n:Nat) (o:Oper):Bool:=KA (okL n o.op.operands.toList) (Option.rec true (fun d=>Nat.blt d n) o.dst) false
noncomputable def BJ (n:Nat) (l:List Oper):Bool:=List.rec true (fun x _ ih=>KA (QV n x) ih false) l
noncomputable def okC (n:Nat) (c:Code):Bool:=Code.rec (motive:=fun _=>Bool) true (fun _ ops _=>BJ n ops.toList) (fun _ _ a b=>KA a b false) (fun c _ _ a b=>KA (okX n c) (KA a b false) false) (fun _ _ a=>a) (fun _ a=>a) (fun _ _ _ _ _ _=>false) (fun _=>true) (fun _ a=>a) (fun _=>true) (fun _=>true) true (fun _=>true) c
noncomputable def okA (c:Code):Bool:=Code.rec (motive:=fun _=>Bool) true (fun _ ops d=>KA d (jQ ops (wJ ops) (DB ops)) true) (fun _ _ a b=>KA a b false) (fun _ _ _ a b=>KA a b false) (fun _ _ a=>a) (fun _ a=>a) (fun _ _ _ _ _ _=>false) (fun _=>true) (fun _ a=>a) (fun _=>true) (fun _=>true) true (fun _=>true) c
noncomputable def okR (n:Nat) (l:List ResultVar):Bool:=List.rec true (fun x _ ih=>KA (Nat.blt (rH x) n) ih false) l
noncomputable def okF (fn:Func) (c:Code):Bool:=KA (Nat.ble fn.ntmps 256) (KA (okC fn.ntmps c) (KA (okR fn.ntmps fn.results.toList) (okA c) false) false) false
noncomputable def fnK (m:Nat) (call:Cl) (fn:Func) (xs:List AV) (M:Me) (k:Kn):Option Rs:=Option.rec (mA (cQ fn.name xs) fun v=>k v M)
 (fun c=>KA (Nat.ble (DC xs) fn.ntmps) (QR xs 0 e4 fun F=>mG c call ⟨tH fn c,m⟩ F M fun e F M=>Lv.rec (XU fn k F M) (fun _=>none) (XU fn k F M) e) none) fn.body
noncomputable def fm:Nat:=18036807053620962926773660648534365441286317237369910378708446929139702971099971417780185500633494835050559047808
abbrev Kw:=FuncId→List AV→Me→Kn→Option (Option Rs)
noncomputable def HC (X:Kw) (m:Nat) (fuel:Nat):Cl:=Nat.rec (fun _ _ _ _=>none) (fun _ ih f xs M k=>Option.rec (KA (tst fm f) (mA (pg.funcs[f]?) fun fn=>fnK m ih fn xs M k) none) (fun r=>r) (X f xs M k)) fuel
noncomputable def M00:Me:=⟨e8,⟨⟨.d0,.d0,.d0,.d0⟩,⟨.d0,.d0,.d0,.d0⟩⟩⟩
end
end Go.Proofs.YtljlkhobfdofhaaGreatDoor.Rv
namespace Go.Proofs.YtljlkhobfdofhaaGreatDoor.Rv
open Go Vc
structure Bk where
 b:Nat
 o:Nat
 z:Nat
 c:Nat
abbrev Mp:=Pa→Option Bk
abbrev Kp:=Nat→Option Obj
structure Itp where
 β:Mp
 K:Kp
def RP:Mp:=fun _=>none
def nilV:Value→Bool
 | .pointer none=>true
 | .slice none 0 0=>true
 | .map none=>true
 | .nilFunc=>true
 | .nilIface=>true
 | _=>false
theorem dO {v:Value} (h:nilV v=true):v.oneCell'=true∧v.cells=#[v]:=by cases v<;>first | exact ⟨rfl,rfl⟩ | cases h
mutual
def IV (K:Kp):AV→Mp→Value→Prop
 | .pv v,_,u=>u=v∧nilV v=true
 | .int k x,_,u=>u=.int k x
 | .bool b,_,u=>u=.bool b
 | .str l,_,u=>u=.string ⟨⟨l⟩⟩
 | .ptr id i off,β,u=>∃ k,β id=some k∧u=.pointer (some ⟨k.b,k.o+i*k.z+off,none⟩)
 | .sl id o n z,β,u=>∃ k,β id=some k∧u=.slice (some ⟨k.b,k.o+o*k.z,none⟩) n (k.c-o)∧o+n≤k.c∧k.z=z
 | .e0,_,u=>∃ a,u=.slice a 0 0
 | .lst z l,_,u=>∃ a c us,u=.slice a l.length c∧IVss K l RP us∧(∀ g∈l,g.length=z)∧(l=[]∨∃ b o cs T fr,a=some ⟨b,o,none⟩∧K b=some (.cells cs T fr)∧∀ (i:Nat) (x:Value),us[i]?=some x→cs[o+i]?=some x)
 | .fp c,_,u=>∃ b o cs T fr us,u=.pointer (some ⟨b,o,none⟩)∧K b=some (.cells cs T fr)∧IVs K c RP us∧∀ (i:Nat) (x:Value),us[i]?=some x→cs[o+i]?=some x
 | .iface t v,β,u=>∃ u',u=.iface t u'∧IV K v β u'
 | .agg l,β,u=>∃ us,u=.agg us.toArray∧IVs K l β us
 | .tup l,β,u=>∃ us,u=.tuple us.toArray∧IVt K l β us
 | .fn f c,β,u=>∃ us,u=.func (.func f) #[] us.toArray∧IVt K c β us
 | .map id,β,u=>∃ k,β id=some k∧u=.map (some k.b)
 | .un,_,u=>u=undef
def IVs (K:Kp):List AV→Mp→LV→Prop
 | [],_,us=>us=[]
 | v::l,β,us=>∃ u r,us=u::r∧IV K v β u∧u.oneCell'=true∧IVs K l β r
def IVt (K:Kp):List AV→Mp→LV→Prop
 | [],_,us=>us=[]
 | v::l,β,us=>∃ u r,us=u::r∧IV K v β u∧IVt K l β r
def IVss (K:Kp):List (List AV)→Mp→LV→Prop
 | [],_,us=>us=[]
 | g::l,β,us=>∃ a r,us=a++r∧IVs K g β a∧IVss K l β r
end
def Mle (β β':Mp):Prop:=∀ id k,β id=some k→β' id=some k
def Kle (K K':Kp):Prop:=∀ b o,K b=some o→K' b=some o
theorem Mle.refl (β:Mp):Mle β β:=fun _ _ h=>h
theorem Kle.refl (K:Kp):Kle K K:=fun _ _ h=>h
mutual
theorem IV.up {K K':Kp} (hK:Kle K K'):∀ (v:AV) {β β':Mp} (h:Mle β β') (u:Value),IV K v β u→IV K' v β' u
 | .pv v,_,_,h,u,H=>by simpa only [IV] using H
 | .int k x,_,_,h,u,H=>by simpa only [IV] using H
 | .bool b,_,_,h,u,H=>by simpa only [IV] using H
 | .str l,_,_,h,u,H=>by simpa only [IV] using H
 | .ptr id i off,_,_,h,u,H=>by
  simp only [IV] at H ⊢
  obtain ⟨k,h1,h2⟩:=H; exact ⟨k,h _ _ h1,h2⟩
 | .sl id o n z,_,_,h,u,H=>by
  simp only [IV] at H ⊢
  obtain ⟨k,h1,h2⟩:=H; exact ⟨k,h _ _ h1,h2⟩
 | .e0,_,_,h,u,H=>by simpa only [IV] using H
 | .lst z l,_,_,h,u,H=>by
  simp only [IV] at H ⊢
  obtain ⟨a,c,us,h1,h2,h3,h4⟩:=H
  refine ⟨a,c,us,h1,IVss.up hK l (Mle.refl _) us h2,h3,h4.imp id ?_⟩
  rintro ⟨b,o,cs,T,fr,e1,e2,e3⟩
  exact ⟨b,o,cs,T,fr,e1,hK _ _ e2,e3⟩
 | .fp c,_,_,h,u,H=>by
  simp only [IV] at H ⊢
  obtain ⟨b,o,cs,T,fr,us,h1,h2,h3,h4⟩:=H
  exact ⟨b,o,cs,T,fr,us,h1,hK _ _ h2,IVs.up hK c (Mle.refl _) us h3,h4⟩
 | .iface t v,_,_,h,u,H=>by
  simp only [IV] at H ⊢
  obtain ⟨u',h1,h2⟩:=H; exact ⟨u',h1,IV.up hK v h u' h2⟩
 | .agg l,_,_,h,u,H=>by
  simp only [IV] at H ⊢
  obtain ⟨us,h1,h2⟩:=H; exact ⟨us,h1,IVs.up hK l h us h2⟩
 | .tup l,_,_,h,u,H=>by
  simp only [IV] at H ⊢
  obtain ⟨us,h1,h2⟩:=H; exact ⟨us,h1,IVt.up hK l h us h2⟩
 | .fn f c,_,_,h,u,H=>by
  simp only [IV] at H ⊢
  obtain ⟨us,h1,h2⟩:=H; exact ⟨us,h1,IVt.up hK c h us h2⟩
 | .map id,_,_,h,u,H=>by
  simp only [IV] at H ⊢
  obtain ⟨k,h1,h2⟩:=H; exact ⟨k,h _ _ h1,h2⟩
 | .un,_,_,h,u,H=>by simpa only [IV] using H
theorem IVs.up {K K':Kp} (hK:Kle K K'):∀ (l:List AV) {β β':Mp} (h:Mle β β') (us:LV),IVs K l β us→IVs K' l β' us
 | [],_,_,h,us,H=>by simpa only [IVs] using H
 | v::l,_,_,h,us,H=>by
  simp only [IVs] at H ⊢
  obtain ⟨u,r,h1,h2,h4,h3⟩:=H; exact ⟨u,r,h1,IV.up hK v h u h2,h4,IVs.up hK l h r h3⟩
theorem IVt.up {K K':Kp} (hK:Kle K K'):∀ (l:List AV) {β β':Mp} (h:Mle β β') (us:LV),IVt K l β us→IVt K' l β' us
 | [],_,_,h,us,H=>by simpa only [IVt] using H
 | v::l,_,_,h,us,H=>by
  simp only [IVt] at H ⊢
  obtain ⟨u,r,h1,h2,h3⟩:=H; exact ⟨u,r,h1,IV.up hK v h u h2,IVt.up hK l h r h3⟩
theorem IVss.up {K K':Kp} (hK:Kle K K'):∀ (l:List (List AV)) {β β':Mp} (h:Mle β β') (us:LV),IVss K l β us→IVss K' l β' us
 | [],_,_,h,us,H=>by simpa only [IVss] using H
 | v::l,_,_,h,us,H=>by
  simp only [IVss] at H ⊢
  obtain ⟨u,r,h1,h2,h3⟩:=H; exact ⟨u,r,h1,IVs.up hK v h u h2,IVss.up hK l h r h3⟩
end
section
variable {K:Kp} {β:Mp}
theorem IVs.len:∀ {l:List AV} {us:LV},IVs K l β us→us.length=l.length
 | [],us,H=>by simp only [IVs] at H; subst H; rfl
 | v::l,us,H=>by
  simp only [IVs] at H
  obtain ⟨u,r,rfl,_,_,h3⟩:=H; simp [IVs.len h3]
theorem IVs.at:∀ {l:List AV} {us:LV} {i:Nat} {v:AV},IVs K l β us→l[i]?=some v→∃ u,us[i]?=some u∧IV K v β u
 | [],us,i,v,H,h=>by simp at h
 | a::l,us,0,v,H,h=>by
  simp only [IVs] at H
  obtain ⟨u,r,rfl,h2,_,_⟩:=H
  simp at h; subst h; exact ⟨u,rfl,h2⟩
 | a::l,us,i+1,v,H,h=>by
  simp only [IVs] at H
  obtain ⟨u,r,rfl,_,_,h3⟩:=H
  exact IVs.at (i:=i) h3 (by simpa using h)
theorem IVt.at:∀ {l:List AV} {us:LV} {i:Nat} {v:AV},IVt K l β us→l[i]?=some v→∃ u,us[i]?=some u∧IV K v β u
 | [],us,i,v,H,h=>by simp at h
 | a::l,us,0,v,H,h=>by
  simp only [IVt] at H
  obtain ⟨u,r,rfl,h2,_⟩:=H
  simp at h; subst h; exact ⟨u,rfl,h2⟩
 | a::l,us,i+1,v,H,h=>by
  simp only [IVt] at H
  obtain ⟨u,r,rfl,_,h3⟩:=H
  exact IVt.at (i:=i) h3 (by simpa using h)
theorem IVt.app:∀ {l m:List AV} {us vs:LV},IVt K l β us→IVt K m β vs→IVt K (l++m) β (us++vs)
 | [],m,us,vs,H,J=>by simp only [IVt] at H; subst H; exact J
 | v::l,m,us,vs,H,J=>by
  simp only [IVt] at H
  obtain ⟨u,r,rfl,h2,h3⟩:=H
  simp only [List.cons_append,IVt]; exact ⟨u,r++vs,rfl,h2,IVt.app h3 J⟩
theorem IVs.ones:∀ {l:List AV} {us:LV},IVs K l β us→∀ u∈us,u.oneCell'=true
 | [],us,H,u,hu=>by simp only [IVs] at H; subst H; cases hu
 | v::l,us,H,u,hu=>by
  simp only [IVs] at H
  obtain ⟨a,r,rfl,_,h2,h3⟩:=H
  rcases List.mem_cons.1 hu with rfl | hu
  ·exact h2
  ·exact IVs.ones h3 u hu
theorem IVs.app:∀ {l m:List AV} {us vs:LV},IVs K l β us→IVs K m β vs→IVs K (l++m) β (us++vs)
 | [],m,us,vs,H,J=>by simp only [IVs] at H; subst H; exact J
 | v::l,m,us,vs,H,J=>by
  simp only [IVs] at H
  obtain ⟨u,r,rfl,h2,h4,h3⟩:=H
  simp only [List.cons_append,IVs]; exact ⟨u,r++vs,rfl,h2,h4,IVs.app h3 J⟩
theorem IVs.take:∀ {l:List AV} {us:LV} (n:Nat),IVs K l β us→IVs K (l.take n) β (us.take n)
 | [],us,n,H=>by simp only [IVs] at H; subst H; simp [IVs]
 | v::l,us,0,H=>by simp [IVs]
 | v::l,us,n+1,H=>by
  simp only [IVs] at H
  obtain ⟨u,r,rfl,h2,h4,h3⟩:=H
  simp only [List.take_succ_cons,IVs]; exact ⟨u,r.take n,rfl,h2,h4,IVs.take n h3⟩
theorem IVs.drop:∀ {l:List AV} {us:LV} (n:Nat),IVs K l β us→IVs K (l.drop n) β (us.drop n)
 | [],us,n,H=>by simp only [IVs] at H; subst H; simp [IVs]
 | v::l,us,0,H=>by simpa using H
 | v::l,us,n+1,H=>by
  simp only [IVs] at H
  obtain ⟨u,r,rfl,h2,h4,h3⟩:=H
  simpa using IVs.drop n h3
theorem IV.cells {v:AV} {u:Value} {l:List AV} (h:IV K v β u) (hc:v.cells=some l):IVs K l β u.cells.toList:=by
 have one:∀ w:AV,l=[w]→IV K w β u→u.cells=#[u]→u.oneCell'=true→IVs K l β u.cells.toList:=fun w e h1 h2 h3=>by
  subst e; rw [h2]; simp only [IVs]; exact ⟨u,[],rfl,h1,h3,rfl⟩
 cases v<;>cases hc
 ·have h':=h
  simp only [IV] at h'
  obtain ⟨rfl,h2⟩:=h'
  exact one _ rfl h (dO h2).2 (dO h2).1
 ·have h':=h; simp only [IV] at h'; subst h'; exact one _ rfl h rfl rfl
 ·have h':=h; simp only [IV] at h'; subst h'; exact one _ rfl h rfl rfl
 ·have h':=h; simp only [IV] at h'; subst h'; exact one _ rfl h rfl rfl
 ·have h':=h; simp only [IV] at h'; obtain ⟨_,_,rfl⟩:=h'; exact one _ rfl h rfl rfl
 ·have h':=h; simp only [IV] at h'; obtain ⟨_,_,rfl,_⟩:=h'; exact one _ rfl h rfl rfl
 ·have h':=h; simp only [IV] at h'; obtain ⟨_,rfl⟩:=h'; exact one _ rfl h rfl rfl
 ·have h':=h; simp only [IV] at h'; obtain ⟨_,_,_,rfl,_⟩:=h'; exact one _ rfl h rfl rfl
 ·have h':=h; simp only [IV] at h'; obtain ⟨_,_,_,_,_,_,rfl,_⟩:=h'; exact one _ rfl h rfl rfl
 ·have h':=h; simp only [IV] at h'; obtain ⟨_,rfl,_⟩:=h'; exact one _ rfl h rfl rfl
 ·simp only [IV] at h; obtain ⟨us,rfl,h2⟩:=h; simpa [Value.cells] using h2
 ·have h':=h; simp only [IV] at h'; obtain ⟨_,rfl,_⟩:=h'; exact one _ rfl h rfl rfl
 ·have h':=h; simp only [IV] at h'; obtain ⟨_,_,rfl⟩:=h'; exact one _ rfl h rfl rfl
theorem IVss.len {z:Nat}:∀ {l:List (List AV)} {us:LV},IVss K l β us→(∀ g∈l,g.length=z)→us.length=l.length*z
 | [],us,H,_=>by simp only [IVss] at H; subst H; simp
 | g::l,us,H,hz=>by
  simp only [IVss] at H
  obtain ⟨a,r,rfl,h1,h2⟩:=H
  rw [List.length_append,h1.len,hz g (List.mem_cons_self),h2.len fun x hx=>hz x (List.mem_cons_of_mem _ hx),List.length_cons,Nat.add_mul]; omega
theorem IVss.app:∀ {l m:List (List AV)} {us vs:LV},IVss K l β us→IVss K m β vs→IVss K (l++m) β (us++vs)
 | [],m,us,vs,H,J=>by simp only [IVss] at H; subst H; exact J
 | v::l,m,us,vs,H,J=>by
  simp only [IVss] at H
  obtain ⟨a,r,rfl,h2,h3⟩:=H
  simp only [List.cons_append,IVss]; exact ⟨a,r++vs,by simp,h2,IVss.app h3 J⟩
theorem IVss.take {z:Nat}:∀ {l:List (List AV)} {us:LV} (n:Nat),IVss K l β us→(∀ g∈l,g.length=z)→IVss K (l.take n) β (us.take (n*z))
 | [],us,n,H,_=>by simp only [IVss] at H; subst H; simp [IVss]
 | v::l,us,0,H,_=>by simp [IVss]
 | v::l,us,n+1,H,hz=>by
  simp only [IVss] at H
  obtain ⟨a,r,rfl,h2,h3⟩:=H
  have ha:=h2.len
  rw [hz v List.mem_cons_self] at ha
  simp only [List.take_succ_cons,IVss]
  refine ⟨a,r.take (n*z),?_,h2,IVss.take n h3 fun x hx=>hz x (List.mem_cons_of_mem _ hx)⟩
  rw [List.take_append,List.take_of_length_le (by rw [Nat.add_mul]; omega),show (n+1)*z-a.length=n*z by rw [Nat.add_mul]; omega]
theorem IVss.drop {z:Nat}:∀ {l:List (List AV)} {us:LV} (n:Nat),IVss K l β us→(∀ g∈l,g.length=z)→IVss K (l.drop n) β (us.drop (n*z))
 | [],us,n,H,_=>by simp only [IVss] at H; subst H; simp [IVss]
 | v::l,us,0,H,_=>by simpa using H
 | v::l,us,n+1,H,hz=>by
  simp only [IVss] at H
  obtain ⟨a,r,rfl,h2,h3⟩:=H
  have ha:=h2.len
  rw [hz v List.mem_cons_self] at ha
  have:=IVss.drop n h3 fun x hx=>hz x (List.mem_cons_of_mem _ hx)
  have e:(a++r).drop ((n+1)*z)=r.drop (n*z):=by
   rw [List.drop_append,List.drop_of_length_le (by rw [Nat.add_mul]; omega),show (n+1)*z-a.length=n*z by rw [Nat.add_mul]; omega,List.nil_append]
  rw [List.drop_succ_cons,e]; exact this
theorem IVss.at {z:Nat}:∀ {l:List (List AV)} {us:LV} {i:Nat} {g:List AV},IVss K l β us→(∀ g∈l,g.length=z)→l[i]?=some g→∃ a r s,us=a++(r++s)∧a.length=i*z∧IVs K g β r∧IVss K (l.take i) β a∧IVss K (l.drop (i+1)) β s
 | [],us,i,g,H,_,h=>by simp at h
 | v::l,us,0,g,H,hz,h=>by
  simp only [IVss] at H
  obtain ⟨a,r,rfl,h2,h3⟩:=H
  simp at h; subst h
  exact ⟨[],a,r,rfl,by simp,h2,by simp [IVss],by simpa using h3⟩
 | v::l,us,i+1,g,H,hz,h=>by
  simp only [IVss] at H
  obtain ⟨a,r,rfl,h2,h3⟩:=H
  have ha:=h2.len
  rw [hz v List.mem_cons_self] at ha
  obtain ⟨a',r',s',h4,h5,h6,h7,h8⟩:=IVss.at (i:=i) h3 (fun x hx=>hz x (List.mem_cons_of_mem _ hx)) (by simpa using h)
  refine ⟨a++a',r',s',by rw [h4]; simp,by rw [List.length_append,ha,h5,Nat.add_mul]; omega,h6,?_,by simpa using h8⟩
  simp only [List.take_succ_cons,IVss]; exact ⟨a,a',rfl,h2,h7⟩
theorem IVss.one {g:List AV} {us:LV} (h:IVs K g β us):IVss K [g] β us:=by simp only [IVss]; exact ⟨us,[],by simp,h,rfl⟩
theorem IVss.rep {g:List AV} {us:LV} (h:IVs K g β us):∀ m:Nat,IVss K (List.replicate m g) β (List.replicate m us).flatten
 | 0=>by simp [IVss]
 | m+1=>by simp only [List.replicate_succ,IVss,List.flatten_cons]; exact ⟨us,_,rfl,h,IVss.rep h m⟩
end
def EntR (K:Kp) (β:Mp):List (Value × AV)→List MapEntry→Prop
 | [],es=>es=[]
 | (k,v)::l,es=>∃ e r,es=e::r∧e.key=k∧IV K v β e.val∧EntR K β l r
theorem EntR.up {K K':Kp} {β β':Mp} (hK:Kle K K') (h:Mle β β'):∀ {l:List (Value × AV)} {es:List MapEntry},EntR K β l es→EntR K' β' l es
 | [],es,H=>H
 | (k,v)::l,es,H=>by
  obtain ⟨e,r,rfl,h1,h2,h3⟩:=H
  exact ⟨e,r,rfl,h1,IV.up hK v h _ h2,EntR.up hK h h3⟩
def OR (K:Kp) (β:Mp) (w:World) (k:Bk):AO→Prop
 | .cells z g=>k.z=z∧(∀ x∈g,x.length=z)∧∃ (pre vs ex:LV) (T:TypeId),w.heap[k.b]?=some (.cells (pre++(vs++ex)).toArray T (0,0))∧pre.length=k.o∧IVss K g β vs∧k.c*z≤vs.length+ex.length
 | .mp l=>∃ (es:List MapEntry) (clock:Nat),w.heap[k.b]?=some (.map es.toArray clock)∧EntR K β l es
 | .dead=>True
theorem OR.up {K K':Kp} {β β':Mp} {w:World} {k:Bk} {a:AO} (hK:Kle K K') (h:Mle β β') (H:OR K β w k a):OR K' β' w k a:=by
 cases a with
 | cells z g =>
  obtain ⟨h0,h1,pre,vs,ex,T,h2,h3,h4,h5⟩:=H
  exact ⟨h0,h1,pre,vs,ex,T,h2,h3,IVss.up hK g h vs h4,h5⟩
 | mp l =>
  obtain ⟨es,c,h1,h2⟩:=H
  exact ⟨es,c,h1,h2.up hK h⟩
 | dead=>trivial
theorem OR.of {K:Kp} {β:Mp} {w w':World} {k:Bk} {a:AO} (H:OR K β w k a) (h:∀ o,w.heap[k.b]?=some o→w'.heap[k.b]?=some o):OR K β w' k a:=by
 cases a with
 | cells z g =>
  obtain ⟨h0,h1,pre,vs,ex,T,h2,h3⟩:=H
  exact ⟨h0,h1,pre,vs,ex,T,h _ h2,h3⟩
 | mp l =>
  obtain ⟨es,c,h1,h2⟩:=H
  exact ⟨es,c,h _ h1,h2⟩
 | dead=>trivial
theorem OR.lt {K:Kp} {β:Mp} {w:World} {k:Bk} {a:AO} (H:OR K β w k a) (ha:a≠.dead):k.b<w.heap.size:=by
 cases a with
 | cells z g=>obtain ⟨_,_,pre,vs,ex,T,h2,_⟩:=H; exact xB h2
 | mp l=>obtain ⟨es,c,h1,_⟩:=H; exact xB h1
 | dead=>exact (ha rfl).elim
abbrev eF:=T8 AO
def GlK (K:Kp):Prop:=∃ (cs:Array Value) (T:TypeId) (fr:Nat × Nat),K 0=some (.cells cs T fr)∧cs[0]?=some (.iface 312 (.agg #[typeHandle Tryz.prog 41]))
theorem GlK.up {K K':Kp} (h:GlK K) (hk:Kle K K'):GlK K':=h.elim fun cs ⟨T,fr,h1,h2⟩=>⟨cs,T,fr,hk _ _ h1,h2⟩
structure MRel (I:Itp) (w:World) (A:eF):Prop where
 kept:∀ b o,I.K b=some o→w.heap[b]?=some o
 dom:∀ id,get id A=none→I.β id=none
 own:∀ id a,get id A=some a→a≠.dead→∃ k,I.β id=some k∧I.K k.b=none∧OR I.K I.β w k a
 inj:∀ i j a c ki kj,get i A=some a→a≠.dead→get j A=some c→c≠.dead→I.β i=some ki→I.β j=some kj→ki.b=kj.b→i=j
 gl:GlK I.K
def lv (I:Itp) (A:eF) (b:Nat):Prop:=∃ id a k,get id A=some a∧a≠.dead∧I.β id=some k∧k.b=b
structure Stp (I:Itp) (w:World) (A:eF) (J:Itp) (w':World) (A':eF):Prop where
 m:Mle I.β J.β
 k:Kle I.K J.K
 chg:Chg (lv I A) w w'
 kp:∀ b,b<w.heap.size→J.K b=I.K b
 lvs:∀ b,b<w.heap.size→lv J A' b→lv I A b
section
variable {I J L:Itp} {w w' w'':World} {A A' A'':eF} {id:Pa} {a a':AO} {k:Bk}
theorem Stp.refl:Stp I w A I w A:=⟨Mle.refl _,Kle.refl _,Chg.refl _ _,fun _ _=>rfl,fun _ _ h=>h⟩
theorem Stp.trans (h:Stp I w A J w' A') (g:Stp J w' A' L w'' A''):Stp I w A L w'' A'':=by
 have hs:=h.chg.size
 refine ⟨fun _ _ x=>g.m _ _ (h.m _ _ x),fun _ _ x=>g.k _ _ (h.k _ _ x),⟨fun b o hn hb=>?_,Nat.le_trans hs g.chg.size,g.chg.os.trans h.chg.os,g.chg.tape.trans h.chg.tape,g.chg.output.trans h.chg.output⟩,fun b hb=>(g.kp b (by omega)).trans (h.kp b hb),fun b hb hl=>h.lvs b hb (g.lvs b (by omega) hl)⟩
 exact g.chg.blk b o (fun hl=>hn (h.lvs b (xB hb) hl)) (h.chg.blk b o hn hb)
theorem IV.stp (h:Stp I w A J w' A') {v:AV} {u:Value} (H:IV I.K v I.β u):IV J.K v J.β u:=IV.up h.k v h.m u H
theorem MRel.glw (H:MRel I w A):Gl w:=H.gl.elim fun cs ⟨T,fr,h1,h2⟩=>⟨cs,T,fr,H.kept _ _ h1,h2⟩
theorem MRel.ext (H:MRel I w A) (h:Ext w w'):MRel I w' A :=
 ⟨fun b o hb=>h.get (H.kept b o hb),H.dom,fun id a hA hd=>by
  obtain ⟨k,h1,h2,h3⟩:=H.own id a hA hd
  exact ⟨k,h1,h2,h3.of fun o ho=>h.get ho⟩,H.inj,H.gl⟩
theorem Stp.ext (h:Ext w w'):Stp I w A I w' A:=⟨Mle.refl _,Kle.refl _,h.chg,fun _ _=>rfl,fun _ _ h=>h⟩
def bind (β:Mp) (id:Pa) (k:Bk):Mp:=fun i=>if i=id then some k else β i
theorem bind_self {β:Mp}:bind β id k id=some k:=if_pos rfl
theorem kC {β:Mp} {i:Pa} (h:i≠id):bind β id k i=β i:=if_neg h
theorem gK {β:Mp} (h:β id=none):Mle β (bind β id k):=fun i x hx=>by
 by_cases e:i=id
 ·subst e; rw [h] at hx; cases hx
 ·rw [kC e]; exact hx
theorem MRel.lt (H:MRel I w A) (hA:get id A=some a) (hd:a≠.dead) (hk:I.β id=some k):k.b<w.heap.size:=by
 obtain ⟨k',h1,_,h3⟩:=H.own _ _ hA hd
 rw [hk] at h1; cases h1; exact h3.lt hd
theorem MRel.new (H:MRel I w A) (hid:get id A=none) (hb:w.heap.size≤k.b) (h:Ext w w') (ho:OR I.K I.β w' k a) (hd:a≠.dead) :
  Stp I w A ⟨bind I.β id k,I.K⟩ w' (put id A (some a))∧MRel ⟨bind I.β id k,I.K⟩ w' (put id A (some a)):=by
 have hn:=H.dom _ hid
 have hle:Mle I.β (bind I.β id k):=gK hn
 have hlt:=ho.lt hd
 refine ⟨⟨hle,Kle.refl _,h.chg,fun _ _=>rfl,?_⟩,?_,?_,?_,?_,H.gl⟩
 ·rintro b hb' ⟨i,c,k',h1,h2,h3,h4⟩
  rw [zB] at h1
  by_cases e:i=id
  ·subst e
   have h3':some k=some k':=by rw [← h3]; exact bind_self.symm
   cases h3'; omega
  ·rw [if_neg e] at h1
   exact ⟨i,c,k',h1,h2,by rw [← h3]; exact (kC e).symm,h4⟩
 ·exact fun b o hb=>h.get (H.kept b o hb)
 ·intro i hi
  rw [zB] at hi
  by_cases e:i=id
  ·rw [if_pos e] at hi; cases hi
  ·rw [if_neg e] at hi; show bind I.β id k i=none; rw [kC e]; exact H.dom _ hi
 ·intro i c hi hc
  rw [zB] at hi
  by_cases e:i=id
  ·rw [if_pos e] at hi; cases hi; subst e
   refine ⟨k,bind_self,?_,ho.up (Kle.refl _) hle⟩
   cases hK:I.K k.b with
   | none=>rfl
   | some o=>have:=xB (H.kept _ _ hK); omega
  ·rw [if_neg e] at hi
   obtain ⟨k',h1,h2,h3⟩:=H.own _ _ hi hc
   exact ⟨k',hle _ _ h1,h2,(h3.of fun o ho=>h.get ho).up (Kle.refl _) hle⟩
 ·intro i j c d ki kj hi hc hj hd' bi bj e
  rw [zB] at hi hj
  by_cases e1:i=id<;>by_cases e2:j=id
  ·rw [e1,e2]
  ·rw [if_neg e2] at hj
   subst e1
   have bi':some k=some ki:=by rw [← bi]; exact bind_self.symm
   cases bi'
   have bj':I.β j=some kj:=by rw [← bj]; exact (kC e2).symm
   have:=H.lt hj hd' bj'; omega
  ·rw [if_neg e1] at hi
   subst e2
   have bj':some k=some kj:=by rw [← bj]; exact bind_self.symm
   cases bj'
   have bi':I.β i=some ki:=by rw [← bi]; exact (kC e1).symm
   have:=H.lt hi hc bi'; omega
  ·rw [if_neg e1] at hi; rw [if_neg e2] at hj
   exact H.inj _ _ _ _ _ _ hi hc hj hd' (by rw [← bi]; exact (kC e1).symm) (by rw [← bj]; exact (kC e2).symm) e
theorem MRel.turn (H:MRel I w A) (hA:get id A=some a) (hd:a≠.dead) (hk:I.β id=some k) (h:Chg (·=k.b) w w') (ho:OR I.K I.β w' k a') (hd':a'≠.dead) :
  Stp I w A I w' (put id A (some a'))∧MRel I w' (put id A (some a')):=by
 obtain ⟨k0,h01,h02,_⟩:=H.own _ _ hA hd
 rw [hk] at h01; cases h01
 refine ⟨⟨Mle.refl _,Kle.refl _,h.mono fun b e=>⟨id,a,k,hA,hd,hk,e.symm⟩,fun _ _=>rfl,?_⟩,?_,?_,?_,?_,H.gl⟩
 ·rintro b hb' ⟨i,c,k',h1,h2,h3,h4⟩
  rw [zB] at h1
  by_cases e:i=id
  ·subst e; exact ⟨i,a,k',hA,hd,h3,h4⟩
  ·rw [if_neg e] at h1; exact ⟨i,c,k',h1,h2,h3,h4⟩
 ·exact fun b o hb=>h.blk b o (fun e=>by rw [e,h02] at hb; cases hb) (H.kept b o hb)
 ·intro i hi
  rw [zB] at hi
  by_cases e:i=id
  ·rw [if_pos e] at hi; cases hi
  ·rw [if_neg e] at hi; exact H.dom _ hi
 ·intro i c hi hc
  rw [zB] at hi
  by_cases e:i=id
  ·rw [if_pos e] at hi; cases hi; subst e; exact ⟨k,hk,h02,ho⟩
  ·rw [if_neg e] at hi
   obtain ⟨k',h1,h2,h3⟩:=H.own _ _ hi hc
   exact ⟨k',h1,h2,h3.of fun o ho=>h.blk _ _ (fun e2=>e (H.inj _ _ _ _ _ _ hi hc hA hd h1 hk e2)) ho⟩
 ·intro i j c d ki kj hi hc hj hd2 bi bj e
  have live:∀ i c,(if i=id then some a' else get i A)=some c→c≠.dead→∃ c',get i A=some c'∧c'≠.dead:=fun i c hi hc=>by
   by_cases e:i=id
   ·subst e; exact ⟨a,hA,hd⟩
   ·rw [if_neg e] at hi; exact ⟨c,hi,hc⟩
  rw [zB] at hi hj
  obtain ⟨c1,h1,h2⟩:=live _ _ hi hc
  obtain ⟨c2,h3,h4⟩:=live _ _ hj hd2
  exact H.inj _ _ _ _ _ _ h1 h2 h3 h4 bi bj e
theorem MRel.kill (H:MRel I w A) (hA:get id A≠none):Stp I w A I w (put id A (some .dead))∧MRel I w (put id A (some .dead)):=by
 have old:∀ i c,(if i=id then some AO.dead else get i A)=some c→c≠.dead→i≠id∧get i A=some c:=fun i c hi hc=>by
  by_cases e:i=id
  ·rw [if_pos e] at hi; cases hi; exact (hc rfl).elim
  ·rw [if_neg e] at hi; exact ⟨e,hi⟩
 refine ⟨⟨Mle.refl _,Kle.refl _,Chg.refl _ _,fun _ _=>rfl,?_⟩,H.kept,?_,?_,?_,H.gl⟩
 ·rintro b hb' ⟨i,c,k',h1,h2,h3,h4⟩
  rw [zB] at h1
  exact ⟨i,c,k',(old _ _ h1 h2).2,h2,h3,h4⟩
 ·intro i hi
  rw [zB] at hi
  by_cases e:i=id
  ·rw [if_pos e] at hi; cases hi
  ·rw [if_neg e] at hi; exact H.dom _ hi
 ·intro i c hi hc
  rw [zB] at hi
  exact H.own _ _ (old _ _ hi hc).2 hc
 ·intro i j c d ki kj hi hc hj hd2 bi bj e
  rw [zB] at hi hj
  exact H.inj _ _ _ _ _ _ (old _ _ hi hc).2 hc (old _ _ hj hd2).2 hd2 bi bj e
theorem MRel.anew {id':Pa} {k':Bk} (H:MRel I w A) (hA:get id A=some a) (hd:a≠.dead) (hk:I.β id=some k) (hid:get id' A=none) (hb:k'.b=k.b) (h:Chg (·=k.b) w w') (ho:OR I.K I.β w' k' a') (hd':a'≠.dead) :
  Stp I w A ⟨bind I.β id' k',I.K⟩ w' (put id' (put id A (some .dead)) (some a'))∧MRel ⟨bind I.β id' k',I.K⟩ w' (put id' (put id A (some .dead)) (some a')):=by
 have hn:=H.dom _ hid
 have hle:Mle I.β (bind I.β id' k'):=gK hn
 have hne:id≠id':=fun e=>by rw [← e,hA] at hid; cases hid
 obtain ⟨k0,h01,h02,_⟩:=H.own _ _ hA hd
 rw [hk] at h01; cases h01
 have old:∀ i c,(if i=id' then some a' else if i=id then some AO.dead else get i A)=some c→c≠.dead→i≠id'→i≠id∧get i A=some c:=fun i c hi hc e=>by
  rw [if_neg e] at hi
  by_cases e2:i=id
  ·rw [if_pos e2] at hi; cases hi; exact (hc rfl).elim
  ·rw [if_neg e2] at hi; exact ⟨e2,hi⟩
 refine ⟨⟨hle,Kle.refl _,h.mono fun b e=>⟨id,a,k,hA,hd,hk,e.symm⟩,fun _ _=>rfl,?_⟩,?_,?_,?_,?_,H.gl⟩
 ·rintro b hb' ⟨i,c,k2,h1,h2,h3,h4⟩
  rw [zB,zB] at h1
  by_cases e:i=id'
  ·subst e
   have h3':some k'=some k2:=by rw [← h3]; exact bind_self.symm
   cases h3'
   exact ⟨id,a,k,hA,hd,hk,by rw [← h4,hb]⟩
  ·exact ⟨i,c,k2,(old _ _ h1 h2 e).2,h2,by rw [← h3]; exact (kC e).symm,h4⟩
 ·exact fun b o hb=>h.blk b o (fun e=>by rw [e,h02] at hb; cases hb) (H.kept b o hb)
 ·intro i hi
  rw [zB] at hi
  by_cases e:i=id'
  ·rw [if_pos e] at hi; cases hi
  ·rw [if_neg e,zB] at hi
   by_cases e2:i=id
   ·rw [if_pos e2] at hi; cases hi
   ·rw [if_neg e2] at hi; show bind I.β id' k' i=none; rw [kC e]; exact H.dom _ hi
 ·intro i c hi hc
  rw [zB,zB] at hi
  by_cases e:i=id'
  ·rw [if_pos e] at hi; cases hi; subst e; exact ⟨k',bind_self,by rw [hb]; exact h02,ho.up (Kle.refl _) hle⟩
  ·obtain ⟨e2,hi⟩:=old _ _ hi hc e
   obtain ⟨k2,h1,h2,h3⟩:=H.own _ _ hi hc
   exact ⟨k2,hle _ _ h1,h2,(h3.of fun o ho=>h.blk _ _ (fun e3=>e2 (H.inj _ _ _ _ _ _ hi hc hA hd h1 hk e3)) ho).up (Kle.refl _) hle⟩
 ·intro i j c d ki kj hi hc hj hd2 bi bj e
  rw [zB,zB] at hi hj
  by_cases e1:i=id'<;>by_cases e2:j=id'
  ·rw [e1,e2]
  ·subst e1
   have bi':some k'=some ki:=by rw [← bi]; exact bind_self.symm
   cases bi'
   obtain ⟨e3,hj⟩:=old _ _ hj hd2 e2
   exact absurd (H.inj _ _ _ _ _ _ hj hd2 hA hd (by rw [← bj]; exact (kC e2).symm) hk (by rw [← e,hb])) e3
  ·subst e2
   have bj':some k'=some kj:=by rw [← bj]; exact bind_self.symm
   cases bj'
   obtain ⟨e3,hi⟩:=old _ _ hi hc e1
   exact absurd (H.inj _ _ _ _ _ _ hi hc hA hd (by rw [← bi]; exact (kC e1).symm) hk (by rw [e,hb])) e3
  ·obtain ⟨_,hi⟩:=old _ _ hi hc e1
   obtain ⟨_,hj⟩:=old _ _ hj hd2 e2
   exact H.inj _ _ _ _ _ _ hi hc hj hd2 (by rw [← bi]; exact (kC e1).symm) (by rw [← bj]; exact (kC e2).symm) e
end
end Go.Proofs.YtljlkhobfdofhaaGreatDoor.Rv
namespace Go.Proofs.YtljlkhobfdofhaaGreatDoor.Rv
open Go Vc
section
variable {α β R:Type}
theorem gA {o:Option α} {k:α→Option β} {r:β} (h:mA o k=some r):∃ a,o=some a∧k a=some r:=by
 cases o with
 | none=>cases h
 | some a=>exact ⟨a,rfl,h⟩
theorem tC (x y:R):KA true x y=x:=rfl
theorem BD (x y:R):KA false x y=y:=rfl
theorem AA {b:Bool} {x:Option β} {r:β} (h:KA b x none=some r):b=true∧x=some r:=by
 cases b
 ·cases h
 ·exact ⟨rfl,h⟩
theorem DE {b:Bool} {x:Option β} {r:β} (h:KA b none x=some r):b=false∧x=some r:=by
 cases b
 ·exact ⟨rfl,h⟩
 ·cases h
theorem mF (l:List α):∀ i,LM l i=l[i]?:=by
 induction l with
 | nil=>intro i; simp [LM]
 | cons a l ih=>intro i; cases i with
  | zero=>rfl
  | succ j=>exact (ih j).trans (by simp)
theorem aG (l:List α):∀ k:List α→R,JO l k=k l:=by
 induction l with
 | nil=>intro k; rfl
 | cons a l ih=>intro k; exact ih fun r=>k (a::r)
theorem lF (l m:List α):∀ k:List α→R,NG l m k=k (l++m):=by
 induction l with
 | nil=>intro k; rfl
 | cons a l ih=>intro k; exact ih fun r=>k (a::r)
theorem oO (v:α) (l:List α):∀ (i:Nat) (k:List α→R),iR v l i k=k (l.set i v):=by
 induction l with
 | nil=>intro i k; rfl
 | cons a l ih=>intro i k; cases i with
  | zero=>rfl
  | succ j=>exact ih j fun r=>k (a::r)
theorem bE (n:Nat):∀ l:List α,yI n l=l.drop n:=by
 induction n with
 | zero=>intro l; rfl
 | succ n ih=>intro l; cases l with
  | nil=>exact (ih []).trans (by simp)
  | cons a l=>exact ih l
theorem WD (l:List α):∀ (n:Nat) (k:List α→R),QH l n k=k (l.take n):=by
 induction l with
 | nil=>intro n k; simp [QH]
 | cons a l ih=>intro n k; cases n with
  | zero=>rfl
  | succ n=>exact ih n fun r=>k (a::r)
theorem lB (l:List α):DC l=l.length:=by
 induction l with
 | nil=>rfl
 | cons a l ih=>exact congrArg Nat.succ ih
end
theorem UN {R:Type} {off:Nat} {m l:List AV} {k:List AV→Option R} {r:R} (h:VQ off m l k=some r):off+m.length≤l.length∧k (l.take off++(m++l.drop (off+m.length)))=some r:=by
 obtain ⟨h1,h2⟩:=AA h
 rw [WD,lF,lF,bE] at h2
 have h3:=Nat.le_of_ble_eq_true h1
 rw [lB,lB] at h3
 rw [lB] at h2
 exact ⟨h3,h2⟩
theorem EL (k:IntKind) (x:Int):wr k x=k.wrap x:=by
 have key:∀ (m:Nat),Nat.blt m (PT k)=true→k.wrap (m:Int)=m:=fun m h=>by
  have h':m<PT k:=by simpa [Nat.blt_eq] using h
  cases k<;>simp only [PT] at h'<;>simp [IntKind.wrap,IntKind.bits,IntKind.signed]<;>omega
 have key2:∀ (m:Nat),sgn k=true→Nat.blt m (PT k)=true→k.wrap (.negSucc m)=.negSucc m:=fun m hs h=>by
  have h':m<PT k:=by simpa [Nat.blt_eq] using h
  have e:(Int.negSucc m) = -(m:Int)-1:=by omega
  rw [e]
  cases k<;>simp only [PT] at h'<;>first | (cases hs; done) | (simp [IntKind.wrap,IntKind.bits,IntKind.signed]; omega)
 cases x with
 | ofNat m =>
  show KA (Nat.blt m (PT k)) (Int.ofNat m) (k.wrap (.ofNat m))=_
  cases h:Nat.blt m (PT k)
  ·rfl
  ·exact (key m h).symm
 | negSucc m =>
  show KA (sgn k) (KA (Nat.blt m (PT k)) (Int.negSucc m) (k.wrap (.negSucc m))) (k.wrap (.negSucc m))=_
  cases hs:sgn k
  ·rfl
  ·cases h:Nat.blt m (PT k)
   ·rfl
   ·exact (key2 m hs h).symm
theorem addI_eq (a b:Int):addI a b=a+b:=by cases a<;>cases b<;>rfl
theorem yQ (a b:Int):AY a b=a-b:=by
 cases a<;>cases b<;>try rfl
 rename_i m n
 show KA (Nat.ble n m) (Int.ofNat (m-n)) _=_
 cases h:Nat.ble n m
 ·rfl
 ·have:=Nat.le_of_ble_eq_true h
  show ((m-n:Nat):Int)=(m:Int)-n
  omega
theorem MZ (a b:Int):mulI a b=a*b:=by cases a<;>cases b<;>rfl
theorem oF (a b:Int):ST a b=decide (a=b):=by
 have nb:∀ m n:Nat,Nat.beq m n=decide (m=n):=fun m n=>by
  rw [Bool.eq_iff_iff]; simp
 cases a<;>cases b
 ·show Nat.beq _ _=_; rw [nb,Bool.eq_iff_iff,decide_eq_true_eq,decide_eq_true_eq]
  exact ⟨fun h=>by rw [h],fun h=>Int.ofNat.inj h⟩
 ·show false=_; simp
 ·show false=_; simp
 ·show Nat.beq _ _=_; rw [nb]; simp
theorem WF (a b:Int):sW a b=decide (a<b):=by
 have nb:∀ m n:Nat,Nat.blt m n=decide (m<n):=fun m n=>by
  rw [Bool.eq_iff_iff]; simp [Nat.blt_eq]
 cases a<;>cases b
 ·show Nat.blt _ _=_; rw [nb]; simp
 ·show false=_
  symm; rw [decide_eq_false_iff_not,Int.ofNat_eq_natCast]; omega
 ·show true=_
  symm; rw [decide_eq_true_eq,Int.ofNat_eq_natCast]; omega
 ·show Nat.blt _ _=_; rw [nb]
  rw [Bool.eq_iff_iff,decide_eq_true_eq,decide_eq_true_eq]; omega
theorem YF {a b:IntKind} (h:Nat.beq (qR a) (qR b)=true):a=b:=by
 have:=Nat.eq_of_beq_eq_true h
 cases a<;>cases b<;>first | rfl | (cases this; done)
theorem iK:∀ l m:List UInt8,LX l m=(l == m)
 | [],[]=>rfl
 | [],_::_=>rfl
 | _::_,[]=>rfl
 | a::l,b::m=>by
  show KA (Nat.beq a.toNat b.toNat) (LX l m) false=_
  rw [iK l m,List.cons_beq_cons]
  by_cases e:a=b
  ·subst e
   have:Nat.beq a.toNat a.toNat=true:=Nat.beq_refl _
   rw [this]; simp [KA]
  ·have h1:Nat.beq a.toNat b.toNat=false:=by
    cases h:Nat.beq a.toNat b.toNat
    ·rfl
    ·exact absurd (UInt8.toNat.inj (Nat.eq_of_beq_eq_true h)) e
   rw [h1]
   have h2:(a == b)=false:=by simpa using e
   rw [h2]; rfl
theorem jF (b:Bool):SF b=!b:=by cases b<;>rfl
theorem MG {v:AV} {j:Nat} (h:PR v=some j):∃ k,v=.int k (j:Int):=by
 obtain ⟨a,h1,h2⟩:=gA h
 have h3:=AV.int_eq h1
 have h4:a.2=(j:Int):=by
  have:bW a.2=some j:=h2
  cases ha:a.2 with
  | ofNat m=>rw [ha] at this; cases this; rfl
  | negSucc m=>rw [ha] at this; cases this
 exact ⟨a.1,by rw [h3,h4]⟩
theorem MX (s:ByteArray):∀ (k i:Nat) (r:List UInt8),s.size-i=k→ByteArray.toList.loop s i r=r.reverse++s.data.toList.drop i
 | 0,i,r,h=>by
  unfold ByteArray.toList.loop
  rw [if_neg (by omega),List.drop_of_length_le (by show s.data.size≤i; have:s.data.size=s.size:=rfl; omega),List.append_nil]
 | k+1,i,r,h=>by
  unfold ByteArray.toList.loop
  rw [if_pos (by omega),MX s k (i+1) _ (by omega)]
  have hi:i<s.data.toList.length:=by show i<s.data.size; have:s.data.size=s.size:=rfl; omega
  rw [List.drop_eq_getElem_cons hi,List.reverse_cons,List.append_assoc]
  have e:s.get! i=s.data.toList[i]:=by
   show s.data[i]! = _
   rw [getElem!_pos s.data i hi]; rfl
  rw [e]; rfl
theorem baList (s:ByteArray):s.toList=s.data.toList:=by
 show ByteArray.toList.loop s 0 []=_
 rw [MX s _ 0 [] rfl]; rfl
theorem leqI (a b:Int):(!decide (b<a))=decide (a≤b):=by rw [← decide_not,decide_eq_decide]; omega
section
variable {K:Kp} {β:Mp} {n:Nat} {ρ:EA} {E:En} {I:Itp}
def HO (K:Kp) (β:Mp) (n:Nat) (E:En) (ρ:EA) (l:List Operand):Prop:=∀ x∈l,∀ v,zD x E=some v→IV K v β (ev n ρ x)
theorem HO.at {l:List Operand} (H:HO K β n E ρ l) {x:Operand} (hx:x∈l) {v:AV} (h:zD x E=some v):IV K v β (ev n ρ x):=H x hx v h
theorem JM {c:Value} {v:AV} (h:ofC c=some v):IV K v β c:=by
 unfold ofC at h
 split at h<;>cases h<;>simp only [IV,nilV]<;>first | exact ⟨trivial,trivial⟩ | rfl
theorem IZ {c:Value} {v:AV} (h:ofC c=some v):c.oneCell'=true:=by
 unfold ofC at h
 split at h<;>cases h<;>rfl
end
end Go.Proofs.YtljlkhobfdofhaaGreatDoor.Rv
namespace Go.Proofs.YtljlkhobfdofhaaGreatDoor.Rv
open Go Vc
attribute [local irreducible] pg
def Lok (o:Oper) (E:En) (A:eF) (v:AV):Prop:=∀ (I:Itp) (w:World) (n:Nat) (ρ:EA),HO I.K I.β n E ρ o.op.operands.toList→MRel I w A→∃ u,IV I.K v I.β u∧Runs pg n ρ o w u w
def Eff (o:Oper) (E:En) (A:eF) (v:AV) (A':eF):Prop:=∀ (I:Itp) (w:World) (n:Nat) (ρ:EA),HO I.K I.β n E ρ o.op.operands.toList→MRel I w A →
 Out pg (fun u w'=>∃ J,Stp I w A J w' A'∧IV J.K v J.β u∧MRel J w' A') ((execOp (ev n ρ) o).run pg w)
def IF (o:Oper) (E:En) (M:Me) (k:Kn) (r:Rs):Prop:=∃ v M',k v M'=some r∧Eff o E M.t v M'.t
section
variable {o:Oper} {E:En} {A:eF} {M:Me} {v:AV} {k:Kn} {r:Rs} {d:Option Nat} {t T S:TypeId} {pos:String} {after:Array Edge} {g:Option (Nat × Bool)} {x y z:Operand} {call:Cl}
theorem Lok.eff (h:Lok o E A v):Eff o E A v A:=fun I w n ρ H HA=>by
 obtain ⟨u,h1,h2⟩:=h I w n ρ H HA
 rw [show (execOp (ev n ρ) o).run pg w=_ from h2]
 exact ⟨I,Stp.refl,h1,HA⟩
theorem Lok.sok (h:Lok o E M.t v) (hk:k v M=some r):IF o E M k r:=⟨v,M,hk,h.eff⟩
theorem CZ (h:UL x call E M k=some r):IF ⟨d,.move x,t,pos,after,g⟩ E M k r:=by
 obtain ⟨v,h1,h2⟩:=gA h
 refine Lok.sok (v:=v) (fun I w n ρ H HA=>⟨ev n ρ x,H x (by simp [Op.operands]) v h1,?_⟩) h2
 simp [Runs,execOp]
theorem QS (h:UL x call E M k=some r):IF ⟨d,.assign x,t,pos,after,g⟩ E M k r:=by
 obtain ⟨v,h1,h2⟩:=gA h
 refine Lok.sok (v:=v) (fun I w n ρ H HA=>⟨ev n ρ x,H x (by simp [Op.operands]) v h1,?_⟩) h2
 simp [Runs,execOp]
theorem BZ (h:aO x y z call E M k=some r):IF ⟨d,.pick x y z,t,pos,after,g⟩ E M k r:=by
 obtain ⟨u,h1,h⟩:=gA h
 obtain ⟨b,h2,h⟩:=gA h
 obtain ⟨v,h3,h4⟩:=gA h
 have hu:=AV.bool_eq h2; subst hu
 refine Lok.sok (v:=v) (fun I w n ρ H HA=>?_) h4
 have hx:=H x (by simp [Op.operands]) _ h1
 simp only [IV] at hx
 cases b
 ·exact ⟨ev n ρ z,H z (by simp [Op.operands]) v h3,by simp [Runs,execOp,hx,asBool]⟩
 ·exact ⟨ev n ρ y,H y (by simp [Op.operands]) v h3,by simp [Runs,execOp,hx,asBool]⟩
theorem QU {op:BinOp} {u v a:AV} {xv yv:Value} {K:Kp} {β:Mp} (w:World) (h:binI op T u v=some a) (hx:IV K u β xv) (hy:IV K v β yv) :
  ∃ c,IV K a β c∧(binOp op T xv yv).run pg w=.ok c w∧(eqGuard op T x y xv yv).run pg w=.ok () w:=by
 obtain ⟨p,h1,h⟩:=gA h
 obtain ⟨q,h2,h⟩:=gA h
 obtain ⟨h3,h4⟩:=AA h
 obtain ⟨k1,i⟩:=p
 obtain ⟨k2,j⟩:=q
 have e1:=AV.int_eq h1; subst e1
 have e2:=AV.int_eq h2; subst e2
 simp only [IV] at hx hy
 subst hx hy
 have hg:(eqGuard op T x y (.int k1 i) (.int k2 j)).run pg w=.ok () w:=by simp [eqGuard]
 have hk:shB op=false→k1=k2:=fun hs=>by
  rw [hs] at h3; exact YF h3
 have cmp:∀ b:Bool,(binOp op T (.int k1 i) (.int k2 j)).run pg w=.ok (.bool b) w→a=.bool b→∃ c,IV K a β c∧(binOp op T (.int k1 i) (.int k2 j)).run pg w=.ok c w∧(eqGuard op T x y (.int k1 i) (.int k2 j)).run pg w=.ok () w :=
  fun b e1 e2=>⟨.bool b,by rw [e2]; simp only [IV],e1,hg⟩
 have num:∀ (kk:IntKind) (b:Int),(binOp op T (.int k1 i) (.int k2 j)).run pg w=.ok (.int kk b) w→a=.int kk b→∃ c,IV K a β c∧(binOp op T (.int k1 i) (.int k2 j)).run pg w=.ok c w∧(eqGuard op T x y (.int k1 i) (.int k2 j)).run pg w=.ok () w :=
  fun kk b e1 e2=>⟨.int kk b,by rw [e2]; simp only [IV],e1,hg⟩
 cases op
 ·obtain rfl:=hk rfl; cases h4; exact num k1 (k1.wrap (i+j)) (by simp [binOp,Op.intArith]) (by rw [EL,addI_eq])
 ·obtain rfl:=hk rfl; cases h4; exact num k1 (k1.wrap (i-j)) (by simp [binOp,Op.intArith]) (by rw [EL,yQ])
 ·obtain rfl:=hk rfl; cases h4; exact num k1 (k1.wrap (i*j)) (by simp [binOp,Op.intArith]) (by rw [EL,MZ])
 ·obtain rfl:=hk rfl
  obtain ⟨h5,h6⟩:=DE h4
  rw [oF,decide_eq_false_iff_not] at h5
  cases h6; exact num k1 (k1.wrap (i.tdiv j)) (by simp [binOp,Op.intDiv,h5]) (by rw [EL])
 ·obtain rfl:=hk rfl
  obtain ⟨h5,h6⟩:=DE h4
  rw [oF,decide_eq_false_iff_not] at h5
  cases h6; exact num k1 (i.tmod j) (by simp [binOp,Op.intDiv,h5]) rfl
 ·obtain rfl:=hk rfl; cases h4; exact num k1 (k1.wrap (BitVec.ofInt k1.bits i&&&BitVec.ofInt k1.bits j).toNat) (by simp [binOp,Op.intBits]) rfl
 ·obtain rfl:=hk rfl; cases h4; exact num k1 (k1.wrap (BitVec.ofInt k1.bits i ||| BitVec.ofInt k1.bits j).toNat) (by simp [binOp,Op.intBits]) rfl
 ·obtain rfl:=hk rfl; cases h4; exact num k1 (k1.wrap (BitVec.ofInt k1.bits i^^^BitVec.ofInt k1.bits j).toNat) (by simp [binOp,Op.intBits]) rfl
 ·obtain ⟨h5,h6⟩:=DE h4
  rw [WF,decide_eq_false_iff_not] at h5
  cases h6; exact num k1 (k1.wrap (i*2 ^ (min j.toNat k1.bits))) (by simp [binOp,Op.shift,h5]) rfl
 ·obtain ⟨h5,h6⟩:=DE h4
  rw [WF,decide_eq_false_iff_not] at h5
  cases h6; exact num k1 (i.fdiv (2 ^ (min j.toNat k1.bits))) (by simp [binOp,Op.shift,h5]) rfl
 ·obtain rfl:=hk rfl; cases h4; exact num k1 (k1.wrap (BitVec.ofInt k1.bits i&&&~~~(BitVec.ofInt k1.bits j)).toNat) (by simp [binOp,Op.intBits]) rfl
 ·obtain rfl:=hk rfl; cases h4; exact cmp (i == j) (by simp [binOp,Op.intCmp]) (by rw [oF,YM])
 ·obtain rfl:=hk rfl; cases h4; exact cmp (i != j) (by simp [binOp,Op.intCmp]) (by rw [jF,oF,bne,YM])
 ·obtain rfl:=hk rfl; cases h4; exact cmp (i<j) (by simp [binOp,Op.intCmp]) (by rw [WF])
 ·obtain rfl:=hk rfl; cases h4; exact cmp (i≤j) (by simp [binOp,Op.intCmp]) (by rw [jF,WF,leqI])
 ·obtain rfl:=hk rfl; cases h4; exact cmp (i > j) (by simp [binOp,Op.intCmp]) (by rw [WF])
 ·obtain rfl:=hk rfl; cases h4; exact cmp (i≥j) (by simp [binOp,Op.intCmp]) (by rw [jF,WF,leqI])
theorem gN {op:BinOp} {b:Bool} {a:AV} (h:eqOp op b=some a):(op=.eql∧a=.bool b)∨(op=.neq∧a=.bool (!b)):=by
 cases op<;>cases h
 ·exact .inl ⟨rfl,rfl⟩
 ·exact .inr ⟨rfl,by rw [jF]⟩
theorem KC {a b:Nat} (h:Nat.beq a b=true):a=b:=Nat.eq_of_beq_eq_true h
theorem yU (h:Nat.beq (pH T) 6=true):pg.underlying T=some .bool:=by
 have this:=KC h
 clear h
 unfold pH at this
 split at this
 ·cases this
 ·cases this
 ·cases this
 ·cases this
 ·cases this
 ·rename_i e; exact e
 ·cases this
theorem pM (h:Nat.beq (pH T) 1=true):pg.underlying T=some .string:=by
 have this:=KC h
 clear h
 unfold pH at this
 split at this
 ·rename_i e; exact e
 ·cases this
 ·cases this
 ·cases this
 ·cases this
 ·cases this
 ·cases this
theorem RU {op:BinOp} {u v a:AV} {xv yv:Value} {K:Kp} {β:Mp} (w:World) (h:binB op T u v=some a) (hx:IV K u β xv) (hy:IV K v β yv) :
  ∃ c,IV K a β c∧(binOp op T xv yv).run pg w=.ok c w∧(eqGuard op T x y xv yv).run pg w=.ok () w:=by
 obtain ⟨p,h1,h⟩:=gA h
 obtain ⟨q,h2,h⟩:=gA h
 obtain ⟨h3,h4⟩:=AA h
 have e1:=AV.bool_eq h1; subst e1
 have e2:=AV.bool_eq h2; subst e2
 simp only [IV] at hx hy
 subst hx hy
 have hT:=yU h3
 have hb:KA p q (SF q)=(p == q):=by cases p<;>cases q<;>rfl
 rw [hb] at h4
 have hq:=BQ (P:=pg) (a:=p) (b:=q) w hT
 rcases gN h4 with ⟨rfl,rfl⟩ | ⟨rfl,rfl⟩
 ·exact ⟨_,by simp only [IV]; rfl,by simp only [binOp,Sem.run_bind,hq,Result.andThen_ok,Sem.run_pure],vH _ _ _⟩
 ·exact ⟨_,by simp only [IV]; rfl,by simp only [binOp,Sem.run_bind,hq,Result.andThen_ok,Sem.run_pure],vH _ _ _⟩
theorem OU {op:BinOp} {u v a:AV} {xv yv:Value} {K:Kp} {β:Mp} (w:World) (h:binS op T u v=some a) (hx:IV K u β xv) (hy:IV K v β yv) :
  ∃ c,IV K a β c∧(binOp op T xv yv).run pg w=.ok c w∧(eqGuard op T x y xv yv).run pg w=.ok () w:=by
 have cmp:∀ op':BinOp,qG op' u v=some a→(op'=.eql∨op'=.neq→op'=op)→(op'=.eql∨op'=.neq)→∃ c,IV K a β c∧(binOp op T xv yv).run pg w=.ok c w∧(eqGuard op T x y xv yv).run pg w=.ok () w:=fun op' hc e0 e00=>by
  clear h
  obtain rfl:=e0 e00
  obtain ⟨p,h1,hc⟩:=gA hc
  obtain ⟨q,h2,h4⟩:=gA hc
  have e1:=AV.str_eq h1; subst e1
  have e2:=AV.str_eq h2; subst e2
  simp only [IV] at hx hy
  subst hx hy
  have tl:∀ l:List UInt8,(ByteArray.mk ⟨l⟩).toList=l:=fun l=>baList _
  rw [iK] at h4
  rcases gN h4 with ⟨rfl,rfl⟩ | ⟨rfl,rfl⟩
  ·exact ⟨_,by simp only [IV]; rfl,by simp [binOp,Op.stringOp,tl],by simp [eqGuard]⟩
  ·exact ⟨_,by simp only [IV]; rfl,by simp [binOp,Op.stringOp,tl],by simp [eqGuard]⟩
 have no:∀ op',op'=BinOp.sub→qG op' u v=some a→False:=fun op' e h=>by
  subst e
  obtain ⟨p,h1,h⟩:=gA h
  obtain ⟨q,h2,h4⟩:=gA h
  cases h4
 cases op
 ·have h:uN u v=some a:=h
  obtain ⟨p,h1,h⟩:=gA h
  obtain ⟨q,h2,h⟩:=gA h
  obtain ⟨h3,h4⟩:=AA h
  rw [lF] at h4
  have e1:=AV.str_eq h1; subst e1
  have e2:=AV.str_eq h2; subst e2
  simp only [IV] at hx hy
  subst hx hy
  cases h4
  have hl:=Nat.le_of_ble_eq_true h3
  rw [lB,lB] at hl
  have hl':¬ (((ByteArray.mk ⟨p⟩).size+(ByteArray.mk ⟨q⟩).size:Nat):Int) > IntKind.i64.max:=by
   show ¬ (((p.length+q.length:Nat):Int) > 9223372036854775807)
   have:p.length+q.length≤1000000:=hl
   omega
  refine ⟨.string ⟨⟨p++q⟩⟩,by simp only [IV],?_,by simp [eqGuard]⟩
  have e:ByteArray.mk ⟨p⟩++ByteArray.mk ⟨q⟩=ByteArray.mk ⟨p++q⟩:=by
   apply ByteArray.ext; rw [ByteArray.data_append]; simp
  simp only [binOp,Op.stringOp,if_neg hl',e,Sem.run_pure]
 all_goals first
  | exact (no _ rfl h).elim
  | exact cmp _ h (fun _=>rfl) (.inl rfl)
  | exact cmp _ h (fun _=>rfl) (.inr rfl)
theorem xQ (h:Nat.beq (pH T) 2=true):∃ e,pg.underlying T=some (.slice e):=by
 have this:=KC h
 clear h
 unfold pH at this
 split at this
 ·cases this
 ·rename_i e he; exact ⟨e,he⟩
 ·cases this
 ·cases this
 ·cases this
 ·cases this
 ·cases this
theorem wY (h:Nat.beq (pH T) 3=true):∃ e f,pg.underlying T=some (.map e f):=by
 have this:=KC h
 clear h
 unfold pH at this
 split at this
 ·cases this
 ·cases this
 ·rename_i e f he; exact ⟨e,f,he⟩
 ·cases this
 ·cases this
 ·cases this
 ·cases this
theorem xY (h:Nat.beq (pH T) 4=true):∃ e,pg.underlying T=some (.interface e):=by
 have this:=KC h
 clear h
 unfold pH at this
 split at this
 ·cases this
 ·cases this
 ·cases this
 ·rename_i e he; exact ⟨e,he⟩
 ·cases this
 ·cases this
 ·cases this
theorem vY (h:Nat.beq (pH T) 5=true):∃ e,pg.underlying T=some (.pointer e):=by
 have this:=KC h
 clear h
 unfold pH at this
 split at this
 ·cases this
 ·cases this
 ·cases this
 ·cases this
 ·rename_i e he; exact ⟨e,he⟩
 ·cases this
 ·cases this
theorem PU {op:BinOp} {u v a:AV} {xv yv:Value} {K:Kp} {β:Mp} (w:World) (h:AT op T (cst y) u v=some a) (hx:IV K u β xv) (hy:IV K v β yv) :
  ∃ c,IV K a β c∧(binOp op T xv yv).run pg w=.ok c w∧(eqGuard op T x y xv yv).run pg w=.ok () w:=by
 obtain ⟨p,h1,h⟩:=gA h
 obtain ⟨b,h2,h4⟩:=gA h
 have e1:=AV.pv_eq h1; subst e1
 simp only [IV] at hy
 obtain ⟨rfl,_⟩:=hy
 have fin:∀ xv:Value,(Op.equal T xv yv).run pg w=.ok b w→(eqGuard .eql T x y xv yv).run pg w=.ok () w∧(eqGuard .neq T x y xv yv).run pg w=.ok () w →
   binOp .eql T xv yv=(do pure (.bool (← Op.equal T xv yv)))∧binOp .neq T xv yv=(do pure (.bool (!(← Op.equal T xv yv)))) →
   ∃ c,IV K a β c∧(binOp op T xv yv).run pg w=.ok c w∧(eqGuard op T x y xv yv).run pg w=.ok () w:=fun xv e1 e2 e3=>by
  rcases gN h4 with ⟨rfl,rfl⟩ | ⟨rfl,rfl⟩
  ·refine ⟨.bool b,by simp only [IV],?_,e2.1⟩
   rw [e3.1]; simp only [Sem.run_bind,e1,Result.andThen_ok,Sem.run_pure]
  ·refine ⟨.bool (!b),by simp only [IV],?_,e2.2⟩
   rw [e3.2]; simp only [Sem.run_bind,e1,Result.andThen_ok,Sem.run_pure]
 unfold nilC at h2
 split at h2
 ·obtain ⟨hT,h2⟩:=AA h2
  obtain ⟨ms,hm⟩:=xY hT
  have q1:∀ d S s,(Op.equalIn (d+1) T (.iface S s) .nilIface).run pg w=.ok false w:=fun d S s=>by simp [Op.equalIn,run_underlying hm]
  have q2:∀ d,(Op.equalIn (d+1) T .nilIface .nilIface).run pg w=.ok true w:=fun d=>by simp [Op.equalIn,run_underlying hm]
  cases hu:u.pv? with
  | none =>
   rw [hu] at h2
   obtain ⟨q,h5,h6⟩:=gA h2
   cases h6
   have e:=AV.iface_eq h5; subst e
   simp only [IV] at hx
   obtain ⟨u',rfl,_⟩:=hx
   refine fin _ (q1 9999 _ _) ⟨by simp [eqGuard],by simp [eqGuard]⟩ ⟨rfl,rfl⟩
  | some q =>
   rw [hu] at h2
   have e:=AV.pv_eq hu; subst e
   simp only [IV] at hx
   obtain ⟨rfl,_⟩:=hx
   dsimp only at h2
   split at h2
   ·obtain ⟨h5,h6⟩:=AA h2
    cases h6
    have hc:∃ c,y=.const c:=by cases y<;>first | exact ⟨_,rfl⟩ | (cases h5; done)
    obtain ⟨c,rfl⟩:=hc
    refine fin _ (q2 9999) ⟨by simp [eqGuard],by simp [eqGuard]⟩ ⟨rfl,rfl⟩
   ·cases h2
 ·obtain ⟨hT,h2⟩:=AA h2
  obtain ⟨e,hm⟩:=xQ hT
  have q1:∀ d (s:Option Addr) m c,(Op.equalIn (d+1) T (.slice s m c) (.slice none 0 0)).run pg w=.ok s.isNone w:=fun d s m c=>by cases s<;>simp [Op.equalIn,run_underlying hm]
  cases hu:u.pv? with
  | none =>
   rw [hu] at h2
   obtain ⟨q,h5,h6⟩:=gA h2
   cases h6
   have e:=AV.sl_eq h5; subst e
   simp only [IV] at hx
   obtain ⟨k',_,rfl,_⟩:=hx
   refine fin _ (q1 9999 _ _ _) ⟨by simp [eqGuard],by simp [eqGuard]⟩ ⟨rfl,rfl⟩
  | some q =>
   rw [hu] at h2
   have e:=AV.pv_eq hu; subst e
   simp only [IV] at hx
   obtain ⟨rfl,_⟩:=hx
   dsimp only at h2
   split at h2
   ·cases h2
    refine fin _ (q1 9999 none 0 0) ⟨by simp [eqGuard],by simp [eqGuard]⟩ ⟨rfl,rfl⟩
   ·cases h2
 ·obtain ⟨hT,h2⟩:=AA h2
  obtain ⟨e,hm⟩:=vY hT
  have q1:∀ d (s:Option Addr),(Op.equalIn (d+1) T (.pointer s) (.pointer none)).run pg w=.ok s.isNone w:=fun d s=>by cases s<;>simp [Op.equalIn,run_underlying hm]
  have fin2:∀ s:Option Addr,s.isNone=b→∃ c,IV K a β c∧(binOp op T (.pointer s) (.pointer none)).run pg w=.ok c w∧(eqGuard op T x y (.pointer s) (.pointer none)).run pg w=.ok () w:=fun s hs=>by
   subst hs
   refine fin _ (q1 9999 s) ⟨by simp [eqGuard],by simp [eqGuard]⟩ ⟨rfl,rfl⟩
  cases hu:u.pv? with
  | none =>
   rw [hu] at h2
   cases hv:u.ptr? with
   | none =>
    rw [hv] at h2
    obtain ⟨q,h5,h6⟩:=gA h2
    have e:=AV.fp_eq h5; subst e
    simp only [IV] at hx
    obtain ⟨_,_,_,_,_,_,rfl,_⟩:=hx
    exact fin2 (some _) (Option.some.inj h6)
   | some q =>
    rw [hv] at h2
    have e:=AV.ptr_eq hv; subst e
    simp only [IV] at hx
    obtain ⟨_,_,rfl⟩:=hx
    exact fin2 (some _) (Option.some.inj h2)
  | some q =>
   rw [hu] at h2
   have e:=AV.pv_eq hu; subst e
   simp only [IV] at hx
   obtain ⟨rfl,_⟩:=hx
   dsimp only at h2
   split at h2
   ·exact fin2 none (Option.some.inj h2)
   ·cases h2
 ·cases h2
theorem ok_bin {op:BinOp} {T':TypeId} (h:ZV op T x y call E M k=some r):IF ⟨d,.binOp op T x y T',t,pos,after,g⟩ E M k r:=by
 obtain ⟨a,h1,h⟩:=gA h
 obtain ⟨b,h2,h⟩:=gA h
 obtain ⟨v,h3,h4⟩:=gA h
 refine Lok.sok (v:=v) (fun I w n ρ H HA=>?_) h4
 have hx:=H x (by simp [Op.operands]) _ h1
 have hy:=H y (by simp [Op.operands]) _ h2
 have key:∃ c,IV I.K v I.β c∧(binOp op T (ev n ρ x) (ev n ρ y)).run pg w=.ok c w∧(eqGuard op T x y (ev n ρ x) (ev n ρ y)).run pg w=.ok () w:=by
  cases a<;>first | (cases h3; done) | exact QU w h3 hx hy | exact RU w h3 hx hy | exact OU w h3 hx hy | exact PU w h3 hx hy
 obtain ⟨c,e1,e2,e3⟩:=key
 exact ⟨c,e1,by simp [Runs,execOp,e2,e3]⟩
end
end Go.Proofs.YtljlkhobfdofhaaGreatDoor.Rv
namespace Go.Proofs.YtljlkhobfdofhaaGreatDoor.Rv
open Go Vc
attribute [local irreducible] pg
section
variable {o:Oper} {E:En} {A:eF} {M:Me} {v:AV} {k:Kn} {r:Rs} {d:Option Nat} {t T S:TypeId} {pos:String} {after:Array Edge} {g:Option (Nat × Bool)} {x y z:Operand} {call:Cl} {I:Itp} {w:World}
theorem ok_un {op:UnOp} (h:oUn op x call E M k=some r):IF ⟨d,.unOp op T x,t,pos,after,g⟩ E M k r:=by
 obtain ⟨a,h1,h⟩:=gA h
 obtain ⟨v,h3,h4⟩:=gA h
 refine Lok.sok (v:=v) (fun I w n ρ H HA=>?_) h4
 have hx:=H x (by simp [Op.operands]) _ h1
 cases op
 ·obtain ⟨p,h5,h6⟩:=gA (show (mA a.int? fun a=>some (.int a.1 (wr a.1 (AY 0 a.2))))=some v from h3)
  have e:=AV.int_eq h5; subst e
  simp only [IV] at hx
  cases h6
  exact ⟨.int p.1 (p.1.wrap (0-p.2)),by simp only [IV,EL,yQ],by simp [Runs,execOp,hx,Op.unary,Op.intArith]⟩
 ·cases h3
 ·obtain ⟨p,h5,h6⟩:=gA (show (mA a.bool? fun b=>some (.bool (SF b)))=some v from h3)
  have e:=AV.bool_eq h5; subst e
  simp only [IV] at hx
  cases h6
  exact ⟨.bool (!p),by simp only [IV,jF],by simp [Runs,execOp,hx,Op.unary]⟩
 ·cases h3
theorem XM {K:Kp} {β:Mp} {l:List AV} {us:LV} {i:Nat} {v:AV} (H:IVs K l β us) (h:LM l i=some v):∃ u,us[i]?=some u∧IV K v β u:=IVs.at H (by rw [← mF]; exact h)
theorem uO {K:Kp} {β:Mp} {l:List AV} {us:LV} {off b q:Nat} {cs:Array Value} {X:TypeId} {fr:Nat × Nat} {n:Nat} {ρ:EA} (h:yF T l off=some v) (H:IVs K l β us)
  (hc:w.heap[b]?=some (.cells cs X fr)) (hx:ev n ρ x=.pointer (some ⟨b,q+off,none⟩)) (hu:∀ (i:Nat) (u:Value),us[i]?=some u→cs[q+i]?=some u) :
  ∃ u,IV K v β u∧Runs pg n ρ ⟨d,.load T x,t,pos,after,g⟩ w u w:=by
 unfold yF at h
 cases h1:QA pg T with
 | true =>
  rw [h1,tC] at h
  obtain ⟨u,e1,e2⟩:=XM H h
  exact ⟨u,e2,FA h1 hc hx (hu _ _ e1)⟩
 | false =>
  rw [h1,BD] at h
  obtain ⟨h2,h⟩:=AA h
  obtain ⟨s,h3,h⟩:=gA h
  obtain ⟨h0,h⟩:=AA h
  obtain ⟨h4,h⟩:=AA h
  have h0':1≤s:=Nat.le_of_ble_eq_true h0
  rw [WD,bE] at h
  cases h
  have h5:=Nat.le_of_ble_eq_true h4
  rw [lB] at h5
  have h5':off+s≤l.length:=h5
  have hl:=H.len
  have hcs:q+off+s≤cs.size:=by
   have e1:off+s-1<us.length:=by omega
   have:=hu (off+s-1) us[off+s-1] (by simp [e1])
   have:=(Array.getElem?_eq_some_iff.1 this).1
   omega
  refine ⟨.agg ((us.drop off).take s).toArray,?_,kB h2 h3 hc hx hcs ?_⟩
  ·simp only [IV]; exact ⟨_,rfl,IVs.take s (IVs.drop off H)⟩
  ·apply Array.ext'
   apply List.ext_getElem?
   intro i
   simp only [Array.toList_extract,List.extract_eq_take_drop,List.getElem?_take,List.getElem?_drop]
   have e0:q+off+s-(q+off)=s:=by omega
   rw [e0]
   by_cases hi:i<s
   ·rw [if_pos hi,if_pos hi]
    have e1:off+i<us.length:=by omega
    have:=hu (off+i) us[off+i] (by simp [e1])
    rw [Array.getElem?_toList,show q+off+i=q+(off+i) by omega,this]; simp [e1]
   ·rw [if_neg hi,if_neg hi]
theorem wH {id:Pa} {gr:List (List AV)} (h:grp A id=some gr):∃ z,get id A=some (.cells z gr):=by
 obtain ⟨o,h1,h2⟩:=gA h
 cases o with
 | cells z g=>cases h2; exact ⟨z,h1⟩
 | mp l=>cases h2
 | dead=>cases h2
theorem obj_ok {id:Pa} {p:Nat × List (List AV)} (h:obj A id=some p):get id A=some (.cells p.1 p.2):=by
 obtain ⟨o,h1,h2⟩:=gA h
 cases o with
 | cells z g=>cases h2; exact h1
 | mp l=>cases h2
 | dead=>cases h2
theorem SP {id:Pa} {l:List (Value × AV)} (h:mpo A id=some l):get id A=some (.mp l):=by
 obtain ⟨o,h1,h2⟩:=gA h
 cases o with
 | cells z g=>cases h2
 | mp l=>cases h2; exact h1
 | dead=>cases h2
theorem MRel.group (HA:MRel I w A) {id:Pa} {zz i:Nat} {gr:List (List AV)} {l:List AV} {bk:Bk} (h:get id A=some (.cells zz gr)) (hk:I.β id=some bk) (hi:gr[i]?=some l) :
  ∃ us cs X,IVs I.K l I.β us∧w.heap[bk.b]?=some (.cells cs X (0,0))∧∀ (j:Nat) (u:Value),us[j]?=some u→cs[bk.o+i*bk.z+j]?=some u:=by
 obtain ⟨k',h1,_,hz,hl,pre,vs,ex,X,h2,h3,h4,_⟩:=HA.own _ _ h (by intro e; cases e)
 rw [hk] at h1; cases h1
 obtain ⟨a,us,s,e1,e2,e3,_,_⟩:=IVss.at h4 hl hi
 refine ⟨us,_,X,e3,h2,fun j u hj=>?_⟩
 have hj':=(List.getElem?_eq_some_iff.1 hj).1
 rw [List.getElem?_toArray,List.getElem?_append_right (by omega),e1,List.append_assoc,List.getElem?_append_right (by rw [e2,hz]; omega),List.append_assoc,List.getElem?_append_left (by rw [e2,hz]; omega)]
 rw [show bk.o+i*bk.z+j-pre.length-a.length=j by rw [e2,hz]; omega]
 exact hj
theorem tO {a v:AV} (h1:zD x E=some a) (h3:load T A a=some v):Lok ⟨d,.load T x,t,pos,after,g⟩ E A v:=fun I w n ρ H HA=>by
 have hx:=H x (by simp [Op.operands]) _ h1
 unfold load at h3
 cases hp:a.ptr? with
 | none =>
  rw [hp] at h3
  obtain ⟨l,h5,h6⟩:=gA (show (mA a.fp? fun l=>yF T l 0)=some v from h3)
  have e:=AV.fp_eq h5; subst e
  simp only [IV] at hx
  obtain ⟨b,q,cs,X,fr,us,hx,hK,hI,hu⟩:=hx
  have hI':IVs I.K l I.β us:=IVs.up (Kle.refl _) l (fun _ _ e=>by cases e) us hI
  exact uO (q:=q) h6 hI' (HA.kept _ _ hK) hx hu
 | some p =>
  rw [hp] at h3
  obtain ⟨gr,h5,h6⟩:=gA (show (mA (grp A p.1) fun g=>mA (LM g p.2.1) fun l=>yF T l p.2.2)=some v from h3)
  obtain ⟨l,h7,h8⟩:=gA h6
  have e:=AV.ptr_eq hp; subst e
  simp only [IV] at hx
  obtain ⟨bk,hk,hx⟩:=hx
  obtain ⟨zz,h9⟩:=wH h5
  rw [mF] at h7
  obtain ⟨us,cs,X,e1,e2,e3⟩:=HA.group h9 hk h7
  exact uO (q:=bk.o+p.2.1*bk.z) h8 e1 e2 hx e3
theorem DZ (h:bO T x call E M k=some r):IF ⟨d,.load T x,t,pos,after,g⟩ E M k r:=by
 obtain ⟨a,h1,h⟩:=gA h
 obtain ⟨v,h3,h4⟩:=gA h
 exact Lok.sok (tO h1 h3) h4
end
end Go.Proofs.YtljlkhobfdofhaaGreatDoor.Rv
namespace Go.Proofs.YtljlkhobfdofhaaGreatDoor.Rv
open Go Vc
attribute [local irreducible] pg
section
variable {o:Oper} {E:En} {A:eF} {M:Me} {v:AV} {k:Kn} {r:Rs} {d:Option Nat} {t T S:TypeId} {pos:String} {after:Array Edge} {g:Option (Nat × Bool)} {x y z:Operand} {call:Cl} {I:Itp} {w:World}
theorem ok_nil (h:TV x call E M k=some r):IF ⟨d,.nilCheck x,t,pos,after,g⟩ E M k r:=by
 obtain ⟨a,h1,h⟩:=gA h
 obtain ⟨b,h3,h⟩:=gA h
 obtain ⟨rfl,h4⟩:=DE h
 refine Lok.sok (v:=a) (fun I w n ρ H HA=>?_) h4
 have hx:=H x (by simp [Op.operands]) _ h1
 refine ⟨ev n ρ x,hx,?_⟩
 cases a<;>(try cases h3)<;>simp only [IV] at hx
 ·obtain ⟨_,_,e⟩:=hx; simp [Runs,execOp,e]
 ·obtain ⟨_,_,e,_⟩:=hx; simp [Runs,execOp,e]
 ·obtain ⟨_,_,_,_,_,_,e,_⟩:=hx; simp [Runs,execOp,e]
 ·obtain ⟨_,e,_⟩:=hx; simp [Runs,execOp,e]
 ·obtain ⟨_,e,_⟩:=hx; simp [Runs,execOp,e]
 ·obtain ⟨_,_,e⟩:=hx; simp [Runs,execOp,e]
theorem ok_flA {f:Nat} (h:XV S x f call E M k=some r):IF ⟨d,.fieldAddr S x f,t,pos,after,g⟩ E M k r:=by
 obtain ⟨a,h1,h⟩:=gA h
 obtain ⟨v,h3,h4⟩:=gA h
 refine Lok.sok (v:=v) (fun I w n ρ H HA=>?_) h4
 have hx:=H x (by simp [Op.operands]) _ h1
 unfold lX at h3
 obtain ⟨q,h5,h3⟩:=gA h3
 obtain ⟨h6,h3⟩:=DE h3
 have hz:q.2.1≠0:=fun e=>by rw [e] at h6; cases h6
 cases hp:a.ptr? with
 | none =>
  rw [hp] at h3
  obtain ⟨l,h7,h8⟩:=gA (show (mA a.fp? fun l=>some (.fp (yI q.1 l)))=some v from h3)
  have e:=AV.fp_eq h7; subst e
  cases h8
  simp only [IV] at hx
  obtain ⟨b,o,cs,X,fr,us,hx,hK,hI,hu⟩:=hx
  refine ⟨.pointer (some ⟨b,o+q.1,none⟩),?_,vA h5 hz hx rfl⟩
  simp only [IV,bE]
  exact ⟨b,o+q.1,cs,X,fr,us.drop q.1,rfl,hK,IVs.drop _ hI,fun i u hi=>by
   rw [List.getElem?_drop] at hi
   have:=hu _ _ hi
   rw [show o+q.1+i=o+(q.1+i) by omega]; exact this⟩
 | some p =>
  rw [hp] at h3
  cases h3
  have e:=AV.ptr_eq hp; subst e
  simp only [IV] at hx
  obtain ⟨bk,hk,hx⟩:=hx
  exact ⟨.pointer (some ⟨bk.b,bk.o+p.2.1*bk.z+(p.2.2+q.1),none⟩),by simp only [IV]; exact ⟨bk,hk,rfl⟩,vA h5 hz hx (by omega)⟩
theorem ok_fld {f:Nat} (h:WV S x f call E M k=some r):IF ⟨d,.field S x f,t,pos,after,g⟩ E M k r:=by
 obtain ⟨a,h1,h⟩:=gA h
 obtain ⟨l,h2,h⟩:=gA h
 obtain ⟨p,h3,h⟩:=gA h
 obtain ⟨v,h5,h4⟩:=gA h
 have e:=AV.agg_eq h2; subst e
 refine Lok.sok (v:=v) (fun I w n ρ H HA=>?_) h4
 have hx:=H x (by simp [Op.operands]) _ h1
 simp only [IV] at hx
 obtain ⟨us,hx,hI⟩:=hx
 unfold yF at h5
 cases h6:QA pg p.2.2 with
 | true =>
  rw [h6,tC] at h5
  obtain ⟨u,e1,e2⟩:=XM hI h5
  exact ⟨u,e2,qV h3 h6 hx (by simpa using e1)⟩
 | false =>
  rw [h6,BD] at h5
  obtain ⟨h7,h5⟩:=AA h5
  obtain ⟨s,h8,h5⟩:=gA h5
  obtain ⟨_,h5⟩:=AA h5
  obtain ⟨h9,h5⟩:=AA h5
  rw [WD,bE] at h5
  cases h5
  have hs:p.2.1=s:=by
   have h3':mC pg S f=some p:=h3
   unfold mC at h3'
   split at h3'
   ·obtain ⟨fl,e1,e2⟩:=Option.bind_eq_some_iff.1 h3'
    obtain ⟨s',e3,e4⟩:=Option.map_eq_some_iff.1 e2
    cases e4
    rw [e3] at h8; cases h8; rfl
   ·cases h3'
  refine ⟨.agg ((us.drop p.1).take s).toArray,by simp only [IV]; exact ⟨_,rfl,IVs.take s (IVs.drop _ hI)⟩,?_⟩
  refine pV (o:=p.1) (z:=s) (U:=p.2.2) (by rw [← hs]; exact h3) h7 hx ?_
  apply Array.ext'
  simp only [Array.toList_extract,List.extract_eq_take_drop,Nat.add_sub_cancel_left]
theorem HF {b q:Nat} (m:Nat):(⟨b,q,none⟩:Addr).add m=⟨b,q+m,none⟩:=by
 unfold Addr.add; split
 ·rename_i h; subst h; rfl
 ·rfl
theorem mV {n:Nat} {ρ:EA} {e:TypeId} {z m c j q b:Nat} {kk:IntKind} (hT:qD pg T=some (e,z)) (hx:ev n ρ x=.slice (some ⟨b,q,none⟩) m c) (hy:ev n ρ y=.int kk (j:Int)) (hj:j<m) :
  Runs pg n ρ ⟨d,.indexAddr T x y,t,pos,after,g⟩ w (.pointer (some ⟨b,q+j*z,none⟩)) w:=by
 unfold qD at hT
 split at hT
 ·rename_i e' hu
  simp only [Option.map_eq_some_iff,Prod.mk.injEq] at hT
  obtain ⟨z',hz,rfl,rfl⟩:=hT
  have h1:(0:Int)≤(j:Int)∧(j:Int)<(m:Int):=by omega
  simp [Runs,execOp,hx,hy,Instr.indexAt,asIntOf,run_underlying hu,h1,hj,MC hz,HF]
 ·cases hT
theorem ok_ixA (h:VV T x y call E M k=some r):IF ⟨d,.indexAddr T x y,t,pos,after,g⟩ E M k r:=by
 obtain ⟨a,h1,h⟩:=gA h
 obtain ⟨u,h2,h⟩:=gA h
 obtain ⟨j,h3,h⟩:=gA h
 obtain ⟨v,h5,h4⟩:=gA h
 obtain ⟨kk,rfl⟩:=MG h3
 refine Lok.sok (v:=v) (fun I w n ρ H HA=>?_) h4
 have hx:=H x (by simp [Op.operands]) _ h1
 have hy:=H y (by simp [Op.operands]) _ h2
 simp only [IV] at hy
 have no:idxA T a j=none→False:=fun e=>by rw [e] at h5; cases h5
 cases a with
 | ptr id i off =>
  obtain ⟨q,h6,h5⟩:=gA (show ixP (.ptr id i off) T j=some v from h5)
  cases h6
  obtain ⟨p,h7,h5⟩:=gA h5
  obtain ⟨h8,h5⟩:=AA h5
  cases h5
  have h8':j<p.1:=by simpa [Nat.blt_eq] using h8
  simp only [IV] at hx
  obtain ⟨bk,hk,hx⟩:=hx
  exact ⟨.pointer (some ⟨bk.b,bk.o+i*bk.z+(off+j*p.2),none⟩),by simp only [IV]; exact ⟨bk,hk,rfl⟩,LA h7 hx hy rfl h8' (by omega)⟩
 | sl id o m z =>
  obtain ⟨q,h6,h5⟩:=gA (show ixS (.sl id o m z) T j=some v from h5)
  cases h6
  obtain ⟨p,h7,h5⟩:=gA h5
  obtain ⟨h8,h5⟩:=AA h5
  obtain ⟨h9,h5⟩:=AA h5
  cases h5
  have h8':p.2=z:=KC h8
  have h9':j<m:=by simpa [Nat.blt_eq] using h9
  simp only [IV] at hx
  obtain ⟨bk,hk,hx,_,hz⟩:=hx
  have h7':qD pg T=some (p.1,bk.z):=by rw [h7,hz,← h8']
  refine ⟨_,?_,mV h7' hx hy h9'⟩
  simp only [IV]
  exact ⟨bk,hk,by show _=Value.pointer (some ⟨bk.b,bk.o+(o+j)*bk.z+0,none⟩); rw [Nat.add_mul,Nat.add_zero,Nat.add_assoc]⟩
 | lst z l =>
  obtain ⟨q,h6,h5⟩:=gA (show ixL (.lst z l) T j=some v from h5)
  cases h6
  obtain ⟨p,h7,h5⟩:=gA h5
  obtain ⟨h8,h5⟩:=AA h5
  obtain ⟨c,h9,h5⟩:=gA h5
  cases h5
  have h8':p.2=z:=KC h8
  rw [mF] at h9
  simp only [IV] at hx
  obtain ⟨ad,cp,us,hx,hI,hl,hb⟩:=hx
  have hj:j<l.length:=(List.getElem?_eq_some_iff.1 h9).1
  rcases hb with rfl | ⟨b,o,cs,X,fr,rfl,hK,hu⟩
  ·simp at hj
  ·obtain ⟨a1,a2,a3,e1,e2,e3,_,_⟩:=IVss.at hI hl h9
   have h7':qD pg T=some (p.1,z):=by rw [h7,← h8']
   refine ⟨_,?_,mV h7' hx hy hj⟩
   simp only [IV]
   refine ⟨b,o+j*z,cs,X,fr,a2,rfl,hK,e3,fun i u hi=>?_⟩
   have hi':=(List.getElem?_eq_some_iff.1 hi).1
   have:=hu (j*z+i) u (by rw [e1,List.getElem?_append_right (by omega),e2,Nat.add_sub_cancel_left,List.getElem?_append_left hi']; exact hi)
   rw [Nat.add_assoc]; exact this
 | _=>exact (no rfl).elim
end
end Go.Proofs.YtljlkhobfdofhaaGreatDoor.Rv
namespace Go.Proofs.YtljlkhobfdofhaaGreatDoor.Rv
open Go Vc
attribute [local irreducible] pg
section
variable {o:Oper} {E:En} {A:eF} {M:Me} {v:AV} {k:Kn} {r:Rs} {d:Option Nat} {t T S:TypeId} {pos:String} {after:Array Edge} {g:Option (Nat × Bool)} {x y z:Operand} {call:Cl} {I:Itp} {w:World}
theorem GJ {a b:Nat} (h:Nat.blt a b=true):a<b:=by simpa [Nat.blt_eq] using h
theorem ok_ix (h:oIx T x y call E M k=some r):IF ⟨d,.index T x y,t,pos,after,g⟩ E M k r:=by
 obtain ⟨a,h1,h⟩:=gA h
 obtain ⟨u,h2,h⟩:=gA h
 obtain ⟨j,h3,h⟩:=gA h
 obtain ⟨v,h5,h4⟩:=gA h
 obtain ⟨kk,rfl⟩:=MG h3
 refine Lok.sok (v:=v) (fun I w n ρ H HA=>?_) h4
 have hx:=H x (by simp [Op.operands]) _ h1
 have hy:=H y (by simp [Op.operands]) _ h2
 simp only [IV] at hy
 unfold idx at h5
 cases hp:a.str? with
 | none =>
  rw [hp] at h5
  obtain ⟨l,h6,h50⟩:=gA (show (mA a.agg? fun l=>mA (arr1 T) fun m=>KA (Nat.blt j m) (LM l j) none)=some v from h5)
  obtain ⟨m,h7,h51⟩:=gA h50
  obtain ⟨h8,h52⟩:=AA h51
  clear h5
  have h8':j<m:=GJ h8
  have e:=AV.agg_eq h6; subst e
  simp only [IV] at hx
  obtain ⟨us,hx,hI⟩:=hx
  obtain ⟨u,e1,e2⟩:=XM hI h52
  unfold arr1 at h7
  split at h7
  ·rename_i m' e hu
   obtain ⟨h9,h7⟩:=AA h7
   obtain ⟨z,h10,h7⟩:=gA h7
   obtain ⟨h11,h7⟩:=AA h7
   have h11':=KC h11
   subst h11'
   cases h7
   exact ⟨u,e2,QN hu h9 h10 hx hy rfl h8' (by rw [Nat.mul_one]; simpa using e1)⟩
  ·cases h7
 | some l =>
  rw [hp] at h5
  obtain ⟨h6,h5⟩:=AA (show KA (Nat.beq (pH T) 1) (mA (LM l j) fun b=>some (.int .u8 (.ofNat b.toNat))) none=some v from h5)
  obtain ⟨b,h7,h5⟩:=gA h5
  cases h5
  have e:=AV.str_eq hp; subst e
  simp only [IV] at hx
  rw [mF] at h7
  have hj:=(List.getElem?_eq_some_iff.1 h7).1
  have hs:(ByteArray.mk ⟨l⟩)[j]?=some b:=by
   have h0:j<(ByteArray.mk ⟨l⟩).size:=hj
   rw [getElem?_pos _ j h0]
   have:=(List.getElem?_eq_some_iff.1 h7).2
   exact congrArg some this
  refine ⟨.int .u8 (b.toNat:Int),by simp only [IV]; rfl,?_⟩
  have h0:(0:Int)≤(j:Int):=by omega
  simp [Runs,execOp,hx,hy,Instr.index,asIntOf,run_underlying (pM h6),hs]
theorem ok_ext {i:Nat} (h:YV x i call E M k=some r):IF ⟨d,.extract x i,t,pos,after,g⟩ E M k r:=by
 obtain ⟨a,h1,h⟩:=gA h
 obtain ⟨l,h2,h⟩:=gA h
 obtain ⟨v,h3,h4⟩:=gA h
 have e:=AV.tup_eq h2; subst e
 refine Lok.sok (v:=v) (fun I w n ρ H HA=>?_) h4
 have hx:=H x (by simp [Op.operands]) _ h1
 simp only [IV] at hx
 obtain ⟨us,hx,hI⟩:=hx
 rw [mF] at h3
 obtain ⟨u,e1,e2⟩:=IVt.at hI h3
 exact ⟨u,e2,ML hx (by simpa using e1)⟩
theorem ok_mkI (h:UV T x call E M k=some r):IF ⟨d,.makeInterface T x,t,pos,after,g⟩ E M k r:=by
 obtain ⟨a,h1,h⟩:=gA h
 obtain ⟨h2,h⟩:=DE h
 obtain ⟨ty,h3,h4⟩:=gA h
 refine Lok.sok (v:=.iface T a) (fun I w n ρ H HA=>?_) h4
 have hx:=H x (by simp [Op.operands]) _ h1
 refine ⟨.iface T (ev n ρ x),by simp only [IV]; exact ⟨_,rfl,hx⟩,?_⟩
 have hn:∀ ms,ty≠.interface ms:=fun ms e=>by
  subst e
  have:pH T=4:=by unfold pH; rw [h3]
  rw [this] at h2; cases h2
 cases ty<;>first | exact (hn _ rfl).elim | (simp [Runs,execOp,Instr.makeInterface,run_underlying h3]; done)
theorem fN {K:Kp} {β:Mp} {n:Nat} {ρ:EA}:∀ {l:List Operand} {xs:List AV},evL E l=some xs→HO K β n E ρ l→IVt K xs β (l.map (ev n ρ))
 | [],xs,h,H=>by cases h; simp only [IVt,List.map_nil]
 | x::l,xs,h,H=>by
  obtain ⟨v,h1,h⟩:=gA (show (mA (zD x E) fun v=>mA (evL E l) fun r=>some (v::r))=some xs from h)
  obtain ⟨q,h2,h3⟩:=gA h
  cases h3
  simp only [IVt,List.map_cons]
  exact ⟨_,_,rfl,H x (List.mem_cons_self) v h1,fN h2 fun y hy=>H y (List.mem_cons_of_mem _ hy)⟩
theorem ok_mkF {f:Fn} {fst cap:Array Operand} (h:RS f cap call E M k=some r) (hf:fst=#[]):IF ⟨d,.makeFunc f fst cap,t,pos,after,g⟩ E M k r:=by
 subst hf
 unfold RS at h
 cases f<;>first | (cases h; done) | skip
 obtain ⟨l,h1,h4⟩:=gA h
 refine Lok.sok (fun I w n ρ H HA=>?_) h4
 have hx:=fN h1 (K:=I.K) (β:=I.β) (n:=n) (ρ:=ρ) fun y hy=>H y (by simpa [Op.operands] using hy)
 refine ⟨_,by simp only [IV]; exact ⟨_,rfl,hx⟩,?_⟩
 have e:Array.map (ev n ρ) cap=(List.map (ev n ρ) cap.toList).toArray:=by apply Array.ext'; simp
 simp [Runs,execOp,Instr.makeFunc,e]
theorem RJ {K:Kp} {β:Mp} {a:AV} {u:Value} (h:fJ a=true) (hx:IV K a β u):u=.slice none 0 0:=by
 unfold fJ at h
 cases hp:a.pv? with
 | none=>rw [hp] at h; cases h
 | some p =>
  rw [hp] at h
  have e:=AV.pv_eq hp; subst e
  simp only [IV] at hx
  obtain ⟨rfl,_⟩:=hx
  dsimp only at h
  split at h
  ·rfl
  ·cases h
theorem lenV_ok {n m:Nat} {ρ:EA} {a:AV} (h:VM T A a=some m) (hx:IV I.K a I.β (ev n ρ x)) (HA:MRel I w A):Runs pg n ρ ⟨d,.call ⟨.builtin .len,#[x],#[T]⟩,t,pos,after,g⟩ w (.int .i64 (m:Int)) w:=by
 have sl:∀ (ad:Option Addr) (c:Nat),Nat.beq (pH T) 2=true→ev n ρ x=.slice ad m c→Runs pg n ρ ⟨d,.call ⟨.builtin .len,#[x],#[T]⟩,t,pos,after,g⟩ w (.int .i64 (m:Int)) w:=fun ad c hT e=>by
  obtain ⟨e',hu⟩:=xQ hT
  simp [Runs,execOp,resolve,e,invoke,builtin,Builtin.len_,run_underlying hu,goInt]
 have no:VM T A a=none→False:=fun e=>by rw [e] at h; cases h
 cases a with
 | pv p =>
  cases hn:fJ (.pv p) with
  | false=>exact (no (by show KA (fJ (.pv p)) (lnE T A (.pv p)) none=none; rw [hn]; rfl)).elim
  | true =>
   have h':KA (fJ (.pv p)) (lnE T A (.pv p)) none=some m:=h
   rw [hn,tC] at h'
   obtain ⟨hT,h2⟩:=AA h'
   cases h2
   exact sl _ _ hT (RJ hn hx)
 | str l =>
  obtain ⟨hT,h2⟩:=AA (show lnI T A (.str l)=some m from h)
  obtain ⟨l',h3,h2⟩:=gA h2
  cases h3; cases h2
  simp only [IV] at hx
  rw [lB]
  exact lV (pM hT) hx
 | sl id o n' z =>
  obtain ⟨hT,h2⟩:=AA (show lnS T A (.sl id o n' z)=some m from h)
  obtain ⟨l',h3,h2⟩:=gA h2
  cases h3; cases h2
  simp only [IV] at hx
  obtain ⟨_,_,hx,_⟩:=hx
  exact sl _ _ hT hx
 | e0 =>
  obtain ⟨hT,h2⟩:=AA (show lnE T A .e0=some m from h)
  cases h2
  simp only [IV] at hx
  obtain ⟨_,hx⟩:=hx
  exact sl _ _ hT hx
 | lst z l =>
  obtain ⟨hT,h2⟩:=AA (show lnL T A (.lst z l)=some m from h)
  obtain ⟨l',h3,h2⟩:=gA h2
  cases h3; cases h2
  simp only [IV] at hx
  obtain ⟨_,_,_,hx,_⟩:=hx
  rw [lB] at sl ⊢
  exact sl _ _ hT hx
 | map id =>
  obtain ⟨hT,h2⟩:=AA (show lnM T A (.map id)=some m from h)
  obtain ⟨id',h3,h2⟩:=gA h2
  cases h3
  obtain ⟨l,h4,h2⟩:=gA h2
  cases h2
  simp only [IV] at hx
  obtain ⟨bk,hk,hx⟩:=hx
  obtain ⟨bk',hk',_,es,clk,hb,he⟩:=HA.own _ _ (SP h4) (by intro e; cases e)
  rw [hk] at hk'; cases hk'
  obtain ⟨e1,e2,hu⟩:=wY hT
  have hl:∀ {l:List (Value × AV)} {es:List MapEntry},EntR I.K I.β l es→es.length=l.length:=fun {l}=>by
   induction l with
   | nil=>intro es h; cases h; rfl
   | cons p l ih=>intro es h; obtain ⟨_,_,rfl,_,_,h⟩:=h; simp [ih h]
  have hg:(getObj bk.b).run pg w=.ok (.map es.toArray clk) w:=by simp [getObj,Sem.run,hb]
  rw [lB,← hl he]
  simp [Runs,execOp,resolve,hx,invoke,builtin,Builtin.len_,run_underlying hu,goInt,hg]
 | _=>exact (no rfl).elim
theorem ok_len (h:FX x T call E M k=some r):IF ⟨d,.call ⟨.builtin .len,#[x],#[T]⟩,t,pos,after,g⟩ E M k r:=by
 obtain ⟨a,h1,h⟩:=gA h
 obtain ⟨m,h3,h4⟩:=gA h
 refine Lok.sok (fun I w n ρ H HA=>?_) h4
 have hx:=H x (by simp [Op.operands,Call.operands]) _ h1
 exact ⟨.int .i64 (m:Int),by simp only [IV]; rfl,lenV_ok h3 hx HA⟩
theorem conv_ok {a:AV} {u:Value} {K:Kp} {β:Mp} (h:conv a (dG S T)=some v) (hx:IV K a β u):∃ c,IV K v β c∧(convert S T u).run pg w=.ok c w:=by
 have no:conv a (dG S T)=none→False:=fun e=>by rw [e] at h; cases h
 cases a with
 | int kk i =>
  obtain ⟨q,h1,h2⟩:=gA (show conI (.int kk i) (dG S T)=some v from h)
  cases h1
  simp only [IV] at hx
  subst hx
  cases hc:dG S T with
  | i k' =>
   rw [hc] at h2
   cases h2
   unfold dG at hc
   split at hc<;>(try (cases hc; done))
   ·rename_i sd k2 hs ht
    cases hc
    exact ⟨.int k' (k'.wrap i),by simp only [IV,EL],by simp [convert,run_underlying hs,run_underlying ht,Conv.intToInt]⟩
   ·rename_i e hs ht
    split at hc<;>cases hc
  | s =>
   rw [hc] at h2
   obtain ⟨m,h3,h2⟩:=gA h2
   obtain ⟨h4,h2⟩:=AA h2
   cases h2
   have hi:i=(m:Int):=by
    have:bW i=some m:=h3
    cases i with
    | ofNat q=>cases this; rfl
    | negSucc q=>cases this
   subst hi
   have hm:=GJ h4
   unfold dG at hc
   split at hc<;>(try (cases hc; done))
   ·rename_i sd hs ht
    refine ⟨.string ⟨⟨[UInt8.ofNat m]⟩⟩,by simp only [IV],?_⟩
    have e:(Conv.intToString (m:Int)).run pg w=.ok (.string ⟨⟨[UInt8.ofNat m]⟩⟩) w:=by
     have hv:Utf8.valid (m:Int)=true:=by simp [Utf8.valid]; omega
     simp [Conv.intToString,Utf8.encode,hv,hm]
    simp [convert,run_underlying hs,run_underlying ht,e]
   ·rename_i e hs ht
    split at hc<;>cases hc
  | b=>rw [hc] at h2; cases h2
  | x=>rw [hc] at h2; cases h2
 | str l =>
  obtain ⟨q,h1,h2⟩:=gA (show conS (.str l) (dG S T)=some v from h)
  cases h1
  simp only [IV] at hx
  subst hx
  cases hc:dG S T with
  | s =>
   rw [hc] at h2
   cases h2
   unfold dG at hc
   split at hc<;>(try (cases hc; done))
   ·rename_i sd hs ht
    exact ⟨.string ⟨⟨l⟩⟩,by simp only [IV],by cases sd<;>simp [convert,run_underlying hs,run_underlying ht]⟩
   ·rename_i e hs ht
    split at hc<;>cases hc
  | i k'=>rw [hc] at h2; cases h2
  | b=>rw [hc] at h2; cases h2
  | x=>rw [hc] at h2; cases h2
 | _=>exact (no rfl).elim
theorem NP (h:cO x (dG S T) call E M k=some r):IF ⟨d,.convert S T x,t,pos,after,g⟩ E M k r:=by
 obtain ⟨a,h1,h⟩:=gA h
 obtain ⟨v,h3,h4⟩:=gA h
 refine Lok.sok (v:=v) (fun I w n ρ H HA=>?_) h4
 obtain ⟨c,e1,e2⟩:=conv_ok (w:=w) h3 (H x (by simp [Op.operands]) _ h1)
 exact ⟨c,e1,by simp [Runs,execOp,e2]⟩
theorem SZ (a b:Int):TZ a b=max a b:=by
 unfold TZ
 rw [WF]
 by_cases h:a<b
 ·rw [decide_eq_true h,tC]; omega
 ·rw [decide_eq_false h,BD]; omega
theorem PZ (a b:Int):QZ a b=min a b:=by
 unfold QZ
 rw [WF]
 by_cases h:b<a
 ·rw [decide_eq_true h,tC]; omega
 ·rw [decide_eq_false h,BD]; omega
theorem LR {f:Int→Int→Int} (h:aP f x y call E M k=some r):∃ a b,zD x E=some (.int .i64 a)∧zD y E=some (.int .i64 b)∧k (.int .i64 (f a b)) M=some r:=by
 obtain ⟨u,h1,h⟩:=gA h
 obtain ⟨v,h2,h⟩:=gA h
 obtain ⟨p,h3,h⟩:=gA h
 obtain ⟨q,h4,h⟩:=gA h
 obtain ⟨h5,h⟩:=AA h
 obtain ⟨h6,h⟩:=AA h
 have e1:p.1=.i64:=YF (b:=.i64) h5
 have e2:q.1=.i64:=YF (b:=.i64) h6
 have e3:=AV.int_eq h3
 have e4:=AV.int_eq h4
 rw [e1] at e3; rw [e2] at e4
 exact ⟨p.2,q.2,by rw [h1,e3],by rw [h2,e4],h⟩
theorem ok_max {ts:List TypeId} (h:aP TZ x y call E M k=some r):IF ⟨d,.call ⟨.builtin .max,#[x,y],ts.toArray⟩,t,pos,after,g⟩ E M k r:=by
 obtain ⟨a,b,h1,h2,h4⟩:=LR h
 refine Lok.sok (fun I w n ρ H HA=>?_) h4
 have hx:=H x (by simp [Op.operands,Call.operands]) _ h1
 have hy:=H y (by simp [Op.operands,Call.operands]) _ h2
 simp only [IV] at hx hy
 exact ⟨.int .i64 (max a b),by simp only [IV,SZ],jV hx hy⟩
theorem ok_min {ts:List TypeId} (h:aP QZ x y call E M k=some r):IF ⟨d,.call ⟨.builtin .min,#[x,y],ts.toArray⟩,t,pos,after,g⟩ E M k r:=by
 obtain ⟨a,b,h1,h2,h4⟩:=LR h
 refine Lok.sok (fun I w n ρ H HA=>?_) h4
 have hx:=H x (by simp [Op.operands,Call.operands]) _ h1
 have hy:=H y (by simp [Op.operands,Call.operands]) _ h2
 simp only [IV] at hx hy
 exact ⟨.int .i64 (min a b),by simp only [IV,PZ],FP hx hy⟩
theorem OP {K:Kp} {β:Mp} {ok b:Bool} {a:AV} {u:Value} (h:IV K a β u):IV K (okV ok a b) β (if ok then .tuple #[u,.bool b] else u):=by
 cases ok
 ·exact h
 ·show IV K (.tup [a,.bool b]) β (.tuple #[u,.bool b])
  simp only [IV,IVt]; exact ⟨[u,.bool b],rfl,u,[.bool b],rfl,h,.bool b,[],rfl,rfl,rfl⟩
theorem ok_tyA {ok:Bool} {S:TypeId} (h:RV x T ok call E M k=some r):IF ⟨d,.typeAssert x S T ok,t,pos,after,g⟩ E M k r:=by
 obtain ⟨a,h1,h⟩:=gA h
 obtain ⟨p,h2,h⟩:=gA h
 obtain ⟨h3,h⟩:=DE h
 obtain ⟨ty,h5,h⟩:=gA h
 obtain ⟨h6,h4⟩:=AA h
 refine Lok.sok (fun I w n ρ H HA=>?_) h4
 have hx:=H x (by simp [Op.operands]) _ h1
 have e:=AV.iface_eq h2; subst e
 simp only [IV] at hx
 obtain ⟨u,hx,hI⟩:=hx
 have hT:=KC h6
 have hn:∀ ms,ty≠.interface ms:=fun ms e=>by
  subst e
  have:pH T=4:=by unfold pH; rw [h5]
  rw [this] at h3; cases h3
 refine ⟨_,OP hI,?_⟩
 rw [hT] at hx
 cases ty<;>first | exact (hn _ rfl).elim | (cases ok<;>simp [Runs,execOp,hx,Instr.typeAssert,run_underlying h5]; done)
end
end Go.Proofs.YtljlkhobfdofhaaGreatDoor.Rv
