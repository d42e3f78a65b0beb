/- What the claim has need of: RwN, RwO, Fault, FaultK, Circ, Circ2, Cm, Cm2. -/
import Derived.Test.YtljlkhobfdofhaaGreatDoorWv9
import Derived.Laws.StructEq
set_option linter.unusedVariables false
set_option maxHeartbeats 16000000
set_option maxRecDepth 20000
namespace Go.Proofs.YtljlkhobfdofhaaGreatDoor.Rv
open Go Vc
set_option maxRecDepth 100000
noncomputable def xnB (f:Nat):Bool:=KA (Nat.beq f 293) true (match pg.funcs[f]? with
 | some fn=>SF (fn.name == "internal/bytealg.IndexByteString")
 | none=>true)
noncomputable def allX (n:Nat):Bool:=Nat.rec true (fun f ih=>KA (tst fm f) (KA (xnB f) ih false) ih) n
theorem xn_ok:allX 373=true:=by kernel_rfl
noncomputable def fB:Func:=(pg.funcs[293]?).getD default
theorem oX:pg.funcs[293]?=some fB:=by kernel_rfl
theorem fB_next:(Extern.findNext fB).isNone=true:=by kernel_rfl
theorem fB_find:Extern.find fB=some Extern.BytealgIndexByte.indexByte:=by kernel_rfl
end Go.Proofs.YtljlkhobfdofhaaGreatDoor.Rv
namespace Go.Proofs.YtljlkhobfdofhaaGreatDoor.Rv
open Go Vc
attribute [local irreducible] pg
theorem xn_at {f:Nat} {fn:Func} (h:tst fm f=true) (hf:pg.funcs[f]?=some fn) (hm:(fn.name == "internal/bytealg.IndexByteString")=true):f=293:=by
 have key:∀ (N f:Nat),f<N→allX N=true→tst fm f=true→xnB f=true:=by
  intro N
  induction N with
  | zero=>intro f h; omega
  | succ N ih =>
   intro f hf h ht
   have h:KA (tst fm N) (KA (xnB N) (allX N) false) (allX N)=true:=h
   by_cases e:f=N
   ·subst e
    rw [ht,tC] at h
    exact (eD h).1
   ·refine ih f (by omega) ?_ ht
    cases hN:tst fm N with
    | true=>rw [hN,tC] at h; exact (eD h).2
    | false=>rw [hN,BD] at h; exact h
 have:=key 373 f (VW h) xn_ok h
 unfold xnB at this
 rw [hf] at this
 cases hb:Nat.beq f 293 with
 | true=>exact KC hb
 | false =>
  rw [hb,BD] at this
  have this:SF (fn.name == "internal/bytealg.IndexByteString")=true:=this
  rw [hm] at this; cases this
theorem idx_run (l:List UInt8) (x:Int) (w:World):(Extern.BytealgIndexByte.indexByte #[.string ⟨⟨l⟩⟩,.int .u8 x]).run pg w=.ok (.int .i64 (HW (UInt8.ofNat x.toNat) l 0)) w:=by
 have e:Extern.BytealgIndexByte.indexByte #[.string ⟨⟨l⟩⟩,.int .u8 x]=(match (List.range l.length).find? fun (i:Nat)=>l[i]! == UInt8.ofNat x.toNat with
  | some i=>Sem.pure (goInt i)
  | none=>Sem.pure (goInt (-1))):=by
  have e2:(fun (i:Nat)=>((⟨⟨l⟩⟩:ByteArray)[i]!:UInt8) == UInt8.ofNat x.toNat)=fun (i:Nat)=>l[i]! == UInt8.ofNat x.toNat:=by
   funext i
   have h0:((⟨⟨l⟩⟩:ByteArray)[i]!:UInt8)=l[i]!:=by
    by_cases h:i<l.length
    ·rw [getElem!_pos (⟨⟨l⟩⟩:ByteArray) i h,getElem!_pos l i h]; rfl
    ·rw [getElem!_neg (⟨⟨l⟩⟩:ByteArray) i h,getElem!_neg l i h]
   rw [h0]
  show (match (List.range l.length).find? fun (i:Nat)=>((⟨⟨l⟩⟩:ByteArray)[i]!:UInt8) == UInt8.ofNat x.toNat with
   | some i=>Sem.pure (goInt i)
   | none=>Sem.pure (goInt (-1)))=_
  rw [e2]
 rw [e,idxB_ok]
 cases (List.range l.length).find? fun (i:Nat)=>l[i]! == UInt8.ofNat x.toNat with
 | some i=>show Result.ok (Value.int .i64 (Int.ofNat i)) w=.ok (.int .i64 (Int.ofNat (0+i))) w; rw [Nat.zero_add]
 | none=>rfl
theorem iY:XE:=by
 intro f fn xs M v ht hf hb h
 match xs,h with
 | [a,b],h =>
  obtain ⟨l,h1,h⟩:=gA (show (mA a.str? fun l=>mA b.int? fun c=>KA (Nat.beq (qR c.1) 4) (KA (fn.name == "internal/bytealg.IndexByteString") (some (.int .i64 (HW (UInt8.ofNat c.2.toNat) l 0))) none) none)=some v from h)
  obtain ⟨c,h2,h⟩:=gA h
  obtain ⟨h3,h⟩:=AA h
  obtain ⟨h4,h⟩:=AA h
  cases h
  have hk:c.1=.u8:=YF (b:=.u8) h3
  have e:=xn_at ht hf h4
  subst e
  have e1:=AV.str_eq h1
  have e2:=AV.int_eq h2
  rw [oX] at hf
  cases hf
  intro I w us hus HM
  rw [e1,e2,hk] at hus
  simp only [IVt,IV] at hus
  obtain ⟨u1,r1,rfl,q1,u2,r2,rfl,q2,rfl⟩:=hus
  rw [q1,q2,run_callFunc_extern oX (bR ht oX) (by rw [hb]; rfl) (by simpa using fB_next) fB_find,idx_run]
  exact ⟨I,Stp.refl,by simp only [IV],HM⟩
end Go.Proofs.YtljlkhobfdofhaaGreatDoor.Rv
namespace Go.Proofs.YtljlkhobfdofhaaGreatDoor.Er
open Go Vc
theorem BO:xL Tryz.prog 41=true:=by kernel_rfl
theorem yW:BG Tryz.prog 49 316=true:=by kernel_rfl
theorem xW:BG Tryz.prog 49 319=true:=by kernel_rfl
theorem wW:BG Tryz.prog 49 321=true:=by kernel_rfl
theorem one204:QA Tryz.prog 204=true:=by kernel_rfl
theorem und172:Tryz.prog.underlying 172=some (.pointer 175):=by kernel_rfl
theorem und173:Tryz.prog.underlying 173=some (.pointer 172):=by kernel_rfl
theorem lP (v:Value) (w:World):Xc Tryz.prog 81 [.iface 49 v] w (fun r w'=>r=.iface 312 (.agg #[.pointer (some ⟨7,49,none⟩)])∧w=w') :=
 Xc.of (e:=Extern.ReflectliteType.typeOf) Tryz.func81 (by kernel_rfl) (by kernel_rfl) (by kernel_rfl) (by kernel_rfl) (by kernel_rfl) ⟨rfl,rfl⟩
theorem nK  (w:World):Xc Tryz.prog 374 [.agg #[.pointer (some ⟨7,49,none⟩)],.iface 312 (.agg #[.pointer (some ⟨7,172,none⟩)])] w (fun r w'=>r=.bool false∧w=w') :=
 Xc.of (e:=(Extern.ReflectliteType.relation "AssignableTo" Extern.ReflectliteType.assignableTo)) Tryz.func374 (by kernel_rfl) (by kernel_rfl) (by kernel_rfl) (by kernel_rfl) (by kernel_rfl) ⟨rfl,rfl⟩
theorem nM (t:Addr) (w:World):Xc Tryz.prog 75 [.iface 173 (.pointer (some t))] w (fun r w'=>∃ b,r=.agg #[.pointer (some ⟨7,173,none⟩),pT b,.int .u64 150]∧w.heap.size≤b∧w'.heap[b]?=some (.cells #[.pointer (some t)] 173 (0,0))∧Ext w w') :=
 Xc.of (e:=(fun args=>Extern.ReflectliteValue.unpack (args.getD 0 (.tuple #[])))) (v:=.agg #[.pointer (some ⟨7,173,none⟩),.pointer (some ⟨w.heap.size,0,none⟩),.int .u64 150]) (w':=w.alloc (.cells #[.pointer (some t)] 173)) Tryz.func75 (by kernel_rfl) (by kernel_rfl) (by kernel_rfl) (by kernel_rfl) (by kernel_rfl) ⟨w.heap.size,rfl,Nat.le_refl _,PB _ _,Ext.alloc _ _⟩
theorem YR (a:Addr) (w:World):Xc Tryz.prog 76 [.agg #[.pointer (some ⟨7,173,none⟩),.pointer (some a),.int .u64 150]] w (fun r w'=>r=.iface 312 (.agg #[.pointer (some ⟨7,173,none⟩)])∧w=w') :=
 Xc.of (e:=(Extern.ReflectliteValue.methodAny (Extern.ReflectliteValue.valueError "reflectlite.Value.Type" 0) (fun t _ _ _=>Extern.ReflectliteType.toType t))) Tryz.func76 (by kernel_rfl) (by kernel_rfl) (by kernel_rfl) (by kernel_rfl) (by kernel_rfl) ⟨rfl,rfl⟩
theorem ZR  (w:World):Xc Tryz.prog 357 [.pointer (some ⟨7,173,none⟩)] w (fun r w'=>r=u8 22#8∧w=w') :=
 Xc.of (e:=(Extern.ReflectliteType.abiMethod fun t=>do pure (.int .u8 (← Extern.Rtype.kind t)))) Tryz.func357 (by kernel_rfl) (by kernel_rfl) (by kernel_rfl) (by kernel_rfl) (by kernel_rfl) ⟨rfl,rfl⟩
theorem aS  (w:World):Xc Tryz.prog 357 [.pointer (some ⟨7,172,none⟩)] w (fun r w'=>r=u8 22#8∧w=w') :=
 Xc.of (e:=(Extern.ReflectliteType.abiMethod fun t=>do pure (.int .u8 (← Extern.Rtype.kind t)))) Tryz.func357 (by kernel_rfl) (by kernel_rfl) (by kernel_rfl) (by kernel_rfl) (by kernel_rfl) ⟨rfl,rfl⟩
theorem rlm (z:Sem Value) (f:TypeId→Addr→Nat→Nat→Sem Value) (v:Value):Extern.ReflectliteValue.method z f #[v]=(do match ← Extern.ReflectliteValue.parts v with | none=>z | some (t,a,fl)=>f t a fl (fl % 32)):=rfl
theorem wV (a:Addr) (w:World):(Extern.ReflectliteValue.parts (.agg #[.pointer (some ⟨7,173,none⟩),.pointer (some a),.int .u64 150])).run Tryz.prog w=.ok (some (173,a,150)) w:=by kernel_rfl
theorem mP (a p:Addr) (w:World) (ha:w.cell? a=some (.pointer (some p))):Xc Tryz.prog 77 [.agg #[.pointer (some ⟨7,173,none⟩),.pointer (some a),.int .u64 150]] w (fun r w'=>r=.bool false∧w=w') :=
 Xc.of (e:=(Extern.ReflectliteValue.method (Extern.ReflectliteValue.valueError "reflectlite.Value.IsNil" 0) Extern.ReflectliteValue.isNil)) Tryz.func77 (by kernel_rfl) (by kernel_rfl) (by kernel_rfl) (by kernel_rfl) (by show (Extern.ReflectliteValue.method _ _ #[_]).run _ _=_; rw [rlm]; simp only [Sem.run_bind,wV,Result.andThen]; simp [Extern.ReflectliteValue.isNil,loadVar,isAgg,underlying,ha,Result.andThen]) ⟨rfl,rfl⟩
theorem dS  (w:World):Xc Tryz.prog 376 [.agg #[.pointer (some ⟨7,173,none⟩)]] w (fun r w'=>r=.iface 312 (.agg #[.pointer (some ⟨7,172,none⟩)])∧w=w') :=
 Xc.of (e:=(Extern.ReflectliteType.method Extern.ReflectliteType.elem)) Tryz.func376 (by kernel_rfl) (by kernel_rfl) (by kernel_rfl) (by kernel_rfl) (by kernel_rfl) ⟨rfl,rfl⟩
theorem cS  (w:World):Xc Tryz.prog 377 [.agg #[.pointer (some ⟨7,172,none⟩)],.iface 312 (.agg #[.pointer (some ⟨7,41,none⟩)])] w (fun r w'=>r=.bool true∧w=w') :=
 Xc.of (e:=(Extern.ReflectliteType.relation "Implements" Extern.ReflectliteType.implements_)) Tryz.func377 (by kernel_rfl) (by kernel_rfl) (by kernel_rfl) (by kernel_rfl) (by kernel_rfl) ⟨rfl,rfl⟩
theorem SK (v:Value):Mth Tryz.prog 312 "AssignableTo" (.agg #[v]) 374 (.agg #[v]):=fun w=>by kernel_rfl
theorem m_Elem (v:Value):Mth Tryz.prog 312 "Elem" (.agg #[v]) 376 (.agg #[v]):=fun w=>by kernel_rfl
theorem QM (v:Value):Mth Tryz.prog 312 "Implements" (.agg #[v]) 377 (.agg #[v]):=fun w=>by kernel_rfl
theorem qW (v:Value):Mth Tryz.prog 312 "Kind" (.agg #[v]) 357 v:=fun w=>by kernel_rfl
theorem nT:typeHandle Tryz.prog 41=.pointer (some ⟨7,41,none⟩):=by kernel_rfl
theorem as0_ok (e:Int) (t b:Nat) (w:World):Ca 78 [.iface 49 (i64 e),.iface 173 (pT t),.agg #[.pointer (some ⟨7,173,none⟩),pT b,.int .u64 150],.iface 312 (.agg #[.pointer (some ⟨7,172,none⟩)])] w fun v w'=>v=.bool false∧Ext w w':=by
 have H:=eA No w
 refine enter (n:=62) Tryz.func78 rfl rfl (vB rfl) ?_
 refine go 1 ?_
 intro b1 w2 a0 H3 b0
 refine go 1 ?_
 refine DA (σ:=Unit) (fun _=>[(0,.iface 49 (i64 e)),(1,.iface 173 (pT t)),(3,.iface 312 (.agg #[.pointer (some ⟨7,172,none⟩)])),(6,pT b1)]) (fun _ w'=>True∧Hp No w w' [(rC b1 #[.pointer (some ⟨7,173,none⟩),pT b,.int .u64 150] 201)]) (fun _=>0) (()) ?_ ?_ ?_
 ·exact kp
 ·exact ⟨trivial,H3⟩
 rintro _ ρ w5 ⟨_,HL⟩
 refine go 1 ?_
 refine CY (KB rfl _ _) (QQ (vs:=[.iface 49 (i64 e)]) rfl (lP (i64 e) w5)) ?_
 rintro _ _ ⟨rfl,rfl⟩
 refine go 1 ?_
 refine CY (KB rfl _ _) (FK (vs:=[.iface 312 (.agg #[.pointer (some ⟨7,172,none⟩)])]) rfl (SK _) rfl (nK w5)) ?_
 rintro _ _ ⟨rfl,rfl⟩
 refine go 1 ?_
 refine sq (EM yW rfl) ?_
 refine go 9 ?_
 refine sq (EM xW rfl) ?_
 refine go 2 ?_
 refine sq (EM wW rfl) ?_
 refine go 4 ?_
 exact ⟨_,rfl,rfl,HL.chg⟩
theorem as1_ok (e:Int) (t:Nat) (w:World) (hG:Gl w):Ca 34 [.iface 49 (i64 e),.iface 173 (pT t)] w fun v w'=>v=.bool false∧Ext w w':=by
 obtain ⟨gcs,gT,gfr,hg,hgv⟩:=hG
 rw [nT] at hgv
 have H:=eA No w
 refine enter (n:=42) Tryz.func34 rfl rfl (vB rfl) ?_
 refine go 6 ?_
 refine CY (KB rfl _ _) (QQ (vs:=[.iface 173 (pT t)]) rfl (nM ⟨t,0,none⟩ w)) ?_
 rintro _ w1 ⟨b3,rfl,c0,ho5,d0⟩
 have H7:=H.add1 d0 c0 ho5
 have h0:=H7.a1 rfl
 refine go 1 ?_
 intro b8 w9 i0 j0 k0
 refine go 1 ?_
 intro a0 b0 l0
 refine go 1 ?_
 refine CY (KB rfl _ _) (QQ (vs:=[.agg #[.pointer (some ⟨7,173,none⟩),pT b3,.int .u64 150]]) rfl (YR ⟨b3,0,none⟩ a0)) ?_
 rintro _ _ ⟨rfl,rfl⟩
 refine go 2 ?_
 refine CY (KB rfl _ _) (FK (vs:=[]) rfl (qW _) rfl (ZR a0)) ?_
 rintro _ _ ⟨rfl,rfl⟩
 refine sq ((EP (a:=22#8) (b:=22#8) rfl rfl).as (v':=.bool false) (by rfl)) ?_
 refine go 2 ?_
 refine CY (oA (d':=20) (b:=false) rfl rfl rfl) (QQ (vs:=[.agg #[.pointer (some ⟨7,173,none⟩),pT b3,.int .u64 150]]) rfl (mP ⟨b3,0,none⟩ ⟨t,0,none⟩ a0 (by rw [AI (b0.get (k:=1) rfl)]; rfl))) ?_
 rintro _ _ ⟨rfl,rfl⟩
 refine go 2 ?_
 refine CY (KB rfl _ _) (FK (vs:=[]) rfl (m_Elem _) rfl (dS a0)) ?_
 rintro _ _ ⟨rfl,rfl⟩
 refine go 2 ?_
 refine CY (KB rfl _ _) (FK (vs:=[]) rfl (qW _) rfl (aS a0)) ?_
 rintro _ _ ⟨rfl,rfl⟩
 refine sq ((EP (a:=22#8) (b:=20#8) rfl rfl).as (v':=.bool true) (by rfl)) ?_
 refine go 2 ?_
 refine ZA (v:=.iface 312 (.agg #[.pointer (some ⟨7,41,none⟩)])) (w':=a0) (oA (d':=30) (b:=true) rfl rfl rfl) (FA (v:=.iface 312 (.agg #[.pointer (some ⟨7,41,none⟩)])) vF (b0.keepE hg) (off:=0) rfl hgv) (CY (oA (d':=30) (b:=true) rfl rfl rfl) (FK (vs:=[.iface 312 (.agg #[.pointer (some ⟨7,41,none⟩)])]) rfl (QM _) rfl (cS a0)) ?_)
 rintro _ _ ⟨rfl,rfl⟩
 refine go 6 ?_
 refine cl (as0_ok e t b3 a0) ?_
 rintro _ m0 ⟨rfl,e0⟩
 have f0:=b0.ext e0
 refine go 1 ?_
 exact ⟨_,rfl,rfl,f0.chg⟩
theorem cB (e at1:Int) (nm:ByteArray) (w:World) (hG:Gl w):Ca 31 [.iface 49 (i64 e),.string nm,i64 at1] w fun v w'=>Er w.heap.size w' e 1 v∧Ext w w':=by
 have H:=eA No w
 refine enter (n:=29) Tryz.func31 rfl rfl (vB rfl) ?_
 refine go 5 ?_
 intro b1 w2 c0 H3 d0
 refine go 1 ?_
 refine sq (iV vF (xv:=pT b1) rfl) (cl (as1_ok e b1 w2 gE) ?_)
 rintro _ w5 ⟨rfl,b0⟩
 have H7:=H3.ext b0
 refine go 2 ?_
 refine CF rfl ?_
 refine go 6 ?_
 intro b8 w9 e0 a0 f0
 refine sq (iV vF (xv:=pT b8) rfl) ?_
 refine go 1 ?_
 exact ⟨_,rfl,⟨b8,_,_,_,rfl,(a0.own _ (List.mem_of_getElem? (i:=0) rfl) _ rfl).resolve_left (fun h=>h),a0.get (k:=0) rfl,rfl⟩,a0.chg⟩
end Go.Proofs.YtljlkhobfdofhaaGreatDoor.Er
namespace Go.Proofs.YtljlkhobfdofhaaGreatDoor.Ek
open Go Vc Er
theorem BO:xL Tryz.prog 41=true:=by kernel_rfl
theorem one204:QA Tryz.prog 204=true:=by kernel_rfl
theorem PS:QA Tryz.prog 3=true:=by kernel_rfl
theorem und172:Tryz.prog.underlying 172=some (.pointer 175):=by kernel_rfl
theorem und173:Tryz.prog.underlying 173=some (.pointer 172):=by kernel_rfl
end Go.Proofs.YtljlkhobfdofhaaGreatDoor.Ek
namespace Go.Proofs.YtljlkhobfdofhaaGreatDoor.Er
open Go Vc Circ
theorem xE:pD Tryz.prog 3 EI:=jH (by kernel_rfl) (by kernel_rfl)
theorem ZK:mC Tryz.prog 218 0=some (0,1,3):=by kernel_rfl
theorem LO:mC Tryz.prog 218 1=some (1,1,216):=by kernel_rfl
theorem KO:mC Tryz.prog 218 2=some (2,1,33):=by kernel_rfl
theorem YW:mC Tryz.prog 345 1=some (1,1,3):=by kernel_rfl
theorem XW:mC Tryz.prog 345 2=some (2,1,3):=by kernel_rfl
theorem JV:QA Tryz.prog 216=true:=by kernel_rfl
theorem PS:QA Tryz.prog 3=true:=by kernel_rfl
theorem one33:QA Tryz.prog 33=true:=by kernel_rfl
theorem HU:qD Tryz.prog 216=some (345,3):=by kernel_rfl
theorem GU:qD Tryz.prog 33=some (3,1):=by kernel_rfl
theorem zX (n:Int) (gs:List Gt) (ol:List Int) (ga oa:Option Addr) (gc oc:Nat) (w:World) (hG:Gl w) (hGs:Rd EG w ga gs) (hOl:Rd EI w oa ol) (hgl:gs.length≤140737488355328) (hol:ol.length≤140737488355328):Ca 290 [.agg #[i64 n,.slice ga gs.length gc,.slice oa ol.length oc]] w fun v w'=>((v=.nilIface∧IsC n gs ol)∨(Er w.heap.size w' 90 1 v∧¬ IsC n gs ol))∧Ext w w':=by
 have H:=eA No w
 refine enter (n:=109) Tryz.func290 rfl rfl (vB rfl) ?_
 refine go 1 ?_
 intro b1 w2 B1 H3 C1
 refine go 5 ?_
 by_cases g5:(n:Int)<(0:Int)
 ·refine uB (oA (d':=12) (b:=true) rfl rfl (bT (g5))) (uB (oA (d':=12) (b:=true) rfl rfl (bT (g5))) (uB (oA (d':=12) (b:=true) rfl rfl (bT (g5))) (sq (fD (u:=.bool true) (bT (g5)) rfl) ?_)))
  refine go 7 ?_
  have:=H3.lT 0
  refine cl (cB (90:Int) n ({data:=#[99,105,114,99,117,105,116]}) w2 gE) ?_
  rintro v8 w6 ⟨j0,F0⟩
  have G0:=H3.ext F0
  obtain ⟨D1,E1,rfl⟩:=j0.iface
  refine go 1 ?_
  exact ⟨_,rfl,.inr ⟨j0.mono H3.chg.size,fun hg=>by have:=hg.lo; have:=hg.hi; have:=hg.gates; have:=hg.outs; omega⟩,G0.chg⟩
 ·refine ZA (v:=pT b1) (w':=w2) (oA (d':=12) (b:=false) rfl rfl (bF (g5))) (vA (off':=0) vF (by decide) (b:=b1) (off:=0) rfl om) (ZA (v:=i64 n) (w':=w2) (oA (d':=12) (b:=false) rfl rfl (bF (g5))) (FA (v:=i64 n) vF (H3.get (k:=0) rfl) (off:=0) rfl (by rfl)) (ZA (v:=.bool (decide (((4096:Int):Int)<n))) (w':=w2) (oA (d':=12) (b:=false) rfl rfl (bF (g5))) (iE rfl rfl) (sq (gD (v:=.bool (decide (((4096:Int):Int)<n))) (bF (g5)) rfl) ?_)))
  refine go 1 ?_
  by_cases g14:((4096:Int):Int)<n
  ·refine uB (oA (d':=17) (b:=true) rfl rfl (bT (g14))) (uB (oA (d':=17) (b:=true) rfl rfl (bT (g14))) (uB (oA (d':=17) (b:=true) rfl rfl (bT (g14))) (uB (oA (d':=17) (b:=true) rfl rfl (bT (g14))) (sq (fD (u:=.bool true) (bT (g14)) rfl) ?_))))
   refine go 5 ?_
   have:=H3.lT 0
   refine cl (cB (90:Int) n ({data:=#[99,105,114,99,117,105,116]}) w2 gE) ?_
   rintro v17 F1 ⟨k0,H0⟩
   have I0:=H3.ext H0
   obtain ⟨G1,H1,rfl⟩:=k0.iface
   refine go 1 ?_
   exact ⟨_,rfl,.inr ⟨k0.mono H3.chg.size,fun hg=>by have:=hg.lo; have:=hg.hi; have:=hg.gates; have:=hg.outs; omega⟩,I0.chg⟩
  ·refine ZA (v:=.pointer (some ⟨b1,1,none⟩)) (w':=w2) (oA (d':=17) (b:=false) rfl rfl (bF (g14))) (vA (off':=1) vF (by decide) (b:=b1) (off:=0) rfl om) (ZA (v:=.slice ga gs.length gc) (w':=w2) (oA (d':=17) (b:=false) rfl rfl (bF (g14))) (FA (v:=.slice ga gs.length gc) vF (H3.get (k:=0) rfl) (off:=1) rfl (by rfl)) (ZA (v:=iN gs.length) (w':=w2) (oA (d':=17) (b:=false) rfl rfl (bF (g14))) (EK vF (a:=ga) (m:=gs.length) (c:=gc) rfl) (ZA (v:=.bool (decide (((4096:Int):Int)<(gs.length:Nat)))) (w':=w2) (oA (d':=17) (b:=false) rfl rfl (bF (g14))) (iE rfl rfl) (sq (gD (v:=.bool (decide (((4096:Int):Int)<(gs.length:Nat)))) (bF (g14)) rfl) ?_))))
   refine go 1 ?_
   by_cases g23:((4096:Int):Int)<(gs.length:Nat)
   ·refine uB (oA (d':=23) (b:=true) rfl rfl (bT (g23))) (uB (oA (d':=23) (b:=true) rfl rfl (bT (g23))) (uB (oA (d':=23) (b:=true) rfl rfl (bT (g23))) (uB (oA (d':=23) (b:=true) rfl rfl (bT (g23))) (sq (fD (u:=.bool true) (bT (g23)) rfl) ?_))))
    refine go 3 ?_
    have:=H3.lT 0
    refine cl (cB (90:Int) n ({data:=#[99,105,114,99,117,105,116]}) w2 gE) ?_
    rintro v26 I1 ⟨l0,J0⟩
    have K0:=H3.ext J0
    obtain ⟨J1,K1,rfl⟩:=l0.iface
    refine go 1 ?_
    exact ⟨_,rfl,.inr ⟨l0.mono H3.chg.size,fun hg=>by have:=hg.lo; have:=hg.hi; have:=hg.gates; have:=hg.outs; omega⟩,K0.chg⟩
   ·refine ZA (v:=.pointer (some ⟨b1,2,none⟩)) (w':=w2) (oA (d':=23) (b:=false) rfl rfl (bF (g23))) (vA (off':=2) vF (by decide) (b:=b1) (off:=0) rfl om) (ZA (v:=.slice oa ol.length oc) (w':=w2) (oA (d':=23) (b:=false) rfl rfl (bF (g23))) (FA (v:=.slice oa ol.length oc) vF (H3.get (k:=0) rfl) (off:=2) rfl (by rfl)) (ZA (v:=iN ol.length) (w':=w2) (oA (d':=23) (b:=false) rfl rfl (bF (g23))) (EK vF (a:=oa) (m:=ol.length) (c:=oc) rfl) (ZA (v:=.bool (decide (((64:Int):Int)<(ol.length:Nat)))) (w':=w2) (oA (d':=23) (b:=false) rfl rfl (bF (g23))) (iE rfl rfl) (sq (gD (v:=.bool (decide (((64:Int):Int)<(ol.length:Nat)))) (bF (g23)) rfl) ?_))))
    refine go 0 ?_
    refine lA (((64:Int):Int)<(ol.length:Nat)) rfl (fun L0=>?_) (fun L0=>?_)
    ·refine go 3 ?_
     have:=H3.lT 0
     refine cl (cB (90:Int) n ({data:=#[99,105,114,99,117,105,116]}) w2 gE) ?_
     rintro v34 L1 ⟨m0,M0⟩
     have N0:=H3.ext M0
     obtain ⟨M1,N1,rfl⟩:=m0.iface
     refine go 1 ?_
     exact ⟨_,rfl,.inr ⟨m0.mono H3.chg.size,fun hg=>by have:=hg.lo; have:=hg.hi; have:=hg.gates; have:=hg.outs; omega⟩,N0.chg⟩
    ·refine go 4 ?_
     refine DA (σ:=Nat) (fun i=>[(1,pT b1),(34,.slice ga gs.length gc),(35,iN gs.length),(36,iN i)]) (fun i w'=>i≤gs.length∧(∀ j,j<i→DD (gs.getD j g0) (n+(j:Nat)))∧Hp No w w' [(rC b1 #[i64 n,.slice ga gs.length gc,.slice oa ol.length oc] 218)]) (fun i=>gs.length-i) (0) ?_ ?_ ?_
     ·exact kp
     ·exact ⟨om,fun j hj=>by omega,H3⟩
     rintro i ρ O1 ⟨hi,hgs,HL⟩
     refine go 1 ?_
     refine lA (((i:Nat):Int)<(gs.length:Nat)) rfl (fun O0=>?_) (fun O0=>?_)
     ·refine go 4 ?_
      intro h0 P1 Q1 R1 S1
      let y1:Option Addr:=some ⟨h0,2,none⟩
      refine go 2 ?_
      intro b0 a0 T1
      refine go 9 ?_
      by_cases g49:(0:Int)≤((gs.getD i g0).a)
      ·refine ZA (v:=.pointer (some ⟨h0,1,none⟩)) (w':=b0) (oA (d':=48) (b:=true) rfl rfl (bT (g49))) (vA (off':=1) vF (by decide) (b:=h0) (off:=0) rfl om) (ZA (v:=i64 ((gs.getD i g0).a)) (w':=b0) (oA (d':=48) (b:=true) rfl rfl (bT (g49))) (FA (v:=i64 ((gs.getD i g0).a)) vF (a0.get (k:=0) rfl) (off:=1) rfl (by rfl)) (ZA (v:=i64 (n+(i:Nat))) (w':=b0) (oA (d':=48) (b:=true) rfl rfl (bT (g49))) (NA (v:=i64 (n+(i:Nat))) rfl) (ZA (v:=.bool (decide (((gs.getD i g0).a:Int)<(n+(i:Nat))))) (w':=b0) (oA (d':=48) (b:=true) rfl rfl (bT (g49))) (bD rfl rfl) (sq (fD (u:=.bool (decide (((gs.getD i g0).a:Int)<(n+(i:Nat))))) (bT (g49)) rfl) ?_))))
       refine go 5 ?_
       refine lA (((gs.getD i g0).k:Int)=(1:Int)) rfl (fun f0=>?_) (fun f0=>?_)
       ·refine go 0 ?_
        refine ZC (bT (f0)) ?_
        refine go 2 ?_
        by_cases g50:((gs.getD i g0).a:Int)<(n+(i:Nat))
        ·refine ZA (v:=.pointer y1) (w':=b0) (oA (d':=60) (b:=true) rfl rfl (bT (g50))) (vA (off':=2) vF (by decide) (b:=h0) (off:=0) rfl om) (ZA (v:=i64 ((gs.getD i g0).b)) (w':=b0) (oA (d':=60) (b:=true) rfl rfl (bT (g50))) (FA (v:=i64 ((gs.getD i g0).b)) vF (a0.get (k:=0) rfl) (off:=2) rfl (by rfl)) (ZA (v:=.bool (decide ((0:Int)≤((gs.getD i g0).b)))) (w':=b0) (oA (d':=60) (b:=true) rfl rfl (bT (g50))) (ZI rfl rfl) (sq (fD (u:=.bool (decide ((0:Int)≤((gs.getD i g0).b)))) (bT (g50)) rfl) ?_)))
         refine go 1 ?_
         by_cases g51:(0:Int)≤((gs.getD i g0).b)
         ·refine ZA (v:=.pointer y1) (w':=b0) (oA (d':=65) (b:=true) rfl rfl (bT (g51))) (vA (off':=2) vF (by decide) (b:=h0) (off:=0) rfl om) (ZA (v:=i64 ((gs.getD i g0).b)) (w':=b0) (oA (d':=65) (b:=true) rfl rfl (bT (g51))) (FA (v:=i64 ((gs.getD i g0).b)) vF (a0.get (k:=0) rfl) (off:=2) rfl (by rfl)) (ZA (v:=i64 (n+(i:Nat))) (w':=b0) (oA (d':=65) (b:=true) rfl rfl (bT (g51))) (NA (v:=i64 (n+(i:Nat))) rfl) (ZA (v:=.bool (decide (((gs.getD i g0).b:Int)<(n+(i:Nat))))) (w':=b0) (oA (d':=65) (b:=true) rfl rfl (bT (g51))) (bD rfl rfl) (sq (fD (u:=.bool (decide (((gs.getD i g0).b:Int)<(n+(i:Nat))))) (bT (g51)) rfl) ?_))))
          refine go 3 ?_
          refine FD (!(decide (((gs.getD i g0).b:Int)<(n+(i:Nat))))) rfl (fun c0=>?_) (fun c0=>?_)
          ·replace c0:¬ (((gs.getD i g0).b:Int)<(n+(i:Nat))):=by simpa using c0
           refine go 2 ?_
           have:=a0.lT 0
           have:=a0.lT 1
           refine cl (cB (90:Int) (i:Nat) ({data:=#[103,97,116,101]}) b0 gE) ?_
           rintro v54 U1 ⟨n0,P0⟩
           have Q0:=a0.ext P0
           obtain ⟨V1,W1,rfl⟩:=n0.iface
           refine go 1 ?_
           exact ⟨_,rfl,.inr ⟨n0.mono a0.chg.size,fun hg=>by have:=hg.gok i om; unfold DD at this; omega⟩,Q0.chg⟩
          ·replace c0:((gs.getD i g0).b:Int)<(n+(i:Nat)):=by simpa using c0
           refine go 2 ?_
           have hgi:DD (gs.getD i g0) (n+(i:Nat)):=by unfold DD; omega
           exact ⟨i+1,_,rfl,kp,⟨om,fun j hj=>if h:j<i then hgs j h else by (rw [show j=i by omega]; exact hgi),(a0.dropk 0)⟩,vd⟩
         ·refine uB (oA (d':=65) (b:=false) rfl rfl (bF (g51))) (uB (oA (d':=65) (b:=false) rfl rfl (bF (g51))) (uB (oA (d':=65) (b:=false) rfl rfl (bF (g51))) (uB (oA (d':=65) (b:=false) rfl rfl (bF (g51))) (sq (gD (v:=.bool false) (bF (g51)) rfl) ?_))))
          refine go 5 ?_
          have:=a0.lT 0
          have:=a0.lT 1
          refine cl (cB (90:Int) (i:Nat) ({data:=#[103,97,116,101]}) b0 gE) ?_
          rintro v62 Y1 ⟨o0,R0⟩
          have S0:=a0.ext R0
          obtain ⟨Z1,c2,rfl⟩:=o0.iface
          refine go 1 ?_
          exact ⟨_,rfl,.inr ⟨o0.mono a0.chg.size,fun hg=>by have:=hg.gok i om; unfold DD at this; omega⟩,S0.chg⟩
        ·refine uB (oA (d':=60) (b:=false) rfl rfl (bF (g50))) (uB (oA (d':=60) (b:=false) rfl rfl (bF (g50))) (uB (oA (d':=60) (b:=false) rfl rfl (bF (g50))) (sq (gD (v:=.bool false) (bF (g50)) rfl) ?_)))
         refine go 7 ?_
         have:=a0.lT 0
         have:=a0.lT 1
         refine cl (cB (90:Int) (i:Nat) ({data:=#[103,97,116,101]}) b0 gE) ?_
         rintro v70 d2 ⟨p0,T0⟩
         have U0:=a0.ext T0
         obtain ⟨e2,f2,rfl⟩:=p0.iface
         refine go 1 ?_
         exact ⟨_,rfl,.inr ⟨p0.mono a0.chg.size,fun hg=>by have:=hg.gok i om; unfold DD at this; omega⟩,U0.chg⟩
       ·refine go 2 ?_
        refine lA (((gs.getD i g0).k:Int)=(2:Int)) rfl (fun f0=>?_) (fun f0=>?_)
        ·refine go 2 ?_
         by_cases g76:((gs.getD i g0).a:Int)<(n+(i:Nat))
         ·refine ZA (v:=.pointer y1) (w':=b0) (oA (d':=60) (b:=true) rfl rfl (bT (g76))) (vA (off':=2) vF (by decide) (b:=h0) (off:=0) rfl om) (ZA (v:=i64 ((gs.getD i g0).b)) (w':=b0) (oA (d':=60) (b:=true) rfl rfl (bT (g76))) (FA (v:=i64 ((gs.getD i g0).b)) vF (a0.get (k:=0) rfl) (off:=2) rfl (by rfl)) (ZA (v:=.bool (decide ((0:Int)≤((gs.getD i g0).b)))) (w':=b0) (oA (d':=60) (b:=true) rfl rfl (bT (g76))) (ZI rfl rfl) (sq (fD (u:=.bool (decide ((0:Int)≤((gs.getD i g0).b)))) (bT (g76)) rfl) ?_)))
          refine go 1 ?_
          by_cases g77:(0:Int)≤((gs.getD i g0).b)
          ·refine ZA (v:=.pointer y1) (w':=b0) (oA (d':=65) (b:=true) rfl rfl (bT (g77))) (vA (off':=2) vF (by decide) (b:=h0) (off:=0) rfl om) (ZA (v:=i64 ((gs.getD i g0).b)) (w':=b0) (oA (d':=65) (b:=true) rfl rfl (bT (g77))) (FA (v:=i64 ((gs.getD i g0).b)) vF (a0.get (k:=0) rfl) (off:=2) rfl (by rfl)) (ZA (v:=i64 (n+(i:Nat))) (w':=b0) (oA (d':=65) (b:=true) rfl rfl (bT (g77))) (NA (v:=i64 (n+(i:Nat))) rfl) (ZA (v:=.bool (decide (((gs.getD i g0).b:Int)<(n+(i:Nat))))) (w':=b0) (oA (d':=65) (b:=true) rfl rfl (bT (g77))) (bD rfl rfl) (sq (fD (u:=.bool (decide (((gs.getD i g0).b:Int)<(n+(i:Nat))))) (bT (g77)) rfl) ?_))))
           refine go 3 ?_
           refine FD (!(decide (((gs.getD i g0).b:Int)<(n+(i:Nat))))) rfl (fun c0=>?_) (fun c0=>?_)
           ·replace c0:¬ (((gs.getD i g0).b:Int)<(n+(i:Nat))):=by simpa using c0
            refine go 2 ?_
            have:=a0.lT 0
            have:=a0.lT 1
            refine cl (cB (90:Int) (i:Nat) ({data:=#[103,97,116,101]}) b0 gE) ?_
            rintro v80 g2 ⟨q0,V0⟩
            have W0:=a0.ext V0
            obtain ⟨h2,i2,rfl⟩:=q0.iface
            refine go 1 ?_
            exact ⟨_,rfl,.inr ⟨q0.mono a0.chg.size,fun hg=>by have:=hg.gok i om; unfold DD at this; omega⟩,W0.chg⟩
           ·replace c0:((gs.getD i g0).b:Int)<(n+(i:Nat)):=by simpa using c0
            refine go 2 ?_
            have hgi:DD (gs.getD i g0) (n+(i:Nat)):=by unfold DD; omega
            exact ⟨i+1,_,rfl,kp,⟨om,fun j hj=>if h:j<i then hgs j h else by (rw [show j=i by omega]; exact hgi),(a0.dropk 0)⟩,vd⟩
          ·refine uB (oA (d':=65) (b:=false) rfl rfl (bF (g77))) (uB (oA (d':=65) (b:=false) rfl rfl (bF (g77))) (uB (oA (d':=65) (b:=false) rfl rfl (bF (g77))) (uB (oA (d':=65) (b:=false) rfl rfl (bF (g77))) (sq (gD (v:=.bool false) (bF (g77)) rfl) ?_))))
           refine go 5 ?_
           have:=a0.lT 0
           have:=a0.lT 1
           refine cl (cB (90:Int) (i:Nat) ({data:=#[103,97,116,101]}) b0 gE) ?_
           rintro v88 j2 ⟨r0,X0⟩
           have Y0:=a0.ext X0
           obtain ⟨k2,l2,rfl⟩:=r0.iface
           refine go 1 ?_
           exact ⟨_,rfl,.inr ⟨r0.mono a0.chg.size,fun hg=>by have:=hg.gok i om; unfold DD at this; omega⟩,Y0.chg⟩
         ·refine uB (oA (d':=60) (b:=false) rfl rfl (bF (g76))) (uB (oA (d':=60) (b:=false) rfl rfl (bF (g76))) (uB (oA (d':=60) (b:=false) rfl rfl (bF (g76))) (sq (gD (v:=.bool false) (bF (g76)) rfl) ?_)))
          refine go 7 ?_
          have:=a0.lT 0
          have:=a0.lT 1
          refine cl (cB (90:Int) (i:Nat) ({data:=#[103,97,116,101]}) b0 gE) ?_
          rintro v96 m2 ⟨u0,Z0⟩
          have c1:=a0.ext Z0
          obtain ⟨n2,o2,rfl⟩:=u0.iface
          refine go 1 ?_
          exact ⟨_,rfl,.inr ⟨u0.mono a0.chg.size,fun hg=>by have:=hg.gok i om; unfold DD at this; omega⟩,c1.chg⟩
        ·refine go 2 ?_
         refine lA (((gs.getD i g0).k:Int)=(3:Int)) rfl (fun i0=>?_) (fun i0=>?_)
         ·refine go 2 ?_
          by_cases g102:((gs.getD i g0).a:Int)<(n+(i:Nat))
          ·refine ZA (v:=.pointer y1) (w':=b0) (oA (d':=74) (b:=true) rfl rfl (bT (g102))) (vA (off':=2) vF (by decide) (b:=h0) (off:=0) rfl om) (ZA (v:=i64 ((gs.getD i g0).b)) (w':=b0) (oA (d':=74) (b:=true) rfl rfl (bT (g102))) (FA (v:=i64 ((gs.getD i g0).b)) vF (a0.get (k:=0) rfl) (off:=2) rfl (by rfl)) (ZA (v:=.bool (decide (((gs.getD i g0).b:Int)=(0:Int)))) (w':=b0) (oA (d':=74) (b:=true) rfl rfl (bT (g102))) (RB rfl rfl) (sq (fD (u:=.bool (decide (((gs.getD i g0).b:Int)=(0:Int)))) (bT (g102)) rfl) ?_)))
           refine go 3 ?_
           refine FD (!(decide (((gs.getD i g0).b:Int)=(0:Int)))) rfl (fun c0=>?_) (fun c0=>?_)
           ·replace c0:¬ (((gs.getD i g0).b:Int)=(0:Int)):=by simpa using c0
            refine go 2 ?_
            have:=a0.lT 0
            have:=a0.lT 1
            refine cl (cB (90:Int) (i:Nat) ({data:=#[103,97,116,101]}) b0 gE) ?_
            rintro v105 p2 ⟨w0,d1⟩
            have e1:=a0.ext d1
            obtain ⟨q2,r2,rfl⟩:=w0.iface
            refine go 1 ?_
            exact ⟨_,rfl,.inr ⟨w0.mono a0.chg.size,fun hg=>by have:=hg.gok i om; unfold DD at this; omega⟩,e1.chg⟩
           ·replace c0:((gs.getD i g0).b:Int)=(0:Int):=by simpa using c0
            refine go 2 ?_
            have hgi:DD (gs.getD i g0) (n+(i:Nat)):=by unfold DD; omega
            exact ⟨i+1,_,rfl,kp,⟨om,fun j hj=>if h:j<i then hgs j h else by (rw [show j=i by omega]; exact hgi),(a0.dropk 0)⟩,vd⟩
          ·refine uB (oA (d':=74) (b:=false) rfl rfl (bF (g102))) (uB (oA (d':=74) (b:=false) rfl rfl (bF (g102))) (uB (oA (d':=74) (b:=false) rfl rfl (bF (g102))) (sq (gD (v:=.bool false) (bF (g102)) rfl) ?_)))
           refine go 5 ?_
           have:=a0.lT 0
           have:=a0.lT 1
           refine cl (cB (90:Int) (i:Nat) ({data:=#[103,97,116,101]}) b0 gE) ?_
           rintro v113 t2 ⟨x0,g1⟩
           have h1:=a0.ext g1
           obtain ⟨u2,x2,rfl⟩:=x0.iface
           refine go 1 ?_
           exact ⟨_,rfl,.inr ⟨x0.mono a0.chg.size,fun hg=>by have:=hg.gok i om; unfold DD at this; omega⟩,h1.chg⟩
         ·refine go 5 ?_
          have:=a0.lT 0
          have:=a0.lT 1
          refine cl (cB (90:Int) (i:Nat) ({data:=#[103,97,116,101]}) b0 gE) ?_
          rintro v121 y2 ⟨y0,i1⟩
          have j1:=a0.ext i1
          obtain ⟨z2,A2,rfl⟩:=y0.iface
          refine go 1 ?_
          exact ⟨_,rfl,.inr ⟨y0.mono a0.chg.size,fun hg=>by have:=hg.gok i om; unfold DD at this; omega⟩,j1.chg⟩
      ·refine uB (oA (d':=48) (b:=false) rfl rfl (bF (g49))) (uB (oA (d':=48) (b:=false) rfl rfl (bF (g49))) (uB (oA (d':=48) (b:=false) rfl rfl (bF (g49))) (uB (oA (d':=48) (b:=false) rfl rfl (bF (g49))) (sq (gD (v:=.bool false) (bF (g49)) rfl) ?_))))
       refine go 5 ?_
       refine lA (((gs.getD i g0).k:Int)=(1:Int)) rfl (fun f0=>?_) (fun f0=>?_)
       ·refine go 0 ?_
        refine ZC (bT (f0)) ?_
        refine go 10 ?_
        have:=a0.lT 0
        have:=a0.lT 1
        refine cl (cB (90:Int) (i:Nat) ({data:=#[103,97,116,101]}) b0 gE) ?_
        rintro v129 C2 ⟨z0,k1⟩
        have l1:=a0.ext k1
        obtain ⟨D2,E2,rfl⟩:=z0.iface
        refine go 1 ?_
        exact ⟨_,rfl,.inr ⟨z0.mono a0.chg.size,fun hg=>by have:=hg.gok i om; unfold DD at this; omega⟩,l1.chg⟩
       ·refine go 2 ?_
        refine lA (((gs.getD i g0).k:Int)=(2:Int)) rfl (fun f0=>?_) (fun f0=>?_)
        ·refine go 10 ?_
         have:=a0.lT 0
         have:=a0.lT 1
         refine cl (cB (90:Int) (i:Nat) ({data:=#[103,97,116,101]}) b0 gE) ?_
         rintro v137 F2 ⟨A0,m1⟩
         have n1:=a0.ext m1
         obtain ⟨G2,H2,rfl⟩:=A0.iface
         refine go 1 ?_
         exact ⟨_,rfl,.inr ⟨A0.mono a0.chg.size,fun hg=>by have:=hg.gok i om; unfold DD at this; omega⟩,n1.chg⟩
        ·refine go 2 ?_
         refine lA (((gs.getD i g0).k:Int)=(3:Int)) rfl (fun i0=>?_) (fun i0=>?_)
         ·refine go 8 ?_
          have:=a0.lT 0
          have:=a0.lT 1
          refine cl (cB (90:Int) (i:Nat) ({data:=#[103,97,116,101]}) b0 gE) ?_
          rintro v145 I2 ⟨B0,o1⟩
          have p1:=a0.ext o1
          obtain ⟨J2,K2,rfl⟩:=B0.iface
          refine go 1 ?_
          exact ⟨_,rfl,.inr ⟨B0.mono a0.chg.size,fun hg=>by have:=hg.gok i om; unfold DD at this; omega⟩,p1.chg⟩
         ·refine go 5 ?_
          have:=a0.lT 0
          have:=a0.lT 1
          refine cl (cB (90:Int) (i:Nat) ({data:=#[103,97,116,101]}) b0 gE) ?_
          rintro v153 L2 ⟨C0,q1⟩
          have r1:=a0.ext q1
          obtain ⟨M2,N2,rfl⟩:=C0.iface
          refine go 1 ?_
          exact ⟨_,rfl,.inr ⟨C0.mono a0.chg.size,fun hg=>by have:=hg.gok i om; unfold DD at this; omega⟩,r1.chg⟩
     ·refine go 4 ?_
      refine DA (σ:=Nat) (fun q=>[(1,pT b1),(86,.slice oa ol.length oc),(87,iN ol.length),(88,iN q)]) (fun q w'=>q≤ol.length∧(∀ j,j<q→0≤ol.getD j 0∧ol.getD j 0<n+(gs.length:Nat))∧Hp No w w' [(rC b1 #[i64 n,.slice ga gs.length gc,.slice oa ol.length oc] 218)]) (fun q=>ol.length-q) (0) ?_ ?_ ?_
      ·exact kp
      ·exact ⟨om,fun j hj=>by omega,HL⟩
      rintro q ρ d0 ⟨hq,hos,e0⟩
      refine go 1 ?_
      refine lA (((q:Nat):Int)<(ol.length:Nat)) rfl (fun t1=>?_) (fun t1=>?_)
      ·refine go 8 ?_
       by_cases g161:(ol.getD q 0:Int)<(0:Int)
       ·refine uB (oA (d':=95) (b:=true) rfl rfl (bT (g161))) (uB (oA (d':=95) (b:=true) rfl rfl (bT (g161))) (uB (oA (d':=95) (b:=true) rfl rfl (bT (g161))) (uB (oA (d':=95) (b:=true) rfl rfl (bT (g161))) (uB (oA (d':=95) (b:=true) rfl rfl (bT (g161))) (uB (oA (d':=95) (b:=true) rfl rfl (bT (g161))) (uB (oA (d':=95) (b:=true) rfl rfl (bT (g161))) (uB (oA (d':=95) (b:=true) rfl rfl (bT (g161))) (sq (fD (u:=.bool true) (bT (g161)) rfl) ?_))))))))
        refine go 2 ?_
        have:=e0.lT 0
        refine cl (cB (90:Int) (q:Nat) ({data:=#[111,117,116]}) d0 gE) ?_
        rintro v164 O2 ⟨D0,u1⟩
        have w1:=e0.ext u1
        obtain ⟨P2,Q2,rfl⟩:=D0.iface
        refine go 1 ?_
        exact ⟨_,rfl,.inr ⟨D0.mono e0.chg.size,fun hg=>by have:=hg.ook q om; omega⟩,w1.chg⟩
       ·refine ZA (v:=i64 (ol.getD q 0)) (w':=d0) (oA (d':=95) (b:=false) rfl rfl (bF (g161))) (NA (v:=i64 (ol.getD q 0)) rfl) (ZA (v:=pT b1) (w':=d0) (oA (d':=95) (b:=false) rfl rfl (bF (g161))) (vA (off':=0) vF (by decide) (b:=b1) (off:=0) rfl om) (ZA (v:=i64 n) (w':=d0) (oA (d':=95) (b:=false) rfl rfl (bF (g161))) (FA (v:=i64 n) vF (e0.get (k:=0) rfl) (off:=0) rfl (by rfl)) (ZA (v:=.pointer (some ⟨b1,1,none⟩)) (w':=d0) (oA (d':=95) (b:=false) rfl rfl (bF (g161))) (vA (off':=1) vF (by decide) (b:=b1) (off:=0) rfl om) (ZA (v:=.slice ga gs.length gc) (w':=d0) (oA (d':=95) (b:=false) rfl rfl (bF (g161))) (FA (v:=.slice ga gs.length gc) vF (e0.get (k:=0) rfl) (off:=1) rfl (by rfl)) (ZA (v:=iN gs.length) (w':=d0) (oA (d':=95) (b:=false) rfl rfl (bF (g161))) (EK vF (a:=ga) (m:=gs.length) (c:=gc) rfl) (ZA (v:=i64 (n+(gs.length:Nat))) (w':=d0) (oA (d':=95) (b:=false) rfl rfl (bF (g161))) (iC rfl rfl om) (ZA (v:=.bool (decide ((n+(gs.length:Nat):Int)≤(ol.getD q 0)))) (w':=d0) (oA (d':=95) (b:=false) rfl rfl (bF (g161))) (ZI rfl rfl) (sq (gD (v:=.bool (decide ((n+(gs.length:Nat):Int)≤(ol.getD q 0)))) (bF (g161)) rfl) ?_))))))))
        refine go 0 ?_
        refine lA ((n+(gs.length:Nat):Int)≤(ol.getD q 0)) rfl (fun x1=>?_) (fun x1=>?_)
        ·refine go 2 ?_
         have:=e0.lT 0
         refine cl (cB (90:Int) (q:Nat) ({data:=#[111,117,116]}) d0 gE) ?_
         rintro v172 R2 ⟨E0,z1⟩
         have A1:=e0.ext z1
         obtain ⟨S2,T2,rfl⟩:=E0.iface
         refine go 1 ?_
         exact ⟨_,rfl,.inr ⟨E0.mono e0.chg.size,fun hg=>by have:=hg.ook q om; omega⟩,A1.chg⟩
        ·refine go 2 ?_
         exact ⟨q+1,_,rfl,kp,⟨om,fun j hj=>if h:j<q then hos j h else by (rw [show j=q by omega]; omega),e0⟩,vd⟩
      ·refine go 1 ?_
       exact ⟨_,rfl,.inl ⟨rfl,⟨om,by omega,by omega,by omega,fun j hj=>hgs j om,fun j hj=>hos j om⟩⟩,e0.chg⟩
theorem RR (n:Int) (gs:List Gt) (ol:List Int) (ga oa:Option Addr) (gc oc:Nat) (w:World) (hGs:Rd EG w ga gs) (hgl:gs.length≤140737488355328):Ca 86 [.agg #[i64 n,.slice ga gs.length gc,.slice oa ol.length oc]] w fun v w'=>v=iN (FB gs gs.length)∧Ext w w':=by
 have H:=eA No w
 refine enter (n:=20) Tryz.func86 rfl rfl (vB rfl) ?_
 refine go 1 ?_
 intro b1 w2 d0 H3 e0
 refine go 6 ?_
 refine DA (σ:=Nat) (fun i=>[(1,pT b1),(3,iN (FB gs i)),(7,.slice ga gs.length gc),(8,iN gs.length),(9,iN i)]) (fun i w'=>i≤gs.length∧Hp No w w' [(rC b1 #[i64 n,.slice ga gs.length gc,.slice oa ol.length oc] 218)]) (fun i=>gs.length-i) (0) ?_ ?_ ?_
 ·exact kp
 ·exact ⟨om,H3⟩
 rintro i ρ w5 ⟨hi,HL⟩
 have hle:=rL gs i
 refine go 1 ?_
 refine lA (((i:Nat):Int)<(gs.length:Nat)) rfl (fun c0=>?_) (fun c0=>?_)
 ·refine go 3 ?_
  intro b7 w8 f0 H9 h0
  refine go 1 ?_
  intro i0 b0 j0
  refine go 3 ?_
  refine lA (((gs.getD i g0).k:Int)=(2:Int)) rfl (fun a0=>?_) (fun a0=>?_)
  ·refine go 5 ?_
   exact ⟨i+1,_,rfl,⟨rfl,congrArg i64 (by rw [FB,if_pos a0]; rfl),rfl,rfl,rfl,trivial⟩,⟨om,(b0.dropk 0)⟩,vd⟩
  ·refine go 2 ?_
   exact ⟨i+1,_,rfl,⟨rfl,congrArg i64 (by rw [FB,if_neg a0]),rfl,rfl,rfl,trivial⟩,⟨om,(b0.dropk 0)⟩,vd⟩
 ·obtain rfl:i=gs.length:=by omega
  refine go 2 ?_
  exact ⟨_,rfl,rfl,HL.chg⟩
end Go.Proofs.YtljlkhobfdofhaaGreatDoor.Er
namespace Go.Proofs.YtljlkhobfdofhaaGreatDoor.Er
open Go Vc Circ
theorem kQ (n:Int) (gs:List Gt) (ol:List Int) (ga oa:Option Addr) (gc oc:Nat) (w:World) (hG:Gl w) (hGs:Rd EG w ga gs) (hOl:Rd EI w oa ol) (hgl:gs.length≤140737488355328) (hol:ol.length≤140737488355328) (hb:IsC n gs ol):Calls Tryz.prog 290 [.agg #[i64 n,.slice ga gs.length gc,.slice oa ol.length oc]].toArray w (tQ fun v w'=>v=.nilIface∧Ext w w') :=
 (zX n gs ol ga oa gc oc w hG hGs hOl hgl hol).mono fun e w' ⟨v,he,h,hE⟩=>by
  rcases h with ⟨h,_⟩ | ⟨_,h⟩
  ·exact ⟨v,he,h,hE⟩
  ·exact absurd hb h
end Go.Proofs.YtljlkhobfdofhaaGreatDoor.Er
namespace Go.Proofs.YtljlkhobfdofhaaGreatDoor.Cm
open Go Vc Er Circ
theorem agg336:SA Tryz.prog 336=true:=by kernel_rfl
theorem arr336:UD Tryz.prog 336=some (64,1):=by kernel_rfl
theorem ZK:mC Tryz.prog 218 0=some (0,1,3):=by kernel_rfl
theorem LO:mC Tryz.prog 218 1=some (1,1,216):=by kernel_rfl
theorem fld334_0:mC Tryz.prog 334 0=some (0,3,218):=by kernel_rfl
theorem JA:Tryz.prog.follows .mixedOrders=true:=by kernel_rfl
theorem JV:QA Tryz.prog 216=true:=by kernel_rfl
theorem PS:QA Tryz.prog 3=true:=by kernel_rfl
theorem siz3:ZB Tryz.prog 3=some 1:=by kernel_rfl
theorem siz336:ZB Tryz.prog 336=some 64:=by kernel_rfl
theorem HU:qD Tryz.prog 216=some (345,3):=by kernel_rfl
theorem VB (b n:Nat) (key:Option Nat) (c:Nat) (sp:LV) (gs:List Gt) (hSw:Sl EG key gs c sp) (hn:n≤1000) (hlen:gs.length≤4000) (kd xa xb:Int) (R:List RW) (w₀ w:World) (H:Hp No w₀ w ((rC b #[iN n,sO key (List.length gs) c,RA] 334)::(key,wA EG 345 gs sp)::R)):Ca 155 [pT b,i64 kd,i64 xa,i64 xb] w fun v w'=>v=i64 (qB n gs)∧∃ (key':Option Nat) (c':Nat) (sp':LV),Sl EG key' (gs++[(⟨kd,xa,xb⟩:Gt)]) c' sp'∧Hp No w₀ w' ((rC b #[iN n,sO key' (List.length (gs++[(⟨kd,xa,xb⟩:Gt)])) c',RA] 334)::(key',wA EG 345 (gs++[(⟨kd,xa,xb⟩:Gt)]) sp')::R):=by
 skip
 refine enter (n:=37) Tryz.func155 rfl rfl (vB rfl) ?_
 refine go 11 ?_
 refine bS (E:=EG) (l:=([⟨kd,xa,xb⟩]:List Gt)) fun b1 w3 m0 H4 n0=>?_
 refine go 1 ?_
 intro b0 c7 c0 o0 d0 p0 e0
 have f0:gs++([⟨kd,xa,xb⟩]:List Gt)=gs++[(⟨kd,xa,xb⟩:Gt)]:=by rfl
 have a0:=d0
 have h0:=e0
 rw [f0] at a0 h0
 refine go 4 ?_
 intro i0 j0 q0
 refine go 0 ?_
 refine GB (K:=[none,none,none,none,none,none,none,none,none,none,none,none,none,none]) [0,1,3,7,15,0,32,96,224,480,992,2047,4095,8191] (fun w'=>Ext i0 w') (fun w' w''=>Ext w' w'') JA (by kernel_rfl) (Ext.drew _) (fun _ _ h h'=>h.trans h') ?_ ?_
 ·exact LB (by decide)
 refine gk 12 ?_
 refine ⟨i64 (qB n gs),fun _ r0 u0 _=>Gives.run rfl ((CP rfl rfl om).as (v':=i64 (qB n gs)) (by exact congrArg i64 (by unfold qB; omega))) ⟨rfl,Chg.refl _ _⟩,?_⟩
 refine gk 1 ?_
 intro r50 w0 k0 hF
 have l0:=j0.ext k0
 refine go 0 ?_
 refine ⟨_,rfl,rfl,b0,c7,c0,a0,?_⟩
 rw [show List.length (gs++[(⟨kd,xa,xb⟩:Gt)])=gs.length+1 from by rw [List.length_append]; rfl]
 exact (l0.dropk 0)
theorem mL (b n:Nat) (key:Option Nat) (c:Nat) (sp:LV) (gs:List Gt) (hSw:Sl EG key gs c sp) (hn:n≤1000) (hlen:gs.length≤3900) (xa xb xc:Int) (R:List RW) (w₀ w:World) (H:Hp No w₀ w ((rC b #[iN n,sO key (List.length gs) c,RA] 334)::(key,wA EG 345 gs sp)::R)):Ca 230 [pT b,i64 xa,i64 xb,i64 xc] w fun v w'=>v=i64 (YO n gs)∧∃ (key':Option Nat) (c':Nat) (sp':LV),Sl EG key' (JH n gs xa xb xc) c' sp'∧Hp No w₀ w' ((rC b #[iN n,sO key' (List.length (JH n gs xa xb xc)) c',RA] 334)::(key',wA EG 345 (JH n gs xa xb xc) sp')::R):=by
 skip
 refine enter (n:=22) Tryz.func230 rfl rfl (vB rfl) ?_
 refine go 7 ?_
 have H1:=H.b2 rfl
 refine cl (VB b n key c sp gs hSw hn om (1:Int) xa xc R w₀ w H1) ?_
 rintro wv10 w2 ⟨hwv11,h0,c5,i0,j0,k0⟩
 obtain ⟨a0,c0⟩:∃ q,q=qB n gs:=⟨_,rfl⟩
 rw [← c0] at hwv11
 subst hwv11
 have H9:=k0.b2 rfl
 refine go 3 ?_
 have l0:=H9.b2 rfl
 refine cl (VB b n h0 c5 i0 (gs++[(⟨(1:Int),xa,xc⟩:Gt)]) j0 hn (by simp only [List.length_append,List.length_cons,List.length_nil]; omega) (1:Int) xb xc R w₀ w2 l0) ?_
 rintro wv22 m0 ⟨hwv23,n0,o0,p0,q0,r0⟩
 obtain ⟨b0,d0⟩:∃ q,q=qB n (gs++[(⟨(1:Int),xa,xc⟩:Gt)]):=⟨_,rfl⟩
 rw [← d0] at hwv23
 subst hwv23
 have u0:=r0.b2 rfl
 have w0:=u0.b2 rfl
 refine cl (VB b n n0 o0 p0 (gs++[(⟨(1:Int),xa,xc⟩:Gt)]++[(⟨(1:Int),xb,xc⟩:Gt)]) q0 hn (by simp only [List.length_append,List.length_cons,List.length_nil]; omega) (2:Int) a0 b0 R w₀ m0 w0) ?_
 rintro wv34 x0 ⟨hwv35,y0,z0,A0,B0,C0⟩
 obtain ⟨D0,e0⟩:∃ q,q=qB n (gs++[(⟨(1:Int),xa,xc⟩:Gt)]++[(⟨(1:Int),xb,xc⟩:Gt)]):=⟨_,rfl⟩
 rw [← e0] at hwv35
 subst hwv35
 have E0:=C0.b2 rfl
 have F0:=E0.b2 rfl
 refine cl (VB b n y0 z0 A0 (gs++[(⟨(1:Int),xa,xc⟩:Gt)]++[(⟨(1:Int),xb,xc⟩:Gt)]++[(⟨(2:Int),a0,b0⟩:Gt)]) B0 hn (by simp only [List.length_append,List.length_cons,List.length_nil]; omega) (1:Int) xc D0 R w₀ x0 F0) ?_
 rintro wv46 M0 ⟨hwv47,G0,H0,I0,J0,K0⟩
 obtain ⟨N0,f0⟩:∃ q,q=qB n (gs++[(⟨(1:Int),xa,xc⟩:Gt)]++[(⟨(1:Int),xb,xc⟩:Gt)]++[(⟨(2:Int),a0,b0⟩:Gt)]):=⟨_,rfl⟩
 rw [← f0] at hwv47
 subst hwv47
 have L0:=K0.b2 rfl
 refine go 1 ?_
 subst f0
 subst e0
 subst d0
 subst c0
 rw [show qB n (gs++[⟨1,xa,xc⟩]++[⟨1,xb,xc⟩]++[⟨2,qB n gs,qB n (gs++[⟨1,xa,xc⟩])⟩])=YO n gs from by unfold YO qB; simp only [List.length_append,List.length_cons,List.length_nil]]
 exact ⟨_,rfl,rfl,G0,H0,I0,J0,L0⟩
theorem AF (b iw:Nat) (hiw:iw≤10) (w:World):Ca 152 [pT b,iN iw] w fun v w'=>v=.agg (xA EI (jB (64*iw) 64)).toArray∧Ext w w':=by
 have H:=eA No w
 refine enter (n:=18) Tryz.func152 rfl rfl (vB rfl) ?_
 refine go 1 ?_
 intro b1 w2 d0 H3 e0
 refine go 1 ?_
 intro b5 w6 f0 H7 h0
 refine go 1 ?_
 refine DA (σ:=Nat) (fun i=>[(1,iN iw),(4,pT b1),(5,pT b5),(7,iN i)]) (fun i w'=>i≤64∧Hp No w w' [(rX b5 EI (vC (jB (64*iw) i)) 336),(rX b1 EI (List.replicate 64 0) 336)]) (fun i=>64-i) (0) ?_ ?_ ?_
 ·exact kp
 ·exact ⟨Nat.zero_le _,H7⟩
 rintro i ρ w9 ⟨hq,HL⟩
 have hpl:(vC (jB (64*iw) i)).length=64:=wF (by rw [aE]; exact hq)
 refine go 1 ?_
 refine lA (((i:Nat):Int)<(64:Int)) rfl (fun c8=>?_) (fun c8=>?_)
 ·refine go 4 ?_
  refine sq ((AC rfl rfl om).as (v':=iN (64*iw)) (by exact congrArg i64 om)) ?_
  refine go 1 ?_
  refine sq ((iC rfl rfl om).as (v':=i64 (((64*iw+i:Nat):Int))) (by exact congrArg i64 om)) ?_
  refine go 2 ?_
  intro i0 a0 j0
  refine go 2 ?_
  rw [sE _ (aE _ _) om] at a0
  exact ⟨i+1,_,rfl,kp,⟨om,a0⟩,vd⟩
 ·have hqe:i=64:=by omega
  have hpf:=(aE (64*iw) i).trans hqe
  rw [OE hpf] at HL
  refine go 1 ?_
  refine GA (k:=1) (v:=.agg (xA EI (jB (64*iw) i)).toArray) (cs':=(xA EI (jB (64*iw) i)).toArray) HL rfl rfl rfl vF (by exact IB (by rw [hpf]; rfl)) (by exact jC _) (by rw [List.size_toArray,qA]; show _≤_*1; first | omega | (simp only [List.length_set]; omega) | exact vB rfl | (simp<;>omega)) (by exact kD (by rw [List.length_replicate]; exact hpf.symm)) fun k0 b0 l0=>?_
  have c0:=b0.a2 rfl
  refine go 0 ?_
  subst hqe
  exact ⟨_,rfl,rfl,c0.chg⟩
end Go.Proofs.YtljlkhobfdofhaaGreatDoor.Cm
namespace Go.Proofs.YtljlkhobfdofhaaGreatDoor.Cm
open Go Vc Er Circ
theorem xE:pD Tryz.prog 3 EI:=jH (by kernel_rfl) (by kernel_rfl)
theorem OM (b n:Nat) (key:Option Nat) (c:Nat) (sp:LV) (gs:List Gt) (hSw:Sl EG key gs c sp) (hn:n≤1000) (hlen:gs.length≤3000) (ra rb:List Int) (hra:ra.length=64) (hrb:rb.length=64) (R:List RW) (w₀ w:World) (H:Hp No w₀ w ((rC b #[iN n,sO key (List.length gs) c,RA] 334)::(key,wA EG 345 gs sp)::R)):Ca 153 [pT b,.agg (xA EI ra).toArray,.agg (xA EI rb).toArray] w fun v w'=>v=.agg (xA EI ((eE n gs ra rb 64).2)).toArray∧∃ (key':Option Nat) (c':Nat) (sp':LV),Sl EG key' ((eE n gs ra rb 64).1) c' sp'∧Hp No w₀ w' ((rC b #[iN n,sO key' (List.length ((eE n gs ra rb 64).1)) c',RA] 334)::(key',wA EG 345 ((eE n gs ra rb 64).1) sp')::R):=by
 skip
 refine enter (n:=24) Tryz.func153 rfl rfl (vB rfl) ?_
 refine go 1 ?_
 intro b1 w2 M0 H3 N0
 refine go 1 ?_
 intro b5 w6 O0 H7 P0
 refine go 1 ?_
 intro b9 Q0 R0 S0 T0
 refine go 1 ?_
 intro e0 U0 V0 r0 W0
 refine go 1 ?_
 refine DA (σ:=Nat × Option Nat × Nat × LV) (fun (i,kz,cz,sz)=>[(0,pT b),(4,pT b1),(5,pT b5),(6,pT b9),(7,pT e0),(9,iN i)]) (fun (i,kz,cz,sz) w'=>(i≤64∧Sl EG kz ((eE n gs ra rb i).1) cz sz)∧Hp No w₀ w' ((rC b #[iN n,sO kz (List.length ((eE n gs ra rb i).1)) cz,RA] 334)::(kz,wA EG 345 ((eE n gs ra rb i).1) sz)::(rX e0 EI (vC ((eE n gs ra rb i).2)) 336)::(rX b1 EI ra 336)::(rX b5 EI rb 336)::(rX b9 EI (List.replicate 64 0) 336)::R)) (fun (i,kz,cz,sz)=>64-i) ((0,key,c,sp)) ?_ ?_ ?_
 ·exact kp
 ·exact ⟨⟨om,hSw⟩,(r0.pk 6 [4,5,0,3,2,1])⟩
 rintro ⟨i,kz,cz,sz⟩ ρ X0 ⟨⟨hq,hSz⟩,HL⟩
 have hxl:=RG n gs ra rb i
 have hpl:(vC (eE n gs ra rb i).2).length=64:=wF (by rw [hxl.2]; exact hq)
 refine go 1 ?_
 refine lA (((i:Nat):Int)<(64:Int)) rfl (fun u0=>?_) (fun u0=>?_)
 ·refine go 2 ?_
  let f0:List RW:=((rX b1 EI ra 336)::(rX b5 EI rb 336)::(rX b9 EI (List.replicate 64 0) 336)::R)
  let j0:=fun (a0:Option Nat) (b0:LV)=>((a0,wA EG 345 (((eE n gs ra rb i).1)++[(⟨(1:Int),ra.getD i 0,rb.getD i 0⟩:Gt)]) b0):RW)
  let k0:=fun (a0:Option Nat) (c0:Nat)=>((rC b #[iN n,sO a0 (List.length (((eE n gs ra rb i).1)++[(⟨(1:Int),ra.getD i 0,rb.getD i 0⟩:Gt)])) c0,RA] 334):RW)
  let n0:=((rX e0 EI (vC ((eE n gs ra rb i).2)) 336):RW)
  let l0:=fun (a0:Option Nat) (c0:Nat) (b0:LV)=>(Sl EG a0 (((eE n gs ra rb i).1)++[(⟨(1:Int),ra.getD i 0,rb.getD i 0⟩:Gt)]) c0 b0:Prop)
  let x0:PD:=[JF false false fun _ _ w'=>Hp No w₀ w' ((rC b #[iN n,sO kz (List.length ((eE n gs ra rb i).1)) cz,RA] 334)::(kz,wA EG 345 ((eE n gs ra rb i).1) sz)::n0::f0),JF true false fun v8 _ w'=>∃ a0 c0 b0 d0,v8=i64 d0∧(l0 a0 c0 b0)∧d0=qB n ((eE n gs ra rb i).1)∧Hp No w₀ w' ((k0 a0 c0)::(j0 a0 b0)::n0::f0),JF true true fun v8 _ w'=>∃ a0 c0 b0 d0,v8=i64 d0∧(l0 a0 c0 b0)∧d0=qB n ((eE n gs ra rb i).1)∧Hp No w₀ w' ((k0 a0 c0)::(j0 a0 b0)::(rX e0 EI ((vC ((eE n gs ra rb i).2)).set i d0) 336)::f0)]
  refine mB (m:=11) [0,0,0,4,12,0,32,96,254,511,1023] [8,10] f0 x0 JA (fun _ e=>HL.ext e) zE (fun o0=>?_)
  refine gk 8 ?_
  refine WalkT.eff o0 0 ?_ ?_
  ·refine tA fun r w0 uw hF hE=>?_
   have y0:=hF.ext hE
   refine gW fun Q' hK=>?_
   have z0:=y0.b2 rfl
   refine cl (VB b n kz cz sz ((eE n gs ra rb i).1) hSz hn om (1:Int) (ra.getD i 0) (rb.getD i 0) ((rX e0 EI (vC ((eE n gs ra rb i).2)) 336)::(rX b1 EI ra 336)::(rX b5 EI rb 336)::(rX b9 EI (List.replicate 64 0) 336)::R) w₀ uw z0) ?_
   rintro wv70 Y0 ⟨hwv71,A0,B0,C0,D0,E0⟩
   obtain ⟨F0,p0⟩:∃ q,q=qB n ((eE n gs ra rb i).1):=⟨_,rfl⟩
   rw [← p0] at hwv71
   subst hwv71
   have G0:=E0.b6 rfl
   exact hK _ _ (E_ A0 (E_ B0 (E_ C0 (E_ F0 (A_ rfl (A_ D0 (A_ p0 G0)))))))
  refine gk 1 ?_
  refine WalkT.eff o0 1 ?_ ?_
  ·refine tA fun r w0 uw hF hE=>?_
   obtain ⟨a0,c0,b0,d0,e8,i0,m0,q0⟩:=hF
   replace q0:=q0.ext hE
   dsimp only
   rw [e8]
   refine PE fun Q' hK=>?_
   refine go 1 ?_
   intro Z0 H0 c1
   exact hK _ (fun _=>(E_ a0 (E_ c0 (E_ b0 (E_ d0 (A_ e8 (A_ i0 (A_ m0 H0))))))))
  refine WalkT.nil fun r w0 d1 hF hE=>?_
  obtain ⟨a0,c0,b0,d0,e8,i0,m0,h0⟩:=hF
  replace h0:=h0.ext hE
  dsimp only
  rw [e8]
  dsimp only [l0] at i0
  dsimp only [f0,k0,j0] at h0
  subst m0
  refine go 2 ?_
  rw [sE (l:=(eE n gs ra rb i).2) _ hxl.2 om] at h0
  have I0:=h0
  have J0:=I0.b6 rfl
  exact ⟨(i+1,a0,c0,b0),_,rfl,kp,⟨⟨om,i0⟩,J0⟩,vd⟩
 ·have hie:i=64:=by omega
  have hrl:=hxl.2.trans hie
  rw [OE hrl] at HL
  refine go 1 ?_
  refine GA (k:=5) (v:=.agg (xA EI ((eE n gs ra rb i).2)).toArray) (cs':=(xA EI ((eE n gs ra rb i).2)).toArray) HL rfl rfl rfl vF (by exact IB (by rw [hrl]; rfl)) (by exact jC _) (by rw [List.size_toArray,qA]; show _≤_*1; first | omega | (simp only [List.length_set]; omega) | exact vB rfl | (simp<;>omega)) (by exact kD (by rw [List.length_replicate]; exact hrl.symm)) fun e1 K0 g1=>?_
  have L0:=K0.b6 rfl
  refine go 0 ?_
  subst hie
  exact ⟨_,rfl,rfl,kz,cz,sz,hSz,((((L0.dropk 5).dropk 4).dropk 3).dropk 2)⟩
end Go.Proofs.YtljlkhobfdofhaaGreatDoor.Cm
