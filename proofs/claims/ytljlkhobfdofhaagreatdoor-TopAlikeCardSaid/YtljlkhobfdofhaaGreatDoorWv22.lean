/- What the claim has need of: Ms6, Tp. -/
import Derived.Test.YtljlkhobfdofhaaGreatDoorWv21
set_option linter.unusedVariables false
set_option maxHeartbeats 16000000
set_option maxRecDepth 20000
namespace Go.Proofs.YtljlkhobfdofhaaGreatDoor.Ms
open Go Vc Er Ek Circ Mi
open Co Cm
open Go.Proofs.YtljlkhobfdofhaaGreatDoor (Gb.kA)
open Gb (PA lx lw gS eS oL DF ME jD uC)
theorem arr32:UD Tryz.prog 32=some (2,1):=by kernel_rfl
theorem HX:BI Tryz.prog 57=some 8:=by kernel_rfl
theorem DX:rA Tryz.prog 49=true:=by kernel_rfl
theorem xE:pD Tryz.prog 3 EI:=jH (by kernel_rfl) (by kernel_rfl)
theorem eX:mC Tryz.prog 105 1=some (1,1,3):=by kernel_rfl
theorem dX:mC Tryz.prog 105 2=some (2,1,3):=by kernel_rfl
theorem WT:YB Tryz.prog 57=some (.int .u64 0):=by kernel_rfl
theorem LU (ops:List Mo) (oa:Option Addr) (oc:Nat) (in0 in1:List (BitVec 64)) (na0 na1:Option Addr) (nc0 nc1:Nat) (tb0:Nat) (tk0:Option Nat) (tc0:Nat) (ts0:LV) (ws0:List (BitVec 64)) (hSw0:Sl E64 tk0 ws0 tc0 ts0) (hwl0:ws0.length≤140737488355328) (tb1:Nat) (tk1:Option Nat) (tc1:Nat) (ts1:LV) (ws1:List (BitVec 64)) (hSw1:Sl E64 tk1 ws1 tc1 ts1) (hwl1:ws1.length≤140737488355328) (sb0 sb1:Nat) (st0 st1:Sk) (hst0:st0.ok) (hst1:st1.ok) (R:List RW) (w₀ w:World) (hG:Gl w₀) (hgd:Mi.Good ops ((in0.length:Nat):Int) ((in1.length:Nat):Int)) (hT0:eB 0 ops+uA (gB 0) ops ops.length≤ws0.length) (hA0:uA fA ops ops.length≤st0.t.l.length) (hB0:uA fB ops ops.length≤st0.b.l.length) (hC0:uA fO ops ops.length≤st0.o.l.length) (hT1:eB 1 ops+uA (gB 1) ops ops.length≤ws1.length) (hA1:uA fA ops ops.length≤st1.t.l.length) (hB1:uA fB ops ops.length≤st1.b.l.length) (hC1:uA fO ops ops.length≤st1.o.l.length) (hO:∀ w',Ext w₀ w'→(∀ p∈R,∀ b,p.1=some b→w'.heap[b]?=some p.2)→Rd cH w' oa ops) (hN0:∀ w',Ext w₀ w'→(∀ p∈R,∀ b,p.1=some b→w'.heap[b]?=some p.2)→Rd E64 w' na0 in0) (hN1:∀ w',Ext w₀ w'→(∀ p∈R,∀ b,p.1=some b→w'.heap[b]?=some p.2)→Rd E64 w' na1 in1) (H:Hp No w₀ w ((rC tb0 #[sO tk0 ws0.length tc0,.pointer none,iN ws0.length,iN 0] 238)::(tk0,wA E64 57 ws0 ts0)::(rC tb1 #[sO tk1 ws1.length tc1,.pointer none,iN ws1.length,iN 0] 238)::(tk1,wA E64 57 ws1 ts1)::(bB 137 235 230 sb0 st0++(bB 137 235 230 sb1 st1++R)))):Ca 19 [.slice oa ops.length oc,.agg (xA EI [((in0.length:Nat):Int),((in1.length:Nat):Int)]).toArray,.agg #[.slice na0 in0.length nc0,.slice na1 in1.length nc1],.agg #[pT tb0,pT tb1],.agg #[pT sb0,pT sb1]] w fun v w'=>∃ (k0:Option Nat) (c0:Nat) (z0:LV) (k1:Option Nat) (c1:Nat) (z1:LV) (u0 u1:Sk),v=.tuple #[.agg #[sO k0 ops.length c0,sO k1 ops.length c1],.nilIface]∧Sl E64 k0 (iB Gb.kA ops in0 in1 ws0 ws1 (SB ops ((0:Nat):Int) (gB 0) ws0 (eB 0 ops)) (SB ops ((1:Nat):Int) (gB 1) ws1 (eB 1 ops)) (YA ops st0.t.l st0.b.l) (YA ops st1.t.l st1.b.l) st0.o.l st1.o.l ops.length).1 c0 z0∧Sl E64 k1 (iB Gb.kA ops in0 in1 ws0 ws1 (SB ops ((0:Nat):Int) (gB 0) ws0 (eB 0 ops)) (SB ops ((1:Nat):Int) (gB 1) ws1 (eB 1 ops)) (YA ops st0.t.l st0.b.l) (YA ops st1.t.l st1.b.l) st0.o.l st1.o.l ops.length).2 c1 z1∧u0.ok∧u0.t.l=st0.t.l.drop (uA fA ops ops.length)∧u0.b.l=st0.b.l.drop (uA fB ops ops.length)∧u0.o.l=st0.o.l.drop (uA fO ops ops.length)∧u1.ok∧u1.t.l=st1.t.l.drop (uA fA ops ops.length)∧u1.b.l=st1.b.l.drop (uA fB ops ops.length)∧u1.o.l=st1.o.l.drop (uA fO ops ops.length)∧Hp No w₀ w' ((k0,wA E64 57 (iB Gb.kA ops in0 in1 ws0 ws1 (SB ops ((0:Nat):Int) (gB 0) ws0 (eB 0 ops)) (SB ops ((1:Nat):Int) (gB 1) ws1 (eB 1 ops)) (YA ops st0.t.l st0.b.l) (YA ops st1.t.l st1.b.l) st0.o.l st1.o.l ops.length).1 z0)::(k1,wA E64 57 (iB Gb.kA ops in0 in1 ws0 ws1 (SB ops ((0:Nat):Int) (gB 0) ws0 (eB 0 ops)) (SB ops ((1:Nat):Int) (gB 1) ws1 (eB 1 ops)) (YA ops st0.t.l st0.b.l) (YA ops st1.t.l st1.b.l) st0.o.l st1.o.l ops.length).2 z1)::(rC tb0 #[sO tk0 ws0.length tc0,.pointer none,iN ws0.length,iN (eB 0 ops+uA (gB 0) ops ops.length)] 238)::(tk0,wA E64 57 ws0 ts0)::(rC tb1 #[sO tk1 ws1.length tc1,.pointer none,iN ws1.length,iN (eB 1 ops+uA (gB 1) ops ops.length)] 238)::(tk1,wA E64 57 ws1 ts1)::(bB 137 235 230 sb0 u0++(bB 137 235 230 sb1 u1++R))):=by
 let F2:Value:=sO tk1 ws1.length tc1
 let G2:Value:=sO tk0 ws0.length tc0
 let H0:Array Value:=#[pT tb0,pT tb1]
 let I0:Array Value:=#[pT sb0,pT sb1]
 let U1:Array Value:=#[G2,.pointer none,iN ws0.length,iN 0]
 let D0:RW:=(tk1,wA E64 57 ws1 ts1)
 let x9:RW:=(tk0,wA E64 57 ws0 ts0)
 let x7:Array Value:=#[F2,.pointer none,iN ws1.length,iN (eB 1 ops+uA (gB 1) ops ops.length)]
 let x5:Array Value:=#[F2,.pointer none,iN ws1.length,iN 0]
 let x3:Array Value:=#[.slice na0 in0.length nc0,.slice na1 in1.length nc1]
 let x1:Array Value:=#[G2,.pointer none,iN ws0.length,iN (eB 0 ops+uA (gB 0) ops ops.length)]
 have hop:=hgd.len
 refine enter (n:=149) Tryz.func19 rfl rfl (vB rfl) ?_
 refine go 1 ?_
 intro A0 Z6 c7 d7 e7
 refine go 1 ?_
 intro h0 f7 g7 h7 i7
 refine go 1 ?_
 intro B0 j7 k7 l7 m7
 refine go 1 ?_
 intro C0 n7 o7 p7 q7
 refine go 1 ?_
 intro i0 c4 r7 H2 s7
 refine go 3 ?_
 refine cl (UF ops oa oc ((in0.length:Nat):Int) ((in1.length:Nat):Int) ops.length (by rfl) c4 gE (hO _ H2.chg (fun p hp=>H2.has p (mT (mT (mT (mT (mT (mT (mT (mT (mT ((List.mem_append_right _ (List.mem_append_right _ hp)))))))))))))) om hgd) ?_
 rintro _ t7 ⟨rfl,d4⟩
 have f4:=H2.ext d4
 refine go 2 ?_
 refine sq ((iF vF rfl rfl).as (v':=.bool false) (by rfl)) ?_
 refine go 1 ?_
 refine DA (σ:=Nat) (fun q=>[(0,.slice oa ops.length oc),(6,pT A0),(7,pT h0),(8,pT B0),(9,pT C0),(10,pT i0),(11,.nilIface),(33,iN q)]) (fun q w'=>q≤2∧Hp No w₀ w' ((rC i0 #[RA,RA] 61)::(rC C0 I0 64)::(rC B0 H0 66)::(rC h0 x3 61)::(rX A0 EI ([((in0.length:Nat):Int),((in1.length:Nat):Int)]) 32)::(rC tb0 U1 238)::x9::(rC tb1 x5 238)::D0::(bB 137 235 230 sb0 st0++(bB 137 235 230 sb1 st1++R)))) (fun q=>2-q) (0) ?_ ?_ ?_
 ·exact kp
 ·exact ⟨Nat.zero_le _,f4⟩
 rintro q ρ j3 ⟨hq,HL⟩
 rcases (show q=0∨q=1∨q=2 by omega) with rfl | rfl | rfl
 ·refine go 0 ?_
  refine sq ((bD rfl rfl).as (v':=.bool true) (by rfl)) ?_
  refine go 2 ?_
  refine GB (K:=[none,none,none,none,none,none,none,none]) [0,1,3,7,0,16,48,127] (fun w'=>Ext j3 w') (fun w' w''=>Ext w' w'') JA (by kernel_rfl) (Ext.drew _) (fun _ _ h h'=>h.trans h') ?_ ?_
  ·exact LB (by decide)
  refine gk 7 ?_
  refine ⟨.bool false,fun _ u7 w7 _=>Gives.run rfl ((TE rfl rfl).as (v':=.bool false) (by exact bF (om))) ⟨rfl,Chg.refl _ _⟩,?_⟩
  intro r245 y7 g4 hF
  have h4:=HL.ext g4
  refine go 2 ?_
  exact ⟨0+1,_,rfl,kp,⟨om,h4⟩,vd⟩
 ·refine go 0 ?_
  refine sq ((bD rfl rfl).as (v':=.bool true) (by rfl)) ?_
  refine go 2 ?_
  refine GB (K:=[none,none,none,none,none,none,none,none]) [0,1,3,7,0,16,48,127] (fun w'=>Ext j3 w') (fun w' w''=>Ext w' w'') JA (by kernel_rfl) (Ext.drew _) (fun _ _ h h'=>h.trans h') ?_ ?_
  ·exact LB (by decide)
  refine gk 7 ?_
  refine ⟨.bool false,fun _ z7 A7 _=>Gives.run rfl ((TE rfl rfl).as (v':=.bool false) (by exact bF (om))) ⟨rfl,Chg.refl _ _⟩,?_⟩
  intro r265 B7 i4 hF
  have j4:=HL.ext i4
  refine go 2 ?_
  exact ⟨1+1,_,rfl,kp,⟨om,j4⟩,vd⟩
 ·refine go 0 ?_
  refine sq ((bD rfl rfl).as (v':=.bool false) (by rfl)) ?_
  refine go 1 ?_
  intro j0 C7 D7 E7 F7
  refine go 1 ?_
  intro l0 G7 H7 k4 I7
  refine go 1 ?_
  refine DA (σ:=Nat × List RW) (fun (q,LL)=>[(0,.slice oa ops.length oc),(6,pT A0),(7,pT h0),(8,pT B0),(9,pT C0),(10,pT i0),(11,.nilIface),(14,pT j0),(15,pT l0),(49,iN q)]) (fun (q,LL) w'=>(q≤2∧((q=0∧LL=((rX l0 E64 ([0#64,0#64]) 130)::(rC j0 #[RA,RA] 128)::(rC i0 #[RA,RA] 61)::(rC C0 I0 64)::(rC B0 H0 66)::(rC h0 x3 61)::(rX A0 EI ([((in0.length:Nat):Int),((in1.length:Nat):Int)]) 32)::(rC tb0 U1 238)::x9::(rC tb1 x5 238)::D0::(bB 137 235 230 sb0 st0++(bB 137 235 230 sb1 st1++R))))∨(q=1∧∃ (e0:Option Nat) (S0:Nat) (J0:LV) (a0:List Dr) (d0:Sk) (F0:List RW),(Sl aC e0 a0 S0 J0)∧(DrN (SB ops ((0:Nat):Int) (gB 0) ws0 (eB 0 ops)) (YA ops st0.t.l st0.b.l) ops.length a0 ops.length)∧(d0.ok)∧(d0.t.l=st0.t.l.drop (uA fA ops ops.length))∧(d0.b.l=st0.b.l.drop (uA fB ops ops.length))∧(d0.o.l=st0.o.l.drop (uA fO ops ops.length))∧(DrG 235 130 F0 0 ops st0.o.l ws0 (eB 0 ops) a0 ops.length)∧LL=((e0,wA aC 141 a0 J0)::(rX l0 E64 ([((0#64)^^^((eC 0 ops ws0).1)),((0#64)^^^((eC 0 ops ws0).2))]) 130)::(rC j0 #[sO e0 ops.length S0,RA] 128)::(rC i0 #[RA,RA] 61)::(rC C0 I0 64)::(rC B0 H0 66)::(rC h0 x3 61)::(rX A0 EI ([((in0.length:Nat):Int),((in1.length:Nat):Int)]) 32)::(rC tb0 x1 238)::x9::(rC tb1 x5 238)::D0::(bB 137 235 230 sb0 d0++(bB 137 235 230 sb1 st1++(F0++R)))))∨(q=2∧∃ (e0:Option Nat) (S0:Nat) (J0:LV) (a0:List Dr) (d0:Sk) (F0:List RW) (X0:Option Nat) (V1:Nat) (I1:LV) (m0:List Dr) (W0:Sk) (F1:List RW),(Sl aC e0 a0 S0 J0)∧(DrN (SB ops ((0:Nat):Int) (gB 0) ws0 (eB 0 ops)) (YA ops st0.t.l st0.b.l) ops.length a0 ops.length)∧(d0.ok)∧(d0.t.l=st0.t.l.drop (uA fA ops ops.length))∧(d0.b.l=st0.b.l.drop (uA fB ops ops.length))∧(d0.o.l=st0.o.l.drop (uA fO ops ops.length))∧(DrG 235 130 F0 0 ops st0.o.l ws0 (eB 0 ops) a0 ops.length)∧(Sl aC X0 m0 V1 I1)∧(DrN (SB ops ((1:Nat):Int) (gB 1) ws1 (eB 1 ops)) (YA ops st1.t.l st1.b.l) ops.length m0 ops.length)∧(W0.ok)∧(W0.t.l=st1.t.l.drop (uA fA ops ops.length))∧(W0.b.l=st1.b.l.drop (uA fB ops ops.length))∧(W0.o.l=st1.o.l.drop (uA fO ops ops.length))∧(DrG 235 130 F1 1 ops st1.o.l ws1 (eB 1 ops) m0 ops.length)∧LL=((e0,wA aC 141 a0 J0)::(X0,wA aC 141 m0 I1)::(rX l0 E64 ([(AH ops ws0 ws1).1,(AH ops ws0 ws1).2]) 130)::(rC j0 #[sO e0 ops.length S0,sO X0 ops.length V1] 128)::(rC i0 #[RA,RA] 61)::(rC C0 I0 64)::(rC B0 H0 66)::(rC h0 x3 61)::(rX A0 EI ([((in0.length:Nat):Int),((in1.length:Nat):Int)]) 32)::(rC tb0 x1 238)::x9::(rC tb1 x7 238)::D0::(bB 137 235 230 sb0 d0++(bB 137 235 230 sb1 W0++(F1++(F0++R))))))))∧Hp No w₀ w' LL) (fun (q,LL)=>2-q) ((0,((rX l0 E64 ([0#64,0#64]) 130)::(rC j0 #[RA,RA] 128)::(rC i0 #[RA,RA] 61)::(rC C0 I0 64)::(rC B0 H0 66)::(rC h0 x3 61)::(rX A0 EI ([((in0.length:Nat):Int),((in1.length:Nat):Int)]) 32)::(rC tb0 U1 238)::x9::(rC tb1 x5 238)::D0::(bB 137 235 230 sb0 st0++(bB 137 235 230 sb1 st1++R))))) ?_ ?_ ?_
  ·exact kp
  ·exact ⟨⟨Nat.zero_le _,.inl ⟨rfl,rfl⟩⟩,k4⟩
  rintro ⟨q,LL⟩ ρ J7 ⟨⟨hq2,hstg⟩,HL⟩
  rcases hstg with ⟨rfl,rfl⟩ | ⟨rfl,e0,S0,J0,a0,d0,F0,k3,k2,I2,hst0,J2,K2,W1,rfl⟩ | ⟨rfl,e0,S0,J0,a0,d0,F0,X0,V1,I1,m0,W0,F1,k3,k2,I2,hst0,J2,K2,W1,K7,L2,l4,hst1,m4,n4,t2,rfl⟩
  ·refine go 0 ?_
   refine sq ((bD rfl rfl).as (v':=.bool true) (by rfl)) ?_
   refine go 2 ?_
   have o4:=(HL.pk 11 [7,0,1,2,3,4,5,6,8,9,10])
   let O1:List RW:=[(rX l0 E64 ([0#64,0#64]) 130),(rC j0 #[RA,RA] 128),(rC i0 #[RA,RA] 61),(rC C0 I0 64),(rC B0 H0 66),(rC h0 x3 61),(rX A0 EI ([((in0.length:Nat):Int),((in1.length:Nat):Int)]) 32),x9,(rC tb1 x5 238),D0]
   let u2:=((rC tb0 x1 238):RW)
   let l3:=((rC tb0 U1 238):RW)
   let p4:PD:=[IC false false false fun _ _ _ w'=>Hp No w₀ w' (l3::(O1++(bB 137 235 230 sb0 st0++(bB 137 235 230 sb1 st1++R)))),IC true false false fun v8 _ _ w'=>∃ E0 L0 M0 r0 n0 N0,v8=.tuple #[sO E0 ops.length L0,.agg (xA E64 [(eC 0 ops ws0).1,(eC 0 ops ws0).2]).toArray,.nilIface]∧Sl aC E0 r0 L0 M0∧DrN (SB ops ((0:Nat):Int) (gB 0) ws0 (eB 0 ops)) (YA ops st0.t.l st0.b.l) ops.length r0 ops.length∧n0.ok∧n0.t.l=st0.t.l.drop (uA fA ops ops.length)∧n0.b.l=st0.b.l.drop (uA fB ops ops.length)∧n0.o.l=st0.o.l.drop (uA fO ops ops.length)∧DrG 235 130 N0 0 ops st0.o.l ws0 (eB 0 ops) r0 ops.length∧Hp No w₀ w' ((E0,wA aC 141 r0 M0)::u2::(O1++(bB 137 235 230 sb0 n0++(bB 137 235 230 sb1 st1++(N0++R))))),IC false true false fun _ v13 _ w'=>∃ J1,v13=pT J1∧Hp No w₀ w' ((rX J1 E64 ([0#64,0#64]) 130)::l3::(O1++(bB 137 235 230 sb0 st0++(bB 137 235 230 sb1 st1++R)))),IC true true false fun v8 v13 _ w'=>∃ E0 L0 M0 r0 n0 N0 Y0,v8=.tuple #[sO E0 ops.length L0,.agg (xA E64 [(eC 0 ops ws0).1,(eC 0 ops ws0).2]).toArray,.nilIface]∧v13=pT Y0∧Sl aC E0 r0 L0 M0∧DrN (SB ops ((0:Nat):Int) (gB 0) ws0 (eB 0 ops)) (YA ops st0.t.l st0.b.l) ops.length r0 ops.length∧n0.ok∧n0.t.l=st0.t.l.drop (uA fA ops ops.length)∧n0.b.l=st0.b.l.drop (uA fB ops ops.length)∧n0.o.l=st0.o.l.drop (uA fO ops ops.length)∧DrG 235 130 N0 0 ops st0.o.l ws0 (eB 0 ops) r0 ops.length∧Hp No w₀ w' ((rX Y0 E64 ([0#64,0#64]) 130)::(E0,wA aC 141 r0 M0)::u2::(O1++(bB 137 235 230 sb0 n0++(bB 137 235 230 sb1 st1++(N0++R))))),IC true true true fun v8 v13 _ w'=>∃ E0 L0 M0 r0 n0 N0 Y0,v8=.tuple #[sO E0 ops.length L0,.agg (xA E64 [(eC 0 ops ws0).1,(eC 0 ops ws0).2]).toArray,.nilIface]∧v13=pT Y0∧Sl aC E0 r0 L0 M0∧DrN (SB ops ((0:Nat):Int) (gB 0) ws0 (eB 0 ops)) (YA ops st0.t.l st0.b.l) ops.length r0 ops.length∧n0.ok∧n0.t.l=st0.t.l.drop (uA fA ops ops.length)∧n0.b.l=st0.b.l.drop (uA fB ops ops.length)∧n0.o.l=st0.o.l.drop (uA fO ops ops.length)∧DrG 235 130 N0 0 ops st0.o.l ws0 (eB 0 ops) r0 ops.length∧Hp No w₀ w' ((rX Y0 E64 ([(eC 0 ops ws0).1,(eC 0 ops ws0).2]) 130)::(E0,wA aC 141 r0 M0)::u2::(O1++(bB 137 235 230 sb0 n0++(bB 137 235 230 sb1 st1++(N0++R)))))]
   refine mB (m:=17) [0,0,0,4,12,0,32,96,255,511,1023,1023,1023,0,10239,28671,65535] [8,13,15] O1 p4 JA (fun _ e=>o4.ext e) zE (fun M2=>?_)
   refine gk 8 ?_
   refine WalkT.eff M2 0 ?_ ?_
   ·refine tB (fun r w0 uw hF hE=>?_) fun r w0 uw hF hE=>?_
    ·have q4:=hF.ext hE
     refine gW fun Q' hK=>?_
     have r4:=(Hp.segT (S:=[[(rC tb0 U1 238),x9],[(rX l0 E64 ([0#64,0#64]) 130),(rC j0 #[RA,RA] 128),(rC i0 #[RA,RA] 61),(rC C0 I0 64),(rC B0 H0 66),(rC h0 x3 61),(rX A0 EI ([((in0.length:Nat):Int),((in1.length:Nat):Int)]) 32),(rC tb1 x5 238),D0],bB 137 235 230 sb0 st0,bB 137 235 230 sb1 st1]) (Y:=R) (q4.pk 11 [0,8,1,2,3,4,5,6,7,9,10]) 4 rfl [0,2,1,3] [] (by decide)).as (L':=(_::_::(bB 137 235 230 sb0 st0++([(rX l0 E64 ([0#64,0#64]) 130),(rC j0 #[RA,RA] 128),(rC i0 #[RA,RA] 61),(rC C0 I0 64),(rC B0 H0 66),(rC h0 x3 61),(rX A0 EI ([((in0.length:Nat):Int),((in1.length:Nat):Int)]) 32),(rC tb1 x5 238),D0]++(bB 137 235 230 sb1 st1++R))))) rfl
     refine cl (zI ops oa oc 0 (by decide) tb0 tk0 tc0 ts0 ws0 hSw0 hwl0 sb0 st0 hst0 ([(rX l0 E64 ([0#64,0#64]) 130),(rC j0 #[RA,RA] 128),(rC i0 #[RA,RA] 61),(rC C0 I0 64),(rC B0 H0 66),(rC h0 x3 61),(rX A0 EI ([((in0.length:Nat):Int),((in1.length:Nat):Int)]) 32),(rC tb1 x5 238),D0]++(bB 137 235 230 sb1 st1++R)) w₀ uw hop hT0 hA0 hB0 hC0 (fun w1 hE hp=>hO w1 hE (fun p hp2=>hp p (List.mem_append_right _ (List.mem_append_right _ hp2)))) r4) ?_
     rintro _ L7 ⟨m3,s4,n3,o3,N2,O2,rfl,t4,u4,w4,y4,z4,A4,B4,C4⟩
     have D4:=(Hp.segT (S:=[[(m3,wA aC 141 o3 n3),(rC tb0 x1 238),x9],bB 137 235 230 sb0 N2,O2,[(rX l0 E64 ([0#64,0#64]) 130),(rC j0 #[RA,RA] 128),(rC i0 #[RA,RA] 61),(rC C0 I0 64),(rC B0 H0 66),(rC h0 x3 61),(rX A0 EI ([((in0.length:Nat):Int),((in1.length:Nat):Int)]) 32),(rC tb1 x5 238),D0],bB 137 235 230 sb1 st1]) (Y:=R) C4 5 rfl [0,3,1,4,2] [] (by decide)).as (L':=(_::_::_::_::_::_::_::_::_::_::_::_::(bB 137 235 230 sb0 N2++(bB 137 235 230 sb1 st1++(O2++R))))) rfl
     exact hK _ _ (E_ m3 (E_ s4 (E_ n3 (E_ o3 (E_ N2 (E_ O2 (A_ rfl (A_ t4 (A_ u4 (A_ w4 (A_ y4 (A_ z4 (A_ A4 (A_ B4 ((D4.pk 12 [0,1,3,4,5,6,7,8,9,2,10,11]))))))))))))))))
    ·obtain ⟨J1,O0,P2⟩:=hF
     replace P2:=P2.ext hE
     refine gW fun Q' hK=>?_
     have F4:=(Hp.segT (S:=[[(rC tb0 U1 238),x9],[(rX J1 E64 ([0#64,0#64]) 130),(rX l0 E64 ([0#64,0#64]) 130),(rC j0 #[RA,RA] 128),(rC i0 #[RA,RA] 61),(rC C0 I0 64),(rC B0 H0 66),(rC h0 x3 61),(rX A0 EI ([((in0.length:Nat):Int),((in1.length:Nat):Int)]) 32),(rC tb1 x5 238),D0],bB 137 235 230 sb0 st0,bB 137 235 230 sb1 st1]) (Y:=R) (P2.pk 12 [1,9,0,2,3,4,5,6,7,8,10,11]) 4 rfl [0,2,1,3] [] (by decide)).as (L':=(_::_::(bB 137 235 230 sb0 st0++([(rX J1 E64 ([0#64,0#64]) 130),(rX l0 E64 ([0#64,0#64]) 130),(rC j0 #[RA,RA] 128),(rC i0 #[RA,RA] 61),(rC C0 I0 64),(rC B0 H0 66),(rC h0 x3 61),(rX A0 EI ([((in0.length:Nat):Int),((in1.length:Nat):Int)]) 32),(rC tb1 x5 238),D0]++(bB 137 235 230 sb1 st1++R))))) rfl
     refine cl (zI ops oa oc 0 (by decide) tb0 tk0 tc0 ts0 ws0 hSw0 hwl0 sb0 st0 hst0 ([(rX J1 E64 ([0#64,0#64]) 130),(rX l0 E64 ([0#64,0#64]) 130),(rC j0 #[RA,RA] 128),(rC i0 #[RA,RA] 61),(rC C0 I0 64),(rC B0 H0 66),(rC h0 x3 61),(rX A0 EI ([((in0.length:Nat):Int),((in1.length:Nat):Int)]) 32),(rC tb1 x5 238),D0]++(bB 137 235 230 sb1 st1++R)) w₀ uw hop hT0 hA0 hB0 hC0 (fun w1 hE hp=>hO w1 hE (fun p hp2=>hp p (List.mem_append_right _ (List.mem_append_right _ hp2)))) F4) ?_
     rintro _ M7 ⟨p3,G4,q3,r3,Q2,R2,rfl,H4,I4,J4,K4,L4,M4,N4,O4⟩
     have Q4:=(Hp.segT (S:=[[(p3,wA aC 141 r3 q3),(rC tb0 x1 238),x9],bB 137 235 230 sb0 Q2,R2,[(rX J1 E64 ([0#64,0#64]) 130),(rX l0 E64 ([0#64,0#64]) 130),(rC j0 #[RA,RA] 128),(rC i0 #[RA,RA] 61),(rC C0 I0 64),(rC B0 H0 66),(rC h0 x3 61),(rX A0 EI ([((in0.length:Nat):Int),((in1.length:Nat):Int)]) 32),(rC tb1 x5 238),D0],bB 137 235 230 sb1 st1]) (Y:=R) O4 5 rfl [0,3,1,4,2] [] (by decide)).as (L':=(_::_::_::_::_::_::_::_::_::_::_::_::_::(bB 137 235 230 sb0 Q2++(bB 137 235 230 sb1 st1++(R2++R))))) rfl
     exact hK _ _ (E_ p3 (E_ G4 (E_ q3 (E_ r3 (E_ Q2 (E_ R2 (E_ J1 (A_ rfl (A_ O0 (A_ H4 (A_ I4 (A_ J4 (A_ K4 (A_ L4 (A_ M4 (A_ N4 ((Q4.pk 13 [3,0,1,4,5,6,7,8,9,10,2,11,12]))))))))))))))))))
   refine bA (fun r=>r 8) (fun r r' h=>h 8 (by decide) rfl) (fun _ _=>NA rfl) (aA (fun r=>tF (r 8) 0) (fun r r' h=>by rw [h 8 (by decide) rfl]) ?_ ?_)
   ·refine tB (fun r w0 uw hF hE=>?_) fun r w0 uw hF hE=>?_
    ·obtain ⟨E0,L0,M0,r0,n0,N0,e8,Z0,d1,e1,g1,h1,i1,j1,HH⟩:=hF
     replace HH:=HH.ext hE
     dsimp only
     rw [e8]
     exact nH
    ·obtain ⟨E0,L0,M0,r0,n0,N0,Y0,e8,O0,Z0,d1,e1,g1,h1,i1,j1,HH⟩:=hF
     replace HH:=HH.ext hE
     dsimp only
     rw [e8]
     exact nH
   refine aA (fun r=>tF (r 8) 1) (fun r r' h=>by rw [h 8 (by decide) rfl]) ?_ ?_
   ·refine tB (fun r w0 uw hF hE=>?_) fun r w0 uw hF hE=>?_
    ·obtain ⟨E0,L0,M0,r0,n0,N0,e8,Z0,d1,e1,g1,h1,i1,j1,HH⟩:=hF
     replace HH:=HH.ext hE
     dsimp only
     rw [e8]
     exact nH
    ·obtain ⟨E0,L0,M0,r0,n0,N0,Y0,e8,O0,Z0,d1,e1,g1,h1,i1,j1,HH⟩:=hF
     replace HH:=HH.ext hE
     dsimp only
     rw [e8]
     exact nH
   refine aA (fun r=>tF (r 8) 2) (fun r r' h=>by rw [h 8 (by decide) rfl]) ?_ ?_
   ·refine A_ (fun r w0 uw hF hE=>?_) (A_ (fun r w0 uw hF hE=>?_) (A_ (fun r w0 uw hF hE=>?_) trivial))
    ·obtain ⟨E0,L0,M0,r0,n0,N0,e8,Z0,d1,e1,g1,h1,i1,j1,HH⟩:=hF
     replace HH:=HH.ext hE
     dsimp only
     rw [e8]
     exact nH
    ·obtain ⟨E0,L0,M0,r0,n0,N0,Y0,e8,O0,Z0,d1,e1,g1,h1,i1,j1,HH⟩:=hF
     replace HH:=HH.ext hE
     dsimp only
     rw [e8]
     exact nH
    ·obtain ⟨E0,L0,M0,r0,n0,N0,Y0,e8,O0,Z0,d1,e1,g1,h1,i1,j1,HH⟩:=hF
     replace HH:=HH.ext hE
     dsimp only
     rw [e8]
     exact nH
   refine WalkT.eff M2 1 ?_ ?_
   ·refine tB (fun r w0 uw hF hE=>?_) fun r w0 uw hF hE=>?_
    ·have N7:=hF.ext hE
     refine gW fun Q' hK=>?_
     refine go 1 ?_
     intro R4 O7 P7 S4 Q7
     exact hK _ _ (E_ R4 (A_ rfl S4))
    ·obtain ⟨E0,L0,M0,r0,n0,N0,e8,Z0,d1,e1,g1,h1,i1,j1,t3⟩:=hF
     replace t3:=t3.ext hE
     refine gW fun Q' hK=>?_
     refine go 1 ?_
     intro U4 R7 S7 V4 T7
     exact hK _ _ (E_ E0 (E_ L0 (E_ M0 (E_ r0 (E_ n0 (E_ N0 (E_ U4 (A_ e8 (A_ rfl (A_ Z0 (A_ d1 (A_ e1 (A_ g1 (A_ h1 (A_ i1 (A_ j1 V4))))))))))))))))
   refine bA (fun r=>tF (r 8) 0) (fun r r' h=>by rw [h 8 (by decide) rfl]) (fun _ _=>MA rfl) (WalkT.eff M2 2 ?_ ?_)
   ·refine tA fun r w0 uw hF hE=>?_
    obtain ⟨E0,L0,M0,r0,n0,N0,Y0,e8,O0,Z0,d1,e1,g1,h1,i1,j1,u3⟩:=hF
    replace u3:=u3.ext hE
    dsimp only
    rw [O0,e8]
    refine PE fun Q' hK=>?_
    refine go 1 ?_
    intro U7 W4 V7
    exact hK _ (fun _=>(E_ E0 (E_ L0 (E_ M0 (E_ r0 (E_ n0 (E_ N0 (E_ Y0 (A_ e8 (A_ O0 (A_ Z0 (A_ d1 (A_ e1 (A_ g1 (A_ h1 (A_ i1 (A_ j1 W4)))))))))))))))))
   refine bA (fun r=>tF (r 8) 2) (fun r r' h=>by rw [h 8 (by decide) rfl]) (fun _ _=>MA rfl) (WalkT.nil fun r w0 W7 hF hE=>?_)
   obtain ⟨E0,L0,M0,r0,n0,N0,Y0,e8,O0,Z0,d1,e1,g1,h1,i1,j1,S2⟩:=hF
   replace S2:=S2.ext hE
   dsimp only
   rw [e8,O0]
   dsimp only [O1,u2] at S2
   refine go 1 ?_
   refine sq ((iF vF rfl rfl).as (v':=.bool false) (by rfl)) ?_
   refine go 4 ?_
   intro X4 Y4 X7
   refine go 2 ?_
   refine cl (AQ (0#64) (0#64) ((eC 0 ops ws0).1) ((eC 0 ops ws0).2) X4) ?_
   rintro _ Y7 ⟨rfl,Z4⟩
   have Z7:=Y4.ext Z4
   refine go 1 ?_
   intro c8 c5 d8
   refine go 2 ?_
   exact ⟨(0+1,_),_,rfl,kp,⟨⟨om,.inr (.inl ⟨rfl,E0,L0,M0,r0,n0,N0,Z0,d1,e1,g1,h1,i1,j1,rfl⟩)⟩,(c5.pk 13 [1,3,4,5,6,7,8,9,2,10,11,12])⟩,vd⟩
  ·refine go 0 ?_
   refine sq ((bD rfl rfl).as (v':=.bool true) (by rfl)) ?_
   refine go 2 ?_
   have d5:=(HL.pk 12 [10,0,1,2,3,4,5,6,7,8,9,11])
   let P1:List RW:=[(e0,wA aC 141 a0 J0),(rX l0 E64 ([((0#64)^^^((eC 0 ops ws0).1)),((0#64)^^^((eC 0 ops ws0).2))]) 130),(rC j0 #[sO e0 ops.length S0,RA] 128),(rC i0 #[RA,RA] 61),(rC C0 I0 64),(rC B0 H0 66),(rC h0 x3 61),(rX A0 EI ([((in0.length:Nat):Int),((in1.length:Nat):Int)]) 32),(rC tb0 x1 238),x9,D0]
   let w2:=((rC tb1 x7 238):RW)
   let w3:=((rC tb1 x5 238):RW)
   let f5:PD:=[IC false false false fun _ _ _ w'=>Hp No w₀ w' (w3::(P1++(bB 137 235 230 sb0 d0++(bB 137 235 230 sb1 st1++(F0++R))))),IC true false false fun v8 _ _ w'=>∃ G0 P0 Q0 x0 o0 R0,v8=.tuple #[sO G0 ops.length P0,.agg (xA E64 [(eC 1 ops ws1).1,(eC 1 ops ws1).2]).toArray,.nilIface]∧Sl aC G0 x0 P0 Q0∧DrN (SB ops ((1:Nat):Int) (gB 1) ws1 (eB 1 ops)) (YA ops st1.t.l st1.b.l) ops.length x0 ops.length∧o0.ok∧o0.t.l=st1.t.l.drop (uA fA ops ops.length)∧o0.b.l=st1.b.l.drop (uA fB ops ops.length)∧o0.o.l=st1.o.l.drop (uA fO ops ops.length)∧DrG 235 130 R0 1 ops st1.o.l ws1 (eB 1 ops) x0 ops.length∧Hp No w₀ w' ((G0,wA aC 141 x0 Q0)::w2::(P1++(bB 137 235 230 sb0 d0++(bB 137 235 230 sb1 o0++(R0++(F0++R)))))),IC false true false fun _ v13 _ w'=>∃ K1,v13=pT K1∧Hp No w₀ w' ((rX K1 E64 ([0#64,0#64]) 130)::w3::(P1++(bB 137 235 230 sb0 d0++(bB 137 235 230 sb1 st1++(F0++R))))),IC true true false fun v8 v13 _ w'=>∃ G0 P0 Q0 x0 o0 R0 l1,v8=.tuple #[sO G0 ops.length P0,.agg (xA E64 [(eC 1 ops ws1).1,(eC 1 ops ws1).2]).toArray,.nilIface]∧v13=pT l1∧Sl aC G0 x0 P0 Q0∧DrN (SB ops ((1:Nat):Int) (gB 1) ws1 (eB 1 ops)) (YA ops st1.t.l st1.b.l) ops.length x0 ops.length∧o0.ok∧o0.t.l=st1.t.l.drop (uA fA ops ops.length)∧o0.b.l=st1.b.l.drop (uA fB ops ops.length)∧o0.o.l=st1.o.l.drop (uA fO ops ops.length)∧DrG 235 130 R0 1 ops st1.o.l ws1 (eB 1 ops) x0 ops.length∧Hp No w₀ w' ((rX l1 E64 ([0#64,0#64]) 130)::(G0,wA aC 141 x0 Q0)::w2::(P1++(bB 137 235 230 sb0 d0++(bB 137 235 230 sb1 o0++(R0++(F0++R)))))),IC true true true fun v8 v13 _ w'=>∃ G0 P0 Q0 x0 o0 R0 l1,v8=.tuple #[sO G0 ops.length P0,.agg (xA E64 [(eC 1 ops ws1).1,(eC 1 ops ws1).2]).toArray,.nilIface]∧v13=pT l1∧Sl aC G0 x0 P0 Q0∧DrN (SB ops ((1:Nat):Int) (gB 1) ws1 (eB 1 ops)) (YA ops st1.t.l st1.b.l) ops.length x0 ops.length∧o0.ok∧o0.t.l=st1.t.l.drop (uA fA ops ops.length)∧o0.b.l=st1.b.l.drop (uA fB ops ops.length)∧o0.o.l=st1.o.l.drop (uA fO ops ops.length)∧DrG 235 130 R0 1 ops st1.o.l ws1 (eB 1 ops) x0 ops.length∧Hp No w₀ w' ((rX l1 E64 ([(eC 1 ops ws1).1,(eC 1 ops ws1).2]) 130)::(G0,wA aC 141 x0 Q0)::w2::(P1++(bB 137 235 230 sb0 d0++(bB 137 235 230 sb1 o0++(R0++(F0++R))))))]
   refine mB (m:=17) [0,0,0,4,12,0,32,96,255,511,1023,1023,1023,0,10239,28671,65535] [8,13,15] P1 f5 JA (fun _ e=>d5.ext e) zE (fun T2=>?_)
   refine gk 8 ?_
   refine WalkT.eff T2 0 ?_ ?_
   ·refine tB (fun r w0 uw hF hE=>?_) fun r w0 uw hF hE=>?_
    ·have g5:=hF.ext hE
     refine gW fun Q' hK=>?_
     have h5:=(Hp.segT (S:=[[(rC tb1 x5 238),D0],[(e0,wA aC 141 a0 J0),(rX l0 E64 ([((0#64)^^^((eC 0 ops ws0).1)),((0#64)^^^((eC 0 ops ws0).2))]) 130),(rC j0 #[sO e0 ops.length S0,RA] 128),(rC i0 #[RA,RA] 61),(rC C0 I0 64),(rC B0 H0 66),(rC h0 x3 61),(rX A0 EI ([((in0.length:Nat):Int),((in1.length:Nat):Int)]) 32),(rC tb0 x1 238),x9],bB 137 235 230 sb0 d0,bB 137 235 230 sb1 st1]) (Y:=(F0++R)) (g5.pk 12 [0,11,1,2,3,4,5,6,7,8,9,10]) 4 rfl [0,3,1,2] [] (by decide)).as (L':=(_::_::(bB 137 235 230 sb1 st1++([(e0,wA aC 141 a0 J0),(rX l0 E64 ([((0#64)^^^((eC 0 ops ws0).1)),((0#64)^^^((eC 0 ops ws0).2))]) 130),(rC j0 #[sO e0 ops.length S0,RA] 128),(rC i0 #[RA,RA] 61),(rC C0 I0 64),(rC B0 H0 66),(rC h0 x3 61),(rX A0 EI ([((in0.length:Nat):Int),((in1.length:Nat):Int)]) 32),(rC tb0 x1 238),x9]++(bB 137 235 230 sb0 d0++(F0++R)))))) rfl
     refine cl (zI ops oa oc 1 (by decide) tb1 tk1 tc1 ts1 ws1 hSw1 hwl1 sb1 st1 hst1 ([(e0,wA aC 141 a0 J0),(rX l0 E64 ([((0#64)^^^((eC 0 ops ws0).1)),((0#64)^^^((eC 0 ops ws0).2))]) 130),(rC j0 #[sO e0 ops.length S0,RA] 128),(rC i0 #[RA,RA] 61),(rC C0 I0 64),(rC B0 H0 66),(rC h0 x3 61),(rX A0 EI ([((in0.length:Nat):Int),((in1.length:Nat):Int)]) 32),(rC tb0 x1 238),x9]++(bB 137 235 230 sb0 d0++(F0++R))) w₀ uw hop hT1 hA1 hB1 hC1 (fun w1 hE hp=>hO w1 hE (fun p hp2=>hp p (List.mem_append_right _ (List.mem_append_right _ (List.mem_append_right _ hp2))))) h5) ?_
     rintro _ f8 ⟨y3,i5,z3,A3,U2,V2,rfl,j5,k5,l5,m5,n5,o5,p5,q5⟩
     have r5:=(Hp.segT (S:=[[(y3,wA aC 141 A3 z3),(rC tb1 x7 238),D0],bB 137 235 230 sb1 U2,V2,[(e0,wA aC 141 a0 J0),(rX l0 E64 ([((0#64)^^^((eC 0 ops ws0).1)),((0#64)^^^((eC 0 ops ws0).2))]) 130),(rC j0 #[sO e0 ops.length S0,RA] 128),(rC i0 #[RA,RA] 61),(rC C0 I0 64),(rC B0 H0 66),(rC h0 x3 61),(rX A0 EI ([((in0.length:Nat):Int),((in1.length:Nat):Int)]) 32),(rC tb0 x1 238),x9],bB 137 235 230 sb0 d0]) (Y:=(F0++R)) q5 5 rfl [0,3,4,1,2] [] (by decide)).as (L':=(_::_::_::_::_::_::_::_::_::_::_::_::_::(bB 137 235 230 sb0 d0++(bB 137 235 230 sb1 U2++(V2++(F0++R)))))) rfl
     exact hK _ _ (E_ y3 (E_ i5 (E_ z3 (E_ A3 (E_ U2 (E_ V2 (A_ rfl (A_ j5 (A_ k5 (A_ l5 (A_ m5 (A_ n5 (A_ o5 (A_ p5 ((r5.pk 13 [0,1,3,4,5,6,7,8,9,10,11,12,2]))))))))))))))))
    ·obtain ⟨K1,O0,Y2⟩:=hF
     replace Y2:=Y2.ext hE
     refine gW fun Q' hK=>?_
     have s5:=(Hp.segT (S:=[[(rC tb1 x5 238),D0],[(rX K1 E64 ([0#64,0#64]) 130),(e0,wA aC 141 a0 J0),(rX l0 E64 ([((0#64)^^^((eC 0 ops ws0).1)),((0#64)^^^((eC 0 ops ws0).2))]) 130),(rC j0 #[sO e0 ops.length S0,RA] 128),(rC i0 #[RA,RA] 61),(rC C0 I0 64),(rC B0 H0 66),(rC h0 x3 61),(rX A0 EI ([((in0.length:Nat):Int),((in1.length:Nat):Int)]) 32),(rC tb0 x1 238),x9],bB 137 235 230 sb0 d0,bB 137 235 230 sb1 st1]) (Y:=(F0++R)) (Y2.pk 13 [1,12,0,2,3,4,5,6,7,8,9,10,11]) 4 rfl [0,3,1,2] [] (by decide)).as (L':=(_::_::(bB 137 235 230 sb1 st1++([(rX K1 E64 ([0#64,0#64]) 130),(e0,wA aC 141 a0 J0),(rX l0 E64 ([((0#64)^^^((eC 0 ops ws0).1)),((0#64)^^^((eC 0 ops ws0).2))]) 130),(rC j0 #[sO e0 ops.length S0,RA] 128),(rC i0 #[RA,RA] 61),(rC C0 I0 64),(rC B0 H0 66),(rC h0 x3 61),(rX A0 EI ([((in0.length:Nat):Int),((in1.length:Nat):Int)]) 32),(rC tb0 x1 238),x9]++(bB 137 235 230 sb0 d0++(F0++R)))))) rfl
     refine cl (zI ops oa oc 1 (by decide) tb1 tk1 tc1 ts1 ws1 hSw1 hwl1 sb1 st1 hst1 ([(rX K1 E64 ([0#64,0#64]) 130),(e0,wA aC 141 a0 J0),(rX l0 E64 ([((0#64)^^^((eC 0 ops ws0).1)),((0#64)^^^((eC 0 ops ws0).2))]) 130),(rC j0 #[sO e0 ops.length S0,RA] 128),(rC i0 #[RA,RA] 61),(rC C0 I0 64),(rC B0 H0 66),(rC h0 x3 61),(rX A0 EI ([((in0.length:Nat):Int),((in1.length:Nat):Int)]) 32),(rC tb0 x1 238),x9]++(bB 137 235 230 sb0 d0++(F0++R))) w₀ uw hop hT1 hA1 hB1 hC1 (fun w1 hE hp=>hO w1 hE (fun p hp2=>hp p (List.mem_append_right _ (List.mem_append_right _ (List.mem_append_right _ hp2))))) s5) ?_
     rintro _ g8 ⟨B3,t5,C3,D3,Z2,c3,rfl,u5,w5,y5,z5,A5,B5,C5,D5⟩
     have E5:=(Hp.segT (S:=[[(B3,wA aC 141 D3 C3),(rC tb1 x7 238),D0],bB 137 235 230 sb1 Z2,c3,[(rX K1 E64 ([0#64,0#64]) 130),(e0,wA aC 141 a0 J0),(rX l0 E64 ([((0#64)^^^((eC 0 ops ws0).1)),((0#64)^^^((eC 0 ops ws0).2))]) 130),(rC j0 #[sO e0 ops.length S0,RA] 128),(rC i0 #[RA,RA] 61),(rC C0 I0 64),(rC B0 H0 66),(rC h0 x3 61),(rX A0 EI ([((in0.length:Nat):Int),((in1.length:Nat):Int)]) 32),(rC tb0 x1 238),x9],bB 137 235 230 sb0 d0]) (Y:=(F0++R)) D5 5 rfl [0,3,4,1,2] [] (by decide)).as (L':=(_::_::_::_::_::_::_::_::_::_::_::_::_::_::(bB 137 235 230 sb0 d0++(bB 137 235 230 sb1 Z2++(c3++(F0++R)))))) rfl
     exact hK _ _ (E_ B3 (E_ t5 (E_ C3 (E_ D3 (E_ Z2 (E_ c3 (E_ K1 (A_ rfl (A_ O0 (A_ u5 (A_ w5 (A_ y5 (A_ z5 (A_ A5 (A_ B5 (A_ C5 ((E5.pk 14 [3,0,1,4,5,6,7,8,9,10,11,12,13,2]))))))))))))))))))
   refine bA (fun r=>r 8) (fun r r' h=>h 8 (by decide) rfl) (fun _ _=>NA rfl) (aA (fun r=>tF (r 8) 0) (fun r r' h=>by rw [h 8 (by decide) rfl]) ?_ ?_)
   ·refine tB (fun r w0 uw hF hE=>?_) fun r w0 uw hF hE=>?_
    ·obtain ⟨G0,P0,Q0,x0,o0,R0,e8,m1,n1,o1,p1,r1,t1,y1,HH⟩:=hF
     replace HH:=HH.ext hE
     dsimp only
     rw [e8]
     exact nH
    ·obtain ⟨G0,P0,Q0,x0,o0,R0,l1,e8,O0,m1,n1,o1,p1,r1,t1,y1,HH⟩:=hF
     replace HH:=HH.ext hE
     dsimp only
     rw [e8]
     exact nH
   refine aA (fun r=>tF (r 8) 1) (fun r r' h=>by rw [h 8 (by decide) rfl]) ?_ ?_
   ·refine tB (fun r w0 uw hF hE=>?_) fun r w0 uw hF hE=>?_
    ·obtain ⟨G0,P0,Q0,x0,o0,R0,e8,m1,n1,o1,p1,r1,t1,y1,HH⟩:=hF
     replace HH:=HH.ext hE
     dsimp only
     rw [e8]
     exact nH
    ·obtain ⟨G0,P0,Q0,x0,o0,R0,l1,e8,O0,m1,n1,o1,p1,r1,t1,y1,HH⟩:=hF
     replace HH:=HH.ext hE
     dsimp only
     rw [e8]
     exact nH
   refine aA (fun r=>tF (r 8) 2) (fun r r' h=>by rw [h 8 (by decide) rfl]) ?_ ?_
   ·refine A_ (fun r w0 uw hF hE=>?_) (A_ (fun r w0 uw hF hE=>?_) (A_ (fun r w0 uw hF hE=>?_) trivial))
    ·obtain ⟨G0,P0,Q0,x0,o0,R0,e8,m1,n1,o1,p1,r1,t1,y1,HH⟩:=hF
     replace HH:=HH.ext hE
     dsimp only
     rw [e8]
     exact nH
    ·obtain ⟨G0,P0,Q0,x0,o0,R0,l1,e8,O0,m1,n1,o1,p1,r1,t1,y1,HH⟩:=hF
     replace HH:=HH.ext hE
     dsimp only
     rw [e8]
     exact nH
    ·obtain ⟨G0,P0,Q0,x0,o0,R0,l1,e8,O0,m1,n1,o1,p1,r1,t1,y1,HH⟩:=hF
     replace HH:=HH.ext hE
     dsimp only
     rw [e8]
     exact nH
   refine WalkT.eff T2 1 ?_ ?_
   ·refine tB (fun r w0 uw hF hE=>?_) fun r w0 uw hF hE=>?_
    ·have h8:=hF.ext hE
     refine gW fun Q' hK=>?_
     refine go 1 ?_
     intro F5 j8 k8 G5 l8
     exact hK _ _ (E_ F5 (A_ rfl G5))
    ·obtain ⟨G0,P0,Q0,x0,o0,R0,e8,m1,n1,o1,p1,r1,t1,y1,E3⟩:=hF
     replace E3:=E3.ext hE
     refine gW fun Q' hK=>?_
     refine go 1 ?_
     intro H5 m8 n8 I5 o8
     exact hK _ _ (E_ G0 (E_ P0 (E_ Q0 (E_ x0 (E_ o0 (E_ R0 (E_ H5 (A_ e8 (A_ rfl (A_ m1 (A_ n1 (A_ o1 (A_ p1 (A_ r1 (A_ t1 (A_ y1 I5))))))))))))))))
   refine bA (fun r=>tF (r 8) 0) (fun r r' h=>by rw [h 8 (by decide) rfl]) (fun _ _=>MA rfl) (WalkT.eff T2 2 ?_ ?_)
   ·refine tA fun r w0 uw hF hE=>?_
    obtain ⟨G0,P0,Q0,x0,o0,R0,l1,e8,O0,m1,n1,o1,p1,r1,t1,y1,F3⟩:=hF
    replace F3:=F3.ext hE
    dsimp only
    rw [O0,e8]
    refine PE fun Q' hK=>?_
    refine go 1 ?_
    intro p8 J5 q8
    exact hK _ (fun _=>(E_ G0 (E_ P0 (E_ Q0 (E_ x0 (E_ o0 (E_ R0 (E_ l1 (A_ e8 (A_ O0 (A_ m1 (A_ n1 (A_ o1 (A_ p1 (A_ r1 (A_ t1 (A_ y1 J5)))))))))))))))))
   refine bA (fun r=>tF (r 8) 2) (fun r r' h=>by rw [h 8 (by decide) rfl]) (fun _ _=>MA rfl) (WalkT.nil fun r w0 r8 hF hE=>?_)
   obtain ⟨G0,P0,Q0,x0,o0,R0,l1,e8,O0,m1,n1,o1,p1,r1,t1,y1,d3⟩:=hF
   replace d3:=d3.ext hE
   dsimp only
   rw [e8,O0]
   dsimp only [P1,w2] at d3
   refine go 1 ?_
   refine sq ((iF vF rfl rfl).as (v':=.bool false) (by rfl)) ?_
   refine go 4 ?_
   intro K5 L5 s8
   refine go 2 ?_
   refine cl (AQ ((0#64)^^^((eC 0 ops ws0).1)) ((0#64)^^^((eC 0 ops ws0).2)) ((eC 1 ops ws1).1) ((eC 1 ops ws1).2) K5) ?_
   rintro _ t8 ⟨rfl,M5⟩
   have w8:=L5.ext M5
   refine go 1 ?_
   intro y8 N5 z8
   refine go 2 ?_
   exact ⟨(1+1,_),_,rfl,kp,⟨⟨om,.inr (.inr ⟨rfl,e0,S0,J0,a0,d0,F0,G0,P0,Q0,x0,o0,R0,k3,k2,I2,hst0,J2,K2,W1,m1,n1,o1,p1,r1,t1,y1,rfl⟩)⟩,(N5.pk 14 [3,1,4,5,6,7,8,9,10,11,12,2,13])⟩,vd⟩
  ·refine go 0 ?_
   refine sq ((bD rfl rfl).as (v':=.bool false) (by rfl)) ?_
   refine go 1 ?_
   intro D1 A8 B8 O5 C8
   refine go 3 ?_
   refine DA (σ:=Nat × Option Nat × Nat × LV × Option Nat × Nat × LV) (fun (i,kw0,L1,sw0,kw1,E1,sw1)=>[(7,pT h0),(10,pT i0),(11,.nilIface),(14,pT j0),(15,pT l0),(20,pT D1),(78,.slice oa ops.length oc),(79,iN ops.length),(80,iN i)]) (fun (i,kw0,L1,sw0,kw1,E1,sw1) w'=>(i≤ops.length∧Sl E64 kw0 (iB Gb.kA ops in0 in1 ws0 ws1 (SB ops ((0:Nat):Int) (gB 0) ws0 (eB 0 ops)) (SB ops ((1:Nat):Int) (gB 1) ws1 (eB 1 ops)) (YA ops st0.t.l st0.b.l) (YA ops st1.t.l st1.b.l) st0.o.l st1.o.l i).1 L1 sw0∧Sl E64 kw1 (iB Gb.kA ops in0 in1 ws0 ws1 (SB ops ((0:Nat):Int) (gB 0) ws0 (eB 0 ops)) (SB ops ((1:Nat):Int) (gB 1) ws1 (eB 1 ops)) (YA ops st0.t.l st0.b.l) (YA ops st1.t.l st1.b.l) st0.o.l st1.o.l i).2 E1 sw1)∧Hp No w₀ w' ((kw0,wA E64 57 ((iB Gb.kA ops in0 in1 ws0 ws1 (SB ops ((0:Nat):Int) (gB 0) ws0 (eB 0 ops)) (SB ops ((1:Nat):Int) (gB 1) ws1 (eB 1 ops)) (YA ops st0.t.l st0.b.l) (YA ops st1.t.l st1.b.l) st0.o.l st1.o.l i).1) sw0)::(kw1,wA E64 57 ((iB Gb.kA ops in0 in1 ws0 ws1 (SB ops ((0:Nat):Int) (gB 0) ws0 (eB 0 ops)) (SB ops ((1:Nat):Int) (gB 1) ws1 (eB 1 ops)) (YA ops st0.t.l st0.b.l) (YA ops st1.t.l st1.b.l) st0.o.l st1.o.l i).2) sw1)::(rC D1 #[sO kw0 i L1,sO kw1 i E1] 61)::(e0,wA aC 141 a0 J0)::(X0,wA aC 141 m0 I1)::(rC j0 #[sO e0 ops.length S0,sO X0 ops.length V1] 128)::(rX l0 E64 ([(AH ops ws0 ws1).1,(AH ops ws0 ws1).2]) 130)::(rC h0 x3 61)::(rC i0 #[RA,RA] 61)::(rC tb0 x1 238)::x9::(rC tb1 x7 238)::D0::(bB 137 235 230 sb0 d0++(bB 137 235 230 sb1 W0++(F1++(F0++R)))))) (fun (i,kw0,L1,sw0,kw1,E1,sw1)=>ops.length-i) ((0,none,0,[],none,0,[])) ?_ ?_ ?_
   ·exact kp
   have P5:=((O5.pk 14 [0,1,2,4,3,8,5,10,11,12,13]).nil (wA E64 57 [] [])).nil (wA E64 57 [] [])
   ·exact ⟨⟨Nat.zero_le _,Sl.none,Sl.none⟩,P5⟩
   rintro ⟨i,kw0,L1,sw0,kw1,E1,sw1⟩ ρ D8 ⟨⟨hq3,hSk0,hSk1⟩,y2⟩
   have hdl0:=k2.len
   have hdl1:=L2.len
   obtain ⟨hwl0,hwl1⟩:=vG Gb.kA ops in0 in1 ws0 ws1 (SB ops ((0:Nat):Int) (gB 0) ws0 (eB 0 ops)) (SB ops ((1:Nat):Int) (gB 1) ws1 (eB 1 ops)) (YA ops st0.t.l st0.b.l) (YA ops st1.t.l st1.b.l) st0.o.l st1.o.l i
   refine go 1 ?_
   refine lA (((i:Nat):Int)<(ops.length:Nat)) rfl (fun Q5=>?_) (fun Q5=>?_)
   ·refine go 1 ?_
    refine sq (OF (E:=cH) (l:=ops) (j:=i) vF (hO _ y2.chg (fun p hp=>y2.has p (mT (mT (mT (mT (mT (mT (mT (mT (mT (mT (mT (mT (mT ((List.mem_append_right _ (List.mem_append_right _ (List.mem_append_right _ (List.mem_append_right _ hp)))))))))))))))))))) rfl rfl vo (by rfl) om) (sq ((lG (E:=cH) (l:=ops) (j:=i) (v:=ops.getD i UA) bK (hO _ y2.chg (fun p hp=>y2.has p (mT (mT (mT (mT (mT (mT (mT (mT (mT (mT (mT (mT (mT ((List.mem_append_right _ (List.mem_append_right _ (List.mem_append_right _ (List.mem_append_right _ hp)))))))))))))))))))) rfl rfl (rB om)).as (v':=.agg #[i64 ((ops.getD i UA).kd),i64 ((ops.getD i UA).a),i64 ((ops.getD i UA).b),i64 ((ops.getD i UA).k),u64 ((ops.getD i UA).c),i64 ((ops.getD i UA).pt)]) rfl) ?_)
    refine go 1 ?_
    intro l2 F8 G8 H8 I8
    refine go 2 ?_
    intro J8 R5 K8
    obtain ⟨o,ho⟩:∃ q1,q1=ops.getD i UA:=⟨_,rfl⟩
    let e3:Array Value:=#[sO kw0 i L1,sO kw1 i E1]
    let f3:Array Value:=#[i64 (o.kd),i64 (o.a),i64 (o.b),i64 (o.k),u64 (o.c),i64 (o.pt)]
    let g3:Array Value:=#[sO e0 ops.length S0,sO X0 ops.length V1]
    let x8:Array Value:=#[F2,.pointer none,iN ws1.length,iN (eB 1 ops+uA (gB 1) ops ops.length)]
    let x6:Array Value:=#[G2,.pointer none,iN ws0.length,iN (eB 0 ops+uA (gB 0) ops ops.length)]
    let x4:RW:=(kw1,wA E64 57 ((iB Gb.kA ops in0 in1 ws0 ws1 (SB ops ((0:Nat):Int) (gB 0) ws0 (eB 0 ops)) (SB ops ((1:Nat):Int) (gB 1) ws1 (eB 1 ops)) (YA ops st0.t.l st0.b.l) (YA ops st1.t.l st1.b.l) st0.o.l st1.o.l i).2) sw1)
    let x2:RW:=(kw0,wA E64 57 ((iB Gb.kA ops in0 in1 ws0 ws1 (SB ops ((0:Nat):Int) (gB 0) ws0 (eB 0 ops)) (SB ops ((1:Nat):Int) (gB 1) ws1 (eB 1 ops)) (YA ops st0.t.l st0.b.l) (YA ops st1.t.l st1.b.l) st0.o.l st1.o.l i).1) sw0)
    rw [← ho] at R5 ⊢
    have hgo:=hgd.at' i om
    rw [← ho] at hgo
    have hkp:=kdP_of hgo
    have hra:=EO hgo.a
    have hrb:=EO hgo.b
    refine go 1 ?_
    intro Y1 L8 M8 N8 O8
    refine go 1 ?_
    intro Z1 P8 Q8 G3 R8
    refine gj 0 ?_
    refine uM (σ:=W2 × W2) (fun (pa,pb)=>[(7,pT h0),(10,pT i0),(11,.nilIface),(14,pT j0),(15,pT l0),(20,pT D1),(21,iN i),(22,pT l2),(23,pT Y1),(24,pT Z1),(78,.slice oa ops.length oc),(79,iN ops.length),(80,iN i)]) (fun (pa,pb) w'=>(pa=((iB Gb.kA ops in0 in1 ws0 ws1 (SB ops ((0:Nat):Int) (gB 0) ws0 (eB 0 ops)) (SB ops ((1:Nat):Int) (gB 1) ws1 (eB 1 ops)) (YA ops st0.t.l st0.b.l) (YA ops st1.t.l st1.b.l) st0.o.l st1.o.l i).1.getD o.a.toNat 0#64,(iB Gb.kA ops in0 in1 ws0 ws1 (SB ops ((0:Nat):Int) (gB 0) ws0 (eB 0 ops)) (SB ops ((1:Nat):Int) (gB 1) ws1 (eB 1 ops)) (YA ops st0.t.l st0.b.l) (YA ops st1.t.l st1.b.l) st0.o.l st1.o.l i).2.getD o.a.toNat 0#64)∧pb=((iB Gb.kA ops in0 in1 ws0 ws1 (SB ops ((0:Nat):Int) (gB 0) ws0 (eB 0 ops)) (SB ops ((1:Nat):Int) (gB 1) ws1 (eB 1 ops)) (YA ops st0.t.l st0.b.l) (YA ops st1.t.l st1.b.l) st0.o.l st1.o.l i).1.getD o.b.toNat 0#64,(iB Gb.kA ops in0 in1 ws0 ws1 (SB ops ((0:Nat):Int) (gB 0) ws0 (eB 0 ops)) (SB ops ((1:Nat):Int) (gB 1) ws1 (eB 1 ops)) (YA ops st0.t.l st0.b.l) (YA ops st1.t.l st1.b.l) st0.o.l st1.o.l i).2.getD o.b.toNat 0#64))∧Hp No w₀ w' (x2::x4::(rC D1 e3 61)::(e0,wA aC 141 a0 J0)::(X0,wA aC 141 m0 I1)::(rC j0 g3 128)::(rX l0 E64 ([(AH ops ws0 ws1).1,(AH ops ws0 ws1).2]) 130)::(rC h0 x3 61)::(rC i0 #[RA,RA] 61)::(rC tb0 x6 238)::x9::(rC tb1 x8 238)::D0::(rC l2 f3 105)::(rX Y1 E64 ([pa.1,pa.2]) 134)::(rX Z1 E64 ([pb.1,pb.2]) 134)::(bB 137 235 230 sb0 d0++(bB 137 235 230 sb1 W0++(F1++(F0++R)))))) ?_ (fun H3=>?_)
    ·rintro ⟨pa,pb⟩ ρ S8 ⟨⟨hpa,hpb⟩,S5⟩
     refine go 0 ?_
     let Q1:List RW:=(x2::x4::(rC D1 e3 61)::(e0,wA aC 141 a0 J0)::(X0,wA aC 141 m0 I1)::(rC j0 g3 128)::(rX l0 E64 ([(AH ops ws0 ws1).1,(AH ops ws0 ws1).2]) 130)::(rC h0 x3 61)::(rC i0 #[RA,RA] 61)::(rC tb0 x6 238)::x9::(rC tb1 x8 238)::D0::(rC l2 f3 105)::(rX Y1 E64 ([pa.1,pa.2]) 134)::(rX Z1 E64 ([pb.1,pb.2]) 134)::(bB 137 235 230 sb0 d0++(bB 137 235 230 sb1 W0++(F1++(F0++R)))))
     let T5:PD:=[IC false false false fun _ _ _ w'=>Hp No w₀ w' Q1,IC true false false fun v17 _ _ w'=>v17=.agg (xA E64 [(tD Gb.kA o (i:Nat) pa pb in0 in1 (a0.getD i XB).w (m0.getD i XB).w (a0.getD i XB).t (m0.getD i XB).t (AH ops ws0 ws1) (dP ops ws0 i) (sG ops st0.o.l i) (sG ops st1.o.l i)).1,(tD Gb.kA o (i:Nat) pa pb in0 in1 (a0.getD i XB).w (m0.getD i XB).w (a0.getD i XB).t (m0.getD i XB).t (AH ops ws0 ws1) (dP ops ws0 i) (sG ops st0.o.l i) (sG ops st1.o.l i)).2]).toArray∧Hp No w₀ w' Q1,IC false true false fun _ v18 _ w'=>∃ z2,v18=pT z2∧Hp No w₀ w' ((rX z2 E64 ([0#64,0#64]) 134)::Q1),IC true true false fun v17 v18 _ w'=>∃ G1,v17=.agg (xA E64 [(tD Gb.kA o (i:Nat) pa pb in0 in1 (a0.getD i XB).w (m0.getD i XB).w (a0.getD i XB).t (m0.getD i XB).t (AH ops ws0 ws1) (dP ops ws0 i) (sG ops st0.o.l i) (sG ops st1.o.l i)).1,(tD Gb.kA o (i:Nat) pa pb in0 in1 (a0.getD i XB).w (m0.getD i XB).w (a0.getD i XB).t (m0.getD i XB).t (AH ops ws0 ws1) (dP ops ws0 i) (sG ops st0.o.l i) (sG ops st1.o.l i)).2]).toArray∧v18=pT G1∧Hp No w₀ w' ((rX G1 E64 ([0#64,0#64]) 134)::Q1),IC true true true fun v17 v18 _ w'=>∃ G1,v17=.agg (xA E64 [(tD Gb.kA o (i:Nat) pa pb in0 in1 (a0.getD i XB).w (m0.getD i XB).w (a0.getD i XB).t (m0.getD i XB).t (AH ops ws0 ws1) (dP ops ws0 i) (sG ops st0.o.l i) (sG ops st1.o.l i)).1,(tD Gb.kA o (i:Nat) pa pb in0 in1 (a0.getD i XB).w (m0.getD i XB).w (a0.getD i XB).t (m0.getD i XB).t (AH ops ws0 ws1) (dP ops ws0 i) (sG ops st0.o.l i) (sG ops st1.o.l i)).2]).toArray∧v18=pT G1∧Hp No w₀ w' ((rX G1 E64 ([(tD Gb.kA o (i:Nat) pa pb in0 in1 (a0.getD i XB).w (m0.getD i XB).w (a0.getD i XB).t (m0.getD i XB).t (AH ops ws0 ws1) (dP ops ws0 i) (sG ops st0.o.l i) (sG ops st1.o.l i)).1,(tD Gb.kA o (i:Nat) pa pb in0 in1 (a0.getD i XB).w (m0.getD i XB).w (a0.getD i XB).t (m0.getD i XB).t (AH ops ws0 ws1) (dP ops ws0 i) (sG ops st0.o.l i) (sG ops st1.o.l i)).2]) 134)::Q1)]
     refine mB (m:=20) [0,0,0,0,0,0,32,0,224,480,0,1024,0,7168,15360,32736,0,131071,0,524287] [17,18,19] Q1 T5 JA (fun _ e=>S5.ext e) zE (fun h3=>?_)
     refine gk 17 ?_
     refine WalkT.eff h3 0 ?_ ?_
     ·refine tB (fun r w0 uw hF hE=>?_) fun r w0 uw hF hE=>?_
      ·have R1:=hF.ext hE
       refine gW fun Q' hK=>(cl (IM o (i:Nat) pa pb in0 in1 na0 na1 nc0 nc1 (a0.getD i XB) (m0.getD i XB) (AH ops ws0 ws1) (dP ops ws0 i) (sG ops st0.o.l i) (sG ops st1.o.l i) hkp uw gE (hN0 _ R1.chg (fun p hp=>R1.has p (mT (mT (mT (mT (mT (mT (mT (mT (mT (mT (mT (mT (mT (mT (mT (mT ((List.mem_append_right _ (List.mem_append_right _ (List.mem_append_right _ (List.mem_append_right _ hp))))))))))))))))))))))) (hN1 _ R1.chg (fun p hp=>R1.has p (mT (mT (mT (mT (mT (mT (mT (mT (mT (mT (mT (mT (mT (mT (mT (mT ((List.mem_append_right _ (List.mem_append_right _ (List.mem_append_right _ (List.mem_append_right _ hp))))))))))))))))))))))) (fun h17=>yR W1 t2 rfl ho om h17 (aN h17 hgo.ok).1 hC0 hC1) (fun h17=>dV W1 t2 rfl ho om h17 (fun p hp=>R1.has p (mT (mT (mT (mT (mT (mT (mT (mT (mT (mT (mT (mT (mT (mT (mT (mT ((List.mem_append_right _ (List.mem_append_right _ (List.mem_append_right _ (List.mem_append_left _ hp)))))))))))))))))))))) (fun p hp=>R1.has p (mT (mT (mT (mT (mT (mT (mT (mT (mT (mT (mT (mT (mT (mT (mT (mT ((List.mem_append_right _ (List.mem_append_right _ (List.mem_append_left _ hp))))))))))))))))))))))) ?_)
       rintro _ U8 ⟨rfl,U5⟩
       have V5:=R1.ext U5
       exact hK _ _ (A_ rfl V5)
      ·obtain ⟨z2,c2,H1⟩:=hF
       replace H1:=H1.ext hE
       refine gW fun Q' hK=>(cl (IM o (i:Nat) pa pb in0 in1 na0 na1 nc0 nc1 (a0.getD i XB) (m0.getD i XB) (AH ops ws0 ws1) (dP ops ws0 i) (sG ops st0.o.l i) (sG ops st1.o.l i) hkp uw gE (hN0 _ H1.chg (fun p hp=>H1.has p (mT (mT (mT (mT (mT (mT (mT (mT (mT (mT (mT (mT (mT (mT (mT (mT (mT ((List.mem_append_right _ (List.mem_append_right _ (List.mem_append_right _ (List.mem_append_right _ hp)))))))))))))))))))))))) (hN1 _ H1.chg (fun p hp=>H1.has p (mT (mT (mT (mT (mT (mT (mT (mT (mT (mT (mT (mT (mT (mT (mT (mT (mT ((List.mem_append_right _ (List.mem_append_right _ (List.mem_append_right _ (List.mem_append_right _ hp)))))))))))))))))))))))) (fun h17=>yR W1 t2 rfl ho om h17 (aN h17 hgo.ok).1 hC0 hC1) (fun h17=>dV W1 t2 rfl ho om h17 (fun p hp=>H1.has p (mT (mT (mT (mT (mT (mT (mT (mT (mT (mT (mT (mT (mT (mT (mT (mT (mT ((List.mem_append_right _ (List.mem_append_right _ (List.mem_append_right _ (List.mem_append_left _ hp))))))))))))))))))))))) (fun p hp=>H1.has p (mT (mT (mT (mT (mT (mT (mT (mT (mT (mT (mT (mT (mT (mT (mT (mT (mT ((List.mem_append_right _ (List.mem_append_right _ (List.mem_append_left _ hp)))))))))))))))))))))))) ?_)
       rintro _ V8 ⟨rfl,W5⟩
       have X5:=H1.ext W5
       exact hK _ _ (E_ z2 (A_ rfl (A_ c2 X5)))
     refine WalkT.eff h3 1 ?_ ?_
     ·refine tB (fun r w0 uw hF hE=>?_) fun r w0 uw hF hE=>?_
      ·have W8:=hF.ext hE
       refine gW fun Q' hK=>?_
       refine go 1 ?_
       intro Y5 X8 Y8 Z5 Z8
       exact hK _ _ (E_ Y5 (A_ rfl Z5))
      ·obtain ⟨d2,I3⟩:=hF
       replace I3:=I3.ext hE
       refine gW fun Q' hK=>?_
       refine go 1 ?_
       intro c6 c9 d9 d6 e9
       exact hK _ _ (E_ c6 (A_ d2 (A_ rfl d6)))
     refine WalkT.eff h3 2 ?_ ?_
     ·refine tA fun r w0 uw hF hE=>?_
      obtain ⟨G1,d2,c2,J3⟩:=hF
      replace J3:=J3.ext hE
      dsimp only
      rw [d2,c2]
      refine PE fun Q' hK=>?_
      refine go 1 ?_
      intro f9 e6 g9
      exact hK _ (fun _=>(E_ G1 (A_ d2 (A_ c2 e6))))
     refine WalkT.nil fun r w0 h9 hF hE=>?_
     obtain ⟨G1,d2,c2,m2⟩:=hF
     replace m2:=m2.ext hE
     dsimp only
     rw [d2,c2]
     dsimp only [Q1] at m2
     obtain ⟨xp,hxp⟩:∃ q,q=(tD Gb.kA o (i:Nat) pa pb in0 in1 (a0.getD i XB).w (m0.getD i XB).w (a0.getD i XB).t (m0.getD i XB).t (AH ops ws0 ws1) (dP ops ws0 i) (sG ops st0.o.l i) (sG ops st1.o.l i)):=⟨_,rfl⟩
     rw [← hxp] at m2
     have hsx:(iB Gb.kA ops in0 in1 ws0 ws1 (SB ops ((0:Nat):Int) (gB 0) ws0 (eB 0 ops)) (SB ops ((1:Nat):Int) (gB 1) ws1 (eB 1 ops)) (YA ops st0.t.l st0.b.l) (YA ops st1.t.l st1.b.l) st0.o.l st1.o.l (i+1))=((iB Gb.kA ops in0 in1 ws0 ws1 (SB ops ((0:Nat):Int) (gB 0) ws0 (eB 0 ops)) (SB ops ((1:Nat):Int) (gB 1) ws1 (eB 1 ops)) (YA ops st0.t.l st0.b.l) (YA ops st1.t.l st1.b.l) st0.o.l st1.o.l i).1++[xp.1],(iB Gb.kA ops in0 in1 ws0 ws1 (SB ops ((0:Nat):Int) (gB 0) ws0 (eB 0 ops)) (SB ops ((1:Nat):Int) (gB 1) ws1 (eB 1 ops)) (YA ops st0.t.l st0.b.l) (YA ops st1.t.l st1.b.l) st0.o.l st1.o.l i).2++[xp.2]):=by rw [iB,← ho,hxp,hpa,hpb,k2.w i om,L2.w i om,k2.t i om,L2.t i om]
     refine go 0 ?_
     have f6:=(m2.pk 17 [1,2,3,0,4,5,6,7,8,9,10,11,12,13,14,15,16])
     let B1:List RW:=((rX G1 E64 ([xp.1,xp.2]) 134)::(e0,wA aC 141 a0 J0)::(X0,wA aC 141 m0 I1)::(rC j0 #[sO e0 ops.length S0,sO X0 ops.length V1] 128)::(rX l0 E64 ([(AH ops ws0 ws1).1,(AH ops ws0 ws1).2]) 130)::(rC h0 #[.slice na0 in0.length nc0,.slice na1 in1.length nc1] 61)::(rC i0 #[RA,RA] 61)::(rC tb0 #[sO tk0 ws0.length tc0,.pointer none,iN ws0.length,iN (eB 0 ops+uA (gB 0) ops ops.length)] 238)::(tk0,wA E64 57 ws0 ts0)::(rC tb1 #[sO tk1 ws1.length tc1,.pointer none,iN ws1.length,iN (eB 1 ops+uA (gB 1) ops ops.length)] 238)::(tk1,wA E64 57 ws1 ts1)::(rC l2 #[i64 (o.kd),i64 (o.a),i64 (o.b),i64 (o.k),u64 (o.c),i64 (o.pt)] 105)::(rX Y1 E64 ([pa.1,pa.2]) 134)::(rX Z1 E64 ([pb.1,pb.2]) 134)::(bB 137 235 230 sb0 d0++(bB 137 235 230 sb1 W0++(F1++(F0++R)))))
     let M1:=fun (b0:Nat)=>(((some b0),wA E64 57 ([xp.1]) ([])):RW)
     let n2:=fun (y0:Nat)=>(((some y0),wA E64 57 ([xp.2]) ([])):RW)
     let e2:=fun (f0:Option Nat) (p0:LV)=>((f0,wA E64 57 (((iB Gb.kA ops in0 in1 ws0 ws1 (SB ops ((0:Nat):Int) (gB 0) ws0 (eB 0 ops)) (SB ops ((1:Nat):Int) (gB 1) ws1 (eB 1 ops)) (YA ops st0.t.l st0.b.l) (YA ops st1.t.l st1.b.l) st0.o.l st1.o.l i).1)++([xp.1])) p0):RW)
     let A2:=fun (K0:Option Nat) (T0:LV)=>((K0,wA E64 57 (((iB Gb.kA ops in0 in1 ws0 ws1 (SB ops ((0:Nat):Int) (gB 0) ws0 (eB 0 ops)) (SB ops ((1:Nat):Int) (gB 1) ws1 (eB 1 ops)) (YA ops st0.t.l st0.b.l) (YA ops st1.t.l st1.b.l) st0.o.l st1.o.l i).2)++([xp.2])) T0):RW)
     let C2:=((kw0,wA E64 57 ((iB Gb.kA ops in0 in1 ws0 ws1 (SB ops ((0:Nat):Int) (gB 0) ws0 (eB 0 ops)) (SB ops ((1:Nat):Int) (gB 1) ws1 (eB 1 ops)) (YA ops st0.t.l st0.b.l) (YA ops st1.t.l st1.b.l) st0.o.l st1.o.l i).1) sw0):RW)
     let f2:=((kw1,wA E64 57 ((iB Gb.kA ops in0 in1 ws0 ws1 (SB ops ((0:Nat):Int) (gB 0) ws0 (eB 0 ops)) (SB ops ((1:Nat):Int) (gB 1) ws1 (eB 1 ops)) (YA ops st0.t.l st0.b.l) (YA ops st1.t.l st1.b.l) st0.o.l st1.o.l i).2) sw1):RW)
     let S1:=((rC D1 #[sO kw0 i L1,sO kw1 i E1] 61):RW)
     let N1:=fun (b0:Nat)=>(Sl E64 (some b0) ([xp.1]) 1 ([]):Prop)
     let o2:=fun (y0:Nat)=>(Sl E64 (some y0) ([xp.2]) 1 ([]):Prop)
     let g2:=fun (f0:Option Nat) (q0:Nat) (p0:LV)=>(Sl E64 f0 (((iB Gb.kA ops in0 in1 ws0 ws1 (SB ops ((0:Nat):Int) (gB 0) ws0 (eB 0 ops)) (SB ops ((1:Nat):Int) (gB 1) ws1 (eB 1 ops)) (YA ops st0.t.l st0.b.l) (YA ops st1.t.l st1.b.l) st0.o.l st1.o.l i).1)++([xp.1])) q0 p0:Prop)
     let D2:=fun (K0:Option Nat) (U0:Nat) (T0:LV)=>(Sl E64 K0 (((iB Gb.kA ops in0 in1 ws0 ws1 (SB ops ((0:Nat):Int) (gB 0) ws0 (eB 0 ops)) (SB ops ((1:Nat):Int) (gB 1) ws1 (eB 1 ops)) (YA ops st0.t.l st0.b.l) (YA ops st1.t.l st1.b.l) st0.o.l st1.o.l i).2)++([xp.2])) U0 T0:Prop)
     let g6:PD:=[lY false false false false false false fun _ _ _ _ _ _ w'=>Hp No w₀ w' (C2::f2::S1::B1),lY true false false false false false fun v4 _ _ _ _ _ w'=>∃ b0,v4=sO (some b0) 1 1∧(N1 b0)∧Hp No w₀ w' ((M1 b0)::C2::f2::S1::B1),lY true true false false false false fun v4 v5 _ _ _ _ w'=>∃ b0 f0 q0 p0,v4=sO (some b0) 1 1∧v5=sO f0 (i+1) q0∧(N1 b0)∧(g2 f0 q0 p0)∧Hp No w₀ w' ((M1 b0)::(e2 f0 p0)::f2::S1::B1),lY false false true false false false fun _ _ v10 _ _ _ w'=>∃ p2,v10=sO (some p2) 1 1∧Sl E64 (some p2) ([xp.2]) 1 ([])∧Hp No w₀ w' (((some p2),wA E64 57 ([xp.2]) ([]))::C2::f2::S1::B1),lY true false true false false false fun v4 _ v10 _ _ _ w'=>∃ b0 q2,v4=sO (some b0) 1 1∧v10=sO (some q2) 1 1∧Sl E64 (some q2) ([xp.2]) 1 ([])∧(N1 b0)∧Hp No w₀ w' (((some q2),wA E64 57 ([xp.2]) ([]))::(M1 b0)::C2::f2::S1::B1),lY true true true false false false fun v4 v5 v10 _ _ _ w'=>∃ b0 f0 q0 p0 y0,v4=sO (some b0) 1 1∧v5=sO f0 (i+1) q0∧v10=sO (some y0) 1 1∧(o2 y0)∧(N1 b0)∧(g2 f0 q0 p0)∧Hp No w₀ w' ((n2 y0)::(M1 b0)::(e2 f0 p0)::f2::S1::B1),lY true true true true false false fun v4 v5 v10 v11 _ _ w'=>∃ b0 f0 q0 p0 y0 K0 U0 T0,v4=sO (some b0) 1 1∧v5=sO f0 (i+1) q0∧v10=sO (some y0) 1 1∧v11=sO K0 (i+1) U0∧(o2 y0)∧(N1 b0)∧(g2 f0 q0 p0)∧(D2 K0 U0 T0)∧Hp No w₀ w' ((n2 y0)::(M1 b0)::(e2 f0 p0)::(A2 K0 T0)::S1::B1),lY true true true true true false fun v4 v5 v10 v11 _ _ w'=>∃ b0 f0 q0 p0 y0 K0 U0 T0,v4=sO (some b0) 1 1∧v5=sO f0 (i+1) q0∧v10=sO (some y0) 1 1∧v11=sO K0 (i+1) U0∧(o2 y0)∧(N1 b0)∧(g2 f0 q0 p0)∧(D2 K0 U0 T0)∧Hp No w₀ w' ((n2 y0)::(M1 b0)::(e2 f0 p0)::(A2 K0 T0)::(rC D1 #[sO f0 (i+1) q0,sO kw1 i E1] 61)::B1),lY true true true true true true fun v4 v5 v10 v11 _ _ w'=>∃ b0 f0 q0 p0 y0 K0 U0 T0,v4=sO (some b0) 1 1∧v5=sO f0 (i+1) q0∧v10=sO (some y0) 1 1∧v11=sO K0 (i+1) U0∧(o2 y0)∧(N1 b0)∧(g2 f0 q0 p0)∧(D2 K0 U0 T0)∧Hp No w₀ w' ((n2 y0)::(M1 b0)::(e2 f0 p0)::(A2 K0 T0)::(rC D1 #[sO f0 (i+1) q0,sO K0 (i+1) U0] 61)::B1)]
     refine mB (m:=16) [0,1,0,4,12,31,0,64,0,256,768,2047,255,8191,16383,32767] [4,5,10,11,13,15] B1 g6 JA (fun _ e=>f6.ext e) zE (fun h2=>?_)
     refine gk 4 ?_
     refine WalkT.eff h2 0 ?_ ?_
     ·refine tB (fun r w0 uw hF hE=>?_) fun r w0 uw hF hE=>?_
      ·have i9:=hF.ext hE
       exact gW fun Q' hK=>(bS (E:=E64) (l:=[xp.1]) fun h6 j9 i6 j6 k9=>hK _ _ (E_ h6 (A_ rfl (A_ i6 j6))))
      ·obtain ⟨p2,A1,k6,K3⟩:=hF
       replace K3:=K3.ext hE
       exact gW fun Q' hK=>(bS (E:=E64) (l:=[xp.1]) fun l6 l9 m6 n6 m9=>hK _ _ (E_ l6 (E_ p2 (A_ rfl (A_ A1 (A_ k6 (A_ m6 ((n6.pk 5 [1,0,2,3,4])))))))))
     refine WalkT.eff h2 1 ?_ ?_
     ·refine tB (fun r w0 uw hF hE=>?_) fun r w0 uw hF hE=>?_
      ·obtain ⟨b0,e4,V0,L3⟩:=hF
       replace L3:=L3.ext hE
       dsimp only
       rw [e4]
       refine gW fun Q' hK=>?_
       refine aH ?_
       refine ⟨by exact hwl0.symm,by rfl,om,?_⟩
       intro o6 p6 q6 n9 r6 o9 s6
       exact hK _ _ (E_ b0 (E_ o6 (E_ p6 (E_ q6 (A_ e4 (A_ rfl (A_ V0 (A_ r6 s6))))))))
      ·obtain ⟨b0,q2,e4,A1,t6,V0,M3⟩:=hF
       replace M3:=M3.ext hE
       dsimp only
       rw [e4]
       refine gW fun Q' hK=>?_
       refine aH ?_
       refine ⟨by exact hwl0.symm,by rfl,om,?_⟩
       intro u6 w6 y6 p9 z6 q9 A6
       exact hK _ _ (E_ b0 (E_ u6 (E_ w6 (E_ y6 (E_ q2 (A_ e4 (A_ rfl (A_ A1 (A_ t6 (A_ V0 (A_ z6 A6)))))))))))
     refine gk 4 ?_
     refine WalkT.eff h2 2 ?_ ?_
     ·refine A_ (fun r w0 uw hF hE=>?_) (A_ (fun r w0 uw hF hE=>?_) (A_ (fun r w0 uw hF hE=>?_) trivial))
      ·have r9:=hF.ext hE
       exact gW fun Q' hK=>(bS (E:=E64) (l:=[xp.2]) fun B6 s9 C6 D6 t9=>hK _ _ (E_ B6 (A_ rfl (A_ C6 D6))))
      ·obtain ⟨b0,e4,V0,N3⟩:=hF
       replace N3:=N3.ext hE
       exact gW fun Q' hK=>(bS (E:=E64) (l:=[xp.2]) fun E6 u9 F6 G6 w9=>hK _ _ (E_ b0 (E_ E6 (A_ e4 (A_ rfl (A_ F6 (A_ V0 G6)))))))
      ·obtain ⟨b0,f0,q0,p0,e4,e5,V0,C1,O3⟩:=hF
       replace O3:=O3.ext hE
       exact gW fun Q' hK=>(bS (E:=E64) (l:=[xp.2]) fun H6 y9 I6 J6 z9=>hK _ _ (E_ b0 (E_ f0 (E_ q0 (E_ p0 (E_ H6 (A_ e4 (A_ e5 (A_ rfl (A_ I6 (A_ V0 (A_ C1 J6))))))))))))
     refine WalkT.eff h2 3 ?_ ?_
     ·refine tA fun r w0 uw hF hE=>?_
      obtain ⟨b0,f0,q0,p0,y0,e4,e5,A1,T1,V0,C1,P3⟩:=hF
      replace P3:=P3.ext hE
      dsimp only
      rw [A1]
      refine gW fun Q' hK=>?_
      refine aH ?_
      refine ⟨by exact hwl1.symm,by rfl,om,?_⟩
      intro K6 L6 M6 A9 N6 B9 O6
      exact hK _ _ (E_ b0 (E_ f0 (E_ q0 (E_ p0 (E_ y0 (E_ K6 (E_ L6 (E_ M6 (A_ e4 (A_ e5 (A_ A1 (A_ rfl (A_ T1 (A_ V0 (A_ C1 (A_ N6 O6))))))))))))))))
     refine gk 1 ?_
     refine WalkT.eff h2 4 ?_ ?_
     ·refine tA fun r w0 uw hF hE=>?_
      obtain ⟨b0,f0,q0,p0,y0,K0,U0,T0,e4,e5,A1,i2,T1,V0,C1,j2,Q3⟩:=hF
      replace Q3:=Q3.ext hE
      dsimp only
      rw [e5]
      refine PE fun Q' hK=>?_
      refine go 1 ?_
      intro C9 P6 D9
      exact hK _ (fun _=>(E_ b0 (E_ f0 (E_ q0 (E_ p0 (E_ y0 (E_ K0 (E_ U0 (E_ T0 (A_ e4 (A_ e5 (A_ A1 (A_ i2 (A_ T1 (A_ V0 (A_ C1 (A_ j2 P6)))))))))))))))))
     refine gk 1 ?_
     refine WalkT.eff h2 5 ?_ ?_
     ·refine tA fun r w0 uw hF hE=>?_
      obtain ⟨b0,f0,q0,p0,y0,K0,U0,T0,e4,e5,A1,i2,T1,V0,C1,j2,R3⟩:=hF
      replace R3:=R3.ext hE
      dsimp only
      rw [i2]
      refine PE fun Q' hK=>?_
      refine go 1 ?_
      intro E9 Q6 F9
      exact hK _ (fun _=>(E_ b0 (E_ f0 (E_ q0 (E_ p0 (E_ y0 (E_ K0 (E_ U0 (E_ T0 (A_ e4 (A_ e5 (A_ A1 (A_ i2 (A_ T1 (A_ V0 (A_ C1 (A_ j2 Q6)))))))))))))))))
     refine WalkT.nil fun r w0 G9 hF hE=>?_
     obtain ⟨b0,f0,q0,p0,y0,K0,U0,T0,e4,e5,A1,i2,T1,V0,C1,j2,E2⟩:=hF
     replace E2:=E2.ext hE
     dsimp only
     rw [e4,e5,A1,i2]
     dsimp only [o2] at T1
     dsimp only [N1] at V0
     dsimp only [g2] at C1
     dsimp only [D2] at j2
     dsimp only [B1,n2,M1,e2,A2] at E2
     refine go 2 ?_
     have R6:((iB Gb.kA ops in0 in1 ws0 ws1 (SB ops ((0:Nat):Int) (gB 0) ws0 (eB 0 ops)) (SB ops ((1:Nat):Int) (gB 1) ws1 (eB 1 ops)) (YA ops st0.t.l st0.b.l) (YA ops st1.t.l st1.b.l) st0.o.l st1.o.l i).1)++([xp.1])=(iB Gb.kA ops in0 in1 ws0 ws1 (SB ops ((0:Nat):Int) (gB 0) ws0 (eB 0 ops)) (SB ops ((1:Nat):Int) (gB 1) ws1 (eB 1 ops)) (YA ops st0.t.l st0.b.l) (YA ops st1.t.l st1.b.l) st0.o.l st1.o.l (i+1)).1:=by rw [hsx]
     have S3:=C1
     have T3:=E2
     rw [R6] at S3 T3
     have S6:((iB Gb.kA ops in0 in1 ws0 ws1 (SB ops ((0:Nat):Int) (gB 0) ws0 (eB 0 ops)) (SB ops ((1:Nat):Int) (gB 1) ws1 (eB 1 ops)) (YA ops st0.t.l st0.b.l) (YA ops st1.t.l st1.b.l) st0.o.l st1.o.l i).2)++([xp.2])=(iB Gb.kA ops in0 in1 ws0 ws1 (SB ops ((0:Nat):Int) (gB 0) ws0 (eB 0 ops)) (SB ops ((1:Nat):Int) (gB 1) ws1 (eB 1 ops)) (YA ops st0.t.l st0.b.l) (YA ops st1.t.l st1.b.l) st0.o.l st1.o.l (i+1)).2:=by rw [hsx]
     have U3:=j2
     have V3:=T3
     rw [S6] at U3 V3
     exact ⟨(i+1,f0,q0,p0,K0,U0,T0),_,rfl,kp,⟨⟨om,S3,U3⟩,((((((V3.dropk 18).dropk 17).dropk 16).dropk 5).dropk 1).dropk 0)⟩,vd⟩
    ·refine go 4 ?_
     refine lA ((0:Int)<(i:Nat)) rfl (fun T6=>?_) (fun T6=>?_)
     ·let r2:List RW:=((rC l2 f3 105)::x2::x4::(rC D1 e3 61)::(e0,wA aC 141 a0 J0)::(X0,wA aC 141 m0 I1)::(rC j0 g3 128)::(rX l0 E64 ([(AH ops ws0 ws1).1,(AH ops ws0 ws1).2]) 130)::(rC h0 x3 61)::(rC i0 #[RA,RA] 61)::(rC tb0 x6 238)::x9::(rC tb1 x8 238)::D0::(bB 137 235 230 sb0 d0++(bB 137 235 230 sb1 W0++(F1++(F0++R)))))
      let i3:=((rX Y1 E64 ([((iB Gb.kA ops in0 in1 ws0 ws1 (SB ops ((0:Nat):Int) (gB 0) ws0 (eB 0 ops)) (SB ops ((1:Nat):Int) (gB 1) ws1 (eB 1 ops)) (YA ops st0.t.l st0.b.l) (YA ops st1.t.l st1.b.l) st0.o.l st1.o.l i).1).getD o.a.toNat 0#64,((iB Gb.kA ops in0 in1 ws0 ws1 (SB ops ((0:Nat):Int) (gB 0) ws0 (eB 0 ops)) (SB ops ((1:Nat):Int) (gB 1) ws1 (eB 1 ops)) (YA ops st0.t.l st0.b.l) (YA ops st1.t.l st1.b.l) st0.o.l st1.o.l i).2).getD o.a.toNat 0#64]) 134):RW)
      let W3:=((rX Z1 E64 ([0#64,0#64]) 134):RW)
      let U6:PD:=[JF false false fun _ _ w'=>Hp No w₀ w' (W3::(rX Y1 E64 ([0#64,0#64]) 134)::r2),JF true false fun _ _ w'=>Hp No w₀ w' (W3::i3::r2),JF true true fun _ _ w'=>Hp No w₀ w' ((rX Z1 E64 ([((iB Gb.kA ops in0 in1 ws0 ws1 (SB ops ((0:Nat):Int) (gB 0) ws0 (eB 0 ops)) (SB ops ((1:Nat):Int) (gB 1) ws1 (eB 1 ops)) (YA ops st0.t.l st0.b.l) (YA ops st1.t.l st1.b.l) st0.o.l st1.o.l i).1).getD o.b.toNat 0#64,((iB Gb.kA ops in0 in1 ws0 ws1 (SB ops ((0:Nat):Int) (gB 0) ws0 (eB 0 ops)) (SB ops ((1:Nat):Int) (gB 1) ws1 (eB 1 ops)) (YA ops st0.t.l st0.b.l) (YA ops st1.t.l st1.b.l) st0.o.l st1.o.l i).2).getD o.b.toNat 0#64]) 134)::i3::r2)]
      refine mB (m:=28) [0,1,0,4,15,31,0,64,0,256,960,1984,4095,0,8192,0,32768,122880,253952,0,524288,0,2097152,7864320,16252928,33546240,8191,134217727] [26,27] r2 U6 JA (fun _ e=>G3.ext e) zE (fun X3=>?_)
      refine gk 26 ?_
      refine WalkT.eff X3 0 ?_ ?_
      ·refine tA fun r w0 uw hF hE=>?_
       have H9:=hF.ext hE
       refine PE fun Q' hK=>?_
       refine go 1 ?_
       intro I9 V6 J9
       exact hK _ (fun _=>V6)
      refine WalkT.eff X3 1 ?_ ?_
      ·refine tA fun r w0 uw hF hE=>?_
       have K9:=hF.ext hE
       refine PE fun Q' hK=>?_
       refine go 1 ?_
       intro L9 W6 M9
       exact hK _ (fun _=>W6)
      refine WalkT.nil fun r w0 N9 hF hE=>?_
      have Y3:=hF.ext hE
      dsimp only
      dsimp only [r2,i3] at Y3
      exact mH (AB (H3 (((iB Gb.kA ops in0 in1 ws0 ws1 (SB ops ((0:Nat):Int) (gB 0) ws0 (eB 0 ops)) (SB ops ((1:Nat):Int) (gB 1) ws1 (eB 1 ops)) (YA ops st0.t.l st0.b.l) (YA ops st1.t.l st1.b.l) st0.o.l st1.o.l i).1.getD o.a.toNat 0#64,(iB Gb.kA ops in0 in1 ws0 ws1 (SB ops ((0:Nat):Int) (gB 0) ws0 (eB 0 ops)) (SB ops ((1:Nat):Int) (gB 1) ws1 (eB 1 ops)) (YA ops st0.t.l st0.b.l) (YA ops st1.t.l st1.b.l) st0.o.l st1.o.l i).2.getD o.a.toNat 0#64),((iB Gb.kA ops in0 in1 ws0 ws1 (SB ops ((0:Nat):Int) (gB 0) ws0 (eB 0 ops)) (SB ops ((1:Nat):Int) (gB 1) ws1 (eB 1 ops)) (YA ops st0.t.l st0.b.l) (YA ops st1.t.l st1.b.l) st0.o.l st1.o.l i).1.getD o.b.toNat 0#64,(iB Gb.kA ops in0 in1 ws0 ws1 (SB ops ((0:Nat):Int) (gB 0) ws0 (eB 0 ops)) (SB ops ((1:Nat):Int) (gB 1) ws1 (eB 1 ops)) (YA ops st0.t.l st0.b.l) (YA ops st1.t.l st1.b.l) st0.o.l st1.o.l i).2.getD o.b.toNat 0#64)) _ _ kp ⟨⟨rfl,rfl⟩,(Y3.pk 16 [3,4,5,6,7,8,9,10,11,12,13,14,15,2,1,0])⟩))
     ·refine LF (AB ?_)
      have Z3:i=0:=by omega
      have hz1:((0#64,0#64):W2)=((iB Gb.kA ops in0 in1 ws0 ws1 (SB ops ((0:Nat):Int) (gB 0) ws0 (eB 0 ops)) (SB ops ((1:Nat):Int) (gB 1) ws1 (eB 1 ops)) (YA ops st0.t.l st0.b.l) (YA ops st1.t.l st1.b.l) st0.o.l st1.o.l i).1.getD o.a.toNat 0#64,(iB Gb.kA ops in0 in1 ws0 ws1 (SB ops ((0:Nat):Int) (gB 0) ws0 (eB 0 ops)) (SB ops ((1:Nat):Int) (gB 1) ws1 (eB 1 ops)) (YA ops st0.t.l st0.b.l) (YA ops st1.t.l st1.b.l) st0.o.l st1.o.l i).2.getD o.a.toNat 0#64):=by subst Z3; rfl
      have hz2:((0#64,0#64):W2)=((iB Gb.kA ops in0 in1 ws0 ws1 (SB ops ((0:Nat):Int) (gB 0) ws0 (eB 0 ops)) (SB ops ((1:Nat):Int) (gB 1) ws1 (eB 1 ops)) (YA ops st0.t.l st0.b.l) (YA ops st1.t.l st1.b.l) st0.o.l st1.o.l i).1.getD o.b.toNat 0#64,(iB Gb.kA ops in0 in1 ws0 ws1 (SB ops ((0:Nat):Int) (gB 0) ws0 (eB 0 ops)) (SB ops ((1:Nat):Int) (gB 1) ws1 (eB 1 ops)) (YA ops st0.t.l st0.b.l) (YA ops st1.t.l st1.b.l) st0.o.l st1.o.l i).2.getD o.b.toNat 0#64):=by subst Z3; rfl
      exact H3 ((0#64,0#64),(0#64,0#64)) _ _ kp ⟨⟨hz1,hz2⟩,(G3.pk 16 [3,4,5,6,7,8,9,10,11,12,13,14,15,2,1,0])⟩
   ·have hie:i=ops.length:=by omega
    subst hie
    refine go 2 ?_
    intro O9 X6 P9
    refine go 1 ?_
    have Y6:=(Hp.segT (S:=[[(kw0,wA E64 57 ((iB Gb.kA ops in0 in1 ws0 ws1 (SB ops ((0:Nat):Int) (gB 0) ws0 (eB 0 ops)) (SB ops ((1:Nat):Int) (gB 1) ws1 (eB 1 ops)) (YA ops st0.t.l st0.b.l) (YA ops st1.t.l st1.b.l) st0.o.l st1.o.l ops.length).1) sw0),(kw1,wA E64 57 ((iB Gb.kA ops in0 in1 ws0 ws1 (SB ops ((0:Nat):Int) (gB 0) ws0 (eB 0 ops)) (SB ops ((1:Nat):Int) (gB 1) ws1 (eB 1 ops)) (YA ops st0.t.l st0.b.l) (YA ops st1.t.l st1.b.l) st0.o.l st1.o.l ops.length).2) sw1),(rC tb0 x1 238),x9,(rC tb1 x7 238),D0],bB 137 235 230 sb0 d0,bB 137 235 230 sb1 W0,F1,F0]) (Y:=R) (((((((X6.dropk 8).dropk 7).dropk 6).dropk 5).dropk 4).dropk 3).dropk 2) 5 rfl [0,1,2] [3,4] (by decide)).as (L':=(_::_::_::_::_::_::(bB 137 235 230 sb0 d0++(bB 137 235 230 sb1 W0++R)))) rfl
    exact ⟨_,rfl,kw0,L1,sw0,kw1,E1,sw1,d0,W0,rfl,hSk0,hSk1,I2,hst0,J2,K2,l4,hst1,m4,n4,Y6⟩
end Go.Proofs.YtljlkhobfdofhaaGreatDoor.Ms
namespace Go.Proofs.YtljlkhobfdofhaaGreatDoor.Tp
open Go Vc Er Ek Circ Mi
open Co Cm
theorem HX:BI Tryz.prog 57=some 8:=by kernel_rfl
theorem GG:pD Tryz.prog 57 E64:=FG (by kernel_rfl) (by kernel_rfl)
theorem MO:mC Tryz.prog 105 0=some (0,1,103):=by kernel_rfl
theorem JA:Tryz.prog.follows .mixedOrders=true:=by kernel_rfl
theorem KV:QA Tryz.prog 103=true:=by kernel_rfl
theorem sli31:qD Tryz.prog 31=some (105,6):=by kernel_rfl
theorem FU:qD Tryz.prog 60=some (57,1):=by kernel_rfl
theorem WT:YB Tryz.prog 57=some (.int .u64 0):=by kernel_rfl
theorem XT (l:List (BitVec 64)) (a1 a2:Option Addr) (n1 n2 c1 c2:Nat) (hn1:n1=l.length) (hn2:n2=l.length) (w:World) (h1:Rd E64 w a1 l) (h2:Rd E64 w a2 l) (hl:l.length≤140737488355328):Ca 21 [.slice a1 n1 c1,.slice a2 n2 c2] w fun v w'=>v=.bool true∧Ext w w':=by
 subst hn1 hn2
 have H:=eA No w
 refine enter (n:=26) Tryz.func21 rfl rfl (vB rfl) ?_
 refine go 5 ?_
 refine sq ((TE rfl rfl).as (v':=.bool false) (by simp)) ?_
 refine go 3 ?_
 refine DA (σ:=Nat) (fun q=>[(0,.slice a1 l.length c1),(1,.slice a2 l.length c2),(12,iN l.length),(13,iN q)]) (fun q w'=>q≤l.length∧Hp No w w' []) (fun q=>l.length-q) (0) ?_ ?_ ?_
 ·exact kp
 ·exact ⟨Nat.zero_le _,H⟩
 rintro q ρ w1 ⟨hq,HL⟩
 refine go 1 ?_
 refine lA (((q:Nat):Int)<(l.length:Nat)) rfl (fun a0=>?_) (fun a0=>?_)
 ·refine go 2 ?_
  refine GB (K:=[none,none,none,none,none,none,none,none,none]) [0,0,3,7,0,0,48,112,255] (fun w'=>Ext w1 w') (fun w' w''=>Ext w' w'') JA (by kernel_rfl) (Ext.drew _) (fun _ _ h h'=>h.trans h') ?_ ?_
  ·exact LB (by decide)
  refine gk 8 ?_
  refine ⟨.bool false,fun _ d0 e0 _=>Gives.run rfl ((PQ (a:=l.getD q 0#64) (b:=l.getD q 0#64) rfl rfl).as (v':=.bool false) (by simp)) ⟨rfl,Chg.refl _ _⟩,?_⟩
  intro r24 f0 b0 hF
  have c0:=HL.ext b0
  refine go 2 ?_
  exact ⟨q+1,_,rfl,kp,⟨om,c0⟩,vd⟩
 ·refine go 1 ?_
  exact ⟨_,rfl,rfl,HL.chg⟩
theorem GO (ops:List Mo) (oa:Option Addr) (oc:Nat) (w:World) (hG:Gl w) (hO:Rd cH w oa ops) (hol:ops.length≤140737488355328):Ca 17 [.slice oa ops.length oc] w fun v w'=>v=i64 ((uA fG ops ops.length:Nat):Int)∧Ext w w':=by
 have H:=eA No w
 refine enter (n:=20) Tryz.func17 rfl rfl (vB rfl) ?_
 refine go 5 ?_
 refine DA (σ:=Nat) (fun i=>[(0,.slice oa ops.length oc),(3,iN (uA fG ops i)),(6,iN ops.length),(7,iN i)]) (fun i w'=>i≤ops.length∧Hp No w w' []) (fun i=>ops.length-i) (0) ?_ ?_ ?_
 ·exact kp
 ·exact ⟨Nat.zero_le _,H⟩
 rintro i ρ w1 ⟨hq,HL⟩
 have hle:=QE (f:=fG) (c:=1) (fun o=>by unfold fG; split<;>omega) ops i
 refine go 1 ?_
 refine lA (((i:Nat):Int)<(ops.length:Nat)) rfl (fun c8=>?_) (fun c8=>?_)
 ·refine go 6 ?_
  refine sq (KL (E:=cH) (l:=ops) (j:=i) (o:=0) (v:=(ops.getD i UA)) (u:=i64 ((ops.getD i UA).kd)) vF (hO.ext HL.chg) (rB om) rfl rfl rfl) ?_
  refine go 1 ?_
  refine lA (((ops.getD i UA).kd:Int)=(17:Int)) rfl (fun a0=>?_) (fun a0=>?_)
  ·refine go 5 ?_
   exact ⟨i+1,_,rfl,⟨rfl,congrArg (fun q:Nat=>i64 (q:Int)) (by rw [uA,fG,if_pos a0]),rfl,rfl,trivial⟩,⟨om,HL⟩,vd⟩
  ·refine go 2 ?_
   exact ⟨i+1,_,rfl,⟨rfl,congrArg (fun q:Nat=>i64 (q:Int)) (by rw [uA,fG,if_neg a0]; rfl),rfl,rfl,trivial⟩,⟨om,HL⟩,vd⟩
 ·have hie:i=ops.length:=by omega
  subst hie
  refine go 2 ?_
  exact ⟨_,rfl,rfl,HL.chg⟩
theorem XH (seed:BitVec 64) (n:Nat) (w:World) (hn:n≤17592186044416):Ca 46 [u64 seed,i64 ((n:Nat):Int)] w fun v w'=>∃ ls:List (BitVec 64),ls.length=n∧∃ (key:Option Nat) (c:Nat) (sp:LV),v=sO key ls.length c∧Sl E64 key ls c sp∧Hp No w w' [(key,wA E64 57 ls sp)]:=by
 have H:=eA No w
 refine enter (n:=23) Tryz.func46 rfl rfl (vB rfl) ?_
 refine go 2 ?_
 have H1:=H.nil (wA E64 57 [] [])
 refine go 1 ?_
 refine DA (σ:=Nat × BitVec 64 × List (BitVec 64) × Option Nat × Nat × LV) (fun (i,sd,ls,kf,cf,sf)=>[(0,u64 sd),(1,iN n),(5,sO kf i cf),(6,iN i)]) (fun (i,sd,ls,kf,cf,sf) w'=>(i≤n∧ls.length=i∧Sl E64 kf ls cf sf)∧Hp No w w' [(kf,wA E64 57 ls sf)]) (fun (i,sd,ls,kf,cf,sf)=>n-i) ((0,seed,[],none,0,[])) ?_ ?_ ?_
 ·exact kp
 ·exact ⟨⟨Nat.zero_le _,rfl,Sl.none⟩,H1⟩
 rintro ⟨i,sd,ls,kf,cf,sf⟩ ρ w2 ⟨⟨hq1,hfl,hSf⟩,HL⟩
 refine go 3 ?_
 refine lA (((i:Nat):Int)<(n:Nat)) rfl (fun cj9=>?_) (fun cj9=>?_)
 ·refine go 9 ?_
  refine bS (E:=E64) (l:=[((sd*(6364136223846793005#64))+(1442695040888963407#64))^^^(((sd*(6364136223846793005#64))+(1442695040888963407#64)) >>> (29:Nat))]) fun b4 w6 f0 H7 h0=>?_
  refine aH ?_
  refine ⟨by exact hfl.symm,by rfl,om,?_⟩
  intro a0 b0 c0 i0 d0 j0 e0
  refine go 4 ?_
  exact ⟨(i+1,_,(ls++([((sd*(6364136223846793005#64))+(1442695040888963407#64))^^^(((sd*(6364136223846793005#64))+(1442695040888963407#64)) >>> (29:Nat))])),a0,b0,c0),_,rfl,kp,⟨⟨om,by rw [List.length_append,hfl]; rfl,d0⟩,(e0.dropk 0)⟩,vd⟩
 ·refine go 2 ?_
  exact ⟨_,rfl,ls,by omega,kf,cf,sf,by rw [hfl]<;>rfl,hSf,HL⟩
end Go.Proofs.YtljlkhobfdofhaaGreatDoor.Tp
