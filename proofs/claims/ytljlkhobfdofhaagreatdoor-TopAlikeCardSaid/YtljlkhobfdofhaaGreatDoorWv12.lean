/- What the claim has need of: Cm7, Mi. -/
import Derived.Test.YtljlkhobfdofhaaGreatDoorWv11
set_option linter.unusedVariables false
set_option maxHeartbeats 16000000
set_option maxRecDepth 20000
namespace Go.Proofs.YtljlkhobfdofhaaGreatDoor.Cm
open Go Vc Er Circ
theorem WZ (fm:BitVec 64) (hf:fm<4#64) (w:World):Ca 84 [i64 (2:Int),u64 fm] w fun v w'=>∃ (key:Option Nat) (c:Nat) (sp:LV) (b:Nat),v=.tuple #[.agg #[i64 ((256:Nat):Int),sO key (dR (PC fm 0) (PC fm 1)).1.length c,.slice (some ⟨b,0,none⟩) 64 64],.nilIface]∧Sl EG key (dR (PC fm 0) (PC fm 1)).1 c sp∧Hp No w w' [(key,wA EG 345 (dR (PC fm 0) (PC fm 1)).1 sp),(rX b EI (dR (PC fm 0) (PC fm 1)).2 336)]:=by
 let x1:Array Value:=#[i64 0,RA,RA]
 have H:=eA No w
 refine enter (n:=131) Tryz.func84 rfl rfl (vB rfl) ?_
 refine go 1 ?_
 intro b1 w2 M1 H3 N1
 refine go 3 ?_
 refine sq ((RB rfl rfl).as (v':=.bool false) (by rfl)) ?_
 refine go 1 ?_
 refine sq ((RB rfl rfl).as (v':=.bool true) (by rfl)) ?_
 refine go 4 ?_
 refine sq ((MJ (a:=fm) (b:=(1#64) <<< (2:Nat)) rfl rfl).as (v':=.bool true) (by exact bT (hf))) ?_
 refine go 1 ?_
 refine sq ((AC rfl rfl om).as (v':=iN 256) (by rfl)) ?_
 refine go 3 ?_
 intro b5 w6 O1 H7 P1
 refine go 1 ?_
 have H9:=H7.nil (wA EG 345 [] [])
 have Q1:=H9.a3 rfl
 refine go 1 ?_
 intro a0 R1 S1 p0 T1
 rw [HK] at p0
 refine go 2 ?_
 refine DA (σ:=Nat × Option Nat × Nat × LV) (fun (i,kz,cz,sz)=>[(0,i64 2),(1,u64 fm),(4,pT b1),(7,pT b5),(8,pT a0),(36,i64 2),(37,iN i)]) (fun (i,kz,cz,sz) w'=>(i≤2∧Sl EG kz (IA 256 fm i).1 cz sz)∧Hp No w w' [(rC b5 #[iN 256,sO kz (List.length ((IA 256 fm i).1)) cz,RA] 334),(kz,wA EG 345 ((IA 256 fm i).1) sz),(rX a0 EI (oC ((IA 256 fm i).2)) 337),(rC b1 x1 218)]) (fun (i,kz,cz,sz)=>2-i) ((0,none,0,[])) ?_ ?_ ?_
 ·exact kp
 ·exact ⟨⟨om,Sl.none⟩,(p0.pk 4 [2,1,0,3])⟩
 rintro ⟨i,kz,cz,sz⟩ ρ P0 ⟨⟨hq,hSz⟩,HL⟩
 have hol:=JK 256 fm i
 have hi1:=aE (64*(2*i)) 64
 have hi2:=aE (64*(2*i+1)) 64
 have hpx:(oC (IA 256 fm i).2).length=128:=AD (by rw [hol.2]; omega)
 refine go 1 ?_
 refine lA (((i:Nat):Int)<(2:Int)) rfl (fun Q0=>?_) (fun Q0=>?_)
 ·refine go 4 ?_
  refine sq ((AC rfl rfl om).as (v':=iN (2*i)) (by exact congrArg i64 om)) ?_
  refine cl (AF b5 (2*i) om P0) ?_
  rintro _ R0 ⟨rfl,S0⟩
  have T0:=HL.ext S0
  refine go 2 ?_
  refine sq ((AC rfl rfl om).as (v':=iN (2*i)) (by exact congrArg i64 om)) ?_
  refine sq ((iC rfl rfl om).as (v':=iN (2*i+1)) (by exact congrArg i64 om)) ?_
  refine cl (AF b5 (2*i+1) om R0) ?_
  rintro _ U1 ⟨rfl,U0⟩
  have V1:=T0.ext U0
  refine go 1 ?_
  intro h0 W1 Y1 Z1 c2
  refine go 1 ?_
  intro i0 d2 e2 V0 f2
  refine GA (k:=1) (v:=.agg (xA EI (jB (64*(2*i)) 64)).toArray) (cs':=(xA EI (jB (64*(2*i)) 64)).toArray) V0 rfl rfl rfl vF (by exact IB (by rw [hi1]; rfl)) (by exact jC _) (by rw [List.size_toArray,qA]; show _≤_*1; first | omega | (simp only [List.length_set]; omega) | exact vB rfl | (simp<;>omega)) (by exact kD (by rw [List.length_replicate]; exact hi1.symm)) ?_
  intro g2 W0 h2
  have X0:=W0.a6 rfl
  refine GA (k:=0) (v:=.agg (xA EI (jB (64*(2*i+1)) 64)).toArray) (cs':=(xA EI (jB (64*(2*i+1)) 64)).toArray) X0 rfl rfl rfl vF (by exact IB (by rw [hi2]; rfl)) (by exact jC _) (by rw [List.size_toArray,qA]; show _≤_*1; first | omega | (simp only [List.length_set]; omega) | exact vB rfl | (simp<;>omega)) (by exact kD (by rw [List.length_replicate]; exact hi2.symm)) ?_
  intro q0 Y0 i2
  have r0:=Y0.a6 rfl
  refine go 5 ?_
  refine lA (((fm >>> (i:Nat))&&&(1#64))=(1#64)) rfl (fun e0=>?_) (fun e0=>?_)
  ·refine go 4 ?_
   have Z0:=((r0.pk 6 [2,3,0,1,4,5])).b2 rfl
   refine cl (OM b5 256 kz cz sz ((IA 256 fm i).1) hSz om om (jB (64*(2*i)) 64) (jB (64*(2*i+1)) 64) om om [(rX i0 EI (jB (64*(2*i+1)) 64) 336),(rX h0 EI (jB (64*(2*i)) 64) 336),(rX a0 EI (oC ((IA 256 fm i).2)) 337),(rC b1 x1 218)] w q0 Z0) ?_
   rintro _ j2 ⟨rfl,l0,u0,w0,c1,d1⟩
   have e1:=d1.a6 rfl
   have hnr:(eE 256 ((IA 256 fm i).1) (jB (64*(2*i)) 64) (jB (64*(2*i+1)) 64) 64).2.length=64:=(RG 256 ((IA 256 fm i).1) (jB (64*(2*i)) 64) (jB (64*(2*i+1)) 64) 64).2
   refine go 1 ?_
   refine GA (k:=4) (v:=.agg (xA EI ((eE 256 ((IA 256 fm i).1) (jB (64*(2*i)) 64) (jB (64*(2*i+1)) 64) 64).2)).toArray) (cs':=(xA EI (oC ((IA 256 fm i).2++(eE 256 ((IA 256 fm i).1) (jB (64*(2*i)) 64) (jB (64*(2*i+1)) 64) 64).2))).toArray) e1 rfl rfl rfl vF (by exact IB (by rw [hnr]; rfl)) (by exact jC _) (by rw [List.size_toArray,qA,AD (by rw [hol.2]; omega)]; show _≤_*1; omega) (by exact uF (by rw [hol.2]; omega) (by rw [hol.2]; omega) (by first | exact hnr)) ?_
   intro g1 h1 k2
   have i1:=h1.a6 rfl
   refine go 2 ?_
   have x0:(eE 256 ((IA 256 fm i).1) (jB (64*(2*i)) 64) (jB (64*(2*i+1)) 64) 64).1=(IA 256 fm (i+1)).1:=by rw [IA,RL e0]
   have y0:=c1
   rw [x0] at y0
   have z0:Hp No w g1 [(rC b5 #[iN 256,sO l0 (List.length ((IA 256 fm (i+1)).1)) u0,RA] 334),(l0,wA EG 345 ((IA 256 fm (i+1)).1) w0),(rX i0 EI (jB (64*(2*i+1)) 64) 336),(rX h0 EI (jB (64*(2*i)) 64) 336),(rX a0 EI (oC ((IA 256 fm i).2++(eE 256 ((IA 256 fm i).1) (jB (64*(2*i)) 64) (jB (64*(2*i+1)) 64) 64).2)) 337),(rC b1 x1 218)]:=by rw [← x0]; exact i1
   rw [show (IA 256 fm i).2++(eE 256 ((IA 256 fm i).1) (jB (64*(2*i)) 64) (jB (64*(2*i+1)) 64) 64).2=(IA 256 fm (i+1)).2 from by rw [IA,RL e0]] at z0
   exact ⟨(i+1,l0,u0,w0),_,rfl,kp,⟨⟨om,y0⟩,((z0.dropk 3).dropk 2)⟩,vd⟩
  ·refine go 4 ?_
   have j1:=((r0.pk 6 [2,3,0,1,4,5])).b2 rfl
   refine cl (PM b5 256 kz cz sz ((IA 256 fm i).1) hSz om om (jB (64*(2*i)) 64) (jB (64*(2*i+1)) 64) om om [(rX i0 EI (jB (64*(2*i+1)) 64) 336),(rX h0 EI (jB (64*(2*i)) 64) 336),(rX a0 EI (oC ((IA 256 fm i).2)) 337),(rC b1 x1 218)] w q0 j1) ?_
   rintro _ l2 ⟨rfl,m0,A0,B0,k1,l1⟩
   have m1:=l1.a6 rfl
   have hnr:(oB 256 ((IA 256 fm i).1) (jB (64*(2*i)) 64) (jB (64*(2*i+1)) 64) 63).2.1.length=64:=(bH 256 ((IA 256 fm i).1) (jB (64*(2*i)) 64) (jB (64*(2*i+1)) 64) 63).2
   refine go 1 ?_
   refine GA (k:=4) (v:=.agg (xA EI ((oB 256 ((IA 256 fm i).1) (jB (64*(2*i)) 64) (jB (64*(2*i+1)) 64) 63).2.1)).toArray) (cs':=(xA EI (oC ((IA 256 fm i).2++(oB 256 ((IA 256 fm i).1) (jB (64*(2*i)) 64) (jB (64*(2*i+1)) 64) 63).2.1))).toArray) m1 rfl rfl rfl vF (by exact IB (by rw [hnr]; rfl)) (by exact jC _) (by rw [List.size_toArray,qA,AD (by rw [hol.2]; omega)]; show _≤_*1; omega) (by exact uF (by rw [hol.2]; omega) (by rw [hol.2]; omega) (by first | exact hnr)) ?_
   intro n1 p1 m2
   have q1:=p1.a6 rfl
   refine go 2 ?_
   have C0:(oB 256 ((IA 256 fm i).1) (jB (64*(2*i)) 64) (jB (64*(2*i+1)) 64) 63).1=(IA 256 fm (i+1)).1:=by rw [IA,SL e0]
   have D0:=k1
   rw [C0] at D0
   have E0:Hp No w n1 [(rC b5 #[iN 256,sO m0 (List.length ((IA 256 fm (i+1)).1)) A0,RA] 334),(m0,wA EG 345 ((IA 256 fm (i+1)).1) B0),(rX i0 EI (jB (64*(2*i+1)) 64) 336),(rX h0 EI (jB (64*(2*i)) 64) 336),(rX a0 EI (oC ((IA 256 fm i).2++(oB 256 ((IA 256 fm i).1) (jB (64*(2*i)) 64) (jB (64*(2*i+1)) 64) 63).2.1)) 337),(rC b1 x1 218)]:=by rw [← C0]; exact q1
   rw [show (IA 256 fm i).2++(oB 256 ((IA 256 fm i).1) (jB (64*(2*i)) 64) (jB (64*(2*i+1)) 64) 63).2.1=(IA 256 fm (i+1)).2 from by rw [IA,SL e0]] at E0
   exact ⟨(i+1,m0,A0,B0),_,rfl,kp,⟨⟨om,D0⟩,((E0.dropk 3).dropk 2)⟩,vd⟩
 ·have hie:i=2:=by omega
  rw [hie,VN] at HL hSz hol
  obtain ⟨o1,ho1⟩:∃ q,q=cD 256 [] 0 64 (PC fm 0):=⟨_,rfl⟩
  rw [← ho1] at HL hSz hol
  have j0:=HD 256 [] 0 64 (PC fm 0)
  rw [← ho1] at j0
  obtain ⟨o2,ho2⟩:∃ q,q=cD 256 o1.1 128 192 (PC fm 1):=⟨_,rfl⟩
  rw [← ho2] at HL hSz hol
  have F0:=HD 256 o1.1 128 192 (PC fm 1)
  rw [← ho2] at F0
  rw [OL (by rw [List.length_append]; omega)] at HL
  simp only [List.length_nil] at j0
  dsimp only at HL hSz
  have n2:=HL.a4 rfl
  have hpx:(o1.2++o2.2).length=128:=by rw [List.length_append]; omega
  refine go 1 ?_
  intro b0 r1 p2 t1 q2
  let x2:Option Addr:=some ⟨b0,0,none⟩
  refine go 1 ?_
  have u1:=((t1.pk 5 [1,2,0,3,4])).as (L':=(_::_::[(rX b0 EI (List.replicate 64 0) 336),(rX a0 EI (o1.2++o2.2) 337),(rC b1 x1 218)])) rfl
  refine cl (VB b5 256 kz cz sz o2.1 hSz om om (1:Int) (0:Int) (0:Int) [(rX b0 EI (List.replicate 64 0) 336),(rX a0 EI (o1.2++o2.2) 337),(rC b1 x1 218)] w r1 u1) ?_
  rintro wv81 w1 ⟨hwv82,f0,n0,o0,y1,z1⟩
  obtain ⟨r2,G0⟩:∃ q,q=qB 256 o2.1:=⟨_,rfl⟩
  rw [← G0] at hwv82
  subst hwv82
  have A1:=z1.a5 rfl
  refine go 1 ?_
  subst G0
  have H0:o2.1++[(⟨(1:Int),(0:Int),(0:Int)⟩:Gt)]=ze o2.1:=by rfl
  have I0:=y1
  rw [H0] at I0
  have B1:Hp No w w1 [(rC b5 #[iN 256,sO f0 (List.length (ze o2.1)) n0,RA] 334),(f0,wA EG 345 (ze o2.1) o0),(rX b0 EI (List.replicate 64 0) 336),(rX a0 EI (o1.2++o2.2) 337),(rC b1 x1 218)]:=by rw [← H0]; exact A1
  have hzl:(ze o2.1).length=o2.1.length+1:=by simp [ze]
  refine go 1 ?_
  refine sq ((RB rfl rfl).as (v':=.bool false) (by rfl)) ?_
  refine go 1 ?_
  refine sq ((RB rfl rfl).as (v':=.bool true) (by rfl)) ?_
  refine go 2 ?_
  refine DA (σ:=Nat) (fun i=>[(4,pT b1),(7,pT b5),(8,pT a0),(12,pT b0),(13,i64 ((qB 256 o2.1))),(94,iN i)]) (fun i w'=>i≤64∧Hp No w w' [(rX b0 EI (vC (List.replicate i (qB 256 o2.1))) 336),(rC b5 #[iN 256,sO f0 (List.length (ze o2.1)) n0,RA] 334),(f0,wA EG 345 (ze o2.1) o0),(rX a0 EI (o1.2++o2.2) 337),(rC b1 x1 218)]) (fun i=>64-i) (0) ?_ ?_ ?_
  ·exact kp
  ·exact ⟨Nat.zero_le _,(B1.pk 5 [2,0,1,3,4])⟩
  rintro i ρ C1 ⟨hq2,k0⟩
  have hpl:(vC (List.replicate i (qB 256 o2.1))).length=64:=wF (by rw [List.length_replicate]; exact hq2)
  refine go 1 ?_
  refine lA (((i:Nat):Int)<(64:Int)) rfl (fun D1=>?_) (fun D1=>?_)
  ·refine go 6 ?_
   intro t2 J0 u2
   refine go 2 ?_
   rw [xV om] at J0
   exact ⟨i+1,_,rfl,kp,⟨om,J0⟩,vd⟩
  ·have hj:i=64:=by omega
   rw [hj,OE List.length_replicate] at k0
   refine go 2 ?_
   refine sq ((kB (cs':=(xA EI (((o1.2++o2.2).drop 0).take 64)).toArray) vF vF (k0.get (k:=3) rfl) (off:=0) rfl (by rw [List.size_toArray,qA]; show _≤_*1; omega) (by exact bG _ _ _ rfl)).as (v':=.agg (xA EI o1.2).toArray) (by exact congrArg (fun q=>Value.agg (xA EI q).toArray) (dL j0.2))) ?_
   refine go 1 ?_
   refine sq ((kB (cs':=(xA EI (((o1.2++o2.2).drop 64).take 64)).toArray) vF vF (k0.get (k:=3) rfl) (off:=64) rfl (by rw [List.size_toArray,qA]; show _≤_*1; omega) (by exact bG _ _ _ rfl)).as (v':=.agg (xA EI o2.2).toArray) (by exact congrArg (fun q=>Value.agg (xA EI q).toArray) (UI j0.2 F0.2))) ?_
   have E1:=((k0.pk 5 [1,2,0,3,4])).as (L':=(_::_::[(rX b0 EI (List.replicate 64 (qB 256 o2.1)) 336),(rX a0 EI (o1.2++o2.2) 337),(rC b1 x1 218)])) rfl
   refine cl (iO b5 256 f0 n0 o0 (ze o2.1) I0 om om o1.2 o2.2 om om [(rX b0 EI (List.replicate 64 (qB 256 o2.1)) 336),(rX a0 EI (o1.2++o2.2) 337),(rC b1 x1 218)] w C1 E1) ?_
   rintro wv101 y2 ⟨hwv102,c0,d0,F1,G1,H1⟩
   obtain ⟨K0,L0⟩:∃ q,q=(ID 256 (ze o2.1) o1.2 o2.2).2:=⟨_,rfl⟩
   rw [← L0] at hwv102
   subst hwv102
   have I1:=H1.a5 rfl
   refine sq (LA (off':=0) (j:=0) vF (b:=b0) (off:=0) rfl rfl vo om om) ?_
   refine GA (k:=2) (v:=i64 K0) (cs':=(xA EI ((List.replicate 64 (qB 256 o2.1)).set 0 K0)).toArray) I1 rfl rfl rfl vF (by rfl) (by exact EI.one _) (by rw [List.size_toArray,qA]; show _≤_*1; rw [List.length_replicate]; omega) (by exact eH (E:=EI) rfl _ _ _) ?_
   intro z2 J1 A2
   have M0:=J1.a5 rfl
   subst L0
   rw [WY] at M0
   have hrl:((ID 256 (ze o2.1) o1.2 o2.2).2::List.replicate 63 (qB 256 o2.1)).length=64:=by rw [List.length_cons,List.length_replicate]
   refine mH ?_
   refine oD ?_
   refine AB ?_
   refine sR ?_
   refine sMv ?_
   refine sq (YI vF (b:=b0) (off:=0) rfl (vB rfl)) ?_
   refine sq (MB rfl) ?_
   refine sq (vA (off':=0) vF (by decide) (b:=b5) (off:=0) rfl om) ?_
   refine sq (vA (off':=2) vF (by decide) (b:=b5) (off:=0) rfl om) ?_
   refine GA (k:=0) (v:=.slice x2 64 64) (cs':=#[iN 256,sO c0 (List.length ((ID 256 (ze o2.1) o1.2 o2.2).1)) d0,.slice x2 64 64]) M0 rfl rfl rfl vF (by rfl) (MK rfl) (by exact vB rfl) (by rfl) ?_
   intro C2 K1 D2
   have N0:=K1.a5 rfl
   refine wS ?_
   refine sMv ?_
   refine sq (MB rfl) ?_
   refine sq (vA (off':=0) vF (by decide) (b:=b5) (off:=0) rfl om) ?_
   refine sq (kB (cs':=#[iN 256,sO c0 (List.length ((ID 256 (ze o2.1) o1.2 o2.2).1)) d0,.slice x2 64 64]) vF vF (N0.get (k:=0) rfl) (off:=0) rfl (by exact vB rfl) (by rfl)) ?_
   refine GA (k:=4) (v:=.agg #[iN 256,sO c0 (List.length ((ID 256 (ze o2.1) o1.2 o2.2).1)) d0,.slice x2 64 64]) (cs':=#[iN 256,sO c0 (List.length ((ID 256 (ze o2.1) o1.2 o2.2).1)) d0,.slice x2 64 64]) N0 rfl rfl rfl vF (by rfl) (MK rfl) (by exact vB rfl) (by rfl) ?_
   intro E2 L1 F2
   have O0:=L1.a5 rfl
   refine sAv ?_
   refine NI ?_
   refine RE ?_
   refine zP (rs:=[.cell 4 218,.tmp 5]) (vs:=[.agg #[iN 256,sO c0 (List.length ((ID 256 (ze o2.1) o1.2 o2.2).1)) d0,.slice x2 64 64],.nilIface]) rfl ⟨kB (cs':=#[iN 256,sO c0 (List.length ((ID 256 (ze o2.1) o1.2 o2.2).1)) d0,.slice x2 64 64]) vF vF (O0.get (k:=4) rfl) (off:=0) rfl (by exact vB rfl) (by rfl),⟨rfl,rfl⟩,trivial⟩ ?_
   rw [mk2_eq ho1 ho2]
   exact ⟨_,rfl,c0,d0,F1,b0,rfl,G1,(((O0.dropk 4).dropk 3).dropk 0)⟩
theorem VZ (fm:BitVec 64) (hf:fm<4#64) (w:World):Ca 84 [i64 (3:Int),u64 fm] w fun v w'=>∃ (key:Option Nat) (c:Nat) (sp:LV) (b:Nat),v=.tuple #[.agg #[i64 ((256:Nat):Int),sO key (OT (PC fm 0) (PC fm 1)).1.length c,.slice (some ⟨b,0,none⟩) 64 64],.nilIface]∧Sl EG key (OT (PC fm 0) (PC fm 1)).1 c sp∧Hp No w w' [(key,wA EG 345 (OT (PC fm 0) (PC fm 1)).1 sp),(rX b EI (OT (PC fm 0) (PC fm 1)).2 336)]:=by
 let x1:Array Value:=#[i64 0,RA,RA]
 have H:=eA No w
 refine enter (n:=131) Tryz.func84 rfl rfl (vB rfl) ?_
 refine go 1 ?_
 intro b1 w2 n2 H3 p2
 refine go 3 ?_
 refine sq ((RB rfl rfl).as (v':=.bool false) (by rfl)) ?_
 refine go 1 ?_
 refine sq ((RB rfl rfl).as (v':=.bool false) (by rfl)) ?_
 refine go 1 ?_
 refine sq ((RB rfl rfl).as (v':=.bool true) (by rfl)) ?_
 refine go 4 ?_
 refine sq ((MJ (a:=fm) (b:=(1#64) <<< (2:Nat)) rfl rfl).as (v':=.bool true) (by exact bT (hf))) ?_
 refine go 1 ?_
 refine sq ((AC rfl rfl om).as (v':=iN 256) (by rfl)) ?_
 refine go 3 ?_
 intro b5 w6 q2 H7 r2
 refine go 1 ?_
 have H9:=H7.nil (wA EG 345 [] [])
 have t2:=H9.a3 rfl
 refine go 1 ?_
 intro d0 u2 y2 I0 z2
 rw [HK] at I0
 refine go 2 ?_
 refine DA (σ:=Nat × Option Nat × Nat × LV) (fun (i,kz,cz,sz)=>[(0,i64 3),(1,u64 fm),(4,pT b1),(7,pT b5),(8,pT d0),(36,i64 2),(37,iN i)]) (fun (i,kz,cz,sz) w'=>(i≤2∧Sl EG kz (IA 256 fm i).1 cz sz)∧Hp No w w' [(rC b5 #[iN 256,sO kz (List.length ((IA 256 fm i).1)) cz,RA] 334),(kz,wA EG 345 ((IA 256 fm i).1) sz),(rX d0 EI (oC ((IA 256 fm i).2)) 337),(rC b1 x1 218)]) (fun (i,kz,cz,sz)=>2-i) ((0,none,0,[])) ?_ ?_ ?_
 ·exact kp
 ·exact ⟨⟨om,Sl.none⟩,(I0.pk 4 [2,1,0,3])⟩
 rintro ⟨i,kz,cz,sz⟩ ρ d1 ⟨⟨hq,hSz⟩,HL⟩
 have hol:=JK 256 fm i
 have hi1:=aE (64*(2*i)) 64
 have hi2:=aE (64*(2*i+1)) 64
 have hpx:(oC (IA 256 fm i).2).length=128:=AD (by rw [hol.2]; omega)
 refine go 1 ?_
 refine lA (((i:Nat):Int)<(2:Int)) rfl (fun e1=>?_) (fun e1=>?_)
 ·refine go 4 ?_
  refine sq ((AC rfl rfl om).as (v':=iN (2*i)) (by exact congrArg i64 om)) ?_
  refine cl (AF b5 (2*i) om d1) ?_
  rintro _ g1 ⟨rfl,h1⟩
  have i1:=HL.ext h1
  refine go 2 ?_
  refine sq ((AC rfl rfl om).as (v':=iN (2*i)) (by exact congrArg i64 om)) ?_
  refine sq ((iC rfl rfl om).as (v':=iN (2*i+1)) (by exact congrArg i64 om)) ?_
  refine cl (AF b5 (2*i+1) om g1) ?_
  rintro _ A2 ⟨rfl,j1⟩
  have C2:=i1.ext j1
  refine go 1 ?_
  intro n0 D2 E2 F2 G2
  refine go 1 ?_
  intro o0 H2 I2 k1 J2
  refine GA (k:=1) (v:=.agg (xA EI (jB (64*(2*i)) 64)).toArray) (cs':=(xA EI (jB (64*(2*i)) 64)).toArray) k1 rfl rfl rfl vF (by exact IB (by rw [hi1]; rfl)) (by exact jC _) (by rw [List.size_toArray,qA]; show _≤_*1; first | omega | (simp only [List.length_set]; omega) | exact vB rfl | (simp<;>omega)) (by exact kD (by rw [List.length_replicate]; exact hi1.symm)) ?_
  intro K2 l1 L2
  have m1:=l1.a6 rfl
  refine GA (k:=0) (v:=.agg (xA EI (jB (64*(2*i+1)) 64)).toArray) (cs':=(xA EI (jB (64*(2*i+1)) 64)).toArray) m1 rfl rfl rfl vF (by exact IB (by rw [hi2]; rfl)) (by exact jC _) (by rw [List.size_toArray,qA]; show _≤_*1; first | omega | (simp only [List.length_set]; omega) | exact vB rfl | (simp<;>omega)) (by exact kD (by rw [List.length_replicate]; exact hi2.symm)) ?_
  intro J0 n1 M2
  have K0:=n1.a6 rfl
  refine go 5 ?_
  refine lA (((fm >>> (i:Nat))&&&(1#64))=(1#64)) rfl (fun j0=>?_) (fun j0=>?_)
  ·refine go 4 ?_
   have p1:=((K0.pk 6 [2,3,0,1,4,5])).b2 rfl
   refine cl (OM b5 256 kz cz sz ((IA 256 fm i).1) hSz om om (jB (64*(2*i)) 64) (jB (64*(2*i+1)) 64) om om [(rX o0 EI (jB (64*(2*i+1)) 64) 336),(rX n0 EI (jB (64*(2*i)) 64) 336),(rX d0 EI (oC ((IA 256 fm i).2)) 337),(rC b1 x1 218)] w J0 p1) ?_
   rintro _ N2 ⟨rfl,x0,L0,M0,q1,r1⟩
   have t1:=r1.a6 rfl
   have hnr:(eE 256 ((IA 256 fm i).1) (jB (64*(2*i)) 64) (jB (64*(2*i+1)) 64) 64).2.length=64:=(RG 256 ((IA 256 fm i).1) (jB (64*(2*i)) 64) (jB (64*(2*i+1)) 64) 64).2
   refine go 1 ?_
   refine GA (k:=4) (v:=.agg (xA EI ((eE 256 ((IA 256 fm i).1) (jB (64*(2*i)) 64) (jB (64*(2*i+1)) 64) 64).2)).toArray) (cs':=(xA EI (oC ((IA 256 fm i).2++(eE 256 ((IA 256 fm i).1) (jB (64*(2*i)) 64) (jB (64*(2*i+1)) 64) 64).2))).toArray) t1 rfl rfl rfl vF (by exact IB (by rw [hnr]; rfl)) (by exact jC _) (by rw [List.size_toArray,qA,AD (by rw [hol.2]; omega)]; show _≤_*1; omega) (by exact uF (by rw [hol.2]; omega) (by rw [hol.2]; omega) (by first | exact hnr)) ?_
   intro u1 w1 O2
   have y1:=w1.a6 rfl
   refine go 2 ?_
   have N0:(eE 256 ((IA 256 fm i).1) (jB (64*(2*i)) 64) (jB (64*(2*i+1)) 64) 64).1=(IA 256 fm (i+1)).1:=by rw [IA,RL j0]
   have O0:=q1
   rw [N0] at O0
   have P0:Hp No w u1 [(rC b5 #[iN 256,sO x0 (List.length ((IA 256 fm (i+1)).1)) L0,RA] 334),(x0,wA EG 345 ((IA 256 fm (i+1)).1) M0),(rX o0 EI (jB (64*(2*i+1)) 64) 336),(rX n0 EI (jB (64*(2*i)) 64) 336),(rX d0 EI (oC ((IA 256 fm i).2++(eE 256 ((IA 256 fm i).1) (jB (64*(2*i)) 64) (jB (64*(2*i+1)) 64) 64).2)) 337),(rC b1 x1 218)]:=by rw [← N0]; exact y1
   rw [show (IA 256 fm i).2++(eE 256 ((IA 256 fm i).1) (jB (64*(2*i)) 64) (jB (64*(2*i+1)) 64) 64).2=(IA 256 fm (i+1)).2 from by rw [IA,RL j0]] at P0
   exact ⟨(i+1,x0,L0,M0),_,rfl,kp,⟨⟨om,O0⟩,((P0.dropk 3).dropk 2)⟩,vd⟩
  ·refine go 4 ?_
   have z1:=((K0.pk 6 [2,3,0,1,4,5])).b2 rfl
   refine cl (PM b5 256 kz cz sz ((IA 256 fm i).1) hSz om om (jB (64*(2*i)) 64) (jB (64*(2*i+1)) 64) om om [(rX o0 EI (jB (64*(2*i+1)) 64) 336),(rX n0 EI (jB (64*(2*i)) 64) 336),(rX d0 EI (oC ((IA 256 fm i).2)) 337),(rC b1 x1 218)] w J0 z1) ?_
   rintro _ P2 ⟨rfl,y0,Q0,R0,A1,B1⟩
   have C1:=B1.a6 rfl
   have hnr:(oB 256 ((IA 256 fm i).1) (jB (64*(2*i)) 64) (jB (64*(2*i+1)) 64) 63).2.1.length=64:=(bH 256 ((IA 256 fm i).1) (jB (64*(2*i)) 64) (jB (64*(2*i+1)) 64) 63).2
   refine go 1 ?_
   refine GA (k:=4) (v:=.agg (xA EI ((oB 256 ((IA 256 fm i).1) (jB (64*(2*i)) 64) (jB (64*(2*i+1)) 64) 63).2.1)).toArray) (cs':=(xA EI (oC ((IA 256 fm i).2++(oB 256 ((IA 256 fm i).1) (jB (64*(2*i)) 64) (jB (64*(2*i+1)) 64) 63).2.1))).toArray) C1 rfl rfl rfl vF (by exact IB (by rw [hnr]; rfl)) (by exact jC _) (by rw [List.size_toArray,qA,AD (by rw [hol.2]; omega)]; show _≤_*1; omega) (by exact uF (by rw [hol.2]; omega) (by rw [hol.2]; omega) (by first | exact hnr)) ?_
   intro D1 E1 Q2
   have F1:=E1.a6 rfl
   refine go 2 ?_
   have S0:(oB 256 ((IA 256 fm i).1) (jB (64*(2*i)) 64) (jB (64*(2*i+1)) 64) 63).1=(IA 256 fm (i+1)).1:=by rw [IA,SL j0]
   have T0:=A1
   rw [S0] at T0
   have U0:Hp No w D1 [(rC b5 #[iN 256,sO y0 (List.length ((IA 256 fm (i+1)).1)) Q0,RA] 334),(y0,wA EG 345 ((IA 256 fm (i+1)).1) R0),(rX o0 EI (jB (64*(2*i+1)) 64) 336),(rX n0 EI (jB (64*(2*i)) 64) 336),(rX d0 EI (oC ((IA 256 fm i).2++(oB 256 ((IA 256 fm i).1) (jB (64*(2*i)) 64) (jB (64*(2*i+1)) 64) 63).2.1)) 337),(rC b1 x1 218)]:=by rw [← S0]; exact F1
   rw [show (IA 256 fm i).2++(oB 256 ((IA 256 fm i).1) (jB (64*(2*i)) 64) (jB (64*(2*i+1)) 64) 63).2.1=(IA 256 fm (i+1)).2 from by rw [IA,SL j0]] at U0
   exact ⟨(i+1,y0,Q0,R0),_,rfl,kp,⟨⟨om,T0⟩,((U0.dropk 3).dropk 2)⟩,vd⟩
 ·have hie:i=2:=by omega
  rw [hie,VN] at HL hSz hol
  obtain ⟨o1,ho1⟩:∃ q,q=cD 256 [] 0 64 (PC fm 0):=⟨_,rfl⟩
  rw [← ho1] at HL hSz hol
  have h0:=HD 256 [] 0 64 (PC fm 0)
  rw [← ho1] at h0
  obtain ⟨o2,ho2⟩:∃ q,q=cD 256 o1.1 128 192 (PC fm 1):=⟨_,rfl⟩
  rw [← ho2] at HL hSz hol
  have z0:=HD 256 o1.1 128 192 (PC fm 1)
  rw [← ho2] at z0
  rw [OL (by rw [List.length_append]; omega)] at HL
  simp only [List.length_nil] at h0
  dsimp only at HL hSz
  have R2:=HL.a4 rfl
  have hpx:(o1.2++o2.2).length=128:=by rw [List.length_append]; omega
  refine go 1 ?_
  intro e0 G1 S2 H1 T2
  let x2:Option Addr:=some ⟨e0,0,none⟩
  refine go 1 ?_
  have I1:=((H1.pk 5 [1,2,0,3,4])).as (L':=(_::_::[(rX e0 EI (List.replicate 64 0) 336),(rX d0 EI (o1.2++o2.2) 337),(rC b1 x1 218)])) rfl
  refine cl (VB b5 256 kz cz sz o2.1 hSz om om (1:Int) (0:Int) (0:Int) [(rX e0 EI (List.replicate 64 0) 336),(rX d0 EI (o1.2++o2.2) 337),(rC b1 x1 218)] w G1 I1) ?_
  rintro wv81 J1 ⟨hwv82,k0,A0,B0,K1,L1⟩
  obtain ⟨U2,V0⟩:∃ q,q=qB 256 o2.1:=⟨_,rfl⟩
  rw [← V0] at hwv82
  subst hwv82
  have M1:=L1.a5 rfl
  refine go 1 ?_
  subst V0
  have W0:o2.1++[(⟨(1:Int),(0:Int),(0:Int)⟩:Gt)]=ze o2.1:=by rfl
  have X0:=K1
  rw [W0] at X0
  have N1:Hp No w J1 [(rC b5 #[iN 256,sO k0 (List.length (ze o2.1)) A0,RA] 334),(k0,wA EG 345 (ze o2.1) B0),(rX e0 EI (List.replicate 64 0) 336),(rX d0 EI (o1.2++o2.2) 337),(rC b1 x1 218)]:=by rw [← W0]; exact M1
  have hzl:(ze o2.1).length=o2.1.length+1:=by simp [ze]
  refine go 1 ?_
  refine sq ((RB rfl rfl).as (v':=.bool false) (by rfl)) ?_
  refine go 1 ?_
  refine sq ((RB rfl rfl).as (v':=.bool false) (by rfl)) ?_
  refine go 1 ?_
  refine sq ((RB rfl rfl).as (v':=.bool true) (by rfl)) ?_
  refine go 1 ?_
  let i0:List RW:=[(rX d0 EI (o1.2++o2.2) 337),(rC b1 x1 218)]
  let C0:=fun (b0:Option Nat) (a0:Int) (c0:Nat)=>((rC b5 #[iN 256,sO b0 (List.length ((BC 256 ((ID 256 (ze o2.1) o1.2 o2.2).1) a0 o2.2 o1.2 64).1)) c0,RA] 334):RW)
  let D0:=((rX e0 EI (List.replicate 64 0) 336):RW)
  let O1:PD:=[IC false false false fun _ _ _ w'=>Hp No w w' ((rC b5 #[iN 256,sO k0 (List.length (ze o2.1)) A0,RA] 334)::(k0,wA EG 345 (ze o2.1) B0)::D0::i0),IC true false false fun v6 _ _ w'=>∃ l0 p0 q0 a0,v6=i64 a0∧Sl EG l0 ((ID 256 (ze o2.1) o1.2 o2.2).1) p0 q0∧a0=(ID 256 (ze o2.1) o1.2 o2.2).2∧Hp No w w' ((rC b5 #[iN 256,sO l0 (List.length ((ID 256 (ze o2.1) o1.2 o2.2).1)) p0,RA] 334)::(l0,wA EG 345 ((ID 256 (ze o2.1) o1.2 o2.2).1) q0)::D0::i0),IC true true false fun v6 v11 _ w'=>∃ a0 b0 c0 f0,v6=i64 a0∧v11=.agg (xA EI ((BC 256 ((ID 256 (ze o2.1) o1.2 o2.2).1) a0 o2.2 o1.2 64).2)).toArray∧Sl EG b0 ((BC 256 ((ID 256 (ze o2.1) o1.2 o2.2).1) a0 o2.2 o1.2 64).1) c0 f0∧a0=(ID 256 (ze o2.1) o1.2 o2.2).2∧Hp No w w' ((C0 b0 a0 c0)::(b0,wA EG 345 ((BC 256 ((ID 256 (ze o2.1) o1.2 o2.2).1) a0 o2.2 o1.2 64).1) f0)::D0::i0),IC true true true fun v6 v11 _ w'=>∃ a0 b0 c0 f0,v6=i64 a0∧v11=.agg (xA EI ((BC 256 ((ID 256 (ze o2.1) o1.2 o2.2).1) a0 o2.2 o1.2 64).2)).toArray∧Sl EG b0 ((BC 256 ((ID 256 (ze o2.1) o1.2 o2.2).1) a0 o2.2 o1.2 64).1) c0 f0∧a0=(ID 256 (ze o2.1) o1.2 o2.2).2∧Hp No w w' ((C0 b0 a0 c0)::(b0,wA EG 345 ((BC 256 ((ID 256 (ze o2.1) o1.2 o2.2).1) a0 o2.2 o1.2 64).1) f0)::(rX e0 EI ((BC 256 ((ID 256 (ze o2.1) o1.2 o2.2).1) a0 o2.2 o1.2 64).2) 336)::i0)]
  refine mB (m:=13) [0,0,0,4,0,16,62,0,128,0,512,2047,4095] [6,11,12] i0 O1 JA (fun _ e=>N1.ext e) zE (fun E0=>?_)
  refine gk 3 ?_
  refine JC (.agg (xA EI o1.2).toArray) (fun _ uw hcx=>(kB (cs':=(xA EI (((o1.2++o2.2).drop 0).take 64)).toArray) vF vF (hcx.get (k:=0) rfl) (off:=0) rfl (by rw [List.size_toArray,qA]; show _≤_*1; omega) (by exact bG _ _ _ rfl)).as (v':=.agg (xA EI o1.2).toArray) (by exact congrArg (fun q=>Value.agg (xA EI q).toArray) (dL h0.2))) ?_
  refine gk 1 ?_
  refine JC (.agg (xA EI o2.2).toArray) (fun _ uw hcx=>(kB (cs':=(xA EI (((o1.2++o2.2).drop 64).take 64)).toArray) vF vF (hcx.get (k:=0) rfl) (off:=64) rfl (by rw [List.size_toArray,qA]; show _≤_*1; omega) (by exact bG _ _ _ rfl)).as (v':=.agg (xA EI o2.2).toArray) (by exact congrArg (fun q=>Value.agg (xA EI q).toArray) (UI h0.2 z0.2))) ?_
  refine WalkT.eff E0 0 ?_ ?_
  ·refine tA fun r w0 uw hF hE=>?_
   have P1:=hF.ext hE
   refine gW fun Q' hK=>?_
   have Q1:=P1.as (L':=(_::_::[(rX e0 EI (List.replicate 64 0) 336),(rX d0 EI (o1.2++o2.2) 337),(rC b1 x1 218)])) rfl
   refine cl (iO b5 256 k0 A0 B0 (ze o2.1) X0 om om o1.2 o2.2 om om [(rX e0 EI (List.replicate 64 0) 336),(rX d0 EI (o1.2++o2.2) 337),(rC b1 x1 218)] w uw Q1) ?_
   rintro wv156 V2 ⟨hwv157,R1,S1,T1,U1,V1⟩
   obtain ⟨W1,Y0⟩:∃ q,q=(ID 256 (ze o2.1) o1.2 o2.2).2:=⟨_,rfl⟩
   rw [← Y0] at hwv157
   subst hwv157
   have Y1:=V1.a5 rfl
   exact hK _ _ (E_ R1 (E_ S1 (E_ T1 (E_ W1 (A_ rfl (A_ U1 (A_ Y0 Y1)))))))
  refine gk 1 ?_
  refine JC (.agg (xA EI o2.2).toArray) (fun _ uw hcx=>(kB (cs':=(xA EI (((o1.2++o2.2).drop 64).take 64)).toArray) vF vF (hcx.get (k:=0) rfl) (off:=64) rfl (by rw [List.size_toArray,qA]; show _≤_*1; omega) (by exact bG _ _ _ rfl)).as (v':=.agg (xA EI o2.2).toArray) (by exact congrArg (fun q=>Value.agg (xA EI q).toArray) (UI h0.2 z0.2))) ?_
  refine gk 1 ?_
  refine JC (.agg (xA EI o1.2).toArray) (fun _ uw hcx=>(kB (cs':=(xA EI (((o1.2++o2.2).drop 0).take 64)).toArray) vF vF (hcx.get (k:=0) rfl) (off:=0) rfl (by rw [List.size_toArray,qA]; show _≤_*1; omega) (by exact bG _ _ _ rfl)).as (v':=.agg (xA EI o1.2).toArray) (by exact congrArg (fun q=>Value.agg (xA EI q).toArray) (dL h0.2))) ?_
  refine WalkT.eff E0 1 ?_ ?_
  ·refine tA fun r w0 uw hF hE=>?_
   obtain ⟨l0,p0,q0,a0,e6,Z1,m0,F0⟩:=hF
   replace F0:=F0.ext hE
   dsimp only
   rw [e6]
   refine gW fun Q' hK=>?_
   have hlg:=YJ 256 (ze o2.1) o1.2 o2.2
   have c2:=F0.as (L':=(_::_::[(rX e0 EI (List.replicate 64 0) 336),(rX d0 EI (o1.2++o2.2) 337),(rC b1 x1 218)])) rfl
   refine cl (eW b5 256 l0 p0 q0 ((ID 256 (ze o2.1) o1.2 o2.2).1) Z1 om om a0 o2.2 o1.2 om om [(rX e0 EI (List.replicate 64 0) 336),(rX d0 EI (o1.2++o2.2) 337),(rC b1 x1 218)] w uw c2) ?_
   rintro _ Y2 ⟨rfl,d2,e2,f2,g2,h2⟩
   have i2:=h2.a5 rfl
   exact hK _ _ (E_ a0 (E_ d2 (E_ e2 (E_ f2 (A_ e6 (A_ rfl (A_ g2 (A_ m0 i2))))))))
  refine WalkT.eff E0 2 ?_ ?_
  ·refine tA fun r w0 uw hF hE=>?_
   obtain ⟨a0,b0,c0,f0,e6,r0,G0,m0,H0⟩:=hF
   replace H0:=H0.ext hE
   dsimp only
   rw [r0]
   refine PE fun Q' hK=>?_
   have hnr:((BC 256 ((ID 256 (ze o2.1) o1.2 o2.2).1) a0 o2.2 o1.2 64).2).length=64:=(RF _ _ _ _ _ _).2
   refine GA (k:=2) (v:=.agg (xA EI ((BC 256 ((ID 256 (ze o2.1) o1.2 o2.2).1) a0 o2.2 o1.2 64).2)).toArray) (cs':=(xA EI ((BC 256 ((ID 256 (ze o2.1) o1.2 o2.2).1) a0 o2.2 o1.2 64).2)).toArray) H0 rfl rfl rfl vF (by exact IB (by rw [hnr]; rfl)) (by exact jC _) (by rw [List.size_toArray,qA]; show _≤_*1; first | omega | (simp only [List.length_set]; omega) | exact vB rfl | (simp<;>omega)) (by exact kD (by rw [List.length_replicate]; exact hnr.symm)) ?_
   intro Z2 j2 c3
   have k2:=j2.a5 rfl
   exact hK _ (fun _=>(E_ a0 (E_ b0 (E_ c0 (E_ f0 (A_ e6 (A_ r0 (A_ G0 (A_ m0 k2)))))))))
  refine WalkT.nil ?_
  intro r w0 d3 hF hE
  obtain ⟨a0,b0,c0,f0,e6,r0,G0,m0,u0⟩:=hF
  replace u0:=u0.ext hE
  dsimp only
  rw [e6,r0]
  dsimp only [i0,C0] at u0
  subst m0
  have hrl:(BC 256 (ID 256 (ze o2.1) o1.2 o2.2).1 (ID 256 (ze o2.1) o1.2 o2.2).2 o2.2 o1.2 64).2.length=64:=(RF _ _ _ _ _ _).2
  refine mH ?_
  refine oD ?_
  refine AB ?_
  refine sR ?_
  refine sMv ?_
  refine sq (YI vF (b:=e0) (off:=0) rfl (vB rfl)) ?_
  refine sq (MB rfl) ?_
  refine sq (vA (off':=0) vF (by decide) (b:=b5) (off:=0) rfl om) ?_
  refine sq (vA (off':=2) vF (by decide) (b:=b5) (off:=0) rfl om) ?_
  refine GA (k:=0) (v:=.slice x2 64 64) (cs':=#[iN 256,sO b0 (List.length ((BC 256 ((ID 256 (ze o2.1) o1.2 o2.2).1) ((ID 256 (ze o2.1) o1.2 o2.2).2) o2.2 o1.2 64).1)) c0,.slice x2 64 64]) u0 rfl rfl rfl vF (by rfl) (MK rfl) (by exact vB rfl) (by rfl) ?_
  intro e3 l2 f3
  have Z0:=l2.a5 rfl
  refine wS ?_
  refine sMv ?_
  refine sq (MB rfl) ?_
  refine sq (vA (off':=0) vF (by decide) (b:=b5) (off:=0) rfl om) ?_
  refine sq (kB (cs':=#[iN 256,sO b0 (List.length ((BC 256 ((ID 256 (ze o2.1) o1.2 o2.2).1) ((ID 256 (ze o2.1) o1.2 o2.2).2) o2.2 o1.2 64).1)) c0,.slice x2 64 64]) vF vF (Z0.get (k:=0) rfl) (off:=0) rfl (by exact vB rfl) (by rfl)) ?_
  refine GA (k:=4) (v:=.agg #[iN 256,sO b0 (List.length ((BC 256 ((ID 256 (ze o2.1) o1.2 o2.2).1) ((ID 256 (ze o2.1) o1.2 o2.2).2) o2.2 o1.2 64).1)) c0,.slice x2 64 64]) (cs':=#[iN 256,sO b0 (List.length ((BC 256 ((ID 256 (ze o2.1) o1.2 o2.2).1) ((ID 256 (ze o2.1) o1.2 o2.2).2) o2.2 o1.2 64).1)) c0,.slice x2 64 64]) Z0 rfl rfl rfl vF (by rfl) (MK rfl) (by exact vB rfl) (by rfl) ?_
  intro g3 m2 h3
  have c1:=m2.a5 rfl
  refine sAv ?_
  refine NI ?_
  refine RE ?_
  refine zP (rs:=[.cell 4 218,.tmp 5]) (vs:=[.agg #[iN 256,sO b0 (List.length ((BC 256 ((ID 256 (ze o2.1) o1.2 o2.2).1) ((ID 256 (ze o2.1) o1.2 o2.2).2) o2.2 o1.2 64).1)) c0,.slice x2 64 64],.nilIface]) rfl ⟨kB (cs':=#[iN 256,sO b0 (List.length ((BC 256 ((ID 256 (ze o2.1) o1.2 o2.2).1) ((ID 256 (ze o2.1) o1.2 o2.2).2) o2.2 o1.2 64).1)) c0,.slice x2 64 64]) vF vF (c1.get (k:=4) rfl) (off:=0) rfl (by exact vB rfl) (by rfl),⟨rfl,rfl⟩,trivial⟩ ?_
  rw [mk3_eq ho1 ho2]
  exact ⟨_,rfl,b0,c0,f0,e0,rfl,G0,(((c1.dropk 4).dropk 3).dropk 0)⟩
end Go.Proofs.YtljlkhobfdofhaaGreatDoor.Cm
namespace Go.Proofs.YtljlkhobfdofhaaGreatDoor.Mi
open Go Vc Er Ek Circ
theorem arr32:UD Tryz.prog 32=some (2,1):=by kernel_rfl
theorem call231:rA Tryz.prog 231=true:=by kernel_rfl
theorem xE:pD Tryz.prog 3 EI:=jH (by kernel_rfl) (by kernel_rfl)
theorem fits327:pD Tryz.prog 327 EI:=jH (by kernel_rfl) (by kernel_rfl)
theorem MO:mC Tryz.prog 105 0=some (0,1,103):=by kernel_rfl
theorem cX:mC Tryz.prog 105 3=some (3,1,3):=by kernel_rfl
theorem bX:mC Tryz.prog 105 4=some (4,1,57):=by kernel_rfl
theorem aX:mC Tryz.prog 105 5=some (5,1,3):=by kernel_rfl
theorem fld329_1:mC Tryz.prog 329 1=some (1,1,327):=by kernel_rfl
theorem BO:xL Tryz.prog 41=true:=by kernel_rfl
theorem JA:Tryz.prog.follows .mixedOrders=true:=by kernel_rfl
theorem KV:QA Tryz.prog 103=true:=by kernel_rfl
theorem PS:QA Tryz.prog 3=true:=by kernel_rfl
theorem HV:QA Tryz.prog 57=true:=by kernel_rfl
theorem pls329:TN Tryz.prog 329=some #[(0,1),(1,1),(2,1),(3,1),(4,1),(5,1),(6,1)]:=by kernel_rfl
theorem nP:ZB Tryz.prog 218=some 3:=by kernel_rfl
theorem siz329:ZB Tryz.prog 329=some 7:=by kernel_rfl
theorem sli239:qD Tryz.prog 239=some (327,1):=by kernel_rfl
theorem zer329:YB Tryz.prog 329=some (.agg #[.int .i64 0,.int .i64 0,.int .i64 0,.int .i64 0,.bool false,.bool false,.int .i64 0]):=by kernel_rfl
theorem eM (x:BitVec 64) (w:World):Ca 288 [u64 x] w fun v w'=>v=i64 (foS x)∧Ext w w':=by
 have H:=eA No w
 refine enter (n:=6) Tryz.func288 rfl rfl (vB rfl) ?_
 refine go 4 ?_
 refine lA ((x&&&(1#64))=(1#64)) rfl (fun c5=>?_) (fun c5=>?_)
 ·refine go 1 ?_
  exact ⟨_,rfl,congrArg i64 (by rw [foS,if_pos c5]),H.chg⟩
 ·refine go 1 ?_
  exact ⟨_,rfl,congrArg i64 (by rw [foS,if_neg c5]),H.chg⟩
theorem fits_ok (m q:Int) (w:World):Ca 231 [i64 m,i64 q] w fun v w'=>v=.bool (vT m q)∧Ext w w':=by
 have H:=eA No w
 refine enter (n:=16) Tryz.func231 rfl rfl (vB rfl) ?_
 refine go 5 ?_
 refine VA (B:=(!(decide ((m:Int)=q)))) (v:=i64 m) (gC (d':=8) (B:=true) rfl rfl rfl) (fun hB=>NA (v:=i64 m) rfl) (VA (B:=(!(decide ((m:Int)=q)))) (v:=.bool (decide ((m:Int)=(3:Int)))) (gC (d':=8) (B:=true) rfl rfl rfl) (fun hB=>by simp only [uE (v:=_) (h:=hB)]; exact RB rfl rfl) (VA (B:=(!(decide ((m:Int)=q)))) (v:=.bool (decide ((m:Int)=(3:Int)))) (gC (d':=8) (B:=true) rfl rfl rfl) (fun hB=>by simp only [uE (v:=_) (h:=hB)]; exact NA (v:=.bool (decide ((m:Int)=(3:Int)))) rfl) (VA (B:=((!(decide ((m:Int)=q))) && (decide ((m:Int)=(3:Int))))) (v:=i64 q) (BA (d':=11) (B:=(!(decide ((m:Int)=q)))) rfl rfl rfl) (fun hB=>NA (v:=i64 q) rfl) (VA (B:=((!(decide ((m:Int)=q))) && (decide ((m:Int)=(3:Int))))) (v:=.bool (decide ((q:Int)≠(0:Int)))) (BA (d':=11) (B:=(!(decide ((m:Int)=q)))) rfl rfl rfl) (fun hB=>by simp only [uE (v:=_) (h:=hB)]; exact TE rfl rfl) (VA (B:=(!(decide ((m:Int)=q)))) (v:=.bool ((decide ((m:Int)=(3:Int)) && decide ((q:Int)≠(0:Int))))) (gC (d':=8) (B:=true) rfl rfl rfl) (fun hB=>OB (B:=(!(decide ((m:Int)=q)))) hB rfl rfl rfl) (sq (sF (B:=true) rfl rfl rfl rfl) ?_))))))
 refine go 1 ?_
 exact ⟨_,rfl,rfl,H.chg⟩
theorem qM (o:Mo) (w:World):Ca 52 [.agg #[i64 (o.kd),i64 (o.a),i64 (o.b),i64 (o.k),u64 (o.c),i64 (o.pt)]] w fun v w'=>v=.bool (decide (iG o))∧Ext w w':=by
 have H:=eA No w
 refine enter (n:=11) Tryz.func52 rfl rfl (vB rfl) ?_
 refine go 1 ?_
 intro b1 w2 a0 H3 b0
 refine go 5 ?_
 refine VA (B:=(!(decide ((o.kd:Int)=(18:Int))))) (v:=pT b1) (gC (d':=6) (B:=true) rfl rfl rfl) (fun hB=>vA (off':=0) vF (by decide) (b:=b1) (off:=0) rfl om) (VA (B:=(!(decide ((o.kd:Int)=(18:Int))))) (v:=i64 (o.kd)) (gC (d':=6) (B:=true) rfl rfl rfl) (fun hB=>by simp only [uE (v:=_) (h:=hB)]; exact FA (v:=i64 (o.kd)) vF (H3.get (k:=0) rfl) (off:=0) rfl (by rfl)) (VA (B:=(!(decide ((o.kd:Int)=(18:Int))))) (v:=.bool (decide ((o.kd:Int)=(19:Int)))) (gC (d':=6) (B:=true) rfl rfl rfl) (fun hB=>by simp only [uE (v:=_) (h:=hB)]; exact RB rfl rfl) (sq ((sF (B:=true) rfl rfl rfl rfl).as (v':=.bool (decide (iG o))) (by exact congrArg Value.bool (told_b o))) ?_)))
 refine go 1 ?_
 exact ⟨_,rfl,rfl,H3.chg⟩
theorem jI (o:Mo) (w:World):Ca 85 [.agg #[i64 (o.kd),i64 (o.a),i64 (o.b),i64 (o.k),u64 (o.c),i64 (o.pt)]] w fun v w'=>v=i64 ((wB o:Nat):Int)∧Ext w w':=by
 have H:=eA No w
 refine enter (n:=6) Tryz.func85 rfl rfl (vB rfl) ?_
 refine go 1 ?_
 intro b1 w2 a0 H3 b0
 refine go 4 ?_
 refine lA ((o.k:Int)=(1:Int)) rfl (fun c5=>?_) (fun c5=>?_)
 ·refine go 1 ?_
  exact ⟨_,rfl,by rw [wB,if_pos c5]; rfl,H3.chg⟩
 ·refine go 1 ?_
  exact ⟨_,rfl,by rw [wB,if_neg c5]; rfl,H3.chg⟩
theorem DH (w:World):Ca 51 [] w fun v w'=>v=.agg (xA EI [65536,65536]).toArray∧Ext w w':=by
 have H:=eA No w
 refine enter (n:=2) Tryz.func51 rfl rfl (vB rfl) ?_
 refine go 1 ?_
 intro b1 w2 b0 H3 c0
 refine go 2 ?_
 intro w5 a0 d0
 refine go 0 ?_
 exact ⟨_,rfl,rfl,a0.chg⟩
theorem QK (o:Mo) (h:nF o.k o.c≠0) (w:World):Ca 84 [i64 o.k,u64 o.c] w fun v w'=>∃ (key:Option Nat) (c:Nat) (sp:LV) (b:Nat),v=.tuple #[.agg #[i64 (((128*wB o):Nat):Int),sO key (TA o).1.length c,.slice (some ⟨b,0,none⟩) 64 64],.nilIface]∧Sl EG key (TA o).1 c sp∧Hp No w w' [(key,wA EG 345 (TA o).1 sp),(rX b EI (TA o).2 336)]:=by
 unfold nF at h
 by_cases h1:o.k=1∧o.c.toNat<2
 ·have e1:wB o=1:=if_pos h1.1
  have e2:TA o=dT (PC o.c 0):=if_pos h1.1
  rw [e1,e2,h1.1]; exact Cm.XZ o.c h1.2 w
 ·rw [if_neg h1] at h
  by_cases h2:(o.k=2∨o.k=3)∧o.c.toNat<4
  ·have e1:wB o=2:=if_neg om
   rcases h2 with ⟨h3 | h3,h4⟩
   ·have e2:TA o=dR (PC o.c 0) (PC o.c 1):=(if_neg om).trans (if_pos h3)
    rw [e1,e2,h3]; exact Cm.WZ o.c h4 w
   ·have e2:TA o=OT (PC o.c 0) (PC o.c 1):=(if_neg om).trans (if_neg om)
    rw [e1,e2,h3]; exact Cm.VZ o.c h4 w
  ·rw [if_neg h2] at h; exact absurd rfl h
theorem iT (o:Mo) (h:nF o.k o.c=0) (w:World) (hG:Gl w):Ca 84 [i64 o.k,u64 o.c] w fun v w'=>(∃ ev,v=.tuple #[.agg #[i64 (0:Int),RA,RA],ev]∧Er w.heap.size w' 1 1 ev)∧Ext w w':=by
 refine Cm.oW o.k o.c w hG ⟨fun h1=>?_,fun h1=>?_⟩<;>unfold nF at h
 ·rw [if_pos ⟨h1.1,h1.2⟩] at h; exact absurd h (by decide)
 ·rw [if_neg om,if_pos ⟨h1.1,h1.2⟩] at h; exact absurd h (by decide)
theorem KW (o:Mo) (h:nF o.k o.c=0) (w:World) (hG:Gl w):Ca 229 [.agg #[i64 (o.kd),i64 (o.a),i64 (o.b),i64 (o.k),u64 (o.c),i64 (o.pt)]] w fun v w'=>v=.tuple #[.agg #[i64 ((CD o).1.a),i64 ((CD o).1.b),i64 ((CD o).1.m),i64 ((CD o).1.k),.bool ((CD o).1.c),.bool ((CD o).1.p),i64 ((CD o).1.r)],.bool (CD o).2]∧Ext w w':=by
 have H:=eA No w
 refine enter (n:=31) Tryz.func229 rfl rfl (vB rfl) ?_
 refine go 1 ?_
 intro b1 w2 d0 H3 e0
 refine go 1 ?_
 intro b5 w6 f0 H7 h0
 refine go 5 ?_
 refine cl (iT o h w6 gE) ?_
 rintro _ w9 ⟨⟨i0,rfl,a0⟩,b0⟩
 have j0:=H7.ext b0
 obtain ⟨k0,l0,rfl⟩:=a0.iface
 refine go 4 ?_
 intro m0 n0 o0 p0 q0
 refine go 1 ?_
 intro r0 u0 w0
 refine go 2 ?_
 refine sq ((OQ vF rfl rfl).as (v':=.bool true) (by rfl)) ?_
 refine go 2 ?_
 intro x0 c0 y0
 refine go 1 ?_
 exact ⟨_,rfl,by unfold CD; rw [if_pos h]<;>rfl,c0.chg⟩
theorem oT (o:Mo) (h:nF o.k o.c≠0) (w:World):Ca 229 [.agg #[i64 (o.kd),i64 (o.a),i64 (o.b),i64 (o.k),u64 (o.c),i64 (o.pt)]] w fun v w'=>v=.tuple #[.agg #[i64 ((CD o).1.a),i64 ((CD o).1.b),i64 ((CD o).1.m),i64 ((CD o).1.k),.bool ((CD o).1.c),.bool ((CD o).1.p),i64 ((CD o).1.r)],.bool (CD o).2]∧Ext w w':=by
 have H:=eA No w
 refine enter (n:=31) Tryz.func229 rfl rfl (vB rfl) ?_
 refine go 1 ?_
 intro b1 w2 l0 H3 m0
 refine go 1 ?_
 intro b5 w6 n0 H7 o0
 refine go 5 ?_
 refine cl (QK o h w6) ?_
 rintro _ w9 ⟨p0,q0,r0,u0,rfl,w0,b0⟩
 have x0:=(H7.join b0).a4 rfl
 refine go 4 ?_
 intro y0 z0 A0 B0 C0
 refine go 1 ?_
 intro c0 d0 D0
 refine go 2 ?_
 refine sq ((iF vF rfl rfl).as (v':=.bool false) (by rfl)) ?_
 refine go 2 ?_
 refine cl (eM o.c c0) ?_
 rintro _ E0 ⟨rfl,e0⟩
 have F0:=d0.ext e0
 refine go 2 ?_
 intro G0 H0 I0 J0 K0
 refine go 1 ?_
 intro f0 h0 L0
 refine go 3 ?_
 refine lA ((o.k:Int)≠(1:Int)) rfl (fun a0=>?_) (fun a0=>?_)
 ·refine go 3 ?_
  refine cl (eM (o.c >>> (1:Nat)) f0) ?_
  rintro _ M0 ⟨rfl,i0⟩
  have N0:=h0.ext i0
  refine go 2 ?_
  intro O0 P0 Q0
  refine go 2 ?_
  intro R0 j0 S0
  refine go 1 ?_
  exact ⟨_,rfl,by unfold CD; rw [if_neg h,if_neg (by simpa using a0)]<;>rfl,j0.chg⟩
 ·refine go 2 ?_
  intro T0 k0 U0
  refine go 1 ?_
  exact ⟨_,rfl,by unfold CD; rw [if_neg h,if_pos (by simpa using a0)]<;>rfl,k0.chg⟩
theorem JW (o:Mo) (w:World) (hG:Gl w):Ca 229 [.agg #[i64 (o.kd),i64 (o.a),i64 (o.b),i64 (o.k),u64 (o.c),i64 (o.pt)]] w fun v w'=>v=.tuple #[.agg #[i64 ((CD o).1.a),i64 ((CD o).1.b),i64 ((CD o).1.m),i64 ((CD o).1.k),.bool ((CD o).1.c),.bool ((CD o).1.p),i64 ((CD o).1.r)],.bool (CD o).2]∧Ext w w':=by
 by_cases h:nF o.k o.c=0
 ·exact KW o h w hG
 ·exact oT o h w
theorem yM (o:Mo) (e0 e1:Int) (w:World) (hG:Gl w):Ca 151 [.agg #[i64 (o.kd),i64 (o.a),i64 (o.b),i64 (o.k),u64 (o.c),i64 (o.pt)],.agg (xA EI [e0,e1]).toArray] w fun v w'=>v=.tuple #[.agg #[i64 ((zA o e0 e1).1.a),i64 ((zA o e0 e1).1.b),i64 ((zA o e0 e1).1.m),i64 ((zA o e0 e1).1.k),.bool ((zA o e0 e1).1.c),.bool ((zA o e0 e1).1.p),i64 ((zA o e0 e1).1.r)],.bool (zA o e0 e1).2]∧Ext w w':=by
 let x6:Array Value:=#[i64 0,i64 0,i64 0,i64 0,.bool false,.bool false,i64 0]
 let x5:Array Value:=#[i64 (o.kd),i64 (o.a),i64 (o.b),i64 (o.k),u64 (o.c),i64 (o.pt)]
 let x4:Array Value:=#[i64 0,i64 0,i64 1,i64 e1,.bool false,.bool true,i64 1]
 let x1:Array Value:=#[i64 0,i64 0,i64 1,i64 e0,.bool false,.bool true,i64 1]
 have H:=eA No w
 refine enter (n:=79) Tryz.func151 rfl rfl (vB rfl) ?_
 refine go 1 ?_
 intro b1 w2 y1 H3 z1
 let x2:Value:=.pointer (some ⟨b1,5,none⟩)
 refine go 1 ?_
 intro b5 w6 A1 H7 B1
 let x3:Value:=.pointer (some ⟨b5,1,none⟩)
 refine go 1 ?_
 intro b9 A0 C1 a0 D1
 refine go 5 ?_
 refine lA ((o.kd:Int)=(1:Int)) rfl (fun k1=>?_) (fun k1=>?_)
 ·refine go 4 ?_
  refine VA (B:=(decide ((o.pt:Int)≠(0:Int)))) (v:=.pointer (some ⟨b1,5,none⟩)) (BA (d':=13) (B:=true) rfl rfl rfl) (fun hB=>vA (off':=5) vF (by decide) (b:=b1) (off:=0) rfl om) (VA (B:=(decide ((o.pt:Int)≠(0:Int)))) (v:=i64 (o.pt)) (BA (d':=13) (B:=true) rfl rfl rfl) (fun hB=>by simp only [uE (v:=_) (h:=hB)]; exact FA (v:=i64 (o.pt)) vF (a0.get (k:=2) rfl) (off:=5) rfl (by rfl)) (VA (B:=(decide ((o.pt:Int)≠(0:Int)))) (v:=.bool (decide ((o.pt:Int)≠(1:Int)))) (BA (d':=13) (B:=true) rfl rfl rfl) (fun hB=>by simp only [uE (v:=_) (h:=hB)]; exact TE rfl rfl) (sq (OB (B:=true) rfl rfl rfl rfl) ?_)))
  refine go 0 ?_
  refine FD ((decide ((o.pt:Int)≠(0:Int)) && decide ((o.pt:Int)≠(1:Int)))) rfl (fun b0=>?_) (fun b0=>?_)
  ·simp only [Bool.and_eq_true,decide_eq_true_eq] at b0
   refine go 2 ?_
   intro E1 B0 F1
   refine go 1 ?_
   have hr:zA o e0 e1=(⟨(0:Int),(0:Int),(0:Int),(0:Int),false,false,(0:Int)⟩,false):=by simp [zA,k1,b0.1,b0.2,ru0]
   exact ⟨_,rfl,by rw [hr]<;>rfl,B0.chg⟩
  ·have hpt:o.pt=0∨o.pt=1:=by
    rcases Decidable.em (o.pt=0) with h | h
    ·exact .inl h
    ·exact .inr (by simpa [h] using b0)
   refine go 0 ?_
   by_cases hp:o.pt=0
   ·refine go 0 ?_
    by_cases hp:o.pt=0
    ·let c0:List RW:=[(rX b5 EI ([e0,e1]) 32),(rC b1 x5 105)]
     let C0:PD:=[wL false fun _ w'=>Hp No w w' ((rC b9 x6 329)::c0),wL true fun _ w'=>Hp No w w' ((rC b9 x1 329)::c0)]
     refine mB (m:=12) [0,1,3,7,15,0,32,96,224,480,31,2047] [10] c0 C0 JA (fun _ e=>a0.ext e) zE (fun D0=>?_)
     refine JC x2 (fun _ uw hcx=>vA (off':=5) vF (by decide) (b:=b1) (off:=0) rfl om) (JC (i64 (o.pt)) (fun _ uw hcx=>FA (v:=i64 (o.pt)) vF (hcx.get (k:=1) rfl) (off:=5) rfl (by rfl)) (JC (pT b5) (fun _ uw hcx=>LA (off':=0) (j:=0) vF (b:=b5) (off:=0) rfl rfl vo om om) (JC (i64 e0) (fun _ uw hcx=>fE (E:=EI) (l:=[e0,e1]) (j:=0) (a:=e0) xE (hcx.get (k:=0) rfl) (by rfl) rfl rfl) (JC (.agg x1) (fun _ uw hcx=>PF (cs':=x1) (ps:=[(2,i64 1),(3,i64 e0),(5,.bool true),(6,i64 1)]) vF vF rfl (by rfl)) (JC x2 (fun _ uw hcx=>vA (off':=5) vF (by decide) (b:=b1) (off:=0) rfl om) (JC (i64 (o.pt)) (fun _ uw hcx=>FA (v:=i64 (o.pt)) vF (hcx.get (k:=1) rfl) (off:=5) rfl (by rfl)) (JC (pT b5) (fun _ uw hcx=>LA (off':=0) (j:=0) vF (b:=b5) (off:=0) rfl rfl vo om om) (JC (i64 e0) (fun _ uw hcx=>fE (E:=EI) (l:=[e0,e1]) (j:=0) (a:=e0) xE (hcx.get (k:=0) rfl) (by rfl) rfl rfl) (JC (.bool (decide ((0:Int)<e0))) (fun _ uw hcx=>iE rfl rfl) (WalkT.eff D0 0 ?_ ?_))))))))))
     ·refine tA fun r w0 uw hF hE=>?_
      have E0:=hF.ext hE
      refine PE fun Q' hK=>(GA (k:=0) (v:=.agg x1) (cs':=x1) E0 rfl rfl rfl vF (by rfl) (MK rfl) (by exact vB rfl) (by rfl) fun G1 F0 H1=>?_)
      have G0:=F0.a3 rfl
      exact hK _ (fun _=>G0)
     refine gk 1 ?_
     refine WalkT.nil fun r w0 I1 hF hE=>?_
     have u0:=hF.ext hE
     dsimp only
     dsimp only [c0] at u0
     refine go 0 ?_
     have hr:zA o e0 e1=(⟨(0:Int),(0:Int),(1:Int),e0,false,true,(1:Int)⟩,decide ((0:Int)<e0)):=by simp [zA,GW,k1,hp]
     exact ⟨_,rfl,by rw [hr]<;>rfl,u0.chg⟩
    ·let d0:List RW:=[(rX b5 EI ([e0,e1]) 32),(rC b1 x5 105)]
     let H0:PD:=[wL false fun _ w'=>Hp No w w' ((rC b9 x6 329)::d0),wL true fun _ w'=>Hp No w w' ((rC b9 x4 329)::d0)]
     refine mB (m:=12) [0,1,3,7,15,0,32,96,224,480,31,2047] [10] d0 H0 JA (fun _ e=>a0.ext e) zE (fun I0=>?_)
     refine JC x2 (fun _ uw hcx=>vA (off':=5) vF (by decide) (b:=b1) (off:=0) rfl om) (JC (i64 (o.pt)) (fun _ uw hcx=>FA (v:=i64 (o.pt)) vF (hcx.get (k:=1) rfl) (off:=5) rfl (by rfl)) (JC x3 (fun _ uw hcx=>LA (off':=1) (j:=1) vF (b:=b5) (off:=0) rfl rfl vo om om) (JC (i64 e1) (fun _ uw hcx=>fE (E:=EI) (l:=[e0,e1]) (j:=1) (a:=e1) xE (hcx.get (k:=0) rfl) (by rfl) rfl rfl) (JC (.agg x4) (fun _ uw hcx=>PF (cs':=x4) (ps:=[(2,i64 1),(3,i64 e1),(5,.bool true),(6,i64 1)]) vF vF rfl (by rfl)) (JC x2 (fun _ uw hcx=>vA (off':=5) vF (by decide) (b:=b1) (off:=0) rfl om) (JC (i64 (o.pt)) (fun _ uw hcx=>FA (v:=i64 (o.pt)) vF (hcx.get (k:=1) rfl) (off:=5) rfl (by rfl)) (JC x3 (fun _ uw hcx=>LA (off':=1) (j:=1) vF (b:=b5) (off:=0) rfl rfl vo om om) (JC (i64 e1) (fun _ uw hcx=>fE (E:=EI) (l:=[e0,e1]) (j:=1) (a:=e1) xE (hcx.get (k:=0) rfl) (by rfl) rfl rfl) (JC (.bool (decide ((0:Int)<e1))) (fun _ uw hcx=>iE rfl rfl) (WalkT.eff I0 0 ?_ ?_))))))))))
     ·refine tA fun r w0 uw hF hE=>?_
      have J0:=hF.ext hE
      refine PE fun Q' hK=>(GA (k:=0) (v:=.agg x4) (cs':=x4) J0 rfl rfl rfl vF (by rfl) (MK rfl) (by exact vB rfl) (by rfl) fun J1 K0 K1=>?_)
      have L0:=K0.a3 rfl
      exact hK _ (fun _=>L0)
     refine gk 1 ?_
     refine WalkT.nil fun r w0 L1 hF hE=>?_
     have x0:=hF.ext hE
     dsimp only
     dsimp only [d0] at x0
     have hp1:o.pt=1:=by omega
     refine go 0 ?_
     have hr:zA o e0 e1=(⟨(0:Int),(0:Int),(1:Int),e1,false,true,(1:Int)⟩,decide ((0:Int)<e1)):=by simp [zA,GW,k1,hp1]
     exact ⟨_,rfl,by rw [hr]<;>rfl,x0.chg⟩
   ·refine go 0 ?_
    by_cases hp:o.pt=0
    ·let f0:List RW:=[(rX b5 EI ([e0,e1]) 32),(rC b1 x5 105)]
     let M0:PD:=[wL false fun _ w'=>Hp No w w' ((rC b9 x6 329)::f0),wL true fun _ w'=>Hp No w w' ((rC b9 x1 329)::f0)]
     refine mB (m:=12) [0,1,3,7,15,0,32,96,224,480,31,2047] [10] f0 M0 JA (fun _ e=>a0.ext e) zE (fun N0=>?_)
     refine JC x2 (fun _ uw hcx=>vA (off':=5) vF (by decide) (b:=b1) (off:=0) rfl om) (JC (i64 (o.pt)) (fun _ uw hcx=>FA (v:=i64 (o.pt)) vF (hcx.get (k:=1) rfl) (off:=5) rfl (by rfl)) (JC (pT b5) (fun _ uw hcx=>LA (off':=0) (j:=0) vF (b:=b5) (off:=0) rfl rfl vo om om) (JC (i64 e0) (fun _ uw hcx=>fE (E:=EI) (l:=[e0,e1]) (j:=0) (a:=e0) xE (hcx.get (k:=0) rfl) (by rfl) rfl rfl) (JC (.agg x1) (fun _ uw hcx=>PF (cs':=x1) (ps:=[(2,i64 1),(3,i64 e0),(5,.bool true),(6,i64 1)]) vF vF rfl (by rfl)) (JC x2 (fun _ uw hcx=>vA (off':=5) vF (by decide) (b:=b1) (off:=0) rfl om) (JC (i64 (o.pt)) (fun _ uw hcx=>FA (v:=i64 (o.pt)) vF (hcx.get (k:=1) rfl) (off:=5) rfl (by rfl)) (JC (pT b5) (fun _ uw hcx=>LA (off':=0) (j:=0) vF (b:=b5) (off:=0) rfl rfl vo om om) (JC (i64 e0) (fun _ uw hcx=>fE (E:=EI) (l:=[e0,e1]) (j:=0) (a:=e0) xE (hcx.get (k:=0) rfl) (by rfl) rfl rfl) (JC (.bool (decide ((0:Int)<e0))) (fun _ uw hcx=>iE rfl rfl) (WalkT.eff N0 0 ?_ ?_))))))))))
     ·refine tA fun r w0 uw hF hE=>?_
      have O0:=hF.ext hE
      refine PE fun Q' hK=>(GA (k:=0) (v:=.agg x1) (cs':=x1) O0 rfl rfl rfl vF (by rfl) (MK rfl) (by exact vB rfl) (by rfl) fun M1 P0 N1=>?_)
      have Q0:=P0.a3 rfl
      exact hK _ (fun _=>Q0)
     refine gk 1 ?_
     refine WalkT.nil fun r w0 O1 hF hE=>?_
     have y0:=hF.ext hE
     dsimp only
     dsimp only [f0] at y0
     refine go 0 ?_
     have hr:zA o e0 e1=(⟨(0:Int),(0:Int),(1:Int),e0,false,true,(1:Int)⟩,decide ((0:Int)<e0)):=by simp [zA,GW,k1,hp]
     exact ⟨_,rfl,by rw [hr]<;>rfl,y0.chg⟩
    ·let h0:List RW:=[(rX b5 EI ([e0,e1]) 32),(rC b1 x5 105)]
     let R0:PD:=[wL false fun _ w'=>Hp No w w' ((rC b9 x6 329)::h0),wL true fun _ w'=>Hp No w w' ((rC b9 x4 329)::h0)]
     refine mB (m:=12) [0,1,3,7,15,0,32,96,224,480,31,2047] [10] h0 R0 JA (fun _ e=>a0.ext e) zE (fun S0=>?_)
     refine JC x2 (fun _ uw hcx=>vA (off':=5) vF (by decide) (b:=b1) (off:=0) rfl om) (JC (i64 (o.pt)) (fun _ uw hcx=>FA (v:=i64 (o.pt)) vF (hcx.get (k:=1) rfl) (off:=5) rfl (by rfl)) (JC x3 (fun _ uw hcx=>LA (off':=1) (j:=1) vF (b:=b5) (off:=0) rfl rfl vo om om) (JC (i64 e1) (fun _ uw hcx=>fE (E:=EI) (l:=[e0,e1]) (j:=1) (a:=e1) xE (hcx.get (k:=0) rfl) (by rfl) rfl rfl) (JC (.agg x4) (fun _ uw hcx=>PF (cs':=x4) (ps:=[(2,i64 1),(3,i64 e1),(5,.bool true),(6,i64 1)]) vF vF rfl (by rfl)) (JC x2 (fun _ uw hcx=>vA (off':=5) vF (by decide) (b:=b1) (off:=0) rfl om) (JC (i64 (o.pt)) (fun _ uw hcx=>FA (v:=i64 (o.pt)) vF (hcx.get (k:=1) rfl) (off:=5) rfl (by rfl)) (JC x3 (fun _ uw hcx=>LA (off':=1) (j:=1) vF (b:=b5) (off:=0) rfl rfl vo om om) (JC (i64 e1) (fun _ uw hcx=>fE (E:=EI) (l:=[e0,e1]) (j:=1) (a:=e1) xE (hcx.get (k:=0) rfl) (by rfl) rfl rfl) (JC (.bool (decide ((0:Int)<e1))) (fun _ uw hcx=>iE rfl rfl) (WalkT.eff S0 0 ?_ ?_))))))))))
     ·refine tA fun r w0 uw hF hE=>?_
      have T0:=hF.ext hE
      refine PE fun Q' hK=>(GA (k:=0) (v:=.agg x4) (cs':=x4) T0 rfl rfl rfl vF (by rfl) (MK rfl) (by exact vB rfl) (by rfl) fun P1 U0 Q1=>?_)
      have V0:=U0.a3 rfl
      exact hK _ (fun _=>V0)
     refine gk 1 ?_
     refine WalkT.nil fun r w0 R1 hF hE=>?_
     have z0:=hF.ext hE
     dsimp only
     dsimp only [h0] at z0
     have hp1:o.pt=1:=by omega
     refine go 0 ?_
     have hr:zA o e0 e1=(⟨(0:Int),(0:Int),(1:Int),e1,false,true,(1:Int)⟩,decide ((0:Int)<e1)):=by simp [zA,GW,k1,hp1]
     exact ⟨_,rfl,by rw [hr]<;>rfl,z0.chg⟩
 ·refine go 2 ?_
  refine lA ((o.kd:Int)=(2:Int)) rfl (fun k2=>?_) (fun k2=>?_)
  ·refine go 2 ?_
   intro S1 W0 T1
   refine go 1 ?_
   have hr:zA o e0 e1=(⟨(0:Int),(0:Int),(3:Int),(0:Int),true,false,(0:Int)⟩,true):=by simp [zA,k2]
   exact ⟨_,rfl,by rw [hr]<;>rfl,W0.chg⟩
  ·refine go 2 ?_
   refine lA ((o.kd:Int)=(3:Int)) rfl (fun k3=>?_) (fun k3=>?_)
   ·refine go 0 ?_
    refine ZC (bT (k3)) ?_
    refine go 2 ?_
    intro U1 X0 V1
    refine go 1 ?_
    have hr:zA o e0 e1=(⟨(1:Int),(1:Int),(1:Int),(0:Int),false,false,(0:Int)⟩,true):=by simp [zA,k3]
    exact ⟨_,rfl,by rw [hr]<;>rfl,X0.chg⟩
   ·refine go 2 ?_
    refine lA ((o.kd:Int)=(4:Int)) rfl (fun k4=>?_) (fun k4=>?_)
    ·refine go 2 ?_
     intro W1 Y0 Y1
     refine go 1 ?_
     have hr:zA o e0 e1=(⟨(1:Int),(1:Int),(1:Int),(0:Int),false,false,(0:Int)⟩,true):=by simp [zA,k4]
     exact ⟨_,rfl,by rw [hr]<;>rfl,Y0.chg⟩
    ·refine go 2 ?_
     refine lA ((o.kd:Int)=(5:Int)) rfl (fun k5=>?_) (fun k5=>?_)
     ·refine go 2 ?_
      intro Z1 Z0 c2
      refine go 1 ?_
      have hr:zA o e0 e1=(⟨(1:Int),(0:Int),(1:Int),(0:Int),true,false,(0:Int)⟩,true):=by simp [zA,k5]
      exact ⟨_,rfl,by rw [hr]<;>rfl,Z0.chg⟩
     ·refine go 2 ?_
      refine lA ((o.kd:Int)=(6:Int)) rfl (fun k6=>?_) (fun k6=>?_)
      ·refine go 2 ?_
       intro d2 c1 e2
       refine go 1 ?_
       have hr:zA o e0 e1=(⟨(1:Int),(1:Int),(1:Int),(0:Int),false,false,(1:Int)⟩,true):=by simp [zA,k6]
       exact ⟨_,rfl,by rw [hr]<;>rfl,c1.chg⟩
      ·refine go 2 ?_
       refine lA ((o.kd:Int)=(7:Int)) rfl (fun k7=>?_) (fun k7=>?_)
       ·refine go 2 ?_
        intro f2 d1 g2
        refine go 1 ?_
        have hr:zA o e0 e1=(⟨(2:Int),(2:Int),(2:Int),(0:Int),false,false,(0:Int)⟩,true):=by simp [zA,k7]
        exact ⟨_,rfl,by rw [hr]<;>rfl,d1.chg⟩
       ·refine go 2 ?_
        refine lA ((o.kd:Int)=(8:Int)) rfl (fun k8=>?_) (fun k8=>?_)
        ·refine go 0 ?_
         refine ZC (bT (k8)) ?_
         refine go 2 ?_
         intro h2 g1 i2
         refine go 1 ?_
         have hr:zA o e0 e1=(⟨(2:Int),(0:Int),(2:Int),(0:Int),true,false,(0:Int)⟩,true):=by simp [zA,k8]
         exact ⟨_,rfl,by rw [hr]<;>rfl,g1.chg⟩
        ·refine go 2 ?_
         refine lA ((o.kd:Int)=(10:Int)) rfl (fun k0=>?_) (fun k0=>?_)
         ·refine go 2 ?_
          intro j2 h1 l2
          refine go 1 ?_
          have hr:zA o e0 e1=(⟨(2:Int),(0:Int),(2:Int),(0:Int),true,false,(0:Int)⟩,true):=by simp [zA,k0]
          exact ⟨_,rfl,by rw [hr]<;>rfl,h1.chg⟩
         ·refine go 2 ?_
          refine lA ((o.kd:Int)=(9:Int)) rfl (fun k9=>?_) (fun k9=>?_)
          ·refine go 2 ?_
           intro m2 i1 n2
           refine go 1 ?_
           have hr:zA o e0 e1=(⟨(2:Int),(2:Int),(2:Int),(0:Int),false,false,(1:Int)⟩,true):=by simp [zA,k9]
           exact ⟨_,rfl,by rw [hr]<;>rfl,i1.chg⟩
          ·refine go 2 ?_
           refine lA ((o.kd:Int)=(11:Int)) rfl (fun i0=>?_) (fun i0=>?_)
           ·refine go 0 ?_
            refine ZC (bT (i0)) ?_
            refine go 2 ?_
            intro o2 j1 p2
            refine go 1 ?_
            have hr:zA o e0 e1=(⟨(2:Int),(0:Int),(2:Int),(64:Int),false,false,(0:Int)⟩,true):=by simp [zA,i0]
            exact ⟨_,rfl,by rw [hr]<;>rfl,j1.chg⟩
           ·refine go 2 ?_
            refine lA ((o.kd:Int)=(12:Int)) rfl (fun j0=>?_) (fun j0=>?_)
            ·refine go 0 ?_
             refine ZC (bT (j0)) ?_
             refine go 2 ?_
             intro q2 l1 r2
             refine go 1 ?_
             have hr:zA o e0 e1=(⟨(2:Int),(0:Int),(2:Int),(64:Int),false,false,(0:Int)⟩,true):=by simp [zA,j0]
             exact ⟨_,rfl,by rw [hr]<;>rfl,l1.chg⟩
            ·refine go 2 ?_
             refine lA ((o.kd:Int)=(13:Int)) rfl (fun l0=>?_) (fun l0=>?_)
             ·refine go 2 ?_
              intro t2 m1 u2
              refine go 1 ?_
              have hr:zA o e0 e1=(⟨(2:Int),(0:Int),(2:Int),(64:Int),false,false,(0:Int)⟩,true):=by simp [zA,l0]
              exact ⟨_,rfl,by rw [hr]<;>rfl,m1.chg⟩
             ·refine go 2 ?_
              refine lA ((o.kd:Int)=(14:Int)) rfl (fun m0=>?_) (fun m0=>?_)
              ·refine go 2 ?_
               intro y2 n1 z2
               refine go 1 ?_
               have hr:zA o e0 e1=(⟨(2:Int),(0:Int),(2:Int),(0:Int),false,false,(0:Int)⟩,true):=by simp [zA,m0]
               exact ⟨_,rfl,by rw [hr]<;>rfl,n1.chg⟩
              ·refine go 2 ?_
               refine lA ((o.kd:Int)=(15:Int)) rfl (fun n0=>?_) (fun n0=>?_)
               ·refine go 2 ?_
                intro A2 o1 C2
                refine go 1 ?_
                have hr:zA o e0 e1=(⟨(1:Int),(0:Int),(2:Int),(0:Int),false,true,(0:Int)⟩,true):=by simp [zA,n0]
                exact ⟨_,rfl,by rw [hr]<;>rfl,o1.chg⟩
               ·refine go 2 ?_
                refine lA ((o.kd:Int)=(16:Int)) rfl (fun o0=>?_) (fun o0=>?_)
                ·refine go 2 ?_
                 intro D2 p1 E2
                 refine go 1 ?_
                 have hr:zA o e0 e1=(⟨(2:Int),(0:Int),(1:Int),(64:Int),false,true,(0:Int)⟩,true):=by simp [zA,o0]
                 exact ⟨_,rfl,by rw [hr]<;>rfl,p1.chg⟩
                ·refine go 2 ?_
                 refine lA ((o.kd:Int)=(17:Int)) rfl (fun p0=>?_) (fun p0=>?_)
                 ·refine go 1 ?_
                  refine cl (JW o A0 gE) ?_
                  rintro _ F2 ⟨rfl,q1⟩
                  have G2:=a0.ext q1
                  refine go 3 ?_
                  intro H2 r1 I2
                  refine go 1 ?_
                  exact ⟨_,rfl,by rw [show zA o e0 e1=CD o from by simp [zA,p0]]<;>rfl,r1.chg⟩
                 ·refine go 2 ?_
                  refine lA ((o.kd:Int)=(18:Int)) rfl (fun q0=>?_) (fun q0=>?_)
                  ·refine go 2 ?_
                   intro J2 t1 K2
                   refine go 1 ?_
                   have hr:zA o e0 e1=(⟨(1:Int),(0:Int),(0:Int),(0:Int),false,false,(1:Int)⟩,true):=by simp [zA,q0]
                   exact ⟨_,rfl,by rw [hr]<;>rfl,t1.chg⟩
                  ·refine go 2 ?_
                   refine lA ((o.kd:Int)=(19:Int)) rfl (fun r0=>?_) (fun r0=>?_)
                   ·refine go 2 ?_
                    intro L2 u1 M2
                    refine go 1 ?_
                    have hr:zA o e0 e1=(⟨(2:Int),(0:Int),(0:Int),(0:Int),false,false,(1:Int)⟩,true):=by simp [zA,r0]
                    exact ⟨_,rfl,by rw [hr]<;>rfl,u1.chg⟩
                   ·refine go 2 ?_
                    intro N2 w1 O2
                    refine go 1 ?_
                    have hr:zA o e0 e1=(⟨(0:Int),(0:Int),(0:Int),(0:Int),false,false,(0:Int)⟩,false):=by simp [zA,k1,k2,k3,k4,k5,k6,k7,k8,k0,k9,i0,j0,l0,m0,n0,o0,p0,q0,r0,ru0]
                    exact ⟨_,rfl,by rw [hr]<;>rfl,w1.chg⟩
theorem BN (ops:List Mo) (i:Nat) (at' q:Int) (fa:Option Addr) (fc:Nat) (w:World) (hF:Rd EI w fa (TD ops i)):Ca 158 [.slice fa i fc,i64 at',i64 q] w fun v w'=>v=.bool (QD ops i at' q)∧Ext w w':=by
 have H:=eA No w
 refine enter (n:=27) Tryz.func158 rfl rfl (vB rfl) ?_
 refine go 3 ?_
 refine lA ((q:Int)=(0:Int)) rfl (fun c8=>?_) (fun c8=>?_)
 ·refine go 3 ?_
  exact ⟨_,rfl,congrArg Value.bool (fS c8),H.chg⟩
 ·refine go 3 ?_
  refine VA (B:=(decide ((0:Int)≤at'))) (v:=i64 at') (BA (d':=13) (B:=true) rfl rfl rfl) (fun hB=>NA (v:=i64 at') rfl) (VA (B:=(decide ((0:Int)≤at'))) (v:=.slice fa i fc) (BA (d':=13) (B:=true) rfl rfl rfl) (fun hB=>NA (v:=.slice fa i fc) rfl) (VA (B:=(decide ((0:Int)≤at'))) (v:=iN i) (BA (d':=13) (B:=true) rfl rfl rfl) (fun hB=>by simp only [uE (v:=_) (h:=hB)]; exact EK vF (a:=fa) (m:=i) (c:=fc) rfl) (VA (B:=(decide ((0:Int)≤at'))) (v:=.bool (decide ((at':Int)<(i:Nat)))) (BA (d':=13) (B:=true) rfl rfl rfl) (fun hB=>by simp only [uE (v:=_) (h:=hB)]; exact bD rfl rfl) (sq (OB (B:=true) rfl rfl rfl rfl) ?_))))
  refine go 1 ?_
  refine VA (B:=((decide ((0:Int)≤at') && decide ((at':Int)<(i:Nat))))) (v:=.slice fa i fc) (BA (d':=19) (B:=true) rfl rfl rfl) (fun hB=>NA (v:=.slice fa i fc) rfl) (VA (B:=((decide ((0:Int)≤at') && decide ((at':Int)<(i:Nat))))) (v:=i64 at') (BA (d':=19) (B:=true) rfl rfl rfl) (fun hB=>NA (v:=i64 at') rfl) (VA (B:=((decide ((0:Int)≤at') && decide ((at':Int)<(i:Nat))))) (v:=.pointer (LD fa (at'.toNat*1))) (BA (d':=19) (B:=true) rfl rfl rfl) (fun hB=>by have hB2:=hB; simp only [Bool.and_eq_true,decide_eq_true_eq] at hB2; simp only [uE (v:=_) (h:=hB)]; exact OF (E:=EI) (l:=TD ops i) (j:=at'.toNat) vF (hF.ext H.chg) rfl rfl om (by exact (SD ops i).symm) (by rw [SD]; omega)) (VA (B:=((decide ((0:Int)≤at') && decide ((at':Int)<(i:Nat))))) (v:=i64 ((TD ops i).getD at'.toNat 0)) (BA (d':=19) (B:=true) rfl rfl rfl) (fun hB=>by have hB2:=hB; simp only [Bool.and_eq_true,decide_eq_true_eq] at hB2; simp only [uE (v:=_) (h:=hB)]; exact lG (E:=EI) (l:=TD ops i) (j:=at'.toNat) (v:=(TD ops i).getD at'.toNat 0) fits327 (hF.ext H.chg) rfl rfl (rB (by rw [SD]; omega))) (VA (B:=((decide ((0:Int)≤at') && decide ((at':Int)<(i:Nat))))) (v:=i64 q) (BA (d':=19) (B:=true) rfl rfl rfl) (fun hB=>NA (v:=i64 q) rfl) (caGv (B:=((decide ((0:Int)≤at') && decide ((at':Int)<(i:Nat))))) (v:=.bool (vT ((TD ops i).getD at'.toNat 0) q)) (BA (d':=19) (B:=true) rfl rfl rfl) (fun hB=>by simp only [uE (v:=_) (h:=hB)]; exact cA (vs:=[i64 ((TD ops i).getD at'.toNat 0),i64 q]) vF rfl) (fun hB=>by exact fits_ok ((TD ops i).getD at'.toNat 0) q w) fun w1 a0=>?_)))))
  have H3:=H.ext a0
  refine sq (OB (B:=true) rfl rfl rfl rfl) ?_
  refine go 1 ?_
  exact ⟨_,rfl,congrArg Value.bool (iS c8),H3.chg⟩
end Go.Proofs.YtljlkhobfdofhaaGreatDoor.Mi
