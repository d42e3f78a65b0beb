/- What the claim has need of: Tp2, Tp3. -/
import Derived.Test.YtljlkhobfdofhaaGreatDoorWv22
set_option linter.unusedVariables false
set_option maxHeartbeats 16000000
set_option maxRecDepth 20000
namespace Go.Proofs.YtljlkhobfdofhaaGreatDoor.Tp
open Go Vc Er Ek Circ Mi
open Co Cm
theorem agg64:SA Tryz.prog 64=true:=by kernel_rfl
theorem arr32:UD Tryz.prog 32=some (2,1):=by kernel_rfl
theorem PS:QA Tryz.prog 3=true:=by kernel_rfl
theorem siz64:ZB Tryz.prog 64=some 2:=by kernel_rfl
theorem jM (ops:List Mo) (oa:Option Addr) (oc:Nat) (seed:BitVec 64) (w:World) (hG:Gl w) (hg:Mi.Good ops 65536 65536) (hlen:ops.length≤400) (hO:Rd cH w oa ops):Ca 18 [.slice oa ops.length oc,u64 seed] w fun v w'=>∃ (b1 b2:Nat) (s1 s2:Sk) (ds l0 l1:List (BitVec 64)) (t0:Nat) (k0:Option Nat) (c0:Nat) (z0:LV) (t1:Nat) (k1:Option Nat) (c1:Nat) (z1:LV),v=.tuple #[.agg #[pT b1,pT b2],.agg #[pT t0,pT t1],.agg #[iN (nA ops),iN (nB ops),iN (nO ops),iN (nI ops),iN (NM ops),i64 (nR ops),iN (nW0 ops),iN (nW1 ops)]]∧s1.ok∧s2.ok∧Dealt ds (nA ops) (nB ops) (nO ops) s1 s2∧l0.length=nI ops∧l1.length=NM ops∧Sl E64 k0 l0 c0 z0∧Sl E64 k1 l1 c1 z1∧Hp No w w' (bB 137 235 230 b1 s1++(bB 137 235 230 b2 s2++[(rC t0 #[sO k0 l0.length c0,.pointer none,iN l0.length,iN 0] 238),(k0,wA E64 57 l0 z0),(rC t1 #[sO k1 l1.length c1,.pointer none,iN l1.length,iN 0] 238),(k1,wA E64 57 l1 z1)])):=by
 let x3:Array Value:=#[i64 0,i64 0,i64 0,i64 0,i64 0,i64 0,i64 0,i64 0]
 let x2:Array Value:=#[.pointer none,.pointer none]
 let x1:Array Value:=#[iN (nA ops),iN (nB ops),iN (nO ops),iN (nI ops),iN (NM ops),i64 (nR ops),iN (nW0 ops),iN (nW1 ops)]
 obtain ⟨hcA,hcB,hcO,hcT0,hcT1,hcW0,hcW1,hcG⟩:=KR ops ops.length
 have e1:nA ops=uA fA ops ops.length:=rfl
 have e2:nB ops=uA fB ops ops.length:=rfl
 have e3:nO ops=uA fO ops ops.length:=rfl
 have e4:nI ops≤uA uG ops ops.length+2:=by unfold nI dlt; split<;>omega
 have e5:NM ops=uA HG ops ops.length:=rfl
 have H:=eA No w
 refine enter (n:=51) Tryz.func18 rfl rfl (vB rfl) ?_
 refine go 1 ?_
 intro b1 w2 A4 H3 B4
 refine go 1 ?_
 intro b5 w6 C4 H7 D4
 refine go 1 ?_
 intro b9 k2 F4 l2 G4
 refine go 1 ?_
 refine cl (cR ops oa oc k2 gE VD om hg) ?_
 rintro _ H4 ⟨rfl,m2⟩
 have I4:=l2.ext m2
 refine go 1 ?_
 intro A1 J4 K4 L4 M4
 refine go 1 ?_
 intro N4 n2 O4
 refine go 0 ?_
 let Y0:List RW:=[(rC A1 x1 35),(rC b9 x3 35),(rC b5 x2 66),(rC b1 x2 64)]
 let B1:=fun (b0:Sk)=>((b0.b.key,KF aD 137 b0.b.pre b0.b.l b0.b.sp):RW)
 let C1:=fun (b0:Sk)=>((b0.o.key,KF UC 235 b0.o.pre b0.o.l b0.o.sp):RW)
 let D1:=fun (b0:Sk)=>((b0.t.key,KF aD 137 b0.t.pre b0.t.l b0.t.sp):RW)
 let E1:=fun (d0:Sk)=>((d0.b.key,KF aD 137 d0.b.pre d0.b.l d0.b.sp):RW)
 let F1:=fun (d0:Sk)=>((d0.o.key,KF UC 235 d0.o.pre d0.o.l d0.o.sp):RW)
 let G1:=fun (d0:Sk)=>((d0.t.key,KF aD 137 d0.t.pre d0.t.l d0.t.sp):RW)
 let H1:=fun (F0:Nat) (b0:Sk)=>((rC F0 #[.slice b0.t.a b0.t.l.length b0.t.c,.slice b0.b.a b0.b.l.length b0.b.c,.slice b0.o.a b0.o.l.length b0.o.c] 230):RW)
 let I1:=fun (G0:Nat) (d0:Sk)=>((rC G0 #[.slice d0.t.a d0.t.l.length d0.t.c,.slice d0.b.a d0.b.l.length d0.b.c,.slice d0.o.a d0.o.l.length d0.o.c] 230):RW)
 let Z1:=fun (q0:Nat) (m0:Option Nat) (r0:Nat) (a0:List (BitVec 64))=>((rC q0 #[sO m0 a0.length r0,.pointer none,iN a0.length,iN 0] 238):RW)
 let J1:=fun (q0:Nat) (m0:Option Nat) (r0:Nat) (a0:List (BitVec 64))=>((rC q0 #[sO m0 a0.length r0,.pointer none,iN a0.length,iN (5*((nA ops)+(nB ops))+5*(nO ops))] 238):RW)
 let o2:PD:=[mY false false false false false fun _ _ _ _ _ w'=>Hp No w w' Y0,mY true false false false false fun v10 _ _ _ _ w'=>∃ h0 j0 i0 a0,v10=sO h0 a0.length j0∧Sl E64 h0 a0 j0 i0∧a0.length=(5*(nA ops+nB ops+nO ops))∧Hp No w w' ((h0,wA E64 57 a0 i0)::Y0),mY true true false false false fun v10 v11 _ _ _ w'=>∃ h0 j0 i0 a0 q0 m0 r0 A0,v10=sO h0 a0.length j0∧v11=pT q0∧Sl E64 m0 a0 r0 A0∧Sl E64 h0 a0 j0 i0∧a0.length=(5*(nA ops+nB ops+nO ops))∧Hp No w w' ((Z1 q0 m0 r0 a0)::(m0,wA E64 57 a0 A0)::(h0,wA E64 57 a0 i0)::Y0),mY true true true false false fun v10 v11 v18 _ _ w'=>∃ h0 j0 i0 a0 q0 m0 r0 A0 F0 G0 b0 d0,v10=sO h0 a0.length j0∧v11=pT q0∧v18=.tuple #[.agg #[pT F0,pT G0],.nilIface]∧Sl E64 m0 a0 r0 A0∧Sl E64 h0 a0 j0 i0∧a0.length=(5*(nA ops+nB ops+nO ops))∧b0.ok∧d0.ok∧Dealt a0 (nA ops) (nB ops) (nO ops) b0 d0∧Hp No w w' ((H1 F0 b0)::(D1 b0)::(B1 b0)::(C1 b0)::(I1 G0 d0)::(G1 d0)::(E1 d0)::(F1 d0)::(J1 q0 m0 r0 a0)::(m0,wA E64 57 a0 A0)::(h0,wA E64 57 a0 i0)::Y0),mY false false false true false fun _ _ _ v22 _ w'=>∃ K1,v22=pT K1∧Hp No w w' ((rC K1 x2 64)::Y0),mY true false false true false fun v10 _ _ v22 _ w'=>∃ h0 j0 i0 a0 L1,v10=sO h0 a0.length j0∧v22=pT L1∧Sl E64 h0 a0 j0 i0∧a0.length=(5*(nA ops+nB ops+nO ops))∧Hp No w w' ((rC L1 x2 64)::(h0,wA E64 57 a0 i0)::Y0),mY true true false true false fun v10 v11 _ v22 _ w'=>∃ h0 j0 i0 a0 q0 m0 r0 A0 r1,v10=sO h0 a0.length j0∧v11=pT q0∧v22=pT r1∧Sl E64 m0 a0 r0 A0∧Sl E64 h0 a0 j0 i0∧a0.length=(5*(nA ops+nB ops+nO ops))∧Hp No w w' ((rC r1 x2 64)::(Z1 q0 m0 r0 a0)::(m0,wA E64 57 a0 A0)::(h0,wA E64 57 a0 i0)::Y0),mY true true true true false fun v10 v11 v18 v22 _ w'=>∃ h0 j0 i0 a0 q0 m0 r0 A0 F0 G0 b0 d0 V0,v10=sO h0 a0.length j0∧v11=pT q0∧v18=.tuple #[.agg #[pT F0,pT G0],.nilIface]∧v22=pT V0∧Sl E64 m0 a0 r0 A0∧Sl E64 h0 a0 j0 i0∧a0.length=(5*(nA ops+nB ops+nO ops))∧b0.ok∧d0.ok∧Dealt a0 (nA ops) (nB ops) (nO ops) b0 d0∧Hp No w w' ((rC V0 x2 64)::(H1 F0 b0)::(D1 b0)::(B1 b0)::(C1 b0)::(I1 G0 d0)::(G1 d0)::(E1 d0)::(F1 d0)::(J1 q0 m0 r0 a0)::(m0,wA E64 57 a0 A0)::(h0,wA E64 57 a0 i0)::Y0),mY true true true true true fun v10 v11 v18 v22 _ w'=>∃ h0 j0 i0 a0 q0 m0 r0 A0 F0 G0 b0 d0 V0,v10=sO h0 a0.length j0∧v11=pT q0∧v18=.tuple #[.agg #[pT F0,pT G0],.nilIface]∧v22=pT V0∧Sl E64 m0 a0 r0 A0∧Sl E64 h0 a0 j0 i0∧a0.length=(5*(nA ops+nB ops+nO ops))∧b0.ok∧d0.ok∧Dealt a0 (nA ops) (nB ops) (nO ops) b0 d0∧Hp No w w' ((rC V0 #[pT F0,pT G0] 64)::(H1 F0 b0)::(D1 b0)::(B1 b0)::(C1 b0)::(I1 G0 d0)::(G1 d0)::(E1 d0)::(F1 d0)::(J1 q0 m0 r0 a0)::(m0,wA E64 57 a0 A0)::(h0,wA E64 57 a0 i0)::Y0)]
 refine mB (m:=25) [0,0,2,0,8,30,0,64,254,510,1023,2047,0,4096,0,16384,0,65536,262143,524287,1048575,1048575,0,6291455,16777215] [10,11,18,22,23] Y0 o2 JA (fun _ e=>n2.ext e) zE (fun u1=>?_)
 refine gk 5 ?_
 refine JC (iN (nA ops+nB ops)) (fun _ uw hcx=>(iC rfl rfl om).as (v':=iN (nA ops+nB ops)) (by rfl)) ?_
 refine gk 2 ?_
 refine JC (iN (nA ops+nB ops+nO ops)) (fun _ uw hcx=>(iC rfl rfl om).as (v':=iN (nA ops+nB ops+nO ops)) (by rfl)) (JC (iN (5*(nA ops+nB ops+nO ops))) (fun _ uw hcx=>(AC rfl rfl om).as (v':=iN (5*(nA ops+nB ops+nO ops))) (by rfl)) (WalkT.eff u1 0 ?_ ?_))
 ·refine tB (fun r w0 uw hF hE=>?_) fun r w0 uw hF hE=>?_
  ·have p2:=hF.ext hE
   refine gW fun Q' hK=>(cl (XH seed (5*(nA ops+nB ops+nO ops)) uw om) ?_)
   rintro _ Q4 ⟨q2,r2,t2,u2,y2,rfl,z2,A2⟩
   have C2:=(p2.join A2).a5 rfl
   exact hK _ _ (E_ t2 (E_ u2 (E_ y2 (E_ q2 (A_ rfl (A_ z2 (A_ r2 C2)))))))
  ·obtain ⟨K1,T0,P1⟩:=hF
   replace P1:=P1.ext hE
   refine gW fun Q' hK=>(cl (XH seed (5*(nA ops+nB ops+nO ops)) uw om) ?_)
   rintro _ R4 ⟨D2,E2,F2,G2,H2,rfl,I2,J2⟩
   have K2:=(P1.join J2).a6 rfl
   exact hK _ _ (E_ F2 (E_ G2 (E_ H2 (E_ D2 (E_ K1 (A_ rfl (A_ T0 (A_ I2 (A_ E2 ((K2.pk 2 [1,0])))))))))))
 refine WalkT.eff u1 1 ?_ ?_
 ·refine tB (fun r w0 uw hF hE=>?_) fun r w0 uw hF hE=>?_
  ·obtain ⟨h0,j0,i0,a0,J0,M0,N0,Q1⟩:=hF
   replace Q1:=Q1.ext hE
   dsimp only
   rw [J0]
   refine gW fun Q' hK=>(cl (XJ a0 om (CA h0) a0.length j0 (by rfl) uw VD) ?_)
   rintro _ S4 ⟨⟨L2,M2,N2,O2,rfl,P2,Q2⟩,U4⟩
   have R2:=(Q1.join Q2).a7 rfl
   exact hK _ _ (E_ h0 (E_ j0 (E_ i0 (E_ a0 (E_ L2 (E_ M2 (E_ N2 (E_ O2 (A_ J0 (A_ rfl (A_ P2 (A_ M0 (A_ N0 R2)))))))))))))
  ·obtain ⟨h0,j0,i0,a0,L1,J0,T0,M0,N0,R1⟩:=hF
   replace R1:=R1.ext hE
   dsimp only
   rw [J0]
   refine gW fun Q' hK=>(cl (XJ a0 om (CA h0) a0.length j0 (by rfl) uw VD) ?_)
   rintro _ V4 ⟨⟨S2,T2,U2,V2,rfl,Y2,Z2⟩,W4⟩
   have c3:=(R1.join Z2).a8 rfl
   exact hK _ _ (E_ h0 (E_ j0 (E_ i0 (E_ a0 (E_ S2 (E_ T2 (E_ U2 (E_ V2 (E_ L1 (A_ J0 (A_ rfl (A_ T0 (A_ Y2 (A_ M0 (A_ N0 ((c3.pk 4 [2,0,1,3])))))))))))))))))
 refine gk 6 ?_
 refine WalkT.eff u1 2 ?_ ?_
 ·refine tB (fun r w0 uw hF hE=>?_) fun r w0 uw hF hE=>?_
  ·obtain ⟨h0,j0,i0,a0,q0,m0,r0,A0,J0,O0,P0,M0,N0,S1⟩:=hF
   replace S1:=S1.ext hE
   dsimp only
   rw [O0]
   refine gW fun Q' hK=>?_
   have d3:=S1.b2 rfl
   refine cl (IR q0 m0 r0 A0 a0 P0 om (nA ops) (nB ops) (nO ops) om om om om [(h0,wA E64 57 a0 i0),(rC A1 x1 35),(rC b9 x3 35),(rC b5 x2 66),(rC b1 x2 64)] w uw d3) ?_
   rintro _ X4 ⟨f3,g3,h3,i3,rfl,j3,k3,l3,m3⟩
   have n3:=m3.a15 rfl
   exact hK _ _ (E_ h0 (E_ j0 (E_ i0 (E_ a0 (E_ q0 (E_ m0 (E_ r0 (E_ A0 (E_ f3 (E_ g3 (E_ h3 (E_ i3 (A_ J0 (A_ O0 (A_ rfl (A_ P0 (A_ M0 (A_ N0 (A_ j3 (A_ k3 (A_ l3 n3)))))))))))))))))))))
  ·obtain ⟨h0,j0,i0,a0,q0,m0,r0,A0,r1,J0,O0,T0,P0,M0,N0,T1⟩:=hF
   replace T1:=T1.ext hE
   dsimp only
   rw [O0]
   refine gW fun Q' hK=>?_
   have o3:=((T1.pk 8 [1,2,0,3,4,5,6,7])).b2 rfl
   refine cl (IR q0 m0 r0 A0 a0 P0 om (nA ops) (nB ops) (nO ops) om om om om [(rC r1 x2 64),(h0,wA E64 57 a0 i0),(rC A1 x1 35),(rC b9 x3 35),(rC b5 x2 66),(rC b1 x2 64)] w uw o3) ?_
   rintro _ Y4 ⟨p3,q3,r3,t3,rfl,u3,w3,y3,z3⟩
   have A3:=z3.a16 rfl
   exact hK _ _ (E_ h0 (E_ j0 (E_ i0 (E_ a0 (E_ q0 (E_ m0 (E_ r0 (E_ A0 (E_ p3 (E_ q3 (E_ r3 (E_ t3 (E_ r1 (A_ J0 (A_ O0 (A_ rfl (A_ T0 (A_ P0 (A_ M0 (A_ N0 (A_ u3 (A_ w3 (A_ y3 ((A3.pk 12 [10,0,1,2,3,4,5,6,7,8,9,11])))))))))))))))))))))))))
 refine bA (fun r=>r 18) (fun r r' h=>h 18 (by decide) rfl) (fun _ _=>NA rfl) (aA (fun r=>tF (r 18) 0) (fun r r' h=>by rw [h 18 (by decide) rfl]) ?_ ?_)
 ·refine tB (fun r w0 uw hF hE=>?_) fun r w0 uw hF hE=>?_
  ·obtain ⟨h0,j0,i0,a0,q0,m0,r0,A0,F0,G0,b0,d0,J0,O0,Q0,P0,M0,N0,d1,g1,h1,HH⟩:=hF
   replace HH:=HH.ext hE
   dsimp only
   rw [Q0]
   exact nH
  ·obtain ⟨h0,j0,i0,a0,q0,m0,r0,A0,F0,G0,b0,d0,V0,J0,O0,Q0,T0,P0,M0,N0,d1,g1,h1,HH⟩:=hF
   replace HH:=HH.ext hE
   dsimp only
   rw [Q0]
   exact nH
 refine aA (fun r=>tF (r 18) 1) (fun r r' h=>by rw [h 18 (by decide) rfl]) ?_ ?_
 ·refine A_ (fun r w0 uw hF hE=>?_) (A_ (fun r w0 uw hF hE=>?_) (A_ (fun r w0 uw hF hE=>?_) trivial))
  ·obtain ⟨h0,j0,i0,a0,q0,m0,r0,A0,F0,G0,b0,d0,J0,O0,Q0,P0,M0,N0,d1,g1,h1,HH⟩:=hF
   replace HH:=HH.ext hE
   dsimp only
   rw [Q0]
   exact nH
  ·obtain ⟨h0,j0,i0,a0,q0,m0,r0,A0,F0,G0,b0,d0,V0,J0,O0,Q0,T0,P0,M0,N0,d1,g1,h1,HH⟩:=hF
   replace HH:=HH.ext hE
   dsimp only
   rw [Q0]
   exact nH
  ·obtain ⟨h0,j0,i0,a0,q0,m0,r0,A0,F0,G0,b0,d0,V0,J0,O0,Q0,T0,P0,M0,N0,d1,g1,h1,HH⟩:=hF
   replace HH:=HH.ext hE
   dsimp only
   rw [Q0]
   exact nH
 refine WalkT.eff u1 3 ?_ ?_
 ·refine A_ (fun r w0 uw hF hE=>?_) (A_ (fun r w0 uw hF hE=>?_) (A_ (fun r w0 uw hF hE=>?_) (A_ (fun r w0 uw hF hE=>?_) trivial)))
  ·have Z4:=hF.ext hE
   refine gW fun Q' hK=>?_
   refine go 1 ?_
   intro B3 c5 d5 C3 f5
   exact hK _ _ (E_ B3 (A_ rfl C3))
  ·obtain ⟨h0,j0,i0,a0,J0,M0,N0,c2⟩:=hF
   replace c2:=c2.ext hE
   refine gW fun Q' hK=>?_
   refine go 1 ?_
   intro D3 g5 h5 E3 i5
   exact hK _ _ (E_ h0 (E_ j0 (E_ i0 (E_ a0 (E_ D3 (A_ J0 (A_ rfl (A_ M0 (A_ N0 E3)))))))))
  ·obtain ⟨h0,j0,i0,a0,q0,m0,r0,A0,J0,O0,P0,M0,N0,d2⟩:=hF
   replace d2:=d2.ext hE
   refine gW fun Q' hK=>?_
   refine go 1 ?_
   intro F3 j5 k5 G3 l5
   exact hK _ _ (E_ h0 (E_ j0 (E_ i0 (E_ a0 (E_ q0 (E_ m0 (E_ r0 (E_ A0 (E_ F3 (A_ J0 (A_ O0 (A_ rfl (A_ P0 (A_ M0 (A_ N0 G3)))))))))))))))
  ·obtain ⟨h0,j0,i0,a0,q0,m0,r0,A0,F0,G0,b0,d0,J0,O0,Q0,P0,M0,N0,d1,g1,h1,f2⟩:=hF
   replace f2:=f2.ext hE
   refine gW fun Q' hK=>?_
   refine go 1 ?_
   intro I3 m5 n5 J3 o5
   exact hK _ _ (E_ h0 (E_ j0 (E_ i0 (E_ a0 (E_ q0 (E_ m0 (E_ r0 (E_ A0 (E_ F0 (E_ G0 (E_ b0 (E_ d0 (E_ I3 (A_ J0 (A_ O0 (A_ Q0 (A_ rfl (A_ P0 (A_ M0 (A_ N0 (A_ d1 (A_ g1 (A_ h1 J3)))))))))))))))))))))))
 refine WalkT.eff u1 4 ?_ ?_
 ·refine tA fun r w0 uw hF hE=>?_
  obtain ⟨h0,j0,i0,a0,q0,m0,r0,A0,F0,G0,b0,d0,V0,J0,O0,Q0,T0,P0,M0,N0,d1,g1,h1,g2⟩:=hF
  replace g2:=g2.ext hE
  dsimp only
  rw [Q0,T0]
  refine PE fun Q' hK=>?_
  refine go 1 ?_
  intro p5 K3 q5
  exact hK _ (fun _=>(E_ h0 (E_ j0 (E_ i0 (E_ a0 (E_ q0 (E_ m0 (E_ r0 (E_ A0 (E_ F0 (E_ G0 (E_ b0 (E_ d0 (E_ V0 (A_ J0 (A_ O0 (A_ Q0 (A_ T0 (A_ P0 (A_ M0 (A_ N0 (A_ d1 (A_ g1 (A_ h1 K3))))))))))))))))))))))))
 refine bA (fun r=>tF (r 18) 1) (fun r r' h=>by rw [h 18 (by decide) rfl]) (fun _ _=>MA rfl) (WalkT.nil fun r w0 r5 hF hE=>?_)
 obtain ⟨h0,j0,i0,a0,q0,m0,r0,A0,F0,G0,b0,d0,V0,J0,O0,Q0,T0,P0,M0,N0,d1,g1,h1,M1⟩:=hF
 replace M1:=M1.ext hE
 dsimp only
 rw [J0,O0,Q0,T0]
 dsimp only [Y0,H1,D1,B1,C1,I1,G1,E1,F1,J1] at M1
 refine go 0 ?_
 have L3:=(M1.pk 16 [13,14,15,0,1,2,3,4,5,6,7,8,9,10,11,12])
 let i1:List RW:=[(rC V0 #[pT F0,pT G0] 64),(rC F0 #[.slice b0.t.a b0.t.l.length b0.t.c,.slice b0.b.a b0.b.l.length b0.b.c,.slice b0.o.a b0.o.l.length b0.o.c] 230),(b0.t.key,KF aD 137 b0.t.pre b0.t.l b0.t.sp),(b0.b.key,KF aD 137 b0.b.pre b0.b.l b0.b.sp),(b0.o.key,KF UC 235 b0.o.pre b0.o.l b0.o.sp),(rC G0 #[.slice d0.t.a d0.t.l.length d0.t.c,.slice d0.b.a d0.b.l.length d0.b.c,.slice d0.o.a d0.o.l.length d0.o.c] 230),(d0.t.key,KF aD 137 d0.t.pre d0.t.l d0.t.sp),(d0.b.key,KF aD 137 d0.b.pre d0.b.l d0.b.sp),(d0.o.key,KF UC 235 d0.o.pre d0.o.l d0.o.sp),(rC q0 #[sO m0 a0.length r0,.pointer none,iN a0.length,iN (5*((nA ops)+(nB ops))+5*(nO ops))] 238),(m0,wA E64 57 a0 A0),(h0,wA E64 57 a0 i0),(rC A1 x1 35)]
 let N1:=((rC b1 #[pT F0,pT G0] 64):RW)
 let w1:=((rC b1 x2 64):RW)
 let n1:=fun (p0:Nat) (o0:Option Nat) (y0:Nat) (e0:List (BitVec 64))=>((rC p0 #[sO o0 e0.length y0,.pointer none,iN e0.length,iN 0] 238):RW)
 let y1:=fun (E0:Nat) (D0:Option Nat) (K0:Nat) (f0:List (BitVec 64))=>((rC E0 #[sO D0 f0.length K0,.pointer none,iN f0.length,iN 0] 238):RW)
 let U1:=fun (p0:Nat) (E0:Nat)=>((rC b5 #[pT p0,pT E0] 66):RW)
 let q1:=((rC b5 x2 66):RW)
 let o1:=((rC b9 x3 35):RW)
 let M3:PD:=[zt7 false false false false false false false fun _ _ _ _ _ _ _ w'=>Hp No w w' (o1::q1::w1::i1),zt7 true false false false false false false fun v6 _ _ _ _ _ _ w'=>∃ n0 u0 x0 e0,v6=sO n0 e0.length u0∧Sl E64 n0 e0 u0 x0∧e0.length=(nI ops)∧Hp No w w' ((n0,wA E64 57 e0 x0)::o1::q1::w1::i1),zt7 true true false false false false false fun v6 v7 _ _ _ _ _ w'=>∃ n0 u0 x0 e0 p0 o0 y0 B0,v6=sO n0 e0.length u0∧v7=pT p0∧Sl E64 o0 e0 y0 B0∧Sl E64 n0 e0 u0 x0∧e0.length=(nI ops)∧Hp No w w' ((n1 p0 o0 y0 e0)::(o0,wA E64 57 e0 B0)::(n0,wA E64 57 e0 x0)::o1::q1::w1::i1),zt7 true true true false false false false fun v6 v7 v13 _ _ _ _ w'=>∃ n0 u0 x0 e0 p0 o0 y0 B0 C0 H0 I0 f0,v6=sO n0 e0.length u0∧v7=pT p0∧v13=sO C0 f0.length H0∧Sl E64 C0 f0 H0 I0∧Sl E64 o0 e0 y0 B0∧Sl E64 n0 e0 u0 x0∧e0.length=(nI ops)∧f0.length=(NM ops)∧Hp No w w' ((C0,wA E64 57 f0 I0)::(n1 p0 o0 y0 e0)::(o0,wA E64 57 e0 B0)::(n0,wA E64 57 e0 x0)::o1::q1::w1::i1),zt7 true true true true false false false fun v6 v7 v13 v14 _ _ _ w'=>∃ n0 u0 x0 e0 p0 o0 y0 B0 C0 H0 I0 f0 E0 D0 K0 L0,v6=sO n0 e0.length u0∧v7=pT p0∧v13=sO C0 f0.length H0∧v14=pT E0∧Sl E64 D0 f0 K0 L0∧Sl E64 C0 f0 H0 I0∧Sl E64 o0 e0 y0 B0∧Sl E64 n0 e0 u0 x0∧e0.length=(nI ops)∧f0.length=(NM ops)∧Hp No w w' ((y1 E0 D0 K0 f0)::(D0,wA E64 57 f0 L0)::(C0,wA E64 57 f0 I0)::(n1 p0 o0 y0 e0)::(o0,wA E64 57 e0 B0)::(n0,wA E64 57 e0 x0)::o1::q1::w1::i1),zt7 true true true true true false false fun v6 v7 v13 v14 _ _ _ w'=>∃ n0 u0 x0 e0 p0 o0 y0 B0 C0 H0 I0 f0 E0 D0 K0 L0,v6=sO n0 e0.length u0∧v7=pT p0∧v13=sO C0 f0.length H0∧v14=pT E0∧Sl E64 D0 f0 K0 L0∧Sl E64 C0 f0 H0 I0∧Sl E64 o0 e0 y0 B0∧Sl E64 n0 e0 u0 x0∧e0.length=(nI ops)∧f0.length=(NM ops)∧Hp No w w' ((y1 E0 D0 K0 f0)::(D0,wA E64 57 f0 L0)::(C0,wA E64 57 f0 I0)::(n1 p0 o0 y0 e0)::(o0,wA E64 57 e0 B0)::(n0,wA E64 57 e0 x0)::o1::q1::N1::i1),zt7 true true true true true true false fun v6 v7 v13 v14 _ _ _ w'=>∃ n0 u0 x0 e0 p0 o0 y0 B0 C0 H0 I0 f0 E0 D0 K0 L0,v6=sO n0 e0.length u0∧v7=pT p0∧v13=sO C0 f0.length H0∧v14=pT E0∧Sl E64 D0 f0 K0 L0∧Sl E64 C0 f0 H0 I0∧Sl E64 o0 e0 y0 B0∧Sl E64 n0 e0 u0 x0∧e0.length=(nI ops)∧f0.length=(NM ops)∧Hp No w w' ((y1 E0 D0 K0 f0)::(D0,wA E64 57 f0 L0)::(C0,wA E64 57 f0 I0)::(n1 p0 o0 y0 e0)::(o0,wA E64 57 e0 B0)::(n0,wA E64 57 e0 x0)::o1::(U1 p0 E0)::N1::i1),zt7 true true true true true true true fun v6 v7 v13 v14 _ _ _ w'=>∃ n0 u0 x0 e0 p0 o0 y0 B0 C0 H0 I0 f0 E0 D0 K0 L0,v6=sO n0 e0.length u0∧v7=pT p0∧v13=sO C0 f0.length H0∧v14=pT E0∧Sl E64 D0 f0 K0 L0∧Sl E64 C0 f0 H0 I0∧Sl E64 o0 e0 y0 B0∧Sl E64 n0 e0 u0 x0∧e0.length=(nI ops)∧f0.length=(NM ops)∧Hp No w w' ((y1 E0 D0 K0 f0)::(D0,wA E64 57 f0 L0)::(C0,wA E64 57 f0 I0)::(n1 p0 o0 y0 e0)::(o0,wA E64 57 e0 B0)::(n0,wA E64 57 e0 x0)::(rC b9 x1 35)::(U1 p0 E0)::N1::i1)]
 refine mB (m:=20) [0,0,2,0,8,24,62,126,0,256,0,1024,3072,8190,16382,32766,0,32767,196607,524287] [6,7,13,14,17,18,19] i1 M3 JA (fun _ e=>L3.ext e) zE (fun p1=>?_)
 refine gk 6 ?_
 refine WalkT.eff p1 0 ?_ ?_
 ·refine tA fun r w0 uw hF hE=>?_
  have N3:=hF.ext hE
  refine gW fun Q' hK=>(cl (XH (seed+(1#64)) (nI ops) uw om) ?_)
  rintro _ s5 ⟨O3,P3,Q3,R3,S3,rfl,T3,U3⟩
  have V3:=(N3.join U3).as (L':=[_,_,_,_,_,_,_,_,_,_,_,_,_,_,_,_,_]) rfl
  exact hK _ _ (E_ Q3 (E_ R3 (E_ S3 (E_ O3 (A_ rfl (A_ T3 (A_ P3 V3)))))))
 refine WalkT.eff p1 1 ?_ ?_
 ·refine tA fun r w0 uw hF hE=>?_
  obtain ⟨n0,u0,x0,e0,e6,S0,R0,V1⟩:=hF
  replace V1:=V1.ext hE
  dsimp only
  rw [e6]
  refine gW fun Q' hK=>(cl (XJ e0 om (CA n0) e0.length u0 (by rfl) uw VD) ?_)
  rintro _ t5 ⟨⟨W3,X3,Y3,Z3,rfl,c4,d4⟩,u5⟩
  have f4:=(V1.join d4).as (L':=[_,_,_,_,_,_,_,_,_,_,_,_,_,_,_,_,_,_,_]) rfl
  exact hK _ _ (E_ n0 (E_ u0 (E_ x0 (E_ e0 (E_ W3 (E_ X3 (E_ Y3 (E_ Z3 (A_ e6 (A_ rfl (A_ c4 (A_ S0 (A_ R0 f4)))))))))))))
 refine gk 5 ?_
 refine WalkT.eff p1 2 ?_ ?_
 ·refine tA fun r w0 uw hF hE=>?_
  obtain ⟨n0,u0,x0,e0,p0,o0,y0,B0,e6,e7,U0,S0,R0,W1⟩:=hF
  replace W1:=W1.ext hE
  refine gW fun Q' hK=>(cl (XH (seed+(2#64)) (NM ops) uw om) ?_)
  rintro _ w5 ⟨g4,h4,i4,j4,k4,rfl,l4,m4⟩
  have n4:=(W1.join m4).as (L':=[_,_,_,_,_,_,_,_,_,_,_,_,_,_,_,_,_,_,_,_]) rfl
  exact hK _ _ (E_ n0 (E_ u0 (E_ x0 (E_ e0 (E_ p0 (E_ o0 (E_ y0 (E_ B0 (E_ i4 (E_ j4 (E_ k4 (E_ g4 (A_ e6 (A_ e7 (A_ rfl (A_ l4 (A_ U0 (A_ S0 (A_ R0 (A_ h4 n4))))))))))))))))))))
 refine WalkT.eff p1 3 ?_ ?_
 ·refine tA fun r w0 uw hF hE=>?_
  obtain ⟨n0,u0,x0,e0,p0,o0,y0,B0,C0,H0,I0,f0,e6,e7,W0,j1,U0,S0,R0,Z0,Y1⟩:=hF
  replace Y1:=Y1.ext hE
  dsimp only
  rw [W0]
  refine gW fun Q' hK=>(cl (XJ f0 om (CA C0) f0.length H0 (by rfl) uw VD) ?_)
  rintro _ x5 ⟨⟨o4,p4,q4,r4,rfl,s4,t4⟩,y5⟩
  have u4:=(Y1.join t4).as (L':=[_,_,_,_,_,_,_,_,_,_,_,_,_,_,_,_,_,_,_,_,_,_]) rfl
  exact hK _ _ (E_ n0 (E_ u0 (E_ x0 (E_ e0 (E_ p0 (E_ o0 (E_ y0 (E_ B0 (E_ C0 (E_ H0 (E_ I0 (E_ f0 (E_ o4 (E_ p4 (E_ q4 (E_ r4 (A_ e6 (A_ e7 (A_ W0 (A_ rfl (A_ s4 (A_ j1 (A_ U0 (A_ S0 (A_ R0 (A_ Z0 u4))))))))))))))))))))))))))
 refine aA (fun r=>.agg #[r 7,r 14]) (fun r r' h=>by rw [h 7 (by decide) rfl,h 14 (by decide) rfl]) ?_ ?_
 ·refine tB (fun r w0 uw hF hE=>?_) fun r w0 uw hF hE=>?_
  ·obtain ⟨n0,u0,x0,e0,p0,o0,y0,B0,C0,H0,I0,f0,E0,D0,K0,L0,e6,e7,W0,X0,m1,j1,U0,S0,R0,Z0,HH⟩:=hF
   replace HH:=HH.ext hE
   dsimp only
   rw [e7,X0]
   exact nH
  ·obtain ⟨n0,u0,x0,e0,p0,o0,y0,B0,C0,H0,I0,f0,E0,D0,K0,L0,e6,e7,W0,X0,m1,j1,U0,S0,R0,Z0,HH⟩:=hF
   replace HH:=HH.ext hE
   dsimp only
   rw [e7,X0]
   exact nH
 refine gk 1 ?_
 refine WalkT.eff p1 4 ?_ ?_
 ·refine tA fun r w0 uw hF hE=>?_
  obtain ⟨n0,u0,x0,e0,p0,o0,y0,B0,C0,H0,I0,f0,E0,D0,K0,L0,e6,e7,W0,X0,m1,j1,U0,S0,R0,Z0,h2⟩:=hF
  replace h2:=h2.ext hE
  refine PE fun Q' hK=>?_
  refine go 1 ?_
  intro z5 w4 A5
  exact hK _ (fun _=>(E_ n0 (E_ u0 (E_ x0 (E_ e0 (E_ p0 (E_ o0 (E_ y0 (E_ B0 (E_ C0 (E_ H0 (E_ I0 (E_ f0 (E_ E0 (E_ D0 (E_ K0 (E_ L0 (A_ e6 (A_ e7 (A_ W0 (A_ X0 (A_ m1 (A_ j1 (A_ U0 (A_ S0 (A_ R0 (A_ Z0 w4)))))))))))))))))))))))))))
 refine WalkT.eff p1 5 ?_ ?_
 ·refine tA fun r w0 uw hF hE=>?_
  obtain ⟨n0,u0,x0,e0,p0,o0,y0,B0,C0,H0,I0,f0,E0,D0,K0,L0,e6,e7,W0,X0,m1,j1,U0,S0,R0,Z0,i2⟩:=hF
  replace i2:=i2.ext hE
  dsimp only
  rw [X0,e7]
  refine PE fun Q' hK=>?_
  refine go 1 ?_
  intro B5 x4 C5
  exact hK _ (fun _=>(E_ n0 (E_ u0 (E_ x0 (E_ e0 (E_ p0 (E_ o0 (E_ y0 (E_ B0 (E_ C0 (E_ H0 (E_ I0 (E_ f0 (E_ E0 (E_ D0 (E_ K0 (E_ L0 (A_ e6 (A_ e7 (A_ W0 (A_ X0 (A_ m1 (A_ j1 (A_ U0 (A_ S0 (A_ R0 (A_ Z0 x4)))))))))))))))))))))))))))
 refine WalkT.eff p1 6 ?_ ?_
 ·refine tA fun r w0 uw hF hE=>?_
  obtain ⟨n0,u0,x0,e0,p0,o0,y0,B0,C0,H0,I0,f0,E0,D0,K0,L0,e6,e7,W0,X0,m1,j1,U0,S0,R0,Z0,j2⟩:=hF
  replace j2:=j2.ext hE
  refine PE fun Q' hK=>?_
  refine go 1 ?_
  intro D5 y4 E5
  exact hK _ (fun _=>(E_ n0 (E_ u0 (E_ x0 (E_ e0 (E_ p0 (E_ o0 (E_ y0 (E_ B0 (E_ C0 (E_ H0 (E_ I0 (E_ f0 (E_ E0 (E_ D0 (E_ K0 (E_ L0 (A_ e6 (A_ e7 (A_ W0 (A_ X0 (A_ m1 (A_ j1 (A_ U0 (A_ S0 (A_ R0 (A_ Z0 y4)))))))))))))))))))))))))))
 refine WalkT.nil fun r w0 F5 hF hE=>?_
 obtain ⟨n0,u0,x0,e0,p0,o0,y0,B0,C0,H0,I0,f0,E0,D0,K0,L0,e6,e7,W0,X0,m1,j1,U0,S0,R0,Z0,O1⟩:=hF
 replace O1:=O1.ext hE
 dsimp only
 rw [e6,e7,W0,X0]
 dsimp only [i1,y1,n1,U1,N1] at O1
 refine go 0 ?_
 have z4:=((O1.pk 22 [10,11,12,13,14,15,16,17,3,4,0,1])).as (L':=bB 137 235 230 F0 b0++(bB 137 235 230 G0 d0++[(rC p0 #[sO o0 e0.length y0,.pointer none,iN e0.length,iN 0] 238),(o0,wA E64 57 e0 B0),(rC E0 #[sO D0 f0.length K0,.pointer none,iN f0.length,iN 0] 238),(D0,wA E64 57 f0 L0)])) rfl
 exact ⟨_,rfl,F0,G0,b0,d0,a0,e0,f0,p0,o0,y0,B0,E0,D0,K0,L0,rfl,d1,g1,h1,R0,Z0,U0,m1,z4⟩
end Go.Proofs.YtljlkhobfdofhaaGreatDoor.Tp
namespace Go.Proofs.YtljlkhobfdofhaaGreatDoor.Tp
open Go Vc Er Ek Circ Mi
open Co Cm
theorem arr58:UD Tryz.prog 58=some (6,1):=by kernel_rfl
theorem arr61:UD Tryz.prog 61=some (2,1):=by kernel_rfl
theorem call17:rA Tryz.prog 17=true:=by kernel_rfl
theorem call21:rA Tryz.prog 21=true:=by kernel_rfl
theorem BO:xL Tryz.prog 41=true:=by kernel_rfl
theorem GV:QA Tryz.prog 60=true:=by kernel_rfl
theorem one9:QA Tryz.prog 9=true:=by kernel_rfl
theorem siz39:ZB Tryz.prog 39=some 16:=by kernel_rfl
theorem und3:Tryz.prog.underlying 3=some (.int .i64):=by kernel_rfl
theorem und4:Tryz.prog.underlying 4=some .bool:=by kernel_rfl
theorem und59:Tryz.prog.underlying 59=some (.int .u64):=by kernel_rfl
theorem zer58:YB Tryz.prog 58=some (.agg (List.replicate 6 (.string ⟨#[]⟩)).toArray):=by kernel_rfl
def BY (j:Nat):ByteArray:=match j with
 | 0=>{data:=#[114,101,108,117,40,120,41]}
 | 1=>{data:=#[120,32,60,32,121]}
 | 2=>{data:=#[109,97,120,40,120,44,32,121,41]}
 | 3=>{data:=#[114,101,108,117,40,120,32,62,62,32,49,41]}
 | 4=>{data:=#[40,120,32,62,62,32,49,41,32,60,32,121]}
 | _=>{data:=#[109,97,120,40,120,44,32,121,32,62,62,32,50,41]}
def IN (j:Nat):ByteArray:=({data:=#[105,110,112,117,116,32,48,32,120,32,91,93,59,32,105,110,112,117,116,32,49,32,121,32,91,93,59,32,108,101,116,32,122,32,61,32]}++BY j)++{data:=#[59,32,111,117,116,112,117,116,32,122,59]}
theorem yY (j:Nat):IN j=({data:=#[105,110,112,117,116,32,48,32,120,32,91,93,59,32,105,110,112,117,116,32,49,32,121,32,91,93,59,32,108,101,116,32,122,32,61,32]}++BY j)++{data:=#[59,32,111,117,116,112,117,116,32,122,59]}:=rfl
theorem st_at {j:Nat} (h:j<6):(#[.string ({data:=#[114,101,108,117,40,120,41]}),.string ({data:=#[120,32,60,32,121]}),.string ({data:=#[109,97,120,40,120,44,32,121,41]}),.string ({data:=#[114,101,108,117,40,120,32,62,62,32,49,41]}),.string ({data:=#[40,120,32,62,62,32,49,41,32,60,32,121]}),.string ({data:=#[109,97,120,40,120,44,32,121,32,62,62,32,50,41]})]:Array Value)[j]?=some (.string (BY j)):=by
 rcases (show j=0∨j=1∨j=2∨j=3∨j=4∨j=5 by omega) with rfl | rfl | rfl | rfl | rfl | rfl<;>rfl
theorem st_len {j:Nat} (h:j<6):(BY j).size≤20:=by
 rcases (show j=0∨j=1∨j=2∨j=3∨j=4∨j=5 by omega) with rfl | rfl | rfl | rfl | rfl | rfl<;>decide
theorem cat_len {j:Nat} (h:j<6):({data:=#[105,110,112,117,116,32,48,32,120,32,91,93,59,32,105,110,112,117,116,32,49,32,121,32,91,93,59,32,108,101,116,32,122,32,61,32]}++BY j).size+({data:=#[59,32,111,117,116,112,117,116,32,122,59]}:ByteArray).size≤1000000:=by
 rcases (show j=0∨j=1∨j=2∨j=3∨j=4∨j=5 by omega) with rfl | rfl | rfl | rfl | rfl | rfl<;>decide
attribute [local irreducible] BY IN
theorem ones3 {ad:Option Addr} {n c:Nat} {r0 r1 r2 r3 r4 r5 r6 r7 r8 r9 r10 r11 r12:Value} (h:∀ q∈[r0,r1,r2,r3,r4,r5,r6,r7,r8,r9,r10,r11,r12],q.oneCell'=true):∀ u∈(Value.agg #[.slice ad n c,i64 1,i64 1,r0,r1,r2,r3,r4,r5,r6,r7,r8,r9,r10,r11,r12]).cells.toList,u.oneCell'=true:=by
 intro u hu
 have hu:u∈(Value.slice ad n c::i64 1::i64 1::[r0,r1,r2,r3,r4,r5,r6,r7,r8,r9,r10,r11,r12]):=hu
 rcases List.mem_cons.1 hu with rfl | hu
 ·rfl
 rcases List.mem_cons.1 hu with rfl | hu
 ·rfl
 rcases List.mem_cons.1 hu with rfl | hu
 ·rfl
 exact h u hu
theorem RD (p0 p1:List Mo) (j:Nat) (wh:Int) (x y r:BitVec 64) (hj:(BitVec.ofInt 64 wh % 6#64).toInt=((j:Nat):Int)) (hj6:j<6) (hal:∀ w,Gl w→Calls Tryz.prog 7 [].toArray w (tQ fun v w'=>v=.bool true∧Ext w w')) (hc0:∀ w₀ w,Gl w₀→Ext w₀ w→Calls Tryz.prog 11 [.string (IN j),.agg #[.bool false,.bool false,.bool false,i64 (0:Int)]].toArray w (tQ fun v w'=>∃ (ad:Option Addr) (c:Nat) (key:Option Nat) (o:Obj) (r0 r1 r2 r3 r4 r5 r6 r7 r8 r9 r10 r11 r12:Value),v=.tuple #[.agg #[.slice ad p0.length c,i64 1,i64 1,r0,r1,r2,r3,r4,r5,r6,r7,r8,r9,r10,r11,r12],.nilIface]∧(∀ q∈[r0,r1,r2,r3,r4,r5,r6,r7,r8,r9,r10,r11,r12],q.oneCell'=true)∧Hp No w w' [(key,o)]∧∀ w2,Ext w₀ w2→(∀ b,key=some b→w2.heap[b]?=some o)→Rd cH w2 ad p0)) (hg0:Mi.Good p0 1 1) (hl0:p0.length≤400) (ha0:∀ {u0 u1:List (BitVec 64)} {D0 D1:Nat→BitVec 64} {ds:List (BitVec 64)} {s0 s1:Sk},Dealt ds (nA p0) (nB p0) (nO p0) s0 s1→lD p0 (iB Gb.kA p0 [x] [y] u0 u1 D0 D1 (YA p0 s0.t.l s0.b.l) (YA p0 s1.t.l s1.b.l) s0.o.l s1.o.l p0.length).2=[r]) (hc1:∀ w₀ w,Gl w₀→Ext w₀ w→Calls Tryz.prog 11 [.string (IN j),.agg #[.bool false,.bool false,.bool false,i64 (1:Int)]].toArray w (tQ fun v w'=>∃ (ad:Option Addr) (c:Nat) (key:Option Nat) (o:Obj) (r0 r1 r2 r3 r4 r5 r6 r7 r8 r9 r10 r11 r12:Value),v=.tuple #[.agg #[.slice ad p1.length c,i64 1,i64 1,r0,r1,r2,r3,r4,r5,r6,r7,r8,r9,r10,r11,r12],.nilIface]∧(∀ q∈[r0,r1,r2,r3,r4,r5,r6,r7,r8,r9,r10,r11,r12],q.oneCell'=true)∧Hp No w w' [(key,o)]∧∀ w2,Ext w₀ w2→(∀ b,key=some b→w2.heap[b]?=some o)→Rd cH w2 ad p1)) (hg1:Mi.Good p1 1 1) (hl1:p1.length≤400) (ha1:∀ {u0 u1:List (BitVec 64)} {D0 D1:Nat→BitVec 64} {ds:List (BitVec 64)} {s0 s1:Sk},Dealt ds (nA p1) (nB p1) (nO p1) s0 s1→lD p1 (iB Gb.kA p1 [x] [y] u0 u1 D0 D1 (YA p1 s0.t.l s0.b.l) (YA p1 s1.t.l s1.b.l) s0.o.l s1.o.l p1.length).2=[r]) (hn0:uA fG p0 p0.length=0) (hn1:0<uA fG p1 p1.length) (w:World) (hG:Gl w):Ca 5 [u64 x,u64 y,i64 wh] w fun v w'=>v=.bool true∧Ext w w':=by
 let x3:Array Value:=#[iN (nA p1),iN (nB p1),iN (nO p1),iN (nI p1),iN (NM p1),i64 (nR p1),iN (nW0 p1),iN (nW1 p1)]
 let x1:Array Value:=#[iN (nA p0),iN (nB p0),iN (nO p0),iN (nI p0),iN (NM p0),i64 (nR p0),iN (nW0 p0),iN (nW1 p0)]
 obtain ⟨hcA0,hcB0,hcO0,hcT00,hcT10,hcW00,hcW10,hcG0⟩:=KR p0 p0.length
 have d3:nI p0≤uA uG p0 p0.length+2:=by unfold nI dlt; split<;>omega
 have e3:NM p0=uA HG p0 p0.length:=rfl
 have hou0:=gI p0
 have hgu0:=wR hg0
 obtain ⟨hcA1,hcB1,hcO1,hcT01,hcT11,hcW01,hcW11,hcG1⟩:=KR p1 p1.length
 have f3:nI p1≤uA uG p1 p1.length+2:=by unfold nI dlt; split<;>omega
 have g3:NM p1=uA HG p1 p1.length:=rfl
 have hou1:=gI p1
 have hgu1:=wR hg1
 have hst:=st_at hj6
 have hsl:=st_len hj6
 have hcat:=cat_len hj6
 have H:=eA No w
 refine enter (n:=97) Tryz.func5 rfl rfl (vB rfl) ?_
 refine go 1 ?_
 refine cl (hal w gE) ?_
 rintro _ w1 ⟨rfl,B1⟩
 have H3:=H.ext B1
 refine go 1 ?_
 refine sq ((AG (cs':=#[.string ({data:=#[114,101,108,117,40,120,41]}),.string ({data:=#[120,32,60,32,121]}),.string ({data:=#[109,97,120,40,120,44,32,121,41]}),.string ({data:=#[114,101,108,117,40,120,32,62,62,32,49,41]}),.string ({data:=#[40,120,32,62,62,32,49,41,32,60,32,121]}),.string ({data:=#[109,97,120,40,120,44,32,121,32,62,62,32,50,41]})]) (ps:=[(0,.string ({data:=#[114,101,108,117,40,120,41]})),(1,.string ({data:=#[120,32,60,32,121]})),(2,.string ({data:=#[109,97,120,40,120,44,32,121,41]})),(3,.string ({data:=#[114,101,108,117,40,120,32,62,62,32,49,41]})),(4,.string ({data:=#[40,120,32,62,62,32,49,41,32,60,32,121]})),(5,.string ({data:=#[109,97,120,40,120,44,32,121,32,62,62,32,50,41]}))]) vF vF rfl (by rfl)).as (v':=.agg #[.string ({data:=#[114,101,108,117,40,120,41]}),.string ({data:=#[120,32,60,32,121]}),.string ({data:=#[109,97,120,40,120,44,32,121,41]}),.string ({data:=#[114,101,108,117,40,120,32,62,62,32,49,41]}),.string ({data:=#[40,120,32,62,62,32,49,41,32,60,32,121]}),.string ({data:=#[109,97,120,40,120,44,32,121,32,62,62,32,50,41]})]) (by rfl)) ?_
 refine go 1 ?_
 intro b4 w5 h3 H6 i3
 refine go 1 ?_
 intro w8 C1 j3
 refine go 3 ?_
 refine sq ((OJ vF vF (a:=(BitVec.ofInt 64 wh) % (6#64)) rfl).as (v':=iN j) (by exact congrArg i64 hj)) ?_
 refine go 1 ?_
 refine sq (FA (v:=.string (BY j)) vF (C1.get (k:=0) rfl) (off:=j) rfl hst) (sq (r_cat (a:={data:=#[105,110,112,117,116,32,48,32,120,32,91,93,59,32,105,110,112,117,116,32,49,32,121,32,91,93,59,32,108,101,116,32,122,32,61,32]}) (b:=BY j) rfl rfl (by show 36+_≤_; omega)) (sq ((r_cat (a:=({data:=#[105,110,112,117,116,32,48,32,120,32,91,93,59,32,105,110,112,117,116,32,49,32,121,32,91,93,59,32,108,101,116,32,122,32,61,32]})++(BY j)) (b:={data:=#[59,32,111,117,116,112,117,116,32,122,59]}) rfl rfl hcat).as (v':=.string (IN j)) (by exact congrArg Value.string (yY j).symm)) ?_))
 refine go 2 ?_
 intro q0 E1 k3 W0 l3
 refine go 1 ?_
 refine Rv.Lp.out (Rv.Lp.step ?_)
 refine go 1 ?_
 refine sq ((bD rfl rfl).as (v':=.bool true) (by exact bT ((by decide)))) ?_
 refine go 3 ?_
 refine cl (hc0 w E1 hG W0.chg) ?_
 rintro _ m3 ⟨e0,f0,X0,ob20,rv24,rv25,rv26,rv27,rv28,rv29,rv30,rv31,rv32,rv33,rv34,rv35,rv36,rfl,h121,F1,w0⟩
 have n3:=(W0.join F1).a3 rfl
 refine go 4 ?_
 intro Y0 o3 p3 G1 q3
 refine GA (k:=0) (v:=.agg #[.slice e0 p0.length f0,i64 1,i64 1,rv24,rv25,rv26,rv27,rv28,rv29,rv30,rv31,rv32,rv33,rv34,rv35,rv36]) (cs':=#[.slice e0 p0.length f0,i64 1,i64 1,rv24,rv25,rv26,rv27,rv28,rv29,rv30,rv31,rv32,rv33,rv34,rv35,rv36]) G1 rfl rfl rfl vF (by rfl) (by exact ones3 h121) (by exact vB rfl) (by kernel_rfl) fun H1 I1 t3=>?_
 have G0:=I1.a4 rfl
 refine go 6 ?_
 refine ZO (oA (d':=42) (b:=false) rfl rfl rfl) (cA (vs:=[.slice e0 p0.length f0]) vF rfl) (GO p0 e0 f0 H1 gE (w0 _ G0.chg (fun b hb=>G0.has _ (List.mem_of_getElem? (i:=1) rfl) b hb)) om) ?_
 rintro _ x0 ⟨rfl,J1⟩
 have H0:=G0.ext J1
 refine ZA (v:=.bool false) (w':=x0) (oA (d':=42) (b:=false) rfl rfl rfl) ((iE rfl rfl).as (v':=.bool false) (by exact bF (om))) ?_
 refine go 1 ?_
 refine ZA (v:=.bool false) (w':=x0) (oA (d':=42) (b:=false) rfl rfl rfl) ((RB rfl rfl).as (v':=.bool false) (by exact bF ((by decide)))) (ZA (v:=.bool false) (w':=x0) (oA (d':=42) (b:=false) rfl rfl rfl) (gV vF (a:=false) (b:=false) rfl rfl) ?_)
 refine go 7 ?_
 refine cl (jM p0 e0 f0 (x^^^(y <<< (7:Nat))) x0 gE hgu0 hl0 (w0 _ H0.chg (fun b hb=>H0.has _ (List.mem_of_getElem? (i:=1) rfl) b hb))) ?_
 rintro _ u3 ⟨y0,z0,a0,b0,w3,h0,i0,I0,K1,L1,M1,J0,N1,O1,P1,rfl,Q1,R1,n0,y3,z3,S1,T1,U1⟩
 have A3:=(H0.join U1).a16 rfl
 refine go 5 ?_
 intro Z0 B3 C3 D3 E3
 refine go 1 ?_
 intro c1 F3 G3 I3 J3
 refine go 1 ?_
 intro d1 K3 L3 M3 N3
 refine go 1 ?_
 intro O3 P3 Q3
 refine go 1 ?_
 intro R3 S3 T3
 refine go 1 ?_
 intro U3 V3 W3
 refine go 5 ?_
 refine bS (E:=E64) (l:=[x]) fun K0 X3 V1 Y3 Z3=>?_
 refine go 1 ?_
 refine bS (E:=E64) (l:=[y]) fun L0 W1 Y1 Z1 c4=>?_
 refine go 3 ?_
 have c2:=((Z1.pk 21 [13,14,15,16,5,6,7,8,9,10,11,12,0,1,2,3,4,17,18,19,20])).as (L':=(_::_::_::_::(bB 137 235 230 y0 a0++(bB 137 235 230 z0 b0++[((some L0),wA E64 57 ([y]) ([])),((some K0),wA E64 57 ([x]) ([])),(rC d1 x1 35),(rC c1 #[pT I0,pT J0] 66),(rC Z0 #[pT y0,pT z0] 64),(rC Y0 #[.slice e0 p0.length f0,i64 1,i64 1,rv24,rv25,rv26,rv27,rv28,rv29,rv30,rv31,rv32,rv33,rv34,rv35,rv36] 39),(X0,ob20),(rC q0 #[RA,RA] 61),(rC b4 #[.string ({data:=#[114,101,108,117,40,120,41]}),.string ({data:=#[120,32,60,32,121]}),.string ({data:=#[109,97,120,40,120,44,32,121,41]}),.string ({data:=#[114,101,108,117,40,120,32,62,62,32,49,41]}),.string ({data:=#[40,120,32,62,62,32,49,41,32,60,32,121]}),.string ({data:=#[109,97,120,40,120,44,32,121,32,62,62,32,50,41]})] 58)])))) rfl
 refine cl (Ms.LU p0 e0 f0 [x] [y] (CA (some K0)) (CA (some L0)) 1 1 I0 K1 L1 M1 h0 S1 om J0 N1 O1 P1 i0 T1 om y0 z0 a0 b0 Q1 R1 [((some L0),wA E64 57 ([y]) ([])),((some K0),wA E64 57 ([x]) ([])),(rC d1 x1 35),(rC c1 #[pT I0,pT J0] 66),(rC Z0 #[pT y0,pT z0] 64),(rC Y0 #[.slice e0 p0.length f0,i64 1,i64 1,rv24,rv25,rv26,rv27,rv28,rv29,rv30,rv31,rv32,rv33,rv34,rv35,rv36] 39),(X0,ob20),(rC q0 #[RA,RA] 61),(rC b4 #[.string ({data:=#[114,101,108,117,40,120,41]}),.string ({data:=#[120,32,60,32,121]}),.string ({data:=#[109,97,120,40,120,44,32,121,41]}),.string ({data:=#[114,101,108,117,40,120,32,62,62,32,49,41]}),.string ({data:=#[40,120,32,62,62,32,49,41,32,60,32,121]}),.string ({data:=#[109,97,120,40,120,44,32,121,32,62,62,32,50,41]})] 58)] w W1 hG hg0 (by rw [t0_of]; omega) (wC n0).1.1 (wC n0).1.2.1 (wC n0).1.2.2 (by rw [t1_of]; omega) (wC n0).2.1 (wC n0).2.2.1 (wC n0).2.2.2 (fun w2 hE hR=>w0 w2 hE fun b hb=>hR _ (List.mem_of_getElem? (i:=6) rfl) b hb) (fun _ _ hR=>BM (T:=57) V1 (List.mem_of_getElem? (i:=1) rfl) hR) (fun _ _ hR=>BM (T:=57) Y1 (List.mem_of_getElem? (i:=0) rfl) hR) c2) ?_
 rintro _ d4 ⟨f4,g4,h4,d2,e2,i4,j4,k4,rfl,f2,g2,_,_,_,_,_,_,_,_,e1⟩
 have M0:lD p0 (iB Gb.kA p0 [x] [y] h0 i0 (SB p0 ((0:Nat):Int) (gB 0) h0 (eB 0 p0)) (SB p0 ((1:Nat):Int) (gB 1) i0 (eB 1 p0)) (YA p0 a0.t.l a0.b.l) (YA p0 b0.t.l b0.b.l) a0.o.l b0.o.l p0.length).2=[r]:=ha0 n0
 have hL123:(iB Gb.kA p0 [x] [y] h0 i0 (SB p0 ((0:Nat):Int) (gB 0) h0 (eB 0 p0)) (SB p0 ((1:Nat):Int) (gB 1) i0 (eB 1 p0)) (YA p0 a0.t.l a0.b.l) (YA p0 b0.t.l b0.b.l) a0.o.l b0.o.l p0.length).1.length=p0.length∧(iB Gb.kA p0 [x] [y] h0 i0 (SB p0 ((0:Nat):Int) (gB 0) h0 (eB 0 p0)) (SB p0 ((1:Nat):Int) (gB 1) i0 (eB 1 p0)) (YA p0 a0.t.l a0.b.l) (YA p0 b0.t.l b0.b.l) a0.o.l b0.o.l p0.length).2.length=p0.length:=vG ..
 generalize iB Gb.kA p0 [x] [y] h0 i0 (SB p0 ((0:Nat):Int) (gB 0) h0 (eB 0 p0)) (SB p0 ((1:Nat):Int) (gB 1) i0 (eB 1 p0)) (YA p0 a0.t.l a0.b.l) (YA p0 b0.t.l b0.b.l) a0.o.l b0.o.l p0.length=A0 at f2 g2 e1 M0 hL123
 have h2:=e1.as (L':=[_,_,_,_,_,_,_,_,_,_,_,_,_,_,_,_,_,_,_,_,_,_,_]) rfl
 have l4:=((((((((((((h2.dropk 13).dropk 12).dropk 11).dropk 10).dropk 9).dropk 8).dropk 7).dropk 6).dropk 5).dropk 4).dropk 3).dropk 2)
 refine go 4 ?_
 intro m4 n4 o4 p4 q4
 refine go 1 ?_
 intro i2 N0 s4
 refine go 8 ?_
 refine cl (Mi.IK p0 e0 f0 A0.2 (CA d2) e2 p0.length p0.length rfl (by exact hL123.2.symm) i2 gE (w0 _ N0.chg (fun b hb=>N0.has _ (List.mem_of_getElem? (i:=9) rfl) b hb)) om VD (by exact hL123.2) hgu0) ?_
 rintro _ t4 ⟨g1,u4,h1,i1,rfl,w4,j1,j2⟩
 let x2:Value:=.slice i1 (OA p0) (OA p0)
 have x4:=(N0.join j2).a13 rfl
 have ho142:OA p0=1:=by rw [← PL p0 A0.2,M0]; rfl
 rw [M0] at j1
 refine go 2 ?_
 intro k2 l2 y4
 refine go 1 ?_
 refine sq ((iC rfl rfl (by decide)).as (v':=i64 1) (by rfl)) ?_
 refine go 1 ?_
 have k1:=((l2.pk 13 [11,0])).a2 rfl
 refine Rv.Lp.step ?_
 refine go 1 ?_
 refine sq ((bD rfl rfl).as (v':=.bool true) (by exact bT ((by decide)))) ?_
 refine go 3 ?_
 refine cl (hc1 w k2 hG k1.chg) ?_
 rintro _ z4 ⟨j0,k0,l1,ob152,rv156,rv157,rv158,rv159,rv160,rv161,rv162,rv163,rv164,rv165,rv166,rv167,rv168,rfl,h1153,m2,B0⟩
 have A4:=(k1.join m2).a3 rfl
 refine go 4 ?_
 intro m1 B4 C4 n2 D4
 refine GA (k:=0) (v:=.agg #[.slice j0 p1.length k0,i64 1,i64 1,rv156,rv157,rv158,rv159,rv160,rv161,rv162,rv163,rv164,rv165,rv166,rv167,rv168]) (cs':=#[.slice j0 p1.length k0,i64 1,i64 1,rv156,rv157,rv158,rv159,rv160,rv161,rv162,rv163,rv164,rv165,rv166,rv167,rv168]) n2 rfl rfl rfl vF (by rfl) (by exact ones3 h1153) (by exact vB rfl) (by kernel_rfl) fun o2 p2 F4=>?_
 have O0:=p2.a4 rfl
 refine go 6 ?_
 refine ZO (oA (d':=42) (b:=false) rfl rfl rfl) (cA (vs:=[.slice j0 p1.length k0]) vF rfl) (GO p1 j0 k0 o2 gE (B0 _ O0.chg (fun b hb=>O0.has _ (List.mem_of_getElem? (i:=1) rfl) b hb)) om) ?_
 rintro _ C0 ⟨rfl,q2⟩
 have P0:=O0.ext q2
 refine ZA (v:=.bool true) (w':=C0) (oA (d':=42) (b:=false) rfl rfl rfl) ((iE rfl rfl).as (v':=.bool true) (by exact bT (om))) ?_
 refine go 1 ?_
 refine ZA (v:=.bool true) (w':=C0) (oA (d':=42) (b:=false) rfl rfl rfl) ((RB rfl rfl).as (v':=.bool true) (by exact bT ((by decide)))) (ZA (v:=.bool false) (w':=C0) (oA (d':=42) (b:=false) rfl rfl rfl) (gV vF (a:=true) (b:=true) rfl rfl) ?_)
 refine go 7 ?_
 refine cl (jM p1 j0 k0 (x^^^(y <<< (7:Nat))) C0 gE hgu1 hl1 (B0 _ P0.chg (fun b hb=>P0.has _ (List.mem_of_getElem? (i:=1) rfl) b hb))) ?_
 rintro _ G4 ⟨E0,F0,c0,d0,H4,l0,m0,Q0,t2,u2,y2,R0,z2,A2,C2,rfl,D2,E2,o0,I4,J4,F2,G2,H2⟩
 have K4:=(P0.join H2).a16 rfl
 refine go 5 ?_
 intro n1 L4 M4 N4 O4
 refine go 1 ?_
 intro o1 Q4 R4 S4 U4
 refine go 1 ?_
 intro q1 V4 W4 X4 Y4
 refine go 1 ?_
 intro Z4 c5 d5
 refine go 1 ?_
 intro e5 f5 g5
 refine go 1 ?_
 intro h5 i5 j5
 refine go 5 ?_
 refine bS (E:=E64) (l:=[x]) fun S0 k5 I2 l5 m5=>?_
 refine go 1 ?_
 refine bS (E:=E64) (l:=[y]) fun T0 J2 K2 L2 n5=>?_
 refine go 3 ?_
 have M2:=((L2.pk 21 [13,14,15,16,5,6,7,8,9,10,11,12,0,1,2,3,4,17,18,19,20])).as (L':=(_::_::_::_::(bB 137 235 230 E0 c0++(bB 137 235 230 F0 d0++[((some T0),wA E64 57 ([y]) ([])),((some S0),wA E64 57 ([x]) ([])),(rC q1 x3 35),(rC o1 #[pT Q0,pT R0] 66),(rC n1 #[pT E0,pT F0] 64),(rC m1 #[.slice j0 p1.length k0,i64 1,i64 1,rv156,rv157,rv158,rv159,rv160,rv161,rv162,rv163,rv164,rv165,rv166,rv167,rv168] 39),(l1,ob152),(rC q0 #[x2,RA] 61),(g1,wA E64 57 (QJ p0 A0.2 p0.length) h1)])))) rfl
 refine cl (Ms.LU p1 j0 k0 [x] [y] (CA (some S0)) (CA (some T0)) 1 1 Q0 t2 u2 y2 l0 F2 om R0 z2 A2 C2 m0 G2 om E0 F0 c0 d0 D2 E2 [((some T0),wA E64 57 ([y]) ([])),((some S0),wA E64 57 ([x]) ([])),(rC q1 x3 35),(rC o1 #[pT Q0,pT R0] 66),(rC n1 #[pT E0,pT F0] 64),(rC m1 #[.slice j0 p1.length k0,i64 1,i64 1,rv156,rv157,rv158,rv159,rv160,rv161,rv162,rv163,rv164,rv165,rv166,rv167,rv168] 39),(l1,ob152),(rC q0 #[x2,RA] 61),(g1,wA E64 57 (QJ p0 A0.2 p0.length) h1)] w J2 hG hg1 (by rw [t0_of]; omega) (wC o0).1.1 (wC o0).1.2.1 (wC o0).1.2.2 (by rw [t1_of]; omega) (wC o0).2.1 (wC o0).2.2.1 (wC o0).2.2.2 (fun w2 hE hR=>B0 w2 hE fun b hb=>hR _ (List.mem_of_getElem? (i:=6) rfl) b hb) (fun _ _ hR=>BM (T:=57) I2 (List.mem_of_getElem? (i:=1) rfl) hR) (fun _ _ hR=>BM (T:=57) K2 (List.mem_of_getElem? (i:=0) rfl) hR) M2) ?_
 rintro _ o5 ⟨p5,q5,s5,N2,O2,t5,u5,x5,rfl,P2,Q2,_,_,_,_,_,_,_,_,t1⟩
 have U0:lD p1 (iB Gb.kA p1 [x] [y] l0 m0 (SB p1 ((0:Nat):Int) (gB 0) l0 (eB 0 p1)) (SB p1 ((1:Nat):Int) (gB 1) m0 (eB 1 p1)) (YA p1 c0.t.l c0.b.l) (YA p1 d0.t.l d0.b.l) c0.o.l d0.o.l p1.length).2=[r]:=ha1 o0
 have hL255:(iB Gb.kA p1 [x] [y] l0 m0 (SB p1 ((0:Nat):Int) (gB 0) l0 (eB 0 p1)) (SB p1 ((1:Nat):Int) (gB 1) m0 (eB 1 p1)) (YA p1 c0.t.l c0.b.l) (YA p1 d0.t.l d0.b.l) c0.o.l d0.o.l p1.length).1.length=p1.length∧(iB Gb.kA p1 [x] [y] l0 m0 (SB p1 ((0:Nat):Int) (gB 0) l0 (eB 0 p1)) (SB p1 ((1:Nat):Int) (gB 1) m0 (eB 1 p1)) (YA p1 c0.t.l c0.b.l) (YA p1 d0.t.l d0.b.l) c0.o.l d0.o.l p1.length).2.length=p1.length:=vG ..
 generalize iB Gb.kA p1 [x] [y] l0 m0 (SB p1 ((0:Nat):Int) (gB 0) l0 (eB 0 p1)) (SB p1 ((1:Nat):Int) (gB 1) m0 (eB 1 p1)) (YA p1 c0.t.l c0.b.l) (YA p1 d0.t.l d0.b.l) c0.o.l d0.o.l p1.length=y1 at P2 Q2 t1 U0 hL255
 have R2:=t1.as (L':=[_,_,_,_,_,_,_,_,_,_,_,_,_,_,_,_,_,_,_,_,_,_,_]) rfl
 have y5:=((((((((((((R2.dropk 13).dropk 12).dropk 11).dropk 10).dropk 9).dropk 8).dropk 7).dropk 6).dropk 5).dropk 4).dropk 3).dropk 2)
 refine go 4 ?_
 intro z5 A5 B5 C5 D5
 refine go 1 ?_
 intro S2 V0 E5
 refine go 8 ?_
 refine cl (Mi.IK p1 j0 k0 y1.2 (CA N2) O2 p1.length p1.length rfl (by exact hL255.2.symm) S2 gE (B0 _ V0.chg (fun b hb=>V0.has _ (List.mem_of_getElem? (i:=9) rfl) b hb)) om VD (by exact hL255.2) hgu1) ?_
 rintro _ F5 ⟨G5,H5,I5,z1,rfl,J5,A1,T2⟩
 have K5:=(V0.join T2).a13 rfl
 have ho274:OA p1=1:=by rw [← PL p1 y1.2,U0]; rfl
 rw [U0] at A1
 refine go 2 ?_
 intro U2 V2 L5
 refine go 1 ?_
 refine sq ((iC rfl rfl (by decide)).as (v':=i64 2) (by rfl)) ?_
 refine go 1 ?_
 have Y2:=((V2.pk 13 [11,0,12])).a3 rfl
 refine Rv.Lp.step ?_
 refine go 1 ?_
 refine sq ((bD rfl rfl).as (v':=.bool false) (by exact bF ((by decide)))) ?_
 refine go 3 ?_
 refine sq ((RB rfl rfl).as (v':=.bool true) (by exact bT ((by rw [ho142]; rfl)))) ?_
 refine go 5 ?_
 refine ZO (oA (d':=90) (b:=true) rfl rfl rfl) (cA (vs:=[x2,.slice z1 (OA p1) (OA p1)]) vF rfl) (XT [r] i1 z1 (OA p0) (OA p1) (OA p0) (OA p1) (by exact ho142) (by exact ho274) U2 (j1 _ VD) (A1 _ VD) (vB rfl)) ?_
 rintro _ M5 ⟨rfl,Z2⟩
 have c3:=Y2.ext Z2
 refine go 2 ?_
 exact ⟨_,rfl,rfl,c3.chg⟩
end Go.Proofs.YtljlkhobfdofhaaGreatDoor.Tp
