/- What the claim has need of: Cm3, Cm4, Cm5, Cm6. -/
import Derived.Test.YtljlkhobfdofhaaGreatDoorWv10
set_option linter.unusedVariables false
set_option maxHeartbeats 16000000
set_option maxRecDepth 20000
namespace Go.Proofs.YtljlkhobfdofhaaGreatDoor.Cm
open Go Vc Er Circ
theorem PM (b n:Nat) (key:Option Nat) (c:Nat) (sp:LV) (gs:List Gt) (hSw:Sl EG key gs c sp) (hn:n≤1000) (hlen:gs.length≤3000) (ra rb:List Int) (hra:ra.length=64) (hrb:rb.length=64) (R:List RW) (w₀ w:World) (H:Hp No w₀ w ((rC b #[iN n,sO key (List.length gs) c,RA] 334)::(key,wA EG 345 gs sp)::R)):Ca 154 [pT b,.agg (xA EI ra).toArray,.agg (xA EI rb).toArray] w fun v w'=>v=.agg (xA EI ((oB n gs ra rb 63).2.1)).toArray∧∃ (key':Option Nat) (c':Nat) (sp':LV),Sl EG key' ((oB n gs ra rb 63).1) c' sp'∧Hp No w₀ w' ((rC b #[iN n,sO key' (List.length ((oB n gs ra rb 63).1)) c',RA] 334)::(key',wA EG 345 ((oB n gs ra rb 63).1) sp')::R):=by
 skip
 refine enter (n:=52) Tryz.func154 rfl rfl (vB rfl) ?_
 refine go 1 ?_
 intro b1 w2 m2 H3 n2
 refine go 1 ?_
 intro b5 w6 o2 H7 p2
 refine go 1 ?_
 intro b9 q2 r2 t2 u2
 refine go 1 ?_
 intro e0 Y0 x2 Z0 y2
 refine go 5 ?_
 have c1:=((Z0.pk 6 [4,5,0,1,2,3])).b2 rfl
 refine cl (VB b n key c sp gs hSw hn om (1:Int) (ra.getD 0 0) (rb.getD 0 0) ((rX e0 EI (List.replicate 64 0) 336)::(rX b9 EI (List.replicate 64 0) 336)::(rX b5 EI rb 336)::(rX b1 EI ra 336)::R) w₀ Y0 c1) ?_
 rintro wv26 z2 ⟨hwv27,d1,e1,g1,h1,i1⟩
 obtain ⟨j1,H0⟩:∃ q,q=qB n gs:=⟨_,rfl⟩
 rw [← H0] at hwv27
 subst hwv27
 have A2:=i1.b6 rfl
 refine go 2 ?_
 intro k1 l1 C2
 refine go 5 ?_
 have m1:=l1.b2 rfl
 refine cl (VB b n d1 e1 g1 (gs++[(⟨(1:Int),ra.getD 0 0,rb.getD 0 0⟩:Gt)]) h1 hn (by simp only [List.length_append,List.length_cons,List.length_nil]; omega) (2:Int) (ra.getD 0 0) (rb.getD 0 0) ((rX e0 EI ((List.replicate 64 0).set 0 j1) 336)::(rX b9 EI (List.replicate 64 0) 336)::(rX b5 EI rb 336)::(rX b1 EI ra 336)::R) w₀ k1 m1) ?_
 rintro wv41 D2 ⟨hwv42,n1,o1,p1,q1,r1⟩
 obtain ⟨E2,I0⟩:∃ q,q=qB n (gs++[(⟨(1:Int),ra.getD 0 0,rb.getD 0 0⟩:Gt)]):=⟨_,rfl⟩
 rw [← I0] at hwv42
 subst hwv42
 have J0:=r1.b6 rfl
 refine go 1 ?_
 subst I0
 subst H0
 rw [yV] at J0
 have t1:=J0.b6 rfl
 have u1:=t1.b6 rfl
 refine go 1 ?_
 refine DA (σ:=Nat × Option Nat × Nat × LV) (fun (i,kz,cz,sz)=>[(0,pT b),(4,pT b1),(5,pT b5),(6,pT b9),(7,pT e0),(8,i64 ((oB n gs ra rb i).2.2)),(9,iN (i+1))]) (fun (i,kz,cz,sz) w'=>(i≤63∧Sl EG kz ((oB n gs ra rb i).1) cz sz)∧Hp No w₀ w' ((rC b #[iN n,sO kz (List.length ((oB n gs ra rb i).1)) cz,RA] 334)::(kz,wA EG 345 ((oB n gs ra rb i).1) sz)::(rX e0 EI (vC ((oB n gs ra rb i).2.1)) 336)::(rX b1 EI ra 336)::(rX b5 EI rb 336)::(rX b9 EI (List.replicate 64 0) 336)::R)) (fun (i,kz,cz,sz)=>63-i) ((0,n1,o1,p1)) ?_ ?_ ?_
 ·exact kp
 ·exact ⟨⟨om,q1⟩,(u1.pk 6 [0,1,2,5,4,3])⟩
 rintro ⟨i,kz,cz,sz⟩ ρ F2 ⟨⟨hq,hSz⟩,HL⟩
 have hal:=bH n gs ra rb i
 have hpl:(vC (oB n gs ra rb i).2.1).length=64:=wF (by rw [hal.2]; omega)
 refine go 2 ?_
 refine lA ((((i+1):Nat):Int)<(64:Int)) rfl (fun w1=>?_) (fun w1=>?_)
 ·refine go 0 ?_
  let i0:List RW:=((rX b1 EI ra 336)::(rX b5 EI rb 336)::(rX b9 EI (List.replicate 64 0) 336)::R)
  let y0:=fun (b0:Option Nat) (a0:Int) (d0:LV)=>((b0,wA EG 345 (((oB n gs ra rb i).1)++[(⟨(1:Int),ra.getD (i+1) 0,rb.getD (i+1) 0⟩:Gt)]++[(⟨(1:Int),a0,(oB n gs ra rb i).2.2⟩:Gt)]) d0):RW)
  let z0:=fun (b0:Option Nat) (a0:Int) (c0:Nat)=>((rC b #[iN n,sO b0 (List.length (((oB n gs ra rb i).1)++[(⟨(1:Int),ra.getD (i+1) 0,rb.getD (i+1) 0⟩:Gt)]++[(⟨(1:Int),a0,(oB n gs ra rb i).2.2⟩:Gt)])) c0,RA] 334):RW)
  let A0:=((rX e0 EI (vC ((oB n gs ra rb i).2.1)) 336):RW)
  let B0:=fun (b0:Option Nat) (a0:Int) (c0:Nat) (d0:LV)=>(Sl EG b0 (((oB n gs ra rb i).1)++[(⟨(1:Int),ra.getD (i+1) 0,rb.getD (i+1) 0⟩:Gt)]++[(⟨(1:Int),a0,(oB n gs ra rb i).2.2⟩:Gt)]) c0 d0:Prop)
  let y1:PD:=[IC false false false fun _ _ _ w'=>Hp No w₀ w' ((rC b #[iN n,sO kz (List.length ((oB n gs ra rb i).1)) cz,RA] 334)::(kz,wA EG 345 ((oB n gs ra rb i).1) sz)::A0::i0),IC true false false fun v9 _ _ w'=>∃ j0 n0 o0 a0,v9=i64 a0∧Sl EG j0 (((oB n gs ra rb i).1)++[(⟨(1:Int),ra.getD (i+1) 0,rb.getD (i+1) 0⟩:Gt)]) n0 o0∧a0=qB n ((oB n gs ra rb i).1)∧Hp No w₀ w' ((rC b #[iN n,sO j0 (List.length (((oB n gs ra rb i).1)++[(⟨(1:Int),ra.getD (i+1) 0,rb.getD (i+1) 0⟩:Gt)])) n0,RA] 334)::(j0,wA EG 345 (((oB n gs ra rb i).1)++[(⟨(1:Int),ra.getD (i+1) 0,rb.getD (i+1) 0⟩:Gt)]) o0)::A0::i0),IC true true false fun v9 v11 _ w'=>∃ a0 b0 c0 d0 f0,v9=i64 a0∧v11=i64 f0∧(B0 b0 a0 c0 d0)∧a0=qB n ((oB n gs ra rb i).1)∧f0=qB n (((oB n gs ra rb i).1)++[(⟨(1:Int),ra.getD (i+1) 0,rb.getD (i+1) 0⟩:Gt)])∧Hp No w₀ w' ((z0 b0 a0 c0)::(y0 b0 a0 d0)::A0::i0),IC true true true fun v9 v11 _ w'=>∃ a0 b0 c0 d0 f0,v9=i64 a0∧v11=i64 f0∧(B0 b0 a0 c0 d0)∧a0=qB n ((oB n gs ra rb i).1)∧f0=qB n (((oB n gs ra rb i).1)++[(⟨(1:Int),ra.getD (i+1) 0,rb.getD (i+1) 0⟩:Gt)])∧Hp No w₀ w' ((z0 b0 a0 c0)::(y0 b0 a0 d0)::(rX e0 EI ((vC ((oB n gs ra rb i).2.1)).set (i+1) f0) 336)::i0)]
  refine mB (m:=14) [0,0,0,0,8,24,0,64,192,508,0,2046,4095,8191] [9,11,13] i0 y1 JA (fun _ e=>HL.ext e) zE (fun C0=>?_)
  refine gk 9 ?_
  refine WalkT.eff C0 0 ?_ ?_
  ·refine tA fun r w0 uw hF hE=>?_
   have z1:=hF.ext hE
   refine gW fun Q' hK=>?_
   have A1:=z1.b2 rfl
   refine cl (VB b n kz cz sz ((oB n gs ra rb i).1) hSz hn om (1:Int) (ra.getD (i+1) 0) (rb.getD (i+1) 0) ((rX e0 EI (vC ((oB n gs ra rb i).2.1)) 336)::(rX b1 EI ra 336)::(rX b5 EI rb 336)::(rX b9 EI (List.replicate 64 0) 336)::R) w₀ uw A1) ?_
   rintro wv125 G2 ⟨hwv126,B1,C1,D1,E1,F1⟩
   obtain ⟨G1,K0⟩:∃ q,q=qB n ((oB n gs ra rb i).1):=⟨_,rfl⟩
   rw [← K0] at hwv126
   subst hwv126
   have H1:=F1.b6 rfl
   exact hK _ _ (E_ B1 (E_ C1 (E_ D1 (E_ G1 (A_ rfl (A_ E1 (A_ K0 H1)))))))
  refine gk 1 ?_
  refine WalkT.eff C0 1 ?_ ?_
  ·refine tA fun r w0 uw hF hE=>?_
   obtain ⟨j0,n0,o0,a0,e9,I1,k0,D0⟩:=hF
   replace D0:=D0.ext hE
   dsimp only
   rw [e9]
   refine gW fun Q' hK=>?_
   have J1:=D0.b2 rfl
   refine cl (VB b n j0 n0 o0 (((oB n gs ra rb i).1)++[(⟨(1:Int),ra.getD (i+1) 0,rb.getD (i+1) 0⟩:Gt)]) I1 hn (by simp only [List.length_append,List.length_cons,List.length_nil]; omega) (1:Int) a0 ((oB n gs ra rb i).2.2) ((rX e0 EI (vC ((oB n gs ra rb i).2.1)) 336)::(rX b1 EI ra 336)::(rX b5 EI rb 336)::(rX b9 EI (List.replicate 64 0) 336)::R) w₀ uw J1) ?_
   rintro wv138 H2 ⟨hwv139,K1,L1,M1,N1,O1⟩
   obtain ⟨P1,L0⟩:∃ q,q=qB n (((oB n gs ra rb i).1)++[(⟨(1:Int),ra.getD (i+1) 0,rb.getD (i+1) 0⟩:Gt)]):=⟨_,rfl⟩
   rw [← L0] at hwv139
   subst hwv139
   have Q1:=O1.b6 rfl
   exact hK _ _ (E_ a0 (E_ K1 (E_ L1 (E_ M1 (E_ P1 (A_ e9 (A_ rfl (A_ N1 (A_ k0 (A_ L0 Q1))))))))))
  refine gk 1 ?_
  refine WalkT.eff C0 2 ?_ ?_
  ·refine tA fun r w0 uw hF hE=>?_
   obtain ⟨a0,b0,c0,d0,f0,e9,p0,q0,k0,E0,M0⟩:=hF
   replace M0:=M0.ext hE
   dsimp only
   rw [p0]
   refine PE fun Q' hK=>?_
   refine go 1 ?_
   intro I2 R1 J2
   exact hK _ (fun _=>(E_ a0 (E_ b0 (E_ c0 (E_ d0 (E_ f0 (A_ e9 (A_ p0 (A_ q0 (A_ k0 (A_ E0 R1)))))))))))
  refine WalkT.nil fun r w0 N0 hF hE=>?_
  obtain ⟨a0,b0,c0,d0,f0,e9,p0,q0,k0,E0,r0⟩:=hF
  let x1:RW:=(b0,wA EG 345 (kK n ((oB n gs ra rb i).1) (ra.getD (i+1) 0) (rb.getD (i+1) 0) (oB n gs ra rb i).2.2) d0)
  replace r0:=r0.ext hE
  dsimp only
  rw [e9,p0]
  dsimp only [B0] at q0
  dsimp only [i0,z0,y0] at r0
  subst E0
  subst k0
  have O0:((oB n gs ra rb i).1)++[(⟨(1:Int),ra.getD (i+1) 0,rb.getD (i+1) 0⟩:Gt)]++[(⟨(1:Int),(qB n ((oB n gs ra rb i).1)),(oB n gs ra rb i).2.2⟩:Gt)]=kK n ((oB n gs ra rb i).1) (ra.getD (i+1) 0) (rb.getD (i+1) 0) (oB n gs ra rb i).2.2:=by rfl
  have F0:=q0
  rw [O0] at F0
  have P0:Hp No w₀ N0 ((rC b #[iN n,sO b0 (List.length (kK n ((oB n gs ra rb i).1) (ra.getD (i+1) 0) (rb.getD (i+1) 0) (oB n gs ra rb i).2.2)) c0,RA] 334)::x1::(rX e0 EI ((vC ((oB n gs ra rb i).2.1)).set (i+1) (qB n (((oB n gs ra rb i).1)++[(⟨(1:Int),ra.getD (i+1) 0,rb.getD (i+1) 0⟩:Gt)]))) 336)::(rX b1 EI ra 336)::(rX b5 EI rb 336)::(rX b9 EI (List.replicate 64 0) 336)::R):=by rw [← O0]; exact r0
  rw [sE (l:=(oB n gs ra rb i).2.1) _ hal.2 om] at P0
  have Q0:=P0.b6 rfl
  refine go 2 ?_
  refine lA ((((i+1):Nat):Int)<(63:Int)) rfl (fun S1=>?_) (fun S1=>?_)
  ·let u0:List RW:=((rX e0 EI (vC ((oB n gs ra rb i).2.1++[qB n ((oB n gs ra rb i).1++[(⟨1,ra.getD (i+1) 0,rb.getD (i+1) 0⟩:Gt)])])) 336)::(rX b1 EI ra 336)::(rX b5 EI rb 336)::(rX b9 EI (List.replicate 64 0) 336)::R)
   let T1:PD:=[wL false fun _ w'=>Hp No w₀ w' ((rC b #[iN n,sO b0 (List.length (kK n ((oB n gs ra rb i).1) (ra.getD (i+1) 0) (rb.getD (i+1) 0) (oB n gs ra rb i).2.2)) c0,RA] 334)::x1::u0),wL true fun v8 w'=>∃ h0 l0 m0 G0,v8=i64 G0∧Sl EG h0 (JH n (kK n ((oB n gs ra rb i).1) (ra.getD (i+1) 0) (rb.getD (i+1) 0) (oB n gs ra rb i).2.2) (ra.getD (i+1) 0) (rb.getD (i+1) 0) ((oB n gs ra rb i).2.2)) l0 m0∧G0=YO n (kK n ((oB n gs ra rb i).1) (ra.getD (i+1) 0) (rb.getD (i+1) 0) (oB n gs ra rb i).2.2)∧Hp No w₀ w' ((rC b #[iN n,sO h0 (List.length (JH n (kK n ((oB n gs ra rb i).1) (ra.getD (i+1) 0) (rb.getD (i+1) 0) (oB n gs ra rb i).2.2) (ra.getD (i+1) 0) (rb.getD (i+1) 0) ((oB n gs ra rb i).2.2))) l0,RA] 334)::(h0,wA EG 345 (JH n (kK n ((oB n gs ra rb i).1) (ra.getD (i+1) 0) (rb.getD (i+1) 0) (oB n gs ra rb i).2.2) (ra.getD (i+1) 0) (rb.getD (i+1) 0) ((oB n gs ra rb i).2.2)) m0)::u0)]
   refine mB (m:=10) [0,0,2,6,0,16,48,0,255,511] [8] u0 T1 JA (fun _ e=>Q0.ext e) zE (fun U1=>?_)
   refine gk 8 ?_
   refine WalkT.eff U1 0 ?_ ?_
   ·refine tA fun r w0 uw hF hE=>?_
    have V1:=hF.ext hE
    refine gW fun Q' hK=>?_
    have W1:=V1.as (L':=(_::_::((rX e0 EI (vC ((oB n gs ra rb i).2.1++[qB n ((oB n gs ra rb i).1++[(⟨1,ra.getD (i+1) 0,rb.getD (i+1) 0⟩:Gt)])])) 336)::(rX b1 EI ra 336)::(rX b5 EI rb 336)::(rX b9 EI (List.replicate 64 0) 336)::R))) rfl
    refine cl (mL b n b0 c0 d0 (kK n ((oB n gs ra rb i).1) (ra.getD (i+1) 0) (rb.getD (i+1) 0) (oB n gs ra rb i).2.2) F0 hn (by simp only [vN]; omega) (ra.getD (i+1) 0) (rb.getD (i+1) 0) ((oB n gs ra rb i).2.2) ((rX e0 EI (vC ((oB n gs ra rb i).2.1++[qB n ((oB n gs ra rb i).1++[(⟨1,ra.getD (i+1) 0,rb.getD (i+1) 0⟩:Gt)])])) 336)::(rX b1 EI ra 336)::(rX b5 EI rb 336)::(rX b9 EI (List.replicate 64 0) 336)::R) w₀ uw W1) ?_
    rintro wv190 K2 ⟨hwv191,Y1,Z1,c2,d2,e2⟩
    obtain ⟨f2,R0⟩:∃ q,q=YO n (kK n ((oB n gs ra rb i).1) (ra.getD (i+1) 0) (rb.getD (i+1) 0) (oB n gs ra rb i).2.2):=⟨_,rfl⟩
    rw [← R0] at hwv191
    subst hwv191
    have g2:=e2.b6 rfl
    exact hK _ _ (E_ Y1 (E_ Z1 (E_ c2 (E_ f2 (A_ rfl (A_ d2 (A_ R0 g2)))))))
   refine bA (fun r=>r 8) (fun r r' h=>h 8 (by decide) rfl) (fun _ _=>MA rfl) (WalkT.nil fun r w0 h2 hF hE=>?_)
   obtain ⟨h0,l0,m0,G0,e8,i2,j2,x0⟩:=hF
   replace x0:=x0.ext hE
   dsimp only
   rw [e8]
   dsimp only [u0] at x0
   subst j2
   refine go 1 ?_
   refine sq ((iC rfl rfl om).as (v':=iN (i+1+1)) (by rfl)) ?_
   refine go 1 ?_
   have S0:JH n (kK n ((oB n gs ra rb i).1) (ra.getD (i+1) 0) (rb.getD (i+1) 0) (oB n gs ra rb i).2.2) (ra.getD (i+1) 0) (rb.getD (i+1) 0) ((oB n gs ra rb i).2.2)=(oB n gs ra rb (i+1)).1:=by rw [oB,if_pos om]
   have T0:=i2
   rw [S0] at T0
   have U0:Hp No w₀ h2 ((rC b #[iN n,sO h0 (List.length ((oB n gs ra rb (i+1)).1)) l0,RA] 334)::(h0,wA EG 345 ((oB n gs ra rb (i+1)).1) m0)::(rX e0 EI (vC ((oB n gs ra rb i).2.1++[qB n ((oB n gs ra rb i).1++[(⟨1,ra.getD (i+1) 0,rb.getD (i+1) 0⟩:Gt)])])) 336)::(rX b1 EI ra 336)::(rX b5 EI rb 336)::(rX b9 EI (List.replicate 64 0) 336)::R):=by rw [← S0]; exact x0
   rw [show (oB n gs ra rb i).2.1++[qB n ((oB n gs ra rb i).1++[(⟨1,ra.getD (i+1) 0,rb.getD (i+1) 0⟩:Gt)])]=(oB n gs ra rb (i+1)).2.1 from by rw [oB,if_pos om]] at U0
   exact ⟨(i+1,h0,l0,m0),_,rfl,⟨rfl,rfl,rfl,rfl,rfl,congrArg i64 (by rw [oB,if_pos om]),rfl,trivial⟩,⟨⟨om,T0⟩,U0⟩,vd⟩
  ·refine go 1 ?_
   refine sq ((iC rfl rfl om).as (v':=iN (i+1+1)) (by rfl)) ?_
   refine go 1 ?_
   have V0:kK n ((oB n gs ra rb i).1) (ra.getD (i+1) 0) (rb.getD (i+1) 0) (oB n gs ra rb i).2.2=(oB n gs ra rb (i+1)).1:=by rw [oB,if_neg om]
   have W0:=F0
   rw [V0] at W0
   have X0:Hp No w₀ N0 ((rC b #[iN n,sO b0 (List.length ((oB n gs ra rb (i+1)).1)) c0,RA] 334)::(b0,wA EG 345 ((oB n gs ra rb (i+1)).1) d0)::(rX e0 EI (vC ((oB n gs ra rb i).2.1++[qB n ((oB n gs ra rb i).1++[(⟨1,ra.getD (i+1) 0,rb.getD (i+1) 0⟩:Gt)])])) 336)::(rX b1 EI ra 336)::(rX b5 EI rb 336)::(rX b9 EI (List.replicate 64 0) 336)::R):=by rw [← V0]; exact Q0
   rw [show (oB n gs ra rb i).2.1++[qB n ((oB n gs ra rb i).1++[(⟨1,ra.getD (i+1) 0,rb.getD (i+1) 0⟩:Gt)])]=(oB n gs ra rb (i+1)).2.1 from by rw [oB,if_neg om]] at X0
   exact ⟨(i+1,b0,c0,d0),_,rfl,⟨rfl,rfl,rfl,rfl,rfl,congrArg i64 (by rw [oB,if_neg om]),rfl,trivial⟩,⟨⟨om,W0⟩,X0⟩,vd⟩
 ·have hie:i=63:=by omega
  have hrl:(oB n gs ra rb i).2.1.length=64:=by rw [hal.2,hie]
  rw [OE hrl] at HL
  refine go 1 ?_
  refine GA (k:=5) (v:=.agg (xA EI ((oB n gs ra rb i).2.1)).toArray) (cs':=(xA EI ((oB n gs ra rb i).2.1)).toArray) HL rfl rfl rfl vF (by exact IB (by rw [hrl]; rfl)) (by exact jC _) (by rw [List.size_toArray,qA]; show _≤_*1; first | omega | (simp only [List.length_set]; omega) | exact vB rfl | (simp<;>omega)) (by exact kD (by rw [List.length_replicate]; exact hrl.symm)) fun L2 k2 M2=>?_
  have l2:=k2.b6 rfl
  refine go 0 ?_
  subst hie
  exact ⟨_,rfl,rfl,kz,cz,sz,hSz,((((l2.dropk 5).dropk 4).dropk 3).dropk 2)⟩
end Go.Proofs.YtljlkhobfdofhaaGreatDoor.Cm
namespace Go.Proofs.YtljlkhobfdofhaaGreatDoor.Cm
open Go Vc Er Circ
theorem iO (b n:Nat) (key:Option Nat) (c:Nat) (sp:LV) (gs:List Gt) (hSw:Sl EG key gs c sp) (hn:n≤1000) (hlen:gs.length≤3000) (ra rb:List Int) (hra:ra.length=64) (hrb:rb.length=64) (R:List RW) (w₀ w:World) (H:Hp No w₀ w ((rC b #[iN n,sO key (List.length gs) c,RA] 334)::(key,wA EG 345 gs sp)::R)):Ca 156 [pT b,.agg (xA EI ra).toArray,.agg (xA EI rb).toArray] w fun v w'=>v=i64 (ID n gs ra rb).2∧∃ (key':Option Nat) (c':Nat) (sp':LV),Sl EG key' ((ID n gs ra rb).1) c' sp'∧Hp No w₀ w' ((rC b #[iN n,sO key' (List.length ((ID n gs ra rb).1)) c',RA] 334)::(key',wA EG 345 ((ID n gs ra rb).1) sp')::R):=by
 skip
 refine enter (n:=41) Tryz.func156 rfl rfl (vB rfl) ?_
 refine go 1 ?_
 intro b1 w2 M2 H3 N2
 refine go 1 ?_
 intro b5 w6 O2 H7 P2
 let x3:=(rX b5 EI rb 336)::(rX b1 EI ra 336)::R
 let x1:=(rX b1 EI ra 336)::(rX b5 EI rb 336)::R
 refine go 1 ?_
 have h1:=(H7.pk 4 [2,3,0,1])
 let h0:List RW:=x3
 let i1:PD:=[JF false false fun _ _ w'=>Hp No w₀ w' ((rC b #[iN n,sO key (List.length gs) c,RA] 334)::(key,wA EG 345 gs sp)::h0),JF true false fun v4 _ w'=>∃ i0 x0 y0 a0,v4=i64 a0∧Sl EG i0 (gs++[(⟨(3:Int),ra.getD 0 0,(0:Int)⟩:Gt)]) x0 y0∧a0=qB n gs∧Hp No w₀ w' ((rC b #[iN n,sO i0 (List.length (gs++[(⟨(3:Int),ra.getD 0 0,(0:Int)⟩:Gt)])) x0,RA] 334)::(i0,wA EG 345 (gs++[(⟨(3:Int),ra.getD 0 0,(0:Int)⟩:Gt)]) y0)::h0),JF true true fun v4 v7 w'=>∃ a0 d0 j0 k0 G0,v4=i64 a0∧v7=i64 G0∧Sl EG d0 (gs++[(⟨(3:Int),ra.getD 0 0,(0:Int)⟩:Gt)]++[(⟨(2:Int),a0,rb.getD 0 0⟩:Gt)]) j0 k0∧a0=qB n gs∧G0=qB n (gs++[(⟨(3:Int),ra.getD 0 0,(0:Int)⟩:Gt)])∧Hp No w₀ w' ((rC b #[iN n,sO d0 (List.length (gs++[(⟨(3:Int),ra.getD 0 0,(0:Int)⟩:Gt)]++[(⟨(2:Int),a0,rb.getD 0 0⟩:Gt)])) j0,RA] 334)::(d0,wA EG 345 (gs++[(⟨(3:Int),ra.getD 0 0,(0:Int)⟩:Gt)]++[(⟨(2:Int),a0,rb.getD 0 0⟩:Gt)]) k0)::h0)]
 refine mB (m:=9) [0,0,0,4,14,0,32,127,255] [4,7] h0 i1 JA (fun _ e=>h1.ext e) zE (fun P0=>?_)
 refine gk 4 ?_
 refine WalkT.eff P0 0 ?_ ?_
 ·refine tA fun r w0 uw hF hE=>?_
  have j1:=hF.ext hE
  refine gW fun Q' hK=>?_
  have k1:=j1.b2 rfl
  refine cl (VB b n key c sp gs hSw hn om (3:Int) (ra.getD 0 0) (0:Int) x3 w₀ uw k1) ?_
  rintro wv75 Q2 ⟨hwv76,l1,m1,n1,o1,p1⟩
  obtain ⟨q1,Q0⟩:∃ q,q=qB n gs:=⟨_,rfl⟩
  rw [← Q0] at hwv76
  subst hwv76
  have r1:=p1.b4 rfl
  exact hK _ _ (E_ l1 (E_ m1 (E_ n1 (E_ q1 (A_ rfl (A_ o1 (A_ Q0 r1)))))))
 refine gk 2 ?_
 refine WalkT.eff P0 1 ?_ ?_
 ·refine tA fun r w0 uw hF hE=>?_
  obtain ⟨i0,x0,y0,a0,e4,t1,H0,I0⟩:=hF
  replace I0:=I0.ext hE
  dsimp only
  rw [e4]
  refine gW fun Q' hK=>?_
  have u1:=I0.b2 rfl
  refine cl (VB b n i0 x0 y0 (gs++[(⟨(3:Int),ra.getD 0 0,(0:Int)⟩:Gt)]) t1 hn (by simp only [List.length_append,List.length_cons,List.length_nil]; omega) (2:Int) a0 (rb.getD 0 0) x3 w₀ uw u1) ?_
  rintro wv88 R2 ⟨hwv89,w1,y1,z1,A1,B1⟩
  obtain ⟨C1,R0⟩:∃ q,q=qB n (gs++[(⟨(3:Int),ra.getD 0 0,(0:Int)⟩:Gt)]):=⟨_,rfl⟩
  rw [← R0] at hwv89
  subst hwv89
  have D1:=B1.b4 rfl
  exact hK _ _ (E_ a0 (E_ w1 (E_ y1 (E_ z1 (E_ C1 (A_ e4 (A_ rfl (A_ A1 (A_ H0 (A_ R0 D1))))))))))
 refine bA (fun r=>r 7) (fun r r' h=>h 7 (by decide) rfl) (fun _ _=>MA rfl) (WalkT.nil fun r w0 E1 hF hE=>?_)
 obtain ⟨a0,d0,j0,k0,G0,e4,e7,F1,H0,G1,z0⟩:=hF
 replace z0:=z0.ext hE
 dsimp only
 rw [e4,e7]
 dsimp only [h0] at z0
 subst G1
 subst H0
 have S0:gs++[(⟨(3:Int),ra.getD 0 0,(0:Int)⟩:Gt)]++[(⟨(2:Int),(qB n gs),rb.getD 0 0⟩:Gt)]=(XC n gs ra rb 0).1:=by rfl
 have T0:=F1
 rw [S0] at T0
 have H1:Hp No w₀ E1 ((rC b #[iN n,sO d0 (List.length ((XC n gs ra rb 0).1)) j0,RA] 334)::(d0,wA EG 345 ((XC n gs ra rb 0).1) k0)::(rX b5 EI rb 336)::(rX b1 EI ra 336)::R):=by rw [← S0]; exact z0
 refine go 1 ?_
 refine DA (σ:=Nat × Option Nat × Nat × LV) (fun (i,kz,cz,sz)=>[(0,pT b),(4,pT b1),(5,pT b5),(7,i64 ((XC n gs ra rb i).2)),(8,iN (i+1))]) (fun (i,kz,cz,sz) w'=>(i≤62∧Sl EG kz (XC n gs ra rb i).1 cz sz)∧Hp No w₀ w' ((rC b #[iN n,sO kz (List.length ((XC n gs ra rb i).1)) cz,RA] 334)::(kz,wA EG 345 ((XC n gs ra rb i).1) sz)::(rX b1 EI ra 336)::(rX b5 EI rb 336)::R)) (fun (i,kz,cz,sz)=>62-i) ((0,d0,j0,k0)) ?_ ?_ ?_
 ·exact kp
 ·exact ⟨⟨om,T0⟩,(H1.pk 4 [0,1,3,2])⟩
 rintro ⟨i,kz,cz,sz⟩ ρ S2 ⟨⟨hq,hSz⟩,HL⟩
 let x2:Array Value:=#[iN n,sO kz (List.length ((XC n gs ra rb i).1)) cz,RA]
 have hll:=pR n gs ra rb i
 refine go 2 ?_
 refine lA ((((i+1):Nat):Int)<(63:Int)) rfl (fun I1=>?_) (fun I1=>?_)
 ·refine go 0 ?_
  let l0:List RW:=x1
  let J1:PD:=[JF false false fun _ _ w'=>Hp No w₀ w' ((rC b x2 334)::(kz,wA EG 345 ((XC n gs ra rb i).1) sz)::l0),JF true false fun v5 _ w'=>∃ m0 A0 B0 b0,v5=i64 b0∧Sl EG m0 (((XC n gs ra rb i).1)++[(⟨(3:Int),ra.getD (i+1) 0,(0:Int)⟩:Gt)]) A0 B0∧b0=qB n ((XC n gs ra rb i).1)∧Hp No w₀ w' ((rC b #[iN n,sO m0 (List.length (((XC n gs ra rb i).1)++[(⟨(3:Int),ra.getD (i+1) 0,(0:Int)⟩:Gt)])) A0,RA] 334)::(m0,wA EG 345 (((XC n gs ra rb i).1)++[(⟨(3:Int),ra.getD (i+1) 0,(0:Int)⟩:Gt)]) B0)::l0),JF true true fun v5 v10 w'=>∃ b0 e0 n0 o0 J0,v5=i64 b0∧v10=i64 J0∧Sl EG e0 (JH n (((XC n gs ra rb i).1)++[(⟨(3:Int),ra.getD (i+1) 0,(0:Int)⟩:Gt)]) b0 (rb.getD (i+1) 0) ((XC n gs ra rb i).2)) n0 o0∧b0=qB n ((XC n gs ra rb i).1)∧J0=YO n (((XC n gs ra rb i).1)++[(⟨(3:Int),ra.getD (i+1) 0,(0:Int)⟩:Gt)])∧Hp No w₀ w' ((rC b #[iN n,sO e0 (List.length (JH n (((XC n gs ra rb i).1)++[(⟨(3:Int),ra.getD (i+1) 0,(0:Int)⟩:Gt)]) b0 (rb.getD (i+1) 0) ((XC n gs ra rb i).2))) n0,RA] 334)::(e0,wA EG 345 (JH n (((XC n gs ra rb i).1)++[(⟨(3:Int),ra.getD (i+1) 0,(0:Int)⟩:Gt)]) b0 (rb.getD (i+1) 0) ((XC n gs ra rb i).2)) o0)::l0)]
  refine mB (m:=12) [0,0,0,4,12,30,0,64,192,0,1023,2047] [5,10] l0 J1 JA (fun _ e=>HL.ext e) zE (fun U0=>?_)
  refine gk 5 ?_
  refine WalkT.eff U0 0 ?_ ?_
  ·refine tA fun r w0 uw hF hE=>?_
   have K1:=hF.ext hE
   refine gW fun Q' hK=>?_
   have L1:=K1.b2 rfl
   refine cl (VB b n kz cz sz ((XC n gs ra rb i).1) hSz hn om (3:Int) (ra.getD (i+1) 0) (0:Int) x1 w₀ uw L1) ?_
   rintro wv163 T2 ⟨hwv164,M1,N1,O1,P1,Q1⟩
   obtain ⟨R1,V0⟩:∃ q,q=qB n ((XC n gs ra rb i).1):=⟨_,rfl⟩
   rw [← V0] at hwv164
   subst hwv164
   have S1:=Q1.b4 rfl
   exact hK _ _ (E_ M1 (E_ N1 (E_ O1 (E_ R1 (A_ rfl (A_ P1 (A_ V0 S1)))))))
  refine gk 4 ?_
  refine WalkT.eff U0 1 ?_ ?_
  ·refine tA fun r w0 uw hF hE=>?_
   obtain ⟨m0,A0,B0,b0,e5,T1,K0,L0⟩:=hF
   replace L0:=L0.ext hE
   dsimp only
   rw [e5]
   refine gW fun Q' hK=>?_
   have U1:=L0.b2 rfl
   refine cl (mL b n m0 A0 B0 (((XC n gs ra rb i).1)++[(⟨(3:Int),ra.getD (i+1) 0,(0:Int)⟩:Gt)]) T1 hn (by simp only [List.length_append,List.length_cons,List.length_nil]; omega) b0 (rb.getD (i+1) 0) ((XC n gs ra rb i).2) x1 w₀ uw U1) ?_
   rintro wv176 U2 ⟨hwv177,V1,W1,Y1,Z1,c2⟩
   obtain ⟨d2,W0⟩:∃ q,q=YO n (((XC n gs ra rb i).1)++[(⟨(3:Int),ra.getD (i+1) 0,(0:Int)⟩:Gt)]):=⟨_,rfl⟩
   rw [← W0] at hwv177
   subst hwv177
   have e2:=c2.b4 rfl
   exact hK _ _ (E_ b0 (E_ V1 (E_ W1 (E_ Y1 (E_ d2 (A_ e5 (A_ rfl (A_ Z1 (A_ K0 (A_ W0 e2))))))))))
  refine bA (fun r=>r 10) (fun r r' h=>h 10 (by decide) rfl) (fun _ _=>MA rfl) (WalkT.nil fun r w0 f2 hF hE=>?_)
  obtain ⟨b0,e0,n0,o0,J0,e5,g2,h2,K0,i2,C0⟩:=hF
  replace C0:=C0.ext hE
  dsimp only
  rw [e5,g2]
  dsimp only [l0] at C0
  subst i2
  subst K0
  refine go 1 ?_
  refine sq ((iC rfl rfl om).as (v':=iN (i+1+1)) (by rfl)) ?_
  refine go 1 ?_
  have X0:JH n (((XC n gs ra rb i).1)++[(⟨(3:Int),ra.getD (i+1) 0,(0:Int)⟩:Gt)]) (qB n ((XC n gs ra rb i).1)) (rb.getD (i+1) 0) ((XC n gs ra rb i).2)=(XC n gs ra rb (i+1)).1:=by rfl
  have Y0:=h2
  rw [X0] at Y0
  have j2:Hp No w₀ f2 ((rC b #[iN n,sO e0 (List.length ((XC n gs ra rb (i+1)).1)) n0,RA] 334)::(e0,wA EG 345 ((XC n gs ra rb (i+1)).1) o0)::(rX b1 EI ra 336)::(rX b5 EI rb 336)::R):=by rw [← X0]; exact C0
  exact ⟨(i+1,e0,n0,o0),_,rfl,kp,⟨⟨om,Y0⟩,j2⟩,vd⟩
 ·have hie:i=62:=by omega
  refine go 0 ?_
  let p0:List RW:=x1
  let k2:PD:=[JF false false fun _ _ w'=>Hp No w₀ w' ((rC b x2 334)::(kz,wA EG 345 ((XC n gs ra rb i).1) sz)::p0),JF true false fun v6 _ w'=>∃ q0 D0 E0 c0,v6=i64 c0∧Sl EG q0 (((XC n gs ra rb i).1)++[(⟨(3:Int),rb.getD 63 0,(0:Int)⟩:Gt)]) D0 E0∧c0=qB n ((XC n gs ra rb i).1)∧Hp No w₀ w' ((rC b #[iN n,sO q0 (List.length (((XC n gs ra rb i).1)++[(⟨(3:Int),rb.getD 63 0,(0:Int)⟩:Gt)])) D0,RA] 334)::(q0,wA EG 345 (((XC n gs ra rb i).1)++[(⟨(3:Int),rb.getD 63 0,(0:Int)⟩:Gt)]) E0)::p0),JF true true fun v6 v8 w'=>∃ c0 f0 r0 u0 M0,v6=i64 c0∧v8=i64 M0∧Sl EG f0 (JH n (((XC n gs ra rb i).1)++[(⟨(3:Int),rb.getD 63 0,(0:Int)⟩:Gt)]) (ra.getD 63 0) c0 ((XC n gs ra rb i).2)) r0 u0∧c0=qB n ((XC n gs ra rb i).1)∧M0=YO n (((XC n gs ra rb i).1)++[(⟨(3:Int),rb.getD 63 0,(0:Int)⟩:Gt)])∧Hp No w₀ w' ((rC b #[iN n,sO f0 (List.length (JH n (((XC n gs ra rb i).1)++[(⟨(3:Int),rb.getD 63 0,(0:Int)⟩:Gt)]) (ra.getD 63 0) c0 ((XC n gs ra rb i).2))) r0,RA] 334)::(f0,wA EG 345 (JH n (((XC n gs ra rb i).1)++[(⟨(3:Int),rb.getD 63 0,(0:Int)⟩:Gt)]) (ra.getD 63 0) c0 ((XC n gs ra rb i).2)) u0)::p0)]
  refine mB (m:=10) [0,0,2,0,0,16,56,0,255,511] [6,8] p0 k2 JA (fun _ e=>HL.ext e) zE (fun Z0=>?_)
  refine gk 6 ?_
  refine WalkT.eff Z0 0 ?_ ?_
  ·refine tA fun r w0 uw hF hE=>?_
   have l2:=hF.ext hE
   refine gW fun Q' hK=>?_
   have m2:=l2.b2 rfl
   refine cl (VB b n kz cz sz ((XC n gs ra rb i).1) hSz hn om (3:Int) (rb.getD 63 0) (0:Int) x1 w₀ uw m2) ?_
   rintro wv249 V2 ⟨hwv250,n2,o2,p2,q2,r2⟩
   obtain ⟨t2,c1⟩:∃ q,q=qB n ((XC n gs ra rb i).1):=⟨_,rfl⟩
   rw [← c1] at hwv250
   subst hwv250
   have u2:=r2.b4 rfl
   exact hK _ _ (E_ n2 (E_ o2 (E_ p2 (E_ t2 (A_ rfl (A_ q2 (A_ c1 u2)))))))
  refine gk 1 ?_
  refine WalkT.eff Z0 1 ?_ ?_
  ·refine tA fun r w0 uw hF hE=>?_
   obtain ⟨q0,D0,E0,c0,e6,y2,N0,O0⟩:=hF
   replace O0:=O0.ext hE
   dsimp only
   rw [e6]
   refine gW fun Q' hK=>?_
   have z2:=O0.b2 rfl
   refine cl (mL b n q0 D0 E0 (((XC n gs ra rb i).1)++[(⟨(3:Int),rb.getD 63 0,(0:Int)⟩:Gt)]) y2 hn (by simp only [List.length_append,List.length_cons,List.length_nil]; omega) (ra.getD 63 0) c0 ((XC n gs ra rb i).2) x1 w₀ uw z2) ?_
   rintro wv262 Y2 ⟨hwv263,A2,C2,D2,E2,F2⟩
   obtain ⟨G2,d1⟩:∃ q,q=YO n (((XC n gs ra rb i).1)++[(⟨(3:Int),rb.getD 63 0,(0:Int)⟩:Gt)]):=⟨_,rfl⟩
   rw [← d1] at hwv263
   subst hwv263
   have H2:=F2.b4 rfl
   exact hK _ _ (E_ c0 (E_ A2 (E_ C2 (E_ D2 (E_ G2 (A_ e6 (A_ rfl (A_ E2 (A_ N0 (A_ d1 H2))))))))))
  refine bA (fun r=>r 8) (fun r r' h=>h 8 (by decide) rfl) (fun _ _=>MA rfl) (WalkT.nil fun r w0 I2 hF hE=>?_)
  obtain ⟨c0,f0,r0,u0,M0,e6,e8,J2,N0,K2,F0⟩:=hF
  replace F0:=F0.ext hE
  dsimp only
  rw [e6,e8]
  dsimp only [p0] at F0
  subst K2
  subst N0
  refine go 0 ?_
  have e1:JH n (((XC n gs ra rb i).1)++[(⟨(3:Int),rb.getD 63 0,(0:Int)⟩:Gt)]) (ra.getD 63 0) (qB n ((XC n gs ra rb i).1)) ((XC n gs ra rb i).2)=(ID n gs ra rb).1:=by rw [AW hie]
  have g1:=J2
  rw [e1] at g1
  have L2:Hp No w₀ I2 ((rC b #[iN n,sO f0 (List.length ((ID n gs ra rb).1)) r0,RA] 334)::(f0,wA EG 345 ((ID n gs ra rb).1) u0)::(rX b1 EI ra 336)::(rX b5 EI rb 336)::R):=by rw [← e1]; exact F0
  exact ⟨_,rfl,congrArg i64 (by rw [AW hie]),f0,r0,u0,g1,((L2.dropk 3).dropk 2)⟩
end Go.Proofs.YtljlkhobfdofhaaGreatDoor.Cm
namespace Go.Proofs.YtljlkhobfdofhaaGreatDoor.Cm
open Go Vc Er Circ
theorem eW (b n:Nat) (key:Option Nat) (c:Nat) (sp:LV) (gs:List Gt) (hSw:Sl EG key gs c sp) (hn:n≤1000) (hlen:gs.length≤3000) (ws:Int) (ra rb:List Int) (hra:ra.length=64) (hrb:rb.length=64) (R:List RW) (w₀ w:World) (H:Hp No w₀ w ((rC b #[iN n,sO key (List.length gs) c,RA] 334)::(key,wA EG 345 gs sp)::R)):Ca 157 [pT b,i64 ws,.agg (xA EI ra).toArray,.agg (xA EI rb).toArray] w fun v w'=>v=.agg (xA EI ((BC n gs ws ra rb 64).2)).toArray∧∃ (key':Option Nat) (c':Nat) (sp':LV),Sl EG key' ((BC n gs ws ra rb 64).1) c' sp'∧Hp No w₀ w' ((rC b #[iN n,sO key' (List.length ((BC n gs ws ra rb 64).1)) c',RA] 334)::(key',wA EG 345 ((BC n gs ws ra rb 64).1) sp')::R):=by
 skip
 refine enter (n:=34) Tryz.func157 rfl rfl (vB rfl) ?_
 refine go 1 ?_
 intro b1 w2 D1 H3 E1
 refine go 1 ?_
 intro b5 w6 F1 H7 G1
 refine go 1 ?_
 intro b9 H1 I1 J1 K1
 refine go 1 ?_
 intro h0 L1 M1 P0 N1
 refine go 1 ?_
 refine DA (σ:=Nat × Option Nat × Nat × LV) (fun (i,kz,cz,sz)=>[(0,pT b),(1,i64 ws),(6,pT b1),(7,pT b5),(8,pT b9),(9,pT h0),(11,iN i)]) (fun (i,kz,cz,sz) w'=>(i≤64∧Sl EG kz ((BC n gs ws ra rb i).1) cz sz)∧Hp No w₀ w' ((rC b #[iN n,sO kz (List.length ((BC n gs ws ra rb i).1)) cz,RA] 334)::(kz,wA EG 345 ((BC n gs ws ra rb i).1) sz)::(rX h0 EI (vC ((BC n gs ws ra rb i).2)) 336)::(rX b1 EI ra 336)::(rX b5 EI rb 336)::(rX b9 EI (List.replicate 64 0) 336)::R)) (fun (i,kz,cz,sz)=>64-i) ((0,key,c,sp)) ?_ ?_ ?_
 ·exact kp
 ·exact ⟨⟨om,hSw⟩,(P0.pk 6 [4,5,0,3,2,1])⟩
 rintro ⟨i,kz,cz,sz⟩ ρ O1 ⟨⟨hq,hSz⟩,HL⟩
 have hpi:=RF n gs ws ra rb i
 have hpl:(vC (BC n gs ws ra rb i).2).length=64:=wF (by rw [hpi.2]; exact hq)
 refine go 1 ?_
 refine lA (((i:Nat):Int)<(64:Int)) rfl (fun Q0=>?_) (fun Q0=>?_)
 ·refine go 2 ?_
  let j0:List RW:=((rX b1 EI ra 336)::(rX b5 EI rb 336)::(rX b9 EI (List.replicate 64 0) 336)::R)
  let C0:=fun (c0:Option Nat) (a0:Int) (b0:Int) (d0:LV)=>((c0,wA EG 345 (((BC n gs ws ra rb i).1)++[(⟨(1:Int),ra.getD i 0,rb.getD i 0⟩:Gt)]++[(⟨(2:Int),ws,a0⟩:Gt)]++[(⟨(1:Int),rb.getD i 0,b0⟩:Gt)]) d0):RW)
  let D0:=fun (c0:Option Nat) (a0:Int) (b0:Int) (e0:Nat)=>((rC b #[iN n,sO c0 (List.length (((BC n gs ws ra rb i).1)++[(⟨(1:Int),ra.getD i 0,rb.getD i 0⟩:Gt)]++[(⟨(2:Int),ws,a0⟩:Gt)]++[(⟨(1:Int),rb.getD i 0,b0⟩:Gt)])) e0,RA] 334):RW)
  let p0:=((rX h0 EI (vC ((BC n gs ws ra rb i).2)) 336):RW)
  let E0:=fun (c0:Option Nat) (a0:Int) (b0:Int) (e0:Nat) (d0:LV)=>(Sl EG c0 (((BC n gs ws ra rb i).1)++[(⟨(1:Int),ra.getD i 0,rb.getD i 0⟩:Gt)]++[(⟨(2:Int),ws,a0⟩:Gt)]++[(⟨(1:Int),rb.getD i 0,b0⟩:Gt)]) e0 d0:Prop)
  let R0:PD:=[EH false false false false fun _ _ _ _ w'=>Hp No w₀ w' ((rC b #[iN n,sO kz (List.length ((BC n gs ws ra rb i).1)) cz,RA] 334)::(kz,wA EG 345 ((BC n gs ws ra rb i).1) sz)::p0::j0),EH true false false false fun v14 _ _ _ w'=>∃ m0 q0 r0 a0,v14=i64 a0∧Sl EG m0 (((BC n gs ws ra rb i).1)++[(⟨(1:Int),ra.getD i 0,rb.getD i 0⟩:Gt)]) q0 r0∧a0=qB n ((BC n gs ws ra rb i).1)∧Hp No w₀ w' ((rC b #[iN n,sO m0 (List.length (((BC n gs ws ra rb i).1)++[(⟨(1:Int),ra.getD i 0,rb.getD i 0⟩:Gt)])) q0,RA] 334)::(m0,wA EG 345 (((BC n gs ws ra rb i).1)++[(⟨(1:Int),ra.getD i 0,rb.getD i 0⟩:Gt)]) r0)::p0::j0),EH true true false false fun v14 v15 _ _ w'=>∃ a0 n0 u0 x0 b0,v14=i64 a0∧v15=i64 b0∧Sl EG n0 (((BC n gs ws ra rb i).1)++[(⟨(1:Int),ra.getD i 0,rb.getD i 0⟩:Gt)]++[(⟨(2:Int),ws,a0⟩:Gt)]) u0 x0∧a0=qB n ((BC n gs ws ra rb i).1)∧b0=qB n (((BC n gs ws ra rb i).1)++[(⟨(1:Int),ra.getD i 0,rb.getD i 0⟩:Gt)])∧Hp No w₀ w' ((rC b #[iN n,sO n0 (List.length (((BC n gs ws ra rb i).1)++[(⟨(1:Int),ra.getD i 0,rb.getD i 0⟩:Gt)]++[(⟨(2:Int),ws,a0⟩:Gt)])) u0,RA] 334)::(n0,wA EG 345 (((BC n gs ws ra rb i).1)++[(⟨(1:Int),ra.getD i 0,rb.getD i 0⟩:Gt)]++[(⟨(2:Int),ws,a0⟩:Gt)]) x0)::p0::j0),EH true true true false fun v14 v15 v16 _ w'=>∃ a0 b0 c0 e0 d0 f0,v14=i64 a0∧v15=i64 b0∧v16=i64 f0∧(E0 c0 a0 b0 e0 d0)∧a0=qB n ((BC n gs ws ra rb i).1)∧b0=qB n (((BC n gs ws ra rb i).1)++[(⟨(1:Int),ra.getD i 0,rb.getD i 0⟩:Gt)])∧f0=qB n (((BC n gs ws ra rb i).1)++[(⟨(1:Int),ra.getD i 0,rb.getD i 0⟩:Gt)]++[(⟨(2:Int),ws,a0⟩:Gt)])∧Hp No w₀ w' ((D0 c0 a0 b0 e0)::(C0 c0 a0 b0 d0)::p0::j0),EH true true true true fun v14 v15 v16 _ w'=>∃ a0 b0 c0 e0 d0 f0,v14=i64 a0∧v15=i64 b0∧v16=i64 f0∧(E0 c0 a0 b0 e0 d0)∧a0=qB n ((BC n gs ws ra rb i).1)∧b0=qB n (((BC n gs ws ra rb i).1)++[(⟨(1:Int),ra.getD i 0,rb.getD i 0⟩:Gt)])∧f0=qB n (((BC n gs ws ra rb i).1)++[(⟨(1:Int),ra.getD i 0,rb.getD i 0⟩:Gt)]++[(⟨(2:Int),ws,a0⟩:Gt)])∧Hp No w₀ w' ((D0 c0 a0 b0 e0)::(C0 c0 a0 b0 d0)::(rX h0 EI ((vC ((BC n gs ws ra rb i).2)).set i f0) 336)::j0)]
  refine mB (m:=19) [0,0,0,4,12,0,0,0,0,256,768,0,2048,6144,16256,32736,65534,131071,262143] [14,15,16,18] j0 R0 JA (fun _ e=>HL.ext e) zE (fun y0=>?_)
  refine gk 14 ?_
  refine WalkT.eff y0 0 ?_ ?_
  ·refine tA fun r w0 uw hF hE=>?_
   have S0:=hF.ext hE
   refine gW fun Q' hK=>?_
   have T0:=S0.b2 rfl
   refine cl (VB b n kz cz sz ((BC n gs ws ra rb i).1) hSz hn om (1:Int) (ra.getD i 0) (rb.getD i 0) ((rX h0 EI (vC ((BC n gs ws ra rb i).2)) 336)::(rX b1 EI ra 336)::(rX b5 EI rb 336)::(rX b9 EI (List.replicate 64 0) 336)::R) w₀ uw T0) ?_
   rintro wv122 P1 ⟨hwv123,U0,V0,W0,X0,Y0⟩
   obtain ⟨Z0,I0⟩:∃ q,q=qB n ((BC n gs ws ra rb i).1):=⟨_,rfl⟩
   rw [← I0] at hwv123
   subst hwv123
   have c1:=Y0.b6 rfl
   exact hK _ _ (E_ U0 (E_ V0 (E_ W0 (E_ Z0 (A_ rfl (A_ X0 (A_ I0 c1)))))))
  refine WalkT.eff y0 1 ?_ ?_
  ·refine tA fun r w0 uw hF hE=>?_
   obtain ⟨m0,q0,r0,a0,i0,d1,k0,F0⟩:=hF
   replace F0:=F0.ext hE
   dsimp only
   rw [i0]
   refine gW fun Q' hK=>?_
   have e1:=F0.b2 rfl
   refine cl (VB b n m0 q0 r0 (((BC n gs ws ra rb i).1)++[(⟨(1:Int),ra.getD i 0,rb.getD i 0⟩:Gt)]) d1 hn (by simp only [List.length_append,List.length_cons,List.length_nil]; omega) (2:Int) ws a0 ((rX h0 EI (vC ((BC n gs ws ra rb i).2)) 336)::(rX b1 EI ra 336)::(rX b5 EI rb 336)::(rX b9 EI (List.replicate 64 0) 336)::R) w₀ uw e1) ?_
   rintro wv135 Q1 ⟨hwv136,g1,h1,i1,j1,k1⟩
   obtain ⟨l1,J0⟩:∃ q,q=qB n (((BC n gs ws ra rb i).1)++[(⟨(1:Int),ra.getD i 0,rb.getD i 0⟩:Gt)]):=⟨_,rfl⟩
   rw [← J0] at hwv136
   subst hwv136
   have m1:=k1.b6 rfl
   exact hK _ _ (E_ a0 (E_ g1 (E_ h1 (E_ i1 (E_ l1 (A_ i0 (A_ rfl (A_ j1 (A_ k0 (A_ J0 m1))))))))))
  refine WalkT.eff y0 2 ?_ ?_
  ·refine tA fun r w0 uw hF hE=>?_
   obtain ⟨a0,n0,u0,x0,b0,i0,l0,n1,k0,o0,G0⟩:=hF
   replace G0:=G0.ext hE
   dsimp only
   rw [l0]
   refine gW fun Q' hK=>?_
   have o1:=G0.b2 rfl
   refine cl (VB b n n0 u0 x0 (((BC n gs ws ra rb i).1)++[(⟨(1:Int),ra.getD i 0,rb.getD i 0⟩:Gt)]++[(⟨(2:Int),ws,a0⟩:Gt)]) n1 hn (by simp only [List.length_append,List.length_cons,List.length_nil]; omega) (1:Int) (rb.getD i 0) b0 ((rX h0 EI (vC ((BC n gs ws ra rb i).2)) 336)::(rX b1 EI ra 336)::(rX b5 EI rb 336)::(rX b9 EI (List.replicate 64 0) 336)::R) w₀ uw o1) ?_
   rintro wv148 R1 ⟨hwv149,p1,q1,r1,t1,u1⟩
   obtain ⟨w1,K0⟩:∃ q,q=qB n (((BC n gs ws ra rb i).1)++[(⟨(1:Int),ra.getD i 0,rb.getD i 0⟩:Gt)]++[(⟨(2:Int),ws,a0⟩:Gt)]):=⟨_,rfl⟩
   rw [← K0] at hwv149
   subst hwv149
   have x1:=u1.b6 rfl
   exact hK _ _ (E_ a0 (E_ b0 (E_ p1 (E_ q1 (E_ r1 (E_ w1 (A_ i0 (A_ l0 (A_ rfl (A_ t1 (A_ k0 (A_ o0 (A_ K0 x1)))))))))))))
  refine gk 1 ?_
  refine WalkT.eff y0 3 ?_ ?_
  ·refine tA fun r w0 uw hF hE=>?_
   obtain ⟨a0,b0,c0,e0,d0,f0,i0,l0,z0,A0,k0,o0,H0,L0⟩:=hF
   replace L0:=L0.ext hE
   dsimp only
   rw [z0]
   refine PE fun Q' hK=>?_
   refine go 1 ?_
   intro S1 y1 T1
   exact hK _ (fun _=>(E_ a0 (E_ b0 (E_ c0 (E_ e0 (E_ d0 (E_ f0 (A_ i0 (A_ l0 (A_ z0 (A_ A0 (A_ k0 (A_ o0 (A_ H0 y1))))))))))))))
  refine WalkT.nil fun r w0 z1 hF hE=>?_
  obtain ⟨a0,b0,c0,e0,d0,f0,i0,l0,z0,A0,k0,o0,H0,B0⟩:=hF
  replace B0:=B0.ext hE
  dsimp only
  rw [i0,l0,z0]
  dsimp only [E0] at A0
  dsimp only [j0,D0,C0] at B0
  subst H0
  subst o0
  subst k0
  have M0:((BC n gs ws ra rb i).1)++[(⟨(1:Int),ra.getD i 0,rb.getD i 0⟩:Gt)]++[(⟨(2:Int),ws,(qB n ((BC n gs ws ra rb i).1))⟩:Gt)]++[(⟨(1:Int),rb.getD i 0,(qB n (((BC n gs ws ra rb i).1)++[(⟨(1:Int),ra.getD i 0,rb.getD i 0⟩:Gt)]))⟩:Gt)]=(BC n gs ws ra rb (i+1)).1:=by rfl
  have N0:=A0
  rw [M0] at N0
  have O0:Hp No w₀ z1 ((rC b #[iN n,sO c0 (List.length ((BC n gs ws ra rb (i+1)).1)) e0,RA] 334)::(c0,wA EG 345 ((BC n gs ws ra rb (i+1)).1) d0)::(rX h0 EI ((vC ((BC n gs ws ra rb i).2)).set i (qB n (((BC n gs ws ra rb i).1)++[(⟨(1:Int),ra.getD i 0,rb.getD i 0⟩:Gt)]++[(⟨(2:Int),ws,(qB n ((BC n gs ws ra rb i).1))⟩:Gt)]))) 336)::(rX b1 EI ra 336)::(rX b5 EI rb 336)::(rX b9 EI (List.replicate 64 0) 336)::R):=by rw [← M0]; exact B0
  rw [sE (l:=(BC n gs ws ra rb i).2) _ hpi.2 om] at O0
  have A1:=O0.b6 rfl
  refine go 2 ?_
  exact ⟨(i+1,c0,e0,d0),_,rfl,kp,⟨⟨om,N0⟩,A1⟩,vd⟩
 ·have hie:i=64:=by omega
  have hrl:=hpi.2.trans hie
  rw [OE hrl] at HL
  refine go 1 ?_
  refine GA (k:=5) (v:=.agg (xA EI ((BC n gs ws ra rb i).2)).toArray) (cs':=(xA EI ((BC n gs ws ra rb i).2)).toArray) HL rfl rfl rfl vF (by exact IB (by rw [hrl]; rfl)) (by exact jC _) (by rw [List.size_toArray,qA]; show _≤_*1; first | omega | (simp only [List.length_set]; omega) | exact vB rfl | (simp<;>omega)) (by exact kD (by rw [List.length_replicate]; exact hrl.symm)) fun U1 B1 V1=>?_
  have C1:=B1.b6 rfl
  refine go 0 ?_
  subst hie
  exact ⟨_,rfl,rfl,kz,cz,sz,hSz,((((C1.dropk 5).dropk 4).dropk 3).dropk 2)⟩
end Go.Proofs.YtljlkhobfdofhaaGreatDoor.Cm
namespace Go.Proofs.YtljlkhobfdofhaaGreatDoor.Cm
open Go Vc Er Circ
theorem rQ:SA Tryz.prog 218=true:=by kernel_rfl
theorem KO:mC Tryz.prog 218 2=some (2,1,33):=by kernel_rfl
theorem nP:ZB Tryz.prog 218=some 3:=by kernel_rfl
theorem siz33:ZB Tryz.prog 33=some 1:=by kernel_rfl
theorem oW (kd:Int) (fm:BitVec 64) (w:World) (hG:Gl w) (hb:¬ (kd=1∧fm<2#64)∧¬ ((kd=2∨kd=3)∧fm<4#64)):Ca 84 [i64 kd,u64 fm] w fun v w'=>(∃ ev,v=.tuple #[.agg #[i64 (0:Int),RA,RA],ev]∧Er w.heap.size w' 1 1 ev)∧Ext w w':=by
 have H:=eA No w
 refine enter (n:=131) Tryz.func84 rfl rfl (vB rfl) ?_
 refine go 1 ?_
 intro b1 w2 x0 H3 y0
 refine go 5 ?_
 refine lA ((kd:Int)=(1:Int)) rfl (fun c0=>?_) (fun c0=>?_)
 ·refine go 5 ?_
  refine lA (fm.toNat<((1#64) <<< (1:Nat)).toNat) rfl (fun a0=>?_) (fun a0=>?_)
  ·exfalso
   first | exact hb.1 ⟨c0,a0⟩ | exact hb.2 ⟨.inl b0,a0⟩ | exact hb.2 ⟨.inr b0,a0⟩
  ·refine go 3 ?_
   have:=H3.lT 0
   refine cl (cB (1:Int) kd ({data:=#[109,97,107,101]}) w2 gE) ?_
   rintro v7 w5 ⟨d0,m0⟩
   have z0:=H3.ext m0
   obtain ⟨A0,B0,rfl⟩:=d0.iface
   refine go 1 ?_
   intro C0 n0 e0
   refine go 1 ?_
   exact ⟨_,rfl,⟨_,rfl,(Er.chgs (e0.mono (M':=fun x=>x=b1) (fun _ h=>by subst h; simp)) (fun x h1 h2 h3=>by have:=e0.size; rcases h3 with rfl<;>omega) d0).mono H3.chg.size⟩,n0.chg⟩
 ·refine go 2 ?_
  refine lA ((kd:Int)=(2:Int)) rfl (fun b0=>?_) (fun b0=>?_)
  ·refine go 0 ?_
   refine ZC (bT (b0)) ?_
   refine go 4 ?_
   refine lA (fm.toNat<((1#64) <<< (2:Nat)).toNat) rfl (fun a0=>?_) (fun a0=>?_)
   ·exfalso
    first | exact hb.1 ⟨c0,a0⟩ | exact hb.2 ⟨.inl b0,a0⟩ | exact hb.2 ⟨.inr b0,a0⟩
   ·refine go 3 ?_
    have:=H3.lT 0
    refine cl (cB (1:Int) kd ({data:=#[109,97,107,101]}) w2 gE) ?_
    rintro v18 D0 ⟨f0,o0⟩
    have E0:=H3.ext o0
    obtain ⟨F0,G0,rfl⟩:=f0.iface
    refine go 1 ?_
    intro H0 p0 h0
    refine go 1 ?_
    exact ⟨_,rfl,⟨_,rfl,(Er.chgs (h0.mono (M':=fun x=>x=b1) (fun _ h=>by subst h; simp)) (fun x h1 h2 h3=>by have:=h0.size; rcases h3 with rfl<;>omega) f0).mono H3.chg.size⟩,p0.chg⟩
  ·refine go 2 ?_
   refine lA ((kd:Int)=(3:Int)) rfl (fun b0=>?_) (fun b0=>?_)
   ·refine go 4 ?_
    refine lA (fm.toNat<((1#64) <<< (2:Nat)).toNat) rfl (fun a0=>?_) (fun a0=>?_)
    ·exfalso
     first | exact hb.1 ⟨c0,a0⟩ | exact hb.2 ⟨.inl b0,a0⟩ | exact hb.2 ⟨.inr b0,a0⟩
    ·refine go 3 ?_
     have:=H3.lT 0
     refine cl (cB (1:Int) kd ({data:=#[109,97,107,101]}) w2 gE) ?_
     rintro v29 I0 ⟨i0,q0⟩
     have J0:=H3.ext q0
     obtain ⟨K0,L0,rfl⟩:=i0.iface
     refine go 1 ?_
     intro M0 r0 j0
     refine go 1 ?_
     exact ⟨_,rfl,⟨_,rfl,(Er.chgs (j0.mono (M':=fun x=>x=b1) (fun _ h=>by subst h; simp)) (fun x h1 h2 h3=>by have:=j0.size; rcases h3 with rfl<;>omega) i0).mono H3.chg.size⟩,r0.chg⟩
   ·refine go 3 ?_
    have:=H3.lT 0
    refine cl (cB (1:Int) kd ({data:=#[109,97,107,101]}) w2 gE) ?_
    rintro v40 N0 ⟨k0,u0⟩
    have O0:=H3.ext u0
    obtain ⟨P0,Q0,rfl⟩:=k0.iface
    refine go 1 ?_
    intro R0 w0 l0
    refine go 1 ?_
    exact ⟨_,rfl,⟨_,rfl,(Er.chgs (l0.mono (M':=fun x=>x=b1) (fun _ h=>by subst h; simp)) (fun x h1 h2 h3=>by have:=l0.size; rcases h3 with rfl<;>omega) k0).mono H3.chg.size⟩,w0.chg⟩
theorem XZ (fm:BitVec 64) (hf:fm<2#64) (w:World):Ca 84 [i64 (1:Int),u64 fm] w fun v w'=>∃ (key:Option Nat) (c:Nat) (sp:LV) (b:Nat),v=.tuple #[.agg #[i64 ((128:Nat):Int),sO key (dT (PC fm 0)).1.length c,.slice (some ⟨b,0,none⟩) 64 64],.nilIface]∧Sl EG key (dT (PC fm 0)).1 c sp∧Hp No w w' [(key,wA EG 345 (dT (PC fm 0)).1 sp),(rX b EI (dT (PC fm 0)).2 336)]:=by
 let x1:Array Value:=#[i64 0,RA,RA]
 have H:=eA No w
 refine enter (n:=131) Tryz.func84 rfl rfl (vB rfl) ?_
 refine go 1 ?_
 intro b1 w2 V1 H3 W1
 refine go 3 ?_
 refine sq ((RB rfl rfl).as (v':=.bool true) (by rfl)) ?_
 refine go 5 ?_
 refine sq ((MJ (a:=fm) (b:=(1#64) <<< (1:Nat)) rfl rfl).as (v':=.bool true) (by exact bT (hf))) ?_
 refine go 1 ?_
 refine sq ((AC rfl rfl om).as (v':=iN 128) (by rfl)) ?_
 refine go 3 ?_
 intro b5 w6 Y1 H7 Z1
 refine go 1 ?_
 have H9:=H7.nil (wA EG 345 [] [])
 have c2:=H9.a3 rfl
 refine go 1 ?_
 intro a0 d2 e2 k0 f2
 rw [HK] at k0
 refine go 2 ?_
 refine DA (σ:=Nat × Option Nat × Nat × LV) (fun (i,kz,cz,sz)=>[(0,i64 1),(1,u64 fm),(4,pT b1),(7,pT b5),(8,pT a0),(36,i64 1),(37,iN i)]) (fun (i,kz,cz,sz) w'=>(i≤1∧Sl EG kz (IA 128 fm i).1 cz sz)∧Hp No w w' [(rC b5 #[iN 128,sO kz (List.length ((IA 128 fm i).1)) cz,RA] 334),(kz,wA EG 345 ((IA 128 fm i).1) sz),(rX a0 EI (oC ((IA 128 fm i).2)) 337),(rC b1 x1 218)]) (fun (i,kz,cz,sz)=>1-i) ((0,none,0,[])) ?_ ?_ ?_
 ·exact kp
 ·exact ⟨⟨om,Sl.none⟩,(k0.pk 4 [2,1,0,3])⟩
 rintro ⟨i,kz,cz,sz⟩ ρ T0 ⟨⟨hq,hSz⟩,HL⟩
 have hol:=JK 128 fm i
 have hi1:=aE (64*(2*i)) 64
 have hi2:=aE (64*(2*i+1)) 64
 have hpx:(oC (IA 128 fm i).2).length=128:=AD (by rw [hol.2]; omega)
 refine go 1 ?_
 refine lA (((i:Nat):Int)<(1:Int)) rfl (fun U0=>?_) (fun U0=>?_)
 ·refine go 4 ?_
  refine sq ((AC rfl rfl om).as (v':=iN (2*i)) (by exact congrArg i64 om)) ?_
  refine cl (AF b5 (2*i) om T0) ?_
  rintro _ V0 ⟨rfl,W0⟩
  have X0:=HL.ext W0
  refine go 2 ?_
  refine sq ((AC rfl rfl om).as (v':=iN (2*i)) (by exact congrArg i64 om)) ?_
  refine sq ((iC rfl rfl om).as (v':=iN (2*i+1)) (by exact congrArg i64 om)) ?_
  refine cl (AF b5 (2*i+1) om V0) ?_
  rintro _ g2 ⟨rfl,Y0⟩
  have h2:=X0.ext Y0
  refine go 1 ?_
  intro d0 i2 j2 k2 l2
  refine go 1 ?_
  intro e0 m2 n2 Z0 o2
  refine GA (k:=1) (v:=.agg (xA EI (jB (64*(2*i)) 64)).toArray) (cs':=(xA EI (jB (64*(2*i)) 64)).toArray) Z0 rfl rfl rfl vF (by exact IB (by rw [hi1]; rfl)) (by exact jC _) (by rw [List.size_toArray,qA]; show _≤_*1; first | omega | (simp only [List.length_set]; omega) | exact vB rfl | (simp<;>omega)) (by exact kD (by rw [List.length_replicate]; exact hi1.symm)) ?_
  intro p2 c1 q2
  have d1:=c1.a6 rfl
  refine GA (k:=0) (v:=.agg (xA EI (jB (64*(2*i+1)) 64)).toArray) (cs':=(xA EI (jB (64*(2*i+1)) 64)).toArray) d1 rfl rfl rfl vF (by exact IB (by rw [hi2]; rfl)) (by exact jC _) (by rw [List.size_toArray,qA]; show _≤_*1; first | omega | (simp only [List.length_set]; omega) | exact vB rfl | (simp<;>omega)) (by exact kD (by rw [List.length_replicate]; exact hi2.symm)) ?_
  intro l0 e1 r2
  have m0:=e1.a6 rfl
  refine go 5 ?_
  refine lA (((fm >>> (i:Nat))&&&(1#64))=(1#64)) rfl (fun c0=>?_) (fun c0=>?_)
  ·refine go 4 ?_
   have g1:=((m0.pk 6 [2,3,0,1,4,5])).b2 rfl
   refine cl (OM b5 128 kz cz sz ((IA 128 fm i).1) hSz om om (jB (64*(2*i)) 64) (jB (64*(2*i+1)) 64) om om [(rX e0 EI (jB (64*(2*i+1)) 64) 336),(rX d0 EI (jB (64*(2*i)) 64) 336),(rX a0 EI (oC ((IA 128 fm i).2)) 337),(rC b1 x1 218)] w l0 g1) ?_
   rintro _ t2 ⟨rfl,f0,n0,o0,h1,i1⟩
   have j1:=i1.a6 rfl
   have hnr:(eE 128 ((IA 128 fm i).1) (jB (64*(2*i)) 64) (jB (64*(2*i+1)) 64) 64).2.length=64:=(RG 128 ((IA 128 fm i).1) (jB (64*(2*i)) 64) (jB (64*(2*i+1)) 64) 64).2
   refine go 1 ?_
   refine GA (k:=4) (v:=.agg (xA EI ((eE 128 ((IA 128 fm i).1) (jB (64*(2*i)) 64) (jB (64*(2*i+1)) 64) 64).2)).toArray) (cs':=(xA EI (oC ((IA 128 fm i).2++(eE 128 ((IA 128 fm i).1) (jB (64*(2*i)) 64) (jB (64*(2*i+1)) 64) 64).2))).toArray) j1 rfl rfl rfl vF (by exact IB (by rw [hnr]; rfl)) (by exact jC _) (by rw [List.size_toArray,qA,AD (by rw [hol.2]; omega)]; show _≤_*1; omega) (by exact uF (by rw [hol.2]; omega) (by rw [hol.2]; omega) (by first | exact hnr)) ?_
   intro k1 l1 u2
   have m1:=l1.a6 rfl
   refine go 2 ?_
   have p0:(eE 128 ((IA 128 fm i).1) (jB (64*(2*i)) 64) (jB (64*(2*i+1)) 64) 64).1=(IA 128 fm (i+1)).1:=by rw [IA,RL c0]
   have q0:=h1
   rw [p0] at q0
   have r0:Hp No w k1 [(rC b5 #[iN 128,sO f0 (List.length ((IA 128 fm (i+1)).1)) n0,RA] 334),(f0,wA EG 345 ((IA 128 fm (i+1)).1) o0),(rX e0 EI (jB (64*(2*i+1)) 64) 336),(rX d0 EI (jB (64*(2*i)) 64) 336),(rX a0 EI (oC ((IA 128 fm i).2++(eE 128 ((IA 128 fm i).1) (jB (64*(2*i)) 64) (jB (64*(2*i+1)) 64) 64).2)) 337),(rC b1 x1 218)]:=by rw [← p0]; exact m1
   rw [show (IA 128 fm i).2++(eE 128 ((IA 128 fm i).1) (jB (64*(2*i)) 64) (jB (64*(2*i+1)) 64) 64).2=(IA 128 fm (i+1)).2 from by rw [IA,RL c0]] at r0
   exact ⟨(i+1,f0,n0,o0),_,rfl,kp,⟨⟨om,q0⟩,((r0.dropk 3).dropk 2)⟩,vd⟩
  ·refine go 4 ?_
   have n1:=((m0.pk 6 [2,3,0,1,4,5])).b2 rfl
   refine cl (PM b5 128 kz cz sz ((IA 128 fm i).1) hSz om om (jB (64*(2*i)) 64) (jB (64*(2*i+1)) 64) om om [(rX e0 EI (jB (64*(2*i+1)) 64) 336),(rX d0 EI (jB (64*(2*i)) 64) 336),(rX a0 EI (oC ((IA 128 fm i).2)) 337),(rC b1 x1 218)] w l0 n1) ?_
   rintro _ y2 ⟨rfl,h0,u0,w0,p1,q1⟩
   have r1:=q1.a6 rfl
   have hnr:(oB 128 ((IA 128 fm i).1) (jB (64*(2*i)) 64) (jB (64*(2*i+1)) 64) 63).2.1.length=64:=(bH 128 ((IA 128 fm i).1) (jB (64*(2*i)) 64) (jB (64*(2*i+1)) 64) 63).2
   refine go 1 ?_
   refine GA (k:=4) (v:=.agg (xA EI ((oB 128 ((IA 128 fm i).1) (jB (64*(2*i)) 64) (jB (64*(2*i+1)) 64) 63).2.1)).toArray) (cs':=(xA EI (oC ((IA 128 fm i).2++(oB 128 ((IA 128 fm i).1) (jB (64*(2*i)) 64) (jB (64*(2*i+1)) 64) 63).2.1))).toArray) r1 rfl rfl rfl vF (by exact IB (by rw [hnr]; rfl)) (by exact jC _) (by rw [List.size_toArray,qA,AD (by rw [hol.2]; omega)]; show _≤_*1; omega) (by exact uF (by rw [hol.2]; omega) (by rw [hol.2]; omega) (by first | exact hnr)) ?_
   intro t1 u1 z2
   have w1:=u1.a6 rfl
   refine go 2 ?_
   have x0:(oB 128 ((IA 128 fm i).1) (jB (64*(2*i)) 64) (jB (64*(2*i+1)) 64) 63).1=(IA 128 fm (i+1)).1:=by rw [IA,SL c0]
   have y0:=p1
   rw [x0] at y0
   have z0:Hp No w t1 [(rC b5 #[iN 128,sO h0 (List.length ((IA 128 fm (i+1)).1)) u0,RA] 334),(h0,wA EG 345 ((IA 128 fm (i+1)).1) w0),(rX e0 EI (jB (64*(2*i+1)) 64) 336),(rX d0 EI (jB (64*(2*i)) 64) 336),(rX a0 EI (oC ((IA 128 fm i).2++(oB 128 ((IA 128 fm i).1) (jB (64*(2*i)) 64) (jB (64*(2*i+1)) 64) 63).2.1)) 337),(rC b1 x1 218)]:=by rw [← x0]; exact w1
   rw [show (IA 128 fm i).2++(oB 128 ((IA 128 fm i).1) (jB (64*(2*i)) 64) (jB (64*(2*i+1)) 64) 63).2.1=(IA 128 fm (i+1)).2 from by rw [IA,SL c0]] at z0
   exact ⟨(i+1,h0,u0,w0),_,rfl,kp,⟨⟨om,y0⟩,((z0.dropk 3).dropk 2)⟩,vd⟩
 ·have hie:i=1:=by omega
  rw [hie,DV] at HL hSz hol
  obtain ⟨o1,ho1⟩:∃ q,q=cD 128 [] 0 64 (PC fm 0):=⟨_,rfl⟩
  rw [← ho1] at HL hSz hol
  have A0:=HD 128 [] 0 64 (PC fm 0)
  rw [← ho1] at A0
  simp only [List.length_nil] at A0
  have A2:=HL.a4 rfl
  have hpx:(oC o1.2).length=128:=AD om
  refine go 1 ?_
  intro b0 y1 C2 z1 D2
  let x2:Option Addr:=some ⟨b0,0,none⟩
  refine go 1 ?_
  have A1:=((z1.pk 5 [1,2,0,3,4])).b2 rfl
  refine cl (VB b5 128 kz cz sz o1.1 hSz om om (1:Int) (0:Int) (0:Int) [(rX b0 EI (List.replicate 64 0) 336),(rX a0 EI (oC o1.2) 337),(rC b1 x1 218)] w y1 A1) ?_
  rintro wv81 B0 ⟨hwv82,i0,C0,D0,B1,C1⟩
  obtain ⟨E2,E0⟩:∃ q,q=qB 128 o1.1:=⟨_,rfl⟩
  rw [← E0] at hwv82
  subst hwv82
  have D1:=C1.a5 rfl
  refine go 1 ?_
  subst E0
  have F0:o1.1++[(⟨(1:Int),(0:Int),(0:Int)⟩:Gt)]=ze o1.1:=by rfl
  have G0:=B1
  rw [F0] at G0
  have H0:Hp No w B0 [(rC b5 #[iN 128,sO i0 (List.length (ze o1.1)) C0,RA] 334),(i0,wA EG 345 (ze o1.1) D0),(rX b0 EI (List.replicate 64 0) 336),(rX a0 EI (oC o1.2) 337),(rC b1 x1 218)]:=by rw [← F0]; exact D1
  have hzl:(ze o1.1).length=o1.1.length+1:=by simp [ze]
  refine go 1 ?_
  refine sq ((RB rfl rfl).as (v':=.bool true) (by rfl)) ?_
  refine go 4 ?_
  refine sq ((fE (E:=EI) (l:=oC o1.2) (j:=63) (a:=(oC o1.2).getD 63 0) xE (H0.get (k:=3) rfl) (rB om) rfl rfl).as (v':=i64 (o1.2.getD 63 0)) (by exact congrArg i64 (UQ om))) ?_
  have E1:=H0.b2 rfl
  refine cl (VB b5 128 i0 C0 D0 (ze o1.1) G0 om om (3:Int) (o1.2.getD 63 0) (0:Int) [(rX b0 EI (List.replicate 64 0) 336),(rX a0 EI (oC o1.2) 337),(rC b1 x1 218)] w B0 E1) ?_
  rintro wv96 F2 ⟨hwv97,F1,G1,H1,I1,J1⟩
  obtain ⟨G2,I0⟩:∃ q,q=qB 128 (ze o1.1):=⟨_,rfl⟩
  rw [← I0] at hwv97
  subst hwv97
  have K1:=J1.a5 rfl
  refine go 1 ?_
  subst I0
  refine go 1 ?_
  refine DA (σ:=Nat × Option Nat × Nat × LV) (fun (i,ky,cy,sy)=>[(4,pT b1),(7,pT b5),(8,pT a0),(12,pT b0),(13,i64 ((qB 128 o1.1))),(14,i64 ((qB 128 (ze o1.1)))),(77,iN i)]) (fun (i,ky,cy,sy) w'=>(i≤63∧Sl EG ky (kG 128 (ze o1.1++[(⟨3,o1.2.getD 63 0,0⟩:Gt)]) (qB 128 (ze o1.1)) o1.2 i).1 cy sy)∧Hp No w w' [(rC b5 #[iN 128,sO ky (List.length ((kG 128 (ze o1.1++[(⟨3,o1.2.getD 63 0,0⟩:Gt)]) (qB 128 (ze o1.1)) o1.2 i).1)) cy,RA] 334),(ky,wA EG 345 ((kG 128 (ze o1.1++[(⟨3,o1.2.getD 63 0,0⟩:Gt)]) (qB 128 (ze o1.1)) o1.2 i).1) sy),(rX b0 EI (vC ((kG 128 (ze o1.1++[(⟨3,o1.2.getD 63 0,0⟩:Gt)]) (qB 128 (ze o1.1)) o1.2 i).2)) 336),(rX a0 EI (oC o1.2) 337),(rC b1 x1 218)]) (fun (i,ky,cy,sy)=>63-i) ((0,F1,G1,H1)) ?_ ?_ ?_
  ·exact kp
  ·exact ⟨⟨om,I1⟩,K1⟩
  rintro ⟨i,ky,cy,sy⟩ ρ L1 ⟨⟨hq2,hSy⟩,J0⟩
  have hre:=aI 128 (ze o1.1++[(⟨3,o1.2.getD 63 0,0⟩:Gt)]) (qB 128 (ze o1.1)) o1.2 i
  have hgl:(ze o1.1++[(⟨3,o1.2.getD 63 0,0⟩:Gt)]).length=o1.1.length+2:=by rw [List.length_append,hzl]; rfl
  have hpl:(vC (kG 128 (ze o1.1++[(⟨3,o1.2.getD 63 0,0⟩:Gt)]) (qB 128 (ze o1.1)) o1.2 i).2).length=64:=wF (by rw [hre.2]; omega)
  refine go 1 ?_
  refine lA (((i:Nat):Int)<(63:Int)) rfl (fun M1=>?_) (fun M1=>?_)
  ·refine go 8 ?_
   refine sq ((fE (E:=EI) (l:=oC o1.2) (j:=i) (a:=(oC o1.2).getD i 0) xE (J0.get (k:=3) rfl) (rB om) rfl rfl).as (v':=i64 (o1.2.getD i 0)) (by exact congrArg i64 (UQ om))) ?_
   have N1:=J0.as (L':=(_::_::[(rX b0 EI (vC ((kG 128 (ze o1.1++[(⟨3,o1.2.getD 63 0,0⟩:Gt)]) (qB 128 (ze o1.1)) o1.2 i).2)) 336),(rX a0 EI (oC o1.2) 337),(rC b1 x1 218)])) rfl
   refine cl (VB b5 128 ky cy sy ((kG 128 (ze o1.1++[(⟨3,o1.2.getD 63 0,0⟩:Gt)]) (qB 128 (ze o1.1)) o1.2 i).1) hSy om om (2:Int) (qB 128 (ze o1.1)) (o1.2.getD i 0) [(rX b0 EI (vC ((kG 128 (ze o1.1++[(⟨3,o1.2.getD 63 0,0⟩:Gt)]) (qB 128 (ze o1.1)) o1.2 i).2)) 336),(rX a0 EI (oC o1.2) 337),(rC b1 x1 218)] w L1 N1) ?_
   rintro wv110 H2 ⟨hwv111,j0,K0,L0,O1,P1⟩
   obtain ⟨I2,M0⟩:∃ q,q=qB 128 ((kG 128 (ze o1.1++[(⟨3,o1.2.getD 63 0,0⟩:Gt)]) (qB 128 (ze o1.1)) o1.2 i).1):=⟨_,rfl⟩
   rw [← M0] at hwv111
   subst hwv111
   have J2:=P1.a5 rfl
   refine go 2 ?_
   intro Q1 R1 K2
   refine go 2 ?_
   subst M0
   have N0:(kG 128 (ze o1.1++[(⟨3,o1.2.getD 63 0,0⟩:Gt)]) (qB 128 (ze o1.1)) o1.2 i).1++[(⟨(2:Int),(qB 128 (ze o1.1)),o1.2.getD i 0⟩:Gt)]=(kG 128 (ze o1.1++[(⟨3,o1.2.getD 63 0,0⟩:Gt)]) (qB 128 (ze o1.1)) o1.2 (i+1)).1:=by rfl
   have O0:=O1
   rw [N0] at O0
   have P0:Hp No w Q1 [(rC b5 #[iN 128,sO j0 (List.length ((kG 128 (ze o1.1++[(⟨3,o1.2.getD 63 0,0⟩:Gt)]) (qB 128 (ze o1.1)) o1.2 (i+1)).1)) K0,RA] 334),(j0,wA EG 345 ((kG 128 (ze o1.1++[(⟨3,o1.2.getD 63 0,0⟩:Gt)]) (qB 128 (ze o1.1)) o1.2 (i+1)).1) L0),(rX b0 EI ((vC ((kG 128 (ze o1.1++[(⟨3,o1.2.getD 63 0,0⟩:Gt)]) (qB 128 (ze o1.1)) o1.2 i).2)).set i (qB 128 ((kG 128 (ze o1.1++[(⟨3,o1.2.getD 63 0,0⟩:Gt)]) (qB 128 (ze o1.1)) o1.2 i).1))) 336),(rX a0 EI (oC o1.2) 337),(rC b1 x1 218)]:=by rw [← N0]; exact R1
   rw [sE (l:=(kG 128 (ze o1.1++[(⟨3,o1.2.getD 63 0,0⟩:Gt)]) (qB 128 (ze o1.1)) o1.2 i).2) _ hre.2 om] at P0
   have S1:=P0.a5 rfl
   exact ⟨(i+1,j0,K0,L0),_,rfl,kp,⟨⟨om,O0⟩,S1⟩,vd⟩
  ·have hj:i=63:=by omega
   refine go 3 ?_
   intro L2 Q0 M2
   rw [MS (hre.2.trans hj)] at Q0
   have hrl:((kG 128 (ze o1.1++[(⟨3,o1.2.getD 63 0,0⟩:Gt)]) (qB 128 (ze o1.1)) o1.2 i).2++[qB 128 o1.1]).length=64:=by rw [List.length_append,hre.2,hj]; rfl
   refine mH ?_
   refine oD ?_
   refine AB ?_
   refine sR ?_
   refine sMv ?_
   refine sq (YI vF (b:=b0) (off:=0) rfl (vB rfl)) ?_
   refine sq (MB rfl) ?_
   refine sq (vA (off':=0) vF (by decide) (b:=b5) (off:=0) rfl om) ?_
   refine sq (vA (off':=2) vF (by decide) (b:=b5) (off:=0) rfl om) ?_
   refine GA (k:=0) (v:=.slice x2 64 64) (cs':=#[iN 128,sO ky (List.length ((kG 128 (ze o1.1++[(⟨3,o1.2.getD 63 0,0⟩:Gt)]) (qB 128 (ze o1.1)) o1.2 i).1)) cy,.slice x2 64 64]) Q0 rfl rfl rfl vF (by rfl) (MK rfl) (by exact vB rfl) (by rfl) ?_
   intro N2 T1 O2
   have R0:=T1.a5 rfl
   refine wS ?_
   refine sMv ?_
   refine sq (MB rfl) ?_
   refine sq (vA (off':=0) vF (by decide) (b:=b5) (off:=0) rfl om) ?_
   refine sq (kB (cs':=#[iN 128,sO ky (List.length ((kG 128 (ze o1.1++[(⟨3,o1.2.getD 63 0,0⟩:Gt)]) (qB 128 (ze o1.1)) o1.2 i).1)) cy,.slice x2 64 64]) vF vF (R0.get (k:=0) rfl) (off:=0) rfl (by exact vB rfl) (by rfl)) ?_
   refine GA (k:=4) (v:=.agg #[iN 128,sO ky (List.length ((kG 128 (ze o1.1++[(⟨3,o1.2.getD 63 0,0⟩:Gt)]) (qB 128 (ze o1.1)) o1.2 i).1)) cy,.slice x2 64 64]) (cs':=#[iN 128,sO ky (List.length ((kG 128 (ze o1.1++[(⟨3,o1.2.getD 63 0,0⟩:Gt)]) (qB 128 (ze o1.1)) o1.2 i).1)) cy,.slice x2 64 64]) R0 rfl rfl rfl vF (by rfl) (MK rfl) (by exact vB rfl) (by rfl) ?_
   intro P2 U1 Q2
   have S0:=U1.a5 rfl
   refine sAv ?_
   refine NI ?_
   refine RE ?_
   refine zP (rs:=[.cell 4 218,.tmp 5]) (vs:=[.agg #[iN 128,sO ky (List.length ((kG 128 (ze o1.1++[(⟨3,o1.2.getD 63 0,0⟩:Gt)]) (qB 128 (ze o1.1)) o1.2 i).1)) cy,.slice x2 64 64],.nilIface]) rfl ⟨kB (cs':=#[iN 128,sO ky (List.length ((kG 128 (ze o1.1++[(⟨3,o1.2.getD 63 0,0⟩:Gt)]) (qB 128 (ze o1.1)) o1.2 i).1)) cy,.slice x2 64 64]) vF vF (S0.get (k:=4) rfl) (off:=0) rfl (by exact vB rfl) (by rfl),⟨rfl,rfl⟩,trivial⟩ ?_
   subst hj
   rw [show (dT (PC fm 0))=_ from kW _,← ho1]
   exact ⟨_,rfl,ky,cy,sy,b0,rfl,hSy,(((S0.dropk 4).dropk 3).dropk 0)⟩
end Go.Proofs.YtljlkhobfdofhaaGreatDoor.Cm
