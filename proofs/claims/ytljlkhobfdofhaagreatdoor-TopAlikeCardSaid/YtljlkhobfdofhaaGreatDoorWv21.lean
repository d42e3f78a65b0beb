/- What the claim has need of: Ms5. -/
import Derived.Test.YtljlkhobfdofhaaGreatDoorWv20
set_option linter.unusedVariables false
set_option maxHeartbeats 16000000
set_option maxRecDepth 20000
namespace Go.Proofs.YtljlkhobfdofhaaGreatDoor.Ms
open Go Vc Er Ek Circ Mi
open Co Cm
open Go.Proofs.YtljlkhobfdofhaaGreatDoor (Gb.kA)
open Gb (PA lx lw gS eS oL DF ME jD uC)
theorem arr61:UD Tryz.prog 61=some (2,1):=by kernel_rfl
theorem call96:rA Tryz.prog 96=true:=by kernel_rfl
theorem GV:QA Tryz.prog 60=true:=by kernel_rfl
theorem FU:qD Tryz.prog 60=some (57,1):=by kernel_rfl
theorem IM (o:Mo) (q:Int) (a b:W2) (in0 in1:List (BitVec 64)) (na0 na1:Option Addr) (nc0 nc1:Nat) (d0 d1:Dr) (δ:W2) (zs:List Mi.Lb) (os0 os1:List Ot) (hkp:KdP o in0.length in1.length) (w:World) (hG:Gl w) (hN0:Rd E64 w na0 in0) (hN1:Rd E64 w na1 in1) (hgar:o.kd=17→GarP o d0 d1 zs os0 os1 δ) (hrds:o.kd=17→Rd aB w d0.zs.a zs∧Rd UC w d0.os.a os0∧Rd UC w d1.os.a os1):Ca 50 [.agg #[i64 (o.kd),i64 (o.a),i64 (o.b),i64 (o.k),u64 (o.c),i64 (o.pt)],i64 q,.agg (xA E64 [a.1,a.2]).toArray,.agg (xA E64 [b.1,b.2]).toArray,.agg #[.slice na0 in0.length nc0,.slice na1 in1.length nc1],.agg #[u64 (d0.w),u64 (d0.t.a),u64 (d0.t.b),u64 (d0.t.c),.slice d0.os.a d0.os.n d0.os.c,.slice d0.zs.a d0.zs.n d0.zs.c,u64 (d1.w),u64 (d1.t.a),u64 (d1.t.b),u64 (d1.t.c),.slice d1.os.a d1.os.n d1.os.c,.slice d1.zs.a d1.zs.n d1.zs.c],.agg (xA E64 [(δ).1,(δ).2]).toArray] w fun v w'=>v=.agg (xA E64 [(tD Gb.kA o q a b in0 in1 d0.w d1.w d0.t d1.t δ zs os0 os1).1,(tD Gb.kA o q a b in0 in1 d0.w d1.w d0.t d1.t δ zs os0 os1).2]).toArray∧Ext w w':=by
 let x6:Array Value:=#[u64 0#64,u64 0#64,u64 0#64]
 let x5:Array Value:=#[u64 (d1.t.a),u64 (d1.t.b),u64 (d1.t.c)]
 let x4:Array Value:=#[u64 (d0.t.a),u64 (d0.t.b),u64 (d0.t.c)]
 let x3:Array Value:=#[.slice na0 in0.length nc0,.slice na1 in1.length nc1]
 let x2:Array Value:=#[i64 (o.kd),i64 (o.a),i64 (o.b),i64 (o.k),u64 (o.c),i64 (o.pt)]
 let x1:Array Value:=#[u64 (d0.w),u64 (d0.t.a),u64 (d0.t.b),u64 (d0.t.c),.slice d0.os.a d0.os.n d0.os.c,.slice d0.zs.a d0.zs.n d0.zs.c,u64 (d1.w),u64 (d1.t.a),u64 (d1.t.b),u64 (d1.t.c),.slice d1.os.a d1.os.n d1.os.c,.slice d1.zs.a d1.zs.n d1.zs.c]
 have hk:=hkp.k0
 have H:=eA No w
 refine enter (n:=211) Tryz.func50 rfl rfl (vB rfl) ?_
 refine go 1 ?_
 intro A0 R1 S1 T1 U1
 refine go 1 ?_
 intro B0 V1 W1 Y1 Z1
 refine go 1 ?_
 intro C0 c2 d2 e2 f2
 refine go 1 ?_
 intro h0 g2 h2 i2 j2
 refine go 1 ?_
 intro i0 k2 l2 m2 n2
 refine go 1 ?_
 intro D0 o2 p2 q2 r2
 refine go 1 ?_
 intro E0 t2 u2 O0 w2
 refine go 0 ?_
 let f0:List RW:=[(rX E0 E64 ([0#64,0#64]) 134),(rX D0 E64 ([(δ).1,(δ).2]) 130),(rC i0 x1 142),(rC h0 x3 61),(rX C0 E64 ([b.1,b.2]) 134),(rX B0 E64 ([a.1,a.2]) 134),(rC A0 x2 105)]
 let G0:=fun (b0:Nat)=>((rC b0 x6 137):RW)
 let H0:=fun (a0:Nat)=>((rC a0 x6 137):RW)
 let F0:=fun (a0:Nat)=>((rC a0 x4 137):RW)
 let P0:PD:=[EH false false false false fun _ _ _ _ w'=>Hp No w w' f0,EH true false false false fun v6 _ _ _ w'=>∃ a0,v6=pT a0∧Hp No w w' ((H0 a0)::f0),EH false true false false fun _ v7 _ _ w'=>∃ u0,v7=pT u0∧Hp No w w' ((rC u0 x6 137)::f0),EH true true false false fun v6 v7 _ _ w'=>∃ a0 b0,v6=pT a0∧v7=pT b0∧Hp No w w' ((G0 b0)::(H0 a0)::f0),EH true true true false fun v6 v7 _ _ w'=>∃ a0 b0,v6=pT a0∧v7=pT b0∧Hp No w w' ((G0 b0)::(F0 a0)::f0),EH true true true true fun v6 v7 _ _ w'=>∃ a0 b0,v6=pT a0∧v7=pT b0∧Hp No w w' ((rC b0 x5 137)::(F0 a0)::f0)]
 refine mB (m:=10) [0,1,3,0,8,24,0,0,199,511] [6,7,8,9] f0 P0 JA (fun _ e=>O0.ext e) zE (fun x0=>?_)
 refine gk 6 ?_
 refine WalkT.eff x0 0 ?_ ?_
 ·refine tB (fun r w0 uw hF hE=>?_) fun r w0 uw hF hE=>?_
  ·have y2:=hF.ext hE
   refine gW fun Q' hK=>?_
   refine go 1 ?_
   intro Q0 z2 A2 R0 C2
   exact hK _ _ (E_ Q0 (A_ rfl R0))
  ·obtain ⟨u0,e7,I0⟩:=hF
   replace I0:=I0.ext hE
   refine gW fun Q' hK=>?_
   refine go 1 ?_
   intro S0 D2 E2 T0 F2
   exact hK _ _ (E_ S0 (E_ u0 (A_ rfl (A_ e7 ((T0.pk 2 [1,0]))))))
 refine WalkT.eff x0 1 ?_ ?_
 ·refine tB (fun r w0 uw hF hE=>?_) fun r w0 uw hF hE=>?_
  ·have G2:=hF.ext hE
   refine gW fun Q' hK=>?_
   refine go 1 ?_
   intro U0 H2 I2 V0 J2
   exact hK _ _ (E_ U0 (A_ rfl V0))
  ·obtain ⟨a0,e6,J0⟩:=hF
   replace J0:=J0.ext hE
   refine gW fun Q' hK=>?_
   refine go 1 ?_
   intro W0 K2 L2 X0 M2
   exact hK _ _ (E_ a0 (E_ W0 (A_ e6 (A_ rfl X0))))
 refine WalkT.eff x0 2 ?_ ?_
 ·refine tA fun r w0 uw hF hE=>?_
  obtain ⟨a0,b0,e6,e7,K0⟩:=hF
  replace K0:=K0.ext hE
  dsimp only
  rw [e6]
  refine PE fun Q' hK=>?_
  refine go 1 ?_
  intro N2 Y0 O2
  exact hK _ (fun _=>(E_ a0 (E_ b0 (A_ e6 (A_ e7 Y0)))))
 refine WalkT.eff x0 3 ?_ ?_
 ·refine tA fun r w0 uw hF hE=>?_
  obtain ⟨a0,b0,e6,e7,L0⟩:=hF
  replace L0:=L0.ext hE
  dsimp only
  rw [e7]
  refine PE fun Q' hK=>?_
  refine go 1 ?_
  intro P2 Z0 Q2
  exact hK _ (fun _=>(E_ a0 (E_ b0 (A_ e6 (A_ e7 Z0)))))
 refine WalkT.nil fun r w0 y0 hF hE=>?_
 obtain ⟨a0,b0,e6,e7,e0⟩:=hF
 replace e0:=e0.ext hE
 dsimp only
 rw [e6,e7]
 dsimp only [f0,F0] at e0
 refine go 4 ?_
 refine lA ((o.kd:Int)=(1:Int)) rfl (fun k1=>?_) (fun k1=>?_)
 ·have R2:=hkp.k k1
  by_cases hp:o.pt=0
  ·refine go 2 ?_
   refine sq (LA (off':=0) (j:=0) vF (b:=i0) (off:=0) rfl rfl vo om om) (sq (vA (off':=0) vF (by decide) (b:=i0) (off:=0) rfl om) (sq (FA (v:=u64 (d0.w)) vF (e0.get (k:=4) rfl) (off:=0) rfl (by rfl)) ?_))
   refine go 2 ?_
   intro j0 S2 T2 e1 U2
   refine go 0 ?_
   let o0:List RW:=[(rC b0 x5 137),(rC a0 x4 137),(rX E0 E64 ([0#64,0#64]) 134),(rX D0 E64 ([(δ).1,(δ).2]) 130),(rC i0 x1 142),(rC h0 x3 61),(rX C0 E64 ([b.1,b.2]) 134),(rX B0 E64 ([a.1,a.2]) 134),(rC A0 x2 105)]
   let g1:PD:=[JF false false fun _ _ w'=>Hp No w w' ((rX j0 E64 ([0#64,0#64]) 134)::o0),JF true false fun _ _ w'=>Hp No w w' ((rX j0 E64 ([d0.w,0#64]) 134)::o0),JF true true fun _ _ w'=>Hp No w w' ((rX j0 E64 ([d0.w,(in0.getD o.k.toNat 0#64)-d0.w]) 134)::o0)]
   refine mB (m:=20) [0,1,0,4,12,0,0,64,192,448,0,1024,4032,8128,0,32704,35,65571,262143,524287] [17,19] o0 g1 JA (fun _ e=>e1.ext e) zE (fun M0=>?_)
   refine gk 8 ?_
   refine JC (pT h0) (fun _ uw hcx=>LA (off':=0) (j:=0) vF (b:=h0) (off:=0) rfl rfl vo om om) (JC (.slice na0 in0.length nc0) (fun _ uw hcx=>FA (v:=.slice na0 in0.length nc0) vF (hcx.get (k:=5) rfl) (off:=0) rfl (by rfl)) ?_)
   refine gk 6 ?_
   refine JC (pT j0) (fun _ uw hcx=>LA (off':=0) (j:=0) vF (b:=j0) (off:=0) rfl rfl vo om om) (WalkT.eff M0 0 ?_ ?_)
   ·refine tA fun r w0 uw hF hE=>?_
    have h1:=hF.ext hE
    refine PE fun Q' hK=>(GA (k:=0) (v:=u64 (d0.w)) (cs':=(xA E64 ([d0.w,0#64])).toArray) h1 rfl rfl rfl vF (by rfl) (by exact E64.one _) (by rw [List.size_toArray,qA]; show _≤_*1; first | omega | (simp only [List.length_set]; omega) | exact vB rfl | (simp<;>omega)) (by exact eH (E:=E64) rfl _ _ _) fun V2 i1 Y2=>?_)
    have j1:=i1.a10 rfl
    exact hK _ (fun _=>j1)
   refine JC (.pointer (some ⟨j0,1,none⟩)) (fun _ uw hcx=>LA (off':=1) (j:=1) vF (b:=j0) (off:=0) rfl rfl vo om om) (WalkT.eff M0 1 ?_ ?_)
   ·refine tA fun r w0 uw hF hE=>?_
    have m1:=hF.ext hE
    refine PE fun Q' hK=>(GA (k:=0) (v:=u64 ((in0.getD o.k.toNat 0#64)-d0.w)) (cs':=(xA E64 ([d0.w,(in0.getD o.k.toNat 0#64)-d0.w])).toArray) m1 rfl rfl rfl vF (by rfl) (by exact E64.one _) (by rw [List.size_toArray,qA]; show _≤_*1; first | omega | (simp only [List.length_set]; omega) | exact vB rfl | (simp<;>omega)) (by exact eH (E:=E64) rfl _ _ _) fun Z2 o1 c3=>?_)
    have p1:=o1.a10 rfl
    exact hK _ (fun _=>p1)
   refine WalkT.nil fun r w0 d3 hF hE=>?_
   have q1:=hF.ext hE
   dsimp only
   dsimp only [o0] at q1
   refine go 2 ?_
   intro e3 r1 f3
   refine go 0 ?_
   have hr:tD Gb.kA o q a b in0 in1 d0.w d1.w d0.t d1.t δ zs os0 os1=(d0.w,(in0.getD o.k.toNat 0#64)-d0.w):=by rw [tD,if_pos k1,if_pos hp]<;>rfl
   exact ⟨_,rfl,by rw [hr]<;>rfl,r1.chg⟩
  ·refine go 0 ?_
   have hp1:o.pt=1:=by omega
   refine go 2 ?_
   refine sq (LA (off':=6) (j:=1) vF (b:=i0) (off:=0) rfl rfl vo om om) (sq (vA (off':=6) vF (by decide) (b:=i0) (off:=6) rfl om) (sq (FA (v:=u64 (d1.w)) vF (e0.get (k:=4) rfl) (off:=6) rfl (by rfl)) ?_))
   refine go 2 ?_
   intro m0 g3 h3 t1 i3
   refine go 0 ?_
   let p0:List RW:=[(rC b0 x5 137),(rC a0 x4 137),(rX E0 E64 ([0#64,0#64]) 134),(rX D0 E64 ([(δ).1,(δ).2]) 130),(rC i0 x1 142),(rC h0 x3 61),(rX C0 E64 ([b.1,b.2]) 134),(rX B0 E64 ([a.1,a.2]) 134),(rC A0 x2 105)]
   let u1:PD:=[JF false false fun _ _ w'=>Hp No w w' ((rX m0 E64 ([0#64,0#64]) 134)::p0),JF true false fun _ _ w'=>Hp No w w' ((rX m0 E64 ([0#64,d1.w]) 134)::p0),JF true true fun _ _ w'=>Hp No w w' ((rX m0 E64 ([(in1.getD o.k.toNat 0#64)-d1.w,d1.w]) 134)::p0)]
   refine mB (m:=20) [0,1,0,4,12,0,0,64,192,448,0,1024,4032,8128,0,32704,35,65571,262143,524287] [17,19] p0 u1 JA (fun _ e=>t1.ext e) zE (fun N0=>?_)
   refine gk 8 ?_
   refine JC (.pointer (some ⟨h0,1,none⟩)) (fun _ uw hcx=>LA (off':=1) (j:=1) vF (b:=h0) (off:=0) rfl rfl vo om om) (JC (.slice na1 in1.length nc1) (fun _ uw hcx=>FA (v:=.slice na1 in1.length nc1) vF (hcx.get (k:=5) rfl) (off:=1) rfl (by rfl)) ?_)
   refine gk 6 ?_
   refine JC (.pointer (some ⟨m0,1,none⟩)) (fun _ uw hcx=>LA (off':=1) (j:=1) vF (b:=m0) (off:=0) rfl rfl vo om om) (WalkT.eff N0 0 ?_ ?_)
   ·refine tA fun r w0 uw hF hE=>?_
    have w1:=hF.ext hE
    refine PE fun Q' hK=>(GA (k:=0) (v:=u64 (d1.w)) (cs':=(xA E64 ([0#64,d1.w])).toArray) w1 rfl rfl rfl vF (by rfl) (by exact E64.one _) (by rw [List.size_toArray,qA]; show _≤_*1; first | omega | (simp only [List.length_set]; omega) | exact vB rfl | (simp<;>omega)) (by exact eH (E:=E64) rfl _ _ _) fun j3 y1 k3=>?_)
    have z1:=y1.a10 rfl
    exact hK _ (fun _=>z1)
   refine JC (pT m0) (fun _ uw hcx=>LA (off':=0) (j:=0) vF (b:=m0) (off:=0) rfl rfl vo om om) (WalkT.eff N0 1 ?_ ?_)
   ·refine tA fun r w0 uw hF hE=>?_
    have A1:=hF.ext hE
    refine PE fun Q' hK=>(GA (k:=0) (v:=u64 ((in1.getD o.k.toNat 0#64)-d1.w)) (cs':=(xA E64 ([(in1.getD o.k.toNat 0#64)-d1.w,d1.w])).toArray) A1 rfl rfl rfl vF (by rfl) (by exact E64.one _) (by rw [List.size_toArray,qA]; show _≤_*1; first | omega | (simp only [List.length_set]; omega) | exact vB rfl | (simp<;>omega)) (by exact eH (E:=E64) rfl _ _ _) fun l3 B1 m3=>?_)
    have C1:=B1.a10 rfl
    exact hK _ (fun _=>C1)
   refine WalkT.nil fun r w0 n3 hF hE=>?_
   have D1:=hF.ext hE
   dsimp only
   dsimp only [p0] at D1
   refine go 2 ?_
   intro o3 E1 p3
   refine go 0 ?_
   have hr:tD Gb.kA o q a b in0 in1 d0.w d1.w d0.t d1.t δ zs os0 os1=((in1.getD o.k.toNat 0#64)-d1.w,d1.w):=by rw [tD,if_pos k1,if_neg hp]<;>rfl
   exact ⟨_,rfl,by rw [hr]<;>rfl,E1.chg⟩
 ·refine go 2 ?_
  refine lA ((o.kd:Int)=(6:Int)) rfl (fun k6=>?_) (fun k6=>?_)
  ·refine go 0 ?_
   refine GB (K:=[none,none,none,none,none,none,none,none,none,none,none,none,none,none,none,none,none,none,none,none,none,none,none,none]) [0,1,0,4,15,0,32,127,0,256,1023,0,2048,0,8192,30720,0,65536,260096,0,524288,2095104,2047,8388607] (fun w'=>Ext y0 w') (fun w' w''=>Ext w' w'') JA (by kernel_rfl) (Ext.drew _) (fun _ _ h h'=>h.trans h') ?_ ?_
   ·exact LB (by decide)
   refine gk 24 ?_
   intro r274 q3 F1 hF
   have r3:=e0.ext F1
   refine go 30 ?_
   intro t3 G1 u3
   refine go 0 ?_
   have hr:tD Gb.kA o q a b in0 in1 d0.w d1.w d0.t d1.t δ zs os0 os1=(((d0.t.c+(((((a.1)+(a.2))-d0.t.a)-d1.t.a)*d0.t.b))+(((((b.1)+(b.2))-d0.t.b)-d1.t.b)*d0.t.a))+(((((a.1)+(a.2))-d0.t.a)-d1.t.a)*((((b.1)+(b.2))-d0.t.b)-d1.t.b)),(d1.t.c+(((((a.1)+(a.2))-d0.t.a)-d1.t.a)*d1.t.b))+(((((b.1)+(b.2))-d0.t.b)-d1.t.b)*d1.t.a)):=by rw [tD,if_neg k1,if_pos k6]<;>rfl
   exact ⟨_,rfl,by rw [hr]<;>rfl,G1.chg⟩
  ·refine go 2 ?_
   refine lA ((o.kd:Int)=(9:Int)) rfl (fun k9=>?_) (fun k9=>?_)
   ·refine go 0 ?_
    refine GB (K:=[none,none,none,none,none,none,none,none,none,none,none,none,none,none,none,none,none,none,none,none,none,none,none,none]) [0,1,0,4,15,0,32,127,0,256,1023,0,2048,0,8192,30720,0,65536,260096,0,524288,2095104,2047,8388607] (fun w'=>Ext y0 w') (fun w' w''=>Ext w' w'') JA (by kernel_rfl) (Ext.drew _) (fun _ _ h h'=>h.trans h') ?_ ?_
    ·exact LB (by decide)
    refine gk 24 ?_
    intro r329 w3 H1 hF
    have y3:=e0.ext H1
    refine go 30 ?_
    intro z3 I1 A3
    refine go 0 ?_
    have hr:tD Gb.kA o q a b in0 in1 d0.w d1.w d0.t d1.t δ zs os0 os1=(((d0.t.c^^^(((((a.1)^^^(a.2))^^^d0.t.a)^^^d1.t.a)&&&d0.t.b))^^^(((((b.1)^^^(b.2))^^^d0.t.b)^^^d1.t.b)&&&d0.t.a))^^^(((((a.1)^^^(a.2))^^^d0.t.a)^^^d1.t.a)&&&((((b.1)^^^(b.2))^^^d0.t.b)^^^d1.t.b)),(d1.t.c^^^(((((a.1)^^^(a.2))^^^d0.t.a)^^^d1.t.a)&&&d1.t.b))^^^(((((b.1)^^^(b.2))^^^d0.t.b)^^^d1.t.b)&&&d1.t.a)):=by rw [tD,if_neg k1,if_neg k6,if_pos k9]<;>rfl
    exact ⟨_,rfl,by rw [hr]<;>rfl,I1.chg⟩
   ·refine go 2 ?_
    refine lA ((o.kd:Int)=(18:Int)) rfl (fun q0=>?_) (fun q0=>?_)
    ·refine go 12 ?_
     intro B3 J1 C3
     refine go 0 ?_
     have hr:tD Gb.kA o q a b in0 in1 d0.w d1.w d0.t d1.t δ zs os0 os1=((a.1)+(a.2),(a.1)+(a.2)):=by rw [tD,if_neg k1,if_neg k6,if_neg k9,if_pos q0]<;>rfl
     exact ⟨_,rfl,by rw [hr]<;>rfl,J1.chg⟩
    ·refine go 2 ?_
     refine lA ((o.kd:Int)=(19:Int)) rfl (fun z0=>?_) (fun z0=>?_)
     ·refine go 12 ?_
      intro D3 K1 E3
      refine go 0 ?_
      have hr:tD Gb.kA o q a b in0 in1 d0.w d1.w d0.t d1.t δ zs os0 os1=((a.1)^^^(a.2),(a.1)^^^(a.2)):=by rw [tD,if_neg k1,if_neg k6,if_neg k9,if_neg q0,if_pos z0]<;>rfl
      exact ⟨_,rfl,by rw [hr]<;>rfl,K1.chg⟩
     ·refine go 2 ?_
      refine lA ((o.kd:Int)=(17:Int)) rfl (fun r0=>?_) (fun r0=>?_)
      ·have hgp:=hgar r0
       have hrd:=hrds r0
       refine go 6 ?_
       refine cl (XP o q a b d0 d1 zs os0 os1 δ hgp.cd hgp.ng hgp.zl hgp.l0 hgp.l1 hgp.z hgp.zc hgp.n0 hgp.c0 hgp.n1 hgp.c1 y0 gE (hrd.1.ext e0.chg) (hrd.2.1.ext e0.chg) (hrd.2.2.ext e0.chg)) ?_
       rintro _ F3 ⟨rfl,L1⟩
       have G3:=e0.ext L1
       refine go 1 ?_
       intro H3 M1 I3
       refine go 0 ?_
       have hr:tD Gb.kA o q a b in0 in1 d0.w d1.w d0.t d1.t δ zs os0 os1=(((lJ Gb.kA o q a b δ zs os0 os1)).1,((lJ Gb.kA o q a b δ zs os0 os1)).2):=by rw [tD,if_neg k1,if_neg k6,if_neg k9,if_neg q0,if_neg z0,if_pos r0]<;>rfl
       exact ⟨_,rfl,by rw [hr]<;>rfl,M1.chg⟩
      ·refine go 0 ?_
       refine GB (K:=[none,none,none,none,none,none,none,none,none,none,none,none,none]) [0,0,2,0,8,31,0,0,128,0,512,2047,4095,8191] (fun w'=>Ext y0 w') (fun w' w''=>Ext w' w'') JA (by kernel_rfl) (Ext.drew _) (fun _ _ h h'=>h.trans h') ?_ ?_
       ·exact LB (by decide)
       refine gk 5 ?_
       refine ⟨u64 (tE o (0:Int) (a.1) (b.1)),fun _ N1 J3 _=>Gives.call rfl (cA (vs:=[.agg x2,i64 0,u64 (a.1),u64 (b.1)]) vF rfl) (rO o (0:Int) (by decide) (a.1) (b.1) hk N1),?_⟩
       refine gk 5 ?_
       refine ⟨u64 (tE o (1:Int) (a.2) (b.2)),fun _ O1 K3 _=>Gives.call rfl (cA (vs:=[.agg x2,i64 1,u64 (a.2),u64 (b.2)]) vF rfl) (rO o (1:Int) (by decide) (a.2) (b.2) hk O1),?_⟩
       refine gk 1 ?_
       intro r374 L3 P1 hF
       have M3:=e0.ext P1
       refine go 1 ?_
       intro N3 Q1 O3
       refine go 0 ?_
       have hr:tD Gb.kA o q a b in0 in1 d0.w d1.w d0.t d1.t δ zs os0 os1=(tE o (0:Int) (a.1) (b.1),tE o (1:Int) (a.2) (b.2)):=by rw [tD,if_neg k1,if_neg k6,if_neg k9,if_neg q0,if_neg z0,if_neg r0]<;>rfl
       exact ⟨_,rfl,by rw [hr]<;>rfl,Q1.chg⟩
end Go.Proofs.YtljlkhobfdofhaaGreatDoor.Ms
