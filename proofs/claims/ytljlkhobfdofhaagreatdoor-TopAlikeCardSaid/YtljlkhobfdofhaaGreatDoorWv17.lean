/- What the claim has need of: Ms3. -/
import Derived.Test.YtljlkhobfdofhaaGreatDoorWv16
set_option linter.unusedVariables false
set_option maxHeartbeats 16000000
set_option maxRecDepth 20000
namespace Go.Proofs.YtljlkhobfdofhaaGreatDoor.Ms
open Go Vc Er Ek Circ Mi
open Co Cm
theorem cX:mC Tryz.prog 105 3=some (3,1,3):=by kernel_rfl
theorem bX:mC Tryz.prog 105 4=some (4,1,57):=by kernel_rfl
theorem HV:QA Tryz.prog 57=true:=by kernel_rfl
theorem und3:Tryz.prog.underlying 3=some (.int .i64):=by kernel_rfl
theorem und57:Tryz.prog.underlying 57=some (.int .u64):=by kernel_rfl
theorem WW (x:BitVec 64) (k:Int) (w:World):Ca 169 [u64 x,i64 k] w fun v w'=>v=u64 (FJ x k)∧Ext w w':=by
 have H:=eA No w
 refine enter (n:=12) Tryz.func169 rfl rfl (vB rfl) ?_
 refine go 6 ?_
 refine sq (r_shrI rfl rfl om om) ?_
 refine go 2 ?_
 exact ⟨_,rfl,rfl,H.chg⟩
theorem rS (x:BitVec 64) (w:World):Ca 170 [u64 x] w fun v w'=>v=u64 (QI x)∧Ext w w':=by
 have H:=eA No w
 refine enter (n:=6) Tryz.func170 rfl rfl (vB rfl) ?_
 refine go 3 ?_
 refine sq (eZ (a:=x&&&(1#64)) rfl) ?_
 refine go 1 ?_
 exact ⟨_,rfl,rfl,H.chg⟩
theorem AQ (a b c d:BitVec 64) (w:World):Ca 49 [.agg (xA E64 [a,b]).toArray,.agg (xA E64 [c,d]).toArray] w fun v w'=>v=.agg (xA E64 [(a^^^c),(b^^^d)]).toArray∧Ext w w':=by
 have H:=eA No w
 refine enter (n:=16) Tryz.func49 rfl rfl (vB rfl) ?_
 refine go 1 ?_
 intro b1 w2 b0 H3 c0
 refine go 1 ?_
 intro b5 w6 d0 H7 e0
 refine go 1 ?_
 intro b9 f0 h0 i0 j0
 refine go 12 ?_
 intro k0 a0 l0
 refine go 0 ?_
 exact ⟨_,rfl,rfl,a0.chg⟩
theorem rO (o:Mo) (me:Int) (hm:0≤me∧me≤1) (a b:BitVec 64) (hk:0≤o.k) (w:World):Ca 96 [.agg #[i64 (o.kd),i64 (o.a),i64 (o.b),i64 (o.k),u64 (o.c),i64 (o.pt)],i64 me,u64 a,u64 b] w fun v w'=>v=u64 (tE o me a b)∧Ext w w':=by
 have H:=eA No w
 refine enter (n:=92) Tryz.func96 rfl rfl (vB rfl) ?_
 refine go 1 ?_
 intro b1 w2 u0 H3 w0
 refine go 5 ?_
 refine lA ((o.kd:Int)=(2:Int)) rfl (fun d0=>?_) (fun d0=>?_)
 ·refine go 7 ?_
  exact ⟨_,rfl,congrArg u64 (by unfold tE DL; simp [d0]),H3.chg⟩
 ·refine go 2 ?_
  refine lA ((o.kd:Int)=(3:Int)) rfl (fun e0=>?_) (fun e0=>?_)
  ·refine go 4 ?_
   exact ⟨_,rfl,congrArg u64 (by unfold tE DL; simp [e0]),H3.chg⟩
  ·refine go 2 ?_
   refine lA ((o.kd:Int)=(4:Int)) rfl (fun f0=>?_) (fun f0=>?_)
   ·refine go 4 ?_
    exact ⟨_,rfl,congrArg u64 (by unfold tE DL; simp [f0]),H3.chg⟩
   ·refine go 2 ?_
    refine lA ((o.kd:Int)=(5:Int)) rfl (fun h0=>?_) (fun h0=>?_)
    ·refine go 5 ?_
     exact ⟨_,rfl,congrArg u64 (by unfold tE DL; simp [h0]),H3.chg⟩
    ·refine go 2 ?_
     refine lA ((o.kd:Int)=(7:Int)) rfl (fun i0=>?_) (fun i0=>?_)
     ·refine go 4 ?_
      exact ⟨_,rfl,congrArg u64 (by unfold tE DL; simp [i0]),H3.chg⟩
     ·refine go 2 ?_
      refine lA ((o.kd:Int)=(8:Int)) rfl (fun j0=>?_) (fun j0=>?_)
      ·refine go 9 ?_
       exact ⟨_,rfl,congrArg u64 (by unfold tE DL; simp [j0]),H3.chg⟩
      ·refine go 2 ?_
       refine lA ((o.kd:Int)=(10:Int)) rfl (fun k0=>?_) (fun k0=>?_)
       ·refine go 5 ?_
        exact ⟨_,rfl,congrArg u64 (by unfold tE DL; simp [k0]),H3.chg⟩
       ·refine go 2 ?_
        refine lA ((o.kd:Int)=(11:Int)) rfl (fun l0=>?_) (fun l0=>?_)
        ·refine go 2 ?_
         refine sq ((FA (v:=i64 (o.k)) vF (H3.get (k:=0) rfl) (off:=3) rfl (by rfl)).as (v':=iN o.k.toNat) (by exact congrArg i64 (Int.toNat_of_nonneg hk).symm)) ?_
         refine go 2 ?_
         exact ⟨_,rfl,congrArg u64 (by unfold tE DL; simp [l0]),H3.chg⟩
        ·refine go 2 ?_
         refine lA ((o.kd:Int)=(12:Int)) rfl (fun m0=>?_) (fun m0=>?_)
         ·refine go 2 ?_
          refine sq ((FA (v:=i64 (o.k)) vF (H3.get (k:=0) rfl) (off:=3) rfl (by rfl)).as (v':=iN o.k.toNat) (by exact congrArg i64 (Int.toNat_of_nonneg hk).symm)) ?_
          refine go 2 ?_
          exact ⟨_,rfl,congrArg u64 (by unfold tE DL; simp [m0]),H3.chg⟩
         ·refine go 2 ?_
          refine lA ((o.kd:Int)=(13:Int)) rfl (fun n0=>?_) (fun n0=>?_)
          ·refine go 3 ?_
           refine cl (WW a o.k w2) ?_
           rintro _ w5 ⟨rfl,p0⟩
           have H7:=H3.ext p0
           refine go 1 ?_
           exact ⟨_,rfl,congrArg u64 (by unfold tE DL; simp [n0]),H7.chg⟩
          ·refine go 2 ?_
           refine lA ((o.kd:Int)=(14:Int)) rfl (fun o0=>?_) (fun o0=>?_)
           ·refine go 1 ?_
            refine cl (rS a w2) ?_
            rintro _ w8 ⟨rfl,q0⟩
            have r0:=H3.ext q0
            refine go 1 ?_
            exact ⟨_,rfl,congrArg u64 (by unfold tE DL; simp [o0]),r0.chg⟩
           ·refine go 2 ?_
            refine lA ((o.kd:Int)=(16:Int)) rfl (fun b0=>?_) (fun b0=>?_)
            ·refine go 2 ?_
             refine sq ((FA (v:=i64 (o.k)) vF (H3.get (k:=0) rfl) (off:=3) rfl (by rfl)).as (v':=iN o.k.toNat) (by exact congrArg i64 (Int.toNat_of_nonneg hk).symm)) ?_
             refine go 7 ?_
             refine lA ((me:Int)≠o.pt) rfl (fun a0=>?_) (fun a0=>?_)
             ·refine go 1 ?_
              exact ⟨_,rfl,congrArg u64 (by unfold tE DL; simp [b0,a0]),H3.chg⟩
             ·refine go 2 ?_
              exact ⟨_,rfl,congrArg u64 (by unfold tE DL; simp [b0,a0]),H3.chg⟩
            ·refine go 2 ?_
             refine lA ((o.kd:Int)=(15:Int)) rfl (fun c0=>?_) (fun c0=>?_)
             ·refine go 4 ?_
              refine lA ((me:Int)≠o.pt) rfl (fun a0=>?_) (fun a0=>?_)
              ·refine go 1 ?_
               exact ⟨_,rfl,congrArg u64 (by unfold tE DL; simp [c0,a0]),H3.chg⟩
              ·refine go 2 ?_
               exact ⟨_,rfl,congrArg u64 (by unfold tE DL; simp [c0,a0]),H3.chg⟩
             ·refine go 2 ?_
              exact ⟨_,rfl,congrArg u64 (by unfold tE DL; simp [d0,e0,f0,h0,i0,j0,k0,l0,m0,n0,o0,b0,c0]),H3.chg⟩
end Go.Proofs.YtljlkhobfdofhaaGreatDoor.Ms
