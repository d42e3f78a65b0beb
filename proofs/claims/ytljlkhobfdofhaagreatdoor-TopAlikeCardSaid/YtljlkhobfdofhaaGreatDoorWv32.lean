/- What the claim has need of: TxP5, TopF. -/
import Derived.Test.YtljlkhobfdofhaaGreatDoorWv23
import Derived.Test.YtljlkhobfdofhaaGreatDoorWv24
import Derived.Test.YtljlkhobfdofhaaGreatDoorWv25
import Derived.Test.YtljlkhobfdofhaaGreatDoorWv26
import Derived.Test.YtljlkhobfdofhaaGreatDoorWv27
import Derived.Test.YtljlkhobfdofhaaGreatDoorWv28
import Derived.Test.YtljlkhobfdofhaaGreatDoorWv29
import Derived.Test.YtljlkhobfdofhaaGreatDoorWv30
import Derived.Test.YtljlkhobfdofhaaGreatDoorWv31
set_option linter.unusedVariables false
set_option maxHeartbeats 16000000
set_option maxRecDepth 20000
namespace Go.Proofs.YtljlkhobfdofhaaGreatDoor.Rv
open Go Vc Mi Ta
set_option maxRecDepth 100000
theorem BS:HC X1 100000 1000 139 [.lst 6 (BE (pA 5 false))] M00 (fun v M=>LI (tS (pA 5 false) v M))=some (.un,M00):=by kernel_rfl
theorem qP:HC X1 100000 1000 74 [.lst 6 (BE (jA (pA 5 false)))] M00 (fun v M=>LI (uS v M))=some (.un,M00):=by kernel_rfl
end Go.Proofs.YtljlkhobfdofhaaGreatDoor.Rv
namespace Go.Proofs.YtljlkhobfdofhaaGreatDoor.Ta
open Go Vc Mi Circ Co Rv Tp
set_option maxRecDepth 100000
theorem JD {ops:List Mo} (h:Mi.Good ops 65536 65536) (hk:∀ i,i<ops.length→(ops.getD i UA).kd=1→(ops.getD i UA).k=0):Mi.Good ops 1 1:=by
 refine ⟨by decide,by decide,by decide,by decide,h.len,fun i hi=>?_⟩
 have g:=h.at' i hi
 have hki:=hk i hi
 generalize ops.getD i UA=o at g hki ⊢
 by_cases h1:o.kd=1
 ·have hk0:=hki h1
  have g1:=g.ok
  have g2:=g.p
  have g3:=g.a
  have g4:=g.b
  have g5:=g.c
  unfold zA at g1 g2 g3 g4 g5
  rw [if_pos h1] at g1 g2 g3 g4 g5
  by_cases hp:o.pt≠0∧o.pt≠1
  ·rw [if_pos hp] at g1; cases g1
  ·rw [if_neg hp] at g1 g2 g3 g4 g5
   have e:zA o 1 1=(⟨0,0,1,1,false,true,1⟩,true):=by
    unfold zA GW
    rw [if_pos h1,if_neg hp]
    split<;>rfl
   exact ⟨by rw [e],g.told,by rw [e]; exact g3,by rw [e]; exact g4,.inr hk0,by rw [e]; exact g5,by rw [e]; exact g2⟩
 ·have e:zA o 1 1=zA o 65536 65536:=by unfold zA; rw [if_neg h1,if_neg h1]
  have e2:yP ops o 1 1=yP ops o 65536 65536:=by unfold yP; rw [e]
  exact ⟨by rw [e]; exact g.ok,g.told,by rw [e]; exact g.a,by rw [e]; exact g.b,by rw [e2]; exact g.k,by rw [e]; exact g.c,by rw [e]; exact g.p⟩
theorem has_c:∃ fn c,pg.funcs[(11:Nat)]?=some fn∧fn.body=some c:=⟨_,_,(by kernel_rfl:pg.funcs[(11:Nat)]?=some Tryz.f11),rfl⟩
theorem has_a:∃ fn c,pg.funcs[(7:Nat)]?=some fn∧fn.body=some c:=⟨_,_,(by kernel_rfl:pg.funcs[(7:Nat)]?=some Tryz.f7),rfl⟩
theorem tst_c:tst fm 11=true:=by kernel_rfl
theorem tst_a:tst fm 7=true:=by kernel_rfl
abbrev UT (l:List Mo) (m:Int) (T:ByteArray):Prop:=∀ w₀ w,Gl w₀→Ext w₀ w→Calls Tryz.prog 11 [.string T,.agg #[.bool false,.bool false,.bool false,i64 m]].toArray w (tQ fun v w'=>∃ (ad:Option Addr) (c:Nat) (key:Option Nat) (o:Obj) (r0 r1 r2 r3 r4 r5 r6 r7 r8 r9 r10 r11 r12:Value),v=.tuple #[.agg #[.slice ad l.length c,i64 1,i64 1,r0,r1,r2,r3,r4,r5,r6,r7,r8,r9,r10,r11,r12],.nilIface]∧(∀ q∈[r0,r1,r2,r3,r4,r5,r6,r7,r8,r9,r10,r11,r12],q.oneCell'=true)∧Hp No w w' [(key,o)]∧∀ w2,Ext w₀ w2→(∀ b,key=some b→w2.heap[b]?=some o)→Rd cH w2 ad l)
theorem xC {X:Kw} (hX:XS X) {bs:List UInt8} {m:Int} {l:List Mo} (h:HC X 100000 1000 11 [.str bs,.agg [.bool false,.bool false,.bool false,.int .i64 m]] M00 (fun v M=>LI (UE l v M))=some (.un,M00)) (hl:l≠[]) {T:ByteArray} (hT:T=⟨⟨bs⟩⟩) (w₀ w:World) (hG:Gl w₀) (hE:Ext w₀ w) :
  Calls Tryz.prog 11 [.string T,.agg #[.bool false,.bool false,.bool false,i64 m]].toArray w (tQ fun v w'=>∃ (ad:Option Addr) (c:Nat) (key:Option Nat) (o:Obj) (r0 r1 r2 r3 r4 r5 r6 r7 r8 r9 r10 r11 r12:Value),v=.tuple #[.agg #[.slice ad l.length c,i64 1,i64 1,r0,r1,r2,r3,r4,r5,r6,r7,r8,r9,r10,r11,r12],.nilIface]∧(∀ q∈[r0,r1,r2,r3,r4,r5,r6,r7,r8,r9,r10,r11,r12],q.oneCell'=true)∧Hp No w w' [(key,o)]∧∀ w2,Ext w₀ w2→(∀ b,key=some b→w2.heap[b]?=some o)→Rd cH w2 ad l):=by
 subst hT
 refine (FL hX h (us:=[.string ⟨⟨bs⟩⟩,.agg #[.bool false,.bool false,.bool false,i64 m]]) (fun K=>?_) has_c tst_c w (hE.gl hG)).mono fun e w' ⟨u,he,hx,v,M',J,h1,h2,h3,h4,h5⟩=>?_
 ·simp only [IVt,IV,IVs]
  exact ⟨_,_,rfl,rfl,_,_,rfl,⟨[.bool false,.bool false,.bool false,.int .i64 m],rfl,_,_,rfl,rfl,rfl,_,_,rfl,rfl,rfl,_,_,rfl,rfl,rfl,_,_,rfl,rfl,rfl,rfl⟩,rfl⟩
 ·obtain ⟨ad,c,key,o,r,q1,q2,q3,q4,q5⟩:=uV h1 h2 h3 hl hG hE hx h4 h5
  refine ⟨u,he,?_⟩
  match r,q2,q1,q3 with
  | [r0,r1,r2,r3,r4,r5,r6,r7,r8,r9,r10,r11,r12],_,q1,q3=>exact ⟨ad,c,key,o,r0,r1,r2,r3,r4,r5,r6,r7,r8,r9,r10,r11,r12,q1,q3,q4,q5⟩
theorem GF (w:World) (hG:Gl w):Calls Tryz.prog 7 [].toArray w (tQ fun v w'=>v=.bool true∧Ext w w'):=by
 refine (FL nG HS (us:=[]) (fun K=>by simp only [IVt]) has_a tst_a w hG).mono fun e w' ⟨u,he,hx,v,M',J,h1,h2,_⟩=>⟨u,he,?_,hx⟩
 unfold trueB at h1
 split at h1
 ·subst h1
  simpa only [IV] using h2
 ·cases h1
theorem gd0a:goodB (jA (pA 0 false))=true:=by kernel_rfl
theorem k00a:((List.range (jA (pA 0 false)).length).all fun i=>!decide (((jA (pA 0 false)).getD i UA).kd=1) || decide (((jA (pA 0 false)).getD i UA).k=0))=true:=by kernel_rfl
theorem sg0a:sumF fG (jA (pA 0 false))=0:=by kernel_rfl
theorem gg0a:Mi.Good (jA (pA 0 false)) 1 1:=JD (NC gd0a) fun i hi h1=>by
 have:=(List.all_eq_true.1 k00a) i (List.mem_range.2 hi)
 rw [decide_eq_true h1] at this
 simpa using this
theorem ne0a:(jA (pA 0 false))≠[]:=fun e=>by have:=ln0a; rw [e] at this; cases this
theorem cp0a:UT (jA (pA 0 false)) 0 (IN 0):=fun w₀ w hG hE=>xC nG SY ne0a (by kernel_rfl) w₀ w hG hE
theorem gd0b:goodB (jA (pA 0 true))=true:=by kernel_rfl
theorem k00b:((List.range (jA (pA 0 true)).length).all fun i=>!decide (((jA (pA 0 true)).getD i UA).kd=1) || decide (((jA (pA 0 true)).getD i UA).k=0))=true:=by kernel_rfl
theorem sg0b:sumF fG (jA (pA 0 true))=1:=by kernel_rfl
theorem gg0b:Mi.Good (jA (pA 0 true)) 1 1:=JD (NC gd0b) fun i hi h1=>by
 have:=(List.all_eq_true.1 k00b) i (List.mem_range.2 hi)
 rw [decide_eq_true h1] at this
 simpa using this
theorem ne0b:(jA (pA 0 true))≠[]:=fun e=>by have:=ln0b; rw [e] at this; cases this
theorem cp0b:UT (jA (pA 0 true)) 1 (IN 0):=fun w₀ w hG hE=>xC nG RY ne0b (by kernel_rfl) w₀ w hG hE
theorem gd1a:goodB (jA (pA 1 false))=true:=by kernel_rfl
theorem k01a:((List.range (jA (pA 1 false)).length).all fun i=>!decide (((jA (pA 1 false)).getD i UA).kd=1) || decide (((jA (pA 1 false)).getD i UA).k=0))=true:=by kernel_rfl
theorem sg1a:sumF fG (jA (pA 1 false))=0:=by kernel_rfl
theorem gg1a:Mi.Good (jA (pA 1 false)) 1 1:=JD (NC gd1a) fun i hi h1=>by
 have:=(List.all_eq_true.1 k01a) i (List.mem_range.2 hi)
 rw [decide_eq_true h1] at this
 simpa using this
theorem ne1a:(jA (pA 1 false))≠[]:=fun e=>by have:=ln1a; rw [e] at this; cases this
theorem cp1a:UT (jA (pA 1 false)) 0 (IN 1):=fun w₀ w hG hE=>(SH tP).elim fun s ⟨x,hs⟩=>xC (UR (fun a M ha=>KJ GS ha) hs) (QY s x) ne1a (by kernel_rfl) w₀ w hG hE
theorem gd1b:goodB (jA (pA 1 true))=true:=by kernel_rfl
theorem k01b:((List.range (jA (pA 1 true)).length).all fun i=>!decide (((jA (pA 1 true)).getD i UA).kd=1) || decide (((jA (pA 1 true)).getD i UA).k=0))=true:=by kernel_rfl
theorem sg1b:sumF fG (jA (pA 1 true))=1:=by kernel_rfl
theorem gg1b:Mi.Good (jA (pA 1 true)) 1 1:=JD (NC gd1b) fun i hi h1=>by
 have:=(List.all_eq_true.1 k01b) i (List.mem_range.2 hi)
 rw [decide_eq_true h1] at this
 simpa using this
theorem ne1b:(jA (pA 1 true))≠[]:=fun e=>by have:=ln1b; rw [e] at this; cases this
theorem cp1b:UT (jA (pA 1 true)) 1 (IN 1):=fun w₀ w hG hE=>xC nG PY ne1b (by kernel_rfl) w₀ w hG hE
theorem gd2a:goodB (jA (pA 2 false))=true:=by kernel_rfl
theorem k02a:((List.range (jA (pA 2 false)).length).all fun i=>!decide (((jA (pA 2 false)).getD i UA).kd=1) || decide (((jA (pA 2 false)).getD i UA).k=0))=true:=by kernel_rfl
theorem sg2a:sumF fG (jA (pA 2 false))=0:=by kernel_rfl
theorem gg2a:Mi.Good (jA (pA 2 false)) 1 1:=JD (NC gd2a) fun i hi h1=>by
 have:=(List.all_eq_true.1 k02a) i (List.mem_range.2 hi)
 rw [decide_eq_true h1] at this
 simpa using this
theorem ne2a:(jA (pA 2 false))≠[]:=fun e=>by have:=ln2a; rw [e] at this; cases this
theorem cp2a:UT (jA (pA 2 false)) 0 (IN 2):=fun w₀ w hG hE=>(SH sP).elim fun s ⟨x,hs⟩=>xC (UR (fun a M ha=>KJ FS ha) hs) (OY s x) ne2a (by kernel_rfl) w₀ w hG hE
theorem gd2b:goodB (jA (pA 2 true))=true:=by kernel_rfl
theorem k02b:((List.range (jA (pA 2 true)).length).all fun i=>!decide (((jA (pA 2 true)).getD i UA).kd=1) || decide (((jA (pA 2 true)).getD i UA).k=0))=true:=by kernel_rfl
theorem sg2b:sumF fG (jA (pA 2 true))=1:=by kernel_rfl
theorem gg2b:Mi.Good (jA (pA 2 true)) 1 1:=JD (NC gd2b) fun i hi h1=>by
 have:=(List.all_eq_true.1 k02b) i (List.mem_range.2 hi)
 rw [decide_eq_true h1] at this
 simpa using this
theorem ne2b:(jA (pA 2 true))≠[]:=fun e=>by have:=ln2b; rw [e] at this; cases this
theorem cp2b:UT (jA (pA 2 true)) 1 (IN 2):=fun w₀ w hG hE=>xC nG NY ne2b (by kernel_rfl) w₀ w hG hE
theorem gd3a:goodB (jA (pA 3 false))=true:=by kernel_rfl
theorem k03a:((List.range (jA (pA 3 false)).length).all fun i=>!decide (((jA (pA 3 false)).getD i UA).kd=1) || decide (((jA (pA 3 false)).getD i UA).k=0))=true:=by kernel_rfl
theorem sg3a:sumF fG (jA (pA 3 false))=0:=by kernel_rfl
theorem gg3a:Mi.Good (jA (pA 3 false)) 1 1:=JD (NC gd3a) fun i hi h1=>by
 have:=(List.all_eq_true.1 k03a) i (List.mem_range.2 hi)
 rw [decide_eq_true h1] at this
 simpa using this
theorem ne3a:(jA (pA 3 false))≠[]:=fun e=>by have:=ln3a; rw [e] at this; cases this
theorem cp3a:UT (jA (pA 3 false)) 0 (IN 3):=fun w₀ w hG hE=>xC nG MY ne3a (by kernel_rfl) w₀ w hG hE
theorem gd3b:goodB (jA (pA 3 true))=true:=by kernel_rfl
theorem k03b:((List.range (jA (pA 3 true)).length).all fun i=>!decide (((jA (pA 3 true)).getD i UA).kd=1) || decide (((jA (pA 3 true)).getD i UA).k=0))=true:=by kernel_rfl
theorem sg3b:sumF fG (jA (pA 3 true))=1:=by kernel_rfl
theorem gg3b:Mi.Good (jA (pA 3 true)) 1 1:=JD (NC gd3b) fun i hi h1=>by
 have:=(List.all_eq_true.1 k03b) i (List.mem_range.2 hi)
 rw [decide_eq_true h1] at this
 simpa using this
theorem ne3b:(jA (pA 3 true))≠[]:=fun e=>by have:=ln3b; rw [e] at this; cases this
theorem cp3b:UT (jA (pA 3 true)) 1 (IN 3):=fun w₀ w hG hE=>xC nG LY ne3b (by kernel_rfl) w₀ w hG hE
theorem gd4a:goodB (jA (pA 4 false))=true:=by kernel_rfl
theorem k04a:((List.range (jA (pA 4 false)).length).all fun i=>!decide (((jA (pA 4 false)).getD i UA).kd=1) || decide (((jA (pA 4 false)).getD i UA).k=0))=true:=by kernel_rfl
theorem sg4a:sumF fG (jA (pA 4 false))=0:=by kernel_rfl
theorem gg4a:Mi.Good (jA (pA 4 false)) 1 1:=JD (NC gd4a) fun i hi h1=>by
 have:=(List.all_eq_true.1 k04a) i (List.mem_range.2 hi)
 rw [decide_eq_true h1] at this
 simpa using this
theorem ne4a:(jA (pA 4 false))≠[]:=fun e=>by have:=ln4a; rw [e] at this; cases this
theorem cp4a:UT (jA (pA 4 false)) 0 (IN 4):=fun w₀ w hG hE=>(SH rP).elim fun s ⟨x,hs⟩=>xC (UR (fun a M ha=>KJ DS ha) hs) (KY s x) ne4a (by kernel_rfl) w₀ w hG hE
theorem gd4b:goodB (jA (pA 4 true))=true:=by kernel_rfl
theorem k04b:((List.range (jA (pA 4 true)).length).all fun i=>!decide (((jA (pA 4 true)).getD i UA).kd=1) || decide (((jA (pA 4 true)).getD i UA).k=0))=true:=by kernel_rfl
theorem sg4b:sumF fG (jA (pA 4 true))=1:=by kernel_rfl
theorem gg4b:Mi.Good (jA (pA 4 true)) 1 1:=JD (NC gd4b) fun i hi h1=>by
 have:=(List.all_eq_true.1 k04b) i (List.mem_range.2 hi)
 rw [decide_eq_true h1] at this
 simpa using this
theorem ne4b:(jA (pA 4 true))≠[]:=fun e=>by have:=ln4b; rw [e] at this; cases this
theorem cp4b:UT (jA (pA 4 true)) 1 (IN 4):=fun w₀ w hG hE=>xC nG JY ne4b (by kernel_rfl) w₀ w hG hE
theorem gd5a:goodB (jA (pA 5 false))=true:=by kernel_rfl
theorem k05a:((List.range (jA (pA 5 false)).length).all fun i=>!decide (((jA (pA 5 false)).getD i UA).kd=1) || decide (((jA (pA 5 false)).getD i UA).k=0))=true:=by kernel_rfl
theorem sg5a:sumF fG (jA (pA 5 false))=0:=by kernel_rfl
theorem gg5a:Mi.Good (jA (pA 5 false)) 1 1:=JD (NC gd5a) fun i hi h1=>by
 have:=(List.all_eq_true.1 k05a) i (List.mem_range.2 hi)
 rw [decide_eq_true h1] at this
 simpa using this
theorem ne5a:(jA (pA 5 false))≠[]:=fun e=>by have:=ln5a; rw [e] at this; cases this
theorem cp5a:UT (jA (pA 5 false)) 0 (IN 5):=fun w₀ w hG hE=>(SH qP).elim fun s ⟨x,hs⟩=>xC (UR (fun a M ha=>KJ BS ha) hs) (IY s x) ne5a (by kernel_rfl) w₀ w hG hE
theorem gd5b:goodB (jA (pA 5 true))=true:=by kernel_rfl
theorem k05b:((List.range (jA (pA 5 true)).length).all fun i=>!decide (((jA (pA 5 true)).getD i UA).kd=1) || decide (((jA (pA 5 true)).getD i UA).k=0))=true:=by kernel_rfl
theorem sg5b:sumF fG (jA (pA 5 true))=1:=by kernel_rfl
theorem gg5b:Mi.Good (jA (pA 5 true)) 1 1:=JD (NC gd5b) fun i hi h1=>by
 have:=(List.all_eq_true.1 k05b) i (List.mem_range.2 hi)
 rw [decide_eq_true h1] at this
 simpa using this
theorem ne5b:(jA (pA 5 true))≠[]:=fun e=>by have:=ln5b; rw [e] at this; cases this
theorem cp5b:UT (jA (pA 5 true)) 1 (IN 5):=fun w₀ w hG hE=>xC nG HY ne5b (by kernel_rfl) w₀ w hG hE
theorem topAlike_all (x y:BitVec 64) (wh:Int) (w:World) (hG:Gl w):Calls Tryz.prog 5 [u64 x,u64 y,i64 wh].toArray w (tQ fun v w'=>v=.bool true∧Ext w w'):=by
 have h6:(BitVec.ofInt 64 wh % 6#64).toNat<6:=by
  rw [BitVec.toNat_umod]; exact Nat.mod_lt _ (by decide)
 have hj:(BitVec.ofInt 64 wh % 6#64).toInt=(((BitVec.ofInt 64 wh % 6#64).toNat:Nat):Int):=by
  rw [BitVec.toInt_eq_toNat_cond,if_pos (by omega)]
 generalize (BitVec.ofInt 64 wh % 6#64).toNat=j at h6 hj
 rcases (show j=0∨j=1∨j=2∨j=3∨j=4∨j=5 by omega) with rfl | rfl | rfl | rfl | rfl | rfl
 ·exact RD (jA (pA 0 false)) (jA (pA 0 true)) 0 wh x y (rG 0 x y) hj h6 GF cp0a gg0a (by rw [ln0a]; decide) (fun hx=>ans0a hx) cp0b gg0b (by rw [ln0b]; decide) (fun hx=>ans0b hx) (by rw [WB,sg0a]) (by rw [WB,sg0b]; decide) w hG
 ·exact RD (jA (pA 1 false)) (jA (pA 1 true)) 1 wh x y (rG 1 x y) hj h6 GF cp1a gg1a (by rw [ln1a]; decide) (fun hx=>ans1a hx) cp1b gg1b (by rw [ln1b]; decide) (fun hx=>ans1b hx) (by rw [WB,sg1a]) (by rw [WB,sg1b]; decide) w hG
 ·exact RD (jA (pA 2 false)) (jA (pA 2 true)) 2 wh x y (rG 2 x y) hj h6 GF cp2a gg2a (by rw [ln2a]; decide) (fun hx=>ans2a hx) cp2b gg2b (by rw [ln2b]; decide) (fun hx=>ans2b hx) (by rw [WB,sg2a]) (by rw [WB,sg2b]; decide) w hG
 ·exact RD (jA (pA 3 false)) (jA (pA 3 true)) 3 wh x y (rG 3 x y) hj h6 GF cp3a gg3a (by rw [ln3a]; decide) (fun hx=>ans3a hx) cp3b gg3b (by rw [ln3b]; decide) (fun hx=>ans3b hx) (by rw [WB,sg3a]) (by rw [WB,sg3b]; decide) w hG
 ·exact RD (jA (pA 4 false)) (jA (pA 4 true)) 4 wh x y (rG 4 x y) hj h6 GF cp4a gg4a (by rw [ln4a]; decide) (fun hx=>ans4a hx) cp4b gg4b (by rw [ln4b]; decide) (fun hx=>ans4b hx) (by rw [WB,sg4a]) (by rw [WB,sg4b]; decide) w hG
 ·exact RD (jA (pA 5 false)) (jA (pA 5 true)) 5 wh x y (rG 5 x y) hj h6 GF cp5a gg5a (by rw [ln5a]; decide) (fun hx=>ans5a hx) cp5b gg5b (by rw [ln5b]; decide) (fun hx=>ans5b hx) (by rw [WB,sg5a]) (by rw [WB,sg5b]; decide) w hG
end Go.Proofs.YtljlkhobfdofhaaGreatDoor.Ta
