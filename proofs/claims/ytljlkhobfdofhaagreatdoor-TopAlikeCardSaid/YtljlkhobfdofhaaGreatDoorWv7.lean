/- What the claim has need of: RvK, RvL, RvM, RvN, RvO, RvP, RvQ, RvR, RvS, RvT, RvU. -/
import Derived.Test.YtljlkhobfdofhaaGreatDoorWv6
import Derived.Laws.CopyRow
import Derived.Laws.IdiomCopy
set_option linter.unusedVariables false
set_option maxHeartbeats 16000000
set_option maxRecDepth 20000
namespace Go.Proofs.YtljlkhobfdofhaaGreatDoor.Rv
open Go Vc
attribute [local irreducible] pg
section
variable {o:Oper} {E:En} {A:eF} {M:Me} {v:AV} {k:Kn} {r:Rs} {d:Option Nat} {t T S:TypeId} {pos:String} {after:Array Edge} {g:Option (Nat × Bool)} {x y z:Operand} {call:Cl} {I:Itp} {w:World}
theorem nQ (L:List UInt8) (l h:Nat) (h1:l≤h) (h2:h≤L.length):(ByteArray.mk ⟨L⟩).extract l h=⟨⟨(L.drop l).take (h-l)⟩⟩:=by
 apply ByteArray.ext
 rw [ByteArray.data_extract]
 apply Array.ext'
 simp [List.extract_eq_take_drop]
def Bd (n:Nat) (ρ:EA) (o:Option Operand) (l d:Nat):Prop:=(∃ q kl i,o=some q∧ev n ρ q=.int kl i∧i=(l:Int))∨(o=none∧l=d)
theorem vZ {n l d0:Nat} {ρ:EA} {o:Option Operand} {K:Kp} {β:Mp} (h:CV E d0 o=some l) (H:HO K β n E ρ o.toList):Bd n ρ o l d0:=by
 cases o with
 | none=>cases h; exact .inr ⟨rfl,rfl⟩
 | some q =>
  obtain ⟨a,h1,h2⟩:=gA (show mA (zD q E) PR=some l from h)
  obtain ⟨kk,rfl⟩:=MG h2
  have:=H q (by simp) _ h1
  simp only [IV] at this
  exact .inl ⟨q,kk,_,rfl,this,rfl⟩
theorem DP {n l h:Nat} {ρ:EA} {lo hi:Option Operand} {s:ByteArray} (hT:pg.underlying T=some .string) (hx:ev n ρ x=.string s) (hl:Bd n ρ lo l 0) (hh:Bd n ρ hi h s.size) (h1:l≤h) (h2:h≤s.size) :
  Runs pg n ρ ⟨d,.slice T x lo hi none,t,pos,after,g⟩ w (.string (s.extract l h)) w:=by
 have c1:(0:Int)≤(h:Int)∧(h:Int)≤(s.size:Int):=by omega
 have c2:(0:Int)≤(l:Int)∧(l:Int)≤(h:Int):=by omega
 have b1:(Instr.sliceBounds false s.size s.size (lo.map (ev n ρ)) (hi.map (ev n ρ)) none).run pg w=.ok (l,h,s.size) w:=by
  rcases hl with ⟨q,kl,i,rfl,e1,rfl⟩ | ⟨rfl,rfl⟩<;>rcases hh with ⟨q',kh,j,rfl,e2,rfl⟩ | ⟨rfl,rfl⟩ <;>
   simp [Instr.sliceBounds,Instr.sliceBound,asIntOf, *]
 simp [Runs,execOp,Instr.sliceAt,hx,Instr.slice,run_underlying hT,b1]
theorem ok_sli {lo hi:Option Operand} (h:oSli T x lo hi none call E M k=some r):IF ⟨d,.slice T x lo hi none,t,pos,after,g⟩ E M k r:=by
 obtain ⟨a,h1,h⟩:=gA h
 obtain ⟨l,h2,h⟩:=gA h
 obtain ⟨m,h3,h⟩:=gA h
 obtain ⟨v,h5,h4⟩:=gA h
 refine Lok.sok (v:=v) (fun I w n ρ H HA=>?_) h4
 have hx:=H x (by simp [Op.operands]) _ h1
 have hl:=vZ h2 (K:=I.K) (β:=I.β) (n:=n) (ρ:=ρ) fun y hy=>H y (by
  cases lo with
  | none=>cases hy
  | some q=>simp at hy; subst hy; simp [Op.operands])
 have hh:∀ L,(hi=none→VM T M.t a=some m→m=L)→Bd n ρ hi m L:=fun L hL=>by
  cases hi with
  | none=>exact .inr ⟨rfl,hL rfl h3⟩
  | some q =>
   obtain ⟨b,h6,h7⟩:=gA (show mA (zD q E) PR=some m from h3)
   obtain ⟨kk,rfl⟩:=MG h7
   have:=H q (by simp [Op.operands]) _ h6
   simp only [IV] at this
   exact .inl ⟨q,kk,_,rfl,this,rfl⟩
 obtain ⟨h6,h7⟩:=AA h5
 have h6':=Nat.le_of_ble_eq_true h6
 have no:slc a T l m=none→False:=fun e=>by rw [e] at h5; cases h5
 cases a with
 | str s =>
  obtain ⟨s',h8,h9⟩:=gA (show slI (.str s) T l m=some v from h7)
  cases h8
  obtain ⟨h10,h11⟩:=AA h9
  obtain ⟨h12,h13⟩:=AA h11
  have h12':=Nat.le_of_ble_eq_true h12
  rw [lB] at h12'
  rw [WD,bE] at h13
  cases h13
  simp only [IV] at hx
  have hm:=hh s.length fun _ e=>by
   obtain ⟨_,e⟩:=AA (show lnI T M.t (.str s)=some m from e)
   cases e; exact lB s
  have hr:=DP (d:=d) (t:=t) (pos:=pos) (after:=after) (g:=g) (w:=w) (pM h10) hx hl hm h6' h12'
  rw [nQ s l m h6' h12'] at hr
  exact ⟨_,by simp only [IV]; rfl,hr⟩
 | sl id o n' z =>
  obtain ⟨p,h8,h9⟩:=gA (show slS (.sl id o n' z) T l m=some v from h7)
  cases h8
  obtain ⟨q,h10,h11⟩:=gA h9
  obtain ⟨h12,h13⟩:=AA h11
  obtain ⟨h14,h15⟩:=AA h13
  have h12':q.2=z:=KC h12
  have h14':m≤n':=Nat.le_of_ble_eq_true h14
  simp only [IV] at hx
  obtain ⟨bk,hk,hx,hc,hz⟩:=hx
  have hm:=hh n' fun _ e=>by
   obtain ⟨_,e⟩:=AA (show lnS T M.t (.sl id o n' z)=some m from e)
   cases e; rfl
  have hT:qD pg T=some (q.1,bk.z):=by rw [h10,hz,← h12']
  have hr:=qE (d:=d) (t:=t) (pos:=pos) (after:=after) (g:=g) (w:=w) hT hx hl hm h6' (by omega)
  cases hlt:Nat.blt l m with
  | true =>
   rw [hlt,tC] at h15
   cases h15
   have hlt':=GJ hlt
   rw [if_neg (by omega)] at hr
   refine ⟨_,?_,hr⟩
   simp only [IV]
   refine ⟨bk,hk,?_,by show o+l+(m-l)≤bk.c; omega,hz⟩
   simp only [LD,Option.map_some,HF,Nat.sub_sub]
   show Value.slice (some ⟨bk.b,bk.o+o*bk.z+l*bk.z,none⟩) _ _=.slice (some ⟨bk.b,bk.o+(o+l)*bk.z,none⟩) _ _
   rw [Nat.add_mul,Nat.add_assoc]; rfl
  | false =>
   rw [hlt,BD] at h15
   obtain ⟨h16,h17⟩:=AA h15
   have h16':=KC h16
   subst h16'
   cases h17
   have hm0:m=0:=by
    rcases Nat.eq_zero_or_pos m with e | e
    ·exact e
    ·have:Nat.blt 0 m=true:=by simpa [Nat.blt_eq] using e
     rw [this] at hlt; cases hlt
   subst hm0
   refine ⟨_,?_,hr⟩
   simp only [IV]
   refine ⟨bk,hk,?_,by omega,hz⟩
   by_cases e:bk.c-o=0
   ·rw [if_pos e]; rfl
   ·rw [if_neg e]; simp [LD,HF]
 | _=>exact (no (by unfold slc; rw [h6]; rfl)).elim
theorem VK {K:Kp} {β:Mp} {a:AV} {u key:Value} (h:rR a=some key) (hx:IV K a β u):u=key∧((∃ s,key=.string s)∨∃ kk i,key=.int kk i):=by
 unfold rR at h
 cases hs:a.str? with
 | none =>
  rw [hs] at h
  obtain ⟨p,h1,h2⟩:=gA (show (mA a.int? fun p=>some (Value.int p.1 p.2))=some key from h)
  have e:=AV.int_eq h1; subst e
  simp only [IV] at hx
  cases h2
  exact ⟨hx,.inr ⟨_,_,rfl⟩⟩
 | some l =>
  rw [hs] at h
  cases h
  have e:=AV.str_eq hs; subst e
  simp only [IV] at hx
  exact ⟨hx,.inl ⟨_,rfl⟩⟩
theorem keyS_ok {K:Kp} {β:Mp} {a:AV} {u k':Value} {b:Bool} {td:TypeDesc} (h:uI a k'=some b) (hx:IV K a β u) (htd:td=.string∨∃ kk,td=.int kk) (ht:∀ s,u=.string s→td=.string) (hi:∀ kk i,u=.int kk i→∃ kk,td=.int kk) :
  Instr.sameNow td u k'=some b∧(b=true→u=k'):=by
 unfold uI at h
 split at h
 ·obtain ⟨p,h1,h2⟩:=gA h
  obtain ⟨h3,h4⟩:=AA h2
  have e:=AV.int_eq h1; subst e
  simp only [IV] at hx
  subst hx
  have h5:=YF h3
  cases h4
  obtain ⟨kk,rfl⟩:=hi _ _ rfl
  rw [oF]
  constructor
  ·simp only [Instr.sameNow]; rw [if_pos h5,YM]
  ·intro e; rw [h5,of_decide_eq_true e]
 ·obtain ⟨l,h1,h2⟩:=gA h
  have e:=AV.str_eq h1; subst e
  simp only [IV] at hx
  subst hx
  cases h2
  obtain rfl:=ht _ rfl
  rename_i s
  rw [iK]
  have hb:(ByteArray.mk ⟨l⟩ == s)=(l == s.data.toList):=by
   obtain ⟨⟨m⟩⟩:=s
   show (Array.mk l == Array.mk m)=_
   simp
  constructor
  ·simp only [Instr.sameNow,hb]
  ·intro e
   have e2:l=s.data.toList:=by simpa using e
   subst e2; rfl
 ·cases h
theorem sI {K:Kp} {β:Mp} {a:AV} {u:Value} {td:TypeDesc} (hx:IV K a β u) (htd:td=.string∨∃ kk,td=.int kk) (ht:∀ s,u=.string s→td=.string) (hi:∀ kk i,u=.int kk i→∃ kk,td=.int kk) :
  ∀ {l:List (Value × AV)} {es:List MapEntry} {q:Option AV} (i:Nat),kR a l=some q→EntR K β l es →
   match q with
   | none=>Instr.findNow td u es i=some none
   | some v=>∃ j e,Instr.findNow td u es i=some (some (i+j,e.val))∧es[j]?=some e∧IV K v β e.val∧e.key=u∧∀ w uw,IV K w β uw→EntR K β (fH a u w l) (es.set j { e with key:=u,val:=uw })
 | [],es,q,i,h,H=>by
  cases h; cases H; rfl
 | (k',v)::l,es,q,i,h,H=>by
  obtain ⟨e,rs,rfl,h1,h2,h3⟩:=H
  obtain ⟨b,h4,h5⟩:=gA (show (mA (uI a k') fun b=>KA b (some (some v)) (kR a l))=some q from h)
  obtain ⟨h6,h7⟩:=keyS_ok h4 hx htd ht hi
  rw [← h1] at h6 h7
  cases b with
  | true =>
   rw [tC] at h5
   cases h5
   refine ⟨0,e,by simp only [Instr.findNow,h6,Nat.add_zero],rfl,h2,(h7 rfl).symm,fun w uw hw=>?_⟩
   have:fH a u w ((k',v)::l)=(u,w)::l:=by
    show (Option.rec ((k',v)::fH a u w l) (fun b=>KA b ((u,w)::l) ((k',v)::fH a u w l)) (uI a k'):List (Value × AV))=_
    rw [h4]; rfl
   rw [this]
   exact ⟨_,rs,rfl,rfl,hw,h3⟩
  | false =>
   rw [BD] at h5
   have ih:=sI hx htd ht hi (i+1) h5 h3
   cases q with
   | none=>simp only [Instr.findNow,h6]; exact ih
   | some v' =>
    obtain ⟨j,e',e1,e2,e3,e4,e5⟩:=ih
    refine ⟨j+1,e',by simp only [Instr.findNow,h6]; rw [e1]; congr 3; omega,by simpa using e2,e3,e4,fun w uw hw=>?_⟩
    have:fH a u w ((k',v)::l)=(k',v)::fH a u w l:=by
     show (Option.rec ((k',v)::fH a u w l) (fun b=>KA b ((u,w)::l) ((k',v)::fH a u w l)) (uI a k'):List (Value × AV))=_
     rw [h4]; rfl
    rw [this]
    exact ⟨e,_,rfl,h1,h2,e5 w uw hw⟩
theorem eR {p:TypeId × Bool} (h:UZ T=some p):∃ kt td,pg.underlying T=some (.map kt p.1)∧pg.underlying kt=some td∧((td=.string∧p.2=true)∨(∃ kk,td=.int kk)∧p.2=false):=by
 unfold UZ at h
 split at h
 ·rename_i kt e hu
  split at h
  ·rename_i hk; cases h; exact ⟨kt,_,hu,hk,.inl ⟨rfl,rfl⟩⟩
  ·rename_i kk hk; cases h; exact ⟨kt,_,hu,hk,.inr ⟨⟨_,rfl⟩,rfl⟩⟩
  ·cases h
 ·cases h
theorem WM {K:Kp} {β:Mp} {a:AV} {u:Value} {td:TypeDesc} {b:Bool} (h:keyT a b=true) (hx:IV K a β u) (htd:(td=.string∧b=true)∨(∃ kk,td=.int kk)∧b=false) (hk:(∃ s,u=.string s)∨∃ kk i,u=.int kk i) :
  (td=.string∨∃ kk,td=.int kk)∧(∀ s,u=.string s→td=.string)∧(∀ kk i,u=.int kk i→∃ kk,td=.int kk):=by
 unfold keyT at h
 cases hs:a.str? with
 | none =>
  rw [hs] at h
  have hb:b=false:=by
   have:SF b=true:=h
   rw [jF] at this; simpa using this
  subst hb
  rcases htd with ⟨_,e⟩ | ⟨h1,_⟩
  ·cases e
  ·refine ⟨.inr h1,fun s e=>?_,fun _ _ _=>h1⟩
   subst e
   exact (by
    cases a with
    | pv v=>simp only [IV] at hx; obtain ⟨e,h9⟩:=hx; rw [← e] at h9; cases h9
    | str l=>cases hs
    | int k i=>simp only [IV] at hx; cases hx
    | bool b=>simp only [IV] at hx; cases hx
    | ptr _ _ _=>simp only [IV] at hx; obtain ⟨_,_,e⟩:=hx; cases e
    | sl _ _ _ _=>simp only [IV] at hx; obtain ⟨_,_,e,_⟩:=hx; cases e
    | e0=>simp only [IV] at hx; obtain ⟨_,e⟩:=hx; cases e
    | lst _ _=>simp only [IV] at hx; obtain ⟨_,_,_,e,_⟩:=hx; cases e
    | fp _=>simp only [IV] at hx; obtain ⟨_,_,_,_,_,_,e,_⟩:=hx; cases e
    | iface _ _=>simp only [IV] at hx; obtain ⟨_,e,_⟩:=hx; cases e
    | agg _=>simp only [IV] at hx; obtain ⟨_,e,_⟩:=hx; cases e
    | tup _=>simp only [IV] at hx; obtain ⟨_,e,_⟩:=hx; cases e
    | fn _ _=>simp only [IV] at hx; obtain ⟨_,e,_⟩:=hx; cases e
    | map _=>simp only [IV] at hx; obtain ⟨_,_,e⟩:=hx; cases e
    | un=>simp only [IV] at hx; cases hx)
 | some l =>
  rw [hs] at h
  have hb:b=true:=h
  subst hb
  have e:=AV.str_eq hs; subst e
  simp only [IV] at hx
  rcases htd with ⟨h1,_⟩ | ⟨_,e⟩
  ·exact ⟨.inl h1,fun _ _=>h1,fun kk i e=>by rw [hx] at e; cases e⟩
  ·cases e
theorem QG {K:Kp} {β:Mp} {T:TypeId} {l:List AV} (h:VT T=some l):∃ z,YB pg T=some z∧IVs K l β z.cells.toList:=by
 unfold VT at h
 split at h
 ·rename_i z hz
  refine ⟨z,hz,?_⟩
  have key:∀ (us:LV) (l:List AV),us.mapM ofC=some l→IVs K l β us:=by
   intro us
   induction us with
   | nil=>intro l h; rw [List.mapM_nil] at h; cases h; simp only [IVs]
   | cons u us ih =>
    intro l h
    simp only [List.mapM_cons,Option.bind_eq_bind,Option.bind_eq_some_iff,Option.pure_def,Option.some.injEq] at h
    obtain ⟨v,h1,r,h2,rfl⟩:=h
    simp only [IVs]
    exact ⟨u,us,rfl,JM h1,IZ h1,ih r h2⟩
  exact key _ _ h
 ·cases h
end
end Go.Proofs.YtljlkhobfdofhaaGreatDoor.Rv
namespace Go.Proofs.YtljlkhobfdofhaaGreatDoor.Rv
open Go Vc
attribute [local irreducible] pg
section
variable {o:Oper} {E:En} {A:eF} {M:Me} {v:AV} {k:Kn} {r:Rs} {d:Option Nat} {t T S:TypeId} {pos:String} {after:Array Edge} {g:Option (Nat × Bool)} {x y z:Operand} {call:Cl} {I:Itp} {w:World}
theorem MF {td:TypeDesc} {kt:TypeId} {key:Value} (b:Bool) (hk:pg.underlying kt=some td) (htd:td=.string∨∃ kk,td=.int kk):(Instr.checkKey b 10000 kt key).run pg w=.ok () w:=by
 have:∀ q,(Instr.checkKey b (q+1) kt key).run pg w=.ok () w:=fun q=>by
  rcases htd with rfl | ⟨kk,rfl⟩<;>simp [Instr.checkKey,run_underlying hk]
 exact this 9999
theorem ok_lkp {ok:Bool} (h:PP T x y ok call E M k=some r):IF ⟨d,.lookup T x y ok,t,pos,after,g⟩ E M k r:=by
 obtain ⟨a,h1,h⟩:=gA h
 obtain ⟨u,h2,h⟩:=gA h
 obtain ⟨id,h3,h⟩:=gA h
 obtain ⟨l,h5,h⟩:=gA h
 obtain ⟨key,h6,h⟩:=gA h
 obtain ⟨p,h7,h⟩:=gA h
 obtain ⟨h8,h⟩:=AA h
 obtain ⟨q,h9,h⟩:=gA h
 have e:=AV.map_eq h3; subst e
 obtain ⟨kt,td,hT,hk,htd⟩:=eR h7
 have gen:∀ (I:Itp) (w:World) (n:Nat) (ρ:EA),HO I.K I.β n E ρ [x,y]→MRel I w M.t→∃ es clk bk,ev n ρ x=.map (some bk)∧w.heap[bk]?=some (.map es clk)∧(Instr.checkKey es.isEmpty 10000 kt (ev n ρ y)).run pg w=.ok () w ∧
   match q with
   | none=>(Instr.findKey kt (ev n ρ y) es.toList).run pg w=.ok none w
   | some v=>∃ i uv,(Instr.findKey kt (ev n ρ y) es.toList).run pg w=.ok (some (i,uv)) w∧IV I.K v I.β uv:=fun I w n ρ H HA=>by
  have hx:=H x (by simp) _ h1
  have hy:=H y (by simp) _ h2
  simp only [IV] at hx
  obtain ⟨bk,hb,hx⟩:=hx
  obtain ⟨bk',hb',_,es,clk,hw,he⟩:=HA.own _ _ (SP h5) (by intro e; cases e)
  rw [hb] at hb'; cases hb'
  obtain ⟨e1,e2⟩:=VK h6 hy
  obtain ⟨f1,f2,f3⟩:=WM h8 hy htd (by rw [e1]; exact e2)
  have hf:=sI hy f1 f2 f3 0 h9 he
  refine ⟨es.toArray,clk,bk.b,hx,hw,MF _ hk f1,?_⟩
  cases q with
  | none =>
   have hf:Instr.findNow td (ev n ρ y) es 0=some none:=hf
   simp [Instr.findKey,run_underlying hk,hf]
  | some v =>
   obtain ⟨j,e,g1,_,g3,_⟩:=hf
   refine ⟨0+j,e.val,?_,g3⟩
   simp [Instr.findKey,run_underlying hk,g1]
 cases q with
 | none =>
  obtain ⟨v,g1,g2⟩:=gA (show (mA (zerV p.1) fun v=>k (okV ok v false) M)=some r from h)
  obtain ⟨zv,g3,g4⟩:=gA g1
  refine Lok.sok (fun I w n ρ H HA=>?_) g2
  obtain ⟨es,clk,bk,e1,e2,e3,e4⟩:=gen I w n ρ (fun z hz=>H z (by simpa [Op.operands] using hz)) HA
  refine ⟨_,OP (JM g4),?_⟩
  have hg:(getObj bk).run pg w=.ok (.map es clk) w:=by simp [getObj,Sem.run,e2]
  cases ok<;>simp [Runs,execOp,e1,Instr.lookup,run_underlying hT,hg,e3,e4,YH g3]
 | some v =>
  have g2:k (okV ok v true) M=some r:=h
  refine Lok.sok (fun I w n ρ H HA=>?_) g2
  obtain ⟨es,clk,bk,e1,e2,e3,i,uv,e4,e5⟩:=gen I w n ρ (fun z hz=>H z (by simpa [Op.operands] using hz)) HA
  refine ⟨_,OP e5,?_⟩
  have hg:(getObj bk).run pg w=.ok (.map es clk) w:=by simp [getObj,Sem.run,e2]
  cases ok<;>simp [Runs,execOp,e1,Instr.lookup,run_underlying hT,hg,e3,e4]
theorem fL {n:Nat} {ρ:EA} {K:Kp} {β:Mp} {pl:List (Nat × Nat)} {f:Nat→Option (Nat × Nat)} (hf:∀ i q,LM pl i=some q→f i=some q):∀ {ps:List (Nat × Operand)} {z l:List AV} {us:LV},
  jX E pl ps z=some l→IVs K z β us→HO K β n E ρ (ps.map (·.2))→∃ vs,IVs K l β vs∧Instr.fill f us.toArray (ps.map fun q=>(q.1,ev n ρ q.2))=some vs.toArray
 | [],z,l,us,h,H,HO=>by cases h; exact ⟨us,H,rfl⟩
 | p::ps,z,l,us,h,H,HO=>by
  obtain ⟨q,h1,h⟩:=gA (show (mA (LM pl p.1) fun q=>mA (zD p.2 E) fun v=>mA v.cells fun c=>KA (Nat.beq (DC c) q.2) (VQ q.1 c z (jX E pl ps)) none)=some l from h)
  obtain ⟨a,h2,h⟩:=gA h
  obtain ⟨c,h3,h⟩:=gA h
  obtain ⟨h4,h⟩:=AA h
  obtain ⟨h5,h⟩:=UN h
  have h4':=KC h4
  rw [lB] at h4'
  have hv:=(HO p.2 (by simp) _ h2).cells h3
  have hlv:=hv.len
  have hlu:=H.len
  obtain ⟨vs,g1,g2⟩:=fL hf h (IVs.app (IVs.take q.1 H) (IVs.app hv (IVs.drop _ H))) fun x hx=>HO x (by simp at hx ⊢; exact .inr hx)
  refine ⟨vs,g1,?_⟩
  rw [List.map_cons,Instr.fill,hf _ _ h1]
  simp only
  have hs:(ev n ρ p.2).cells.size=q.2:=by
   have:(ev n ρ p.2).cells.size=(ev n ρ p.2).cells.toList.length:=by simp
   omega
  rw [if_neg (by rw [hs]; simp; omega),← Array.foldl_toList,Array.toList_zipIdx,KH,Nat.add_zero]
  have e1:=CB (us.take q.1) ((us.drop q.1).take c.length) (ev n ρ p.2).cells.toList (us.drop (q.1+c.length)) (by simp at hlv ⊢; omega)
  have e2:us.take q.1++(us.drop q.1).take c.length++us.drop (q.1+c.length)=us:=by
   rw [List.append_assoc,← List.drop_drop,List.take_append_drop,List.take_append_drop]
  rw [e2,show (us.take q.1).length=q.1 by simp; omega] at e1
  rw [e1,List.append_assoc]
  exact g2
theorem OV {ps:Array (Nat × Operand)} (h:PK T ps call E M k=some r):IF ⟨d,.build T ps,t,pos,after,g⟩ E M k r:=by
 obtain ⟨z,h1,h⟩:=gA h
 obtain ⟨pl,h2,h⟩:=gA h
 obtain ⟨l,h3,h4⟩:=gA h
 refine Lok.sok (fun I w n ρ H HA=>?_) h4
 obtain ⟨zv,h5,h6⟩:=QG (K:=I.K) (β:=I.β) h1
 have HO':HO I.K I.β n E ρ (ps.toList.map (·.2)):=fun x hx=>H x (by simpa [Op.operands] using hx)
 unfold plcs at h2
 split at h2
 ·rename_i pa hp
  cases h2
  obtain ⟨vs,g1,g2⟩:=fL (f:=(pa[·]?)) (fun i q hq=>by rw [mF] at hq; simpa using hq) h3 h6 HO'
  refine ⟨.agg vs.toArray,by simp only [IV]; exact ⟨vs,rfl,g1⟩,?_⟩
  exact PF h5 hp rfl (by simpa using g2)
 ·split at h2
  ·rename_i m s ha
   cases h2
   obtain ⟨vs,g1,g2⟩:=fL (f:=fun i=>some (i*s,s)) (fun i q hq=>by
    rw [mF,List.getElem?_map,Option.map_eq_some_iff] at hq
    obtain ⟨j,e1,rfl⟩:=hq
    have e2:=(List.getElem?_eq_some_iff.1 e1).2
    rw [List.getElem_range] at e2
    subst e2; rfl) h3 h6 HO'
   refine ⟨.agg vs.toArray,by simp only [IV]; exact ⟨vs,rfl,g1⟩,?_⟩
   exact AG h5 ha rfl (by simpa using g2)
  ·cases h2
end
end Go.Proofs.YtljlkhobfdofhaaGreatDoor.Rv
namespace Go.Proofs.YtljlkhobfdofhaaGreatDoor.Rv
open Go Vc
attribute [local irreducible] pg
section
variable {o:Oper} {E:En} {A:eF} {M:Me} {v:AV} {k:Kn} {r:Rs} {d:Option Nat} {t T S:TypeId} {pos:String} {after:Array Edge} {g:Option (Nat × Bool)} {x y z:Operand} {call:Cl} {I:Itp} {w:World}
theorem aK (D:D) (c k:Rv.D→Option Rs):∃ e,EJ D c k=c e∨EJ D c k=k e:=by
 cases D
 ·exact ⟨.d1,.inr rfl⟩
 ·exact ⟨.d2,.inr rfl⟩
 ·exact ⟨.d3,.inr rfl⟩
 ·exact ⟨.d0,.inl rfl⟩
theorem uR (p:P4) (c k:P4→Option Rs):∃ e,kT p c k=c e∨kT p c k=k e:=by
 unfold kT
 obtain ⟨e,h | h⟩:=aK p.d (fun z=>EJ p.c (fun y=>EJ p.b (fun x=>EJ p.a (fun w=>c ⟨w,x,y,z⟩) fun w=>k ⟨w,x,y,z⟩) fun x=>k ⟨p.a,x,y,z⟩) fun y=>k ⟨p.a,p.b,y,z⟩) fun z=>k ⟨p.a,p.b,p.c,z⟩
 ·rw [h]
  obtain ⟨e1,h | h⟩:=aK p.c (fun y=>EJ p.b (fun x=>EJ p.a (fun w=>c ⟨w,x,y,e⟩) fun w=>k ⟨w,x,y,e⟩) fun x=>k ⟨p.a,x,y,e⟩) fun y=>k ⟨p.a,p.b,y,e⟩
  ·rw [h]
   obtain ⟨e2,h | h⟩:=aK p.b (fun x=>EJ p.a (fun w=>c ⟨w,x,e1,e⟩) fun w=>k ⟨w,x,e1,e⟩) fun x=>k ⟨p.a,x,e1,e⟩
   ·rw [h]
    obtain ⟨e3,h | h⟩:=aK p.a (fun w=>c ⟨w,e2,e1,e⟩) fun w=>k ⟨w,e2,e1,e⟩
    ·exact ⟨_,.inl h⟩
    ·exact ⟨_,.inr h⟩
   ·exact ⟨_,.inr h⟩
  ·exact ⟨_,.inr h⟩
 ·exact ⟨_,.inr h⟩
theorem incK_ok (p:Pa) (k:Pa→Option Rs):∃ q,incK p k=k q:=by
 unfold incK
 obtain ⟨e,h | h⟩:=uR p.b (fun y=>kT p.a (fun x=>k ⟨x,y⟩) fun x=>k ⟨x,y⟩) fun y=>k ⟨p.a,y⟩
 ·rw [h]
  obtain ⟨e1,h | h⟩:=uR p.a (fun x=>k ⟨x,e⟩) fun x=>k ⟨x,e⟩
  ·exact ⟨_,h⟩
  ·exact ⟨_,h⟩
 ·exact ⟨_,h⟩
theorem SJ {a:AO} {f:Pa→AV} (h:gJ M a k f=some r):get M.nx M.t=none∧∃ M',M'.t=put M.nx M.t (some a)∧k (f M.nx) M'=some r:=by
 unfold gJ at h
 cases hg:get M.nx M.t with
 | none =>
  rw [hg] at h
  have h:(RI M.nx M.t (some a) fun t=>incK M.nx fun q=>k (f M.nx) ⟨t,q⟩)=some r:=h
  rw [VH] at h
  obtain ⟨q,e⟩:=incK_ok M.nx fun q=>k (f M.nx) ⟨put M.nx M.t (some a),q⟩
  rw [e] at h
  exact ⟨rfl,⟨_,q⟩,rfl,h⟩
 | some q=>rw [hg] at h; cases h
theorem mI {a:AO} {f:Pa→AV} (h:gJ M a k f=some r) (hd:a≠.dead)
  (H:∀ (I:Itp) (w:World) (n:Nat) (ρ:EA),HO I.K I.β n E ρ o.op.operands.toList→MRel I w M.t→∃ u w' bk,Runs pg n ρ o w u w'∧Ext w w'∧w.heap.size≤bk.b∧OR I.K I.β w' bk a∧∀ β:Mp,β M.nx=some bk→IV I.K (f M.nx) β u):IF o E M k r:=by
 obtain ⟨h1,M',h2,h3⟩:=SJ h
 refine ⟨f M.nx,M',h3,fun I w n ρ hO HA=>?_⟩
 obtain ⟨u,w',bk,e1,e2,e3,e4,e5⟩:=H I w n ρ hO HA
 obtain ⟨g1,g2⟩:=HA.new h1 e3 e2 e4 hd
 rw [show (execOp (ev n ρ) o).run pg w=_ from e1,h2]
 exact ⟨_,g1,e5 _ bind_self,g2⟩
theorem dJ {K:Kp} {β:Mp} {l:List AV} {us:LV} {b:Nat} {w':World} {X:TypeId} (H:IVs K l β us) (hw:w'.heap[b]?=some (.cells us.toArray X (0,0))):OR K β w' ⟨b,0,l.length,0⟩ (.cells l.length [l]) :=
 ⟨rfl,fun x hx=>by simp at hx; rw [hx],[],us,[],X,by simpa using hw,rfl,IVss.one H,by simp⟩
theorem PV (h:QP T call E M k=some r):IF ⟨d,.alloc T,t,pos,after,g⟩ E M k r:=by
 obtain ⟨l,h1,h⟩:=gA h
 rw [lB] at h
 refine mI h (by intro e; cases e) fun I w n ρ hO HA=>?_
 obtain ⟨zv,h5,h6⟩:=QG (K:=I.K) (β:=I.β) h1
 refine ⟨_,_,⟨w.heap.size,0,l.length,0⟩,Runs.alloc h5,Ext.alloc _ _,Nat.le_refl _,dJ h6 (by simpa using PB w (.cells zv.cells T)),fun β hb=>?_⟩
 simp only [IV]; exact ⟨_,hb,by simp⟩
theorem ok_box (h:oBox x call E M k=some r):IF ⟨d,.box T x,t,pos,after,g⟩ E M k r:=by
 obtain ⟨a,h1,h⟩:=gA h
 obtain ⟨l,h2,h⟩:=gA h
 rw [aG,lB] at h
 refine mI h (by intro e; cases e) fun I w n ρ hO HA=>?_
 have hx:=(hO x (by simp [Op.operands]) _ h1).cells h2
 refine ⟨_,_,⟨w.heap.size,0,l.length,0⟩,Runs.box rfl,Ext.alloc _ _,Nat.le_refl _,dJ hx (by simpa using PB w (.cells (ev n ρ x).cells T)),fun β hb=>?_⟩
 simp only [IV]; exact ⟨_,hb,by simp⟩
theorem ok_mkM {T:TypeId} {ro:Option Operand} (h:oMkM ro call E M k=some r):IF ⟨d,.makeMap T ro,t,pos,after,g⟩ E M k r:=by
 cases ro with
 | some q=>cases h
 | none =>
  have h:gJ M (.mp []) k .map=some r:=h
  refine mI h (by intro e; cases e) fun I w n ρ hO HA=>?_
  refine ⟨.map (some w.heap.size),w.alloc (.map #[] 0),⟨w.heap.size,0,0,0⟩,?_,Ext.alloc _ _,Nat.le_refl _,⟨[],0,PB _ _,rfl⟩,fun β hb=>?_⟩
  ·simp [Runs,execOp,Instr.makeMap]
  ·simp only [IV]; exact ⟨_,hb,rfl⟩
theorem LJ {p:Nat × Nat × List AV} (h:vS T=some p):∃ e z,qD pg T=some (e,p.1)∧BI pg e=some p.2.1∧YB pg e=some z∧(∀ (K:Kp) (β:Mp),IVs K p.2.2 β z.cells.toList)∧p.2.2.length=p.1∧0<p.1:=by
 obtain ⟨q,h1,h⟩:=gA h
 obtain ⟨b,h2,h⟩:=gA h
 obtain ⟨c,h3,h⟩:=gA h
 obtain ⟨h4,h⟩:=AA h
 obtain ⟨h5,h⟩:=DE h
 cases h
 have h4':=KC h4
 rw [lB] at h4'
 obtain ⟨z,h6,_⟩:=QG (K:=fun _=>none) (β:=RP) h3
 refine ⟨q.1,z,h1,h2,h6,fun K β=>?_,h4',?_⟩
 ·obtain ⟨z',h7,h8⟩:=QG (K:=K) (β:=β) h3
  rw [h6] at h7; cases h7; exact h8
 ·rcases Nat.eq_zero_or_pos q.2 with e | e
  ·rw [e] at h5; cases h5
  ·exact e
theorem bV (L:LV):∀ (m i:Nat),i<m*L.length→((List.replicate m L).flatten)[i]?=L[i % L.length]?
 | 0,i,h=>by omega
 | m+1,i,h=>by
  rw [List.replicate_succ,List.flatten_cons]
  by_cases hi:i<L.length
  ·rw [List.getElem?_append_left hi,Nat.mod_eq_of_lt hi]
  ·rw [List.getElem?_append_right (by omega),bV L m (i-L.length) (by rw [Nat.add_mul] at h; omega),Nat.mod_eq_sub_mod (by omega:i≥L.length)]
theorem AM (L:LV) (m:Nat):((List.replicate m L).flatten).length=m*L.length:=by
 induction m with
 | zero=>simp
 | succ m ih=>rw [List.replicate_succ,List.flatten_cons,List.length_append,ih,Nat.add_mul]; omega
theorem mO (z:Value) (m:Nat):((Array.range (m*z.cells.size)).map (z.cells[· % z.cells.size]!)).toList=(List.replicate m z.cells.toList).flatten:=by
 apply List.ext_getElem?
 intro i
 have hl:z.cells.toList.length=z.cells.size:=by simp
 by_cases hi:i<m*z.cells.size
 ·rw [bV _ _ _ (by rw [hl]; exact hi),hl]
  have hp:0<z.cells.size:=by
   rcases Nat.eq_zero_or_pos z.cells.size with e | e
   ·rw [e] at hi; omega
   ·exact e
  have hr:=Nat.mod_lt i hp
  simp only [Array.toList_map,Array.toList_range,List.getElem?_map,List.getElem?_range hi,Option.map_some,Array.getElem?_toList]
  rw [getElem!_pos z.cells _ hr,Array.getElem?_eq_getElem hr]
 ·rw [List.getElem?_eq_none (by simp; omega),List.getElem?_eq_none (by rw [AM,hl]; omega)]
theorem PO {n:Nat} {ρ:EA} {K:Kp} {β:Mp} {s:Nat}:∀ {ps:List (Nat × Operand)} {gr l:List (List AV)} {us:LV},
  kX E s ps gr=some l→IVss K gr β us→(∀ q∈gr,q.length=s)→HO K β n E ρ (ps.map (·.2))→∃ vs,IVss K l β vs∧(∀ q∈l,q.length=s)∧l.length=gr.length∧Instr.fill (fun i=>some (i*s,s)) us.toArray (ps.map fun q=>(q.1,ev n ρ q.2))=some vs.toArray
 | [],gr,l,us,h,H,hs,HO=>by cases h; exact ⟨us,H,hs,rfl,rfl⟩
 | p::ps,gr,l,us,h,H,hs,HO=>by
  obtain ⟨a,h2,h⟩:=gA (show (mA (zD p.2 E) fun v=>mA v.cells fun c=>KA (Nat.beq (DC c) s) (KA (Nat.blt p.1 (DC gr)) (JO c fun c=>iR c gr p.1 (kX E s ps)) none) none)=some l from h)
  obtain ⟨c,h3,h⟩:=gA h
  obtain ⟨h4,h⟩:=AA h
  obtain ⟨h5,h⟩:=AA h
  rw [aG,oO] at h
  have h4':=KC h4
  rw [lB] at h4'
  have h5':=GJ h5
  rw [lB] at h5'
  have hv:=(HO p.2 (by simp) _ h2).cells h3
  have hlv:=hv.len
  obtain ⟨aa,bb,cc,e1,e2,e3,e4,e5⟩:=IVss.at H hs (show gr[p.1]?=some gr[p.1] by simp [h5'])
  have hlb:=e3.len
  rw [hs _ (List.getElem_mem h5')] at hlb
  have H':IVss K (gr.set p.1 c) β (aa++((ev n ρ p.2).cells.toList++cc)):=by
   rw [List.set_eq_take_append_cons_drop,if_pos h5']
   refine IVss.app e4 ?_
   simp only [IVss]
   exact ⟨_,_,rfl,hv,e5⟩
  obtain ⟨vs,g1,g2,g3,g4⟩:=PO h H' (fun q hq=>by
   rcases List.mem_or_eq_of_mem_set hq with hq | rfl
   ·exact hs q hq
   ·exact h4') fun x hx=>HO x (by simp at hx ⊢; exact .inr hx)
  refine ⟨vs,g1,g2,by rw [g3]; simp,?_⟩
  rw [List.map_cons,Instr.fill]
  simp only
  have hsz:(ev n ρ p.2).cells.size=s:=by
   have:(ev n ρ p.2).cells.size=(ev n ρ p.2).cells.toList.length:=by simp
   omega
  have hlu:us.length=aa.length+(bb.length+cc.length):=by rw [e1]; simp
  rw [if_neg (by rw [hsz]; simp; omega),← Array.foldl_toList,Array.toList_zipIdx,KH,Nat.add_zero]
  have f1:=CB aa bb (ev n ρ p.2).cells.toList cc (by omega)
  rw [List.append_assoc,← e1,e2] at f1
  rw [f1,List.append_assoc]
  exact g4
theorem ok_bsl {m:Nat} {ps:Array (Nat × Operand)} (h:oBsl T m ps call E M k=some r):IF ⟨d,.buildSlice T m ps,t,pos,after,g⟩ E M k r:=by
 obtain ⟨p,h1,h⟩:=gA h
 obtain ⟨h2,h⟩:=AA h
 obtain ⟨gr,h3,h⟩:=gA h
 obtain ⟨e,zv,f1,f2,f3,f4,f5,f6⟩:=LJ h1
 have h2':m*p.1≤16777216:=Nat.le_of_ble_eq_true h2
 have hz:zv.cells.size=p.1:=by
  have:=(f4 (fun _=>none) RP).len
  simp at this; omega
 refine mI h (by intro e; cases e) fun I w n ρ hO HA=>?_
 have H0:=IVss.rep (f4 I.K I.β) m
 obtain ⟨vs,g1,g2,g3,g4⟩:=PO h3 H0 (fun q hq=>by rw [(List.mem_replicate.1 hq).2]; exact f5) (n:=n) (ρ:=ρ) fun x hx=>hO x (by simpa [Op.operands] using hx)
 have g4':Instr.fill (fun i=>some (i*p.1,p.1)) ((Array.range (m*p.1)).map (zv.cells[· % zv.cells.size]!)) (ps.toList.map fun q=>(q.1,ev n ρ q.2))=some vs.toArray:=by
  rw [← g4]; congr 1
  apply Array.ext'
  rw [← hz,mO]
 refine ⟨_,_,⟨w.heap.size,0,p.1,m⟩,eI f1 f3 h2' rfl g4',Ext.alloc _ _,Nat.le_refl _,⟨rfl,g2,[],vs,[],e,by simpa using PB w (.cells vs.toArray e),rfl,g1,?_⟩,fun β hb=>?_⟩
 ·rw [g1.len g2,g3]; simp
 ·simp only [IV]; exact ⟨_,hb,by simp,by simp,rfl⟩
def ED (s:Nat) (h:0<s):Enc Unit:=⟨fun _=>.agg (Array.replicate s (.bool true)),s,h,fun _=>by simp [Value.cells],fun _ u hu=>by
 simp only [Value.cells,Array.toList_replicate] at hu
 rw [(List.mem_replicate.1 hu).2]; rfl⟩
theorem dI {n m s b:Nat} {ρ:EA} {kl kc:IntKind} {e:TypeId} {zv:Value} (hs:0<s) (hz:zv.cells.size=s) (hT:qD pg T=some (e,s)) (f3:YB pg e=some zv) (f2:BI pg e=some b) (hx:ev n ρ x=.int kl (m:Int)) (hy:ev n ρ y=.int kc (m:Int)) (hb:m*(b+1)≤281474976710656) :
  Runs pg n ρ ⟨d,.makeSlice T x y,t,pos,after,g⟩ w (.slice (some ⟨w.heap.size,0,none⟩) m m) (w.alloc (.cells (List.replicate m zv.cells.toList).flatten.toArray e)):=by
 have:=vJ (E:=ED s hs) (d:=d) (t:=t) (pos:=pos) (after:=after) (g:=g) (w:=w) hT f3 f2 hx hy rfl rfl (Nat.le_refl _) hb
 have e1:madeCells zv.cells (m*(ED s hs).s)=(List.replicate m zv.cells.toList).flatten.toArray:=by
  apply Array.ext'
  have e2:=mO zv m
  rw [hz] at e2
  show (madeCells zv.cells (m*s)).toList=_
  unfold madeCells
  rw [hz,e2]
 rw [e1] at this; exact this
theorem ok_mkS (h:oMkS T x y call E M k=some r):IF ⟨d,.makeSlice T x y,t,pos,after,g⟩ E M k r:=by
 obtain ⟨p,h1,h⟩:=gA h
 obtain ⟨a,h2,h⟩:=gA h
 obtain ⟨m,h3,h⟩:=gA h
 obtain ⟨b,h4,h⟩:=gA h
 obtain ⟨m',h5,h⟩:=gA h
 obtain ⟨h6,h⟩:=AA h
 obtain ⟨h7,h⟩:=AA h
 rw [aG] at h
 have em:=KC h6
 obtain ⟨e,zv,f1,f2,f3,f4,f5,f6⟩:=LJ h1
 obtain ⟨k1,ea⟩:=MG h3
 obtain ⟨k2,eb⟩:=MG h5
 rw [← em] at eb
 obtain ⟨h8,h9⟩:=AA (b:=Nat.ble m 1000000) (x:=some true) (r:=true) (by
  unfold zM at h7
  cases hb:Nat.ble m 1000000
  ·rw [hb] at h7; cases h7
  ·rfl)
 have h10:p.2.1≤1000000:=by
  unfold zM at h7
  rw [h8,tC] at h7
  exact Nat.le_of_ble_eq_true h7
 have h11:m≤1000000:=Nat.le_of_ble_eq_true h8
 have hz:zv.cells.size=p.1:=by
  have:=(f4 (fun _=>none) RP).len
  simp at this; omega
 refine mI h (by intro e; cases e) fun I w n ρ hO HA=>?_
 have hx:=hO x (by simp [Op.operands]) _ h2
 have hy:=hO y (by simp [Op.operands]) _ h4
 rw [ea] at hx
 rw [eb] at hy
 simp only [IV] at hx hy
 have H0:=IVss.rep (f4 I.K I.β) m
 have hr:=dI (d:=d) (t:=t) (pos:=pos) (after:=after) (g:=g) (w:=w) f6 hz f1 f3 f2 hx hy (by
  have:m*(p.2.1+1)≤1000000*1000001:=Nat.mul_le_mul h11 (by omega)
  omega)
 refine ⟨_,_,⟨w.heap.size,0,p.1,m⟩,hr,Ext.alloc _ _,Nat.le_refl _,⟨rfl,fun q hq=>by rw [(List.mem_replicate.1 hq).2]; exact f5,[],_,[],e,(by simpa using PB w (.cells (List.replicate m zv.cells.toList).flatten.toArray e)),rfl,H0,?_⟩,fun β hb=>?_⟩
 ·rw [AM]; simp [hz]
 ·simp only [IV]; exact ⟨_,hb,by simp,by simp,rfl⟩
end
end Go.Proofs.YtljlkhobfdofhaaGreatDoor.Rv
namespace Go.Proofs.YtljlkhobfdofhaaGreatDoor.Rv
open Go Vc
attribute [local irreducible] pg
section
variable {o:Oper} {E:En} {A:eF} {M:Me} {v:AV} {k:Kn} {r:Rs} {d:Option Nat} {t T S:TypeId} {pos:String} {after:Array Edge} {g:Option (Nat × Bool)} {x y z:Operand} {call:Cl} {I:Itp} {w:World}
theorem UH {id:Pa} {a:AO} {kk:Me→Option Rs} (h:sJ M id a kk=some r):∃ M',M'.t=put id M.t (some a)∧kk M'=some r:=by
 unfold sJ at h
 rw [VH] at h
 exact ⟨_,rfl,h⟩
theorem MV (h:SV T x y call E M k=some r):IF ⟨d,.store T x y,t,pos,after,g⟩ E M k r:=by
 obtain ⟨a,h1,h⟩:=gA h
 obtain ⟨u,h2,h⟩:=gA h
 obtain ⟨p,h3,h⟩:=gA h
 obtain ⟨q,h4,h⟩:=gA h
 obtain ⟨l,h5,h⟩:=gA h
 obtain ⟨c,h6,h⟩:=gA h
 obtain ⟨s,h7,h⟩:=gA h
 obtain ⟨h8,h⟩:=AA h
 obtain ⟨h9,h⟩:=UN h
 rw [oO] at h
 obtain ⟨M',h10,h11⟩:=UH h
 have ea:=AV.ptr_eq h3
 have hs:=KC h8
 rw [lB] at hs
 rw [mF] at h5
 have hq:=obj_ok h4
 refine ⟨.un,M',h11,fun I w n ρ H HA=>?_⟩
 have hx:=H x (by simp [Op.operands]) _ h1
 have hy:=(H y (by simp [Op.operands]) _ h2).cells h6
 rw [ea] at hx
 simp only [IV] at hx
 obtain ⟨bk,hk,hx⟩:=hx
 obtain ⟨bk',hk',hK,hz,hl,pre,vs,ex,X,g1,g2,g3,g4⟩:=HA.own _ _ hq (by intro e; cases e)
 rw [hk] at hk'; cases hk'
 obtain ⟨aa,bb,cc,e1,e2,e3,e4,e5⟩:=IVss.at g3 hl h5
 have hlb:=e3.len
 have hly:=hy.len
 have hll:l.length=q.1:=hl _ (List.mem_of_getElem? h5)
 have hi:p.2.1<q.2.length:=(List.getElem?_eq_some_iff.1 h5).1
 let bb':=bb.take p.2.2++((ev n ρ y).cells.toList++bb.drop (p.2.2+c.length))
 have hbb:bb'.length=bb.length:=by simp only [bb',List.length_append,List.length_take,List.length_drop]; omega
 have hB:IVs I.K (l.take p.2.2++(c++l.drop (p.2.2+c.length))) I.β bb':=IVs.app (IVs.take _ e3) (IVs.app hy (IVs.drop _ e3))
 have hst:=Does.store (P:=pg) (d:=d) (t:=t) (pos:=pos) (after:=after) (g:=g) (n:=n) (ρ:=ρ) hx (y:=y) rfl h7 (by
   have:(ev n ρ y).cells.size=(ev n ρ y).cells.toList.length:=by simp
   omega) hy.ones g1 (by
   rw [e1]; simp; rw [e2,hz] at *; omega)
 have hput:sD (pre++(vs++ex)).toArray (bk.o+p.2.1*bk.z+p.2.2) (ev n ρ y).cells.toList=(pre++((aa++(bb'++cc))++ex)).toArray:=by
  have f1:=CB (pre++aa++bb.take p.2.2) ((bb.drop p.2.2).take c.length) (ev n ρ y).cells.toList (bb.drop (p.2.2+c.length)++(cc++ex)) (by rw [List.length_take,List.length_drop]; omega)
  have f2:pre++aa++bb.take p.2.2++(bb.drop p.2.2).take c.length++(bb.drop (p.2.2+c.length)++(cc++ex))=pre++(vs++ex):=by
   have f3:bb.take p.2.2++((bb.drop p.2.2).take c.length++bb.drop (p.2.2+c.length))=bb:=by
    rw [← List.drop_drop,List.take_append_drop,List.take_append_drop]
   rw [e1]
   conv=>rhs; rw [← f3]
   simp only [List.append_assoc]
  rw [f2,show (pre++aa++bb.take p.2.2).length=bk.o+p.2.1*bk.z+p.2.2 by simp; rw [e2,hz]; omega] at f1
  rw [f1]; simp [bb',List.append_assoc]
 rw [hput] at hst
 obtain ⟨s1,s2⟩:=HA.turn hq (by intro e; cases e) hk (Chg.setBlk w bk.b (.cells (pre++((aa++(bb'++cc))++ex)).toArray X (0,0))) (a':=.cells q.1 (q.2.set p.2.1 (l.take p.2.2++(c++l.drop (p.2.2+c.length)))))
  ⟨hz,fun y hy=>by
   rcases List.mem_or_eq_of_mem_set hy with hy | rfl
   ·exact hl y hy
   ·simp; omega,pre,aa++(bb'++cc),ex,X,OD g1,g2,by
   rw [List.set_eq_take_append_cons_drop,if_pos hi]
   refine IVss.app e4 ?_
   simp only [IVss]
   exact ⟨_,_,rfl,hB,e5⟩,by
   rw [e1] at g4; simp at g4 ⊢; omega⟩ (by intro e; cases e)
 rw [show (execOp (ev n ρ) _).run pg w=_ from hst,h10]
 exact ⟨_,s1,by simp only [IV],s2⟩
theorem yK {b clk:Nat} {es:Array MapEntry} {o':Obj} (h:w.heap[b]?=some (.map es clk)):(setObj b o').run pg w=.ok () (setBlk w b o'):=by
 simp [setObj,Sem.run,setBlk,h]
theorem AS {u:Value} (h:(∃ s,u=.string s)∨∃ kk i,u=.int kk i):Instr.sameBits 10000 u u=true:=by
 rcases h with ⟨s,rfl⟩ | ⟨kk,i,rfl⟩
 ·obtain ⟨⟨m⟩⟩:=s
  show (Array.mk m == Array.mk m)=true
  simp
 ·simp [Instr.sameBits]
theorem NV {op:Op} (hop:op=.mapUpdate T x y z∨op=.insert T x y z) (h:oMup T x y z call E M k=some r):IF ⟨d,op,t,pos,after,g⟩ E M k r:=by
 obtain ⟨a,h1,h⟩:=gA h
 obtain ⟨u,h2,h⟩:=gA h
 obtain ⟨b,h3,h⟩:=gA h
 obtain ⟨id,h4,h⟩:=gA h
 obtain ⟨l,h5,h⟩:=gA h
 obtain ⟨key,h6,h⟩:=gA h
 obtain ⟨p,h7,h⟩:=gA h
 obtain ⟨h8,h⟩:=AA h
 obtain ⟨q,h9,h⟩:=gA h
 have ea:=AV.map_eq h4
 obtain ⟨kt,td,hT,hk,htd⟩:=eR h7
 have hq:=SP h5
 have ho:op.operands.toList=[x,y,z]:=by rcases hop with rfl | rfl<;>rfl
 have hex:∀ (n:Nat) (ρ:EA) (d:Option Nat) (t:TypeId) (pos:String) (after:Array Edge) (g:Option (Nat × Bool)),execOp (ev n ρ) ⟨d,op,t,pos,after,g⟩=(do Instr.mapUpdate T (ev n ρ x) (ev n ρ y) (ev n ρ z); pure .skip):=fun n ρ d t pos after g=>by
  rcases hop with rfl | rfl<;>rfl
 have gen:∀ (l':List (Value × AV)) (M':Me),M'.t=put id M.t (some (.mp l'))→k .un M'=some r →
   (∀ (I:Itp) (w:World) (n:Nat) (ρ:EA) (bk:Bk) (es:List MapEntry) (clk:Nat),IV I.K u I.β (ev n ρ y)→IV I.K b I.β (ev n ρ z)→ev n ρ x=.map (some bk.b)→w.heap[bk.b]?=some (.map es.toArray clk)→EntR I.K I.β l es →
    ∃ es' clk',(Instr.mapUpdate T (ev n ρ x) (ev n ρ y) (ev n ρ z)).run pg w=.ok () (setBlk w bk.b (.map es'.toArray clk'))∧EntR I.K I.β l' es')→IF ⟨d,op,t,pos,after,g⟩ E M k r:=fun l' M' e1 e2 e3=>by
  refine ⟨.un,M',e2,fun I w n ρ H HA=>?_⟩
  have hx:=H x (by simp [ho]) _ h1
  rw [ea] at hx
  simp only [IV] at hx
  obtain ⟨bk,hb,hx⟩:=hx
  obtain ⟨bk',hb',hK,es,clk,hw,he⟩:=HA.own _ _ hq (by intro e; cases e)
  rw [hb] at hb'; cases hb'
  obtain ⟨es',clk',f1,f2⟩:=e3 I w n ρ bk es clk (H y (by simp [ho]) _ h2) (H z (by simp [ho]) _ h3) hx hw he
  obtain ⟨s1,s2⟩:=HA.turn hq (by intro e; cases e) hb (Chg.setBlk w bk.b (.map es'.toArray clk')) (a':=.mp l') ⟨es',clk',OD hw,f2⟩ (by intro e; cases e)
  rw [hex,e1]
  simp only [Sem.run_bind,f1,Result.andThen_ok,Sem.run_pure]
  exact ⟨_,s1,by simp only [IV],s2⟩
 cases q with
 | none =>
  have h:(NG l [(key,b)] fun l=>sJ M id (.mp l) fun M=>k .un M)=some r:=h
  rw [lF] at h
  obtain ⟨M',f1,f2⟩:=UH h
  refine gen _ M' f1 f2 fun I w n ρ bk es clk hy hz hx hw he=>?_
  obtain ⟨e1,e2⟩:=VK h6 hy
  obtain ⟨g1,g2,g3⟩:=WM h8 hy htd (by rw [e1]; exact e2)
  have hf:Instr.findNow td (ev n ρ y) es 0=some none:=sI hy g1 g2 g3 0 h9 he
  have hg:(getObj bk.b).run pg w=.ok (.map es.toArray clk) w:=by simp [getObj,Sem.run,hw]
  refine ⟨es++[{ key:=ev n ρ y,val:=ev n ρ z,born:=clk }],clk+1,?_,?_⟩
  ·simp [Instr.mapUpdate,run_underlying hT,hx,hg,MF false hk g1,Instr.findKey,run_underlying hk,hf,yK hw]
  ·have app:∀ {l:List (Value × AV)} {es:List MapEntry},EntR I.K I.β l es→EntR I.K I.β (l++[(key,b)]) (es++[{ key:=ev n ρ y,val:=ev n ρ z,born:=clk }]):=fun {l}=>by
    induction l with
    | nil=>intro es h; cases h; exact ⟨_,[],rfl,e1,hz,rfl⟩
    | cons p l ih=>intro es h; obtain ⟨e,r,rfl,h1,h2,h3⟩:=h; exact ⟨e,_,rfl,h1,h2,ih h3⟩
   exact app he
 | some v =>
  have h:(JO (fH u key b l) fun l=>sJ M id (.mp l) fun M=>k .un M)=some r:=h
  rw [aG] at h
  obtain ⟨M',f1,f2⟩:=UH h
  refine gen _ M' f1 f2 fun I w n ρ bk es clk hy hz hx hw he=>?_
  obtain ⟨e1,e2⟩:=VK h6 hy
  obtain ⟨g1,g2,g3⟩:=WM h8 hy htd (by rw [e1]; exact e2)
  obtain ⟨j,e,hf,hj,_,hke,ht⟩:=sI hy g1 g2 g3 0 h9 he
  have hg:(getObj bk.b).run pg w=.ok (.map es.toArray clk) w:=by simp [getObj,Sem.run,hw]
  refine ⟨es.set j { e with key:=ev n ρ y,val:=ev n ρ z },clk,?_,by rw [← e1]; exact ht b _ hz⟩
  have hks:(Instr.keyThatStays e.key (ev n ρ y)).run pg w=.ok (ev n ρ y) w:=by
   rw [hke]; simp [Instr.keyThatStays,AS (show (∃ s,ev n ρ y=.string s)∨∃ kk i,ev n ρ y=.int kk i by rw [e1]; exact e2)]
  have hmod:es.modify j (fun e=>{ e with key:=ev n ρ y,val:=ev n ρ z })=es.set j { e with key:=ev n ρ y,val:=ev n ρ z }:=by
   apply List.ext_getElem?
   intro i
   simp only [List.getElem?_modify,List.getElem?_set]
   by_cases hi:j=i
   ·subst hi
    have hjl:=(List.getElem?_eq_some_iff.1 hj).1
    have hje:es[j]=e:=(List.getElem?_eq_some_iff.1 hj).2
    simp [hjl,hje]
   ·simp [hi]
  simp only [Nat.zero_add] at hf
  simp [Instr.mapUpdate,run_underlying hT,hx,hg,MF false hk g1,Instr.findKey,run_underlying hk,hf,hj,hks,hmod,yK hw]
end
end Go.Proofs.YtljlkhobfdofhaaGreatDoor.Rv
namespace Go.Proofs.YtljlkhobfdofhaaGreatDoor.Rv
open Go Vc
attribute [local irreducible] pg
section
variable {o:Oper} {E:En} {A:eF} {M:Me} {v:AV} {k:Kn} {r:Rs} {d:Option Nat} {t T S:TypeId} {pos:String} {after:Array Edge} {g:Option (Nat × Bool)} {x y z:Operand} {call:Cl} {I:Itp} {w w':World}
def GI (K:Kp) (b:Nat) (o:Obj):Kp:=fun i=>if i=b then some o else K i
theorem MRel.keep {b:Nat} {ob:Obj} (H:MRel I w A) (hb:w.heap.size≤b) (h:Ext w w') (ho:w'.heap[b]?=some ob):Stp I w A ⟨I.β,GI I.K b ob⟩ w' A∧MRel ⟨I.β,GI I.K b ob⟩ w' A:=by
 have hle:Kle I.K (GI I.K b ob):=fun i o hi=>by
  have:=xB (H.kept _ _ hi)
  unfold GI; rw [if_neg (by omega)]; exact hi
 refine ⟨⟨Mle.refl _,hle,h.chg,fun i hi=>?_,fun i hi hl=>hl⟩,fun i o hi=>?_,H.dom,fun id a hA hd=>?_,H.inj,H.gl.up hle⟩
 ·show GI I.K b ob i=I.K i
  unfold GI; rw [if_neg (by omega)]
 ·have hi:GI I.K b ob i=some o:=hi
  unfold GI at hi
  by_cases e:i=b
  ·rw [if_pos e] at hi; cases hi; rw [e]; exact ho
  ·rw [if_neg e] at hi; exact h.get (H.kept _ _ hi)
 ·obtain ⟨k,h1,h2,h3⟩:=H.own id a hA hd
  refine ⟨k,h1,?_,(h3.of fun o ho=>h.get ho).up hle (Mle.refl _)⟩
  have:=h3.lt hd
  show GI I.K b ob k.b=none
  unfold GI; rw [if_neg (by omega)]; exact h2
theorem ct_b (h:dG S T=.b):∃ e,pg.underlying S=some .string∧pg.underlying T=some (.slice e)∧pg.underlying e=some (.int .u8):=by
 unfold dG at h
 split at h<;>(try (cases h; done))
 rename_i e hs ht
 split at h
 ·rename_i he; exact ⟨e,hs,ht,he⟩
 ·cases h
theorem ok_cnB (hc:dG S T=.b) (h:SS x call E M k=some r):IF ⟨d,.convert S T x,t,pos,after,g⟩ E M k r:=by
 obtain ⟨a,h1,h⟩:=gA h
 obtain ⟨l,h2,h⟩:=gA h
 rw [aG] at h
 have ea:=AV.str_eq h2
 obtain ⟨e,hs,ht,he⟩:=ct_b hc
 refine ⟨_,M,h,fun I w n ρ H HA=>?_⟩
 have hx:=H x (by simp [Op.operands]) _ h1
 rw [ea] at hx
 simp only [IV] at hx
 have hrun:=run_bytes_of_string (P:=pg) w S T e ⟨⟨l⟩⟩ hs ht he
 generalize hc2:grownCap w (ByteArray.mk ⟨l⟩).size 0 e=cp at hrun
 generalize hob:Obj.cells (bytesRow (ByteArray.mk ⟨l⟩) cp) e ((bytesRow (ByteArray.mk ⟨l⟩) cp).size,(bytesRow (ByteArray.mk ⟨l⟩) cp).size+1)=ob at hrun
 have hr:(execOp (ev n ρ) ⟨d,.convert S T x,t,pos,after,g⟩).run pg w=.ok (.value (.slice (some ⟨w.heap.size,0,none⟩) l.length cp)) (w.drew.alloc ob):=by
  simp only [execOp,hx,Sem.run_bind,hrun,Result.andThen_ok,Sem.run_pure]
  rfl
 rw [hr]
 obtain ⟨s1,s2⟩:=HA.keep (Nat.le_refl _) ((Ext.drew w).trans (Ext.alloc _ _)) (PB { w with drawn:=w.drawn+1 } ob)
 refine ⟨_,s1,?_,s2⟩
 simp only [IV]
 have hI:∀ l:List UInt8,IVss (GI I.K w.heap.size ob) (l.map fun b=>[AV.int .u8 (.ofNat b.toNat)]) RP (l.map fun b=>Value.int .u8 b.toNat):=fun l=>by
  induction l with
  | nil=>simp only [List.map_nil,IVss]
  | cons b l ih =>
   simp only [List.map_cons,IVss]
   refine ⟨[Value.int .u8 b.toNat],_,rfl,?_,ih⟩
   simp only [IVs,IV]
   exact ⟨_,[],rfl,rfl,rfl,rfl⟩
 refine ⟨some ⟨w.heap.size,0,none⟩,cp,l.map fun b=>Value.int .u8 b.toNat,by simp,hI l,fun q hq=>?_,.inr ⟨w.heap.size,0,bytesRow (ByteArray.mk ⟨l⟩) cp,e,((bytesRow (ByteArray.mk ⟨l⟩) cp).size,(bytesRow (ByteArray.mk ⟨l⟩) cp).size+1),rfl,?_,fun i u hu=>?_⟩⟩
 ·simp only [List.mem_map] at hq
  obtain ⟨b,_,rfl⟩:=hq; rfl
 ·show GI I.K w.heap.size ob w.heap.size=_
  unfold GI; rw [if_pos rfl,← hob]
 ·have hi:=(List.getElem?_eq_some_iff.1 hu).1
  have e1:(bytesRow (ByteArray.mk ⟨l⟩) cp)=(l.map (fun b:UInt8=>Value.int .u8 b.toNat)++List.replicate (cp-l.length) (Value.int .u8 0)).toArray:=by
   apply Array.ext'
   simp [bytesRow]; rfl
  rw [e1,Nat.zero_add,List.getElem?_toArray,List.getElem?_append_left hi]; exact hu
end
end Go.Proofs.YtljlkhobfdofhaaGreatDoor.Rv
namespace Go.Proofs.YtljlkhobfdofhaaGreatDoor.Rv
open Go Vc
attribute [local irreducible] pg
section
variable {o:Oper} {E:En} {A:eF} {M:Me} {v:AV} {k:Kn} {r:Rs} {d:Option Nat} {t T S:TypeId} {pos:String} {after:Array Edge} {g:Option (Nat × Bool)} {x y z:Operand} {call:Cl} {I:Itp} {w w':World}
theorem wG:∀ (l:LV) (off b:Nat) (cs:Array Value) (X:TypeId) (fr:Nat × Nat) (w:World),w.heap[b]?=some (.cells cs X fr)→w.setCells b off l=setBlk w b (.cells (sD cs off l) X fr)
 | [],off,b,cs,X,fr,w,h=>by simp only [World.setCells,sD]; exact (tJ h).symm
 | v::l,off,b,cs,X,fr,w,h=>by
  simp only [World.setCells,sD]
  rw [vK h,wG l (off+1) b _ X fr _ (OD h),wK]
theorem IVss.ones {K:Kp} {β:Mp}:∀ {l:List (List AV)} {us:LV},IVss K l β us→∀ u∈us,u.oneCell'=true
 | [],us,H,u,hu=>by simp only [IVss] at H; subst H; cases hu
 | v::l,us,H,u,hu=>by
  simp only [IVss] at H
  obtain ⟨a,r,rfl,h2,h3⟩:=H
  rcases List.mem_append.1 hu with hu | hu
  ·exact h2.ones u hu
  ·exact IVss.ones h3 u hu
def Src (w:World) (ad:Option Addr) (us:LV):Prop:=us=[]∨∃ b q,ad=some ⟨b,q,none⟩∧∀ (j:Nat) (u:Value),us[j]?=some u→w.cell? (Addr.add ⟨b,q,none⟩ j)=some u
theorem KG {b q j:Nat} {cs:Array Value} {X:TypeId} {fr:Nat × Nat} (h:w.heap[b]?=some (.cells cs X fr)):w.cell? (Addr.add ⟨b,q,none⟩ j)=cs[q+j]?:=by
 rw [HF]; simp [World.cell?,h]
theorem jE {zz:Nat} {a:AV} {gr:List (List AV)} {u:Value} (h:dC zz A a=some gr) (HA:MRel I w A) (hx:IV I.K a I.β u) :
  ∃ ad c us,u=.slice ad gr.length c∧IVss I.K gr I.β us∧(∀ q∈gr,q.length=zz)∧Src w ad us:=by
 have no:dC zz A a=none→False:=fun e=>by rw [e] at h; cases h
 have emp:∀ ad c,gr=[]→u=.slice ad 0 c→∃ ad c us,u=.slice ad gr.length c∧IVss I.K gr I.β us∧(∀ q∈gr,q.length=zz)∧Src w ad us:=fun ad c e1 e2=>by
  subst e1
  exact ⟨ad,c,[],e2,by simp only [IVss],by simp,.inl rfl⟩
 cases a with
 | pv p =>
  obtain ⟨h1,h2⟩:=AA (show KA (fJ (.pv p)) (some []) none=some gr from h)
  cases h2
  exact emp _ _ rfl (RJ h1 hx)
 | e0 =>
  have h2:some []=some gr:=h
  cases h2
  simp only [IV] at hx
  obtain ⟨ad,hx⟩:=hx
  exact emp _ _ rfl hx
 | sl id o n z =>
  obtain ⟨p,h1,h2⟩:=gA (show gpS zz A (.sl id o n z)=some gr from h)
  cases h1
  obtain ⟨h3,h2⟩:=AA h2
  obtain ⟨g0,h4,h2⟩:=gA h2
  obtain ⟨h6,h2⟩:=AA h2
  have h6':o+n≤DC g0:=Nat.le_of_ble_eq_true h6
  rw [lB] at h6'
  rw [WD,bE] at h2
  cases h2
  have hz:z=zz:=KC h3
  obtain ⟨z',h5⟩:=wH h4
  simp only [IV] at hx
  obtain ⟨bk,hk,hx,hc,hbz⟩:=hx
  obtain ⟨bk',hk',_,e1,e2,pre,vs,ex,X,e3,e4,e5,e6⟩:=HA.own _ _ h5 (by intro e; cases e)
  rw [hk] at hk'; cases hk'
  have hz2:z'=zz:=by rw [← e1,hbz,hz]
  subst hz2
  have hI:=IVss.take n (IVss.drop o e5 e2) fun q hq=>e2 q (List.mem_of_mem_drop hq)
  have hl:((g0.drop o).take n).length=n:=by rw [List.length_take,List.length_drop]; omega
  refine ⟨some ⟨bk.b,bk.o+o*bk.z,none⟩,bk.c-o,(vs.drop (o*z')).take (n*z'),by show _=Value.slice _ ((g0.drop o).take n).length _; rw [hl]; exact hx,hI,fun q hq=>e2 q (List.mem_of_mem_drop (List.mem_of_mem_take hq)),?_⟩
  refine .inr ⟨bk.b,bk.o+o*bk.z,rfl,fun j u hj=>?_⟩
  rw [KG e3]
  rw [List.getElem?_take] at hj
  by_cases hj2:j<n*z'
  ·rw [if_pos hj2,List.getElem?_drop] at hj
   have hj3:=(List.getElem?_eq_some_iff.1 hj).1
   rw [List.getElem?_toArray,List.getElem?_append_right (by omega),List.getElem?_append_left (by rw [e1]; omega),show bk.o+o*bk.z+j-pre.length=o*z'+j by rw [e1]; omega]
   exact hj
  ·rw [if_neg hj2] at hj; cases hj
 | lst z l =>
  obtain ⟨p,h1,h2⟩:=gA (show gpL zz A (.lst z l)=some gr from h)
  cases h1
  obtain ⟨h3,h2⟩:=AA h2
  cases h2
  have hz:z=zz:=KC h3
  simp only [IV] at hx
  obtain ⟨ad,c,us,hx,hI,hl,hb⟩:=hx
  have hI':IVss I.K l I.β us:=IVss.up (Kle.refl _) l (fun _ _ e=>by cases e) us hI
  refine ⟨ad,c,us,hx,hI',fun q hq=>by rw [hl q hq,hz],?_⟩
  rcases hb with rfl | ⟨b,o,cs,X,fr,e1,e2,e3⟩
  ·simp only [IVss] at hI'
   exact .inl hI'
  ·exact .inr ⟨b,o,e1,fun j u hj=>by rw [KG (HA.kept _ _ e2)]; exact e3 j u hj⟩
 | _=>exact (no rfl).elim
theorem DO {p:Nat × Nat × List AV} (h:vS T=some p):∃ e i zv,pg.underlying T=some (.slice e)∧pg.info? e=some i∧i.zero=some zv∧i.size=p.1∧i.bytes=p.2.1∧zv.cells.size=p.1∧0<p.1:=by
 obtain ⟨e,zv,f1,f2,f3,f4,f5,f6⟩:=LJ h
 unfold qD at f1
 split at f1
 ·rename_i e' hu
  simp only [Option.map_eq_some_iff,Prod.mk.injEq] at f1
  obtain ⟨s,hs,rfl,rfl⟩:=f1
  unfold ZB at hs
  unfold BI at f2
  unfold YB at f3
  rw [Option.map_eq_some_iff] at hs f2
  obtain ⟨i,hi,hs⟩:=hs
  obtain ⟨i',hi',hb⟩:=f2
  rw [hi] at hi'; cases hi'
  rw [hi] at f3
  have hz:=(f4 (fun _=>none) RP).len
  exact ⟨_,i,zv,hu,hi,f3,hs,hb,by simp at hz; omega,f6⟩
 ·cases f1
theorem SU {e:TypeId} {i:TypeInfo} {ad ad2:Option Addr} {n c c2:Nat} {ty:TypeId} (hu:pg.underlying T=some (.slice e)) (hi:pg.info? e=some i) (hc:n≤c) (hn:ad=none→n=0) :
  (Builtin.append_ #[T,T] ty #[.slice ad n c,.slice ad2 0 c2]).run pg w=.ok (.slice ad n c) w:=by
 cases ad2 with
 | none =>
  cases ad with
  | none=>simp [Builtin.append_,run_underlying hu,sizeOf,typeInfo,hi,Builtin.lenOf,hc,Builtin.firstCells]
  | some a=>simp [Builtin.append_,run_underlying hu,sizeOf,typeInfo,hi,Builtin.lenOf,hc,Builtin.firstCells,storeCells]
 | some a2 =>
  have hf:=run_firstCells_some (P:=pg) w i.size 0 a2 0 c2 [] (by simp) (by simp)
  cases ad with
  | none=>simp [Builtin.append_,run_underlying hu,sizeOf,typeInfo,hi,Builtin.lenOf,hc,hf]
  | some a=>simp [Builtin.append_,run_underlying hu,sizeOf,typeInfo,hi,Builtin.lenOf,hc,hf,storeCells]
theorem dN {n:Nat} {ρ:EA} {v:Value} (h:(Builtin.append_ #[T,T] t #[ev n ρ x,ev n ρ y]).run pg w=.ok v w'):(execOp (ev n ρ) ⟨d,.call ⟨.builtin .append,#[x,y],#[T,T]⟩,t,pos,after,g⟩).run pg w=.ok (.value v) w':=by
 simp [execOp,resolve,invoke,builtin,h]
theorem GQ {m b:Nat} (h:zM m b=true):m≤1000000∧b≤1000000:=by
 unfold zM at h
 cases hb:Nat.ble m 1000000 with
 | false=>rw [hb] at h; cases h
 | true=>rw [hb,tC] at h; exact ⟨Nat.le_of_ble_eq_true hb,Nat.le_of_ble_eq_true h⟩
theorem MN {e:TypeId} {i:TypeInfo} {zv:Value} {ad ad2:Option Addr} {n m c c2 s:Nat} {ty:TypeId} {olds news:LV} (hu:pg.underlying T=some (.slice e)) (hi:pg.info? e=some i) (hz:i.zero=some zv) (hs:i.size=s) (hs0:0<s)
  (hn:ad=none→n=0∧c=0) (ho:olds.length=n*s) (hs1:Src w ad olds) (hm:0<m) (hw:news.length=m*s) (hs2:Src w ad2 news) (hg:c<n+m) (hb:(n+m)*i.bytes≤140737488355328) (hl:n+m≤9223372036854775807) :
  (Builtin.append_ #[T,T] ty #[.slice ad n c,.slice ad2 m c2]).run pg w=.ok (.slice (some ⟨w.heap.size,0,none⟩) (n+m) (grownCap w (n+m) c e)) (w.drew.alloc (.cells (olds++(news++(Builtin.zeroCells zv.cells (grownCap w (n+m) c e-(n+m))).toList)).toArray e)):=by
 have hne:news≠[]:=fun e=>by
  rw [e] at hw
  have:=Nat.mul_pos hm hs0
  simp at hw; omega
 rcases hs2 with h | ⟨b2,q2,rfl,h2⟩
 ·exact (hne h).elim
 ·cases ad with
  | none =>
   obtain ⟨rfl,rfl⟩:=hn rfl
   have h0:olds=[]:=List.length_eq_zero_iff.1 (by simpa using ho)
   subst h0
   have:=run_append_nil (P:=pg) w T ty e i zv hu hi hz ⟨b2,q2,none⟩ m c2 news (by rw [hw,hs]) h2 hm (by omega) (by rw [Nat.zero_add] at hb; omega)
   simp only [Nat.zero_add,List.nil_append]
   rw [this]
   congr 3
   apply Array.ext'; simp
  | some a =>
   have h1:∀ (j:Nat) (v:Value),olds[j]?=some v→w.cell? (a.add j)=some v:=fun j v hj=>by
    rcases hs1 with h | ⟨b,q,e1,h1⟩
    ·rw [h] at hj; simp at hj
    ·cases e1; exact h1 j v hj
   have:=run_append_grow (P:=pg) w T ty e i zv hu hi hz a n c olds (by rw [ho,hs]) h1 ⟨b2,q2,none⟩ m c2 news (by rw [hw,hs]) h2 hg (by omega) (growslice_fits hg hb)
   rw [this]
   congr 3
   apply Array.ext'; simp
theorem ok_app (h:cApp x y T T call E M k=some r):IF ⟨d,.call ⟨.builtin .append,#[x,y],#[T,T]⟩,t,pos,after,g⟩ E M k r:=by
 obtain ⟨a,h1,h⟩:=gA h
 obtain ⟨b,h2,h⟩:=gA h
 obtain ⟨p,h3,h⟩:=gA h
 obtain ⟨h4,h⟩:=AA h
 obtain ⟨gr,h5,h⟩:=gA h
 obtain ⟨e,i,zv,hu,hi,hz,hs,hby,hzs,hp⟩:=DO h3
 have zl:∀ q,(Builtin.zeroCells zv.cells q).toList.length=q*p.1:=fun q=>by rw [Array.length_toList,size_zeroCells,hzs]
 have opx:∀ {I:Itp} {n:Nat} {ρ:EA},HO I.K I.β n E ρ (Oper.mk d (.call ⟨.builtin .append,#[x,y],#[T,T]⟩) t pos after g).op.operands.toList→IV I.K a I.β (ev n ρ x)∧IV I.K b I.β (ev n ρ y):=fun H =>
  ⟨H x (by simp [Op.operands,Call.operands]) _ h1,H y (by simp [Op.operands,Call.operands]) _ h2⟩
 cases gr with
 | nil =>
  obtain ⟨h6,h7⟩:=AA (show KA (isSl a) (k a M) none=some r from h)
  refine ⟨a,M,h7,fun I w n ρ H HA=>?_⟩
  obtain ⟨hx,hy⟩:=opx H
  obtain ⟨ad2,c2,us,e1,_⟩:=jE h5 HA hy
  have hxs:∃ ad m c,ev n ρ x=.slice ad m c∧m≤c∧(ad=none→m=0):=by
   unfold isSl at h6
   cases hn:fJ a with
   | true=>exact ⟨none,0,0,RJ hn hx,Nat.le_refl _,fun _=>rfl⟩
   | false =>
    rw [hn,BD] at h6
    cases a with
    | sl id o m z =>
     simp only [IV] at hx
     obtain ⟨bk,hk,hx,hc,_⟩:=hx
     exact ⟨_,_,_,hx,by omega,fun e=>by cases e⟩
    | e0 =>
     simp only [IV] at hx
     obtain ⟨ad,hx⟩:=hx
     exact ⟨ad,0,0,hx,Nat.le_refl _,fun _=>rfl⟩
    | _=>cases h6
  obtain ⟨ad,m,c,e2,e3,e4⟩:=hxs
  rw [dN (by rw [e1,e2]; exact SU hu hi e3 e4)]
  exact ⟨I,Stp.refl,by rw [← e2]; exact hx,HA⟩
 | cons g0 gs =>
  generalize hgr:g0::gs=gr at h h5
  have hpos:0<gr.length:=by rw [← hgr]; simp
  have h:(Option.rec (appN M a p.2.1 p.1 gr k) (fun s=>appS M s p.2.1 p.1 gr k) a.sl?:Option Rs)=some r:=by rw [← hgr]; rw [← hgr] at h; exact h
  cases ha:a.sl? with
  | none =>
   rw [ha] at h
   obtain ⟨h6,h7⟩:=AA (show appN M a p.2.1 p.1 gr k=some r from h)
   obtain ⟨h8,h9⟩:=AA h7
   rw [lB] at h8 h9
   obtain ⟨r1,r2⟩:=GQ h8
   obtain ⟨f1,M',f2,f3⟩:=SJ h9
   refine ⟨_,M',f3,fun I w n ρ H HA=>?_⟩
   obtain ⟨hx,hy⟩:=opx H
   obtain ⟨ad2,c2,news,e1,hI,hl,hsr⟩:=jE h5 HA hy
   have hxs:∃ ad,ev n ρ x=.slice ad 0 0:=by
    cases hn:fJ a with
    | true=>exact ⟨none,RJ hn hx⟩
    | false =>
     rw [hn,BD] at h6
     cases a with
     | e0 =>
      simp only [IV] at hx
      exact hx
     | _=>cases h6
   obtain ⟨ad,e2⟩:=hxs
   have hlen:=hI.len hl
   have hmul:gr.length*p.2.1≤1000000*1000000:=Nat.mul_le_mul r1 r2
   have hrun:=MN (T:=T) (ty:=t) (w:=w) (ad:=ad) (n:=0) (c:=0) (olds:=[]) (c2:=c2) hu hi hz hs hp (fun _=>⟨rfl,rfl⟩) (by simp) (.inl rfl) hpos hlen hsr (by omega) (by rw [Nat.zero_add,hby]; omega) (by omega)
   rw [Nat.zero_add] at hrun
   generalize hcp:grownCap w gr.length 0 e=cp at hrun
   have hge:gr.length≤cp:=by rw [← hcp]; exact grownCap_ge w gr.length 0 e
   rw [dN (by rw [e1,e2]; exact hrun),f2]
   obtain ⟨s1,s2⟩:=HA.new (k:=⟨w.heap.size,0,p.1,cp⟩) f1 (Nat.le_refl _) ((Ext.drew w).trans (Ext.alloc _ _)) (a:=.cells p.1 gr)
    ⟨rfl,hl,[],news,(Builtin.zeroCells zv.cells (cp-gr.length)).toList,e,by simpa using PB { w with drawn:=w.drawn+1 } _,rfl,hI,by
     show cp*p.1≤news.length+(Builtin.zeroCells zv.cells (cp-gr.length)).toList.length
     rw [zl,hlen,← Nat.add_mul]
     exact Nat.mul_le_mul_right _ (by omega)⟩ (by intro e; cases e)
   refine ⟨_,s1,?_,s2⟩
   simp only [IV]
   exact ⟨_,bind_self,by simp,by simpa using hge,rfl⟩
  | some q =>
   rw [ha] at h
   have ea:=AV.sl_eq ha
   obtain ⟨g1,h6,h7⟩:=gA (show appS M q p.2.1 p.1 gr k=some r from h)
   obtain ⟨h8,h9⟩:=AA h7
   obtain ⟨h10,h11⟩:=AA h9
   obtain ⟨h12,h13⟩:=AA h11
   rw [WD,lF,bE,VH] at h13
   rw [lB] at h12 h13
   obtain ⟨r1,r2⟩:=GQ h12
   have r1':q.2.2.1+gr.length≤1000000:=r1
   have h8':=KC h8
   have h10':q.2.1+q.2.2.1≤DC g1:=Nat.le_of_ble_eq_true h10
   rw [lB] at h10'
   obtain ⟨f1,M',f2,f3⟩:=SJ h13
   have f1:get M.nx (put q.1 M.t (some .dead))=none:=f1
   have f2:M'.t=put M.nx (put q.1 M.t (some .dead)) (some (.cells p.1 ((g1.drop q.2.1).take q.2.2.1++gr))):=f2
   obtain ⟨zz,hg1⟩:=wH h6
   have hfr:get M.nx M.t=none:=by
    rw [zB] at f1
    by_cases e0:M.nx=q.1
    ·rw [if_pos e0] at f1; cases f1
    ·rw [if_neg e0] at f1; exact f1
   refine ⟨_,M',f3,fun I w n ρ H HA=>?_⟩
   obtain ⟨hx,hy⟩:=opx H
   obtain ⟨ad2,c2,news,e1,hI,hl,hsr⟩:=jE h5 HA hy
   rw [ea] at hx
   simp only [IV] at hx
   obtain ⟨bk,hk,hx,hc,hbz⟩:=hx
   obtain ⟨bk',hk',hK,k1,k2,pre,vs,ex,X,k3,k4,k5,k6⟩:=HA.own _ _ hg1 (by intro e; cases e)
   rw [hk] at hk'; cases hk'
   have hzz:zz=p.1:=by rw [← k1,hbz,h8']
   subst hzz
   have hlen:=hI.len hl
   have hvl:=k5.len k2
   -- what the slice holds
   have hD:=IVss.drop q.2.1 k5 k2
   have hO:=IVss.take q.2.2.1 hD fun y hy=>k2 y (List.mem_of_mem_drop hy)
   have hol:((vs.drop (q.2.1*p.1)).take (q.2.2.1*p.1)).length=q.2.2.1*p.1:=by
    rw [List.length_take,List.length_drop,hvl]
    have:=Nat.mul_le_mul_right p.1 h10'
    rw [Nat.add_mul] at this; omega
   have hN:IVss I.K ((g1.drop q.2.1).take q.2.2.1++gr) I.β ((vs.drop (q.2.1*p.1)).take (q.2.2.1*p.1)++news):=IVss.app hO hI
   have hNl:∀ y∈(g1.drop q.2.1).take q.2.2.1++gr,y.length=p.1:=fun y hy=>by
    rcases List.mem_append.1 hy with hy | hy
    ·exact k2 y (List.mem_of_mem_drop (List.mem_of_mem_take hy))
    ·exact hl y hy
   have hos:Src w (some ⟨bk.b,bk.o+q.2.1*bk.z,none⟩) ((vs.drop (q.2.1*p.1)).take (q.2.2.1*p.1)):=.inr ⟨_,_,rfl,fun j u hj=>by
    rw [KG k3]
    rw [List.getElem?_take] at hj
    by_cases hj2:j<q.2.2.1*p.1
    ·rw [if_pos hj2,List.getElem?_drop] at hj
     have hj3:=(List.getElem?_eq_some_iff.1 hj).1
     rw [List.getElem?_toArray,List.getElem?_append_right (by omega),List.getElem?_append_left (by rw [k1]; omega),show bk.o+q.2.1*bk.z+j-pre.length=q.2.1*p.1+j by rw [k1]; omega]
     exact hj
    ·rw [if_neg hj2] at hj; cases hj⟩
   have hmul:(q.2.2.1+gr.length)*p.2.1≤1000000*1000000:=Nat.mul_le_mul r1' r2
   by_cases hroom:q.2.2.1+gr.length≤bk.c-q.2.1
   ·have hne:news≠[]:=fun e0=>by
     rw [e0] at hlen
     have:=Nat.mul_pos hpos hp
     simp at hlen; omega
    rcases hsr with e0 | ⟨b2,q2,rfl,hsr⟩
    ·exact (hne e0).elim
    have hbig:(q.2.1+q.2.2.1+gr.length)*p.1≤vs.length+ex.length:=Nat.le_trans (Nat.mul_le_mul_right _ (by omega)) k6
    rw [Nat.add_mul,Nat.add_mul] at hbig
    have hlt:∀ j,j<news.length→bk.o+q.2.1*bk.z+q.2.2.1*i.size+j<(pre++(vs++ex)).toArray.size:=fun j hj=>by
     simp only [List.size_toArray,List.length_append]; rw [k1,hs]; omega
    have hrun:=run_append_room_cells (P:=pg) (w:=w) T t e i hu hi bk.b (bk.o+q.2.1*bk.z) q.2.2.1 (bk.c-q.2.1) ⟨b2,q2,none⟩ gr.length c2 news (by rw [hlen,hs]) hsr (IVss.ones hI) hroom
     (fun j hj=>by simp only [World.cell?,k3]; simp; have:=hlt j hj; simpa using this) (fun j hj=>by simp [World.frozen?,k3])
    rw [wG _ _ _ _ _ _ _ k3] at hrun
    have hle2:q.2.1*p.1+q.2.2.1*p.1≤vs.length:=by rw [← Nat.add_mul,hvl]; exact Nat.mul_le_mul_right _ h10'
    let rest:=vs.drop ((q.2.1+q.2.2.1)*p.1)++ex
    have hput:sD (pre++(vs++ex)).toArray (bk.o+q.2.1*bk.z+q.2.2.1*i.size) news=((pre++vs.take (q.2.1*p.1))++(((vs.drop (q.2.1*p.1)).take (q.2.2.1*p.1)++news)++rest.drop news.length)).toArray:=by
     have f1:=CB (pre++vs.take ((q.2.1+q.2.2.1)*p.1)) (rest.take news.length) news (rest.drop news.length) (by
      simp only [rest,List.length_take,List.length_append,List.length_drop]; rw [Nat.add_mul]; omega)
     have f4:pre++vs.take ((q.2.1+q.2.2.1)*p.1)++rest.take news.length++rest.drop news.length=pre++(vs++ex):=by
      rw [List.append_assoc,List.take_append_drop]
      show pre++vs.take _++(vs.drop _++ex)=_
      rw [List.append_assoc,← List.append_assoc (vs.take _),List.take_append_drop]
     rw [f4,show (pre++vs.take ((q.2.1+q.2.2.1)*p.1)).length=bk.o+q.2.1*bk.z+q.2.2.1*i.size by
      rw [List.length_append,List.length_take,k1,hs,Nat.add_mul]; omega] at f1
     rw [f1,Nat.add_mul,List.take_add]
     simp only [List.append_assoc]
    rw [hput] at hrun
    rw [dN (by rw [e1,hx]; exact hrun),f2]
    have hgl:((g1.drop q.2.1).take q.2.2.1).length=q.2.2.1:=by rw [List.length_take,List.length_drop]; omega
    obtain ⟨s1,s2⟩:=HA.anew (k':=⟨bk.b,bk.o+q.2.1*bk.z,p.1,bk.c-q.2.1⟩) hg1 (by intro e; cases e) hk hfr rfl (Chg.setBlk w bk.b _) (a':=.cells p.1 ((g1.drop q.2.1).take q.2.2.1++gr))
     ⟨rfl,hNl,pre++vs.take (q.2.1*p.1),(vs.drop (q.2.1*p.1)).take (q.2.2.1*p.1)++news,rest.drop news.length,X,OD k3,by
      show _=bk.o+q.2.1*bk.z
      rw [List.length_append,List.length_take,k1]; omega,hN,by
      show (bk.c-q.2.1)*p.1≤_
      rw [List.length_append,hol,hlen]
      simp only [rest,List.length_drop,List.length_append]
      rw [Nat.sub_mul,Nat.add_mul]; omega⟩ (by intro e; cases e)
    refine ⟨_,s1,?_,s2⟩
    simp only [IV]
    exact ⟨_,bind_self,by simp,by simpa using hroom,rfl⟩
   ·have hrun:=MN (T:=T) (ty:=t) (w:=w) (n:=q.2.2.1) (c:=bk.c-q.2.1) (c2:=c2) hu hi hz hs hp (fun e=>by cases e) hol hos hpos hlen hsr (by omega) (by rw [hby]; omega) (by omega)
    generalize hcp:grownCap w (q.2.2.1+gr.length) (bk.c-q.2.1) e=cp at hrun
    have hge:q.2.2.1+gr.length≤cp:=by rw [← hcp]; exact grownCap_ge w _ _ e
    rw [dN (by rw [e1,hx]; exact hrun),f2]
    obtain ⟨s1,s2⟩:=HA.kill (id:=q.1) (by rw [hg1]; intro e; cases e)
    have hgl:((g1.drop q.2.1).take q.2.2.1).length=q.2.2.1:=by rw [List.length_take,List.length_drop]; omega
    obtain ⟨s3,s4⟩:=s2.new (k:=⟨w.heap.size,0,p.1,cp⟩) f1 (Nat.le_refl _) ((Ext.drew w).trans (Ext.alloc _ _)) (a:=.cells p.1 ((g1.drop q.2.1).take q.2.2.1++gr))
     ⟨rfl,hNl,[],(vs.drop (q.2.1*p.1)).take (q.2.2.1*p.1)++news,(Builtin.zeroCells zv.cells (cp-(q.2.2.1+gr.length))).toList,e,by simpa using PB { w with drawn:=w.drawn+1 } _,rfl,hN,by
      show cp*p.1≤((vs.drop (q.2.1*p.1)).take (q.2.2.1*p.1)++news).length+(Builtin.zeroCells zv.cells (cp-(q.2.2.1+gr.length))).toList.length
      rw [zl,List.length_append,hol,hlen,← Nat.add_mul,← Nat.add_mul]
      exact Nat.mul_le_mul_right _ (by omega)⟩ (by intro e; cases e)
    refine ⟨_,s1.trans s3,?_,s4⟩
    simp only [IV]
    exact ⟨_,bind_self,by simp,by simpa using hge,rfl⟩
end
end Go.Proofs.YtljlkhobfdofhaaGreatDoor.Rv
namespace Go.Proofs.YtljlkhobfdofhaaGreatDoor.Rv
open Go Vc
attribute [local irreducible] pg
section
variable {o:Oper} {E:En} {A:eF} {M:Me} {v:AV} {k:Kn} {r:Rs} {d:Option Nat} {t T S T':TypeId} {pos:String} {after:Array Edge} {g:Option (Nat × Bool)} {x y z:Operand} {call:Cl} {I:Itp} {w w':World}
theorem EZ (h:cCopy x y T T' call E M k=some r):IF ⟨d,.call ⟨.builtin .copy,#[x,y],#[T,T']⟩,t,pos,after,g⟩ E M k r:=by
 obtain ⟨a,h1,h⟩:=gA h
 obtain ⟨b,h2,h⟩:=gA h
 obtain ⟨p,h3,h⟩:=gA h
 obtain ⟨h4,h⟩:=AA h
 obtain ⟨m,h5,h⟩:=gA h
 obtain ⟨h6,h⟩:=AA h
 obtain ⟨q,h7,h⟩:=gA h
 obtain ⟨h8,h⟩:=AA h
 obtain ⟨g1,h9,h⟩:=gA h
 obtain ⟨h10,h⟩:=AA h
 obtain ⟨h11,h⟩:=AA h
 rw [WD,WD,lF,lF,bE] at h
 rw [lB] at h
 have e4:p.1=1:=KC h4
 have e8:=KC h8
 have e6:1≤DC m:=Nat.le_of_ble_eq_true h6
 rw [lB] at e6
 have e10:q.2.1+q.2.2.1≤DC g1:=Nat.le_of_ble_eq_true h10
 rw [lB] at e10
 have e11:1≤q.2.2.1:=Nat.le_of_ble_eq_true h11
 have ea:=AV.sl_eq h7
 obtain ⟨e,i,zv,hu,hi,hz,hs,hby,hzs,hp⟩:=DO h3
 obtain ⟨zz,hg1⟩:=wH h9
 obtain ⟨M',f1,f2⟩:=UH h
 refine ⟨_,M',f2,fun I w n ρ H HA=>?_⟩
 have hx:=H x (by simp [Op.operands,Call.operands]) _ h1
 have hy:=H y (by simp [Op.operands,Call.operands]) _ h2
 obtain ⟨ad2,c2,news,k0,hI,hl,hsr⟩:=jE h5 HA hy
 rw [ea] at hx
 simp only [IV] at hx
 obtain ⟨bk,hk,hx,hc,hbz⟩:=hx
 obtain ⟨bk',hk',hK,k1,k2,pre,vs,ex,X,k3,k4,k5,k6⟩:=HA.own _ _ hg1 (by intro e; cases e)
 rw [hk] at hk'; cases hk'
 have hb1:bk.z=1:=by rw [hbz,e8,e4]
 have hzz:zz=1:=by rw [← k1,hb1]
 subst hzz
 rw [e4] at hl
 have hlen:=hI.len hl
 have hvl:=k5.len k2
 rw [Nat.mul_one] at hlen hvl
 have hI2:=IVss.take q.2.2.1 hI hl
 rw [Nat.mul_one] at hI2
 have hcs:(news.take q.2.2.1).length=Nat.min m.length q.2.2.1:=by rw [List.length_take,hlen]; exact Nat.min_comm _ _
 have hml:(m.take q.2.2.1).length=(news.take q.2.2.1).length:=by rw [List.length_take,List.length_take,hlen]
 have hne:news≠[]:=fun e0=>by rw [e0] at hlen; simp at hlen; omega
 rcases hsr with e0 | ⟨b2,q2,rfl,hsr⟩
 ·exact (hne e0).elim
 have hnl:(news.take q.2.2.1).length≤q.2.2.1:=by rw [List.length_take]; omega
 have hsz:(pg.info? e).map (·.size)=some 1:=by rw [hi,Option.map_some,hs,e4]
 have hrun:=run_copy_cells (P:=pg) w T T' t e bk.b (bk.o+q.2.1*bk.z) q.2.2.1 (bk.c-q.2.1) ⟨b2,q2,none⟩ m.length c2 (news.take q.2.2.1) hu hsz hcs
  (fun j v hj=>by
   rw [List.getElem?_take] at hj
   by_cases hj2:j<q.2.2.1
   ·rw [if_pos hj2] at hj; exact hsr j v hj
   ·rw [if_neg hj2] at hj; cases hj)
  (fun j hj=>by
   simp only [World.cell?,k3]; simp; rw [hb1]; omega) (fun j hj=>by simp [World.frozen?,k3]) (IVss.ones hI2)
 rw [wG _ _ _ _ _ _ _ k3] at hrun
 let nw:=news.take q.2.2.1
 have hput:sD (pre++(vs++ex)).toArray (bk.o+q.2.1*bk.z) nw=(pre++((vs.take q.2.1++(nw++vs.drop (q.2.1+nw.length)))++ex)).toArray:=by
  have f1:=CB (pre++vs.take q.2.1) ((vs.drop q.2.1).take nw.length) nw (vs.drop (q.2.1+nw.length)++ex) (by
   rw [List.length_take,List.length_drop]; have:nw.length≤q.2.2.1:=hnl; omega)
  have f4:pre++vs.take q.2.1++(vs.drop q.2.1).take nw.length++(vs.drop (q.2.1+nw.length)++ex)=pre++(vs++ex):=by
   have f3:vs.take q.2.1++((vs.drop q.2.1).take nw.length++vs.drop (q.2.1+nw.length))=vs:=by
    rw [← List.drop_drop,List.take_append_drop,List.take_append_drop]
   conv=>rhs; rw [← f3]
   simp only [List.append_assoc]
  rw [f4,show (pre++vs.take q.2.1).length=bk.o+q.2.1*bk.z by rw [List.length_append,List.length_take,k4,hb1]; omega] at f1
  rw [f1]; simp only [List.append_assoc]
 rw [hput] at hrun
 have hO:=IVss.take q.2.1 k5 k2
 have hD:=IVss.drop (q.2.1+nw.length) k5 k2
 rw [Nat.mul_one] at hO hD
 obtain ⟨s1,s2⟩:=HA.turn hg1 (by intro e; cases e) hk (Chg.setBlk w bk.b _) (a':=.cells p.1 (g1.take q.2.1++(m.take q.2.2.1++g1.drop (Nat.add q.2.1 (m.take q.2.2.1).length))))
  ⟨by rw [hb1,e4],fun y hy=>by
   rw [e4]
   rcases List.mem_append.1 hy with hy | hy
   ·exact k2 y (List.mem_of_mem_take hy)
   ·rcases List.mem_append.1 hy with hy | hy
    ·exact hl y (List.mem_of_mem_take hy)
    ·exact k2 y (List.mem_of_mem_drop hy),pre,vs.take q.2.1++(nw++vs.drop (q.2.1+nw.length)),ex,X,OD k3,k4,by
   refine IVss.app hO (IVss.app hI2 ?_)
   rw [hml]; exact hD,by
   rw [e4]
   have:nw.length≤q.2.2.1:=hnl
   simp only [List.length_append,List.length_take,List.length_drop]; omega⟩ (by intro e; cases e)
 have hex:(execOp (ev n ρ) ⟨d,.call ⟨.builtin .copy,#[x,y],#[T,T']⟩,t,pos,after,g⟩).run pg w=.ok (.value (goInt (news.take q.2.2.1).length)) (setBlk w bk.b (.cells (pre++((vs.take q.2.1++(nw++vs.drop (q.2.1+nw.length)))++ex)).toArray X (0,0))):=by
  rw [← hx,← k0] at hrun
  simp [execOp,resolve,invoke,builtin,hrun]
 rw [hex,f1]
 refine ⟨_,s1,?_,s2⟩
 simp only [IV]
 rw [hml]; rfl
end
end Go.Proofs.YtljlkhobfdofhaaGreatDoor.Rv
namespace Go.Proofs.YtljlkhobfdofhaaGreatDoor.Rv
open Go Vc
attribute [local irreducible] pg
def CS (call:Cl):Prop:=∀ f xs M k r,call f xs M k=some r→∃ v M',k v M'=some r∧∀ (I:Itp) (w:World) (us:LV),IVt I.K xs I.β us→MRel I w M.t →
 Out pg (fun u w'=>∃ J,Stp I w M.t J w' M'.t∧IV J.K v J.β u∧MRel J w' M'.t) ((callFunc f us.toArray).run pg w)
section
variable {o:Oper} {E:En} {A:eF} {M:Me} {v:AV} {k:Kn} {r:Rs} {d:Option Nat} {t T S T':TypeId} {pos:String} {after:Array Edge} {g:Option (Nat × Bool)} {x y z:Operand} {call:Cl} {I:Itp} {w w':World}
theorem FZ {l:List Operand} {ts:Array TypeId} (hC:CS call) (h:cVal x l call E M k=some r):IF ⟨d,.call ⟨.value x,l.toArray,ts⟩,t,pos,after,g⟩ E M k r:=by
 obtain ⟨a,h1,h⟩:=gA h
 obtain ⟨p,h2,h⟩:=gA h
 obtain ⟨xs,h3,h⟩:=gA h
 have ea:=AV.fn_eq h2
 obtain ⟨v,M',h4,h5⟩:=hC _ _ _ _ _ h
 refine ⟨v,M',h4,fun I w n ρ H HA=>?_⟩
 have hx:=H x (by simp [Op.operands,Call.operands]) _ h1
 rw [ea] at hx
 simp only [IV] at hx
 obtain ⟨us,hx,hI⟩:=hx
 have hl:=fN h3 (K:=I.K) (β:=I.β) (n:=n) (ρ:=ρ) fun y hy=>H y (by simp [Op.operands,Call.operands,hy])
 have e:(execOp (ev n ρ) ⟨d,.call ⟨.value x,l.toArray,ts⟩,t,pos,after,g⟩).run pg w=(callFunc p.1 (l.map (ev n ρ)++us).toArray).run pg w:=by
  simp [execOp,resolve,hx,Deferred.ofValue,invoke]
 rw [e]
 exact h5 I w _ (IVt.app hl hI) HA
theorem aM {K:Kp} {β:Mp} {l:List AV} {us:LV} {off b q:Nat} {cs:Array Value} {X:TypeId} {fr:Nat × Nat} (h:yF T l off=some v) (H:IVs K l β us)
  (hc:w.heap[b]?=some (.cells cs X fr)) (hu:∀ (i:Nat) (u:Value),us[i]?=some u→cs[q+i]?=some u) :
  ∃ u,IV K v β u∧(loadVar T ⟨b,q+off,none⟩).run pg w=.ok u w:=by
 unfold yF at h
 cases h1:QA pg T with
 | true =>
  rw [h1,tC] at h
  obtain ⟨u,e1,e2⟩:=XM H h
  exact ⟨u,e2,WI h1 hc (hu _ _ e1)⟩
 | false =>
  rw [h1,BD] at h
  obtain ⟨h2,h⟩:=AA h
  obtain ⟨s,h3,h⟩:=gA h
  obtain ⟨h0,h⟩:=AA h
  obtain ⟨h4,h⟩:=AA h
  have h0':1≤s:=Nat.le_of_ble_eq_true h0
  rw [WD,bE] at h
  cases h
  have h5:=Nat.le_of_ble_eq_true h4
  rw [lB] at h5
  have h5':off+s≤l.length:=h5
  have hl:=H.len
  have hcs:q+off+s≤cs.size:=by
   have e1:off+s-1<us.length:=by omega
   have:=hu (off+s-1) us[off+s-1] (by simp [e1])
   have:=(Array.getElem?_eq_some_iff.1 this).1
   omega
  refine ⟨.agg ((us.drop off).take s).toArray,by simp only [IV]; exact ⟨_,rfl,IVs.take s (IVs.drop off H)⟩,?_⟩
  rw [VI h2 h3 hc hcs]
  congr 2
  apply Array.ext'
  apply List.ext_getElem?
  intro i
  simp only [Array.toList_extract,List.extract_eq_take_drop,List.getElem?_take,List.getElem?_drop]
  have e0:q+off+s-(q+off)=s:=by omega
  rw [e0]
  by_cases hi:i<s
  ·rw [if_pos hi,if_pos hi]
   have e1:off+i<us.length:=by omega
   have:=hu (off+i) us[off+i] (by simp [e1])
   rw [Array.getElem?_toList,show q+off+i=q+(off+i) by omega,this]; simp [e1]
  ·rw [if_neg hi,if_neg hi]
theorem uW {a:AV} {u:Value} (h:load T A a=some v) (hx:IV I.K a I.β u) (HA:MRel I w A):∃ ad c,u=.pointer (some ad)∧IV I.K v I.β c∧(loadVar T ad).run pg w=.ok c w:=by
 unfold load at h
 cases hp:a.ptr? with
 | none =>
  rw [hp] at h
  obtain ⟨l,h5,h6⟩:=gA (show (mA a.fp? fun l=>yF T l 0)=some v from h)
  have e:=AV.fp_eq h5
  rw [e] at hx
  simp only [IV] at hx
  obtain ⟨b,q,cs,X,fr,us,hx,hK,hI,hu⟩:=hx
  have hI':IVs I.K l I.β us:=IVs.up (Kle.refl _) l (fun _ _ e=>by cases e) us hI
  obtain ⟨c,e1,e2⟩:=aM (q:=q) h6 hI' (HA.kept _ _ hK) hu
  exact ⟨_,c,hx,e1,e2⟩
 | some p =>
  rw [hp] at h
  obtain ⟨gr,h5,h6⟩:=gA (show (mA (grp A p.1) fun g=>mA (LM g p.2.1) fun l=>yF T l p.2.2)=some v from h)
  obtain ⟨l,h7,h8⟩:=gA h6
  have e:=AV.ptr_eq hp
  rw [e] at hx
  simp only [IV] at hx
  obtain ⟨bk,hk,hx⟩:=hx
  obtain ⟨zz,h9⟩:=wH h5
  rw [mF] at h7
  obtain ⟨us,cs,X,e1,e2,e3⟩:=HA.group h9 hk h7
  obtain ⟨c,f1,f2⟩:=aM (q:=bk.o+p.2.1*bk.z) h8 e1 e2 e3
  exact ⟨_,c,hx,f1,f2⟩
theorem mW {m:String} {q:FuncId × Option TypeId} (h:methF T m=some q):∃ (i:TypeInfo) (mt:Method) (b:Bool),pg.info? T=some i∧i.methods.find? (·.name == m)=some mt∧mt.path=#[]∧mt.func=some (q.1,b) ∧
  ((∃ e,pg.underlying T=some (.pointer e)∧q.2=(if b then none else some e))∨(∃ td,pg.underlying T=some td∧(∀ e,td≠.pointer e)∧b=false∧q.2=none)):=by
 obtain ⟨i,h1,h⟩:=gA h
 obtain ⟨mt,h2,h⟩:=gA h
 obtain ⟨h3,h⟩:=AA h
 obtain ⟨p,h4,h⟩:=gA h
 have hp:mt.path=#[]:=by simpa using h3
 split at h
 ·rename_i e hu
  cases h
  refine ⟨i,mt,p.2,h1,h2,hp,h4,.inl ⟨e,hu,?_⟩⟩
  cases p.2<;>rfl
 ·rename_i td hu hn
  obtain ⟨h5,h6⟩:=DE h
  cases h6
  refine ⟨i,mt,false,h1,h2,hp,by rw [h4,← h5],.inr ⟨td,hn,fun e he=>?_,rfl,rfl⟩⟩
  exact hu e he
 ·cases h
theorem DW {n:Nat} {ρ:EA} {f:FuncId} {xv yv:Value} {name:String} {l:List Operand} {ats:Array TypeId} (hr:ev n ρ x=.iface T xv) (hm:(method (pg.types.size+Made.depth) T xv name).run pg w=.ok (f,yv) w) :
  (execOp (ev n ρ) ⟨d,.call ⟨.invoke x name,l.toArray,ats⟩,t,pos,after,g⟩).run pg w=(callFunc f (yv::l.map (ev n ρ)).toArray).run pg w:=by
 simp only [execOp,resolve,hr,Sem.run_bind,Sem.run_pure,Result.andThen_ok,invoke,callMethod]
 simp [hm,Result.andThen_ok,List.take_of_length_le]
theorem vP {m:String} {i:TypeInfo} {mt:Method} {f:FuncId} {b:Bool} {xv yv:Value} (h1:pg.info? T=some i) (h2:i.methods.find? (·.name == m)=some mt) (h3:mt.path=#[]) (h4:mt.func=some (f,b))
  (h:∀ s,(receiverAt T (.val xv) b (some s)).run pg w=.ok yv w):(method (pg.types.size+Made.depth) T xv m).run pg w=.ok (f,yv) w:=by
 have:pg.types.size+Made.depth=(pg.types.size+(Made.depth-1))+1:=by
  have:Made.depth=Made.depth-1+1:=rfl
  omega
 rw [this]
 simp [method,typeInfo,h1,h2,h3,h4,follow,h]
theorem GZ {l:List Operand} {ts:Array TypeId} {m:String} (hC:CS call) (h:cInv x m l call E M k=some r):IF ⟨d,.call ⟨.invoke x m,l.toArray,ts⟩,t,pos,after,g⟩ E M k r:=by
 obtain ⟨a,h1,h⟩:=gA h
 obtain ⟨p,h2,h⟩:=gA h
 obtain ⟨q,h3,h⟩:=gA h
 obtain ⟨xs,h4,h⟩:=gA h
 have ea:=AV.iface_eq h2
 obtain ⟨i,mt,b,f1,f2,f3,f4,f5⟩:=mW h3
 have fin:∀ (v:AV) (rv:AV),k v M=k v M→call q.1 (rv::xs) M k=some r →
   (∀ (I:Itp) (w:World) (u:Value),IV I.K p.2 I.β u→MRel I w M.t→∃ c,IV I.K rv I.β c∧∀ s,(receiverAt p.1 (.val u) b (some s)).run pg w=.ok c w)→IF ⟨d,.call ⟨.invoke x m,l.toArray,ts⟩,t,pos,after,g⟩ E M k r:=fun _ rv _ hc hrv=>by
  obtain ⟨v,M',h5,h6⟩:=hC _ _ _ _ _ hc
  refine ⟨v,M',h5,fun I w n ρ H HA=>?_⟩
  have hx:=H x (by simp [Op.operands,Call.operands]) _ h1
  rw [ea] at hx
  simp only [IV] at hx
  obtain ⟨u,hx,hI⟩:=hx
  have hl:=fN h4 (K:=I.K) (β:=I.β) (n:=n) (ρ:=ρ) fun y hy=>H y (by simp [Op.operands,Call.operands,hy])
  obtain ⟨c,g1,g2⟩:=hrv I w u hI HA
  rw [DW hx (vP f1 f2 f3 f4 g2)]
  exact h6 I w _ (by simp only [IVt]; exact ⟨_,_,rfl,g1,hl⟩) HA
 cases hq:q.2 with
 | none =>
  rw [hq] at h
  refine fin .un p.2 rfl h fun I w u hu HA=>⟨u,hu,fun s=>?_⟩
  rcases f5 with ⟨e,hU,e1⟩ | ⟨td,hU,hn,rfl,_⟩
  ·cases b with
   | true=>simp [receiverAt,run_underlying hU,Place.get]
   | false=>rw [hq] at e1; cases e1
  ·cases td<;>first | exact (hn _ rfl).elim | (simp [receiverAt,run_underlying hU,Place.get]; done)
 | some T1 =>
  rw [hq] at h
  obtain ⟨rv,h5,h6⟩:=gA (show (mA (load T1 M.t p.2) fun r=>call q.1 (r::xs) M k)=some r from h)
  refine fin .un rv rfl h6 fun I w u hu HA=>?_
  obtain ⟨ad,c,e1,e2,e3⟩:=uW h5 hu HA
  refine ⟨c,e2,fun s=>?_⟩
  rcases f5 with ⟨e,hU,e4⟩ | ⟨td,hU,hn,rfl,e4⟩
  ·cases b with
   | true=>rw [hq] at e4; cases e4
   | false =>
    rw [hq] at e4
    cases e4
    subst e1
    have hw:(Builtin.ssaWrapNilChk_ #[p.1] p.1 #[.pointer (some ad),strVal "", strVal s])=(pure (.pointer (some ad)):Sem Value):=rfl
    simp [receiverAt,run_underlying hU,Place.get,hw,asAddr,e3]
  ·rw [hq] at e4; cases e4
end
end Go.Proofs.YtljlkhobfdofhaaGreatDoor.Rv
namespace Go.Proofs.YtljlkhobfdofhaaGreatDoor.Rv
open Go Vc
attribute [local irreducible] pg
section
variable {E:En} {M:Me} {k:Kn} {r:Rs} {d:Option Nat} {t:TypeId} {pos:String} {after:Array Edge} {g:Option (Nat × Bool)} {call:Cl}
theorem wD {o:Oper} (h:OK call E M k=some r):IF o E M k r:=by cases h
theorem bui_ok {b:Builtin} {l:List Operand} {ts:List TypeId} (h:US b l ts call E M k=some r):IF ⟨d,.call ⟨.builtin b,l.toArray,ts.toArray⟩,t,pos,after,g⟩ E M k r:=by
 unfold US at h
 split at h
 ·unfold wU at h
  split at h
  ·exact ok_len (call:=call) h
  ·exact wD (call:=call) h
 ·unfold two at h
  split at h
  ·rename_i x y T T'
   have hT:T=T':=by
    obtain ⟨a,_,h⟩:=gA h
    obtain ⟨b,_,h⟩:=gA h
    obtain ⟨p,_,h⟩:=gA h
    obtain ⟨h4,_⟩:=AA h
    exact KC h4
   subst hT
   exact ok_app (call:=call) h
  ·exact wD (call:=call) h
 ·unfold two at h
  split at h
  ·exact EZ (call:=call) h
  ·exact wD (call:=call) h
 ·unfold two at h
  split at h
  ·exact ok_max (call:=call) h
  ·exact wD (call:=call) h
 ·unfold two at h
  split at h
  ·exact ok_min (call:=call) h
  ·exact wD (call:=call) h
 ·exact wD (call:=call) h
theorem JP {op:Op} (hC:CS call) (h:cD op call E M k=some r):IF ⟨d,op,t,pos,after,g⟩ E M k r:=by
 cases op with
 | move x=>exact CZ (call:=call) h
 | assign x=>exact QS (call:=call) h
 | pick c a b=>exact BZ (call:=call) h
 | alloc T=>exact PV (call:=call) h
 | box T x=>exact ok_box (call:=call) h
 | build T ps=>exact OV (call:=call) h
 | buildSlice T m ps=>exact ok_bsl (call:=call) h
 | insert T m q v=>exact NV (call:=call) (.inr rfl) h
 | load T x=>exact DZ (call:=call) h
 | store T x y=>exact MV (call:=call) h
 | nilCheck x=>exact ok_nil (call:=call) h
 | binOp op T x y T'=>exact ok_bin (call:=call) h
 | unOp op T x=>exact ok_un (call:=call) h
 | convert S T x =>
  have hO:∀ c,dG S T=c→(∀ q,c=q→q≠.b)→kI S T x=cO x (dG S T):=fun c hc hn=>by
   unfold kI
   cases hx:dG S T with
   | b=>exact (hn .b (by rw [← hc,hx]) rfl).elim
   | _=>rfl
  cases hc:dG S T with
  | b =>
   have e:kI S T x=SS x:=by unfold kI; rw [hc]
   exact ok_cnB (call:=call) hc (by rw [← e]; exact h)
  | i q =>
   have e:=hO _ hc fun q hq e=>by subst e; cases hq
   exact NP (call:=call) (by rw [← e]; exact h)
  | s =>
   have e:=hO _ hc fun q hq e=>by subst e; cases hq
   exact NP (call:=call) (by rw [← e]; exact h)
  | x =>
   have e:=hO _ hc fun q hq e=>by subst e; cases hq
   exact NP (call:=call) (by rw [← e]; exact h)
 | makeInterface T x=>exact ok_mkI (call:=call) h
 | makeFunc f q c =>
  have h:KA q.isEmpty (RS f c) OK call E M k=some r:=h
  cases hq:q.isEmpty with
  | true=>rw [hq,tC] at h; exact ok_mkF (call:=call) h (by simpa using hq)
  | false=>rw [hq,BD] at h; exact wD (call:=call) h
 | makeMap T q=>exact ok_mkM (call:=call) h
 | makeSlice T x y=>exact ok_mkS (call:=call) h
 | slice T x lo hi mx =>
  cases mx with
  | none=>exact ok_sli (call:=call) h
  | some q=>cases h
 | fieldAddr S x f=>exact ok_flA (call:=call) h
 | field S x f=>exact ok_fld (call:=call) h
 | indexAddr T x y=>exact ok_ixA (call:=call) h
 | index T x y=>exact ok_ix (call:=call) h
 | lookup T x y ok=>exact ok_lkp (call:=call) h
 | mapUpdate T m q v=>exact NV (call:=call) (.inl rfl) h
 | typeAssert x S T ok=>exact ok_tyA (call:=call) h
 | extract x i=>exact ok_ext (call:=call) h
 | call c =>
  obtain ⟨ce,xs,ts⟩:=c
  have e1:xs=xs.toList.toArray:=by simp
  have e2:ts=ts.toList.toArray:=by simp
  cases ce with
  | value f=>rw [e1]; exact FZ (call:=call) hC h
  | invoke x m=>rw [e1]; exact GZ (call:=call) hC h
  | builtin b=>rw [e1,e2]; exact bui_ok h
 | ready q=>exact wD (call:=call) h
 | waits q=>exact wD (call:=call) h
 | sliceToArrayPointer T x=>exact wD (call:=call) h
 | makeChan T x=>exact wD (call:=call) h
 | mapEntry T x y=>exact wD (call:=call) h
 | entryStore T x y z=>exact wD (call:=call) h
 | range T x=>exact wD (call:=call) h
 | next x b=>exact wD (call:=call) h
 | entry x=>exact wD (call:=call) h
 | go c=>exact wD (call:=call) h
 | defer c=>exact wD (call:=call) h
 | panic x=>exact wD (call:=call) h
 | send x y=>exact wD (call:=call) h
 | recv T x b=>exact wD (call:=call) h
 | select cs b=>exact wD (call:=call) h
end
end Go.Proofs.YtljlkhobfdofhaaGreatDoor.Rv
namespace Go.Proofs.YtljlkhobfdofhaaGreatDoor.Rv
open Go Vc
attribute [local irreducible] pg
section
variable {E E':En} {M:Me} {k:Kn} {r:Rs} {d:Option Nat} {t:TypeId} {pos:String} {after:Array Edge} {g:Option (Nat × Bool)} {call:Cl} {n:Nat} {ρ:EA} {K:Kp} {β:Mp} {I:Itp} {w w':World} {ops:Array Oper} {Q:Exit→Act→World→Prop} {rest:List Oper} {o:Oper}
def ER (I:Itp) (n:Nat) (E:En) (ρ:EA):Prop:=∀ t,t<n→∀ v,fF t E=some v→IV I.K v I.β (ρ t)
theorem ER.up {J:Itp} {A A':eF} (H:ER I n E ρ) (h:Stp I w A J w' A'):ER J n E ρ:=fun t ht v hv=>IV.stp h (H t ht v hv)
theorem okL_ok {l:List Operand} (h:okL n l=true):∀ x∈l,okX n x=true:=by
 induction l with
 | nil=>intro x hx; cases hx
 | cons y l ih =>
  have h:KA (okX n y) (okL n l) false=true:=h
  intro x hx
  cases hy:okX n y with
  | false=>rw [hy] at h; cases h
  | true =>
   rw [hy,tC] at h
   rcases List.mem_cons.1 hx with rfl | hx
   ·exact hy
   ·exact ih h x hx
theorem VE (h:QV n o=true):(∀ x∈o.op.operands.toList,okX n x=true)∧∀ d,o.dst=some d→d<n:=by
 unfold QV at h
 cases hl:okL n o.op.operands.toList with
 | false=>rw [hl] at h; cases h
 | true =>
  rw [hl,tC] at h
  refine ⟨okL_ok hl,fun d hd=>?_⟩
  rw [hd] at h
  exact GJ h
theorem eQ (H:ER I n E ρ) {x:Operand} (hx:okX n x=true) {v:AV} (h:zD x E=some v):IV I.K v I.β (ev n ρ x):=by
 cases x with
 | tmp t =>
  have ht:Nat.blt t n=true:=hx
  have:=H t (GJ ht) v h
  show IV I.K v I.β (bif Nat.blt t n then ρ t else undef)
  rw [ht]; exact this
 | const c=>exact JM h
 | global q=>cases h
 | func f =>
  cases h
  simp only [IV,IVt]
  exact ⟨[],rfl,rfl⟩
theorem ER.ho (H:ER I n E ρ) (h:QV n o=true):HO I.K I.β n E ρ o.op.operands.toList:=fun x hx v hv=>eQ H ((VE h).1 x hx) hv
theorem SQ {d:Nat} {v:AV} {kk:En→Option Rs} {r:Rs} (hd:d<256) (h:eH d E v kk=some r):∃ E',kk E'=some r∧E'.m=E.m∧∀ t,t<256→fF t E'=if t=d then some v else fF t E:=by
 unfold eH at h
 cases hm:tst E.m d with
 | false =>
  rw [hm] at h
  refine ⟨⟨E.m,(d,v)::E.L,E.F⟩,h,rfl,fun t ht=>?_⟩
  unfold fF
  by_cases e:t=d
  ·subst e
   rw [if_pos rfl]
   simp only [hm]
   show (Bool.rec (NX t E.L) (some v) (Nat.beq t t):Option AV)=_
   rw [Nat.beq_refl]
  ·rw [if_neg e]
   cases htm:tst E.m t with
   | true=>simp only [htm]
   | false =>
    simp only [htm]
    show (Bool.rec (NX t E.L) (some v) (Nat.beq d t):Option AV)=_
    have:Nat.beq d t=false:=by
     cases hb:Nat.beq d t
     ·rfl
     ·exact absurd (Nat.eq_of_beq_eq_true hb).symm e
    rw [this]
 | true =>
  rw [hm] at h
  have h:LN (RN d) E.F (some v) (fun F=>kk ⟨E.m,E.L,F⟩)=some r:=h
  rw [tM] at h
  refine ⟨⟨E.m,E.L,GP (RN d) E.F (some v)⟩,h,rfl,fun t ht=>?_⟩
  unfold fF
  by_cases e:t=d
  ·subst e
   rw [if_pos rfl]
   simp only [hm]
   rw [YE,if_pos rfl]
  ·rw [if_neg e]
   cases htm:tst E.m t with
   | false=>simp only [htm]
   | true =>
    simp only [htm]
    rw [YE,if_neg fun e2=>e (TQ _ _ ht hd e2)]
theorem RQ {d:Option Nat} {v:AV} {kk:En→Option Rs} {r:Rs} (hn:n≤256) (hd:∀ x,d=some x→x<n) (h:CL d E v kk=some r):∃ E',kk E'=some r∧E'.m=E.m∧∀ (I:Itp) (ρ:EA) (u:Value),ER I n E ρ→IV I.K v I.β u→ER I n E' (XA ρ d u):=by
 cases d with
 | none=>exact ⟨E,h,rfl,fun I ρ u H _=>H⟩
 | some d =>
  have hd':=hd d rfl
  obtain ⟨E',h1,h2,h3⟩:=SQ (by omega) (show eH d E v kk=some r from h)
  refine ⟨E',h1,h2,fun I ρ u H hv t ht x hx=>?_⟩
  rw [h3 t (by omega)] at hx
  show IV I.K x I.β (upd ρ d u t)
  by_cases e:t=d
  ·subst e
   rw [if_pos rfl] at hx
   cases hx
   rw [oE]; exact hv
  ·rw [if_neg e] at hx
   rw [oH _ _ e]; exact H t ht x hx
theorem W.outS {S:Value→World→Prop} (hw:Region.wanted o (yielded ops (St n ρ).tmps)=true) (h:Out pg S ((execOp (ev n ρ) o).run pg w)) (hK:∀ u w',S u w'→W pg n ops Q rest (XA ρ o.dst u) w'):W pg n ops Q (o::rest) ρ w:=by
 refine ⟨wpList_step fun K hk=>?_⟩
 rw [if_pos hw]
 unfold Oper.wp
 rw [nE]
 generalize (execOp (ev n ρ) o).run pg w=r at h
 cases r with
 | ok x w' =>
  cases x with
  | value v=>rw [Oper.upon_value,dE]; exact hk _ _ (hK _ _ h).out
  | skip=>rw [Oper.upon_skip,dE]; exact hk _ _ (hK _ _ h).out
  | enter f xs =>
   rw [Oper.upon_enter]
   refine Calls.mono h fun e w' he=>?_
   obtain ⟨v,rfl,hv⟩:=he
   show K ((St n ρ).put o.dst v) w'
   rw [dE]
   exact hk _ _ (hK _ _ hv).out
  | row r xs =>
   rw [Oper.upon_row]
   refine Rows.mono h fun v w'' hv=>?_
   rw [dE]; exact hk _ _ (hK _ _ hv).out
  | _=>exact h.elim
 | halt x w'=>exact h.elim
end
end Go.Proofs.YtljlkhobfdofhaaGreatDoor.Rv
namespace Go.Proofs.YtljlkhobfdofhaaGreatDoor.Rv
open Go Vc
attribute [local irreducible] pg
section
variable {E E':En} {M:Me} {r:Rs} {call:Cl} {n:Nat} {ρ:EA} {I:Itp} {w:World} {ops:Array Oper} {Q:Exit→Act→World→Prop} {rest:List Oper} {o:Oper}
def Rok (n:Nat) (ops:Array Oper) (l:List Oper) (E:En) (M:Me) (E':En) (M':Me):Prop:=∀ (I:Itp) (w:World) (ρ:EA) (Q:Exit→Act→World→Prop),ER I n E ρ→MRel I w M.t →
 (∀ J ρ' w',Stp I w M.t J w' M'.t→ER J n E' ρ'→MRel J w' M'.t→Q .normal (St n ρ') w')→W pg n ops Q l ρ w
theorem xU:IV I.K .un I.β undef:=by simp only [IV]
def boolV:Value→Option Bool
 | .bool b=>some b
 | _=>none
theorem oK {p:Nat × Bool} {b:Bool} (hg:o.guard=some p) (hd:∀ t,(ops[p.1]?).bind (·.dst)=some t→t<n) (H:∀ t,(ops[p.1]?).bind (·.dst)=some t→∀ v,fF t E=some v→IV I.K v I.β (ρ t)) (h:GE E ops p=some b):Region.wanted o (yielded ops (St n ρ).tmps)=b:=by
 obtain ⟨t,h1,h⟩:=gA h
 obtain ⟨v,h2,h⟩:=gA h
 have ht:=hd t h1
 have hv:=H t h1 v h2
 have hy:yielded ops (St n ρ).tmps p.1=boolV (ρ t):=by
  have e:((ops[p.1]?).bind (·.dst)).bind ((St n ρ).tmps[·]?)=some (ρ t):=by
   rw [h1,Option.bind_some]; simp [St,ht]
  unfold yielded
  rw [e]
  cases ρ t<;>rfl
 have hw:Region.wanted o (yielded ops (St n ρ).tmps)=(yielded ops (St n ρ).tmps p.1 == some p.2):=by
  unfold Region.wanted; rw [hg]
 rw [hw,hy]
 cases v with
 | bool x =>
  simp only [IV] at hv
  have h:some (KA p.2 x (SF x))=some b:=h
  cases h
  rw [hv]
  obtain ⟨a,q⟩:=p
  cases x<;>cases q<;>rfl
 | pv u =>
  simp only [IV] at hv
  cases h
  rw [hv.1]
  cases u<;>first | rfl | (cases hv.2)
 | int k x=>simp only [IV] at hv; cases h; rw [hv]; rfl
 | str l=>simp only [IV] at hv; cases h; rw [hv]; rfl
 | ptr id i off=>simp only [IV] at hv; cases h; obtain ⟨k,_,e⟩:=hv; rw [e]; rfl
 | sl id o n z=>simp only [IV] at hv; cases h; obtain ⟨k,_,e,_⟩:=hv; rw [e]; rfl
 | e0=>simp only [IV] at hv; cases h; obtain ⟨a,e⟩:=hv; rw [e]; rfl
 | lst z l=>simp only [IV] at hv; cases h; obtain ⟨a,c,us,e,_⟩:=hv; rw [e]; rfl
 | fp c=>simp only [IV] at hv; cases h; obtain ⟨b,o,cs,T,fr,us,e,_⟩:=hv; rw [e]; rfl
 | iface t v=>simp only [IV] at hv; cases h; obtain ⟨u,e,_⟩:=hv; rw [e]; rfl
 | agg l=>simp only [IV] at hv; cases h; obtain ⟨u,e,_⟩:=hv; rw [e]; rfl
 | tup l=>simp only [IV] at hv; cases h; obtain ⟨u,e,_⟩:=hv; rw [e]; rfl
 | fn f c=>simp only [IV] at hv; cases h; obtain ⟨u,e,_⟩:=hv; rw [e]; rfl
 | map id=>simp only [IV] at hv; cases h; obtain ⟨k,_,e⟩:=hv; rw [e]; rfl
 | un=>simp only [IV] at hv; cases h; rw [hv]; rfl
theorem DN {p:Nat × Bool} {b:Bool} (hg:o.guard=some p) (hd:∀ t,(ops[p.1]?).bind (·.dst)=some t→t<n) (H:ER I n E ρ) (h:GE E ops p=some b):Region.wanted o (yielded ops (St n ρ).tmps)=b :=
 oK hg hd (fun t ht v hv=>H t (hd t ht) v hv) h
theorem run_ok {l:List Oper} {v:AV} {M₁ M':Me} {E₁ E':En} (ho:QV n o=true) (he:Eff o E M.t v M₁.t)
  (hp:∀ (I:Itp) (ρ:EA) (u:Value),ER I n E ρ→IV I.K v I.β u→ER I n E₁ (XA ρ o.dst u)) (hr:Rok n ops l E₁ M₁ E' M')
  {Q:Exit→Act→World→Prop} (hw:Region.wanted o (yielded ops (St n ρ).tmps)=true) (H:ER I n E ρ) (HM:MRel I w M.t)
  (hK:∀ J ρ' w',Stp I w M.t J w' M'.t→ER J n E' ρ'→MRel J w' M'.t→Q .normal (St n ρ') w'):W pg n ops Q (o::l) ρ w:=by
 refine W.outS hw (he I w n ρ (H.ho ho) HM) fun u w₁ ⟨J,h1,h2,h3⟩=>?_
 exact hr J w₁ (XA ρ o.dst u) Q (hp J ρ u (H.up h1) h2) h3 fun L ρ' w' g1 g2 g3=>hK L ρ' w' (h1.trans g1) g2 g3
theorem eJ {l:List Oper} (h:BJ n (o::l)=true):QV n o=true∧BJ n l=true:=by
 have h:KA (QV n o) (BJ n l) false=true:=h
 cases ho:QV n o with
 | false=>rw [ho] at h; cases h
 | true=>rw [ho,tC] at h; exact ⟨rfl,h⟩
theorem NK {l:List Oper} (h:BJ n l=true):∀ x∈l,QV n x=true:=by
 induction l with
 | nil=>intro x hx; cases hx
 | cons y l ih =>
  intro x hx
  rcases List.mem_cons.1 hx with rfl | hx
  ·exact (eJ h).1
  ·exact ih (eJ h).2 x hx
theorem ZN (h:BJ n ops.toList=true) {i t:Nat} (ht:(ops[i]?).bind (·.dst)=some t):t<n:=by
 obtain ⟨o,h1,h2⟩:=Option.bind_eq_some_iff.1 ht
 have hm:o∈ops.toList:=by
  have:=Array.mem_of_getElem? h1
  simpa using this
 exact (VE (NK h o hm)).2 t h2
theorem wZ (hn:n≤256) (hC:CS call) (hops:BJ n ops.toList=true):∀ (l:List Oper) (E:En) (M:Me) (k:En→Me→Option Rs) (r:Rs),BJ n l=true→iI ops l call E M k=some r →
  ∃ E' M',k E' M'=some r∧E'.m=E.m∧Rok n ops l E M E' M':=by
 intro l
 induction l with
 | nil =>
  intro E M k r _ h
  exact ⟨E,M,h,rfl,fun I w ρ Q H HM hK=>mH (hK I ρ w Stp.refl H HM)⟩
 | cons o l ih =>
  intro E M k r hl h
  obtain ⟨ho,hl⟩:=eJ hl
  have hrun:XN o (iI ops l) call E M k=some r→∃ E' M',k E' M'=some r∧E'.m=E.m ∧
    ∀ (I:Itp) (w:World) (ρ:EA) (Q:Exit→Act→World→Prop),Region.wanted o (yielded ops (St n ρ).tmps)=true→ER I n E ρ→MRel I w M.t →
     (∀ J ρ' w',Stp I w M.t J w' M'.t→ER J n E' ρ'→MRel J w' M'.t→Q .normal (St n ρ') w')→W pg n ops Q (o::l) ρ w:=by
   intro h
   obtain ⟨v,M₁,h1,h2⟩:=JP (d:=o.dst) (t:=o.type) (pos:=o.pos) (after:=o.after) (g:=o.guard) hC h
   obtain ⟨E₁,h3,h4,h5⟩:=RQ hn (VE ho).2 h1
   obtain ⟨E',M',h6,h7,h8⟩:=ih E₁ M₁ k r hl h3
   exact ⟨E',M',h6,h7.trans h4,fun I w ρ Q hw H HM hK=>run_ok ho h2 h5 h8 hw H HM hK⟩
  have h:YN ops o (iI ops l) call E M k=some r:=h
  unfold YN at h
  cases hg:o.guard with
  | none =>
   rw [hg] at h
   obtain ⟨E',M',h1,h2,h3⟩:=hrun h
   exact ⟨E',M',h1,h2,fun I w ρ Q H HM hK=>h3 I w ρ Q (KB hg _ _) H HM hK⟩
  | some p =>
   rw [hg] at h
   obtain ⟨b,hb,h⟩:=gA (show YQ ops o (iI ops l) p call E M k=some r from h)
   cases b with
   | true =>
    obtain ⟨E',M',h1,h2,h3⟩:=hrun h
    exact ⟨E',M',h1,h2,fun I w ρ Q H HM hK=>h3 I w ρ Q (DN hg (fun t ht=>ZN hops ht) H hb) H HM hK⟩
   | false =>
    obtain ⟨E₁,h3,h4,h5⟩:=RQ (v:=.un) hn (VE ho).2 (show CL o.dst E .un (fun E=>iI ops l call E M k)=some r from h)
    obtain ⟨E',M',h6,h7,h8⟩:=ih E₁ M k r hl h3
    exact ⟨E',M',h6,h7.trans h4,fun I w ρ Q H HM hK=>uB (DN hg (fun t ht=>ZN hops ht) H hb) (h8 I w _ Q (h5 I ρ undef H xU) HM hK)⟩
theorem ER.drop (H:ER I n E ρ):ER I n ⟨E.m,[],E.F⟩ ρ:=by
 intro t ht v hv
 refine H t ht v ?_
 unfold fF at hv ⊢
 cases hm:tst E.m t with
 | false=>simp only [hm] at hv; cases hv
 | true=>simp only [hm] at hv ⊢; exact hv
end
end Go.Proofs.YtljlkhobfdofhaaGreatDoor.Rv
