/-
  Texts of the claim TopRoom, part 15: what its theorem leans on.
-/
import Derived.Test.YtbidkghlpijecaaGreatDoorPackTopRoom12
import Derived.Test.YtbidkghlpijecaaGreatDoorPackTopRoom14
import Derived.Test.YtbidkghlpijecaaGreatDoorPackTopRoom3
import Derived.Test.YtbidkghlpijecaaGreatDoorPackTopRoom7
import Derived.Test.YtbidkghlpijecaaGreatDoorPackTopRoom13
import Derived.Test.YtbidkghlpijecaaGreatDoorPackTopRoom2
import Derived.Test.YtbidkghlpijecaaGreatDoorPackTopRoom5
set_option linter.unusedVariables false
set_option linter.unusedSimpArgs false
namespace Go.Proofs.YtbidkghlpijecaaGreatDoor
open Go.RowKit
theorem jr.mono {P:Program} {f:FuncId} {args:List Value} {w:World} {R R':Value→World→Prop} (h:jr P f args w R) (hr:∀ v w',R v w'→R' v w') : jr P f args w R' :=
 ⟨Calls.mono h.out fun e w' ⟨v,he,hv⟩=>⟨v,he,hr v w' hv⟩⟩
structure HK where
 b:Nat
 g:Nat
 c:Nat
 m:fD
 lv:fD
 cp:Int
 M:List Int
 V:List Block
structure HP where
 u0:bU
 u1:bU
 li:fD
 ls:List bO
abbrev HK.h (k:HK) (p:HP) : gb:=⟨⟨some ⟨k.g,0,none⟩,2,k.c⟩,k.m,k.cp,p.li,k.lv⟩
structure HS (wb w:World) (k:HK) (p:HP) (s:ab×ab) (L:List ap) : Prop where
 cU:aT w k.b 41 (bW (k.h p))
 zs:dM w wb.heap.size k.g k.c p.u0 p.u1 s
 cT:Own w wb.heap.size 3 1 bB k.m.A k.m.n k.m.c k.M
 live:Own w wb.heap.size 165 3 aA k.lv.A k.lv.n k.lv.c k.V
 ls:dE w wb.heap.size p.li p.ls L
 sm:oW k.m [p.u0,p.u1] p.ls
 sf:rb k.lv [p.u0,p.u1]
 EA:wb.heap.size≤k.b
 base:Ext wb w
def gz (k:HK) (p:HP) (i:Nat) : Prop:=i=k.b∨i=k.g∨ob p.li=some i ∨ ∃ y∈p.ls,ob y.an=some i
section
variable {w w' w0 w1 w2 wb:World} {i t:Nat} {k:HK} {p p' p0 p1 p2:HP} {s:ab×ab} {L:List ap} {cs:List Value} {row:Option Nat}
theorem HS.ext (h:HS wb w k p s L) (hx:Ext w w') : HS wb w' k p s L:=⟨h.cU.ext hx,h.zs.ext hx,h.cT.ext hx,h.live.ext hx,h.ls.ext hx,h.sm,h.sf,h.EA,h.base.trans hx⟩
theorem HS.zC (h:HS wb w k p s L) {y:bO} (hy:y∈p.ls) : ∃ l∈L,mf w wb.heap.size y l:=by
 obtain ⟨j,hj,rfl⟩:=List.getElem_of_mem hy;have y5:j<L.length:=by rw [← h.ls.each.len];exact hj
 exact ⟨_,List.getElem_mem y5,h.ls.each.get j hj y5⟩
theorem HS.lt (h:HS wb w k p s L) (hi:gz k p i) : i<w.heap.size:=by
 rcases hi with rfl|rfl|hi|⟨y,hy,hi⟩
 ·exact h.cU.lt
 ·exact h.zs.row.lt_size _ h.zs.own
 ·exact h.ls.row.lt_size i hi
 ·obtain ⟨l,_,hl⟩:=h.zC hy;exact hl.cb.lt_size i hi
theorem HS.not (h:HS wb w k p s L) (hi:w.heap.size≤i) : ¬ gz k p i:=fun hm=>by have:=h.lt hm;omega
theorem HS.low (h:HS wb w k p s L) : wb.heap.size≤w.heap.size:=Nat.le_of_lt (Nat.lt_of_le_of_lt h.EA h.cU.lt)
structure kr (w0:World) (k:HK) (p0:HP) (w:World) (p:HP) : Prop where
 os:w.os=w0.os
 tape:w.tape=w0.tape
 output:w.output=w0.output
 size:w0.heap.size≤w.heap.size
 block:∀ i,i<w0.heap.size → ¬ gz k p0 i→w.heap[i]?=w0.heap[i]?
 Co:∀ i,gz k p i→gz k p0 i∨w0.heap.size≤i
theorem kr.refl (w:World) (k:HK) (p:HP) : kr w k p w p:=⟨rfl,rfl,rfl,Nat.le_refl _,fun _ _ _=>rfl,fun _ h => .inl h⟩
theorem kr.step (h:kr w0 k p0 w p) (hg:w.grownBy w' row) (hr:∀ i,row=some i→gz k p i∨w0.heap.size≤i) (hp:∀ i,gz k p' i→gz k p i∨w0.heap.size≤i) : kr w0 k p0 w' p' :=
 ⟨hg.os.trans h.os,hg.tape.trans h.tape,hg.output.trans h.output,Nat.le_trans h.size hg.size,fun i hi hm=>by
  rw [hg.block i (Nat.lt_of_lt_of_le hi h.size) (fun e=>by
   rcases hr i e.symm with e|e
   ·rcases h.Co i e with e|e
    ·exact hm e
    ·omega
   ·omega)]
  exact h.block i hi hm,fun i hi=>by
  rcases hp i hi with e|e
  ·exact h.Co i e
  ·exact .inr e⟩
theorem kr.ext (h:kr w0 k p0 w p) (hx:Ext w w') : kr w0 k p0 w' p:=h.step (hx.gr none) (fun i e=>by cases e) (fun i e => .inl e)
theorem kr.trans (h:kr w0 k p0 w1 p1) (h':kr w1 k p1 w2 p2) : kr w0 k p0 w2 p2 :=
 ⟨h'.os.trans h.os,h'.tape.trans h.tape,h'.output.trans h.output,Nat.le_trans h.size h'.size,fun i hi hm=>by
  rw [h'.block i (Nat.lt_of_lt_of_le hi h.size) (fun e=>by rcases h.Co i e with e|e;exact hm e;omega)];exact h.block i hi hm,fun i hi=>by
  rcases h'.Co i hi with e|e
  ·exact h.Co i e
  ·exact .inr (Nat.le_trans h.size e)⟩
theorem kr.cU (h:kr w0 k p0 w p) (hB:aT w0 i t cs) (hn : ¬ gz k p0 i) : aT w i t cs:=(h.block i hB.lt hn).trans hB
theorem kr.not (h:kr w0 k p0 w p) (hn : ¬ gz k p0 i) (hi:i<w0.heap.size) : ¬ gz k p i:=fun e=>by rcases h.Co i e with e|e;exact hn e;omega
end
def tg (p:HP) (zi:Nat) (u:bU) : HP:=if zi=0 then ⟨u,p.u1,p.li,p.ls⟩ else ⟨p.u0,u,p.li,p.ls⟩
theorem nA {p:HP} {zi:Nat} {u:bU}:(tg p zi u).li=p.li∧(tg p zi u).ls=p.ls:=by unfold tg;split<;>exact ⟨rfl,rfl⟩
theorem qk {k:HK} {p:HP} {zi:Nat} {u:bU} {i:Nat}:gz k (tg p zi u) i↔gz k p i:=by unfold gz;rw [nA.1,nA.2]
theorem HS.Ix {wb w0 w w':World} {k:HK} {p:HP} {s:ab×ab} {L:List ap} {zi:Nat} {u:bU} {z:ab} (h0:HS wb w0 k p s L) (h:HS wb w k p s L) (hz:zi<2)
 (hO:Own w' wb.heap.size 139 4 bG (some ⟨k.g,0,none⟩) 2 k.c ([p.u0,p.u1].set zi u)) (hg:w.grownBy w' (some k.g)) (hn:dT w w0.heap.size u z) : HS wb w' k (tg p zi u) (dI s (zi:Int) z) L:=by
 have hG:=h.zs.gr hg;have hx:Ext wb w':=h.base.own h.zs.A7 hg
 have DA:=(hn.low h0.low).au hG rfl;have hf:∀ g,aG u.Types.A u.Types.c=some g→w0.heap.size≤g:=fun g e=>hn.types.ba g e
 have P7:∀ g,aG u.ag.A u.ag.c=some g→w0.heap.size≤g:=fun g e=>hn.free.ba g e
 have Fo:∀ (j:Nat) (hj:j<p.ls.length) (g:Nat),aG p.ls[j].an.A p.ls[j].an.c=some g→g<w0.heap.size:=fun j hj g e=>h0.lt (.inr (.inr (.inr ⟨_,List.getElem_mem hj,e⟩)))
 have yV:∀ us:List bU,(∀ v∈us,v∈[p.u0,p.u1]∨v=u)→oW k.m us p.ls:=fun us hu=>⟨h.sm.cT,fun j hj g e v hv=>by
  rcases hu v hv with h1|rfl
  ·exact h.sm.types j hj g e v h1
  ·intro e2;have:=hf g e2;have:=Fo j hj g e;omega,h.sm.sep⟩
 have Jm:∀ us:List bU,(∀ v∈us,v∈[p.u0,p.u1]∨v=u)→rb k.lv us:=fun us hu v hv g e=>by
  rcases hu v hv with h1|rfl
  ·exact h.sf v h1 g e
  ·intro e2;have:=P7 g e;have:=h0.live.lt_size g e2;omega
 unfold tg dI;by_cases kf:zi=0
 ·subst kf;simp only [if_true,Int.ofNat_eq_natCast,Int.natCast_zero] at *;exact ⟨h.cU.au hG rfl,⟨hO,DA,h.zs.z1.au hG rfl,h.zs.A7,h.zs.pos⟩,h.cT.au hG rfl,h.live.au hG rfl,h.ls.au hG rfl,yV _ (by simp),Jm _ (by simp),h.EA,hx⟩
 ·obtain rfl:zi=1:=by omega
  have e1 : ¬ ((1:Nat)=0):=by omega
  have e2 : ¬ (((1:Nat) : Int)=0):=by omega
  simp only [if_neg e1,if_neg e2] at *;exact ⟨h.cU.au hG rfl,⟨hO,h.zs.z0.au hG rfl,DA,h.zs.A7,h.zs.pos⟩,h.cT.au hG rfl,h.live.au hG rfl,h.ls.au hG rfl,yV _ (by simp),Jm _ (by simp),h.EA,hx⟩
theorem dE.z6 {w w':World} {lo:Nat} {li:fD} {ls:List bO} {L:List ap} (h:dE w lo li ls L) (hg:w.grownBy w' (ob li)) : tZ w w' 142:=h.row.gr hg
theorem Bg {m:fD} {us:List bU} {ls A8:List bO} (h:oW m us ls) (hs:zq A8) (ho:∀ y∈A8,∃ x∈ls,ob y.an=ob x.an) : oW m us A8:=by
 refine ⟨fun j hj g e => ?_,fun j hj g e v hv => ?_,hs⟩
 ·obtain ⟨x,hx,e2⟩:=ho _ (List.getElem_mem hj);obtain ⟨i,hi,rfl⟩:=List.getElem_of_mem hx;exact h.cT i hi g (e2.symm.trans e)
 ·obtain ⟨x,hx,e2⟩:=ho _ (List.getElem_mem hj);obtain ⟨i,hi,rfl⟩:=List.getElem_of_mem hx;exact h.types i hi g (e2.symm.trans e) v hv
theorem HS.setRow {wb w w':World} {k:HK} {p:HP} {s:ab×ab} {L:List ap} {i:Nat} {y:bO} {l:ap} (h:HS wb w k p s L) (hi:i<p.ls.length) (hO:Own w' wb.heap.size 142 4 bi p.li.A p.li.n p.li.c (p.ls.set i y)) (hg:w.grownBy w' (ob p.li)) (hy:mf w wb.heap.size y l)
 (ho:ob y.an=ob p.ls[i].an) : HS wb w' k ⟨p.u0,p.u1,p.li,p.ls.set i y⟩ s (L.set i l):=by
 have hG:=h.ls.z6 hg;have hx:Ext wb w':=aJ h.base hg (Nat.le_refl _) h.ls.row.ba
 have hm:∀ z∈p.ls.set i y,∃ x∈p.ls,ob z.an=ob x.an:=fun z hz=>by
  rcases List.mem_or_eq_of_mem_set hz with h1|rfl
  ·exact ⟨z,h1,rfl⟩
  ·exact ⟨_,List.getElem_mem hi,ho⟩
 have dg:∀ x∈p.ls,∀ g,ob x.an=some g→g<w.heap.size:=fun x hx g e=>h.lt (.inr (.inr (.inr ⟨x,hx,e⟩)))
 refine ⟨h.cU.au hG rfl,h.zs.au hG rfl,h.cT.au hG rfl,h.live.au hG rfl,⟨hO,?_⟩,Bg h.sm (ur.ko (li:=p.li) h.sm.sep dg hi (fun g e => .inl (ho ▸ e))).sep hm,h.sf,h.EA,hx⟩;exact dV.setAt (R:=mf w wb.heap.size) h.ls.each (hy.au hG rfl) (fun j h1 h2 _ hh=>hh.au hG rfl)
theorem dV.erase {α β:Type} {R : α → β → Prop} {xs:List α} {ys:List β} (h:dV R xs ys) (i:Nat) : dV R (xs.eraseIdx i) (ys.eraseIdx i):=by
 refine ⟨by rw [List.length_eraseIdx,List.length_eraseIdx,h.len],fun j h1 h2 => ?_⟩;have hl:=h.len;rw [List.length_eraseIdx] at h1 h2;rw [List.getElem_eraseIdx,List.getElem_eraseIdx];split
 ·exact h.get j _ _
 ·exact h.get (j+1) _ _
theorem HS.Iy {wb w w1 w':World} {k:HK} {p:HP} {s:ab×ab} {L:List ap} {i:Nat} (h:HS wb w k p s L) (hO:Own w1 wb.heap.size 142 4 bi p.li.A (p.li.n-1) p.li.c (p.ls.eraseIdx i)) (hg:w.grownBy w1 (ob p.li))
 (hb:aT w' k.b 41 (bW (k.h ⟨p.u0,p.u1,⟨p.li.A,p.li.n-1,p.li.c⟩,p.ls.eraseIdx i⟩))) (qX:w1.grownBy w' (some k.b)) : HS wb w' k ⟨p.u0,p.u1,⟨p.li.A,p.li.n-1,p.li.c⟩,p.ls.eraseIdx i⟩ s (L.eraseIdx i):=by
 have hG:=h.ls.z6 hg;have Ds:=(h.cU.au hG rfl).gr qX;have hx:Ext wb w':=(aJ h.base hg (Nat.le_refl _) h.ls.row.ba).own h.EA qX
 refine ⟨hb,(h.zs.au hG rfl).au Ds rfl,(h.cT.au hG rfl).au Ds rfl,(h.live.au hG rfl).au Ds rfl,⟨hO.au Ds rfl,(h.ls.each.erase i).mono fun _ _ hh=>(hh.au hG rfl).au Ds rfl⟩,Bg h.sm ?_ (fun y hy=>⟨y,List.mem_of_mem_eraseIdx hy,rfl⟩),h.sf,h.EA,hx⟩;exact pd.2 ((pd.1 h.sm.sep).sublist (List.eraseIdx_sublist _ _))
set_option maxHeartbeats 1000000 in
theorem Cp (k:HK) (p:HP) (s:ab×ab) (L:List ap) (x:ap) (y:bO) (a:Int) (wb w0:World) (H:HS wb w0 k p s L) (hk:p9 y x) (Lr:y.an = .nil) (Ls:x.an=[])
 (hs:wc L) (hn:(p.li.n+1)*48≤140737488355328) (Ea:∀ l∈L,l.an.length≤1000) :
 jr Tryz.prog 112 [.pointer (some ⟨k.b,0,none⟩),.agg (bi y).toArray,.int .i64 a] w0 fun v w' => ∃ p',HS wb w' k p' s (eU L ⟨x.eI,x.ab,x.Ty,bA L x++[a]⟩)∧kr w0 k p w' p':=by
 obtain ⟨F,hF⟩ : ∃ F:World→Prop,F=fun v=>dM v wb.heap.size k.g k.c p.u0 p.u1 s∧Own v wb.heap.size 3 1 bB k.m.A k.m.n k.m.c k.M∧Own v wb.heap.size 165 3 aA k.lv.A k.lv.n k.lv.c k.V∧kr w0 k p v p:=⟨_,rfl⟩
 have hZ:=H.zs;have hM:=H.cT;have hV:=H.live;have hL:=H.ls;have hb:=H.cU
 have mW:F3 F w0:=by
  rw [hF];exact ⟨⟨hZ,hM,hV,kr.refl _ _ _⟩,fun v v' hx hP=>⟨hP.1.ext hx,hP.2.1.ext hx,hP.2.2.1.ext hx,hP.2.2.2.ext hx⟩⟩
 have Fm:∀ (v v':World) (row:Option Nat),v.grownBy v' row→(∀ i,row=some i→i=k.b∨aG p.li.A p.li.c=some i∨w0.heap.size≤i)→F v→F v':=fun v v' row hg rM hP=>by
  rw [hF] at hP ⊢;refine ⟨hP.1.parts hg ((hZ.row.pb hL hb rfl rfl).ne rM) ((hZ.z0.free.pb hL hb rfl rfl).ne rM) ((hZ.z0.types.pb hL hb rfl rfl).ne rM) ((hZ.z1.free.pb hL hb rfl rfl).ne rM) ((hZ.z1.types.pb hL hb rfl rfl).ne rM),hP.2.1.apart hg ((hM.pb hL hb rfl rfl).ne rM),hP.2.2.1.apart hg ((hV.pb hL hb rfl rfl).ne rM),hP.2.2.2.step hg (fun i e => ?_) (fun i e => .inl e)⟩;rcases rM i e with h|h|h
  ·exact .inl (.inl h)
  ·exact .inl (.inr (.inr (.inl h)))
  ·exact .inr h
 have Ji:∀ (i:Nat) (hi:i<p.ls.length) (v v':World),v.grownBy v' (aG p.ls[i].an.A p.ls[i].an.c)→F v→F v':=fun i hi v v' hg hP=>by
  rw [hF] at hP ⊢;have Ep:=(hL.each.get i hi (by rw [← hL.each.len];exact hi)).cb;exact ⟨hP.1.parts hg (hZ.row.kh Ep rfl) (hZ.z0.free.kh Ep rfl) (fun j e e2=>H.sm.types i hi j e2 p.u0 (by simp) e) (hZ.z1.free.kh Ep rfl) (fun j e e2=>H.sm.types i hi j e2 p.u1 (by simp) e),hP.2.1.apart hg (fun j e e2=>H.sm.cT i hi j e2 e),hP.2.2.1.apart hg (hV.kh Ep rfl),hP.2.2.2.step hg (fun j e => .inl (.inr (.inr (.inr ⟨_,List.getElem_mem hi,e⟩)))) (fun i e => .inl e)⟩
 refine (xT ⟨some ⟨k.g,0,none⟩,2,k.c⟩ k.m k.cp p.li k.lv L p.ls x y a F k.b wb w0 H.base H.EA hb hL hk Lr Ls H.sm.sep hs hn Ea mW Fm Ji).mono fun v w' hv => ?_
 obtain ⟨hx,Ox,Fl,A8,lV,Lw,hP⟩:=hv;rw [hF] at Ox;obtain ⟨yX,Lx,wv,hK⟩:=Ox
 have hold:∀ j (hj:j<A8.length) (g:Nat),aG A8[j].an.A A8[j].an.c=some g→(∃ i,∃ hi:i<p.ls.length,aG p.ls[i].an.A p.ls[i].an.c=some g)∨w0.heap.size≤g:=fun j hj g e=>by
  rcases hP.of _ (List.getElem_mem hj) g e with ⟨z,hz,e2⟩|h
  ·obtain ⟨i,hi,rfl⟩:=List.getElem_of_mem hz;exact .inl ⟨i,hi,e2⟩
  ·exact .inr h
 refine ⟨⟨p.u0,p.u1,Fl,A8⟩,⟨lV,yX,Lx,wv,Lw,⟨fun j hj g e => ?_,fun j hj g e v hv => ?_,hP.sep⟩,H.sf,H.EA,hx⟩,hK.step (World.grownBy.refl _ none) (fun i e=>by cases e) (fun i hi => ?_)⟩
 ·rcases hold j hj g e with ⟨i,hi,e2⟩|h
  ·exact H.sm.cT i hi g e2
  ·intro e2;have:=hM.lt_size g e2;omega
 ·rcases hold j hj g e with ⟨i,hi,e2⟩|h
  ·exact H.sm.types i hi g e2 v hv
  ·intro e2;simp only [List.mem_cons,List.not_mem_nil,or_false] at hv;rcases hv with rfl|rfl
   ·have:=hZ.z0.types.lt_size g e2;omega
   ·have:=hZ.z1.types.lt_size g e2;omega
 ·rcases hi with h|h|h|⟨z,hz,h⟩
  ·exact .inl (.inl h)
  ·exact .inl (.inr (.inl h))
  ·exact (hP.row i h).imp (fun e => .inr (.inr (.inl e))) id
  ·exact (hP.of z hz i h).imp (fun e => .inr (.inr (.inr e))) id
open Go.RowKit
section
variable {P:Program} {L:Env} {w:World} {d:Option Nat} {T:TypeId} {pos:String} {af:Array Edge} {g:Option (Nat×Bool)}
theorem Bh {t ty:TypeId} {x y:Operand} {i j:Int} (a b:Nat) (hx:bF L x=some (.int .i64 i)) (hy:bF L y=some (.int .i64 j)) (ha:i=(a:Int)) (hb:j=(b:Int)) (oA:a<9223372036854775808) (lV:b<9223372036854775808) :
 St P ⟨d,.binOp .and t x y ty,T,pos,af,g⟩ L w (.int .i64 ((a &&& b:Nat) : Int)) :=
 ⟨fun n A hA w' _=>by
  have e1:=hA.eval hx;have e2:=hA.eval hy;subst ha hb;generalize A.eval = ρ at *
  have dg:a &&& b<2 ^ 63:=Nat.and_lt_two_pow _ (by omega)
  have e:(BitVec.ofInt 64 (a:Int) &&& BitVec.ofInt 64 (b:Int)).toNat=a &&& b:=by
   rw [BitVec.toNat_and,BitVec.ofInt_natCast,BitVec.ofInt_natCast,BitVec.toNat_ofNat,BitVec.toNat_ofNat,Nat.mod_eq_of_lt (by omega),Nat.mod_eq_of_lt (by omega)]
  have aB:(Op.intBits .and .i64 (a:Int) (b:Int)).run P w' = .ok (.int .i64 ((a &&& b:Nat) : Int)) w':=by
   have:Op.intBits .and .i64 (a:Int) (b:Int)=(pure (.int .i64 (IntKind.i64.wrap ((BitVec.ofInt 64 (a:Int) &&& BitVec.ofInt 64 (b:Int)).toNat:Nat))) : Sem Value):=rfl
   rw [this,e,fi (by omega) (by omega)]
   rfl
  have aC:(binOp .and t (.int .i64 (a:Int)) (.int .i64 (b:Int))).run P w' = .ok (.int .i64 ((a &&& b:Nat) : Int)) w':=by
   have:binOp .and t (.int .i64 (a:Int)) (.int .i64 (b:Int))=Op.intBits .and .i64 (a:Int) (b:Int):=by simp [binOp]
   rw [this,aB]
  simp [execOp,e1,e2,eqGuard,aC]⟩
end
open Go.RowKit
def u7 (f j:Int) : Int:=((f.toNat &&& j.toNat:Nat) : Int)
theorem Cq:∀ f:Nat,f<16→(f &&& 1=f % 2)∧(f &&& 2=f / 2 % 2*2)∧(f &&& 4=f / 4 % 2*4)∧(f &&& 8=f / 8*8):=by decide
theorem qo {f:Int} (h : 0≤f∧f≤15) : u7 f 1=f % 2∧u7 f 2=f / 2 % 2*2∧u7 f 4=f / 4 % 2*4∧u7 f 8=f / 8*8:=by
 obtain ⟨n,rfl⟩ : ∃ n:Nat,f=n:=⟨f.toNat,by omega⟩;obtain ⟨h1,h2,h3,h4⟩:=Cq n (by omega);unfold u7;simp only [Int.toNat_natCast,show (1:Int).toNat=1 from rfl,show (2:Int).toNat=2 from rfl,show (4:Int).toNat=4 from rfl,show (8:Int).toNat=8 from rfl,h1,h2,h3,h4];omega
theorem rO {P:Program} {L:Env} {w:World} {d:Option Nat} {T t ty:TypeId} {pos:String} {af:Array Edge} {g:Option (Nat×Bool)} {x y:Operand} {f j:Int} (hx:bF L x=some (.int .i64 f)) (hy:bF L y=some (.int .i64 j)) (hf : 0≤f∧f≤15) (hj : 0≤j∧j≤15) :
 St P ⟨d,.binOp .and t x y ty,T,pos,af,g⟩ L w (.int .i64 (u7 f j)):=Bh f.toNat j.toNat hx hy (by omega) (by omega) (by omega) (by omega)
theorem z7 (f:Int) (w:World) : bl Tryz.prog 152 [.int .i64 f] w fun v _=>v = .tuple #[.int .i64 (if 0≤ff f then ff f else 0),.bool (decide (0≤ff f))]:=by
 refine aD Tryz.func152 rfl Tryz.ntmps152 rfl ?_;have hw:=Ext.refl w;by_cases hf : 0≤f∧f≤15
 ·obtain ⟨q1,q2,q4,q8⟩:=qo hf;obtain ⟨t,ht⟩ : ∃ t,ff f=t:=⟨_,rfl⟩
  have hc:(f / 2 % 4=0∧t=0)∨(f / 2 % 4=1∧t=1)∨(f / 2 % 4=2∧t=2)∨(f / 2 % 4=3∧t = -1):=by
   unfold ff at ht;rw [if_pos hf] at ht;split at ht
   ·omega
   ·split at ht
    ·omega
    ·split at ht
     ·omega
     ·omega
  rw [ht];rcases hc with ⟨h1,rfl⟩|⟨h1,rfl⟩|⟨h1,rfl⟩|⟨h1,rfl⟩
  all_goals
   repeat' (first|refine Wz ?_|(refine SW.st (rO rfl rfl (by omega) (by decide)) rfl ?_))
   all_goals try omega
   all_goals exact ae.dk rfl rfl rfl ⟨_,rfl,hw,rfl⟩
 ·have e:ff f = -1:=by unfold ff;rw [if_neg hf]
  rw [e];repeat' (first|refine Wz ?_|refine SW.en rfl rfl rfl (fun h => ?_) (fun h => ?_))
  all_goals try omega
  all_goals exact ae.dk rfl rfl rfl ⟨_,rfl,hw,rfl⟩
structure u9 (M:List Int) (m0 m1:Int) : Prop where
 eq:M=[m0,m1]
 b0 : 0≤m0∧m0≤256
 b1 : 0≤m1∧m1≤256
theorem Iz.EB (r:gb) (u0 u1:bU) (s:ab×ab) (M:List Int) (m0 m1:Int) (zi:Nat) (f:Int) (w:World) (hm:Sl w 1 bB r.bT.A r.bT.n M) (hz:Sl w 4 bG r.aL.A r.aL.n [u0,u1]) (hM:u9 M m0 m1) (h1:u1.aw=s.2.aw) (h2:u1.To=s.2.To) (hF : 0≤s.2.aw∧s.2.aw≤256) (hT:s.2.aw≤s.2.To∧s.2.To≤256) (kf:zi<2) (hf : 0≤f∧f≤15) :
 bl Tryz.prog 246 [.agg (bW r).toArray,.int .i64 (zi:Int),.int .i64 f] w fun v _=>v = .int .i64 (jW m0 m1 s zi f):=by
 refine aD Tryz.func246 rfl Tryz.ntmps246 rfl ?_;refine CW.seq (CW.region (SW.box rfl rfl fun b1 w1 hw gX aB => ?_));obtain ⟨rfl,J0,nH⟩:=hM;obtain ⟨q1,q2,q4,q8⟩:=qo hf;have hA:=hz.base;have hB:=hm.base;have hn : 2=r.aL.n:=hz.len
 have Oa : 2=r.bT.n:=hm.len
 have k0 : 1<r.aL.n:=by omega
 have k1:zi<r.bT.n:=by omega
 have f0:=hz.qV k0 (j:=0) (u := .int .i64 u1.aw) rfl;have f1:=hz.qV k0 (j:=1) (u := .int .i64 u1.To) rfl;obtain ⟨mz,Iq⟩ : ∃ mz,(if (zi:Int)=0 then m0 else m1)=mz:=⟨_,rfl⟩
 have P8 : [m0,m1][zi]'(by simpa using kf)=mz:=by
  rcases Nat.lt_or_ge zi 1 with h|h
  ·obtain rfl:zi=0:=by omega
   rw [← Iq];rfl
  ·obtain rfl:zi=1:=by omega
   rw [← Iq];rfl
 have fm:=hm.one k1 (congrArg bB P8);have RU : 0≤mz∧mz≤256:=by rw [← Iq];split<;>omega
 obtain ⟨v,hv⟩ : ∃ v,jW m0 m1 s zi f=v:=⟨_,rfl⟩;have Jg:=hv;unfold jW at Jg;rw [Iq] at Jg;rw [hv];have RV:f.tmod 2=f % 2:=Int.tmod_eq_emod_of_nonneg (by omega)
 have hc:(8≤f∨f<8)∧((zi=0∧f % 2=0)∨(zi=0∧f % 2=1)∨zi=1):=by omega
 obtain ⟨HR,Jn⟩:=hc;rcases HR with HR|HR<;>rcases Jn with ⟨Jn,P9⟩|⟨Jn,P9⟩|Jn
 all_goals
  repeat' (first|refine Wz ?_|((apply CW.bg mixed;(· kernel_rfl);rotate_left;intro w1 aa;replace hw:=Ext.trans hw aa;replace aB:=aB.ext aa;clear aa;rotate_right))|refine SW.st (aM hw rfl f0) rfl ?_|refine SW.st (aM hw rfl f1) rfl ?_|refine SW.st (aM hw rfl fm) rfl ?_|(refine SW.st (rO rfl rfl (by omega) (by decide)) rfl ?_)|exact SW.du rfl)
  all_goals try omega
  refine ae.aI rfl rfl ⟨_,rfl,hw,?_⟩;congr 1
  omega
open Go.RowKit
inductive Hb (m0 m1:Int) (s:ab×ab) (zi o t f:Int) : Option ((ab×ab)×Int)→Prop
 | iw (he : ¬ dD m0 m1 s zi o f) : Hb m0 m1 s zi o t f none
 | none {u:ab×Int×Int} (he:dD m0 m1 s zi o f) (ht:dA (jd s zi) o t u) (hu:u.2.2≠0) : Hb m0 m1 s zi o t f none
 | ok {u:ab×Int×Int} (he:dD m0 m1 s zi o f) (ht:dA (jd s zi) o t u) (hu:u.2.2=0) : Hb m0 m1 s zi o t f (some (dI s zi u.1,u.2.1))
def Qa:Option ((ab×ab)×Int)→Value
 | Option.none => .tuple #[.int .i64 0,.bool false]
 | some q => .tuple #[.int .i64 q.2,.bool true]
def LA (s:ab×ab) : Option ((ab×ab)×Int)→ab×ab
 | Option.none=>s
 | some q=>q.1
theorem Hb.vs {m0 m1:Int} {s:ab×ab} {zi o t f:Int} {q:Option ((ab×ab)×Int)} (h:Hb m0 m1 s zi o t f q) (hv:VS s) : VS (LA s q):=by
 cases h with
 | iw|none=>exact hv
 | ok he ht hu=>exact hv.ko (ht.ra hu).1
theorem HS.gj {wb w:World} {k:HK} {p:HP} {s:ab×ab} {L:List ap} (h:HS wb w k p s L) (hv:VS s) {zi:Nat} (hz:zi<2) : ∃ u,[p.u0,p.u1][zi]'hz=u∧dT w wb.heap.size u (jd s zi):=by
 rcases Nat.lt_or_ge zi 1 with h1|h1
 ·obtain rfl:zi=0:=by omega
  exact ⟨p.u0,rfl,h.zs.z0⟩
 ·obtain rfl:zi=1:=by omega
  exact ⟨p.u1,rfl,h.zs.z1⟩
set_option maxHeartbeats 2000000 in
theorem po (k:HK) (p:HP) (s:ab×ab) (L:List ap) (m0 m1:Int) (zi:Nat) (o t f:Int) (wb w:World) (H:HS wb w k p s L) (hO:oV w) (hM:u9 k.M m0 m1) (hv:VS s) (kf:zi<2) (ho : 0≤o∧o≤4) (hf : 0≤f∧f≤15) :
 jr Tryz.prog 214 [.pointer (some ⟨k.b,0,none⟩),.int .i64 (zi:Int),.int .i64 o,.int .i64 t,.int .i64 f] w fun v w' => ∃ q,Hb m0 m1 s zi o t f q∧v=Qa q ∧ ∃ p',HS wb w' k p' (LA s q) L∧kr w k p w' p':=by
 refine eG Tryz.func214 rfl Tryz.ntmps214 rfl ?_;have hw:=Ext.refl w;have H0:=H;obtain ⟨uz,Qb,wQ⟩:=H.gj hv kf;have IA:=hv.jd (zi:Int);obtain ⟨z,hz⟩ : ∃ z,jd s (zi:Int)=z:=⟨_,rfl⟩;rw [hz] at wQ IA;obtain ⟨q1,q2,q3,q4⟩:=nv wQ IA;have hA:=H.zs.row.sl.base;have fz:=H.zs.row.sl.all kf;rw [Qb] at fz;have Qc:=dc.2 IA
 have cP:∀ w',Ext w w'→bl Tryz.prog 245 [.agg (bG uz).toArray] w' fun v _=>v = .tuple #[.int .i64 (di z.ag),.int .i64 0]:=fun w' hx=>by
  have:=zU uz z w' (wQ.ext hx).rd (by omega) (by omega) ⟨by omega,by omega⟩ ⟨by omega,by omega⟩
  rwa [show m7 z=(di z.ag,0) by simp [m7,Qc]] at this
 obtain ⟨hd,GR⟩ : ∃ hd,jW m0 m1 s zi f=hd:=⟨_,rfl⟩;have o1:=hv.gL.ok;obtain ⟨a1,a2,a3,a4,a5⟩:=o1
 have cH:∀ w',Ext w w'→bl Tryz.prog 246 [.agg (bW (k.h p)).toArray,.int .i64 (zi:Int),.int .i64 f] w' fun v _=>v = .int .i64 hd:=fun w' hx=>by
  have:=Iz.EB (k.h p) p.u0 p.u1 s k.M m0 m1 zi f w' (H0.cT.ext hx).sl (H0.zs.row.ext hx).sl hM H0.zs.z1.from_ H0.zs.z1.jA ⟨by omega,by omega⟩ ⟨by omega,by omega⟩ kf hf
  rwa [GR] at this
 have RW : 0≤hd∧hd≤512:=by
  rw [← GR];have h1:=hM.b0;have h2:=hM.b1;unfold jW;(repeat' split)<;>omega
 have zp:=gu IA;have Qd:=ki IA z.ag.length (Nat.le_refl _);rw [List.take_length] at Qd;have Om:=bM ho.1 ho.2;by_cases he:hd≤di z.ag-pw o
 ·have hE:dD m0 m1 s zi o f:=by unfold dD;rw [GR,hz];exact he
  repeat' (first|refine Wz ?_|((apply CW.bg mixed;(· kernel_rfl);rotate_left;intro w1 aa;replace hw:=Ext.trans hw aa;replace H:=H.ext aa;replace wQ:=wQ.ext aa;clear aa;rotate_right))|refine SW.st (ax rfl (H.cU.cell (i:=0) (v := .slice (some ⟨k.g,0,none⟩) 2 k.c) rfl)) rfl ?_|refine SW.st (ay rfl rfl fz) rfl ?_|refine SW.st (aN hw rfl rfl fz) rfl ?_|refine SW.st (ay rfl rfl ((fun _ _=>H.cU.cell))) rfl ?_|(refine SW.call rfl rfl (cP _ hw) ?_;intro v w1 aa hv;subst hv;replace hw:=Ext.trans hw aa;replace H:=H.ext aa;replace wQ:=wQ.ext aa;clear aa)|refine SW.cI rfl rfl (fun w1 aa=>(cH _ (Ext.trans hw aa))) ?_|(refine SW.st (fE (r:=pw o) rfl rfl (by omega) (by omega) (by simp [pw]) (by omega) (by omega)) rfl ?_)|exact SW.du rfl)
  refine SW.call rfl rfl (DH uz z o t _ wQ.rd q1 q2 ⟨by omega,by omega⟩ ⟨by omega,by omega⟩ (hO.ext hw)) fun v w4 ao hv => ?_
  obtain ⟨u,hT,r',rfl,IB⟩:=hv;replace IB:=IB.low hw.size;(replace hw:=Ext.trans hw ao;replace H:=H.ext ao);refine Wz ?_;refine SW.alloc rfl fun Oy w1 aa EC z8 => ?_
  skip;refine SW.ah z8 rfl rfl rfl rfl (cx r') fun w2 Hc hg => ?_
  have ao:=aa.own EC hg;have Oz:w.heap.size≤Oy:=Nat.le_trans hw.size EC
  replace hw:=Ext.trans hw ao;replace H:=H.ext ao;replace IB:=IB.ext ao;replace z8:=Hc;clear Hc aa hg ao;rw [← hz] at hT;by_cases hu:u.2.2=0
  ·refine Wz ?_;refine CW.l9 7 7 (fun _=>True) mixed (by kernel_rfl) fun w1 aa bm => ?_
   replace hw:=Ext.trans hw aa;replace H:=H.ext aa;replace IB:=IB.ext aa;replace z8:=z8.ext aa;clear aa;refine Wf ?_;refine SF.take 3 [] [] bm rfl (by kernel_rfl) (by kernel_rfl) (by kernel_rfl) ?_;repeat ((show SW _ _ _ _ (⟨_,Op.load _ _,_,_,_,none⟩::_) _ _;refine SW.st (ax rfl (H.cU.cell (i:=0) (v := .slice (some ⟨k.g,0,none⟩) 2 k.c) rfl)) rfl ?_))
   refine SW.ar ?_;refine Wf ?_;refine SF.last rfl (by kernel_rfl) (by kernel_rfl) ?_;refine SW.kQ (enc:=bG) zi r' H.zs.row rfl rfl kf fun w5 Kz hg => ?_
   rw [H.zs.own] at hg;have H5:=HS.Ix H0 H kf Kz hg IB;have hK:kr w k p w5 (tg p zi r'):=((kr.refl w k p).ext hw).step hg (fun i e=>by cases e;exact .inl (.inr (.inl rfl))) (fun i e => .inl (qk.1 e))
   refine Wz ?_;exact ae.dk rfl rfl rfl ⟨_,rfl,_,.ok hE hT hu,rfl,_,H5,hK⟩
  ·refine Wz ?_;exact ae.dk rfl rfl rfl ⟨_,rfl,_,.none hE hT hu,rfl,_,H,(kr.refl w k p).ext hw⟩
 ·have hE : ¬ dD m0 m1 s zi o f:=by unfold dD;rw [GR,hz];exact he
  repeat' (first|refine Wz ?_|((apply CW.bg mixed;(· kernel_rfl);rotate_left;intro w1 aa;replace hw:=Ext.trans hw aa;replace H:=H.ext aa;replace wQ:=wQ.ext aa;clear aa;rotate_right))|refine SW.st (ax rfl (H.cU.cell (i:=0) (v := .slice (some ⟨k.g,0,none⟩) 2 k.c) rfl)) rfl ?_|refine SW.st (ay rfl rfl fz) rfl ?_|refine SW.st (ay rfl rfl ((fun _ _=>H.cU.cell))) rfl ?_|(refine SW.call rfl rfl (cP _ hw) ?_;intro v w1 aa hv;subst hv;replace hw:=Ext.trans hw aa;replace H:=H.ext aa;replace wQ:=wQ.ext aa;clear aa)|refine SW.cI rfl rfl (fun w1 aa=>(cH _ (Ext.trans hw aa))) ?_|(refine SW.st (fE (r:=pw o) rfl rfl (by omega) (by omega) (by simp [pw]) (by omega) (by omega)) rfl ?_)|exact SW.du rfl)
  exact ae.dk rfl rfl rfl ⟨_,rfl,_,.iw hE,rfl,_,H,(kr.refl w k p).ext hw⟩
open Go.RowKit
set_option maxHeartbeats 4000000 in
theorem th (A:Option Addr) (n c lo:Nat) (l:List bO) (w:World) (hO:Own w lo 142 4 bi A n c l) (i:Nat) (hi:i<n) (hn:n≤1000000000000000000) (gQ:lo≤w.heap.size) :
 jr Tryz.prog 244 [.slice A n c,.int .i64 (i:Int),.int .i64 ((i+1:Nat) : Int)] w fun v w'=>v = .slice A (n-1) c∧Own w' lo 142 4 bi A (n-1) c (l.eraseIdx i)∧w.grownBy w' (aG A c):=by
 refine eG Tryz.func244 rfl Tryz.ntmps244 rfl ?_;have hle:=hO.le;have nP:=hO.len;have hA:=hO.sl.base;have Dm:w.grownBy w (aG A c):=World.grownBy.refl _ _
 repeat' (first|refine Wz ?_|(refine SW.st (uF (i:=i) (j:=i+1) (k:=n) rfl rfl rfl rfl (by omega) (by omega) (by omega)) rfl ?_))
 all_goals try omega
 have hw:=Ext.refl w;have e0:i+(n-(i+1))=n-1:=by omega
 have el:l.take i++l.drop (i+1)=l.eraseIdx i:=by rw [List.eraseIdx_eq_take_drop_succ]
 refine CW.any 6 mixed (dq (by kernel_rfl)) rfl fun w1 aa bm => ?_
 replace hw:=Ext.trans hw aa;replace hO:=hO.ext aa;clear aa;refine Wa ?_;refine SA.take 2 bm rfl (by kernel_rfl) (by kernel_rfl) rfl ?_;repeat ((refine SW.st (cG (k:=i) rfl rfl (by omega)) rfl ?_))
 refine SW.ar ?_;refine Wa ?_;refine SA.take 5 bm rfl (by kernel_rfl) (by kernel_rfl) rfl ?_;repeat ((refine SW.st (aP (k:=i+1) rfl rfl (by omega) (by omega)) rfl ?_))
 refine SW.ar ?_;refine SA.done (by kernel_rfl) ?_;refine SW.xi (hO.pre (i:=i) (by omega)) (hO.sl.drop (i+1) c (by omega) (by omega)) (by omega) rfl rfl rfl fun w2 cm hg => ?_
 rw [e0,el] at cm;rw [e0];have FH:=(hw.gr (aG A c));repeat' (first|refine Wz ?_|(refine SW.st (su (i:=n-1) (j:=n) rfl rfl rfl (by omega) (by omega)) rfl ?_))
 obtain ⟨g,rest,rfl,h1,h2,h3,h4,h5,h6⟩:=cm.opened (by omega);have nR:((l.eraseIdx i).flatMap bi).length=(n-1)*4:=by rw [aE,cm.len]
 refine SW.clear ((n-1)*4) h2 rfl (by rw [List.length_append,nR];omega) (fun h0 => ?_) (by decide) fun w3 cs nj hB oz => ?_
 ·rw [if_neg (by omega)];simp [cn]
 ·have e7:=eE ((l.eraseIdx i).flatMap bi) (rest.take ((n-(n-1))*4)) (rest.drop ((n-(n-1))*4)) cs (by rw [nj];simp;omega) (o:=(n-1)*4) nR.symm;rw [List.append_assoc (List.flatMap _ _),List.take_append_drop] at e7;rw [e7,List.append_assoc] at hB;have Bv:=Own.closed (l:=l.eraseIdx i) cm.len hB (by rw [List.length_append,nj];simp;omega) h4 (by omega) h5 h1;rw [← h6] at oz;have FI:=bR (bR FH hg (.inl rfl)) oz (.inl rfl);refine Wz ?_;exact ae.aI rfl rfl ⟨_,rfl,rfl,Bv,FI⟩
open Go.RowKit
def OA:Option ((ab×ab)×List ap×Int)→Value
 | Option.none => .tuple #[.int .i64 0,.bool false]
 | some q => .tuple #[.int .i64 q.2.2,.bool true]
def KA (s:ab×ab) : Option ((ab×ab)×List ap×Int)→ab×ab
 | Option.none=>s
 | some q=>q.1
def IC (L:List ap) : Option ((ab×ab)×List ap×Int)→List ap
 | Option.none=>L
 | some q=>q.2.1
theorem ED {k:HK} {p:HP} {i j:Nat} {y:bO} (hi:i<p.ls.length) (ho:ob y.an=ob p.ls[i].an) (h:gz k ⟨p.u0,p.u1,p.li,p.ls.set i y⟩ j) : gz k p j:=by
 rcases h with h|h|h|⟨z,hz,h⟩
 ·exact .inl h
 ·exact .inr (.inl h)
 ·exact .inr (.inr (.inl h))
 ·rcases List.mem_or_eq_of_mem_set hz with h1|rfl
  ·exact .inr (.inr (.inr ⟨z,h1,h⟩))
  ·exact .inr (.inr (.inr ⟨_,List.getElem_mem hi,ho ▸ h⟩))
theorem EE {k:HK} {p:HP} {i j:Nat} (h:gz k ⟨p.u0,p.u1,⟨p.li.A,p.li.n-1,p.li.c⟩,p.ls.eraseIdx i⟩ j) : gz k p j:=by
 rcases h with h|h|h|⟨z,hz,h⟩
 ·exact .inl h
 ·exact .inr (.inl h)
 ·exact .inr (.inr (.inl h))
 ·exact .inr (.inr (.inr ⟨z,List.mem_of_mem_eraseIdx hz,h⟩))
set_option maxHeartbeats 4000000 in
theorem ti (k:HK) (p:HP) (s:ab×ab) (L:List ap) (m0 m1 cpu:Int) (zi:Nat) (t f:Int) (wb w:World) (H:HS wb w k p s L) (hO:oV wb) (hM:u9 k.M m0 m1) (hv:VS s) (hs:wc L) (re:∀ l∈L,1≤l.an.length∧l.an.length≤8) (Gb:L.length≤256) (kf:zi<2) (hf : 0≤f∧f≤15) :
 jr Tryz.prog 213 [.pointer (some ⟨k.b,0,none⟩),.int .i64 cpu,.int .i64 (zi:Int),.int .i64 t,.int .i64 f] w fun v w' => ∃ q,dO m0 m1 cpu zi 0 t f s L q∧v=OA q ∧ ∃ p',HS wb w' k p' (KA s q) (IC L q)∧kr w k p w' p':=by
 refine eG Tryz.func213 rfl Tryz.ntmps213 rfl ?_;have hw:=Ext.refl w;repeat' (first|refine Wy ?_|fail);have yh:∀ i,w.heap.size≤i → ¬ gz k p i:=fun i hi=>H.not hi
 have K0:=kr.refl w k p;refine SW.alloc rfl fun z9 w1 aa qR cV => ?_
 skip;refine SW.ah cV rfl rfl rfl rfl (DJ ⟨cpu,zi,t,.nil⟩) fun w2 m9 hg => ?_
 have ao:=aa.own qR hg;have va:w.heap.size≤z9:=Nat.le_trans hw.size qR
 replace hw:=Ext.trans hw ao;replace H:=H.ext ao;replace K0:=K0.ext ao;replace cV:=m9;clear m9 aa hg ao;obtain ⟨x,hx⟩ : ∃ x:ap,x=⟨cpu,zi,t,[]⟩:=⟨_,rfl⟩;have Kq:p9 ⟨cpu,zi,t,.nil⟩ x:=by subst hx;exact ⟨rfl,rfl,rfl⟩
 have Ls:x.an=[]:=by subst hx;rfl
 obtain ⟨l1,l2⟩:=H.ls.rd.len;have hA:=H.ls.row.sl.base;obtain ⟨q,hq⟩ : ∃ q,bC L x=q:=⟨_,rfl⟩;obtain ⟨kp,KB⟩ : ∃ kp,aO L x=kp:=⟨_,rfl⟩
 have cL:∀ w',sv w' p.li p.ls L→bl Tryz.prog 113 [.agg (bW (k.h p)).toArray,.agg (bi ⟨cpu,zi,t,.nil⟩).toArray] w' fun v _=>v = .tuple #[.int .i64 (kp:Int),.bool q]:=fun w' h=>by
  have:=qa (k.h p) L p.ls x ⟨cpu,zi,t,.nil⟩ w' h Kq (by simp only;omega)
  rwa [hq,KB] at this
 cases q
 ·repeat' (first|refine Wy ?_|fail);(apply CW.bg mixed;(· kernel_rfl);rotate_left;intro w1 aa;replace hw:=Ext.trans hw aa;replace H:=H.ext aa;replace cV:=cV.ext aa;replace K0:=K0.ext aa;clear aa;rotate_right);repeat' (first|refine Wy ?_|(refine CW.eY rfl ?_)|refine SW.st (ay rfl rfl ((fun _ _=>H.cU.cell))) rfl ?_|refine SW.st (ay rfl rfl ((fun _ _=>cV.cell))) rfl ?_|refine SW.cI rfl rfl (fun w1 aa=>(cL _ (H.ls.rd.ext aa))) ?_|exact SW.du rfl)
  clear cL;skip;refine SW.dy rfl rfl (po k p s L m0 m1 zi 0 t f wb _ H (hO.ext H.base) hM hv kf (by decide) hf) fun v w5 A4 => ?_
  obtain ⟨q5,hT,rfl,p5,H5,K5⟩:=A4;have Bi:=K5.not (yh z9 va) cV.lt;replace cV:=K5.cU cV (yh z9 va);replace K5:=K0.trans K5;clear K0 H hw yh;have hw:=Ext.refl w5
  have nD : ¬ ((0:Int)=0∧bC L ⟨cpu,(zi:Int),t,[]⟩=true):=fun h=>by
   have:=h.2
   rw [← hx,hq] at this;cases this
  have M1:bC L ⟨cpu,(zi:Int),t,[]⟩=false:=by rw [← hx];exact hq
  have Jo:=hT.vs hv;cases q5 with
  | none =>
    have yi:dO m0 m1 cpu zi 0 t f s L none:=by
     cases hT with
     | iw he=>exact .iw nD he
     | none he ht hu=>exact .none nD he ht hu
    repeat' (first|refine Wy ?_|fail);refine CW.loop (fun _:Unit=>[(17,.int .i64 0),(18,.bool false),(19,.int .i64 1)]) (fun _ w'=>w'=w5) (fun _=>0) () ⟨rfl,rfl,rfl,trivial⟩ rfl ?_;rintro _ w' rfl;repeat' (first|refine Wy ?_|fail);exact ae.dk rfl rfl rfl ⟨_,rfl,_,yi,rfl,p5,H5,K5⟩
  | some q5 =>
    obtain ⟨s1,a⟩:=q5
    have Hd:∀ r,fg m0 m1 zi t f s1 [] r→dO m0 m1 cpu zi 0 t f s L (some (r.1,gh L x r.2,a)):=fun r hr=>by
     rw [hx];cases hT with
     | ok he ht hu=>exact .fill rfl M1 he ht hu hr
    simp only [LA] at H5 Jo;have OB:HS wb w5 k p5 s1 (gh L x []):=by rw [iG];exact H5
    clear H5;repeat' (first|refine Wy ?_|fail)
    refine CW.loop (fun u:HP×(ab×ab)×List Int=>[(0,.pointer (some ⟨k.b,0,none⟩)),(2,.int .i64 (zi:Int)),(3,.int .i64 t),(4,.int .i64 f),(12,.pointer (some ⟨z9,0,none⟩)),(17,.int .i64 a),(18,.bool true),(19,.int .i64 ((u.2.2.length+1:Nat) : Int))])
     (fun u w'=>u.2.2.length≤3∧HS wb w' k u.1 u.2.1 (gh L x u.2.2)∧VS u.2.1∧aT w' z9 142 (bi ⟨cpu,zi,t,.nil⟩) ∧ ¬ gz k u.1 z9∧kr w k p w' u.1 ∧ ∀ r,fg m0 m1 zi t f u.2.1 u.2.2 r→fg m0 m1 zi t f s1 [] r) (fun u=>3-u.2.2.length) (p5,s1,[])
     ⟨rfl,rfl,rfl,rfl,rfl,rfl,rfl,rfl,trivial⟩ ⟨by simp,OB,Jo,cV,Bi,K5,fun r h=>h⟩ ?_
    clear hw cV K5 Bi OB Jo hT;rintro ⟨p6,s6,pg⟩ w' ⟨M3,H,ID,cV,yh,K0,Bj⟩
    simp only at M3 H ID yh K0 Bj ⊢;have hw:=Ext.refl w';by_cases dg:pg.length<3
    ·repeat' (first|refine Wy ?_|fail);refine SW.dy rfl rfl (po k p6 s6 (gh L x pg) m0 m1 zi 0 t f wb _ H (hO.ext H.base) hM ID kf (by decide) hf) fun v w5 A4 => ?_
     obtain ⟨q5,hT,rfl,p5,H5,K5⟩:=A4;have Bi:=K5.not yh cV.lt;replace cV:=K5.cU cV yh;replace K5:=K0.trans K5;clear K0 H hw yh;have hw:=Ext.refl w5;have Jo:=hT.vs ID;cases q5 with
     | none =>
       have yi:fg m0 m1 zi t f s6 pg (s6,pg):=by
        cases hT with
        | iw he=>exact .iw dg he
        | none he ht hu=>exact .none dg he ht hu
       repeat' (first|refine Wy ?_|(refine CW.eX rfl ?_))
       exact ae.dk rfl rfl rfl ⟨_,rfl,_,Hd _ (Bj _ yi),rfl,p5,H5,K5⟩
     | some q5 =>
       obtain ⟨s7,b⟩:=q5;simp only [LA] at H5 Jo
       have IE:∀ r,fg m0 m1 zi t f s7 (pg++[b]) r→fg m0 m1 zi t f s1 [] r:=fun r hr=>by
        cases hT with
        | ok he ht hu=>exact Bj _ (.more dg he ht hu hr)
       repeat' (first|refine Wy ?_|(refine CW.eY rfl ?_))
       repeat' (first|refine Wy ?_|refine SW.st (ay rfl rfl ((fun _ _=>cV.cell))) rfl ?_)
       obtain ⟨l3,l4⟩:=H5.ls.rd.len;have Jb:=u5 (pg:=pg) hq
       refine SW.dy rfl rfl (Cp k p5 s7 (gh L x pg) x ⟨cpu,zi,t,.nil⟩ b wb _ H5 Kq rfl Ls (wx hs hq) (by omega) (fun l hl=>by
        rcases qj hq l hl with h|rfl
        ·have:=re l h;omega
        ·simp only [dn];omega)) fun v w8 M4 => ?_
       obtain ⟨p8,H8,K8⟩:=M4;have KC:=K8.not Bi cV.lt;replace cV:=K8.cU cV Bi;replace K8:=K5.trans K8;rw [zX hq] at H8;clear hw;have hw:=Ext.refl w8;repeat' (first|refine Wy ?_|fail);exact ae.again (p8,s7,pg++[b]) ⟨rfl,rfl,rfl,rfl,rfl,rfl,rfl,congrArg (fun z=>some (Value.int .i64 z)) (by simp),trivial⟩ (by simp;omega) ⟨by simp;omega,H8,Jo,cV,KC,K8,IE⟩
    ·have yi:fg m0 m1 zi t f s6 pg (s6,pg) := .full (by omega)
     repeat' (first|refine Wy ?_|fail);exact ae.dk rfl rfl rfl ⟨_,rfl,_,Hd _ (Bj _ yi),rfl,p6,H,K0⟩
 ·repeat' (first|refine Wy ?_|fail);(apply CW.bg mixed;(· kernel_rfl);rotate_left;intro w1 aa;replace hw:=Ext.trans hw aa;replace H:=H.ext aa;replace cV:=cV.ext aa;replace K0:=K0.ext aa;clear aa;rotate_right);repeat' (first|refine Wy ?_|(refine CW.eX rfl ?_)|refine SW.st (ay rfl rfl ((fun _ _=>H.cU.cell))) rfl ?_|refine SW.st (ay rfl rfl ((fun _ _=>cV.cell))) rfl ?_|refine SW.cI rfl rfl (fun w1 aa=>(cL _ (H.ls.rd.ext aa))) ?_|exact SW.du rfl)
  clear cL;obtain ⟨eV,oq⟩:=fK hq;simp only [KB] at eV oq;have ey:kp<p.li.n:=by omega
  have uq:kp<p.ls.length:=by omega
  have P0:=H.ls.each.get kp uq eV;have M5:=re _ (List.getElem_mem eV);obtain ⟨y,hy⟩ : ∃ y,p.ls[kp]'uq=y:=⟨_,rfl⟩;obtain ⟨rP,KD⟩ : ∃ rP,L[kp].an=rP:=⟨_,rfl⟩;rw [hy] at P0;have hP:=P0.cb;have pc:=P0.cpu;have pz:=P0.gj;have pt:=P0.ty;rw [KD] at hP M5;clear P0;have Fo:=hP.len;have Ij:=hP.sl.base;have KE:y.an.n-1<y.an.n:=by omega
  have KF:bA L ⟨cpu,(zi:Int),t,[]⟩=rP:=by
   rw [← hx,dY hq (by omega)];simp only [KB,KD]
  have Jk:bA L x=rP:=by rw [hx];exact KF
  have Qe:=hP.le;have e3:(bi (p.ls[kp]'uq))[3]?=some (Value.slice y.an.A y.an.n y.an.c):=by rw [hy];rfl
  have Ea:rP≠[]:=fun e=>by rw [e] at M5;simp at M5
  have xl:=zZ Ea (i:=y.an.n-1) (by omega) (by omega);obtain ⟨a,ha⟩ : ∃ a,rP.getLast Ea=a:=⟨_,rfl⟩;rw [ha] at xl
  have yi:dO m0 m1 cpu zi 0 t f s L (some (s,nJ L x rP,a)):=by
   have:=dO.list (m0:=m0) (m1:=m1) (fl:=f) (s:=s) (o:=0) rfl (show bC L ⟨cpu,(zi:Int),t,[]⟩=true by rw [← hx];exact hq) (by rw [KF];exact Ea)
   simp only [← hx,Jk,ha] at this;exact this
  repeat' (first|refine Wy ?_|refine SW.st (bc (y.an.n-1) rfl rfl (by assumption) (by omega) (by omega)) rfl ?_|refine SW.st (ax rfl (H.cU.cell (i:=3) (v := .slice p.li.A p.li.n p.li.c) rfl)) rfl ?_|refine SW.st (ax rfl (H.ls.row.sl.qV ey (j:=3) e3)) rfl ?_|refine SW.st (ax rfl (hP.sl.one KE (congrArg bB xl.symm))) rfl ?_)
  refine CW.l9 17 17 (fun _=>True) mixed (by kernel_rfl) fun w1 aa bm => ?_
  replace hw:=Ext.trans hw aa;replace H:=H.ext aa;replace hP:=hP.ext aa;replace K0:=K0.ext aa;clear aa;refine SF.take 0 [] [] bm rfl (by kernel_rfl) (by kernel_rfl) (by kernel_rfl) ?_;repeat (refine SW.pure rfl rfl ?_)
  refine SW.ar ?_;refine SF.take 1 [] [] bm rfl (by kernel_rfl) (by kernel_rfl) (by kernel_rfl) ?_;repeat ((show SW _ _ _ _ (⟨_,Op.nilCheck _,_,_,_,none⟩::_) _ _;refine SW.st (bd rfl) rfl ?_))
  refine SW.ar ?_;refine SF.take 2 [] [] bm rfl (by kernel_rfl) (by kernel_rfl) (by kernel_rfl) ?_;repeat ((show SW _ _ _ _ (⟨_,Op.fieldAddr _ _ _,_,_,_,none⟩::_) _ _;refine SW.st (br rfl) rfl ?_))
  refine SW.ar ?_;refine SF.take 3 [] [] bm rfl (by kernel_rfl) (by kernel_rfl) (by kernel_rfl) ?_;repeat ((show SW _ _ _ _ (⟨_,Op.load _ _,_,_,_,none⟩::_) _ _;refine SW.st (ax rfl (H.cU.cell (i:=3) (v := .slice p.li.A p.li.n p.li.c) rfl)) rfl ?_))
  refine SW.ar ?_;refine SF.take 4 [] [] bm rfl (by kernel_rfl) (by kernel_rfl) (by kernel_rfl) ?_;repeat (refine SW.pure rfl rfl ?_)
  refine SW.ar ?_;refine SF.take 5 [] [] bm rfl (by kernel_rfl) (by kernel_rfl) (by kernel_rfl) ?_;repeat (refine SW.pure rfl rfl ?_)
  refine SW.ar ?_;refine SF.take 6 [] [] bm rfl (by kernel_rfl) (by kernel_rfl) (by kernel_rfl) ?_;repeat ((show SW _ _ _ _ (⟨_,Op.nilCheck _,_,_,_,none⟩::_) _ _;refine SW.st (bd rfl) rfl ?_))
  refine SW.ar ?_;refine SF.take 7 [] [] bm rfl (by kernel_rfl) (by kernel_rfl) (by kernel_rfl) ?_;repeat ((show SW _ _ _ _ (⟨_,Op.fieldAddr _ _ _,_,_,_,none⟩::_) _ _;refine SW.st (br rfl) rfl ?_))
  refine SW.ar ?_;refine SF.take 8 [] [] bm rfl (by kernel_rfl) (by kernel_rfl) (by kernel_rfl) ?_;repeat ((show SW _ _ _ _ (⟨_,Op.load _ _,_,_,_,none⟩::_) _ _;refine SW.st (ax rfl (H.cU.cell (i:=3) (v := .slice p.li.A p.li.n p.li.c) rfl)) rfl ?_))
  refine SW.ar ?_;refine SF.take 9 [] [] bm rfl (by kernel_rfl) (by kernel_rfl) (by kernel_rfl) ?_;repeat (refine SW.pure rfl rfl ?_)
  refine SW.ar ?_;refine SF.take 10 [] [] bm rfl (by kernel_rfl) (by kernel_rfl) (by kernel_rfl) ?_;repeat ((show SW _ _ _ _ (⟨_,Op.indexAddr _ _ _,_,_,_,none⟩::_) _ _;refine SW.st (ca rfl rfl (by assumption) (by omega)) rfl ?_))
  refine SW.ar ?_;refine SF.take 11 [] [] bm rfl (by kernel_rfl) (by kernel_rfl) (by kernel_rfl) ?_;repeat ((show SW _ _ _ _ (⟨_,Op.fieldAddr _ _ _,_,_,_,none⟩::_) _ _;refine SW.st (br rfl) rfl ?_))
  refine SW.ar ?_;refine SF.take 12 [] [] bm rfl (by kernel_rfl) (by kernel_rfl) (by kernel_rfl) ?_;repeat ((show SW _ _ _ _ (⟨_,Op.load _ _,_,_,_,none⟩::_) _ _;refine SW.st (ax rfl (H.ls.row.sl.qV ey (j:=3) e3)) rfl ?_))
  refine SW.ar ?_;refine SF.take 13 [] [] bm rfl (by kernel_rfl) (by kernel_rfl) (by kernel_rfl) ?_;repeat (refine SW.pure rfl rfl ?_)
  refine SW.ar ?_;refine SF.take 14 [] [] bm rfl (by kernel_rfl) (by kernel_rfl) (by kernel_rfl) ?_;repeat ((refine SW.st (cG (k:=y.an.n-1) rfl (congrArg (fun z=>some (Value.int .i64 z)) (by omega)) (by omega)) rfl ?_))
  refine SW.ar ?_;refine SF.take 15 [16] [16] bm rfl (by kernel_rfl) (by kernel_rfl) (by kernel_rfl) ?_;repeat ((show SW _ _ _ _ (⟨_,Op.indexAddr _ _ _,_,_,_,none⟩::_) _ _;refine SW.st (ca rfl rfl (by assumption) (by omega)) rfl ?_))
  refine SW.ar ?_;refine SF.take 16 [] [] bm rfl (by kernel_rfl) (by kernel_rfl) (by kernel_rfl) ?_;repeat ((show SW _ _ _ _ (⟨_,Op.fieldAddr _ _ _,_,_,_,none⟩::_) _ _;refine SW.st (br rfl) rfl ?_))
  refine SW.ar ?_;refine SF.last rfl (by kernel_rfl) (by kernel_rfl) ?_;refine SW.jz kp 3 ⟨y.eI,y.ab,y.Ty,⟨y.an.A,y.an.n-1,y.an.c⟩⟩ H.ls.row rfl rfl rfl ey (by decide) rfl (by rw [hy];rfl) fun w6 jL qY => ?_
  have OC:ob (⟨y.eI,y.ab,y.Ty,⟨y.an.A,y.an.n-1,y.an.c⟩⟩ : bO).an=ob (p.ls[kp]'uq).an:=by rw [hy];rfl
  have xj:=hP.pre (i:=y.an.n-1) (by omega);have Qf:rP.take (y.an.n-1)=rP.dropLast:=by rw [List.dropLast_eq_take,Fo]
  rw [Qf] at xj;have H6:=HS.setRow (y:=⟨y.eI,y.ab,y.Ty,⟨y.an.A,y.an.n-1,y.an.c⟩⟩) (l:=dn x rP.dropLast) H uq jL qY ⟨pc.trans oq.1,pz.trans oq.2.1,pt.trans oq.2.2,xj⟩ OC;have K6:kr w k p w6 ⟨p.u0,p.u1,p.li,p.ls.set kp ⟨y.eI,y.ab,y.Ty,⟨y.an.A,y.an.n-1,y.an.c⟩⟩⟩:=K0.step qY (fun i e => .inl (.inr (.inr (.inl e)))) (fun i e => .inl (ED uq OC e))
  by_cases h1:y.an.n=1
  ·have eL:nJ L x rP=(L.set kp (dn x rP.dropLast)).eraseIdx kp:=by rw [zY (by omega),KB,List.eraseIdx_set_eq]
   obtain ⟨p6,OD⟩ : ∃ p6:HP,p6=⟨p.u0,p.u1,p.li,p.ls.set kp ⟨y.eI,y.ab,y.Ty,⟨y.an.A,y.an.n-1,y.an.c⟩⟩⟩:=⟨_,rfl⟩;have OE:p6.li=p.li:=by rw [OD]
   rw [← OD] at H6 K6;have M6:kp<p6.li.n:=by rw [OE];exact ey
   clear hw;have hw:=Ext.refl w6;repeat' (first|refine Wy ?_|refine SW.st (ax rfl (H6.cU.cell (i:=3) (v := .slice p6.li.A p6.li.n p6.li.c) rfl)) rfl ?_)
   refine SW.dy rfl rfl (th p6.li.A p6.li.n p6.li.c wb.heap.size p6.ls _ H6.ls.row kp M6 (by rw [OE];omega) H6.low) fun v w7 M7 => ?_
   obtain ⟨rfl,Qg,M8⟩:=M7;have bP:=H6.cU.au (H6.ls.z6 M8) rfl;repeat' (first|refine Wy ?_|fail);refine SW.bp (i:=3) bP rfl rfl rfl rfl fun w8 bX OF => ?_
   have H8:=HS.Iy H6 Qg M8 bX OF;have K7:=K6.step (p':=p6) M8 (fun i e => .inl (.inr (.inr (.inl e)))) (fun i e => .inl e);have K8:=K7.step OF (fun i e=>by cases e;exact .inl (.inl rfl)) (fun i e => .inl (EE (i:=kp) e));repeat' (first|refine Wy ?_|fail);exact ae.dk rfl rfl rfl ⟨_,rfl,_,yi,rfl,_,by simp only [IC,eL];exact H8,K8⟩
  ·have eL:nJ L x rP=L.set kp (dn x rP.dropLast):=by rw [Ex (by omega),KB]
   repeat' (first|refine Wy ?_|fail);exact ae.dk rfl rfl rfl ⟨_,rfl,_,yi,rfl,_,by simp only [IC,eL];exact H6,K6⟩
open Go.RowKit
theorem kr.Gi {α:Type} {w0 w:World} {k:HK} {p0 p:HP} (h:kr w0 k p0 w p) {lo:Nat} {e:TypeId} {sz:Nat} {enc : α → List Value} {A:Option Addr} {n c:Nat} {l:List α} (hO:Own w0 lo e sz enc A n c l) (hn:∀ g,aG A c=some g → ¬ gz k p0 g) : Own w lo e sz enc A n c l:=by
 have dg:=hO.lt_size;refine ⟨hO.len,?_⟩;rcases hO.row with h1|⟨hc,g,fW,rfl,h1,h2,h3⟩
 ·exact .inl h1
 ·have hg:aG (some (⟨g,0,none⟩ : Addr)) c=some g:=by simp [aG,Nat.pos_iff_ne_zero.1 hc]
  exact .inr ⟨hc,g,fW,rfl,h1,by rw [h.block g (dg g hg) (hn g hg)];exact h2,h3⟩
def Qh (L:List ap) : Option ((ab×ab)×Int)→Option ((ab×ab)×List ap×Int)
 | none=>none
 | some q=>some (q.1,L,q.2)
theorem Hb.sZ {m0 m1 cpu:Int} {s:ab×ab} {zi o t f:Int} {q:Option ((ab×ab)×Int)} {L:List ap} (h:Hb m0 m1 s zi o t f q) (ho : 0<o) : dO m0 m1 cpu zi o t f s L (Qh L q):=by
 have nD : ¬ (o=0∧bC L ⟨cpu,zi,t,[]⟩=true):=fun h=>by omega
 cases h with
 | iw he=>exact .iw nD he
 | none he ht hu=>exact .none nD he ht hu
 | ok he ht hu=>exact .sZ ho he ht hu
theorem pp {m0 m1 cpu o t f:Int} {s:ab×ab} {L:List ap} {zl:List Int} {j:Nat} {r:(ab×ab)×List ap×Int} (hz:(zl=[1,0]∧f % 2=0)∨(zl=[0]∧f % 2=1)) (hj:j<zl.length) (hb:∀ (i:Nat) (h:i<zl.length),i<j→dO m0 m1 cpu zl[i] o t f s L none) (h:dO m0 m1 cpu zl[j] o t f s L (some r)) : ef m0 m1 cpu o t f s L (some r):=by
 rcases hz with ⟨rfl,hf⟩|⟨rfl,hf⟩
 ·have y5:j<2:=hj
  rcases Nat.lt_or_ge j 1 with h1|h1
  ·obtain rfl:j=0:=by omega
   exact .mi hf h
  ·obtain rfl:j=1:=by omega
   exact .low (fun _=>hb 0 (by simp) (by omega)) h
 ·have y5:j<1:=hj
  obtain rfl:j=0:=by omega
  exact .low (fun e=>by omega) h
theorem yj {m0 m1 cpu o t f:Int} {s:ab×ab} {L:List ap} {zl:List Int} (hz:(zl=[1,0]∧f % 2=0)∨(zl=[0]∧f % 2=1)) (hb:∀ (i:Nat) (h:i<zl.length),dO m0 m1 cpu zl[i] o t f s L none) : ef m0 m1 cpu o t f s L none:=by
 rcases hz with ⟨rfl,hf⟩|⟨rfl,hf⟩
 ·exact .low (fun _=>hb 0 (by simp)) (hb 1 (by simp))
 ·exact .low (fun e=>by omega) (hb 0 (by simp))
abbrev Qi (g:Nat) : Option Addr:=some ⟨g,0,none⟩
abbrev Qj (g:Nat) : Option Addr:=if 2=1 then some ⟨g,0,none⟩ else (some (⟨g,0,none⟩ : Addr)).map (·.add (1*1))
set_option maxHeartbeats 4000000 in
theorem qS (k:HK) (p:HP) (s:ab×ab) (L:List ap) (m0 m1 cpu o t f:Int) (wb w:World) (H:HS wb w k p s L) (hO:oV wb) (hM:u9 k.M m0 m1) (hv:VS s) (hs:wc L) (re:∀ l∈L,1≤l.an.length∧l.an.length≤8) (Gb:L.length≤256) (ho : 0≤o∧o≤4) (hf : 0≤f∧f≤15) :
 jr Tryz.prog 153 [.pointer (some ⟨k.b,0,none⟩),.int .i64 cpu,.int .i64 o,.int .i64 t,.int .i64 f] w fun v w' => ∃ q,ef m0 m1 cpu o t f s L q∧v=OA q ∧ ∃ p',HS wb w' k p' (KA s q) (IC L q)∧kr w k p w' p':=by
 refine eG Tryz.func153 rfl Tryz.ntmps153 rfl ?_;have hw:=Ext.refl w;obtain ⟨q1,q2,q4,q8⟩:=qo hf;have KG:∀ i,w.heap.size≤i → ¬ gz k p i:=fun i hi=>H.not hi
 have K0:=kr.refl w k p;refine Wz ?_;refine SW.s9 (enc:=bB) 1 0 rfl rfl rfl rfl rfl rfl fun g w2 qX MR hZ => ?_
 (replace hw:=Ext.trans hw qX;replace H:=H.ext qX;replace K0:=K0.ext qX);have hn:∀ j,aG (some (⟨g,0,none⟩ : Addr)) 2=some j → ¬ gz k p j:=fun j e=>KG j (by simp [aG] at e;omega)
 obtain ⟨lo,gQ⟩ : ∃ lo,w.heap.size=lo:=⟨_,rfl⟩;rw [gQ] at hZ;clear KG gQ;rcases (show f % 2=0∨f % 2=1 by omega) with M9|M9
 ·obtain ⟨zl,zp⟩ : ∃ zl:List Int,zl=[1,0]:=⟨_,rfl⟩;have Gj:(zl=[1,0]∧f % 2=0)∨(zl=[0]∧f % 2=1):=by rw [zp];exact .inl ⟨rfl,M9⟩
  obtain ⟨A,hA⟩ : ∃ A:Option Addr,A=(Qi g):=⟨_,rfl⟩
  have Na:∀ w',Own w' lo 3 1 bB (some ⟨g,0,none⟩) 2 2 [1,0]→Sl w' 1 bB A 2 zl:=fun w' h=>by
   rw [zp,hA]
   first|exact h.sl|exact h.sl.drop 1 2 (by decide) (by decide)
  have Fg:zl.length=2:=by rw [zp];rfl
  have ul:∀ (j:Nat) (hj:j<zl.length),∃ zi:Nat,zl[j]=(zi:Int)∧zi<2:=fun j hj=>by
   rcases Gj with ⟨rfl,_⟩|⟨rfl,_⟩
   ·have y5:j<2:=hj
    rcases Nat.lt_or_ge j 1 with h1|h1
    ·obtain rfl:j=0:=by omega
     exact ⟨1,rfl,by omega⟩
    ·obtain rfl:j=1:=by omega
     exact ⟨0,rfl,by omega⟩
   ·have y5:j<1:=hj
    obtain rfl:j=0:=by omega
    exact ⟨0,rfl,by omega⟩
  repeat' (first|refine Wz ?_|(refine SW.st (rO rfl rfl (by omega) (by decide)) rfl ?_))
  all_goals try omega
  refine CW.loop (fun u:Nat×HP=>[(0,.pointer (some ⟨k.b,0,none⟩)),(1,.int .i64 cpu),(2,.int .i64 o),(3,.int .i64 t),(4,.int .i64 f),(23,.slice A 2 2),(24,.int .i64 ((2:Nat) : Int)),(25,.int .i64 (u.1:Int))])
   (fun u w'=>u.1≤zl.length∧HS wb w' k u.2 s L∧kr w k p w' u.2∧Own w' lo 3 1 bB (some ⟨g,0,none⟩) 2 2 [1,0]∧(∀ j,aG (some (⟨g,0,none⟩ : Addr)) 2=some j → ¬ gz k u.2 j) ∧ ∀ (i:Nat) (h:i<zl.length),i<u.1→dO m0 m1 cpu zl[i] o t f s L none) (fun u=>zl.length-u.1) (0,p)
   ⟨rfl,rfl,rfl,rfl,rfl,by rw [hA];rfl,rfl,rfl,trivial⟩ ⟨by simp,H,K0,hZ,hn,fun i h h'=>by simp at h'⟩ ?_
  clear hw hZ H K0 hn;rintro ⟨j,p6⟩ w' ⟨hj,H,K0,hZ,hn,hb⟩
  simp only at hj H K0 hn hb ⊢;have hw:=Ext.refl w';have hS:=Na _ hZ;have Qk:=hS.base;by_cases dg:j<zl.length
  ·obtain ⟨zi,kf,EF⟩:=ul j dg;have Nb:j<2:=by omega
   have fz:=hS.one Nb (congrArg bB kf);by_cases Ga:o=0
   ·repeat' (first|refine Wz ?_|refine SW.st (ax rfl fz) rfl ?_)
    subst Ga;refine SW.dy rfl rfl (ti k p6 s L m0 m1 cpu zi t f wb _ H hO hM hv hs re Gb EF hf) fun v w5 A4 => ?_
    obtain ⟨q5,hT,rfl,p5,H5,K5⟩:=A4;have IF:=K5.Gi hZ hn;have Bi:∀ i,aG (some (⟨g,0,none⟩ : Addr)) 2=some i → ¬ gz k p5 i:=fun i e=>K5.not (hn i e) (hZ.lt_size i e)
    replace K5:=K0.trans K5;clear hw;have hw:=Ext.refl w5;rw [← kf] at hT;cases q5 with
    | none =>
      repeat' (first|refine Wz ?_|(refine CW.eY rfl ?_))
      exact ae.again (j+1,p5) ⟨rfl,rfl,rfl,rfl,rfl,rfl,rfl,rfl,trivial⟩ (by simp only;omega) ⟨by simp only;omega,H5,K5,IF,Bi,fun i h h'=>by
       by_cases e:i=j
       ·subst e;exact hT
       ·exact hb i h (by simp only at h';omega)⟩
    | some q5 =>
      repeat' (first|refine Wz ?_|(refine CW.eX rfl ?_))
      exact ae.dk rfl rfl rfl ⟨_,rfl,_,pp Gj dg hb hT,rfl,p5,H5,K5⟩
   ·repeat' (first|refine Wz ?_|refine SW.st (ax rfl fz) rfl ?_)
    refine SW.dy rfl rfl (po k p6 s L m0 m1 zi o t f wb _ H (hO.ext H.base) hM hv EF ho hf) fun v w5 A4 => ?_
    obtain ⟨q5,hT,rfl,p5,H5,K5⟩:=A4;have IF:=K5.Gi hZ hn;have Bi:∀ i,aG (some (⟨g,0,none⟩ : Addr)) 2=some i → ¬ gz k p5 i:=fun i e=>K5.not (hn i e) (hZ.lt_size i e)
    replace K5:=K0.trans K5;clear hw;have hw:=Ext.refl w5;have hT:=hT.sZ (cpu:=cpu) (L:=L) (by omega);rw [← kf] at hT;cases q5 with
    | none =>
      repeat' (first|refine Wz ?_|(refine CW.eY rfl ?_))
      exact ae.again (j+1,p5) ⟨rfl,rfl,rfl,rfl,rfl,rfl,rfl,rfl,trivial⟩ (by simp only;omega) ⟨by simp only;omega,H5,K5,IF,Bi,fun i h h'=>by
       by_cases e:i=j
       ·subst e;exact hT
       ·exact hb i h (by simp only at h';omega)⟩
    | some q5 =>
      repeat' (first|refine Wz ?_|(refine CW.eX rfl ?_))
      exact ae.dk rfl rfl rfl ⟨_,rfl,_,pp Gj dg hb hT,rfl,p5,H5,K5⟩
  ·refine Wz ?_;exact ae.dk rfl rfl rfl ⟨_,rfl,none,yj Gj (fun i h=>hb i h (by omega)),rfl,p6,H,K0⟩
 ·obtain ⟨zl,zp⟩ : ∃ zl:List Int,zl=[0]:=⟨_,rfl⟩;have Gj:(zl=[1,0]∧f % 2=0)∨(zl=[0]∧f % 2=1):=by rw [zp];exact .inr ⟨rfl,M9⟩
  obtain ⟨A,hA⟩ : ∃ A:Option Addr,A=(Qj g):=⟨_,rfl⟩
  have Na:∀ w',Own w' lo 3 1 bB (some ⟨g,0,none⟩) 2 2 [1,0]→Sl w' 1 bB A (2-1) zl:=fun w' h=>by
   rw [zp,hA]
   first|exact h.sl|exact h.sl.drop 1 2 (by decide) (by decide)
  have Fg:zl.length=(2-1):=by rw [zp];rfl
  have ul:∀ (j:Nat) (hj:j<zl.length),∃ zi:Nat,zl[j]=(zi:Int)∧zi<2:=fun j hj=>by
   rcases Gj with ⟨rfl,_⟩|⟨rfl,_⟩
   ·have y5:j<2:=hj
    rcases Nat.lt_or_ge j 1 with h1|h1
    ·obtain rfl:j=0:=by omega
     exact ⟨1,rfl,by omega⟩
    ·obtain rfl:j=1:=by omega
     exact ⟨0,rfl,by omega⟩
   ·have y5:j<1:=hj
    obtain rfl:j=0:=by omega
    exact ⟨0,rfl,by omega⟩
  repeat' (first|refine Wz ?_|(refine SW.st (rO rfl rfl (by omega) (by decide)) rfl ?_)|(refine SW.st (aP (k:=1) rfl rfl (by omega) (by omega)) rfl ?_))
  all_goals try omega
  refine CW.loop (fun u:Nat×HP=>[(0,.pointer (some ⟨k.b,0,none⟩)),(1,.int .i64 cpu),(2,.int .i64 o),(3,.int .i64 t),(4,.int .i64 f),(23,.slice A (2-1) (2-1)),(24,.int .i64 (((2-1) : Nat) : Int)),(25,.int .i64 (u.1:Int))])
   (fun u w'=>u.1≤zl.length∧HS wb w' k u.2 s L∧kr w k p w' u.2∧Own w' lo 3 1 bB (some ⟨g,0,none⟩) 2 2 [1,0]∧(∀ j,aG (some (⟨g,0,none⟩ : Addr)) 2=some j → ¬ gz k u.2 j) ∧ ∀ (i:Nat) (h:i<zl.length),i<u.1→dO m0 m1 cpu zl[i] o t f s L none) (fun u=>zl.length-u.1) (0,p)
   ⟨rfl,rfl,rfl,rfl,rfl,by rw [hA];rfl,rfl,rfl,trivial⟩ ⟨by simp,H,K0,hZ,hn,fun i h h'=>by simp at h'⟩ ?_
  clear hw hZ H K0 hn;rintro ⟨j,p6⟩ w' ⟨hj,H,K0,hZ,hn,hb⟩
  simp only at hj H K0 hn hb ⊢;have hw:=Ext.refl w';have hS:=Na _ hZ;have Qk:=hS.base;by_cases dg:j<zl.length
  ·obtain ⟨zi,kf,EF⟩:=ul j dg;have Nb:j<(2-1):=by omega
   have fz:=hS.one Nb (congrArg bB kf);by_cases Ga:o=0
   ·repeat' (first|refine Wz ?_|refine SW.st (ax rfl fz) rfl ?_)
    subst Ga;refine SW.dy rfl rfl (ti k p6 s L m0 m1 cpu zi t f wb _ H hO hM hv hs re Gb EF hf) fun v w5 A4 => ?_
    obtain ⟨q5,hT,rfl,p5,H5,K5⟩:=A4;have IF:=K5.Gi hZ hn;have Bi:∀ i,aG (some (⟨g,0,none⟩ : Addr)) 2=some i → ¬ gz k p5 i:=fun i e=>K5.not (hn i e) (hZ.lt_size i e)
    replace K5:=K0.trans K5;clear hw;have hw:=Ext.refl w5;rw [← kf] at hT;cases q5 with
    | none =>
      repeat' (first|refine Wz ?_|(refine CW.eY rfl ?_))
      exact ae.again (j+1,p5) ⟨rfl,rfl,rfl,rfl,rfl,rfl,rfl,rfl,trivial⟩ (by simp only;omega) ⟨by simp only;omega,H5,K5,IF,Bi,fun i h h'=>by
       by_cases e:i=j
       ·subst e;exact hT
       ·exact hb i h (by simp only at h';omega)⟩
    | some q5 =>
      repeat' (first|refine Wz ?_|(refine CW.eX rfl ?_))
      exact ae.dk rfl rfl rfl ⟨_,rfl,_,pp Gj dg hb hT,rfl,p5,H5,K5⟩
   ·repeat' (first|refine Wz ?_|refine SW.st (ax rfl fz) rfl ?_)
    refine SW.dy rfl rfl (po k p6 s L m0 m1 zi o t f wb _ H (hO.ext H.base) hM hv EF ho hf) fun v w5 A4 => ?_
    obtain ⟨q5,hT,rfl,p5,H5,K5⟩:=A4;have IF:=K5.Gi hZ hn;have Bi:∀ i,aG (some (⟨g,0,none⟩ : Addr)) 2=some i → ¬ gz k p5 i:=fun i e=>K5.not (hn i e) (hZ.lt_size i e)
    replace K5:=K0.trans K5;clear hw;have hw:=Ext.refl w5;have hT:=hT.sZ (cpu:=cpu) (L:=L) (by omega);rw [← kf] at hT;cases q5 with
    | none =>
      repeat' (first|refine Wz ?_|(refine CW.eY rfl ?_))
      exact ae.again (j+1,p5) ⟨rfl,rfl,rfl,rfl,rfl,rfl,rfl,rfl,trivial⟩ (by simp only;omega) ⟨by simp only;omega,H5,K5,IF,Bi,fun i h h'=>by
       by_cases e:i=j
       ·subst e;exact hT
       ·exact hb i h (by simp only at h';omega)⟩
    | some q5 =>
      repeat' (first|refine Wz ?_|(refine CW.eX rfl ?_))
      exact ae.dk rfl rfl rfl ⟨_,rfl,_,pp Gj dg hb hT,rfl,p5,H5,K5⟩
  ·refine Wz ?_;exact ae.dk rfl rfl rfl ⟨_,rfl,none,yj Gj (fun i h=>hb i h (by omega)),rfl,p6,H,K0⟩
end Go.Proofs.YtbidkghlpijecaaGreatDoor
