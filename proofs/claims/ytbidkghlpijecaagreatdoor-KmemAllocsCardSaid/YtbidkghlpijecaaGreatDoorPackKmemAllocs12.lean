/-
  Texts of the claim KmemAllocs, part 12: what its theorem leans on.
-/
import Derived.Test.YtbidkghlpijecaaGreatDoorPackKmemAllocs11
import Derived.Test.YtbidkghlpijecaaGreatDoorPackKmemAllocs9
import Derived.Test.YtbidkghlpijecaaGreatDoorPackKmemAllocs10
import Derived.Test.YtbidkghlpijecaaGreatDoorPackKmemAllocs7
import Derived.Test.YtbidkghlpijecaaGreatDoorPackKmemAllocs2
set_option linter.unusedVariables false
set_option linter.unusedSimpArgs false
namespace Go.Proofs.YtbidkghlpijecaaGreatDoor
open Go.RowKit
theorem CY.split {w:World} {lo:Nat} {r:eB} {h:Heap} (a:CY w lo r h) {z0 z1:ar} (hz:h.aQ=[z0,z1]) : ∃ g c u0 u1 ls,r.aQ=⟨some ⟨g,0,none⟩,2,c⟩∧dT w lo g c u0 u1 (z0,z1)∧cX w lo r.av ls h.av∧pp r.bJ [u0,u1] ls∧rB r.Live [u0,u1]:=by
 obtain ⟨zs,ls,uw,H7,hm,hf⟩:=a.all;have l0:=uw.each.len;rw [hz] at l0;obtain ⟨u0,u1,rfl⟩:=qt (show zs.length=2 from l0);have l1:=uw.row.len;have h0:=uw.each.get 0 (by simp) (by simp [hz]);have h1:=uw.each.get 1 (by simp) (by simp [hz]);simp only [hz] at h0 h1;have hc : 0<r.aQ.c:=by have:=uw.row.le;simp at l1;omega
 obtain ⟨g,rest,hA,fy,_⟩:=uw.row.opened hc;refine ⟨g,r.aQ.c,u0,u1,ls,?_,⟨?_,h0,h1,fy,hc⟩,H7,hm,hf⟩
 ·rw [← hA];have:(2:Nat)=r.aQ.n:=l1
  rw [this]
 ·have:=uw.row
  rw [hA,← l1] at this;exact this
theorem Own.apart {α:Type} {w w':World} {lo:Nat} {e:TypeId} {sz:Nat} {enc : α → List Value} {A:Option Addr} {n c:Nat} {l:List α} (h:Own w lo e sz enc A n c l) {row:Option Nat} (hg:w.grownBy w' row) (hs:∀ g,aU A c=some g→row≠some g) : Own w' lo e sz enc A n c l:=by
 refine h.grown hg ?_;cases e:aU A c with
 | none=>exact .inl rfl
 | some g=>exact .inr (fun e2=>hs g e e2.symm)
theorem dT.Di {w w':World} {lo g c:Nat} {u0 u1:cy} {s:ar×ar} (h:dT w lo g c u0 u1 s) {lv:fF} (hs:rB lv [u0,u1]) (hg:w.grownBy w' (aU lv.A lv.c)) (hG:oa w w' 165) : dT w' lo g c u0 u1 s :=
 ⟨h.row.ay hG rfl,⟨h.z0.from_,h.z0.j6,h.z0.free.apart hg (hs u0 (by simp)),h.z0.types.ay hG rfl⟩,⟨h.z1.from_,h.z1.j6,h.z1.free.apart hg (hs u1 (by simp)),h.z1.types.ay hG rfl⟩,h.zm,h.pos⟩
theorem dT.E7 {w w':World} {lo g c:Nat} {u0 u1:cy} {s:ar×ar} (h:dT w lo g c u0 u1 s) {row:Option Nat} (hg:w.grownBy w' row) (hG:oa w w' 3) (hs:∀ k,row=some k → ∀ u∈[u0,u1],aU u.Types.A u.Types.c≠some k) : dT w' lo g c u0 u1 s :=
 ⟨h.row.ay hG rfl,⟨h.z0.from_,h.z0.j6,h.z0.free.ay hG rfl,h.z0.types.apart hg (fun k e e2=>hs k e2 u0 (by simp) e)⟩,⟨h.z1.from_,h.z1.j6,h.z1.free.ay hG rfl,h.z1.types.apart hg (fun k e e2=>hs k e2 u1 (by simp) e)⟩,h.zm,h.pos⟩
structure Hb (w0:World) (li:fF) (b1:Nat) (o:Option Nat) : Prop where
 out:∀ k,o=some k→k≠b1∧aU li.A li.c≠some k∧k<w0.heap.size
theorem Hb.ne {w0:World} {li:fF} {b1:Nat} {o row:Option Nat} (h:Hb w0 li b1 o) (hr:∀ k,row=some k→k=b1∨aU li.A li.c=some k∨w0.heap.size≤k) : ∀ g,o=some g→row≠some g:=fun g e e2=>by
 obtain ⟨h1,h2,h3⟩:=h.out g e;rcases hr g e2 with h|h|h
 ·exact h1 h
 ·exact h2 h
 ·omega
theorem Own.zn {α:Type} {w0:World} {lo:Nat} {e:TypeId} {sz:Nat} {enc : α → List Value} {A:Option Addr} {n c:Nat} {l:List α} (h:Own w0 lo e sz enc A n c l) {li:fF} {ls:List bM} {L:List aC} {b1:Nat} {cs:List Value} (hl:cX w0 lo li ls L) (hb:aJ w0 b1 41 cs) (h1:Nat.beq 41 e=false) (h2:Nat.beq e 142=false) : Hb w0 li b1 (aU A c) :=
 ⟨fun k hk=>⟨fun e=>h.dm hb h1 (by rw [hk,e]),by
  rcases h.row with ⟨_,rfl⟩|⟨hc,g,gd,rfl,_,hg,_⟩
  ·simp [aU] at hk
  ·simp only [aU,Nat.pos_iff_ne_zero.1 hc,if_false,Option.map_some,Option.some.injEq] at hk;subst hk;exact hl.row.dm (cs:=gd.toList) (by unfold aJ;simpa using hg) h2,h.lt_size k hk⟩⟩
theorem Own.rY {α β:Type} {w0:World} {lo mm:Nat} {e e':TypeId} {sz KT:Nat} {enc : α → List Value} {G0 : β → List Value} {A A':Option Addr} {n n' c c':Nat} {l:List α} {l':List β} (h:Own w0 lo e sz enc A n c l) (h':Own w0 mm e' KT G0 A' n' c' l') (cG:Nat.beq e e'=false) : ∀ k,aU A c=some k→aU A' c'≠some k:=fun k hk=>by
 rcases h.row with ⟨_,rfl⟩|⟨hc,g,gd,rfl,_,hg,_⟩
 ·simp [aU] at hk
 ·simp only [aU,Nat.pos_iff_ne_zero.1 hc,if_false,Option.map_some,Option.some.injEq] at hk;subst hk;exact h'.dm (cs:=gd.toList) (by unfold aJ;simpa using hg) cG
theorem dT.parts {w w':World} {lo g c:Nat} {u0 u1:cy} {s:ar×ar} {row:Option Nat} (h:dT w lo g c u0 u1 s) (hg:w.grownBy w' row) (h0:∀ k,aU (some (⟨g,0,none⟩ : Addr)) c=some k→row≠some k) (h1:∀ k,aU u0.ag.A u0.ag.c=some k→row≠some k) (h2:∀ k,aU u0.Types.A u0.Types.c=some k→row≠some k)
 (h3:∀ k,aU u1.ag.A u1.ag.c=some k→row≠some k) (h4:∀ k,aU u1.Types.A u1.Types.c=some k→row≠some k) : dT w' lo g c u0 u1 s :=
 ⟨h.row.apart hg h0,⟨h.z0.from_,h.z0.j6,h.z0.free.apart hg h1,h.z0.types.apart hg h2⟩,⟨h.z1.from_,h.z1.j6,h.z1.free.apart hg h3,h.z1.types.apart hg h4⟩,h.zm,h.pos⟩
def ob (s:fF) : Option Nat:=aU s.A s.c
def Hc (a b:bM) : Prop := ∀ g,ob a.ax=some g→ob b.ax≠some g
theorem Bu {a b:bM} (h:Hc a b) : Hc b a:=fun g e e2=>h g e2 e
theorem pD {ls:List bM}:yQ ls↔ls.Pairwise Hc:=by
 rw [List.pairwise_iff_getElem];refine ⟨fun h i j hi hj kW g e=>h i j hi hj (by omega) g e,fun h i j hi hj kW g e => ?_⟩;rcases Nat.lt_or_gt_of_ne kW with h1|h1
 ·exact h i j hi hj h1 g e
 ·exact Bu (h j i hj hi h1) g e
structure uy (n:Nat) (li:fF) (ls:List bM) (Em:fF) (vN:List bM) : Prop where
 sep:yQ vN
 of:∀ y∈vN,∀ g,ob y.ax=some g→(∃ x∈ls,ob x.ax=some g)∨n≤g
 row:∀ k,ob Em=some k→ob li=some k∨n≤k
theorem uy.qw {n:Nat} {li:fF} {ls:List bM} {i:Nat} {y:bM} (hs:yQ ls) (de:∀ x∈ls,∀ g,ob x.ax=some g→g<n) (hi:i<ls.length) (hy:∀ g,ob y.ax=some g→ob ls[i].ax=some g∨n≤g) : uy n li ls li (ls.set i y):=by
 refine ⟨fun a b ha hb HX g e e2 => ?_,fun z hz g e => ?_,fun k e => .inl e⟩
 ·simp only [List.length_set] at ha hb
  change ob ((ls.set i y)[a]).ax=some g at e
  change ob ((ls.set i y)[b]).ax=some g at e2
  simp only [List.getElem_set] at e e2;by_cases h1:i=a
  ·rw [if_pos h1] at e;rw [if_neg (by omega)] at e2;rcases hy g e with h|h
   ·subst h1;exact hs _ _ hi hb HX g h e2
   ·have:=de _ (List.getElem_mem hb) g e2;omega
  ·rw [if_neg h1] at e;by_cases h2:i=b
   ·rw [if_pos h2] at e2;rcases hy g e2 with h|h
    ·subst h2;exact hs _ _ ha hi HX g e h
    ·have:=de _ (List.getElem_mem ha) g e;omega
   ·rw [if_neg h2] at e2;exact hs _ _ ha hb HX g e e2
 ·rcases List.mem_or_eq_of_mem_set hz with h|rfl
  ·exact .inl ⟨z,h,e⟩
  ·rcases hy g e with h|h
   ·exact .inl ⟨_,List.getElem_mem hi,h⟩
   ·exact .inr h
theorem uy.ins {n:Nat} {li Em:fF} {ls:List bM} {i:Nat} {y:bM} (hs:yQ ls) (de:∀ x∈ls,∀ g,ob x.ax=some g→g<n) (hy:∀ g,ob y.ax=some g→n≤g) (hr:∀ k,ob Em=some k→ob li=some k∨n≤k) : uy n li ls Em (aV ls i y):=by
 have hm:∀ z,z∈aV ls i y→z∈ls∨z=y:=fun z hz=>by
  unfold aV at hz;rw [List.mem_append,List.mem_append,List.mem_singleton] at hz;rcases hz with (hz|hz)|hz
  ·exact .inl (List.mem_of_mem_take hz)
  ·exact .inr hz
  ·exact .inl (List.mem_of_mem_drop hz)
 refine ⟨?_,fun z hz g e => ?_,hr⟩
 ·have hs:=pD.1 hs;rw [← List.take_append_drop i ls,List.pairwise_append] at hs;obtain ⟨h1,h2,h3⟩:=hs;rw [pD];unfold aV;rw [List.append_assoc,List.pairwise_append];refine ⟨h1,?_,fun a ha b hb => ?_⟩
  ·rw [List.singleton_append,List.pairwise_cons];exact ⟨fun b hb g e e2=>by have:=hy g e;have:=de b (List.mem_of_mem_drop hb) g e2;omega,h2⟩
  ·rw [List.singleton_append,List.mem_cons] at hb;rcases hb with rfl|hb
   ·exact fun g e e2=>by have:=hy g e2;have:=de a (List.mem_of_mem_take ha) g e;omega
   ·exact h3 a ha b hb
 ·rcases hm z hz with h|rfl
  ·exact .inl ⟨z,h,e⟩
  ·exact .inr (hy g e)
theorem SW.wg {α:Type} {P:Program} {n:Nat} {ops:Array Oper} {Q:Exit→Act→World→Prop} {rest:List Oper} {L:Env} {w:World} {dd:Nat} {T:TypeId} {pos:String} {af:Array Edge}
 {lo:Nat} {t e:TypeId} {z:Value} {sz bytes:Nat} {enc : α → List Value} {A X:Option Addr} {k c m c2:Nat} {l ys:List α} [bu P t e sz] [df P e z sz bytes] [fw enc sz] {x y:Operand}
 (hO:Own w lo e sz enc A k c l) (hS:Sl w sz enc X m ys) (fy:lo≤w.heap.size) (r9 : 0<m) (hx:bR L x=some (.slice A k c)) (hy:bR L y=some (.slice X m c2)) (hn:Nat.blt dd n=true)
 (hb:(k+m)*bytes≤140737488355328) (hm:k+m≤9223372036854775807)
 (h:∀ A' c' w',Own w' lo e sz enc A' (k+m) c' (l++ys)→w.grownBy w' (aU A c)→(∀ g,aU A' c'=some g→aU A c=some g∨w.heap.size≤g)→SW P n ops (.ff Q) rest ((dd,.slice A' (k+m) c')::L) w') :
 SW P n ops (.ff Q) (⟨some dd,.call ⟨.builtin .append,#[x,y],#[t,t]⟩,T,pos,af,none⟩::rest) L w:=by
 refine SW.v9 hO hS fy r9 hx hy hn hb hm fun A' c' w' hh => ?_
 rcases hh with ⟨rfl,rfl,h1,h2⟩|⟨h1,h2⟩
 ·exact h _ _ _ h1 h2 (fun g e => .inl e)
 ·exact h _ _ _ (h1.low fy) ⟨h2.os,h2.tape,h2.output,h2.size,fun k hk _=>h2.block k hk (fun e=>by cases e)⟩ (fun g e => .inr (h1.aM g e))
open Go.RowKit
structure FV (F:World→Prop) (w:World) : Prop where
 at_:F w
 all:∀ w w',Ext w w'→F w→F w'
theorem FV.ext {F:World→Prop} {w w':World} (h:FV F w) (hx:Ext w w') : FV F w':=⟨h.all _ _ hx h.at_,h.all⟩
theorem FV.to {F:World→Prop} {w w':World} (h:FV F w) (hf:F w') : FV F w':=⟨hf,h.all⟩
theorem eA.aV {α β:Type} {R : α → β → Prop} {xs:List α} {ys:List β} (h:eA R xs ys) {i:Nat} (hi:i≤xs.length) {x : α} {y : β} (hr:R x y) : eA R (aV xs i x) (aV ys i y):=by
 have hl:=h.len;refine ⟨by rw [du _ hi,du _ (by omega),hl],fun k h1 h2 => ?_⟩
 have k6:∀ {γ:Type} (zs:List γ) (z : γ) (k:Nat) (hk:k<(Proofs.YtbidkghlpijecaaGreatDoor.aV zs i z).length) (u : γ),(Proofs.YtbidkghlpijecaaGreatDoor.aV zs i z)[k]?=some u→(Proofs.YtbidkghlpijecaaGreatDoor.aV zs i z)[k]=u:=fun zs z k hk u hu=>by
  rw [List.getElem?_eq_getElem hk] at hu;exact Option.some.inj hu
 rw [du _ hi] at h1;rcases Nat.lt_trichotomy k i with e|e|e
 ·rw [k6 xs x k _ (xs[k]'(by omega)) (by rw [sV hi e,List.getElem?_eq_getElem]),k6 ys y k _ (ys[k]'(by omega)) (by rw [sV (by omega) e,List.getElem?_eq_getElem])];exact h.get k (by omega) (by omega)
 ·subst e;rw [k6 xs x k _ x (kd hi),k6 ys y k _ y (kd (by omega))];exact hr
 ·obtain ⟨j,rfl⟩ : ∃ j,k=j+1:=⟨k-1,by omega⟩;rw [k6 xs x (j+1) _ (xs[j]'(by omega)) (by rw [pu hi (by omega),List.getElem?_eq_getElem]),k6 ys y (j+1) _ (ys[j]'(by omega)) (by rw [pu (by omega) (by omega),List.getElem?_eq_getElem])];exact h.get j (by omega) (by omega)
theorem eA.setAt {α β:Type} {R R' : α → β → Prop} {xs:List α} {ys:List β} (h:eA R xs ys) {i:Nat} {x : α} {y : β} (hr:R' x y) (ho:∀ (k:Nat) (h1:k<xs.length) (h2:k<ys.length),k≠i→R xs[k] ys[k]→R' xs[k] ys[k]) : eA R' (xs.set i x) (ys.set i y):=by
 refine ⟨by simp [h.len],fun k h1 h2 => ?_⟩;simp only [List.length_set] at h1 h2;rw [List.getElem_set,List.getElem_set];by_cases e:i=k
 ·rw [if_pos e,if_pos e];exact hr
 ·rw [if_neg e,if_neg e];exact ho k h1 h2 (fun h=>e h.symm) (h.get k h1 h2)
structure xI (n:Nat) (w:World) (lo:Nat) (F:World→Prop) (L:List aC) (x:aC) (p:Int) (Kf:fF) (Bv:List bM) (L1:List aC) : Prop where
 own:cX w lo Kf Bv L1
 lt:aZ L x<L1.length
 qw:L1.set (aZ L x) ⟨x.dO,x.ar,x.Ty,L1[aZ L x].ax++[p]⟩=jB L ⟨x.dO,x.ar,x.Ty,dD L x++[p]⟩
 key:dl L1[aZ L x] x
 sep:∀ (j:Nat) (hk:aZ L x<Bv.length) (hj:j<Bv.length),j≠aZ L x → ∀ g,aU Bv[aZ L x].ax.A Bv[aZ L x].ax.c=some g→aU Bv[j].ax.A Bv[j].ax.c≠some g
 Ln:∀ (hk:aZ L x<Bv.length) (w w':World),w.grownBy w' (aU Bv[aZ L x].ax.A Bv[aZ L x].ax.c)→F w→F w'
 small:L1[aZ L x].ax.length≤1000
 size:n≤w.heap.size
theorem xI.ext {n:Nat} {w w':World} {lo:Nat} {F:World→Prop} {L:List aC} {x:aC} {p:Int} {Kf:fF} {Bv:List bM} {L1:List aC} (h:xI n w lo F L x p Kf Bv L1) (hx:Ext w w') : xI n w' lo F L x p Kf Bv L1 :=
 ⟨h.own.ext hx,h.lt,h.qw,h.key,h.sep,h.Ln,h.small,Nat.le_trans h.size hx.size⟩
set_option maxHeartbeats 8000000 in
theorem Dj (Z m:fF) (cp:Int) (li lv:fF) (L:List aC) (ls:List bM) (x:aC) (y:bM) (p:Int) (F:World→Prop) (b1:Nat) (w w0:World) (hw:Ext w w0) (Ek:w.heap.size≤b1) (aB:aJ w0 b1 41 (bm ⟨Z,m,cp,li,lv⟩)) (hl:cX w0 w.heap.size li ls L) (hk:te y x) (Kg:y.ax = .nil) (Kh:x.ax=[])
 (Hd:yQ ls) (hs:rT L) (hn:(li.n+1)*48≤140737488355328) (Dk:∀ l∈L,l.ax.length≤1000) (oe:FV F w0) (He:∀ (w w':World) (row:Option Nat),w.grownBy w' row→(∀ k,row=some k→k=b1∨aU li.A li.c=some k∨w0.heap.size≤k)→F w→F w')
 (Lo:∀ (i:Nat) (hi:i<ls.length) (w w':World),w.grownBy w' (aU ls[i].ax.A ls[i].ax.c)→F w→F w') :
 gX Tryz.prog 112 [.pointer (some ⟨b1,0,none⟩),.agg (bq y).toArray,.int .i64 p] w0 fun v w'=>Ext w w'∧F w' ∧ ∃ Em vN,aJ w' b1 41 (bm ⟨Z,m,cp,Em,lv⟩)∧cX w' w.heap.size Em vN (jB L ⟨x.dO,x.ar,x.Ty,dD L x++[p]⟩)∧uy w0.heap.size li ls Em vN:=by
 refine dB Tryz.func112 rfl Tryz.ntmps112 rfl ?_;have Oa:dl x ⟨x.dO,x.ar,x.Ty,dD L x++[p]⟩:=⟨rfl,rfl,rfl⟩
 obtain ⟨MF,MG⟩:=ju (L:=L) Oa;refine CW.seq (CW.region (SW.box rfl rfl fun b4 w1 aj mA bZ => ?_));have mP:w.heap.size≤b4:=Nat.le_trans hw.size mA
 have I3:=hl.row.lt_size
 have I4:∀ z∈ls,∀ g,ob z.ax=some g→g<w0.heap.size:=fun z hz g e=>by
  obtain ⟨j,hj,rfl⟩:=List.getElem_of_mem hz;exact (hl.each.get j hj (by rw [← hl.each.len];exact hj)).bL.lt_size g e
 (replace hw:=Ext.trans hw aj;replace aB:=aB.ext aj;replace hl:=hl.ext aj;replace oe:=oe.ext aj);obtain ⟨l1,l2⟩:=hl.rd.len;obtain ⟨q,hq⟩ : ∃ q,bV L x=q:=⟨_,rfl⟩
 have cL:∀ w',sv w' li ls L→bo Tryz.prog 113 [.agg (bm ⟨Z,m,cp,li,lv⟩).toArray,.agg (bq y).toArray] w' fun v _=>v = .tuple #[.int .i64 (aZ L x:Int),.bool q]:=fun w' h=>by
  have:=u7 ⟨Z,m,cp,li,lv⟩ L ls x y w' h hk (by simp only;omega)
  rwa [hq] at this
 cases q
 ·have dk:=fK L x;have Lp:aZ L x≤ls.length:=by omega
  refine Wz ?_;(apply CW.aP mixed;(· kernel_rfl);rotate_left;intro w1 ab;replace hw:=Ext.trans hw ab;replace aB:=aB.ext ab;replace bZ:=bZ.ext ab;replace hl:=hl.ext ab;replace oe:=oe.ext ab;clear ab;rotate_right);repeat' (first|refine Wz ?_|(refine CW.bO rfl ?_)|refine SW.br rfl rfl (fun w1 ab=>(cL _ (hl.rd.ext ab))) ?_|exact SW.bx rfl)
  clear cL;obtain ⟨yc,yz,yt,yp⟩:=y;simp only at Kg;subst Kg;refine SW.bA (i:=3) bZ rfl rfl rfl rfl fun w3 rF vv => ?_
  replace hw:=hw.own mP vv;replace aB:=aB.ay (bZ.gr vv) rfl;have Ob:=He _ _ _ vv (fun k e=>by cases e;exact .inr (.inr mA)) oe.at_;replace oe:=oe.to Ob;replace hl:cX w3 w.heap.size li ls L:=⟨hl.row.grown vv (.inr (fun e=>by have:=I3 _ e;omega)),hl.each.mono fun _ _ h=>h.ay (bZ.gr vv) rfl⟩;replace bZ:aJ w3 b4 142 (bq ⟨yc,yz,yt,.nil⟩):=rF;clear rF;refine Wz ?_;have FW:=hl.row.sl.base;refine CW.iS 8 11 (fun _=>True) mixed (by kernel_rfl) fun w1 ab aG => ?_
  replace hw:=Ext.trans hw ab;replace aB:=aB.ext ab;replace bZ:=bZ.ext ab;replace hl:=hl.ext ab;replace oe:=oe.ext ab;clear ab;refine SF.dK 0 [] aG rfl (by kernel_rfl) (by kernel_rfl) (by kernel_rfl) (ba rfl) (fun w2 hS=>ba rfl) rfl ?_;refine SF.take 1 [4,3,2] [] aG rfl (by kernel_rfl) (by kernel_rfl) (by kernel_rfl) ?_;repeat (refine SW.pure rfl rfl ?_)
  refine SW.ah ?_;refine SF.take 2 [4,3] [] aG rfl (by kernel_rfl) (by kernel_rfl) (by kernel_rfl) ?_;repeat ((show SW _ _ _ _ (⟨_,Op.nilCheck _,_,_,_,none⟩::_) _ _;refine SW.st (aK rfl) rfl ?_))
  refine SW.ah ?_;refine SF.take 3 [4] [] aG rfl (by kernel_rfl) (by kernel_rfl) (by kernel_rfl) ?_;repeat ((show SW _ _ _ _ (⟨_,Op.fieldAddr _ _ _,_,_,_,none⟩::_) _ _;refine SW.st (aD rfl) rfl ?_))
  refine SW.ah ?_;refine SF.take 4 [] [] aG rfl (by kernel_rfl) (by kernel_rfl) (by kernel_rfl) ?_;repeat ((show SW _ _ _ _ (⟨_,Op.load _ _,_,_,_,none⟩::_) _ _;refine SW.st (ao rfl (aB.cell (i:=3) (v := .slice li.A li.n li.c) rfl)) rfl ?_))
  refine SW.ah ?_;refine SF.take 5 [] [] aG rfl (by kernel_rfl) (by kernel_rfl) (by kernel_rfl) ?_;repeat (refine SW.pure rfl rfl ?_)
  refine SW.ah ?_;refine SF.take 6 [7] [] aG rfl (by kernel_rfl) (by kernel_rfl) (by kernel_rfl) ?_;repeat ((show SW _ _ _ _ (⟨_,Op.load _ _,_,_,_,none⟩::_) _ _;refine SW.st (aW rfl rfl ((fun _ _=>bZ.cell))) rfl ?_))
  refine SW.ah ?_;refine SF.one 7 rfl (by kernel_rfl) rfl ?_;refine SW.bK rfl rfl rfl rfl rfl fun b w4 aj hb hB => ?_
  have xJ:w0.heap.size≤w4.heap.size:=Nat.le_trans (Nat.le_of_lt (Nat.lt_of_le_of_lt mA bZ.lt)) aj.size
  have m9:aU li.A li.c≠some b:=fun e=>by have:=hl.row.lt_size _ e;omega
  (replace hw:=Ext.trans hw aj;replace aB:=aB.ext aj;replace hl:=hl.ext aj;replace oe:=oe.ext aj);refine SW.nil (ae.sf aj ?_);refine SF.turn rfl (by kernel_rfl) rfl ?_;refine SW.da rfl rfl (tz li.A li.n li.c w.heap.size ls _ hl.row (aZ L x) (by omega) ⟨yc,yz,yt,.nil⟩ b hB m9 hn hw.size) fun v w5 hv => ?_
  obtain ⟨A2,c2,rfl,gB,hg,kU⟩:=hv;have hG:=hl.row.gr hg;have hS:True:=trivial
  replace hw:=aF hw hg (Nat.le_refl _) hl.row.aM;have I5:=He _ _ _ hg (fun k e => .inr (.inl e)) oe.at_;replace oe:=oe.to I5;replace aB:=aB.ay hG rfl;have Bw:=(hl.each.mono fun _ _ h=>h.ay hG rfl).aV (i:=aZ L x) (x:=⟨yc,yz,yt,.nil⟩) (y:=⟨x.dO,x.ar,x.Ty,[]⟩) (by omega) ⟨hk.1,hk.2.1,hk.2.2,Own.eJ _ _ _ _ _ _⟩;refine SW.nil (ae.sg hS ?_);refine SG.one 9 rfl (by kernel_rfl) rfl ?_;repeat ((show SW _ _ _ _ (⟨_,Op.nilCheck _,_,_,_,none⟩::_) _ _;refine SW.st (aK rfl) rfl ?_))
  refine SW.nil (ae.sg hS ?_);refine SG.one 10 rfl (by kernel_rfl) rfl ?_;repeat ((show SW _ _ _ _ (⟨_,Op.fieldAddr _ _ _,_,_,_,none⟩::_) _ _;refine SW.st (aD rfl) rfl ?_))
  refine SW.nil (ae.sg hS ?_);refine SG.last rfl (by kernel_rfl) (by kernel_rfl) ?_;refine SW.bA (i:=3) aB rfl rfl rfl rfl fun w6 px wL => ?_
  have En:=aB.gr wL;have Lq:w0.heap.size≤w6.heap.size:=Nat.le_trans xJ (Nat.le_trans hg.size wL.size)
  have I6:=kU;replace hw:=hw.own Ek wL;have I7:=He _ _ _ wL (fun k e=>by cases e;exact .inl rfl) oe.at_;replace oe:=oe.to I7;replace gB:=gB.ay En rfl;replace Bw:=Bw.mono fun _ _ h=>h.ay En rfl
  replace aB:aJ w6 b1 41 (bm ⟨Z,m,cp,⟨A2,li.n+1,c2⟩,lv⟩):=px;clear px
  have k6:∀ h:aZ L x<(aV L (aZ L x) (⟨x.dO,x.ar,x.Ty,[]⟩ : aC)).length,(aV L (aZ L x) (⟨x.dO,x.ar,x.Ty,[]⟩ : aC))[aZ L x]=⟨x.dO,x.ar,x.Ty,[]⟩:=fun h=>by
   have:=kd (x:=(⟨x.dO,x.ar,x.Ty,[]⟩ : aC)) dk
   rw [List.getElem?_eq_getElem h] at this;exact Option.some.inj this
  have Dl:∀ h:aZ L x<(aV ls (aZ L x) (⟨yc,yz,yt,.nil⟩ : bM)).length,(aV ls (aZ L x) (⟨yc,yz,yt,.nil⟩ : bM))[aZ L x]=⟨yc,yz,yt,.nil⟩:=fun h=>by
   have:=kd (l:=ls) (i:=aZ L x) (x:=(⟨yc,yz,yt,.nil⟩ : bM)) (by omega)
   rw [List.getElem?_eq_getElem h] at this;exact Option.some.inj this
  have E8:aZ L x<(aV L (aZ L x) (⟨x.dO,x.ar,x.Ty,[]⟩ : aC)).length:=by rw [du _ dk];omega
  have hR:xI w0.heap.size w6 w.heap.size F L x p ⟨A2,li.n+1,c2⟩ (aV ls (aZ L x) ⟨yc,yz,yt,.nil⟩) (aV L (aZ L x) ⟨x.dO,x.ar,x.Ty,[]⟩):=by
   refine ⟨⟨gB,Bw⟩,E8,?_,?_,fun j h1 h2 lg g e => ?_,fun h1 w w' hg => ?_,?_,Lq⟩
   ·rw [k6 E8,qp dk,oF (by rw [← MG];exact hq),← MF,lB hq]
   ·rw [k6 E8];exact ⟨rfl,rfl,rfl⟩
   ·rw [Dl h1] at e;cases e
   ·rw [Dl h1] at hg;exact oe.all _ _ (aF (Ext.refl w) hg (Nat.le_refl _) (fun k e=>by cases e))
   ·rw [k6 E8];simp
  clear Bw gB hl bZ;refine Wz ?_;have hA:=hR.own.row.sl.base;have cb:aZ L x<(li.n+1):=by have:=hR.own.rd.len;have:=hR.lt;omega
  have nF:aZ L x<((aV ls (aZ L x) (⟨yc,yz,yt,.nil⟩ : bM))).length:=by have:=hR.own.rd.len;have:=hR.lt;omega
  have de:=hR.lt;have G1:=hR.small;refine CW.iS 15 18 (fun w2=>aJ w2 b1 41 (bm ⟨Z,m,cp,⟨A2,li.n+1,c2⟩,lv⟩)) mixed (by kernel_rfl) fun w1 ab aG => ?_
  replace hw:=Ext.trans hw ab;replace aB:=aB.ext ab;replace hR:=hR.ext ab;replace oe:=oe.ext ab;clear ab;refine SF.dK 0 [] aG rfl (by kernel_rfl) (by kernel_rfl) (by kernel_rfl) (ba rfl) (fun w2 hS=>ba rfl) rfl ?_;refine SF.dK 1 [] aG rfl (by kernel_rfl) (by kernel_rfl) (by kernel_rfl) (aK rfl) (fun w2 hS=>aK rfl) rfl ?_;refine SF.dK 2 [] aG rfl (by kernel_rfl) (by kernel_rfl) (by kernel_rfl) (aD rfl) (fun w2 hS=>aD rfl) rfl ?_;refine SF.dK 3 [] aG rfl (by kernel_rfl) (by kernel_rfl) (by kernel_rfl) (ao rfl (aB.cell (i:=3) (v := .slice A2 (li.n+1) c2) rfl)) (fun w2 hS=>ao rfl (hS.cell (i:=3) (v := .slice A2 (li.n+1) c2) rfl)) rfl ?_;refine SF.dK 4 [] aG rfl (by kernel_rfl) (by kernel_rfl) (by kernel_rfl) (ba rfl) (fun w2 hS=>ba rfl) rfl ?_;refine SF.take 5 [12,11,10,8,7,6] [] aG rfl (by kernel_rfl) (by kernel_rfl) (by kernel_rfl) ?_;repeat (refine SW.pure rfl rfl ?_)
  refine SW.ah ?_;refine SF.take 6 [12,11,10,8,7] [] aG rfl (by kernel_rfl) (by kernel_rfl) (by kernel_rfl) ?_;repeat ((show SW _ _ _ _ (⟨_,Op.nilCheck _,_,_,_,none⟩::_) _ _;refine SW.st (aK rfl) rfl ?_))
  refine SW.ah ?_;refine SF.take 7 [12,11,10,8] [] aG rfl (by kernel_rfl) (by kernel_rfl) (by kernel_rfl) ?_;repeat ((show SW _ _ _ _ (⟨_,Op.fieldAddr _ _ _,_,_,_,none⟩::_) _ _;refine SW.st (aD rfl) rfl ?_))
  refine SW.ah ?_;refine SF.take 8 [12,11,10] [] aG rfl (by kernel_rfl) (by kernel_rfl) (by kernel_rfl) ?_;repeat ((show SW _ _ _ _ (⟨_,Op.load _ _,_,_,_,none⟩::_) _ _;refine SW.st (ao rfl (aB.cell (i:=3) (v := .slice A2 (li.n+1) c2) rfl)) rfl ?_))
  refine SW.ah ?_;refine SF.take 9 [12,11,10] [] aG rfl (by kernel_rfl) (by kernel_rfl) (by kernel_rfl) ?_;repeat (refine SW.pure rfl rfl ?_)
  refine SW.ah ?_;refine SF.take 10 [12,11] [] aG rfl (by kernel_rfl) (by kernel_rfl) (by kernel_rfl) ?_;repeat ((show SW _ _ _ _ (⟨_,Op.indexAddr _ _ _,_,_,_,none⟩::_) _ _;refine SW.st (bj rfl rfl (by assumption) (by omega)) rfl ?_))
  refine SW.ah ?_;refine SF.take 11 [12] [] aG rfl (by kernel_rfl) (by kernel_rfl) (by kernel_rfl) ?_;repeat ((show SW _ _ _ _ (⟨_,Op.fieldAddr _ _ _,_,_,_,none⟩::_) _ _;refine SW.st (aD rfl) rfl ?_))
  refine SW.ah ?_;refine SF.take 12 [] [] aG rfl (by kernel_rfl) (by kernel_rfl) (by kernel_rfl) ?_;repeat ((show SW _ _ _ _ (⟨_,Op.load _ _,_,_,_,none⟩::_) _ _;refine SW.st (ao rfl (hR.own.row.sl.dA cb (j:=3) (u := .slice ((aV ls (aZ L x) (⟨yc,yz,yt,.nil⟩ : bM)))[aZ L x].ax.A ((aV ls (aZ L x) (⟨yc,yz,yt,.nil⟩ : bM)))[aZ L x].ax.n ((aV ls (aZ L x) (⟨yc,yz,yt,.nil⟩ : bM)))[aZ L x].ax.c) rfl)) rfl ?_))
  refine SW.ah ?_;refine SF.take 13 [14] [] aG rfl (by kernel_rfl) (by kernel_rfl) (by kernel_rfl) ?_;repeat (refine SW.pure rfl rfl ?_)
  refine SW.ah ?_;refine SF.one 14 rfl (by kernel_rfl) rfl ?_;refine SW.bK rfl rfl rfl rfl rfl fun b w4 aj hb hB => ?_
  (replace hw:=Ext.trans hw aj;replace aB:=aB.ext aj;replace hR:=hR.ext aj;replace oe:=oe.ext aj);have Hf:w0.heap.size≤w4.heap.size:=hR.size
  refine SW.nil (ae.sf aj ?_);refine SF.turn rfl (by kernel_rfl) rfl ?_;have E9:=hR.own.each.get (aZ L x) nF de;have Av:=E9.bL;have tg:=Av.sl.len;refine SW.wg Av (aJ.mo (enc:=bd) hB) hw.size (by decide) rfl rfl rfl (by omega) (by omega) fun A3 c3 w5 fU hg Dm => ?_
  have hS:=aB.ay (Av.gr hg) rfl;have dw:=hR.own.row.ay (Av.gr hg) rfl;have I5:=hR.Ln nF _ _ hg oe.at_;replace hw:=aF hw hg (Nat.le_refl _) Av.aM;refine SW.nil (ae.sg hS ?_);refine SG.one 16 rfl (by kernel_rfl) rfl ?_;repeat ((show SW _ _ _ _ (⟨_,Op.indexAddr _ _ _,_,_,_,none⟩::_) _ _;refine SW.st (bj rfl rfl (by assumption) (by omega)) rfl ?_))
  refine SW.nil (ae.sg hS ?_);refine SG.one 17 rfl (by kernel_rfl) rfl ?_;repeat ((show SW _ _ _ _ (⟨_,Op.fieldAddr _ _ _,_,_,_,none⟩::_) _ _;refine SW.st (aD rfl) rfl ?_))
  refine SW.nil (ae.sg hS ?_);refine SG.last rfl (by kernel_rfl) (by kernel_rfl) ?_;refine SW.gR (aZ L x) 3 ⟨((aV ls (aZ L x) (⟨yc,yz,yt,.nil⟩ : bM)))[aZ L x].dO,((aV ls (aZ L x) (⟨yc,yz,yt,.nil⟩ : bM)))[aZ L x].ar,((aV ls (aZ L x) (⟨yc,yz,yt,.nil⟩ : bM)))[aZ L x].Ty,⟨A3,((aV ls (aZ L x) (⟨yc,yz,yt,.nil⟩ : bM)))[aZ L x].ax.n+1,c3⟩⟩ dw rfl rfl rfl cb (by decide) rfl rfl fun w6 fL wL => ?_
  have En:=dw.gr wL;have I7:=He _ _ _ wL (fun k e=>by rcases kU k e with h|h;exact .inr (.inl h);exact .inr (.inr (Nat.le_trans xJ h))) I5;replace hw:=aF hw wL (Nat.le_refl _) dw.aM;refine Wz ?_;refine ae.yH rfl ⟨_,rfl,hw,I7,⟨A2,li.n+1,c2⟩,((aV ls (aZ L x) (⟨yc,yz,yt,.nil⟩ : bM))).set (aZ L x) ⟨((aV ls (aZ L x) (⟨yc,yz,yt,.nil⟩ : bM)))[aZ L x].dO,((aV ls (aZ L x) (⟨yc,yz,yt,.nil⟩ : bM)))[aZ L x].ar,((aV ls (aZ L x) (⟨yc,yz,yt,.nil⟩ : bM)))[aZ L x].Ty,⟨A3,((aV ls (aZ L x) (⟨yc,yz,yt,.nil⟩ : bM)))[aZ L x].ax.n+1,c3⟩⟩,hS.ay (b:=b1) (t':=41) En rfl,?_⟩
  have Lr:uy w0.heap.size li ls ⟨A2,li.n+1,c2⟩ ((aV ls (aZ L x) (⟨yc,yz,yt,.nil⟩ : bM)).set (aZ L x) ⟨((aV ls (aZ L x) (⟨yc,yz,yt,.nil⟩ : bM)))[aZ L x].dO,((aV ls (aZ L x) (⟨yc,yz,yt,.nil⟩ : bM)))[aZ L x].ar,((aV ls (aZ L x) (⟨yc,yz,yt,.nil⟩ : bM)))[aZ L x].Ty,⟨A3,((aV ls (aZ L x) (⟨yc,yz,yt,.nil⟩ : bM)))[aZ L x].ax.n+1,c3⟩⟩):=by
   rw [qp Lp];refine uy.ins Hd I4 (fun g e => ?_) (fun k e=>(I6 k e).imp id (fun h=>Nat.le_trans xJ h));rcases Dm g e with h|h
   ·rw [Dl nF] at h;cases h
   ·exact Nat.le_trans Hf h
  refine ⟨?_,Lr⟩;rw [← hR.qw];refine ⟨fL,eA.setAt (R:=ky _ w.heap.size) hR.own.each ⟨E9.cpu.trans hR.key.1,E9.fu.trans hR.key.2.1,E9.ty.trans hR.key.2.2,fU.ay En rfl⟩ fun j h1 h2 lg ho=>⟨ho.cpu,ho.fu,ho.ty,?_⟩⟩;refine (ho.bL.grown hg ?_).ay En rfl;cases eo:aU ((aV ls (aZ L x) (⟨yc,yz,yt,.nil⟩ : bM)))[j].ax.A ((aV ls (aZ L x) (⟨yc,yz,yt,.nil⟩ : bM)))[j].ax.c with
  | none=>exact .inl rfl
  | some g =>
    right;intro e;exact hR.sep j nF h1 lg g e.symm eo
 ·obtain ⟨dk,ma⟩:=jk hq;refine Wz ?_;(apply CW.aP mixed;(· kernel_rfl);rotate_left;intro w1 ab;replace hw:=Ext.trans hw ab;replace aB:=aB.ext ab;replace bZ:=bZ.ext ab;replace hl:=hl.ext ab;replace oe:=oe.ext ab;clear ab;rotate_right);repeat' (first|refine Wz ?_|(refine CW.bB rfl ?_)|refine SW.br rfl rfl (fun w1 ab=>(cL _ (hl.rd.ext ab))) ?_|exact SW.bx rfl)
  clear cL;have xJ:=Nat.le_trans mA (Nat.le_of_lt bZ.lt);have hR:=(⟨hl,dk,by rw [oE (by rw [← MG];exact hq),← MF,iX hq dk],ma,fun j h1 h2 lg g e=>Hd _ _ h1 h2 (Ne.symm lg) g e,fun h1 w w' hg=>Lo _ h1 w w' hg,Dk _ (List.getElem_mem dk),xJ⟩ : xI w0.heap.size _ w.heap.size F L x p li ls L);clear hl;have hA:=hR.own.row.sl.base;have cb:aZ L x<li.n:=by have:=hR.own.rd.len;have:=hR.lt;omega
  have nF:aZ L x<(ls).length:=by have:=hR.own.rd.len;have:=hR.lt;omega
  have de:=hR.lt;have G1:=hR.small;refine CW.iS 15 18 (fun w2=>aJ w2 b1 41 (bm ⟨Z,m,cp,li,lv⟩)) mixed (by kernel_rfl) fun w1 ab aG => ?_
  replace hw:=Ext.trans hw ab;replace aB:=aB.ext ab;replace hR:=hR.ext ab;replace oe:=oe.ext ab;clear ab;refine SF.dK 0 [] aG rfl (by kernel_rfl) (by kernel_rfl) (by kernel_rfl) (ba rfl) (fun w2 hS=>ba rfl) rfl ?_;refine SF.dK 1 [] aG rfl (by kernel_rfl) (by kernel_rfl) (by kernel_rfl) (aK rfl) (fun w2 hS=>aK rfl) rfl ?_;refine SF.dK 2 [] aG rfl (by kernel_rfl) (by kernel_rfl) (by kernel_rfl) (aD rfl) (fun w2 hS=>aD rfl) rfl ?_;refine SF.dK 3 [] aG rfl (by kernel_rfl) (by kernel_rfl) (by kernel_rfl) (ao rfl (aB.cell (i:=3) (v := .slice li.A li.n li.c) rfl)) (fun w2 hS=>ao rfl (hS.cell (i:=3) (v := .slice li.A li.n li.c) rfl)) rfl ?_;refine SF.dK 4 [] aG rfl (by kernel_rfl) (by kernel_rfl) (by kernel_rfl) (ba rfl) (fun w2 hS=>ba rfl) rfl ?_;refine SF.take 5 [12,11,10,8,7,6] [] aG rfl (by kernel_rfl) (by kernel_rfl) (by kernel_rfl) ?_;repeat (refine SW.pure rfl rfl ?_)
  refine SW.ah ?_;refine SF.take 6 [12,11,10,8,7] [] aG rfl (by kernel_rfl) (by kernel_rfl) (by kernel_rfl) ?_;repeat ((show SW _ _ _ _ (⟨_,Op.nilCheck _,_,_,_,none⟩::_) _ _;refine SW.st (aK rfl) rfl ?_))
  refine SW.ah ?_;refine SF.take 7 [12,11,10,8] [] aG rfl (by kernel_rfl) (by kernel_rfl) (by kernel_rfl) ?_;repeat ((show SW _ _ _ _ (⟨_,Op.fieldAddr _ _ _,_,_,_,none⟩::_) _ _;refine SW.st (aD rfl) rfl ?_))
  refine SW.ah ?_;refine SF.take 8 [12,11,10] [] aG rfl (by kernel_rfl) (by kernel_rfl) (by kernel_rfl) ?_;repeat ((show SW _ _ _ _ (⟨_,Op.load _ _,_,_,_,none⟩::_) _ _;refine SW.st (ao rfl (aB.cell (i:=3) (v := .slice li.A li.n li.c) rfl)) rfl ?_))
  refine SW.ah ?_;refine SF.take 9 [12,11,10] [] aG rfl (by kernel_rfl) (by kernel_rfl) (by kernel_rfl) ?_;repeat (refine SW.pure rfl rfl ?_)
  refine SW.ah ?_;refine SF.take 10 [12,11] [] aG rfl (by kernel_rfl) (by kernel_rfl) (by kernel_rfl) ?_;repeat ((show SW _ _ _ _ (⟨_,Op.indexAddr _ _ _,_,_,_,none⟩::_) _ _;refine SW.st (bj rfl rfl (by assumption) (by omega)) rfl ?_))
  refine SW.ah ?_;refine SF.take 11 [12] [] aG rfl (by kernel_rfl) (by kernel_rfl) (by kernel_rfl) ?_;repeat ((show SW _ _ _ _ (⟨_,Op.fieldAddr _ _ _,_,_,_,none⟩::_) _ _;refine SW.st (aD rfl) rfl ?_))
  refine SW.ah ?_;refine SF.take 12 [] [] aG rfl (by kernel_rfl) (by kernel_rfl) (by kernel_rfl) ?_;repeat ((show SW _ _ _ _ (⟨_,Op.load _ _,_,_,_,none⟩::_) _ _;refine SW.st (ao rfl (hR.own.row.sl.dA cb (j:=3) (u := .slice (ls)[aZ L x].ax.A (ls)[aZ L x].ax.n (ls)[aZ L x].ax.c) rfl)) rfl ?_))
  refine SW.ah ?_;refine SF.take 13 [14] [] aG rfl (by kernel_rfl) (by kernel_rfl) (by kernel_rfl) ?_;repeat (refine SW.pure rfl rfl ?_)
  refine SW.ah ?_;refine SF.one 14 rfl (by kernel_rfl) rfl ?_;refine SW.bK rfl rfl rfl rfl rfl fun b w4 aj hb hB => ?_
  (replace hw:=Ext.trans hw aj;replace aB:=aB.ext aj;replace hR:=hR.ext aj;replace oe:=oe.ext aj);have Hf:w0.heap.size≤w4.heap.size:=hR.size
  refine SW.nil (ae.sf aj ?_);refine SF.turn rfl (by kernel_rfl) rfl ?_;have E9:=hR.own.each.get (aZ L x) nF de;have Av:=E9.bL;have tg:=Av.sl.len;refine SW.wg Av (aJ.mo (enc:=bd) hB) hw.size (by decide) rfl rfl rfl (by omega) (by omega) fun A3 c3 w5 fU hg Dm => ?_
  have hS:=aB.ay (Av.gr hg) rfl;have dw:=hR.own.row.ay (Av.gr hg) rfl;have I5:=hR.Ln nF _ _ hg oe.at_;replace hw:=aF hw hg (Nat.le_refl _) Av.aM;refine SW.nil (ae.sg hS ?_);refine SG.one 16 rfl (by kernel_rfl) rfl ?_;repeat ((show SW _ _ _ _ (⟨_,Op.indexAddr _ _ _,_,_,_,none⟩::_) _ _;refine SW.st (bj rfl rfl (by assumption) (by omega)) rfl ?_))
  refine SW.nil (ae.sg hS ?_);refine SG.one 17 rfl (by kernel_rfl) rfl ?_;repeat ((show SW _ _ _ _ (⟨_,Op.fieldAddr _ _ _,_,_,_,none⟩::_) _ _;refine SW.st (aD rfl) rfl ?_))
  refine SW.nil (ae.sg hS ?_);refine SG.last rfl (by kernel_rfl) (by kernel_rfl) ?_;refine SW.gR (aZ L x) 3 ⟨(ls)[aZ L x].dO,(ls)[aZ L x].ar,(ls)[aZ L x].Ty,⟨A3,(ls)[aZ L x].ax.n+1,c3⟩⟩ dw rfl rfl rfl cb (by decide) rfl rfl fun w6 fL wL => ?_
  have En:=dw.gr wL;have I7:=He _ _ _ wL (fun k e => .inr (.inl e)) I5;replace hw:=aF hw wL (Nat.le_refl _) dw.aM;refine Wz ?_;refine ae.yH rfl ⟨_,rfl,hw,I7,li,(ls).set (aZ L x) ⟨(ls)[aZ L x].dO,(ls)[aZ L x].ar,(ls)[aZ L x].Ty,⟨A3,(ls)[aZ L x].ax.n+1,c3⟩⟩,hS.ay (b:=b1) (t':=41) En rfl,?_⟩
  have Lr:uy w0.heap.size li ls li ((ls).set (aZ L x) ⟨(ls)[aZ L x].dO,(ls)[aZ L x].ar,(ls)[aZ L x].Ty,⟨A3,(ls)[aZ L x].ax.n+1,c3⟩⟩):=by
   refine uy.qw Hd I4 nF (fun g e => ?_);rcases Dm g e with h|h
   ·exact .inl h
   ·exact .inr (Nat.le_trans Hf h)
  refine ⟨?_,Lr⟩;rw [← hR.qw];refine ⟨fL,eA.setAt (R:=ky _ w.heap.size) hR.own.each ⟨E9.cpu.trans hR.key.1,E9.fu.trans hR.key.2.1,E9.ty.trans hR.key.2.2,fU.ay En rfl⟩ fun j h1 h2 lg ho=>⟨ho.cpu,ho.fu,ho.ty,?_⟩⟩;refine (ho.bL.grown hg ?_).ay En rfl;cases eo:aU (ls)[j].ax.A (ls)[j].ax.c with
  | none=>exact .inl rfl
  | some g =>
    right;intro e;exact hR.sep j nF h1 lg g e.symm eo
def ja (n:ByteArray) (c:bf) : Bool:=ux c.Names n
def aE.zero:aE:=⟨[],.zero,[]⟩
theorem Heap.km:Heap.zero.small:=by constructor<;>simp [Heap.zero]
theorem aE.km:aE.zero.small:=⟨by simp [aE.zero],Heap.km,by simp [aE.zero],by simp [aE.zero]⟩
open Go.RowKit
theorem uA (r:eB) (l:List Block) (a:Int) (w:World) (hl:Sl w 3 aA r.Live.A r.Live.n l) (hu:l.Pairwise fun x y=>x.At<y.At) (hn:r.Live.n≤1000000000000000000) :
 bo Tryz.prog 123 [.agg (bm r).toArray,.int .i64 a] w fun v _=>v = .int .i64 (y9 l a):=by
 refine aI Tryz.func123 rfl Tryz.ntmps123 rfl ?_;refine CW.seq (CW.region (SW.box rfl rfl fun b2 w1 hw g7 aL => ?_));have mn:=hl.len;refine Wz ?_
 refine CW.loop (fun k:Nat=>[(1,.int .i64 a),(2,.pointer (some ⟨b2,0,none⟩)),(5,.int .i64 (k:Int))]) (fun k w'=>k≤r.Live.n∧Ext w w'∧aJ w' b2 41 (bm r) ∧ ∀ (i:Nat) (h:i<l.length),i<k→l[i].At≠a) (fun k=>r.Live.n-k) 0
  ⟨rfl,rfl,rfl,trivial⟩ ⟨by omega,hw,aL,fun i h h'=>by omega⟩ ?_
 clear hw aL;rintro k w' ⟨hk,hw,aL,hI⟩
 have hA:=hl.base;by_cases cb:k<r.Live.n
 ·have dk:k<l.length:=by omega
  have g0:=hl.dA cb (j:=0) (u := .int .i64 l[k].At) rfl;have g1:=hl.dA cb (j:=1) (u := .int .i64 l[k].Order) rfl;by_cases hx:l[k].At=a
  ·obtain ⟨e1,e2⟩:=y6 hu dk hx;have e3:=za e2 (by omega);simp only [e1] at e3;rw [e3];repeat' (first|refine Wz ?_|refine SW.st (ap hw rfl g0) rfl ?_|refine SW.st (ap hw rfl g1) rfl ?_)
   exact ae.aO rfl rfl ⟨_,rfl,hw,rfl⟩
  ·repeat' (first|refine Wz ?_|refine SW.st (ap hw rfl g0) rfl ?_)
   exact ae.again (k+1) ⟨rfl,rfl,rfl,trivial⟩ (by omega) ⟨by omega,hw,aL,fun i h h'=>by
    by_cases e:i=k
    ·subst e;exact hx
    ·exact hI i h (by omega)⟩
 ·rw [vW (y7 fun i h=>hI i h (by omega))];refine Wz ?_;exact ae.aO rfl rfl ⟨_,rfl,hw,rfl⟩
theorem tA (q:dr) (l:List Slab) (t:Int) (w:World) (hl:Sl w 3 aY q.ai.A q.ai.n l) (hn:q.ai.n≤1000000000000000000) :
 bo Tryz.prog 200 [.agg (dh q).toArray,.int .i64 t] w fun v _=>v = .int .i64 (idxOf (Au t) l):=by
 refine aI Tryz.func200 rfl Tryz.ntmps200 rfl ?_;refine CW.seq (CW.region (SW.box rfl rfl fun b2 w1 hw g7 aL => ?_));have mn:=hl.len;refine Wz ?_
 refine CW.loop (fun k:Nat=>[(1,.int .i64 t),(2,.pointer (some ⟨b2,0,none⟩)),(5,.int .i64 (k:Int))]) (fun k w'=>k≤q.ai.n∧Ext w w'∧aJ w' b2 89 (dh q) ∧ ∀ (i:Nat) (h:i<l.length),i<k→Au t l[i]=false) (fun k=>q.ai.n-k) 0
  ⟨rfl,rfl,rfl,trivial⟩ ⟨by omega,hw,aL,fun i h h'=>by omega⟩ ?_
 clear hw aL;rintro k w' ⟨hk,hw,aL,hI⟩
 have hA:=hl.base;by_cases cb:k<q.ai.n
 ·have dk:k<l.length:=by omega
  have g0:=hl.dA cb (j:=0) (u := .int .i64 l[k].At) rfl;by_cases hx:l[k].At=t
  ·rw [ib dk (show Au t l[k]=true from decide_eq_true hx) (fun j hj h=>hI j hj h)];repeat' (first|refine Wz ?_|refine SW.st (ap hw rfl g0) rfl ?_)
   exact ae.aO rfl rfl ⟨_,rfl,hw,rfl⟩
  ·repeat' (first|refine Wz ?_|refine SW.st (ap hw rfl g0) rfl ?_)
   exact ae.again (k+1) ⟨rfl,rfl,rfl,trivial⟩ (by omega) ⟨by omega,hw,aL,fun i h h'=>by
    by_cases e:i=k
    ·subst e;exact decide_eq_false hx
    ·exact hI i h (by omega)⟩
 ·rw [(fq fun i h=>hI i h (by omega)).1];refine Wz ?_;exact ae.aO rfl rfl ⟨_,rfl,hw,rfl⟩
theorem ni.bool {lo:Nat} {ws:List Int} {size ji:Int} {x:Slab} {v:Value} {w:World} (h:ni lo ws size ji x v w) : ∃ A n c b,v = .tuple #[.slice A n c,.bool b]∧(b=true ↔ ∃ out,pA ws size ji x out):=by
 rcases h with ⟨out,A5,c5,hC,rfl,_,_⟩|⟨lf,rfl⟩
 ·exact ⟨_,_,_,true,rfl,by simp;exact ⟨out,hC⟩⟩
 ·exact ⟨_,_,_,false,rfl,by simp;exact lf⟩
set_option maxHeartbeats 4000000 in
theorem wh (r:dQ) (s:aE) (q:dr) (c:bf) (w:World) (hr:qR w r s) (hq:Cf w q c) (hs:s.small) (gG:c.small) (hH:bD s.Heap) :
 bo Tryz.prog 115 [.agg (aR r).toArray,.agg (dh q).toArray] w fun v _=>v = .bool (iY s c):=by
 refine aI Tryz.func115 rfl Tryz.ntmps115 rfl ?_;refine CW.seq (CW.region (SW.box rfl rfl fun b2 w1 hw g7 aL => ?_));refine SW.box rfl rfl fun b3 w2 cq bH aq => ?_
 (replace hw:=Ext.trans hw cq;replace aL:=aL.ext cq);obtain ⟨o,n,e,hE⟩ : ∃ o n e,dZ c.bg=(o,n,e):=⟨_,_,_,rfl⟩;have eS:=hq.size;have eP:=hq.ji;have eO:=hq.order;have n1:=hq.names.len;have n2:=hq.aS.len;have n3:=hq.a8.len;have m1:=gG.names;have m2:=gG.aS;have m3:=gG.a8;have eC:=hr.heap.dY;have wl:=hr.words.len;have m4:=hs.words;have mn:=hr.heap.live.len;have m5:=hs.heap.live;have cL:∀ w',bo Tryz.prog 150 [.int .i64 q.bg] w' fun v _=>v = .tuple #[.int .i64 o,.int .i64 n,.int .i64 e]:=fun w'=>u9 (vO q.bg w') (by rw [eS];exact hE)
 rcases (show ¬ (e=0∧c.Order=o∧c.cm=n∧0<c.Names.length∧(c.au.length:Int)=s.Heap.bY)∨(e=0∧c.Order=o∧c.cm=n∧0<c.Names.length∧(c.au.length:Int)=s.Heap.bY) by omega) with nP|⟨h1,h2,h3,h4,h5⟩
 ·have hF:iY s c=false:=fc fun hm=>nP (by
   have:=hm.lay
   rw [hE] at this;simp only [Prod.mk.injEq] at this;exact ⟨this.2.2,this.1.symm,this.2.1.symm,hm.names,hm.a8⟩)
  rw [hF];rcases (show e≠0∨(e=0∧c.Order≠o)∨(e=0∧c.Order=o∧c.cm≠n)∨(e=0∧c.Order=o∧c.cm=n∧c.Names.length=0)∨(e=0∧c.Order=o∧c.cm=n∧0<c.Names.length∧(c.au.length:Int)≠s.Heap.bY) by omega) with g|g|g|g|g
  all_goals
   repeat' (first|refine Wz ?_|(refine SW.call rfl rfl (cL _) ?_;intro v w1 ab hv;subst hv;replace hw:=Ext.trans hw ab;replace aL:=aL.ext ab;replace aq:=aq.ext ab;clear ab))
   all_goals try omega
   exact ae.aO rfl rfl ⟨_,rfl,hw,rfl⟩
 ·subst h1;have E0:dZ c.bg=(c.Order,c.cm,0):=by rw [hE,h2,h3]
  obtain ⟨l1,l2,l3⟩:=iZ hE;have de:=rV hH.live
  have Kd:∀ b∈s.Heap.Live,0≤b.At∧b.At≤255:=fun b hb=>by
   obtain ⟨i,hi,rfl⟩:=List.getElem_of_mem hb;exact (hH.live.each i hi).2.1
  repeat' (first|refine Wz ?_|(refine SW.call rfl rfl (cL _) ?_;intro v w1 ab hv;subst hv;replace hw:=Ext.trans hw ab;replace aL:=aL.ext ab;replace aq:=aq.ext ab;clear ab))
  all_goals try omega
  clear cL
  refine CW.loop (fun k:Nat=>[(2,.pointer (some ⟨b2,0,none⟩)),(3,.pointer (some ⟨b3,0,none⟩)),(5,.int .i64 o),(8,.int .i64 (k:Int))])
   (fun k w'=>k≤q.ai.n∧Ext w w'∧aJ w' b2 44 (aR r)∧aJ w' b3 89 (dh q) ∧ ∀ (i:Nat) (h:i<c.ai.length),i<k→l9 s c i h) (fun k=>q.ai.n-k) 0
   ⟨rfl,rfl,rfl,rfl,trivial⟩ ⟨by omega,hw,aL,aq,fun i h h'=>by omega⟩ ?_
  clear hw aL aq;rintro k w' ⟨hk,hw,aL,aq,hI⟩
  have hA:=hq.aS.base;by_cases cb:k<q.ai.n
  ·have dk:k<c.ai.length:=by omega
   have g0:=hq.aS.dA cb (j:=0) (u := .int .i64 c.ai[k].At) rfl;obtain ⟨z,hz⟩ : ∃ z,y9 s.Heap.Live c.ai[k].At=z:=⟨_,rfl⟩
   have cO:∀ w',Ext w w'→bo Tryz.prog 123 [.agg (bm r.Heap).toArray,.int .i64 c.ai[k].At] w' fun v _=>v = .int .i64 z:=fun w' hx=>by
    have:=uA r.Heap s.Heap.Live c.ai[k].At w' (hr.heap.live.ext hx) de (by omega)
    rwa [hz] at this
   by_cases rz:z=o
   ·have E1:cc s.Heap.Live c.ai[k].At=true:=by
     cases E1:cc s.Heap.Live c.ai[k].At
     ·rw [vW E1] at hz;omega
     ·rfl
    obtain ⟨r9,MC⟩:=py E1
    have ht : 0≤c.ai[k].At∧c.ai[k].At≤255:=by
     have:=Kd _ (List.getElem_mem r9)
     omega
    have hS : 1≤q.bg∧q.bg≤64:=by omega
    have hP : 1≤q.cm∧q.cm≤64:=by omega
    by_cases E2 : 0<k→(c.ai[k-1]'(by omega)).At<c.ai[k].At
    ·rcases Nat.eq_zero_or_pos k with p7|p7
     all_goals
      first
      | (have gP:=hq.aS.dA (show k-1<q.ai.n by omega) (j:=0) (u := .int .i64 (c.ai[k-1]'(by omega)).At) rfl
         have sh:=E2 p7)
      | skip
     all_goals
      refine Wz ?_;(apply CW.aP mixed;(· kernel_rfl);rotate_left;intro w1 ab;replace hw:=Ext.trans hw ab;replace aL:=aL.ext ab;replace aq:=aq.ext ab;clear ab;rotate_right);repeat' (first|refine Wz ?_|refine SW.st (bc (k-1) rfl rfl (by assumption) (by omega) (by omega)) rfl ?_|refine SW.st (aW rfl rfl ((fY aL))) rfl ?_|refine SW.st (ap hw rfl g0) rfl ?_|refine SW.st (ap hw rfl gP) rfl ?_|refine SW.br rfl rfl (fun w1 ab=>(cO _ (Ext.trans hw ab))) ?_|exact SW.bx rfl)
      all_goals try omega
      refine CW.any 12 mixed (cj (by kernel_rfl)) rfl fun w1 ab aG => ?_
      replace hw:=Ext.trans hw ab;replace aL:=aL.ext ab;replace aq:=aq.ext ab;clear ab;refine Wa ?_;refine SA.take 6 aG rfl (by kernel_rfl) (by kernel_rfl) rfl ?_;repeat ((show SW _ _ _ _ (⟨_,Op.load _ _,_,_,_,none⟩::_) _ _;refine SW.st (aH hw rfl rfl ((hq.aS.all cb))) rfl ?_))
      refine SW.ah ?_;refine SA.one 7 rfl (by kernel_rfl) rfl ?_;refine SW.call rfl rfl (zg r q c.ai[k] s.Words _ (hr.words.ext hw) (by omega) hS hP ht) fun v w5 aj th => ?_
      (replace hw:=Ext.trans hw aj;replace aL:=aL.ext aj;replace aq:=aq.ext aj);rw [eS,eP] at th;obtain ⟨A5,n5,c5,bb,rfl,hb⟩:=ni.bool th;refine SW.nil (ae.sa aj ?_);refine Wa ?_;refine SA.done (by kernel_rfl) ?_;cases bb
      ·rw [fc fun hm=>by simpa using hb.2 (hm.aS k dk).chain];repeat' (first|refine Wz ?_|(refine CW.bO rfl ?_))
       exact ae.aO rfl rfl ⟨_,rfl,hw,rfl⟩
      ·repeat' (first|refine Wz ?_|(refine CW.bB rfl ?_))
       exact ae.again (k+1) ⟨rfl,rfl,rfl,rfl,trivial⟩ (by omega) ⟨by omega,hw,aL,aq,fun i h h'=>by
        by_cases ei:i=k
        ·subst ei;exact ⟨by omega,E2,hb.1 rfl⟩
        ·exact hI i h (by omega)⟩
    ·have p7 : 0<k:=by
      rcases Nat.eq_zero_or_pos k with h|h
      ·exact absurd (fun h'=>by omega) E2
      ·exact h
     have ym : ¬ (c.ai[k-1]'(by omega)).At<c.ai[k].At:=fun h=>E2 fun _=>h
     have gP:=hq.aS.dA (show k-1<q.ai.n by omega) (j:=0) (u := .int .i64 (c.ai[k-1]'(by omega)).At) rfl;rw [fc fun hm=>ym ((hm.aS k dk).next p7)];repeat' (first|refine Wz ?_|((apply CW.aP mixed;(· kernel_rfl);rotate_left;intro w1 ab;replace hw:=Ext.trans hw ab;replace aL:=aL.ext ab;replace aq:=aq.ext ab;clear ab;rotate_right))|refine SW.st (bc (k-1) rfl rfl (by assumption) (by omega) (by omega)) rfl ?_|refine SW.st (aW rfl rfl ((fY aL))) rfl ?_|refine SW.st (ap hw rfl g0) rfl ?_|refine SW.st (ap hw rfl gP) rfl ?_|refine SW.br rfl rfl (fun w1 ab=>(cO _ (Ext.trans hw ab))) ?_|exact SW.bx rfl)
     all_goals try omega
     exact ae.aO rfl rfl ⟨_,rfl,hw,rfl⟩
   ·rw [fc fun hm=>rz (by have:=(hm.aS k dk).live;omega)];repeat' (first|refine Wz ?_|((apply CW.aP mixed;(· kernel_rfl);rotate_left;intro w1 ab;replace hw:=Ext.trans hw ab;replace aL:=aL.ext ab;replace aq:=aq.ext ab;clear ab;rotate_right))|refine SW.st (aW rfl rfl ((fY aL))) rfl ?_|refine SW.st (ap hw rfl g0) rfl ?_|refine SW.br rfl rfl (fun w1 ab=>(cO _ (Ext.trans hw ab))) ?_|exact SW.bx rfl)
    all_goals try omega
    exact ae.aO rfl rfl ⟨_,rfl,hw,rfl⟩
  ·have fP:∀ (i:Nat) (h:i<c.ai.length),l9 s c i h:=fun i h=>hI i h (by omega)
   refine Wz ?_;clear hI cb hk hA
   refine CW.loop (fun k:Nat=>[(3,.pointer (some ⟨b3,0,none⟩)),(11,.int .i64 (k:Int))])
    (fun k w'=>k≤q.au.n∧Ext w w'∧aJ w' b3 89 (dh q) ∧ ∀ (i:Nat) (h:i<c.au.length),i<k→zb c i h) (fun k=>q.au.n-k) 0
    ⟨rfl,rfl,trivial⟩ ⟨by omega,hw,aq,fun i h h'=>by omega⟩ ?_
   clear hw aq aL;rintro k w' ⟨hk,hw,aq,hI⟩
   have hA:=hq.a8.base;by_cases cb:k<q.au.n
   ·have dk:k<c.au.length:=by omega
    obtain ⟨a,ea⟩ : ∃ a,c.au[k]=a:=⟨_,rfl⟩;have gA:=hq.a8.one cb (u := .int .i64 a) (by rw [← ea];rfl);by_cases ha:a = -1
    ·repeat' (first|refine Wz ?_|refine SW.st (ap hw rfl gA) rfl ?_)
     exact ae.again (k+1) ⟨rfl,rfl,trivial⟩ (by omega) ⟨by omega,hw,aq,fun i h h'=>by
      by_cases ei:i=k
      ·subst ei;exact .inl (by omega)
      ·exact hI i h (by omega)⟩
    ·obtain ⟨z,hz⟩ : ∃ z,idxOf (Au a) c.ai=z:=⟨_,rfl⟩;have iP:=iC (Au a) c.ai;rw [hz] at iP
     have cF:∀ w',Ext w w'→bo Tryz.prog 200 [.agg (dh q).toArray,.int .i64 a] w' fun v _=>v = .int .i64 z:=fun w' hx=>by
      have:=tA q c.ai a w' (hq.aS.ext hx) (by omega)
      rwa [hz] at this
     by_cases sZ : 0≤z
     ·repeat' (first|refine Wz ?_|((apply CW.aP mixed;(· kernel_rfl);rotate_left;intro w1 ab;replace hw:=Ext.trans hw ab;replace aq:=aq.ext ab;clear ab;rotate_right))|refine SW.st (ap hw rfl gA) rfl ?_|refine SW.br rfl rfl (fun w1 ab=>(cF _ (Ext.trans hw ab))) ?_|exact SW.bx rfl)
      all_goals try omega
      refine CW.loop (fun j:Nat=>[(3,.pointer (some ⟨b3,0,none⟩)),(11,.int .i64 (k:Int)),(12,.int .i64 (j:Int))])
       (fun j w'=>j≤k∧Ext w w'∧aJ w' b3 89 (dh q) ∧ ∀ (i:Nat) (h:i<c.au.length),i<j→c.au[i]≠a) (fun j=>k-j) 0
       ⟨rfl,rfl,rfl,trivial⟩ ⟨by omega,hw,aq,fun i h h'=>by omega⟩ ?_
      clear hw aq;rintro j w' ⟨hj,hw,aq,hJ⟩
      by_cases lg:j<k
      ·have gJ:=hq.a8.one (show j<q.au.n by omega) (u := .int .i64 (c.au[j]'(by omega))) rfl;by_cases hx:(c.au[j]'(by omega))=a
       ·rw [fc fun hm=>by
         rcases hm.Bl k dk with g|⟨g1,g2⟩
         ·omega
         ·rw [ea] at g1;exact g1 (List.mem_take_iff_getElem.2 ⟨j,by omega,hx⟩)]
        repeat' (first|refine Wz ?_|((apply CW.aP mixed;(· kernel_rfl);rotate_left;intro w1 ab;replace hw:=Ext.trans hw ab;replace aq:=aq.ext ab;clear ab;rotate_right))|refine SW.st (ap hw rfl gA) rfl ?_|refine SW.st (ap hw rfl gJ) rfl ?_|exact SW.bx rfl)
        all_goals try omega
        exact ae.aO rfl rfl ⟨_,rfl,hw,rfl⟩
       ·repeat' (first|refine Wz ?_|((apply CW.aP mixed;(· kernel_rfl);rotate_left;intro w1 ab;replace hw:=Ext.trans hw ab;replace aq:=aq.ext ab;clear ab;rotate_right))|refine SW.st (ap hw rfl gA) rfl ?_|refine SW.st (ap hw rfl gJ) rfl ?_|exact SW.bx rfl)
        all_goals try omega
        exact ae.again (j+1) ⟨rfl,rfl,rfl,trivial⟩ (by omega) ⟨by omega,hw,aq,fun i h h'=>by
         by_cases ei:i=j
         ·subst ei;exact hx
         ·exact hJ i h (by omega)⟩
      ·refine Wz ?_
       exact ae.again (k+1) ⟨rfl,rfl,trivial⟩ (by omega) ⟨by omega,hw,aq,fun i h h'=>by
        by_cases ei:i=k
        ·subst ei;refine .inr ⟨?_,by rw [ea,← iP];exact decide_eq_true sZ⟩;rw [ea];intro hm;obtain ⟨i',qa,e'⟩:=List.mem_take_iff_getElem.1 hm;exact hJ i' (by omega) (by omega) e'
        ·exact hI i h (by omega)⟩
     ·rw [fc fun hm=>by
       rcases hm.Bl k dk with g|⟨g1,g2⟩
       ·omega
       ·rw [ea] at g2;rw [g2] at iP;exact sZ (of_decide_eq_true iP)]
      repeat' (first|refine Wz ?_|((apply CW.aP mixed;(· kernel_rfl);rotate_left;intro w1 ab;replace hw:=Ext.trans hw ab;replace aq:=aq.ext ab;clear ab;rotate_right))|refine SW.st (ap hw rfl gA) rfl ?_|refine SW.br rfl rfl (fun w1 ab=>(cF _ (Ext.trans hw ab))) ?_|exact SW.bx rfl)
      all_goals try omega
      exact ae.aO rfl rfl ⟨_,rfl,hw,rfl⟩
   ·rw [ng ⟨E0,h4,h5,fP,fun i h=>hI i h (by omega)⟩];refine Wz ?_;exact ae.aO rfl rfl ⟨_,rfl,hw,rfl⟩
end Go.Proofs.YtbidkghlpijecaaGreatDoor
