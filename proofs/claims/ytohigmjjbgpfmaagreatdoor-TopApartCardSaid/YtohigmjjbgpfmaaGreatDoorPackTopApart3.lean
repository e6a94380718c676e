/- Part 3 of what topApart_holds leans on. -/
import Derived.Test.YtohigmjjbgpfmaaGreatDoorPackTopApart2
import Derived.Maps.OwnSet
import Derived.Great.BuildSlice
import Derived.ArgAppend
import Derived.SizedLaws
import Derived.JoinedCond
import Derived.Deep.Slices
import Derived.Deep.Fields
import Derived.Lib.SmallJoins
set_option linter.unusedVariables false
set_option linter.unusedSimpArgs false
set_option linter.defProp false
open Go.Proofs.Tryz
namespace Go.Proofs.YtohigmjjbgpfmaaGreatDoor
open Go.RowKit
variable {α:Type} {bs l:List Block} {cs:List Value} {b:Nat} {t:TypeId} {w:World} {p:α -> Bool}
theorem BX {q:α -> Bool}:∀ {l:List α},(∀ x∈l,p x=true->q x=true)->(∃ x∈l,p x=false∧q x=true)->l.countP p<l.countP q
 | [],_,h=>by obtain ⟨x,hx,_⟩:=h;simp at hx
 | a::l,h1,h2=>by
   rw [List.countP_cons,List.countP_cons];have hle:l.countP p<=l.countP q:=List.countP_mono_left (fun x hx=>h1 x (by simp [hx]))
   obtain ⟨x,hx,hp,hq⟩:=h2;rcases aee.1 hx with rfl|hx
   ·simp [hp,hq];omega
   ·have ih:=BX (l:=l) (fun y hy=>h1 y (by simp [hy])) ⟨x,hx,hp,hq⟩;have:=h1 a (by simp)
    cases Ll:p a<;>cases ZT:q a<;>simp [Ll,ZT] at this ⊢<;>omega
theorem zL:∀ {l:List Block} {cs bs:List Block},(∀ b∈l,1<=pw b.Order)->bA (some cs) l=some bs->cs.length<=(List.range 256).countP (eu cs)->(∀ x∈cs,0<=x.At∧1<=pw x.Order)->bs.length<=(List.range 256).countP (eu bs)
 | [],cs,bs,_,h,hc,_=>by injection h with h;subst h;exact hc
 | b::l,cs,bs,hp,h,hc,hg=>by
   have h':bA (lV (some cs) b) l=some bs:=h
   cases e:lV (some cs) b with
   | none=>rw [e,jd] at h';cases h'
   | some ds =>
     rw [e] at h';obtain ⟨cs',e1,hf,rfl⟩:=pU e;injection e1 with e1
     subst e1;have h1:=hp b (by simp);have lX:=(s9 hg h1).2 hf;refine zL (fun x hx=>hp x (by simp [hx])) h' ?_ (fun x hx => ?_)
     ·have:=BX (p:=eu cs) (q:=eu (cs++[b])) (l:=List.range 256) (fun x _ hx=>by simp only [eu,List.any_append,Bool.or_eq_true] at hx ⊢;exact .inl hx)
       ⟨b.At.toNat,by simp;have:=hf.1;have:=hf.2.1;omega,lX.2.2.2 _ (by have:=hf.1;omega) (by have:=hf.1;omega),by
        simp only [eu,List.any_append,Bool.or_eq_true];right;have:=hf.1
        simp [qB];omega⟩
      simp;omega
     ·rcases adm.1 hx with hx|hx
      ·exact hg x hx
      ·simp at hx;subst hx;exact ⟨hf.1,h1⟩
theorem G6 (hp:∀ b∈l,1<=pw b.Order) (h:bA (some []) l=some bs) : bs.length<=256:=by
 have:=zL hp h (by simp) (fun x hx=>by simp at hx)
 have h2:(List.range 256).countP (eu bs)<=(List.range 256).length:=List.countP_le_length
 simp at h2;omega
section
variable {P:Program} {n:Nat} {ops:Array Oper} {Q:Exit->Act->World->Prop} {rest:List Oper} {L:Env} {w:World}
end
theorem Ma (b:Nat) : (⟨b,0,none⟩ : Addr).add 0=⟨b,0,none⟩:=by unfold Addr.add;simp
theorem aS.cell0 (h:aS w b t cs) {v:Value} (hv:cs[0]?=some v) : w.cell? ⟨b,0,none⟩=some v:=by
 rw [<- Ma];exact h.cell hv
variable {a cpu o:Int} {i j k:Nat} {z0 z1:ao}
theorem kQ (h:fV l) : l.Pairwise fun x y=>x.At<y.At:=by
 have key:∀ (d i:Nat) (hj:i+d+1<l.length),(l[i]'(by omega)).At<l[i+d+1].At:=by
  intro d;induction d with
  | zero=>intro i hj;exact h.next i hj
  | succ d ih=>intro i hj;exact Int.lt_trans (ih i (by omega)) (h.next (i+d+1) (by omega))
 rw [adl];intro i j hi hj pk;have:=key (j-i-1) i (by omega)
 have e:i+(j-i-1)+1=j:=by omega
 simp only [e] at this;exact this
theorem jB (h:bP l a=true) : ∃ hk:bE l a<l.length,l[bE l a].At=a:=by
 unfold bP at h;split at h
 ·rename_i hk;exact ⟨hk,of_decide_eq_true h⟩
 ·cases h
theorem qU (hu:l.Pairwise fun x y=>x.At<y.At) (hk:k<l.length) (h:l[k].At=a) : bE l a=k∧bP l a=true:=by
 rw [adl] at hu;have e:bE l a=k:=Iw (by omega) (fun j hj nk=>by have:=hu j k hj hk nk;omega) (fun _=>by omega)
 refine ⟨e,?_⟩;unfold bP;simp only [e,dif_pos hk];exact decide_eq_true h
theorem G7 (h:∀ (k:Nat) (hk:k<l.length),l[k].At≠a) : bP l a=false:=by
 unfold bP;split
 ·rename_i hk;exact decide_eq_false (h _ hk)
 ·rfl
theorem Mb (hu:l.Pairwise fun x y=>x.At<y.At) (hk:k<l.length) (ha:l[k].At=a) (ho:l[k].Order=o) : l.eraseIdx k=mB l a o:=by
 rw [adl] at hu
 have bJ:∀ (j:Nat) (hj:j<l.length),j≠k->Be a o l[j]=false:=fun j hj nk=>by
  cases hh:Be a o l[j] with
  | false=>rfl
  | true =>
    obtain ⟨e1,e2⟩:=j7.1 hh;rcases adO j k with h1|h1|h1
    ·have:=hu j k hj hk h1;omega
    ·exact absurd h1 nk
    ·have:=hu k j hk hj h1;omega
 have e:l=l.take k++l[k]::l.drop (k+1):=by simp
 have hL:∀ x∈l.take k,Be a o x=false:=fun x hx=>by
  obtain ⟨j,hj,rfl⟩:=ade hx;simp at hj;rw [adS];exact bJ j (by omega) (by omega)
 have hR:∀ x∈l.drop (k+1),Be a o x=false:=fun x hx=>by
  obtain ⟨j,hj,rfl⟩:=ade hx;simp at hj;rw [ad9];exact bJ _ (by omega) (by omega)
 have hm:Be a o l[k]=true:=j7.2 ⟨ha,ho⟩
 unfold mB;rw [adM]
 conv=>rhs;rw [e]
 rw [List.filter_append,List.filter_cons];simp only [hm,Bool.not_true,Bool.false_eq_true,if_false];rw [aeH.2 (fun x hx=>by simp [hL x hx]),aeH.2 (fun x hx=>by simp [hR x hx])]
noncomputable def zM (z:ao) (a:Int) : Int:=z.Types.getD ((a-z.aV) / 8).toNat 0
noncomputable def keyOf (z0 z1:ao) (cpu a:Int) : aT:=⟨cpu,if a<z0.To then 0 else 1,if a<z0.To then zM z0 a else zM z1 a,[]⟩
def nl (x:aT) (pg:List Int) : aT:=⟨x.ga,x.ao,x.Ty,pg⟩
noncomputable def ss (h:Heap) (z0 z1:ao) (b:Block) (lv:List Block) : Heap:=⟨[(gB (z0,z1) b).1,(gB (z0,z1) b).2],h.dO,h.bG,h.av,lv⟩
noncomputable def kE (h:Heap) (z0 z1:ao) (x:aT) (pg:List Int) (lv:List Block) : Heap :=
 if 8<pg.length then ⟨[(bX (z0,z1) ((pg.take 4).map cu)).1,(bX (z0,z1) ((pg.take 4).map cu)).2],h.dO,h.bG,iZ h.av (nl x (pg.drop 4)),lv⟩ else ⟨[z0,z1],h.dO,h.bG,iZ h.av (nl x pg),lv⟩
noncomputable def iR (h:Heap) (cpu a:Int) : Heap:=match h.bp with
 | [z0,z1]=>if 0<(h.Live.getD (bE h.Live a) ⟨0,0,0⟩).Order then ss h z0 z1 (h.Live.getD (bE h.Live a) ⟨0,0,0⟩) (h.Live.eraseIdx (bE h.Live a)) else kE h z0 z1 (keyOf z0 z1 cpu a) (dh h.av (keyOf z0 z1 cpu a)++[a]) (h.Live.eraseIdx (bE h.Live a))
 | _=>⟨[],[],0,[],[]⟩
noncomputable def fh (h:Heap) (cpu a:Int) : Int×Heap :=
 if je h then (if 0<=cpu∧cpu<h.bG then (if bP h.Live a then (0,iR h cpu a) else (4,⟨[],[],0,[],[]⟩)) else (1,⟨[],[],0,[],[]⟩)) else (8,⟨[],[],0,[],[]⟩)
theorem II {h:Heap} (hb:je h=false) : fh h cpu a=(8,⟨[],[],0,[],[]⟩):=by simp [fh,hb]
theorem yD {h:Heap} (hb:je h=true) (hc : ¬ (0<=cpu∧cpu<h.bG)) : fh h cpu a=(1,⟨[],[],0,[],[]⟩):=by simp only [fh,hb,if_true,if_neg hc]
theorem IJ {h:Heap} (hb:je h=true) (hc : 0<=cpu∧cpu<h.bG) (hf:bP h.Live a=false) : fh h cpu a=(4,⟨[],[],0,[],[]⟩):=by simp only [fh,hb,if_true,if_pos hc,hf,Bool.false_eq_true,if_false]
theorem nz {h:Heap} (hb:je h=true) (hc : 0<=cpu∧cpu<h.bG) (hf:bP h.Live a=true) : fh h cpu a=(0,iR h cpu a):=by simp only [fh,hb,if_true,if_pos hc,hf]
theorem qV {h:Heap} (hz:h.bp=[z0,z1]) (hk:k<h.Live.length) (e:bE h.Live a=k) (ho : 0<h.Live[k].Order) : iR h cpu a=ss h z0 z1 h.Live[k] (h.Live.eraseIdx k):=by
 have:h.Live.getD k ⟨0,0,0⟩=h.Live[k]:=by rw [adZ,adi hk];rfl
 simp only [iR,hz,e,this,if_pos ho]
theorem qW {h:Heap} (hz:h.bp=[z0,z1]) (hk:k<h.Live.length) (e:bE h.Live a=k) (ho : ¬ 0<h.Live[k].Order) : iR h cpu a=kE h z0 z1 (keyOf z0 z1 cpu a) (dh h.av (keyOf z0 z1 cpu a)++[a]) (h.Live.eraseIdx k):=by
 have:h.Live.getD k ⟨0,0,0⟩=h.Live[k]:=by rw [adZ,adi hk];rfl
 simp only [iR,hz,e,this,if_neg ho]
structure jC (h:Heap) (z0 z1:ao) : Prop where
 d:n7 h z0 z1
 n9:EN h.av
 live:fV h.Live
 lists:∀ l∈h.av,1<=l.ax.length∧l.ax.length<=8
 all:(bA (some []) (z0.aj++z1.aj++bc h.av++h.Live)).isSome=true
 cpus : 1<=h.bG∧h.bG<=4
 count:h.av.length<=256
theorem BY {m:List Block} (h:∀ x∈l,x∈m) (ho:ki m a o=false) : ki l a o=false:=by
 unfold ki at *;rw [ady] at *;exact fun x hx=>ho x (h x hx)
theorem pY.sub {m:List Block} {b:Block} (h:pY m b) (hs:∀ x∈l,x∈m) : pY l b:=⟨h.ord,h.at_,h.al,⟨h.fits.1,h.fits.2.1,BY hs h.fits.2.2⟩,fun x hx=>h.Ds x (hs x hx)⟩
theorem jC.next {h:Heap} (f:jC h z0 z1) (hk:k<h.Live.length) : pY (z0.aj++z1.aj) h.Live[k]:=by
 have fk:=f.all;have e:z0.aj++z1.aj++bc h.av++h.Live=(z0.aj++z1.aj++bc h.av++h.Live.take k)++h.Live[k]::h.Live.drop (k+1):=by simp
 rw [e] at fk;have hf:=qR fk;have hl:=f.live.each k hk;have hs:∀ x∈z0.aj++z1.aj,x∈z0.aj++z1.aj++bc h.av++h.Live.take k:=fun x hx=>adN _ (adN _ hx)
 obtain ⟨l1,l2,l3,l4⟩:=hl;refine ⟨l1,by omega,l3,⟨hf.1,hf.2.1,BY hs hf.2.2⟩,fun x hx => ?_⟩;rcases adm.1 hx with hx|hx
 ·exact ll f.d.lW x hx
 ·exact ll f.d.lG x hx
theorem jC.G8 {h:Heap} (f:jC h z0 z1) (hi:i<h.av.length) (hj:j<h.av[i].ax.length) : pY (z0.aj++z1.aj++(h.av[i].ax.take j).map cu) (cu h.av[i].ax[j]):=by
 obtain ⟨hK,Tq⟩:=yB hi hj;have hN:=f.d.next hK;rw [Tq] at hN;refine hN.sub fun x hx => ?_
 rcases adm.1 hx with hx|hx
 ·exact adN _ hx
 ·refine aeF _ ?_;obtain ⟨p,hp,rfl⟩:=adv.1 hx;obtain ⟨m,hm,rfl⟩:=ade hp;simp only [List.length_take] at hm;rw [adS];obtain ⟨hM,ZU⟩:=yB hi (show m<h.av[i].ax.length by omega);rw [<- ZU];exact aea.2 ⟨ku h.av i+m,by omega,rfl⟩
theorem jC.inv {h:Heap} (f:jC h z0 z1) (hi:i<h.av.length) : ∀ j,j<=h.av[i].ax.length->qQ (bX (z0,z1) ((h.av[i].ax.take j).map cu)) (z0.aj++z1.aj++(h.av[i].ax.take j).map cu)
 | 0,_=>by simpa [bX] using f.d.start
 | j+1,hj=>by
   have ih:=(f.inv hi j (by omega)).back (f.G8 hi (show j<_ by omega))
   have e:(h.av[i].ax.take (j+1)).map cu=(h.av[i].ax.take j).map cu++[cu h.av[i].ax[j]]:=by
    rw [adk (by omega),adG];rfl
   rw [e,<- adj,n6];exact ih.1
theorem gC {h:Heap} (hm:bK h) : ∃ z0 z1,jC h z0 z1:=by
 obtain ⟨z0,z1,h1,h2,h3,h4,h5,h6,h7,h8⟩:=hm.ct;have hd:n7 h z0 z1:=⟨h1,h2,h3,h4,h5,h6,jY h8⟩
 have hl:∀ l∈h.av,1<=l.ax.length∧l.ax.length<=8:=fun l hl=>by
  obtain ⟨i,hi,rfl⟩:=ade hl;exact (h7.head i hi).2.2.2
 refine ⟨z0,z1,hd,Du h7,hm.live,hl,h8,hm.cpus,?_⟩
 have key:∀ k,k<=h.av.length->k<=ku h.av k:=by
  intro k;induction k with
  | zero=>intro _;omega
  | succ k ih =>
    intro hk;have:=ih (by omega)
    have:=(hl _ (adb (show k<h.av.length by omega))).1
    rw [zE (show k<h.av.length by omega)];omega
 have hc:=key _ (adg _);rw [Dt] at hc
 have hb:(bc h.av).length<=256:=by
  obtain ⟨bs,S9⟩:=adH.1 hd.all;have h9:=G6 hd.pw S9;have e:=oR S9;rw [ad5] at e;subst e;simp only [List.length_append] at h9;omega
 omega
variable {most per size:Int} {c:aQ} {s:ah} {acc VX ws:List Int}
theorem Q0 {x y:Int} (h1 : 0<=x) (h2:x<=64) (h3 : 0<=y) (h4:y<=64) : 0<=x*y∧x*y<=4096 :=
 ⟨aeL h1 h3,by have:=Int.mul_le_mul h2 h4 h3 (by omega:(0:Int)<=64);omega⟩
def il (size per t a:Int) : Bool:=decide (0<=a-t*16) && decide (a-t*16<per*size) && decide ((a-t*16) % size=0)
theorem ET {t:Int} (hs : 1<=size) (hk:(k:Int)<per) (h:a=16*t+k*size) : il size per t a=true:=by
 have e:a-t*16=k*size:=by omega
 unfold il;rw [e,decide_eq_true (aeL (by omega) (by omega)),decide_eq_true (Int.mul_lt_mul_of_pos_right hk (by omega)),decide_eq_true (Int.mul_emod_left _ _)]
 rfl
def bO (ws:List Int) (size per:Int) (x:Slab) (out:List Int) : Prop:=fU ws per x.ck [] (some out)∧(out.length:Int)=x.aj ∧ ∀ a∈out,il size per x.At a=true
theorem fU.mem {l:List Int} {x:Int} {r:Option (List Int)} (h:fU l most x acc r) : (∀ a∈acc,0<=a∧a<(l.length:Int)) -> ∀ out,r=some out -> ∀ a∈out,0<=a∧a<(l.length:Int):=by
 induction h with
 | done out=>intro ha o e;cases e;exact ha
 | bad=>intro _ _ e;cases e
 | @step k out r h1 hk h3 h ih =>
   intro ha o e;refine ih (fun a hm => ?_) o e;rcases adm.1 hm with hm|hm
   ·exact ha a hm
   ·simp at hm;subst hm;exact ⟨by omega,by omega⟩
theorem bO.dq {x:Slab} {out:List Int} (h:bO ws size per x out) (h':bO ws size per x VX) : out=VX:=by
 have:=h.1.dq h'.1
 injection this
def oF (l:List Block) (a:Int) : Int:=if bP l a then (l.getD (bE l a) ⟨0,0,0⟩).Order else -1
theorem zN (h:bP l a=true) (hk:bE l a<l.length) : oF l a=l[bE l a].Order:=by
 unfold oF;rw [if_pos h];simp [List.getD,hk]
theorem Dy (h:bP l a=false) : oF l a = -1:=by
 unfold oF;rw [h]
 rfl
structure vj (s:ah) (c:aQ) (i:Nat) (h:i<c.ab.length) : Prop where
 live:oF s.Heap.Live c.ab[i].At=c.Order
 next : 0<i->(c.ab[i-1]'(by omega)).At<c.ab[i].At
 chain:∃ out,bO s.Words c.az c.bL c.ab[i] out
def xX (t:Int) (x:Slab) : Bool:=decide (x.At=t)
def uq (c:aQ) (i:Nat) (h:i<c.ap.length) : Prop:=c.ap[i] = -1∨(c.ap[i]∉c.ap.take i∧c.ab.any (xX c.ap[i])=true)
structure fc (s:ah) (c:aQ) : Prop where
 lay:dp c.az=(c.Order,c.bL,0)
 names : 0<c.Names.length
 ba:(c.ap.length:Int)=s.Heap.bG
 aE:∀ (i:Nat) (h:i<c.ab.length),vj s c i h
 dz:∀ (i:Nat) (h:i<c.ap.length),uq c i h
noncomputable def pu (s:ah) (c:aQ) : Bool := @decide (fc s c) (Classical.propDecidable _)
theorem zO (a:fc s c) : pu s c=true:=by unfold pu;exact @decide_eq_true _ (Classical.propDecidable _) a
theorem oa (a : ¬ fc s c) : pu s c=false:=by unfold pu;exact @decide_eq_false _ (Classical.propDecidable _) a
theorem G9:pu s c=true↔fc s c:=by
 by_cases a:fc s c
 ·simp [zO a,a]
 ·simp [oa a,a]
theorem cj {x n:Int} (h:dp x=(o,n,0)) : (1<=x∧x<=64)∧(0<=o∧o<=2)∧(1<=n∧n<=64):=by
 unfold dp at h;split at h
 ·rename_i hx;have k1 : 64 / x<=64:=aeN _ (by omega)
  have k2 : 1<=64 / x:=by rw [Int.le_ediv_iff_mul_le (by omega)];omega
  have k3 : 16 / x<=16:=aeN _ (by omega)
  have k4 : 32 / x<=32:=aeN _ (by omega)
  split at h
  ·simp only [Prod.mk.injEq] at h;omega
  ·split at h
   ·simp only [Prod.mk.injEq] at h;omega
   ·simp only [Prod.mk.injEq] at h;omega
 ·simp only [Prod.mk.injEq] at h;omega
def bl (cs:List aQ) : List ByteArray:=cs.flatMap fun c=>c.Names
def aL (cs:List aQ) : List Int:=cs.flatMap fun c=>c.ab.map fun x=>x.At
structure yE (acc l:List ByteArray) : Prop where
 each:∀ (k:Nat) (h:k<l.length),gz l[k]=true∧l[k]∉acc++l.take k∧(0<k->eJ (l[k-1]'(by omega)) l[k]=true)
def Dz (acc:List Int) (l:List Slab) : Prop := ∀ (k:Nat) (h:k<l.length),l[k].At∉acc++(l.take k).map fun x=>x.At
structure ta (s:ah) (i:Nat) (h:i<s.aa.length) : Prop where
 may:fc s s.aa[i]
 size:∀ (j:Nat) (hj:j<i),(s.aa[j]'(by omega)).az≠s.aa[i].az
 names:yE (bl (s.aa.take i)) s.aa[i].Names
 aE:Dz (aL (s.aa.take i)) s.aa[i].ab
structure aB (s:ah) : Prop where
 words:s.Words.length=4096
 heap:bK s.Heap
 most:s.aa.length<=20
 each:∀ (i:Nat) (h:i<s.aa.length),ta s i h
noncomputable def fW (s:ah) : Bool := @decide (aB s) (Classical.propDecidable _)
theorem mq (a:aB s) : fW s=true:=by unfold fW;exact @decide_eq_true _ (Classical.propDecidable _) a
theorem wB (a : ¬ aB s) : fW s=false:=by unfold fW;exact @decide_eq_false _ (Classical.propDecidable _) a
theorem iS:fW s=true↔aB s:=by
 by_cases a:aB s
 ·simp [mq a,a]
 ·simp [wB a,a]
theorem rF (cs:List aQ) (i:Nat) (h:i<cs.length) : bl (cs.take (i+1))=bl (cs.take i)++cs[i].Names:=by
 unfold bl;rw [adk h,adt];simp
theorem rG (cs:List aQ) (i:Nat) (h:i<cs.length) : aL (cs.take (i+1))=aL (cs.take i)++cs[i].ab.map fun x=>x.At:=by
 unfold aL;rw [adk h,adt];simp
theorem Mc {z:Int} (h1 : -18446744073709551616<z) (h2:z < -9223372036854775808) : IntKind.i64.wrap z=z+18446744073709551616:=by
 simp [IntKind.wrap,IntKind.bits,IntKind.signed];omega
theorem zP (r:dS) (t a:Int) (w:World) (hs : 1<=r.az∧r.az<=64) (hp : 1<=r.bL∧r.bL<=64) (ht : 0<=t∧t<=255) (ha : -9223372036854775808<=a∧a<=9223372036854775807) :
 bF prog 123 [.agg (fQ r).toArray,.int .i64 t,.int .i64 a] w fun v _=>v = .bool (il r.az r.bL t a):=by
 refine aC func123 rfl ntmps123 rfl ?_;refine CW.seq (CW.region (SW.box rfl rfl fun b1 w1 hw lp aZ => ?_));have hm:=Q0 (x:=r.bL) (y:=r.az) (by omega) (by omega) (by omega) (by omega);unfold il;by_cases dD:a-t*16 < -9223372036854775808
 ·have e:=Mc (z:=a-t*16) (by omega) dD;rw [decide_eq_false (show ¬ 0<=a-t*16 by omega)];repeat' (first|refine Wz ?_|(refine SW.st ((yn rfl rfl).eq (congrArg (Value.int .i64) e)) rfl ?_))
  all_goals try omega
  exact ae.bg rfl rfl ⟨_,rfl,hw,rfl⟩
 ·by_cases h0 : 0<=a-t*16
  ·have e:(a-t*16).tmod r.az=(a-t*16) % r.az:=adP h0
   rw [decide_eq_true h0];by_cases h1:a-t*16<r.bL*r.az
   ·rw [decide_eq_true h1];refine Wz ?_;all_goals try omega
    refine ae.bg rfl rfl ⟨_,rfl,hw,?_⟩;rw [e];rfl
   ·rw [decide_eq_false h1];refine Wz ?_;all_goals try omega
    exact ae.bg rfl rfl ⟨_,rfl,hw,rfl⟩
  ·rw [decide_eq_false h0];refine Wz ?_;all_goals try omega
   exact ae.bg rfl rfl ⟨_,rfl,hw,rfl⟩
theorem Ha (a:Int) (b4 b5:Nat) (q:dS) (x:Slab) (w:World) (h4:aS w b4 107 (fQ q)) (h5:aS w b5 111 (bh x))
 (hs : 1<=q.az∧q.az<=64) (hp : 1<=q.bL∧q.bL<=64) (ht : 0<=x.At∧x.At<=255) (ha : 0<=a∧a<9223372036854775807) :
 bF prog 155 ([.int .i64 a]++[.pointer (some ⟨b4,0,none⟩),.pointer (some ⟨b5,0,none⟩)]) w fun v _=>v = .bool (!il q.az q.bL x.At a):=by
 refine aC func155 rfl ntmps155 rfl ?_;have hw:=Ext.refl w;repeat' (first|refine Wz ?_|(refine Wk (zP q x.At a _ hs hp ht (by omega)) ?_;intro v w1 ai hv;subst hv;have hw:=hw.trans ai;clear ai))
 exact ae.bg rfl rfl ⟨_,rfl,hw,rfl⟩
def Me (lo:Nat) (ws:List Int) (size per:Int) (x:Slab) (v:Value) (w:World) : Prop :=
 (∃ out A k,bO ws size per x out∧v = .tuple #[.slice A out.length k,.bool true]∧Own w lo 3 1 bw A out.length k out∧out.length<=17592186044416) ∨
 ((∀ out,¬ bO ws size per x out)∧v = .tuple #[.slice none 0 0,.bool false])
theorem BZ (r:da) (q:dS) (x:Slab) (ws:List Int) (w:World) (hl:Sl w 1 bw r.Words.A r.Words.n ws) (hn:r.Words.n*8<=140737488355328)
 (hs : 1<=q.az∧q.az<=64) (hp : 1<=q.bL∧q.bL<=64) (ht : 0<=x.At∧x.At<=255) :
 bF prog 124 [.agg (aP r).toArray,.agg (fQ q).toArray,.agg (bh x).toArray] w fun v w'=>Me w.heap.size ws q.az q.bL x v w':=by
 refine aC func124 rfl ntmps124 rfl ?_;refine CW.seq (CW.region (SW.box rfl rfl fun b3 w1 hw cg aq => ?_));refine SW.box rfl rfl fun b4 w2 bt fP aI => ?_
 (obtain ⟨hw,aq⟩:=df bt hw aq);refine SW.box rfl rfl fun b5 w3 nT gx aM => ?_
 (obtain ⟨hw,aq,aI⟩:=cn nT hw aq aI);refine Wz ?_;have dD:=hw.size;refine Wk (G3 _ _ _ _ _ _ _ (hl.ext hw) hn) fun v w4 kz hv => ?_
 obtain ⟨ZV,hF,hV⟩:=hv;(obtain ⟨hw,aq,aI,aM⟩:=dv kz hw aq aI aM);have Sq:=hl.len;rcases ZV with _|out
 ·subst hV;refine Wz ?_;refine ae.dm rfl rfl rfl ⟨_,rfl,hw,.inr ⟨fun o h => ?_,rfl⟩⟩;have:=hF.dq h.1
  cases this
 ·obtain ⟨A,k,rfl,hO,hlen⟩:=hV;have hO:=hO.low dD;by_cases nj:(out.length:Int)=x.aj
  ·have cC:∀ w',Ext w4 w'->bF prog 105 [.slice A out.length k,.func (.func 155) #[] [.pointer (some ⟨b4,0,none⟩),.pointer (some ⟨b5,0,none⟩)].toArray] w' fun v _=>v = .bool (out.any fun a => !il q.az q.bL x.At a):=fun w' hx =>
    iL _ _ _ _ _ (hO.sl.ext hx) _ [.pointer (some ⟨b4,0,none⟩),.pointer (some ⟨b5,0,none⟩)] (fun a => !il q.az q.bL x.At a) (fun x => .int .i64 x) (fun x=>rfl)
     (fun a ha w1 kW=>by
       have hm:=hF.mem (by simp) out rfl a ha;exact Ha a b4 b5 q x w1 ((aI.ext hx).ext kW) ((aM.ext hx).ext kW) hs hp ht ⟨hm.1,by omega⟩) (by omega)
   have ZW:=Ext.refl w4;repeat' (first|refine Wz ?_|(refine SW.st (iK (vs:=[.pointer (some ⟨b4,0,none⟩),.pointer (some ⟨b5,0,none⟩)]) rfl) rfl ?_))
   refine Wk (cC _ ZW) fun v w5 oC hv => ?_
   (obtain ⟨hw,hO⟩:=df oC hw hO);subst hv;cases gQ:out.any fun a => !il q.az q.bL x.At a
   ·refine Wz ?_;refine ae.dm rfl rfl rfl ⟨_,rfl,hw,.inl ⟨out,A,k,⟨hF,nj,fun a ha => ?_⟩,rfl,hO,hlen⟩⟩;rw [ady] at gQ;simpa using gQ a ha
   ·refine Wz ?_;refine ae.dm rfl rfl rfl ⟨_,rfl,hw,.inr ⟨fun o h => ?_,rfl⟩⟩;obtain ⟨a,ha,Ya⟩:=adq.1 gQ;have e:=hF.dq h.1;injection e with e
    subst e;rw [h.2.2 a ha] at Ya;cases Ya
  ·refine Wz ?_;all_goals try omega
   refine ae.dm rfl rfl rfl ⟨_,rfl,hw,.inr ⟨fun o h => ?_,rfl⟩⟩;have e:=hF.dq h.1;injection e with e
   subst e;exact nj h.2.1
def wC (y:dx) (x:aT) : Prop:=y.ga=x.ga∧y.ao=x.ao∧y.Ty=x.Ty
theorem QK.key {r:dx} {l:aT} (h:QK w r l) : wC r l:=⟨h.cpu,h.kr,h.ty⟩
theorem wD (r:jy) (L:List aT) (ls:List dx) (x:aT) (y:dx) (w:World) (hl:zw w r.av ls L) (hk:wC y x) (hn:r.av.n<=1000000000000000000) :
 bF prog 99 [.agg (dG r).toArray,.agg (cm y).toArray] w fun v _=>v = .tuple #[.int .i64 (bu L x:Int),.bool (dB L x)]:=by
 refine aC func99 rfl ntmps99 rfl ?_;refine CW.seq (CW.region (SW.box rfl rfl fun b2 w1 hw fA au => ?_));refine SW.box rfl rfl fun b3 w2 bt cg aq => ?_
 (obtain ⟨hw,au⟩:=df bt hw au);obtain ⟨l1,l2⟩:=hl.len;have hA:=hl.row.base;refine Wz ?_
 refine CW.loop (fun i:Nat=>[(2,.pointer (some ⟨b2,0,none⟩)),(3,.pointer (some ⟨b3,0,none⟩)),(6,.int .i64 (i:Int))])
  (fun i w'=>i<=r.av.n∧Ext w w'∧aS w' b2 41 (dG r)∧aS w' b3 159 (cm y) ∧ ∀ (k:Nat) (h:k<L.length),k<i->dg L[k] x) (fun i=>r.av.n-i) 0
  ⟨rfl,rfl,rfl,trivial⟩ ⟨by omega,hw,au,aq,fun k h h'=>by omega⟩ ?_
 clear hw au aq;rintro i w' ⟨hi,hw,au,aq,hI⟩
 by_cases cy:i<r.av.n
 ·have tF:i<L.length:=by omega
  have By:i<ls.length:=by omega
  have Yb:=hl.each.get i By tF;obtain ⟨q,hq⟩ : ∃ q,decide (dg L[i] x)=q:=⟨_,rfl⟩;obtain ⟨p,hp⟩ : ∃ p,decide (dg x L[i])=p:=⟨_,rfl⟩
  have cL:∀ w',bF prog 144 [.agg (cm ls[i]).toArray,.agg (cm y).toArray] w' fun v _=>v = .bool q:=fun w'=>by
   have:=wz ls[i] y L[i] x w' Yb.key hk
   rwa [hq] at this
  have cR:∀ w',bF prog 144 [.agg (cm y).toArray,.agg (cm ls[i]).toArray] w' fun v _=>v = .bool p:=fun w'=>by
   have:=wz y ls[i] x L[i] w' hk Yb.key
   rwa [hp] at this
  cases q
  ·have oH:=of_decide_eq_false hq;have ek:bu L x=i:=wv (by omega) hI (fun _=>oH)
   have eh:dB L x = !p:=by
    unfold dB;simp only [ek,dif_pos tF,<- hp];rcases BW L[i] x with e|e|e
    ·exact absurd e oH
    ·have : ¬ dg x L[i]:=by unfold dg jg at *;omega
     simp [e,this]
    ·have:=(JM e).2.1
     simp [e,this]
   rw [ek,eh];cases p
   all_goals
    repeat' (first|refine Wz ?_|((apply CW.bH mixed;(· kernel_rfl);rotate_left;intro w1 ai;obtain ⟨hw,au,aq⟩:=cn ai hw au aq;clear ai;rotate_right))|refine Wo hw ((hl.row.all cy)) ?_|refine SW.dK rfl rfl (fun w1 ai=>(cL _)) ?_|refine SW.dK rfl rfl (fun w1 ai=>(cR _)) ?_|exact SW.eU rfl)
    exact ae.dm rfl rfl rfl ⟨_,rfl,hw,rfl⟩
  ·have VY:=of_decide_eq_true hq;repeat' (first|refine Wz ?_|((apply CW.bH mixed;(· kernel_rfl);rotate_left;intro w1 ai;obtain ⟨hw,au,aq⟩:=cn ai hw au aq;clear ai;rotate_right))|refine Wo hw ((hl.row.all cy)) ?_|refine SW.dK rfl rfl (fun w1 ai=>(cL _)) ?_|exact SW.eU rfl)
   exact ae.again (i+1) ⟨rfl,rfl,rfl,trivial⟩ (by omega) ⟨by omega,hw,au,aq,fun k h h'=>by
    by_cases e:k=i
    ·subst e;exact VY
    ·exact hI k h (by omega)⟩
 ·have ek:bu L x=i:=wv (by omega) hI (fun h=>by omega)
  have eh:dB L x=false:=by unfold dB;rw [dif_neg (by omega)]
  rw [ek,eh];repeat' (first|refine Wz ?_|((apply CW.bH mixed;(· kernel_rfl);rotate_left;intro w1 ai;obtain ⟨hw,au,aq⟩:=cn ai hw au aq;clear ai;rotate_right))|exact SW.eU rfl)
  exact ae.dm rfl rfl rfl ⟨_,rfl,hw,rfl⟩
theorem su (A:Option Addr) (n c:Nat) (l:List Block) (a:Int) (w:World) (hl:Sl w 3 aO A n l) (f:FuncId) [Body prog f] (cv:Block->Int) (hf:∀ x∈l,∀ w',Ext w w'->bF prog f ([.agg (aO x).toArray,.int .i64 a]++[]) w' fun v _=>v = .int .i64 (cv x))
 (bJ:∀ x∈l,cv x≠0) (hn:n<=1000000000000000000) : bF prog 111 [.slice A n c,.int .i64 a,.func (.func f) #[] #[]] w fun v _ => ∃ i:Nat,v = .tuple #[.int .i64 (i:Int),.bool false]:=by
 refine aC func111 rfl ntmps111 rfl ?_;have hw:=Ext.refl w;have hA:=hl.base;have mH:=hl.len;refine Wz ?_
 refine CW.loop (fun s:Nat×Nat=>[(0,.slice A n c),(1,.int .i64 a),(2,.func (.func f) #[] #[]),(8,.int .i64 (n:Int)),(9,.int .i64 (s.1:Int)),(10,.int .i64 (s.2:Int))])
  (fun s w'=>s.1<=s.2∧s.2<=n∧Ext w w') (fun s=>s.2-s.1) (0,n)
  ⟨rfl,rfl,rfl,rfl,rfl,rfl,trivial⟩ ⟨by omega,by omega,hw⟩ ?_
 clear hw;rintro ⟨i,j⟩ w' ⟨pk,pO,hw⟩
 simp only at pk pO ⊢;by_cases eX:i<j
 ·have hk:(i+j) / 2<n:=by omega
  have iE:=hl.lt hk;have vV:=fun w1 h1=>hf (l[(i+j) / 2]) (adb iE) w1 h1
  repeat' (first|refine Wz ?_|refine Wo hw ((hl.all hk)) ?_|(refine SW.st ((mK Tryz.underlying3 mJ rfl).eq (congrArg (Value.int .u64) (wrap_u64 (by omega) (by omega)))) rfl ?_)|(refine SW.st ((mK mJ Tryz.underlying3 rfl).eq (congrArg (Value.int .i64) (jl (by omega) (by omega)))) rfl ?_)|(refine SW.st (yv rfl rfl) rfl ?_))
  refine SW.tP (cap:=[]) rfl rfl rfl (vV _ hw) fun v w1 ai hv => ?_
  subst hv;have hw:=hw.trans ai;by_cases S5:cv l[(i+j) / 2]<0
  ·refine Wz ?_;exact ae.again ((i+j) / 2+1,j) ⟨rfl,rfl,rfl,rfl,congrArg (fun z=>some (Value.int .i64 z)) (by omega),rfl,trivial⟩ (by simp only;omega) ⟨by simp only;omega,pO,hw⟩
  ·refine Wz ?_;exact ae.again (i,(i+j) / 2) ⟨rfl,rfl,rfl,rfl,rfl,congrArg (fun z=>some (Value.int .i64 z)) (by omega),trivial⟩ (by simp only;omega) ⟨by simp only;omega,by simp only;omega,hw⟩
 ·obtain rfl:i=j:=by omega
  by_cases cy:i<n
  ·have iE:=hl.lt cy;have vV:=fun w1 h1=>hf (l[i]) (adb iE) w1 h1
   have h0:=bJ (l[i]) (adb iE);repeat' (first|refine Wz ?_|refine Wo hw ((hl.all cy)) ?_)
   refine SW.tP (cap:=[]) rfl rfl rfl (vV _ hw) fun v w1 ai hv => ?_
   subst hv;have hw:=hw.trans ai;refine Wz ?_;refine ae.dm rfl rfl rfl ⟨_,rfl,hw,i,?_⟩;rw [decide_eq_false h0]
  ·refine Wz ?_;exact ae.dm rfl rfl rfl ⟨_,rfl,hw,i,rfl⟩
theorem sv (x:Block) (a:Int) (w:World) : bF prog 112 ([.agg (aO x).toArray,.int .i64 a]++[]) w fun v _=>v = .int .i64 (IntKind.i64.wrap (x.At-a)):=by
 refine aC func112 rfl ntmps112 rfl ?_;refine CW.seq (CW.region (SW.box rfl rfl fun b1 w1 hw lp aZ => ?_));repeat' (first|refine Wz ?_|(refine SW.st (yn rfl rfl) rfl ?_))
 exact ae.bg rfl rfl ⟨_,rfl,hw,rfl⟩
theorem wrap_zero {z:Int} (h1 : -18446744073709551616<z) (h2:z<18446744073709551616) (h:IntKind.i64.wrap z=0) : z=0:=by
 simp [IntKind.wrap,IntKind.bits,IntKind.signed] at h;omega
def IK (l:List Block) (a:Int) (v:Value) : Prop:=(bP l a=true->v = .tuple #[.int .i64 (bE l a:Int),.bool true])∧(bP l a=false -> ∃ i:Nat,v = .tuple #[.int .i64 (i:Int),.bool false])
theorem JQ (r:jy) (l:List Block) (a:Int) (w:World) (hl:Sl w 3 aO r.Live.A r.Live.n l) (hu:l.Pairwise fun x y=>x.At<y.At) (hb:∀ b∈l,0<=b.At∧b.At<=255) (hn:r.Live.n<=1000000000000000000) (ha : -9223372036854775808<=a∧a<=9223372036854775807) :
 bF prog 65 [.agg (dG r).toArray,.int .i64 a] w fun v _=>IK l a v:=by
 refine aC func65 rfl ntmps65 rfl ?_;refine CW.seq (CW.region (SW.box rfl rfl fun b1 w1 hw lp aZ => ?_));refine Wz ?_;by_cases cy : -1000000<=a∧a<=1000000
 ·refine Wk (jz _ _ _ _ a _ (hl.ext hw) _ (fun x hx w' _=>by
   have:=sv x a w'
   have h:=hb x hx;rwa [jl (by omega) (by omega)] at this) hu hn) fun v w2 bt hv => ?_
  subst hv;have hw:=hw.trans bt;refine Wz ?_;refine ae.dm rfl rfl rfl ⟨_,rfl,hw,?_⟩;exact ⟨fun h=>by rw [h];rfl,fun h=>⟨bE l a,by rw [h];rfl⟩⟩
 ·have hf:bP l a=false:=by
   unfold bP;split
   ·rename_i h;have:=hb _ (adb h)
    exact decide_eq_false (by omega)
   ·rfl
  refine Wk (su _ _ _ _ a _ (hl.ext hw) _ (fun x=>IntKind.i64.wrap (x.At-a)) (fun x hx w' _=>sv x a w') (fun x hx h0=>by
   have h:=hb x hx;have:=wrap_zero (by omega) (by omega) h0
   omega) hn) fun v w2 bt hv => ?_
  obtain ⟨i,rfl⟩:=hv;have hw:=hw.trans bt;refine Wz ?_;refine ae.dm rfl rfl rfl ⟨_,rfl,hw,?_⟩;exact ⟨fun h=>absurd (hf.symm.trans h) (by simp),fun _=>⟨i,rfl⟩⟩
theorem xt (x:Block) (a:Int) (w:World) : bF prog 136 ([.agg (aO x).toArray,.int .i64 a]++[]) w fun v _=>v = .int .i64 (IntKind.i64.wrap (x.At-a)):=by
 refine aC func136 rfl ntmps136 rfl ?_;refine CW.seq (CW.region (SW.box rfl rfl fun b1 w1 hw lp aZ => ?_));repeat' (first|refine Wz ?_|(refine SW.st (yn rfl rfl) rfl ?_))
 exact ae.bg rfl rfl ⟨_,rfl,hw,rfl⟩
theorem EU (A:Option Addr) (n c:Nat) (l:List Block) (a:Int) (w:World) (hl:Sl w 3 aO A n l) (hu:l.Pairwise fun x y=>x.At<y.At) (hb:∀ b∈l,0<=b.At∧b.At<=255) (hn:n<=1000000000000000000) (ha : -9223372036854775808<=a∧a<=9223372036854775807) :
 bF prog 111 [.slice A n c,.int .i64 a,.func (.func 136) #[] #[]] w fun v _=>IK l a v:=by
 by_cases cy : -1000000<=a∧a<=1000000
 ·refine (jz _ _ _ _ a _ hl _ (fun x hx w' _=>by
   have:=xt x a w'
   have h:=hb x hx;rwa [jl (by omega) (by omega)] at this) hu hn).mono fun v w2 bt hv => ?_
  subst hv;exact ⟨fun h=>by rw [h],fun h=>⟨bE l a,by rw [h]⟩⟩
 ·have hf:bP l a=false:=by
   unfold bP;split
   ·rename_i h;have:=hb _ (adb h)
    exact decide_eq_false (by omega)
   ·rfl
  refine (su _ _ _ _ a _ hl _ (fun x=>IntKind.i64.wrap (x.At-a)) (fun x hx w' _=>xt x a w') (fun x hx h0=>by
   have h:=hb x hx;have:=wrap_zero (by omega) (by omega) h0
   omega) hn).mono fun v w2 bt hv => ?_
  obtain ⟨i,rfl⟩:=hv;exact ⟨fun h=>absurd (hf.symm.trans h) (by simp),fun _=>⟨i,rfl⟩⟩
theorem JR (x:Slab) (b3:Nat) (t:Int) (w:World) (h3:aS w b3 3 [.int .i64 t]) :
 bF prog 159 ([.agg (bh x).toArray]++[.pointer (some ⟨b3,0,none⟩)]) w fun v _=>v = .bool (xX t x):=by
 refine aC func159 rfl ntmps159 rfl ?_;refine CW.seq (CW.region (SW.box rfl rfl fun b1 w1 hw lp aZ => ?_));have h3:=h3.ext hw;have P1:=h3.cell (i:=0) (v := .int .i64 t) rfl;rw [add_zero] at P1;repeat' (first|refine Wz ?_|refine Wl P1 ?_)
 exact ae.bg rfl rfl ⟨_,rfl,hw,rfl⟩
theorem EV (q:dS) (l:List Slab) (t:Int) (w:World) (hl:Sl w 3 bh q.ab.A q.ab.n l) (hn:q.ab.n<=9223372036854775807) :
 bF prog 137 [.agg (fQ q).toArray,.int .i64 t] w fun v _=>v = .int .i64 (idxOf (xX t) l):=by
 refine aC func137 rfl ntmps137 rfl ?_;refine CW.seq (CW.region (SW.box rfl rfl fun b2 w1 hw fA au => ?_));refine SW.LD rfl rfl rfl fun b3 w2 bt cg aq => ?_
 (obtain ⟨hw,au⟩:=df bt hw au);repeat' (first|refine Wz ?_|(refine SW.st (iK (vs:=[.pointer (some ⟨b3,0,none⟩)]) rfl) rfl ?_))
 refine Wk (lE _ _ _ _ _ (hl.ext hw) _ [.pointer (some ⟨b3,0,none⟩)] (xX t) (fun x => .agg (bh x).toArray) (fun x=>rfl) (fun x _ w1 kW=>JR x b3 t w1 (aq.ext kW)) hn) fun v w4 kz hv => ?_
 subst hv;have hw:=hw.trans kz;refine Wz ?_;exact ae.bg rfl rfl ⟨_,rfl,hw,rfl⟩
theorem B9 {x:Int} {f:FuncId} {n e:Int} (h:bF prog f [.int .i64 x] w fun v _=>v=oQ x) (hE:dp x=(o,n,e)) : bF prog f [.int .i64 x] w fun v _=>v = .tuple #[.int .i64 o,.int .i64 n,.int .i64 e]:=by
 refine h.mono fun v w' _ hv => ?_
 rw [hv,oQ,hE]
set_option maxHeartbeats 4000000 in
theorem JS (r:da) (s:ah) (q:dS) (c:aQ) (w:World) (hr:Bh w r s) (hq:GY w q c) (hs:s.small) (lT:c.small) (hH:bK s.Heap) (lg:∀ x∈c.ab,-9223372036854775808<=x.At∧x.At<=9223372036854775807) :
 bF prog 82 [.agg (aP r).toArray,.agg (fQ q).toArray] w fun v _=>v = .bool (pu s c):=by
 refine aC func82 rfl ntmps82 rfl ?_;refine CW.seq (CW.region (SW.box rfl rfl fun b2 w1 hw fA au => ?_));refine SW.box rfl rfl fun b3 w2 bt cg aq => ?_
 (obtain ⟨hw,au⟩:=df bt hw au);obtain ⟨o,n,e,hE⟩ : ∃ o n e,dp c.az=(o,n,e):=⟨_,_,_,rfl⟩;have eS:=hq.size;have eP:=hq.per;have eO:=hq.order;have n1:=hq.names.len;have n2:=hq.aE.len;have n3:=hq.ba.len;have m1:=lT.names;have m2:=lT.aE;have m3:=lT.ba;have eC:=hr.heap.cpus;have wl:=hr.words.len;have m4:=hs.words;have mH:=hr.heap.live.len;have m5:=hs.heap.live;have Ov:=hq.cap;have cL:∀ w',bF prog 53 [.int .i64 q.az] w' fun v _=>v = .tuple #[.int .i64 o,.int .i64 n,.int .i64 e]:=fun w'=>B9 (zA q.az w') (by rw [eS];exact hE)
 rcases (show ¬ (e=0∧c.Order=o∧c.bL=n∧0<c.Names.length∧(c.ap.length:Int)=s.Heap.bG)∨(e=0∧c.Order=o∧c.bL=n∧0<c.Names.length∧(c.ap.length:Int)=s.Heap.bG) by omega) with xV|⟨h1,h2,h3,h4,h5⟩
 ·have hF:pu s c=false:=oa fun hm=>xV (by
   have:=hm.lay
   rw [hE] at this;simp only [Prod.mk.injEq] at this;exact ⟨this.2.2,this.1.symm,this.2.1.symm,hm.names,hm.ba⟩)
  rw [hF];rcases (show e≠0∨(e=0∧c.Order≠o)∨(e=0∧c.Order=o∧c.bL≠n)∨(e=0∧c.Order=o∧c.bL=n∧c.Names.length=0)∨(e=0∧c.Order=o∧c.bL=n∧0<c.Names.length∧(c.ap.length:Int)≠s.Heap.bG) by omega) with g|g|g|g|g
  all_goals
   repeat' (first|refine Wz ?_|(refine Wk (cL _) ?_;intro v w1 ai hv;subst hv;obtain ⟨hw,au,aq⟩:=cn ai hw au aq;clear ai))
   all_goals try omega
   exact ae.bg rfl rfl ⟨_,rfl,hw,rfl⟩
 ·subst h1;have Mf:dp c.az=(c.Order,c.bL,0):=by rw [hE,h2,h3]
  obtain ⟨l1,l2,l3⟩:=cj hE;have eX:=kQ hH.live
  have N4:∀ b∈s.Heap.Live,0<=b.At∧b.At<=255:=fun b hb=>by
   obtain ⟨i,hi,rfl⟩:=ade hb;exact (hH.live.each i hi).2.1
  repeat' (first|refine Wz ?_|(refine Wk (cL _) ?_;intro v w1 ai hv;subst hv;obtain ⟨hw,au,aq⟩:=cn ai hw au aq;clear ai))
  all_goals try omega
  clear cL
  refine CW.loop (fun k:Nat=>[(2,.pointer (some ⟨b2,0,none⟩)),(3,.pointer (some ⟨b3,0,none⟩)),(5,.int .i64 o),(53,.slice q.ab.A q.ab.n q.ab.c),(54,.int .i64 (q.ab.n:Int)),(55,.int .i64 (k:Int))])
   (fun k w'=>k<=q.ab.n∧Ext w w'∧aS w' b2 44 (aP r)∧aS w' b3 107 (fQ q) ∧ ∀ (i:Nat) (h:i<c.ab.length),i<k->vj s c i h) (fun k=>q.ab.n-k) 0
   ⟨rfl,rfl,rfl,rfl,rfl,rfl,trivial⟩ ⟨by omega,hw,au,aq,fun i h h'=>by omega⟩ ?_
  clear hw au aq;rintro k w' ⟨hk,hw,au,aq,hI⟩
  have hA:=hq.aE.base;by_cases gp:k<q.ab.n
  ·have iE:k<c.ab.length:=by omega
   repeat' (first|refine Wz ?_|refine Wo hw ((hq.aE.all gp)) ?_)
   refine SW.alloc rfl fun b9 w1 ai nY bD => ?_
   refine Wz ?_;refine SW.ag bD rfl rfl rfl rfl (iy.one (enc:=bh) _) fun w2 jS hg => ?_
   have ak:=ai.own nY hg;have se:=hw.up nY
   obtain ⟨hw,au,aq⟩:=cn ak hw au aq;have bD:=jS;clear jS ai hg ak;refine Wz ?_;refine Wk (EU _ _ _ _ _ _ (hr.heap.live.ext hw) eX N4 (by omega) (lg _ (adb iE))) fun v w4 kz hv => ?_
   (obtain ⟨hw,au,aq,bD⟩:=dv kz hw au aq bD);cases Mg:bP s.Heap.Live c.ab[k].At
   ·obtain ⟨j,rfl⟩:=hv.2 Mg
    have hF:pu s c=false:=oa fun hm=>by
     have:=(hm.aE k iE).live
     rw [Dy Mg] at this;omega
    rw [hF];repeat' (first|refine Wz ?_|((apply CW.bH mixed;(· kernel_rfl);rotate_left;intro w1 ai;obtain ⟨hw,au,aq,bD⟩:=dv ai hw au aq bD;clear ai;rotate_right))|refine SW.skip rfl rfl rfl rfl ?_|exact SW.eU rfl)
    exact ae.bg rfl rfl ⟨_,rfl,hw,rfl⟩
   ·have tG:=hv.1 Mg;subst tG;obtain ⟨Eh,ZX⟩:=jB Mg;have VZ:=zN Mg Eh;obtain ⟨m,em⟩ : ∃ m,bE s.Heap.Live c.ab[k].At=m:=⟨_,rfl⟩;simp only [em] at Eh ZX VZ hv ⊢;have Yc:m<r.Heap.Live.n:=by omega
    have Yd:=hr.heap.live.base;have gO:=hr.heap.live.jR Yc (j:=1) (u := .int .i64 s.Heap.Live[m].Order) rfl
    have ht : 0<=c.ab[k].At∧c.ab[k].At<=255:=by
     have:=N4 _ (adb Eh)
     omega
    have hS : 1<=q.az∧q.az<=64:=by omega
    have hP : 1<=q.bL∧q.bL<=64:=by omega
    by_cases xR:s.Heap.Live[m].Order=o
    ·by_cases N5 : 0<k->(c.ab[k-1]'(by omega)).At<c.ab[k].At
     ·rcases adu k with Bd|Bd
      all_goals
       first
       | (have gP:=hq.aE.jR (show k-1<q.ab.n by omega) (j:=0) (u := .int .i64 (c.ab[k-1]'(by omega)).At) rfl
          have Bn:=N5 Bd)
       | skip
      all_goals
       repeat' (first|refine Wz ?_|((apply CW.bH mixed;(· kernel_rfl);rotate_left;intro w1 ai;obtain ⟨hw,au,aq,bD⟩:=dv ai hw au aq bD;clear ai;rotate_right))|refine SW.want rfl rfl ?_|refine SW.st (cf (k-1) rfl rfl (by assumption) (by omega) (by omega)) rfl ?_|refine Wn hw gO ?_|refine Wn hw gP ?_|exact SW.eU rfl)
       all_goals try omega
       refine Wk (BZ r q c.ab[k] s.Words _ (hr.words.ext hw) (by omega) hS hP ht) fun v w5 oC EW => ?_
       (obtain ⟨hw,au,aq⟩:=cn oC hw au aq);rw [eS,eP] at EW;rcases EW with ⟨out,A5,c5,hC,rfl,_,_⟩|⟨oH,rfl⟩
       ·repeat' (first|refine Wz ?_|(refine CW.fY rfl ?_))
        exact ae.again (k+1) ⟨rfl,rfl,rfl,rfl,rfl,rfl,trivial⟩ (by omega) ⟨by omega,hw,au,aq,fun i h h'=>by
         by_cases ei:i=k
         ·subst ei;exact ⟨by omega,N5,⟨out,hC⟩⟩
         ·exact hI i h (by omega)⟩
       ·rw [oa fun hm=>(hm.aE k iE).chain.elim oH];repeat' (first|refine Wz ?_|(refine CW.gu rfl ?_))
        exact ae.bg rfl rfl ⟨_,rfl,hw,rfl⟩
     ·have Bd : 0<k:=by
       rcases adu k with h|h
       ·exact absurd (fun h'=>by omega) N5
       ·exact h
      have Ly : ¬ (c.ab[k-1]'(by omega)).At<c.ab[k].At:=fun h=>N5 fun _=>h
      have gP:=hq.aE.jR (show k-1<q.ab.n by omega) (j:=0) (u := .int .i64 (c.ab[k-1]'(by omega)).At) rfl;rw [oa fun hm=>Ly ((hm.aE k iE).next Bd)];repeat' (first|refine Wz ?_|((apply CW.bH mixed;(· kernel_rfl);rotate_left;intro w1 ai;obtain ⟨hw,au,aq,bD⟩:=dv ai hw au aq bD;clear ai;rotate_right))|refine SW.want rfl rfl ?_|refine SW.st (cf (k-1) rfl rfl (by assumption) (by omega) (by omega)) rfl ?_|refine Wn hw gO ?_|refine Wn hw gP ?_|exact SW.eU rfl)
      all_goals try omega
      exact ae.bg rfl rfl ⟨_,rfl,hw,rfl⟩
    ·rw [oa fun hm=>xR (by have:=(hm.aE k iE).live;omega)];repeat' (first|refine Wz ?_|((apply CW.bH mixed;(· kernel_rfl);rotate_left;intro w1 ai;obtain ⟨hw,au,aq,bD⟩:=dv ai hw au aq bD;clear ai;rotate_right))|refine SW.want rfl rfl ?_|refine Wn hw gO ?_|exact SW.eU rfl)
     all_goals try omega
     exact ae.bg rfl rfl ⟨_,rfl,hw,rfl⟩
  ·have fk:∀ (i:Nat) (h:i<c.ab.length),vj s c i h:=fun i h=>hI i h (by omega)
   refine Wz ?_;clear hI gp hk hA
   refine CW.loop (fun k:Nat=>[(3,.pointer (some ⟨b3,0,none⟩)),(109,.slice q.ap.A q.ap.n q.ap.c),(110,.int .i64 (q.ap.n:Int)),(111,.int .i64 (k:Int))])
    (fun k w'=>k<=q.ap.n∧Ext w w'∧aS w' b3 107 (fQ q) ∧ ∀ (i:Nat) (h:i<c.ap.length),i<k->uq c i h) (fun k=>q.ap.n-k) 0
    ⟨rfl,rfl,rfl,rfl,trivial⟩ ⟨by omega,hw,aq,fun i h h'=>by omega⟩ ?_
   clear hw aq au;rintro k w' ⟨hk,hw,aq,hI⟩
   have hA:=hq.ba.base;by_cases gp:k<q.ap.n
   ·have iE:k<c.ap.length:=by omega
    obtain ⟨a,ea⟩ : ∃ a,c.ap[k]=a:=⟨_,rfl⟩;have gA:=hq.ba.one gp (u := .int .i64 a) (by rw [<- ea];rfl);by_cases ha:a = -1
    ·repeat' (first|refine Wz ?_|refine Wn hw gA ?_)
     exact ae.again (k+1) ⟨rfl,rfl,rfl,rfl,trivial⟩ (by omega) ⟨by omega,hw,aq,fun i h h'=>by
      by_cases ei:i=k
      ·subst ei;exact .inl (by omega)
      ·exact hI i h (by omega)⟩
    ·have cN:∀ w',Ext w w'->bF prog 125 [.slice q.ap.A k q.ap.c,.int .i64 a] w' fun v _=>v = .bool (decide (a∈c.ap.take k)):=fun w' hx=>ic _ _ _ _ _ _ ((hq.ba.ext hx).pre (show k<=q.ap.n by omega)) (by omega)
     obtain ⟨z,hz⟩ : ∃ z,idxOf (xX a) c.ab=z:=⟨_,rfl⟩;have tc:=ly (xX a) c.ab;rw [hz] at tc
     have cF:∀ w',Ext w w'->bF prog 137 [.agg (fQ q).toArray,.int .i64 a] w' fun v _=>v = .int .i64 z:=fun w' hx=>by
      have:=EV q c.ab a w' (hq.aE.ext hx) (by omega)
      rwa [hz] at this
     have P2:(a∈c.ap.take k ∨ ¬ 0<=z)->pu s c=false:=fun h=>oa fun hm=>by
      rcases hm.dz k iE with g|⟨g1,g2⟩
      ·omega
      ·rw [ea] at g1 g2;rcases h with h|h
       ·exact g1 h
       ·rw [g2] at tc;exact h (of_decide_eq_true tc)
     by_cases m8:a∈c.ap.take k
     ·rw [decide_eq_true m8] at cN;rw [P2 (.inl m8)];repeat' (first|refine Wz ?_|refine Wn hw gA ?_|(refine Wk (cN _ hw) ?_;intro v w1 ai hv;subst hv;obtain ⟨hw,aq⟩:=df ai hw aq;clear ai)|(refine SW.st (dn (k:=k) rfl rfl (by omega)) rfl ?_))
      all_goals try omega
      exact ae.bg rfl rfl ⟨_,rfl,hw,rfl⟩
     ·rw [decide_eq_false m8] at cN;by_cases L9 : 0<=z
      ·repeat' (first|refine Wz ?_|refine Wn hw gA ?_|((first|refine Wk (cN _ hw) ?_|refine Wk (cF _ hw) ?_);intro v w1 ai hv;subst hv;obtain ⟨hw,aq⟩:=df ai hw aq;clear ai)|(refine SW.st (dn (k:=k) rfl rfl (by omega)) rfl ?_))
       all_goals try omega
       exact ae.again (k+1) ⟨rfl,rfl,rfl,rfl,trivial⟩ (by omega) ⟨by omega,hw,aq,fun i h h'=>by
        by_cases ei:i=k
        ·subst ei;exact .inr ⟨by rw [ea];exact m8,by rw [ea,<- tc];exact decide_eq_true L9⟩
        ·exact hI i h (by omega)⟩
      ·rw [P2 (.inr L9)];repeat' (first|refine Wz ?_|refine Wn hw gA ?_|((first|refine Wk (cN _ hw) ?_|refine Wk (cF _ hw) ?_);intro v w1 ai hv;subst hv;obtain ⟨hw,aq⟩:=df ai hw aq;clear ai)|(refine SW.st (dn (k:=k) rfl rfl (by omega)) rfl ?_))
       all_goals try omega
       exact ae.bg rfl rfl ⟨_,rfl,hw,rfl⟩
   ·rw [zO ⟨Mf,h4,h5,fk,fun i h=>hI i h (by omega)⟩];refine Wz ?_;exact ae.bg rfl rfl ⟨_,rfl,hw,rfl⟩
open Go.RowKit Go.Maps
variable {keys:List Lit} {kl:Lit} {d:Nat} {y:Operand} {g:Option (Nat×Bool)} {row:Option Nat} {P:Program} {e:TypeId} {w':World}
structure pZ (w:World) (P:Program) (k e:TypeId) (b:Nat) (keys:List Lit) : Prop where
 own:w.ownsMap (H:=Unit) P k (plainElem P e) b keys.length (setOf (.lit (.bool true)) keys)
 ok:∀ x∈keys,WideAt.IsKeyLit x
theorem pZ.ext {k:TypeId} (h:pZ w P k e b keys) (hx:Ext w w') : pZ w' P k e b keys:=⟨h.own.kept (row:=none) ⟨hx.os,hx.tape,hx.output,hx.size,fun i hi _=>hx.block i hi⟩ (by simp),h.ok⟩
theorem pZ.grown {k:TypeId} (h:pZ w P k e b keys) (hg:w.grownBy w' row) (bJ:some b≠row) : pZ w' P k e b keys:=⟨h.own.kept hg bJ,h.ok⟩
theorem pZ.lt {k:TypeId} (h:pZ w P k e b keys) : b<w.heap.size:=h.own.lt
theorem zQ (u z:DataW Unit) (k:Lit) : ∀ (acc:List Lit) (m:DataW Unit),IsMap m->(∀ x∈acc,WideAt.IsKeyLit x)->(acc.foldl (fun m x=>m.put x u) m).atKey k z=if acc.any (fun x=>x.sameKey k) then u else m.atKey k z
 | [],m,_,_=>by simp
 | x::r,m,hm,h=>by
   rw [List.foldl_cons,zQ u z k r (m.put x u) (hm.put x u) (fun y hy=>h y (by simp [hy])),List.any_cons];by_cases e:k=x
   ·subst e;rw [atKey_put_same hm (h k (by simp)),WideAt.sameKey_self (h k (by simp))];simp
   ·rw [atKey_put_other e,sameKey_ne (fun e'=>e e'.symm)];simp
theorem JT (k:Lit) (acc:List Lit) (h:∀ x∈acc,WideAt.IsKeyLit x) : (setOf (.lit (.bool true)) acc:DataW Unit).atKey k (.lit (.bool false)) = .lit (.bool (acc.any fun x=>x.sameKey k)):=by
 rw [setOf,zQ _ _ k acc _ isMap_empty h];cases acc.any fun x=>x.sameKey k<;>rfl
section
variable {P:Program} {n:Nat} {ops:Array Oper} {Q:Exit->Act->World->Prop} {rest:List Oper} {L:Env} {w:World} {T:TypeId} {pos:String} {af:Array Edge}
theorem SW.makeMap (k e:TypeId) (hn:Nat.blt d n=true) (h:∀ b w',Ext w w'->w.heap.size<=b->pZ w' P k e b []->SW P n ops (.gM Q) rest ((d,.map (some b))::L) w') :
 SW P n ops (.gM Q) (⟨some d,.makeMap t none,T,pos,af,none⟩::rest) L w :=
 ⟨fun a ha=>by
  simp only [swp,wpList,Region.wanted,if_true];refine .inl ?_;unfold Oper.wp
  have:(execOp a.eval ⟨some d,.makeMap t none,T,pos,af,none⟩).run P w = .ok (.value (.map (some w.heap.size))) (w.alloc (.map #[] 0)):=by
   simp [execOp,run_makeMap]
  rw [this,Oper.upon_value];exact (h _ _ (Ext.alloc w _) (adg _) ⟨World.ownsMap_made w P k _,fun x hx=>by simp at hx⟩).out _ (ha.put hn _)⟩
theorem zR {d:Option Nat} {k:TypeId} {m x:Operand} {key:Value} (hB:pZ w P k e b keys) (K:Keyed P k) (ht:P.underlying t=some (.map k e)) (he:P.underlying e=some .bool) (hz:∀ w,(zeroValue e).run P w = .ok (.bool false) w)
 (hm:cT L m=some (.map (some b))) (hx:cT L x=some key) (qX:Go.keyOf P k key=some kl) : St P ⟨d,.lookup t m x false,T,pos,af,g⟩ L w (.bool (keys.any fun y=>y.sameKey kl)) :=
 ⟨fun n a ha w' V0=>by
  have v7:=hB.ext V0;obtain ⟨v,ps,sw,hv⟩:=v7.own.lookup K ht (hz w') (plainElem_bool he false) qX;rw [JT _ _ hB.ok] at hv
  have S8:v = .bool (keys.any fun y=>y.sameKey kl):=by
   unfold plainElem at hv;rw [he] at hv;cases v<;>simp at hv
   rw [hv.1]
  subst S8;simp [execOp,ha.eval hm,ha.eval hx,sw]⟩
theorem SW.Hb {k:TypeId} {m x:Operand} {key:Value} (hB:pZ w P k e b keys) (K:Keyed P k) (ht:P.underlying t=some (.map k e)) (he:P.underlying e=some .bool) (ky:keys.length<maxLen)
 (hm:cT L m=some (.map (some b))) (hx:cT L x=some key) (hy:cT L y=some (.bool true)) (qX:Go.keyOf P k key=some kl) (hk:WideAt.IsKeyLit kl)
 (h:∀ w',pZ w' P k e b (keys++[kl])->w.grownBy w' (some b)->SW P n ops (.gM Q) rest L w') : SW P n ops (.gM Q) (⟨none,.mapUpdate t m x y,T,pos,af,none⟩::rest) L w :=
 ⟨fun a ha=>by
  obtain ⟨w',sw,r1,r2⟩:=hB.own.update K ht ky qX (plainElem_bool he true);simp only [swp,wpList,Region.wanted,if_true];refine .inl ?_;unfold Oper.wp
  have:(execOp a.eval ⟨none,.mapUpdate t m x y,T,pos,af,none⟩).run P w = .ok .skip w':=by
   simp [execOp,ha.eval hm,ha.eval hx,ha.eval hy,sw]
  rw [this,Oper.upon_skip];refine (h w' ⟨?_,fun z hz => ?_⟩ r2).out _ ha
  ·rw [setOf_snoc];simpa using r1
  ·rcases adm.1 hz with hz|hz
   ·exact hB.ok z hz
   ·simp at hz;subst hz;exact hk⟩
end
open Go.RowKit Go.Maps
variable {n:ByteArray}
def nA (s:ByteArray) : Lit := .string s.data.toList
def xY (z:Int) : Lit := .int .i64 z
def tH (l:List ByteArray) (n:ByteArray) : Bool:=l.any fun m=>decide (m=n)
theorem jD {l:List ByteArray}:tH l n=true↔n∈l:=by
 unfold tH;rw [adq];exact ⟨fun ⟨m,h,e⟩=>of_decide_eq_true e ▸ h,fun h=>⟨n,h,decide_eq_true rfl⟩⟩
theorem Mh (l:List ByteArray) (n:ByteArray) : ((l.map nA).any fun y=>y.sameKey (nA n))=tH l n:=by
 rw [aeX,adq,jD];constructor
 ·rintro ⟨y,hy,hs⟩
  obtain ⟨m,hm,rfl⟩:=adv.1 hy;have:=WideAt.sameKey_eq hs
  simp only [nA,Lit.string.injEq] at this
  have e:m=n:=by
   cases m;cases n
   simpa using this
  rw [<- e];exact hm
 ·intro h;exact ⟨nA n,adv.2 ⟨n,h,rfl⟩,WideAt.sameKey_self trivial⟩
theorem Mi (l:List Int) (n:Int) : ((l.map xY).any fun y=>y.sameKey (xY n))=decide (n∈l):=by
 rw [aeX,adq,decide_eq_true_iff];constructor
 ·rintro ⟨y,hy,hs⟩
  obtain ⟨m,hm,rfl⟩:=adv.1 hy;have:=WideAt.sameKey_eq hs
  simp only [xY,Lit.int.injEq] at this;rw [<- this.2];exact hm
 ·intro h;exact ⟨xY n,adv.2 ⟨n,h,rfl⟩,WideAt.sameKey_self trivial⟩
theorem nB:prog.underlying 9=some .string:=by kernel_rfl
theorem nC:prog.underlying 3=some (.int .i64):=by kernel_rfl
theorem sy:prog.underlying 4=some .bool:=by kernel_rfl
theorem zS:prog.underlying 163=some (.map 9 4):=by kernel_rfl
theorem EX:prog.underlying 164=some (.map 3 4):=by kernel_rfl
theorem Ca (w:World) : (zeroValue 4).run prog w = .ok (.bool false) w:=by
 obtain ⟨inf,hi,hz,hs,yo⟩:=eB prog 4 (z := .bool false) (sz:=1) (bytes:=1);simp [zeroValue,typeInfo,hi,hz]
theorem j9 (s:ByteArray) (h:s.size<=140737488351232) : Go.keyOf prog 9 (.string s)=some (nA s):=by
 simp [Go.keyOf,mapKey,nA];unfold maxLen;omega
theorem keyOf_int {z:Int} (h : -9223372036854775808<=z∧z<=9223372036854775807) : Go.keyOf prog 3 (.int .i64 z)=some (xY z):=keyOf_int_mk nC (by
 have h1:IntKind.i64.min = -9223372036854775808:=by decide
 have h2:IntKind.i64.max=9223372036854775807:=by decide
 simp [Lit.wf,h1,h2];omega)
section
variable {L:Env} {w:World} {d:Option Nat} {T:TypeId} {pos:String} {af:Array Edge} {g:Option (Nat×Bool)}
theorem vk {l:List ByteArray} {m x:Operand} (hB:pZ w prog 9 4 b (l.map nA)) (hn:n.size<=140737488351232) (hm:cT L m=some (.map (some b))) (hx:cT L x=some (.string n)) :
 St prog ⟨d,.lookup 163 m x false,T,pos,af,g⟩ L w (.bool (tH l n)) :=
 (zR hB (string_keyed nB) zS sy Ca hm hx (j9 n hn)).eq (by rw [Mh])
theorem EY {l:List Int} {n:Int} {m x:Operand} (hB:pZ w prog 3 4 b (l.map xY)) (hn : -9223372036854775808<=n∧n<=9223372036854775807) (hm:cT L m=some (.map (some b))) (hx:cT L x=some (.int .i64 n)) :
 St prog ⟨d,.lookup 164 m x false,T,pos,af,g⟩ L w (.bool (decide (n∈l))) :=
 (zR hB (int_keyed nC) EX sy Ca hm hx (keyOf_int hn)).eq (by rw [Mi])
end
theorem JU (d:dS) (b6:Nat) (q:dS) (w:World) (h6:aS w b6 107 (fQ q)) :
 bF prog 84 ([.agg (fQ d).toArray]++[.pointer (some ⟨b6,0,none⟩)]) w fun v _=>v = .bool (decide (d.az=q.az)):=by
 refine aC func84 rfl ntmps84 rfl ?_;refine CW.seq (CW.region (SW.box rfl rfl fun b1 w1 hw lp aZ => ?_));have h6:=h6.ext hw;refine Wz ?_;exact ae.bg rfl rfl ⟨_,rfl,hw,rfl⟩
structure ah.cK (s:ah) : Prop where
 small:s.small
 ct:∀ z∈s.Heap.bp,fL z
 aE:∀ c∈s.aa,∀ x∈c.ab,-9223372036854775808<=x.At∧x.At<=9223372036854775807
 names:∀ c∈s.aa,∀ n∈c.Names,n.size<=140737488351232
theorem zT (cs:List aQ) (h:∀ c∈cs,c.small) : (bl cs).length<=cs.length*8796093022208:=by
 induction cs with
 | nil=>simp [bl]
 | cons c r ih =>
   have h1:=(h c (by simp)).names;have h2:=ih (fun x hx=>h x (by simp [hx]));simp only [bl,List.flatMap_cons,List.length_append,List.length_cons] at h2 ⊢;omega
theorem zU (cs:List aQ) (h:∀ c∈cs,c.small) : (aL cs).length<=cs.length*8796093022208:=by
 induction cs with
 | nil=>simp [aL]
 | cons c r ih =>
   have h1:=(h c (by simp)).aE;have h2:=ih (fun x hx=>h x (by simp [hx]));simp only [aL,List.flatMap_cons,List.length_append,List.length_cons,List.length_map] at h2 ⊢;omega
set_option maxHeartbeats 4000000 in
theorem mr (r:da) (s:ah) (w:World) (hr:Bh w r s) (hf:s.cK) :
 bF prog 46 [.agg (aP r).toArray] w fun v _=>v = .int .i64 (if fW s then 0 else 8):=by
 refine aC func46 rfl ntmps46 rfl ?_;refine CW.seq (CW.region (SW.box rfl rfl fun b1 w1 hw lp aZ => ?_));obtain ⟨cs,hc⟩:=hr.br;obtain ⟨z1,z2⟩:=hc.len;have wl:=hr.words.len;have hs:=hf.small;have m3:=hs.br;have Ov:=hc.cap;obtain ⟨q,hq⟩ : ∃ q,je s.Heap=q:=⟨_,rfl⟩
 have c1:∀ w',Ext w w'->bF prog 61 [.agg (dG r.Heap).toArray] w' fun v _=>v = .int .i64 (if q then 0 else 8):=fun w' hx=>by
  have:=qT r.Heap s.Heap w' (hr.heap.ext hx) hs.heap hf.ct
  rwa [hq] at this
 by_cases kF:s.Words.length=4096∧q=true∧s.aa.length<=20
 ·obtain ⟨g1,g2,g3⟩:=kF;subst g2;have hH:=cq.1 hq;simp only [if_true] at c1;repeat' (first|refine Wz ?_|refine Wm ((mo aZ)) ?_|(refine Wk (c1 _ hw) ?_;intro v w1 ai hv;subst hv;obtain ⟨hw,aZ⟩:=df ai hw aZ;clear ai))
  all_goals try omega
  clear c1;refine SW.makeMap 9 4 rfl fun bN w3 nT Tr hN => ?_
  have Ye:=hw.up Tr
  have Oi:=aZ.lt;(obtain ⟨hw,aZ⟩:=df nT hw aZ);refine SW.makeMap 3 4 rfl fun bS w4 kz Ts hS => ?_
  have ZY:=hw.up Ts
  have Oj:=hN.lt;(obtain ⟨hw,aZ,hN⟩:=cn kz hw aZ hN);have Tt:b1≠bN:=by omega
  have V1:b1≠bS:=by omega
  have Q3:bN≠bS:=by omega
  clear Oi Oj Tr Ts;refine Wz ?_
  refine CW.loop (fun k:Nat=>[(1,.pointer (some ⟨b1,0,none⟩)),(3,.map (some bN)),(4,.map (some bS)),(30,.slice r.aa.A r.aa.n r.aa.c),(31,.int .i64 (r.aa.n:Int)),(32,.int .i64 (k:Int))])
   (fun k w'=>k<=r.aa.n∧Ext w w'∧aS w' b1 44 (aP r)∧pZ w' prog 9 4 bN ((bl (s.aa.take k)).map nA)∧pZ w' prog 3 4 bS ((aL (s.aa.take k)).map xY) ∧ ∀ (i:Nat) (h:i<s.aa.length),i<k->ta s i h) (fun k=>r.aa.n-k) 0
   ⟨rfl,rfl,rfl,rfl,rfl,rfl,trivial⟩ ⟨by omega,hw,aZ,hN,hS,fun i h h'=>by omega⟩ ?_
  clear hw aZ hN hS;rintro k w' ⟨hk,hw,aZ,hN,hS,hI⟩
  have hA:=hc.row.base;by_cases gp:k<r.aa.n
  ·have N0:k<cs.length:=by omega
   have iE:k<s.aa.length:=by omega
   have j3:=hc.each.get k N0 iE;have sm:=hs.each _ (adb iE);have fS:=hf.aE _ (adb iE);have fN:=hf.names _ (adb iE);have q1:=j3.names.len;have q2:=j3.aE.len;have q4:=sm.names;have q5:=sm.aE;have bn:=zT (s.aa.take k) (fun c hc=>hs.each c (adE hc));have bs:=zU (s.aa.take k) (fun c hc=>hs.each c (adE hc));rw [aeQ] at bn bs;repeat' (first|refine Wz ?_|refine Wo hw ((hc.row.all gp)) ?_)
   have V2:=hN.lt;have V3:=hS.lt;refine SW.alloc rfl fun b6 w1 ai dw ar => ?_
   refine Wz ?_;refine SW.ag ar rfl rfl rfl rfl (BV _) fun w2 bQ hg => ?_
   have ak:=ai.own dw hg;have cS:=hw.up dw
   obtain ⟨hw,aZ,hN,hS⟩:=dv ak hw aZ hN hS;have ar:=bQ;clear bQ ai hg ak;have Tu:bN≠b6:=by omega
   have ZZ:bS≠b6:=by omega
   clear V2 V3;obtain ⟨qc,V4⟩ : ∃ qc,pu s s.aa[k]=qc:=⟨_,rfl⟩
   have cC:∀ w',Ext w w'->bF prog 82 [.agg (aP r).toArray,.agg (fQ cs[k]).toArray] w' fun v _=>v = .bool qc:=fun w' hx=>by
    have:=JS r s cs[k] s.aa[k] w' (hr.ext hx) (j3.ext hx) hs sm hH fS
    rwa [V4] at this
   cases qc
   ·have hF:fW s=false:=wB fun hm=>by
     have:=zO (hm.each k iE).may
     rw [V4] at this;cases this
    rw [hF];repeat' (first|refine Wz ?_|refine SW.skip rfl rfl rfl rfl ?_|(refine Wk (cC _ hw) ?_;intro v w1 ai hv;subst hv;obtain ⟨hw,aZ,ar,hN,hS⟩:=fD ai hw aZ ar hN hS;clear ai))
    exact ae.bg rfl rfl ⟨_,rfl,hw,rfl⟩
   ·have P3:=G9.1 V4;obtain ⟨y,hy⟩ : ∃ y,((cs.take k).any fun d=>decide (d.az=cs[k].az))=y:=⟨_,rfl⟩
    have cD:∀ w',Ext w w'->aS w' b6 107 (fQ cs[k])->bF prog 83 [.slice r.aa.A k r.aa.c,.func (.func 84) #[] [.pointer (some ⟨b6,0,none⟩)].toArray] w' fun v _=>v = .bool y:=fun w' hx h6=>by
     have:=mP r.aa.A k r.aa.c (cs.take k) w' ((hc.row.ext hx).pre (show k<=r.aa.n by omega)) 84 [.pointer (some ⟨b6,0,none⟩)] (fun d=>decide (d.az=cs[k].az)) (fun d => .agg (fQ d).toArray) (fun x=>rfl)
      (fun x _ w1 kW=>JU x b6 cs[k] w1 (h6.ext kW)) (by omega)
     rwa [hy] at this
    cases y
    ·have oD:∀ (j:Nat) (hj:j<k),(s.aa[j]'(by omega)).az≠s.aa[k].az:=fun j hj e=>by
      rw [ady] at hy;refine hy cs[j] (aea.2 ⟨j,by omega,rfl⟩) ?_;have e1:=(hc.each.get j (by omega) (by omega)).size;have e2:=j3.size;exact decide_eq_true (by rw [e1,e2];exact e)
     repeat' (first|refine Wz ?_|refine SW.want rfl rfl ?_|((first|refine Wk (cC _ hw) ?_|refine Wk (cD _ hw ar) ?_);intro v w1 ai hv;subst hv;obtain ⟨hw,aZ,ar,hN,hS⟩:=fD ai hw aZ ar hN hS;clear ai)|(refine SW.st (dn (k:=k) rfl rfl (by omega)) rfl ?_)|(refine SW.st (iK (vs:=[.pointer (some ⟨b6,0,none⟩)]) rfl) rfl ?_))
     obtain ⟨acc,OK⟩ : ∃ acc,bl (s.aa.take k)=acc:=⟨_,rfl⟩;rw [OK] at hN bn;obtain ⟨P4,OL⟩ : ∃ P4,aL (s.aa.take k)=P4:=⟨_,rfl⟩;rw [OL] at hS bs;clear cC cD
     refine CW.loop (fun j:Nat=>[(1,.pointer (some ⟨b1,0,none⟩)),(3,.map (some bN)),(4,.map (some bS)),(6,.pointer (some ⟨b6,0,none⟩)),(30,.slice r.aa.A r.aa.n r.aa.c),(31,.int .i64 (r.aa.n:Int)),(32,.int .i64 (k:Int)),(50,.slice cs[k].Names.A cs[k].Names.n cs[k].Names.c),(51,.int .i64 (cs[k].Names.n:Int)),(52,.int .i64 (j:Int))])
      (fun j w'=>j<=cs[k].Names.n∧Ext w w'∧aS w' b1 44 (aP r)∧aS w' b6 107 (fQ cs[k])∧pZ w' prog 9 4 bN ((acc++s.aa[k].Names.take j).map nA)∧pZ w' prog 3 4 bS (P4.map xY) ∧
        ∀ (i:Nat) (h:i<s.aa[k].Names.length),i<j->gz s.aa[k].Names[i]=true∧s.aa[k].Names[i]∉acc++s.aa[k].Names.take i∧(0<i->eJ (s.aa[k].Names[i-1]'(by omega)) s.aa[k].Names[i]=true)) (fun j=>cs[k].Names.n-j) 0
      ⟨rfl,rfl,rfl,rfl,rfl,rfl,rfl,rfl,rfl,rfl,trivial⟩ ⟨by omega,hw,aZ,ar,by simpa using hN,hS,fun i h h'=>by omega⟩ ?_
     clear hw aZ hN hS ar;rintro j w' ⟨hj,hw,aZ,ar,hN,hS,hJ⟩
     have oT:=j3.names.base;by_cases pO:j<cs[k].Names.n
     ·have rK:j<s.aa[k].Names.length:=by omega
      obtain ⟨nm,sA⟩ : ∃ nm,s.aa[k].Names[j]=nm:=⟨_,rfl⟩;have gN:=j3.names.one pO (u := .string nm) (by rw [<- sA];rfl);have Q4:nm.size<=140737488351232:=by rw [<- sA];exact fN _ (adb rK)
      obtain ⟨qn,V5⟩ : ∃ qn,gz nm=qn:=⟨_,rfl⟩;obtain ⟨qh,Q5⟩ : ∃ qh,tH (acc++s.aa[k].Names.take j) nm=qh:=⟨_,rfl⟩
      have Tv:∀ w',bF prog 47 [.string nm] w' fun v _=>v = .bool qn:=fun w'=>by
       have:=EH nm w' Q4
       rwa [V5] at this
      have Mj:(qn=false∨qh=true ∨ ∃ Oz : 0<j,eJ (s.aa[k].Names[j-1]'(by omega)) nm=false)->fW s=false:=fun h=>wB fun hm=>by
       have h1:=(hm.each k iE).names.each j rK;rw [sA,OK] at h1;rcases h with h|h|⟨Oz,h⟩
       ·rw [V5,h] at h1;exact absurd h1.1 (by simp)
       ·exact h1.2.1 (jD.1 (by rw [Q5,h]))
       ·rw [h1.2.2 Oz] at h;cases h
      cases qn
      ·rw [Mj (.inl rfl)];repeat' (first|refine Wz ?_|refine SW.skip rfl rfl rfl rfl ?_|refine Wn hw gN ?_|(refine Wk (Tv _) ?_;intro v w1 ai hv;subst hv;obtain ⟨hw,aZ,ar,hN,hS⟩:=fD ai hw aZ ar hN hS;clear ai))
       exact ae.bg rfl rfl ⟨_,rfl,hw,rfl⟩
      ·cases qh
       ·have go:∀ (P5 : 0<j->eJ (s.aa[k].Names[j-1]'(by omega)) nm=true) (i:Nat) (h:i<s.aa[k].Names.length),i<j+1->gz s.aa[k].Names[i]=true∧s.aa[k].Names[i]∉acc++s.aa[k].Names.take i∧(0<i->eJ (s.aa[k].Names[i-1]'(by omega)) s.aa[k].Names[i]=true):=fun P5 i h h'=>by
         by_cases ei:i=j
         ·subst ei;rw [sA];exact ⟨V5,(fun hm=>by rw [jD.2 hm] at Q5;cases Q5),P5⟩
         ·exact hJ i h (by omega)
        rcases adu j with Oz|Oz
        ·repeat' (first|refine Wz ?_|refine SW.want rfl rfl ?_|refine Wn hw gN ?_|(refine Wk (Tv _) ?_;intro v w1 ai hv;subst hv;obtain ⟨hw,aZ,ar,hN,hS⟩:=fD ai hw aZ ar hN hS;clear ai)|(refine SW.st ((vk hN Q4 rfl rfl).eq (congrArg Value.bool Q5)) rfl ?_))
         all_goals try omega
         refine SW.Hb hN (string_keyed nB) zS sy (by simp only [List.length_map,List.length_append,List.length_take];unfold maxLen;omega) rfl rfl rfl (j9 nm Q4) trivial fun w5 Tw hg => ?_
         have hw:=hw.own Ye hg;have aZ:=aZ.grown hg (by simpa using Tt);have ar:=ar.grown hg (by simpa using Tu.symm);have hS:=hS.grown hg (by simpa using Q3.symm);have eN:(acc++s.aa[k].Names.take j).map nA++[nA nm]=(acc++s.aa[k].Names.take (j+1)).map nA:=by rw [adk rK,sA];simp
         rw [eN] at Tw;refine Wz ?_;exact ae.again (j+1) ⟨rfl,rfl,rfl,rfl,rfl,rfl,rfl,rfl,rfl,rfl,trivial⟩ (by omega) ⟨by omega,hw,aZ,ar,Tw,hS,go (fun h=>by omega)⟩
        ·obtain ⟨ql,Tx⟩ : ∃ ql,(!eJ (s.aa[k].Names[j-1]'(by omega)) nm)=ql:=⟨_,rfl⟩;have gP:=j3.names.one (show j-1<cs[k].Names.n by omega) (u := .string (s.aa[k].Names[j-1]'(by omega))) rfl;cases ql
         ·repeat' (first|refine Wz ?_|refine SW.want rfl rfl ?_|refine SW.st (cf (j-1) rfl rfl (by assumption) (by omega) (by omega)) rfl ?_|refine Wn hw gN ?_|refine Wn hw gP ?_|(refine Wk (Tv _) ?_;intro v w1 ai hv;subst hv;obtain ⟨hw,aZ,ar,hN,hS⟩:=fD ai hw aZ ar hN hS;clear ai)|(refine SW.st ((vk hN Q4 rfl rfl).eq (congrArg Value.bool Q5)) rfl ?_)|(refine SW.st ((EG rfl rfl).eq (congrArg Value.bool Tx)) rfl ?_))
          all_goals try omega
          refine SW.Hb hN (string_keyed nB) zS sy (by simp only [List.length_map,List.length_append,List.length_take];unfold maxLen;omega) rfl rfl rfl (j9 nm Q4) trivial fun w5 Tw hg => ?_
          have hw:=hw.own Ye hg;have aZ:=aZ.grown hg (by simpa using Tt);have ar:=ar.grown hg (by simpa using Tu.symm);have hS:=hS.grown hg (by simpa using Q3.symm);have eN:(acc++s.aa[k].Names.take j).map nA++[nA nm]=(acc++s.aa[k].Names.take (j+1)).map nA:=by rw [adk rK,sA];simp
          rw [eN] at Tw;refine Wz ?_;exact ae.again (j+1) ⟨rfl,rfl,rfl,rfl,rfl,rfl,rfl,rfl,rfl,rfl,trivial⟩ (by omega) ⟨by omega,hw,aZ,ar,Tw,hS,go (fun _=>by simpa using Tx)⟩
         ·rw [Mj (.inr (.inr ⟨Oz,by simpa using Tx⟩))];repeat' (first|refine Wz ?_|refine SW.want rfl rfl ?_|refine SW.st (cf (j-1) rfl rfl (by assumption) (by omega) (by omega)) rfl ?_|refine Wn hw gN ?_|refine Wn hw gP ?_|(refine Wk (Tv _) ?_;intro v w1 ai hv;subst hv;obtain ⟨hw,aZ,ar,hN,hS⟩:=fD ai hw aZ ar hN hS;clear ai)|(refine SW.st ((vk hN Q4 rfl rfl).eq (congrArg Value.bool Q5)) rfl ?_)|(refine SW.st ((EG rfl rfl).eq (congrArg Value.bool Tx)) rfl ?_))
          all_goals try omega
          exact ae.bg rfl rfl ⟨_,rfl,hw,rfl⟩
       ·rw [Mj (.inr (.inl rfl))];repeat' (first|refine Wz ?_|refine SW.want rfl rfl ?_|refine Wn hw gN ?_|(refine Wk (Tv _) ?_;intro v w1 ai hv;subst hv;obtain ⟨hw,aZ,ar,hN,hS⟩:=fD ai hw aZ ar hN hS;clear ai)|(refine SW.st ((vk hN Q4 rfl rfl).eq (congrArg Value.bool Q5)) rfl ?_))
        exact ae.bg rfl rfl ⟨_,rfl,hw,rfl⟩
     ·have V6:yE (bl (s.aa.take k)) s.aa[k].Names:=⟨fun i h=>by rw [OK];exact hJ i h (by omega)⟩
      rw [adr (by omega)] at hN;refine Wz ?_;clear hJ hj pO oT
      refine CW.loop (fun j:Nat=>[(1,.pointer (some ⟨b1,0,none⟩)),(3,.map (some bN)),(4,.map (some bS)),(30,.slice r.aa.A r.aa.n r.aa.c),(31,.int .i64 (r.aa.n:Int)),(32,.int .i64 (k:Int)),(83,.slice cs[k].ab.A cs[k].ab.n cs[k].ab.c),(84,.int .i64 (cs[k].ab.n:Int)),(85,.int .i64 (j:Int))])
       (fun j w'=>j<=cs[k].ab.n∧Ext w w'∧aS w' b1 44 (aP r)∧pZ w' prog 9 4 bN ((acc++s.aa[k].Names).map nA)∧pZ w' prog 3 4 bS ((P4++(s.aa[k].ab.take j).map fun x=>x.At).map xY) ∧
         ∀ (i:Nat) (h:i<s.aa[k].ab.length),i<j->s.aa[k].ab[i].At∉P4++(s.aa[k].ab.take i).map fun x=>x.At) (fun j=>cs[k].ab.n-j) 0
       ⟨rfl,rfl,rfl,rfl,rfl,rfl,rfl,rfl,rfl,trivial⟩ ⟨by omega,hw,aZ,hN,by simpa using hS,fun i h h'=>by omega⟩ ?_
      clear hw aZ hN hS ar;rintro j w' ⟨hj,hw,aZ,hN,hS,hJ⟩
      have oT:=j3.aE.base;by_cases pO:j<cs[k].ab.n
      ·have rK:j<s.aa[k].ab.length:=by omega
       obtain ⟨x,hx⟩ : ∃ x,s.aa[k].ab[j]=x:=⟨_,rfl⟩;have gS:=j3.aE.all pO;rw [hx] at gS;have fx : -9223372036854775808<=x.At∧x.At<=9223372036854775807:=by rw [<- hx];exact fS _ (adb rK)
       repeat' (first|refine Wz ?_|refine Wo hw gS ?_)
       refine SW.alloc rfl fun qC w1 ai oU aH => ?_
       skip;refine SW.ag aH rfl rfl rfl rfl (iy.one (enc:=bh) _) fun w2 bB hg => ?_
       have ak:=ai.own oU hg;have im:=hw.up oU
       obtain ⟨hw,aZ,hN,hS⟩:=dv ak hw aZ hN hS;have aH:=bB;clear bB ai hg ak;by_cases m8:x.At∈P4++(s.aa[k].ab.take j).map fun x=>x.At
       ·have V7:=decide_eq_true m8
        rw [wB fun hm=>by
         have:=(hm.each k iE).aE j rK
         rw [hx,OL] at this;exact this m8]
        repeat' (first|refine Wz ?_|(refine SW.st ((EY hS fx rfl rfl).eq (congrArg Value.bool V7)) rfl ?_))
        exact ae.bg rfl rfl ⟨_,rfl,hw,rfl⟩
       ·have V7:=decide_eq_false m8;repeat' (first|refine Wz ?_|(refine SW.st ((EY hS fx rfl rfl).eq (congrArg Value.bool V7)) rfl ?_))
        refine SW.Hb hS (int_keyed nC) EX sy (by simp only [List.length_map,List.length_append,List.length_take];unfold maxLen;omega) rfl rfl rfl (keyOf_int fx) trivial fun w5 JV hg => ?_
        have hw:=hw.own ZY hg;have aZ:=aZ.grown hg (by simpa using V1);have hN:=hN.grown hg (by simpa using Q3);have eN:(P4++(s.aa[k].ab.take j).map fun x=>x.At).map xY++[xY x.At]=(P4++(s.aa[k].ab.take (j+1)).map fun x=>x.At).map xY:=by rw [adk rK,hx];simp
        rw [eN] at JV;refine Wz ?_
        exact ae.again (j+1) ⟨rfl,rfl,rfl,rfl,rfl,rfl,rfl,rfl,rfl,trivial⟩ (by omega) ⟨by omega,hw,aZ,hN,JV,fun i h h'=>by
         by_cases ei:i=j
         ·subst ei;rw [hx];exact m8
         ·exact hJ i h (by omega)⟩
      ·rw [adr (by omega),<- OL,<- rG s.aa k iE] at hS;rw [<- OK,<- rF s.aa k iE] at hN;refine Wz ?_
       exact ae.again (k+1) ⟨rfl,rfl,rfl,rfl,rfl,rfl,trivial⟩ (by omega) ⟨by omega,hw,aZ,hN,hS,fun i h h'=>by
        by_cases ei:i=k
        ·subst ei;exact ⟨P3,oD,V6,fun i h=>by rw [OL];exact hJ i h (by omega)⟩
        ·exact hI i h (by omega)⟩
    ·have hF:fW s=false:=wB fun hm=>by
      obtain ⟨d,hd,he⟩:=adq.1 hy;obtain ⟨j,hj,rfl⟩:=aea.1 hd;have e1:=(hc.each.get j (by omega) (by omega)).size;have e2:=j3.size;have:=of_decide_eq_true he
      exact (hm.each k iE).size j (by omega) (by rw [<- e1,<- e2];exact this)
     rw [hF];repeat' (first|refine Wz ?_|refine SW.want rfl rfl ?_|((first|refine Wk (cC _ hw) ?_|refine Wk (cD _ hw ar) ?_);intro v w1 ai hv;subst hv;obtain ⟨hw,aZ,ar,hN,hS⟩:=fD ai hw aZ ar hN hS;clear ai)|(refine SW.st (dn (k:=k) rfl rfl (by omega)) rfl ?_)|(refine SW.st (iK (vs:=[.pointer (some ⟨b6,0,none⟩)]) rfl) rfl ?_))
     exact ae.bg rfl rfl ⟨_,rfl,hw,rfl⟩
  ·rw [mq ⟨g1,hH,g3,fun i h=>hI i h (by omega)⟩];refine Wz ?_;exact ae.bg rfl rfl ⟨_,rfl,hw,rfl⟩
 ·have hF:fW s=false:=wB fun hm=>kF ⟨hm.words,by rw [<- hq];exact Dh hm.heap,hm.most⟩
  rw [hF];cases q
  all_goals simp only [if_true,Bool.false_eq_true,if_false] at c1
  all_goals simp only [true_and,Bool.false_eq_true,false_and,and_false,not_false_eq_true] at kF
  ·rcases (show s.Words.length≠4096∨s.Words.length=4096 by omega) with g|g
   all_goals
    repeat' (first|refine Wz ?_|refine Wm ((mo aZ)) ?_|(refine Wk (c1 _ hw) ?_;intro v w1 ai hv;subst hv;obtain ⟨hw,aZ⟩:=df ai hw aZ;clear ai))
    all_goals try omega
    exact ae.bg rfl rfl ⟨_,rfl,hw,rfl⟩
  ·rcases (show s.Words.length≠4096∨(s.Words.length=4096∧20<s.aa.length) by omega) with g|g
   all_goals
    repeat' (first|refine Wz ?_|refine Wm ((mo aZ)) ?_|(refine Wk (c1 _ hw) ?_;intro v w1 ai hv;subst hv;obtain ⟨hw,aZ⟩:=df ai hw aZ;clear ai))
    all_goals try omega
    exact ae.bg rfl rfl ⟨_,rfl,hw,rfl⟩
variable {β:Type}
theorem zV:∀ (n:Nat) (l:List Nat),l.Nodup->(∀ x∈l,x<n)->l.length<=n
 | 0,l,_,h=>by
   cases l with
   | nil=>simp
   | cons a r=>exact absurd (h a (by simp)) (by omega)
 | n+1,l,hd,h=>by
   have h1:=zV n (l.erase n) (hd.erase n) (fun x hx=>by
    have:=hd.mem_erase_iff.1 hx
    have:=h x this.2
    omega)
   have h2:l.length<=(l.erase n).length+1:=by
    rw [List.length_erase];split<;>omega
   omega
theorem Cb {f : α -> β} {l:List α} (hd:l.Nodup) (hf:∀ x∈l,∀ y∈l,f x=f y->x=y) : (l.map f).Nodup:=by
 induction l with
 | nil=>simp
 | cons a r ih =>
   rw [aeb] at hd;rw [aet,aeb];refine ⟨fun h => ?_,ih hd.2 fun x hx y hy=>hf x (by simp [hx]) y (by simp [hy])⟩;obtain ⟨b,hb,e⟩:=adv.1 h;have:=hf b (by simp [hb]) a (by simp) e
   subst this;exact hd.1 hb
theorem qY {acc l:List α} (h:acc.Nodup) : ∀ (j:Nat),(∀ (k:Nat) (hk:k<l.length),k<j->l[k]∉acc++l.take k)->(acc++l.take j).Nodup
 | 0,_=>by simpa using h
 | j+1,hi=>by
   have ih:=qY (l:=l) h j (fun k hk hj=>hi k hk (by omega));by_cases hj:j<l.length
   ·rw [adk hj,<- adj,adT];refine ⟨ih,by simp,fun a ha b hb e => ?_⟩;simp at hb;subst hb e;exact hi j hj (by omega) ha
   ·rw [adr (by omega)];rwa [adr (by omega)] at ih
def DA (b:UInt8) : Nat:=if b.toNat<97 then b.toNat-47 else b.toNat-86
def rH:List UInt8->Nat
 | []=>0
 | b::r=>DA b+37*rH r
theorem vl {b:UInt8} (h:tD b=false) : 1<=DA b∧DA b<=36:=by
 unfold tD at h;simp at h;unfold DA;split<;>omega
theorem Mk {b c:UInt8} (h:tD b=false) (k:tD c=false) (e:DA b=DA c) : b=c:=by
 unfold tD at h k;simp at h k;unfold DA at e;apply UInt8.toNat_inj.1;split at e<;>split at e<;>omega
theorem EZ:∀ (l:List UInt8),(∀ b∈l,tD b=false)->rH l<37 ^ l.length
 | [],_=>by simp [rH]
 | b::r,h=>by
   have h1:=vl (h b (by simp));have h2:=EZ r (fun x hx=>h x (by simp [hx]));simp only [rH,List.length_cons,Nat.pow_succ];omega
theorem Cc:∀ (l m:List UInt8),(∀ b∈l,tD b=false)->(∀ b∈m,tD b=false)->rH l=rH m->l=m
 | [],[],_,_,_=>rfl
 | [],c::t,_,k,e=>by
   have:=vl (k c (by simp))
   simp only [rH] at e;omega
 | b::r,[],h,_,e=>by
   have:=vl (h b (by simp))
   simp only [rH] at e;omega
 | b::r,c::t,h,k,e=>by
   have h1:=vl (h b (by simp));have h2:=vl (k c (by simp));simp only [rH] at e;have e1:DA b=DA c:=by omega
   have e2:rH r=rH t:=by omega
   rw [Mk (h b (by simp)) (k c (by simp)) e1,Cc r t (fun x hx=>h x (by simp [hx])) (fun x hx=>k x (by simp [hx])) e2]
theorem wF {s:ByteArray}:gz s=true↔(1<=s.size∧s.size<=8) ∧ ∀ b∈s.data.toList,tD b=false:=by
 unfold gz;rw [adR,decide_eq_true_iff,afb,ady];constructor
 ·rintro ⟨h,k⟩
  exact ⟨by omega,fun b hb=>by simpa using k b hb⟩
 ·rintro ⟨h,k⟩
  exact ⟨by omega,fun b hb=>by simp [k b hb]⟩
theorem E0 {l:List ByteArray} (hd:l.Nodup) (hv:∀ n∈l,gz n=true) : l.length<=3512479453921:=by
 have h:=zV 3512479453921 (l.map fun n=>rH n.data.toList) (Cb hd fun x hx y hy e => ?_) (fun z hz => ?_)
 ·simpa using h
 ·have h1:=Cc _ _ (wF.1 (hv x hx)).2 (wF.1 (hv y hy)).2 e;cases x;cases y
  simpa using h1
 ·obtain ⟨n,hn,rfl⟩:=adv.1 hz;obtain ⟨h1,h2⟩:=wF.1 (hv n hn);have h3:=EZ _ h2;have h4:n.data.toList.length<=8:=by rw [ael];exact h1.2
  have h5 : 37 ^ n.data.toList.length<=37 ^ 8:=Nat.pow_le_pow_right (by omega) h4
  exact ad7 h3 h5
theorem OM (h:fV l) (hf:bP l a=true) : 0<=a∧a<=255:=by
 obtain ⟨hm,e⟩:=jB hf;have:=(h.each _ hm).2.1
 omega
theorem vj.at_ {h:i<c.ab.length} (hm:vj s c i h) (hH:bK s.Heap) (ho : 0<=c.Order) : bP s.Heap.Live c.ab[i].At=true∧0<=c.ab[i].At∧c.ab[i].At<=255:=by
 have hf:bP s.Heap.Live c.ab[i].At=true:=by
  cases hf:bP s.Heap.Live c.ab[i].At
  ·have:=hm.live
   rw [Dy hf] at this;omega
  ·rfl
 exact ⟨hf,OM hH.live hf⟩
theorem fc.oV (hm:fc s c) (hH:bK s.Heap) : ∀ x∈c.ab,0<=x.At∧x.At<=255:=fun x hx=>by
 obtain ⟨i,hi,rfl⟩:=ade hx;exact ((hm.aE i hi).at_ hH (cj hm.lay).2.1.1).2
theorem E1 (hH:bK s.Heap) : ∀ (k:Nat),k<=s.aa.length->(∀ (i:Nat) (h:i<s.aa.length),i<k->ta s i h) ->
 ((bl (s.aa.take k)).Nodup ∧ ∀ n∈bl (s.aa.take k),gz n=true)∧((aL (s.aa.take k)).Nodup ∧ ∀ a∈aL (s.aa.take k),0<=a∧a<=255)
 | 0,_,_=>by simp [bl,aL]
 | k+1,hk,hI=>by
   obtain ⟨⟨h1,h2⟩,h3,h4⟩:=E1 hH k (by omega) (fun i h h'=>hI i h (by omega));have hc:=hI k (by omega) (by omega);rw [rF _ _ (by omega),rG _ _ (by omega)];refine ⟨⟨?_,fun n hn => ?_⟩,?_,fun a ha => ?_⟩
   ·have:=qY (l:=(s.aa[k]'(by omega)).Names) h1 (s.aa[k]'(by omega)).Names.length (fun i hi _=>(hc.names.each i hi).2.1)
    rwa [ad2] at this
   ·rcases adm.1 hn with hn|hn
    ·exact h2 n hn
    ·obtain ⟨i,hi,rfl⟩:=ade hn;exact (hc.names.each i hi).1
   ·have:=qY (l:=(s.aa[k]'(by omega)).ab.map fun x=>x.At) h3 (s.aa[k]'(by omega)).ab.length (fun i hi _=>by
     have:=hc.aE i (by simpa using hi)
     simpa [List.map_take] using this)
    rwa [<- List.map_take,ad2] at this
   ·rcases adm.1 ha with ha|ha
    ·exact h4 a ha
    ·obtain ⟨x,hx,rfl⟩:=adv.1 ha;exact hc.may.oV hH x hx
variable {af:Array Edge} {ops:Array Oper} {Q:Exit->Act->World->Prop} {bytes c2 dd lo m sz:Nat} {A X:Option Addr} {T:TypeId} {enc:α -> List Value}
section
variable {P:Program} {n:Nat} {ops:Array Oper} {Q:Exit->Act->World->Prop} {rest:List Oper} {L:Env} {w:World} {d:Nat} {T:TypeId} {pos:String} {af:Array Edge}
end
section
variable {α:Type} {P:Program} {w:World} {lo:Nat} {t e:TypeId} {z:Value} {sz bytes:Nat} {enc : α -> List Value} {A X:Option Addr} {n c m d:Nat} {l ys:List α}
theorem E2 [S:bz P t e sz] [T:dr P e z sz bytes] [E:iy enc sz] (ty:TypeId) (hO:Own w lo e sz enc A n c l) (hS:Sl w sz enc X m ys) (dD:lo<=w.heap.size) (Eh : 0<m)
 (hb:(n+m)*bytes<=140737488355328) (hm:n+m<=maxLen) :
 ∃ A' c' w',(Builtin.append_ #[t,t] ty #[.slice A n c,.slice X m d]).run P w = .ok (.slice A' (n+m) c') w' ∧
  ((A'=A∧c'=c∧Own w' lo e sz enc A (n+m) c (l++ys)∧w.grownBy w' (aJ A c))∨(Own w' w.heap.size e sz enc A' (n+m) c' (l++ys)∧w.grownBy w' none)):=by
 obtain ⟨i,hi,hz,hs,yo⟩:=eB P e (z:=z) (sz:=sz) (bytes:=bytes);have Lj:(ys.flatMap enc).length=m*sz:=by rw [aW,hS.len]
 have pe:∀ u∈ys.flatMap enc,u.oneCell'=true:=fun u hu=>by
  obtain ⟨x,_,hx⟩:=adx.1 hu;exact E.one x u hx
 have QC:(l++ys).flatMap enc=l.flatMap enc++ys.flatMap enc:=adt
 have mH:(l++ys).length=n+m:=by rw [adp,hO.len,hS.len]
 obtain ⟨ad,rfl⟩:=adH.1 (hS.base Eh);have uV:=du T.pos hS;have V8:(l.flatMap enc).length=n*sz:=by rw [aW,hO.len]
 have uL:∀ b,A=some b->c<n+m->(∀ j u,(l.flatMap enc)[j]?=some u->w.cell? (b.add j)=some u) ->
  ∃ A' c' w',(Builtin.append_ #[t,t] ty #[.slice A n c,.slice (some ad) m d]).run P w = .ok (.slice A' (n+m) c') w'∧(Own w' w.heap.size e sz enc A' (n+m) c' (l++ys)∧w.grownBy w' none):=by
  rintro b rfl eX hold;obtain ⟨v',w',hr,h2,h3⟩:=run_append_arg_grows (P:=P) w t ty e i z sz bytes S.oz hi hz hs yo T.zc T.pos b n c (l.flatMap enc) V8 hold ad m d (ys.flatMap enc) Lj uV eX hm hb;rw [<- QC] at h2;obtain ⟨A',c',rfl,ho⟩:=Own.sY h2 mH;exact ⟨A',c',w',hr,ho,h3⟩
 rcases hO.row with ⟨rfl,rfl⟩|⟨hc,g,jV,rfl,PH,dE,qE,xO,Ei,uf⟩
 ·have hl:l=[]:=adw hO.len
  subst hl;cases A with
  | none =>
    obtain ⟨v',w',hr,h2,h3,_⟩:=run_append_own (P:=P) w w.heap.size t ty e i z sz bytes S.oz hi hz hs yo T.zc T.pos (.slice none 0 0) 0 [] (World.ownsRow_nil _ _ _ _) ad m d (ys.flatMap enc) Lj uV pe hm hb (adg _);obtain ⟨A',c',rfl,ho⟩:=Own.sY (m:=0+m) (l:=[]++ys) (enc:=enc) (by simpa using h2) (by simpa using hS.len);exact ⟨A',c',w',hr,.inr ⟨ho,by simpa [Value.ownBlock] using h3⟩⟩
  | some b =>
    obtain ⟨A',c',w',hr,h⟩:=uL b rfl (by omega) (by simp);exact ⟨A',c',w',hr,.inr h⟩
 ·by_cases ky:n+m<=c
  ·obtain ⟨A',c',w',hr,h1,h2⟩:=r8 (P:=P) (t:=t) ty hO hS (d:=d) dD hb hm;have ph:=run_append_room (P:=P) w t ty e i S.oz hi g n c jV dE ad m d (ys.flatMap enc) (by rw [hs];exact Lj) uV pe ky (by rw [hs,Lj,Ei,<- ad0];exact adD _ ky);have he:=hr.symm.trans ph;injection he with he _
   injection he with e1 _ e3
   subst e1 e3;exact ⟨_,_,w',hr,.inl ⟨rfl,rfl,h1,h2⟩⟩
  ·obtain ⟨A',c',w',hr,h⟩:=uL ⟨g,0,none⟩ rfl (by omega) ((hO.owns hc).cells (g:=g) (by simp [Value.ownBlock]));exact ⟨A',c',w',hr,.inr h⟩
end
theorem SW.yF {n:Nat} {rest:List Oper} {L:Env} {pos:String} {z:Value} {c:Nat} {l ys:List α} [bz P t e sz] [dr P e z sz bytes] [iy enc sz] {x:Operand}
 (hO:Own w lo e sz enc A k c l) (hS:Sl w sz enc X m ys) (dD:lo<=w.heap.size) (Eh : 0<m) (hx:cT L x=some (.slice A k c)) (hy:cT L y=some (.slice X m c2)) (hn:Nat.blt dd n=true)
 (hb:(k+m)*bytes<=140737488355328) (hm:k+m<=9223372036854775807)
 (h:∀ A' c' w',((A'=A∧c'=c∧Own w' lo e sz enc A (k+m) c (l++ys)∧w.grownBy w' (aJ A c))∨(Own w' w.heap.size e sz enc A' (k+m) c' (l++ys)∧w.grownBy w' none))->SW P n ops (.gM Q) rest ((dd,.slice A' (k+m) c')::L) w') :
 SW P n ops (.gM Q) (⟨some dd,.call ⟨.builtin .append,#[x,y],#[t,t]⟩,T,pos,af,none⟩::rest) L w :=
 ⟨fun a ha=>by
  obtain ⟨A',c',w',hr,h1⟩:=E2 (P:=P) (t:=t) T hO hS (d:=c2) dD Eh hb (by simp only [maxLen];omega);simp only [swp,wpList,Region.wanted,if_true];refine .inl ?_;unfold Oper.wp
  have:(execOp a.eval ⟨some dd,.call ⟨.builtin .append,#[x,y],#[t,t]⟩,T,pos,af,none⟩).run P w = .ok (.value (.slice A' (k+m) c')) w':=by
   simp [execOp,resolve,invoke,builtin,ha.eval hx,ha.eval hy,hr]
  rw [this,Oper.upon_value];exact (h A' c' w' h1).out _ (ha.put hn _)⟩
set_option maxHeartbeats 4000000 in
theorem zW (A:Option Addr) (n c lo:Nat) (l:List dx) (w:World) (hO:Own w lo 159 4 cm A n c l) (i:Nat) (hi:i<=n) (x:dx) (b:Nat) (hB:aS w b 159 (cm x)) (bJ:aJ A c≠some b) (hn:(n+1)*48<=140737488355328) (dD:lo<=w.heap.size) :
 iO prog 143 [.slice A n c,.int .i64 (i:Int),.slice (some ⟨b,0,none⟩) 1 1] w fun v w' => ∃ A' c',v = .slice A' (n+1) c'∧Own w' lo 159 4 cm A' (n+1) c' (aN l i x)∧w.grownBy w' (aJ A c) ∧ ∀ k,aJ A' c'=some k->aJ A c=some k∨w.heap.size<=k:=by
 refine dl func143 rfl ntmps143 rfl ?_;have hle:=hO.le;have mH:=hO.len;have hA:=hO.sl.base;have hw:=Ext.refl w;have kW:Sl w 4 cm (some ⟨b,0,none⟩) 1 [x]:=aS.ue hB
 have nW:(cm x).length=4:=rfl
 have pf:∀ q:List dx,(q.flatMap cm).length=q.length*4:=fun q=>aW q
 have pe:∀ (q:List dx) (v:Value),v∈q.flatMap cm->v.oneCell'=true:=fun q v hv=>by
  obtain ⟨u,_,hu⟩:=adx.1 hv;exact iy.one (enc:=cm) u v hu
 by_cases cy:i=n
 ·subst cy;repeat' (first|refine Wz ?_|(refine SW.st (bd (k:=i) rfl rfl (by omega) (by omega)) rfl ?_))
  all_goals try omega
  refine SW.yF hO kW dD (by omega) rfl rfl rfl (by omega) (by omega) fun A2 c2 w2 xq => ?_
  have j1:Own w2 lo 159 4 cm A2 (i+1) c2 (l++[x])∧w.grownBy w2 (aJ A c) ∧ ∀ k,aJ A2 c2=some k->aJ A c=some k∨w.heap.size<=k:=by
   rcases xq with ⟨rfl,rfl,h1,h2⟩|⟨h1,h2⟩
   ·exact ⟨h1,h2,fun k e => .inl e⟩
   ·exact ⟨h1.low dD,(aD (Ext.refl w) h2 (adg _) (fun k e=>by cases e)).gr _,fun k e => .inr (h1.a9 k e)⟩
  obtain ⟨bj,hg,kq⟩:=j1;refine Wz ?_;refine ae.bg rfl rfl ⟨_,rfl,A2,c2,rfl,?_,hg,kq⟩;have e:aN l i x=l++[x]:=by unfold aN;rw [adr (by omega),aen (by omega)];simp
  rw [e];exact bj
 ·by_cases ky:n+1<=c
  ·obtain ⟨g,rest,rfl,h1,h2,h3,h4,h5,h6⟩:=hO.opened (by omega);have D7:g≠b:=fun e=>bJ (by rw [h6,e])
   have es:l.flatMap cm++rest=(l.take i).flatMap cm++((l.drop i).flatMap cm++rest):=by rw [<- adj,<- adt,adh]
   have e1:((l.take i).flatMap cm).length=i*4:=by rw [pf];simp;omega
   have e2:((l.drop i).flatMap cm).length=(n-i)*4:=by rw [pf];simp [mH]
   have lU:=hO.sl.drop i c (by omega) (by omega);rw [if_neg (by omega)] at lU;rw [es] at h2
   have Jt:∀ w',Ext w w'->(Extern.SlicesOverlaps.overlaps #[38,38] #[4] #[.slice (some ⟨b,0,none⟩) 1 1,.slice (if c=i+1 then (some ⟨g,0,none⟩) else (some (⟨g,0,none⟩ : Addr)).map (·.add ((i+1)*4))) (n+1-(i+1)) (c-(i+1))]).run prog w' = .ok (.bool false) w':=fun w' hx=>by
    rw [if_neg (by omega),aeV,dc];have b1:=hB.ext hx;have b2:=h2.ext hx;unfold aS at b1 b2
    exact Lib.run_overlaps_apart w' 38 4 159 (bz.oz (t:=38)) 4 (fun w0=>run_sizeOf (bz.size (t:=38)) w0) ⟨b,0,none⟩ ⟨g,(i+1)*4,none⟩ 1 1 _ _ (fun e=>D7 e.symm) 159 159 (cm x).toArray.size ((l.take i).flatMap cm++((l.drop i).flatMap cm++rest)).toArray.size
     (by simp only [World.shape?,b1]) (by simp only [World.shape?,b2]) (by simp [e1,e2];omega) (by simp [World.frozen?,b1]) (by simp [World.frozen?,b1])
   repeat' (first|refine Wz ?_|(refine CW.gu rfl ?_)|(refine SW.st (bd (k:=i) rfl rfl (by omega) (by omega)) rfl ?_)|(refine SW.st (dn (k:=n+1) rfl rfl (by omega)) rfl ?_)|(refine SW.st (bd (k:=i+1) rfl rfl (by omega) (by omega)) rfl ?_)|(refine SW.entry func165 (by kernel_rfl) (by kernel_rfl) (by kernel_rfl) (e:=Extern.SlicesOverlaps.overlaps #[38,38] #[4]) (by kernel_rfl) rfl rfl (Jt _ hw) ?_))
   all_goals try omega
   have oD:((n-i)+1)*4<=((l.drop i).flatMap cm++rest).length:=by rw [adp,e2];omega
   have e4:(l.drop i).flatMap cm++rest=((l.drop i).flatMap cm++rest).take 4++(((l.drop i).flatMap cm++rest).drop 4).take ((n-i)*4)++((l.drop i).flatMap cm++rest).drop (4+(n-i)*4):=by
    rw [adj,<- aeg,adh,adh]
   generalize GG:((l.drop i).flatMap cm++rest).take 4=D1 at e4
   generalize GH:(((l.drop i).flatMap cm++rest).drop 4).take ((n-i)*4)=D2 at e4
   generalize GI:((l.drop i).flatMap cm++rest).drop (4+(n-i)*4)=D3 at e4
   have f1:D1.length=4:=by rw [<- GG];simp only [List.length_take];omega
   have f2:D2.length=(n-i)*4:=by rw [<- GH];simp only [List.length_take,List.length_drop];omega
   have f3:D3.length+4=rest.length:=by rw [<- GI];simp only [List.length_drop,List.length_append,e2];omega
   rw [e4] at h2;refine CW.any 8 mixed (dk (by kernel_rfl)) rfl fun w1 ai aG => ?_
   obtain ⟨hw,hO,hB,h2⟩:=dv ai hw hO hB h2;clear ai;refine Wa ?_;refine Wu 4 aG rfl (bd (k:=i+1) rfl rfl (by omega) (by omega)) ?_;refine Wa ?_;refine Wu 7 aG rfl (bd (k:=i) rfl rfl (by omega) (by omega)) ?_;refine SA.done (by kernel_rfl) ?_;refine SW.copy (k:=n-i) ((i+1)*4) ((l.drop i).flatMap cm) h2 rfl rfl rfl (by omega) e2 (by simp only [List.length_append,e1,e2,f1,f2];omega) (fun h0=>⟨by rw [if_neg (by omega)];simp [dc],(⟨g,0,none⟩ : Addr).add (i*4),by rw [if_neg (by omega)];rfl,fun j v hv=>du (by omega) (lU.ext hw) j v hv⟩) (pe _) fun w3 ns qE => ?_
   have g1:=fb ((l.take i).flatMap cm++D1) D2 D3 ((l.drop i).flatMap cm) (by rw [e2,f2]) (o:=(i+1)*4) (by rw [adp,e1,f1];omega);have g0:(l.take i).flatMap cm++(D1++D2++D3)=(l.take i).flatMap cm++D1++D2++D3:=by simp only [List.append_assoc]
   rw [g0,g1] at ns;have GF:=bU (hw.gr (aJ (some ⟨g,0,none⟩) c)) qE (.inl h6.symm);have QL:=hB.grown qE (by simpa using fun e=>D7 e.symm);repeat' (first|refine Wz ?_|(refine SW.st (bd (k:=i) rfl rfl (by omega) (by omega)) rfl ?_))
   refine SW.copy (k:=1) (i*4) (cm x) ns rfl rfl rfl (by omega) nW (by simp only [List.length_append,e1,e2,f1,nW];omega) (fun h0=>⟨by rw [if_neg (by omega)];simp [dc],⟨b,0,none⟩,rfl,fun j v hv=>QL.cell hv⟩) (iy.one (enc:=cm) x) fun w4 nX xO => ?_
   have g2:=fb ((l.take i).flatMap cm) D1 ((l.drop i).flatMap cm++D3) (cm x) (by rw [nW,f1]) (o:=i*4) e1.symm;have g3:(l.take i).flatMap cm++D1++(l.drop i).flatMap cm++D3=(l.take i).flatMap cm++D1++((l.drop i).flatMap cm++D3):=by simp only [List.append_assoc]
   have g4:(l.take i).flatMap cm++cm x++((l.drop i).flatMap cm++D3)=(aN l i x).flatMap cm++D3:=by unfold aN;simp only [List.flatMap_append,List.flatMap_cons,List.flatMap_nil,List.append_nil,List.append_assoc]
   rw [g3,g2,g4] at nX;have Eu:=Own.closed (n:=n+1) (c:=c) (l:=aN l i x) (by unfold aN;simp;omega) nX (by omega) ky (by omega) h5 h1;have ee:=bU GF xO (.inl h6.symm);refine Wz ?_;exact ae.bg rfl rfl ⟨_,rfl,_,_,rfl,Eu,ee,fun k e => .inl e⟩
  ·have Si:c=n:=by omega
   have lU:=hO.sl.drop i c (by omega) (by omega);have Bq:=hO.sl.pre (i:=i) (by omega);repeat' (first|refine Wz ?_|(refine SW.st (bd (k:=i) rfl rfl (by omega) (by omega)) rfl ?_)|(refine SW.st (dn (k:=i) rfl rfl (by omega)) rfl ?_))
   all_goals try omega
   refine SW.yu (k:=n+1-i) Bq Tryz.underlying3 rfl rfl (by omega) rfl (by omega) (by omega) (by omega) (by omega) fun g rest c2 w2 bt dE h2 h3 h4 h5 => ?_
   have e1:((l.take i).flatMap cm).length=i*4:=by rw [pf];simp;omega
   have e2:((l.drop i).flatMap cm).length=(n-i)*4:=by rw [pf];simp [mH]
   have oD:((n-i)+1)*4<=rest.length:=by omega
   have e4:rest=rest.take 4++(rest.drop 4).take ((n-i)*4)++rest.drop (4+(n-i)*4):=by
    rw [adj,<- aeg,adh,adh]
   generalize GG:rest.take 4=D1 at e4
   generalize GH:(rest.drop 4).take ((n-i)*4)=D2 at e4
   generalize GI:rest.drop (4+(n-i)*4)=D3 at e4
   have f1:D1.length=4:=by rw [<- GG];simp only [List.length_take];omega
   have f2:D2.length=(n-i)*4:=by rw [<- GH];simp only [List.length_take,List.length_drop];omega
   have f3:D3.length+((n-i)+1)*4=rest.length:=by rw [<- GI];simp only [List.length_drop];omega
   rw [e4] at h2;have gm:aJ A c≠some g:=fun e=>by have:=hO.lt_size _ e;omega
   have D7:b≠g:=by have:=hB.lt;omega
   obtain ⟨lU,hB,hw⟩:=cn bt lU hB hw;repeat' (first|refine Wz ?_|(refine SW.st (bd (k:=i) rfl rfl (by omega) (by omega)) rfl ?_))
   refine SW.copy (k:=1) (i*4) (cm x) h2 rfl rfl rfl (by omega) nW (by simp only [List.length_append,e1,f1,f2,nW];omega) (fun h0=>⟨by rw [if_neg (by omega)];simp [dc],⟨b,0,none⟩,rfl,fun j v hv=>hB.cell hv⟩) (iy.one (enc:=cm) x) fun w3 ns qE => ?_
   have g2:=fb ((l.take i).flatMap cm) D1 (D2++D3) (cm x) (by rw [nW,f1]) (o:=i*4) e1.symm;have g3:(l.take i).flatMap cm++(D1++D2++D3)=(l.take i).flatMap cm++D1++(D2++D3):=by simp only [List.append_assoc]
   rw [g3,g2] at ns;have LK:Ext w w3:=hw.own dE qE
   have lz:Sl w3 4 cm (if c=i then A else A.map (·.add (i*4))) (n-i) (l.drop i):=(hO.sl.drop i c (by omega) (by omega)).ext LK
   have hw:=LK;refine Wz ?_;refine CW.any 8 mixed (dk (by kernel_rfl)) rfl fun w1 ai aG => ?_
   obtain ⟨hw,ns,lz⟩:=cn ai hw ns lz;clear ai;refine Wa ?_;refine Wu 4 aG rfl (bd (k:=i+1) rfl rfl (by omega) (by omega)) ?_;refine Wa ?_;refine Wu 7 aG rfl (bd (k:=i) rfl rfl (by omega) (by omega)) ?_;refine SA.done (by kernel_rfl) ?_;refine SW.copy (k:=n-i) ((i+1)*4) ((l.drop i).flatMap cm) ns rfl rfl rfl (by omega) e2 (by simp only [List.length_append,e1,e2,f2,nW];omega) (fun h0=>⟨by rw [if_neg (by omega)];simp [dc],(if c=i then A else A.map (·.add (i*4))).getD default,?_,fun j v hv=>du (by omega) lz j v hv⟩) (pe _) fun w4 nX xO => ?_
   ·obtain ⟨a,ha⟩:=adH.1 (lz.base h0);rw [ha];rfl
   ·have g4:=fb ((l.take i).flatMap cm++cm x) D2 D3 ((l.drop i).flatMap cm) (by rw [e2,f2]) (o:=(i+1)*4) (by rw [adp,e1,nW];omega);have g5:(l.take i).flatMap cm++cm x++(D2++D3)=(l.take i).flatMap cm++cm x++D2++D3:=by simp only [List.append_assoc]
    have g6:(l.take i).flatMap cm++cm x++(l.drop i).flatMap cm++D3=(aN l i x).flatMap cm++D3:=by unfold aN;simp only [List.flatMap_append,List.flatMap_cons,List.flatMap_nil,List.append_nil,List.append_assoc]
    rw [g5,g4,g6] at nX;have Eu:=Own.closed (n:=n+1) (c:=c2) (lo:=lo) (l:=aN l i x) (by unfold aN;simp;omega) nX (by omega) (by omega) (by omega) h5 (by omega);have kz:Ext w w4:=hw.own dE xO
    have e9:i+(n+1-i)=n+1:=by omega
    refine Wz ?_;rw [e9]
    exact ae.bg rfl rfl ⟨_,rfl,_,_,rfl,Eu,kz.gr _,fun k e => .inr (by
     have:k=g:=by
      unfold aJ at e;split at e
      ·cases e
      ·simpa using e.symm
     omega)⟩
theorem SW.p7 {n:Nat} {rest:List Oper} {L:Env} {pos:String} [E:iy enc sz] {c:Nat} {l:List α} [G:fE P t sz] {x:Operand} (k:Nat) (x' : α)
 (hO:Own w lo e sz enc A m c l) (hx:cT L x=some (.pointer (some ((A.getD default).add (k*sz))))) (hy:cT L y=some (.agg (enc x').toArray)) (hk:k<m)
 (h:∀ w',Own w' lo e sz enc A m c (l.set k x')->w.grownBy w' (aJ A c)->SW P n ops (.gM Q) rest L w') : SW P n ops (.gM Q) (⟨none,.store t x y,T,pos,af,none⟩::rest) L w :=
 ⟨fun a ha=>by
  have hc : 0<c:=by have:=hO.le;omega
  obtain ⟨g,r,rfl,dD,hB,hr,Z0,Z1,how⟩:=hO.opened hc;have iE:k<l.length:=by rw [hO.len];exact hk
  have pM:(k+1)*sz<=m*sz:=adD _ hk
  rw [ad0,Nat.one_mul] at pM;have pf:(l.flatMap enc).length=m*sz:=by rw [aW,hO.len]
  have e0:(((some (⟨g,0,none⟩ : Addr)).getD default).add (k*sz))=⟨g,k*sz,none⟩:=dc g _
  rw [e0] at hx;have el:l=l.take k++[l[k]]++l.drop (k+1):=by simp
  have hX:((l.take k).flatMap enc).length=k*sz:=by rw [aW,aeQ,Nat.min_eq_left (by omega)]
  have e1:l.flatMap enc++r=(l.take k).flatMap enc++enc l[k]++((l.drop (k+1)).flatMap enc++r):=by
   have e3:l.flatMap enc=(l.take k++[l[k]]++l.drop (k+1)).flatMap enc:=by rw [<- el]
   rw [e3,adt,adt];simp only [List.flatMap_cons,List.flatMap_nil,List.append_nil,List.append_assoc]
  have Bc:=run_storeCells_at P g (k*sz) e (enc x') 0 (l.flatMap enc++r).toArray w hB (by simp only [List.size_toArray,List.length_append,pf,E.len];omega) (E.one x')
  have e2:((l.flatMap enc++r).toArray.toList.take (k*sz+0)++enc x'++(l.flatMap enc++r).toArray.toList.drop (k*sz+0+(enc x').length))=(l.set k x').flatMap enc++r:=by
   have:=fb ((l.take k).flatMap enc) (enc l[k]) ((l.drop (k+1)).flatMap enc++r) (enc x') (by rw [E.len,E.len]) hX.symm
   rw [<- e1] at this;unfold lay at this;simp only [Nat.add_zero];rw [this,ad6,if_pos iE];simp
  rw [e2] at Bc;simp only [swp,wpList,Region.wanted,if_true];refine .inl ?_;unfold Oper.wp
  have sw:(execOp a.eval ⟨none,.store t x y,T,pos,af,none⟩).run P w = .ok .skip (w.setRow g ((l.set k x').flatMap enc++r).toArray):=by
   simp [execOp,ha.eval hx,ha.eval hy,Instr.storeAt,Instr.sureAddr,storeVar,Value.cells,run_sizeOf G.size,E.len,Bc]
  rw [sw,Oper.upon_skip];obtain ⟨v7,Lk⟩:=ij (cs:=(l.set k x').flatMap enc++r) hB;refine (h _ (Own.closed (by rw [adK];exact hO.len) v7 hr Z0 hc Z1 dD) ?_).out _ ha;rw [how];exact Lk⟩
variable {z:ao}
structure gD (w:World) (lo g c:Nat) (u0 u1:ef) (s:ao×ao) : Prop where
 row:Own w lo 117 4 dt (some ⟨g,0,none⟩) 2 c [u0,u1]
 z0:iH w lo u0 s.1
 z1:iH w lo u1 s.2
 IL:lo<=g
 pos : 0<c
section
variable {w w':World} {lo oA g c t:Nat} {u0 u1:ef} {s:ao×ao}
theorem gD.ext (h:gD w lo g c u0 u1 s) (hx:Ext w w') : gD w' lo g c u0 u1 s:=⟨h.row.ext hx,h.z0.ext hx,h.z1.ext hx,h.IL,h.pos⟩
theorem gD.aK (h:gD w lo g c u0 u1 s) (hG:rL w w' t) (bJ:(Nat.beq t 117 || (Nat.beq t 3 || Nat.beq t 147))=false) : gD w' lo g c u0 u1 s:=by
 rw [aeG] at bJ;exact ⟨h.row.aK hG bJ.1,h.z0.aK hG bJ.2,h.z1.aK hG bJ.2,h.IL,h.pos⟩
theorem gD.own (h:gD w lo g c u0 u1 s) : aJ (some (⟨g,0,none⟩ : Addr)) c=some g:=by simp [aJ,Nat.pos_iff_ne_zero.1 h.pos]
theorem gD.gr (h:gD w lo g c u0 u1 s) (hg:w.grownBy w' (some g)) : rL w w' 117:=h.row.gr (by rw [h.own];exact hg)
theorem td {u:ef} (h:iH w lo u z) (hz:bV z) : (u.aj.n+1)*24<=140737488355328∧u.Types.n*8<=140737488355328∧(0<=u.aV∧u.aV<=256)∧(0<=u.To∧u.To<=256):=by
 have e1:=h.free.sl.len;have e2:=h.types.sl.len;have e3:=h.from_;have e4:=h.pj;have hl:=kA hz;obtain ⟨o1,o2,o3,o4,o5⟩:=hz.ok;refine ⟨adf (adD 24 (show u.aj.n+1<=258 by omega)) (by decide),by omega,by omega,by omega⟩
end
theorem wG (r:jy) (u0 u1:ef) (p:Int) (w:World) (hz:Sl w 4 dt r.bp.A r.bp.n [u0,u1]) :
 bF prog 96 [.agg (dG r).toArray,.int .i64 p] w fun v _=>v = .int .i64 (if p<u0.To then 0 else 1):=by
 refine aC func96 rfl ntmps96 rfl ?_;refine CW.seq (CW.region (SW.box rfl rfl fun b1 w1 hw lp aZ => ?_));have hA:=hz.base;have hn : 2=r.bp.n:=hz.len
 have h0 : 0<r.bp.n:=by omega
 have f0:=hz.jR h0 (j:=1) (u := .int .i64 u0.To) rfl;repeat' (first|refine Wz ?_|(refine CW.uP rfl (fun h => ?_) (fun h => ?_))|refine Wn hw f0 ?_)
 all_goals
  refine ae.bg rfl rfl ⟨_,rfl,hw,?_⟩
  first|(rw [if_pos (by omega)])|(rw [if_neg (by omega)])
def ON (w:World) (lo g c:Nat) (s:ao×ao) (b:Block) (w':World) : Prop:=w.grownBy w' (some g) ∧ ∃ u0 u1,gD w' lo g c u0 u1 (gB s b)
theorem wH (m:gb) (cp:Int) (li lv:gb) (u0 u1:ef) (s:ao×ao) (bs:List Block) (b:Block) (lo g c b1:Nat) (w:World) (aZ:aS w b1 41 (dG ⟨⟨some ⟨g,0,none⟩,2,c⟩,m,cp,li,lv⟩)) (hZ:gD w lo g c u0 u1 s) (dD:lo<=w.heap.size) (hD:qQ s bs) (hN:pY bs b) :
 iO prog 95 [.pointer (some ⟨b1,0,none⟩),.int .i64 b.At,.int .i64 b.Order] w fun v w'=>ON w lo g c s b w':=by
 refine dl func95 rfl ntmps95 rfl ?_;have hw:=Ext.refl w;have eT:=hZ.z0.pj;obtain ⟨q1,q2,q3,q4⟩:=td hZ.z0 hD.lW;obtain ⟨p1,p2,p3,p4⟩:=td hZ.z1 hD.lG;have hA:=hZ.row.sl.base;have cz:∀ w',Sl w' 4 dt (some ⟨g,0,none⟩) 2 [u0,u1]->bF prog 96 [.agg (dG ⟨⟨some ⟨g,0,none⟩,2,c⟩,m,cp,li,lv⟩).toArray,.int .i64 b.At] w' fun v _=>v = .int .i64 (if b.At<u0.To then 0 else 1):=fun w' h=>wG ⟨⟨some ⟨g,0,none⟩,2,c⟩,m,cp,li,lv⟩ u0 u1 b.At w' h
 by_cases hx:b.At<u0.To
 ·have eP:gB s b=((fT s.1 b.At b.Order).2,s.2):=by unfold gB;rw [if_pos (by omega)]
  simp only [if_pos hx] at cz;have L9:=hZ.row.sl;have k0 : 0<2:=by omega
  repeat' (first|refine Wz ?_|(refine Wk (cz _ hZ.row.sl) ?_;intro v w1 ai hv;subst hv;obtain ⟨hw,aZ,hZ⟩:=cn ai hw aZ hZ;clear ai))
  refine CW.gn 19 19 (fun _=>True) mixed (by kernel_rfl) fun w1 ai aG => ?_
  obtain ⟨hw,aZ,hZ⟩:=cn ai hw aZ hZ;clear ai;refine Wp 0 [] [] aG rfl rfl ?_;refine Wt 1 [] [] aG rfl (aF rfl) ?_;refine Wt 2 [] [] aG rfl (aA rfl) ?_;refine Wt 3 [] [] aG rfl (aU rfl (aZ.cell rfl)) ?_;refine Wp 4 [] [] aG rfl rfl ?_;refine Wp 5 [] [] aG rfl rfl ?_;refine Wt 6 [] [] aG rfl (aF rfl) ?_;refine Wt 7 [] [] aG rfl (aA rfl) ?_;refine Wt 8 [] [] aG rfl (aU rfl (aZ.cell rfl)) ?_;refine Wp 9 [] [] aG rfl rfl ?_;refine Wt 10 [] [] aG rfl (cd rfl rfl (by assumption) (by omega)) ?_;refine Wt 11 [] [] aG rfl (aX rfl rfl ((hZ.row.sl.all k0))) ?_;refine Wp 12 [] [] aG rfl rfl ?_;refine Wp 13 [] [] aG rfl rfl ?_;refine SF.one 14 rfl (by kernel_rfl) rfl ?_;refine Wk (pT u0 s.1 b.At b.Order _ hZ.z0.rd q1 q2 ⟨by omega,by omega⟩ ⟨by omega,by omega⟩) fun v w4 ak hv => ?_
  obtain ⟨u',rfl,nt⟩:=hv;have nt:=nt.low (adf dD hw.size);(obtain ⟨hw,aZ,hZ⟩:=cn ak hw aZ hZ);refine SW.nil (ae.sf ak ?_);refine Wp 15 [] [] aG rfl rfl ?_;refine Wp 16 [] [] aG rfl rfl ?_;refine SF.jb 17 aG rfl (by kernel_rfl) (by kernel_rfl) rfl (fun _=>aR rfl) rfl ?_;refine Wt 18 [] [] aG rfl (cd rfl rfl (by assumption) (by omega)) ?_;refine SF.last rfl (by kernel_rfl) (by kernel_rfl) ?_;refine SW.p7 (enc:=dt) 0 u' hZ.row rfl rfl k0 fun w5 hO hg => ?_
  rw [hZ.own] at hg;have hG:=hZ.gr hg;have Bf:=bU (hw.gr (some g)) hg (.inl rfl);refine Wz ?_;exact ae.pV rfl ⟨_,rfl,Bf,u',u1,by rw [eP];exact ⟨hO,nt.aK hG rfl,hZ.z1.aK hG rfl,hZ.IL,hZ.pos⟩⟩
 ·have eP:gB s b=(s.1,(fT s.2 b.At b.Order).2):=by unfold gB;rw [if_neg (by omega)]
  simp only [if_neg hx] at cz;have k0 : 1<2:=by omega
  repeat' (first|refine Wz ?_|(refine Wk (cz _ hZ.row.sl) ?_;intro v w1 ai hv;subst hv;obtain ⟨hw,aZ,hZ⟩:=cn ai hw aZ hZ;clear ai))
  refine CW.gn 19 19 (fun _=>True) mixed (by kernel_rfl) fun w1 ai aG => ?_
  obtain ⟨hw,aZ,hZ⟩:=cn ai hw aZ hZ;clear ai;refine Wp 0 [] [] aG rfl rfl ?_;refine Wt 1 [] [] aG rfl (aF rfl) ?_;refine Wt 2 [] [] aG rfl (aA rfl) ?_;refine Wt 3 [] [] aG rfl (aU rfl (aZ.cell rfl)) ?_;refine Wp 4 [] [] aG rfl rfl ?_;refine Wp 5 [] [] aG rfl rfl ?_;refine Wt 6 [] [] aG rfl (aF rfl) ?_;refine Wt 7 [] [] aG rfl (aA rfl) ?_;refine Wt 8 [] [] aG rfl (aU rfl (aZ.cell rfl)) ?_;refine Wp 9 [] [] aG rfl rfl ?_;refine Wt 10 [] [] aG rfl (cd rfl rfl (by assumption) (by omega)) ?_;refine Wt 11 [] [] aG rfl (aX rfl rfl ((hZ.row.sl.all k0))) ?_;refine Wp 12 [] [] aG rfl rfl ?_;refine Wp 13 [] [] aG rfl rfl ?_;refine SF.one 14 rfl (by kernel_rfl) rfl ?_;refine Wk (pT u1 s.2 b.At b.Order _ hZ.z1.rd p1 p2 ⟨by omega,by omega⟩ ⟨by omega,by omega⟩) fun v w4 ak hv => ?_
  obtain ⟨u',rfl,nt⟩:=hv;have nt:=nt.low (adf dD hw.size);(obtain ⟨hw,aZ,hZ⟩:=cn ak hw aZ hZ);refine SW.nil (ae.sf ak ?_);refine Wp 15 [] [] aG rfl rfl ?_;refine Wp 16 [] [] aG rfl rfl ?_;refine SF.jb 17 aG rfl (by kernel_rfl) (by kernel_rfl) rfl (fun _=>aR rfl) rfl ?_;refine Wt 18 [] [] aG rfl (cd rfl rfl (by assumption) (by omega)) ?_;refine SF.last rfl (by kernel_rfl) (by kernel_rfl) ?_;refine SW.p7 (enc:=dt) 1 u' hZ.row rfl rfl k0 fun w5 hO hg => ?_
  rw [hZ.own] at hg;have hG:=hZ.gr hg;have Bf:=bU (hw.gr (some g)) hg (.inl rfl);refine Wz ?_;exact ae.pV rfl ⟨_,rfl,Bf,u0,u',by rw [eP];exact ⟨hO,hZ.z0.aK hG rfl,nt.aK hG rfl,hZ.IL,hZ.pos⟩⟩
variable {L:List aT} {b1 oA n' Z2:Nat} {A':Option Addr} {li OO lv:gb} {e':TypeId} {w0:World} {u0 u1:ef} {V9:β -> List Value}
theorem L0.split {r:jy} {h:Heap} (a:L0 w lo r h) (hz:h.bp=[z0,z1]) : ∃ g c u0 u1 ls,r.bp=⟨some ⟨g,0,none⟩,2,c⟩∧gD w lo g c u0 u1 (z0,z1)∧gl w lo r.av ls h.av∧vf r.dO [u0,u1] ls∧xT r.Live [u0,u1]:=by
 obtain ⟨zs,ls,Dx,Gj,hm,hf⟩:=a.all;have l0:=Dx.each.len;rw [hz] at l0;obtain ⟨u0,u1,rfl⟩:=zI (show zs.length=2 from l0);have l1:=Dx.row.len;have h0:=Dx.each.get 0 (by simp) (by simp [hz]);have h1:=Dx.each.get 1 (by simp) (by simp [hz]);simp only [hz] at h0 h1;have hc : 0<r.bp.c:=by have:=Dx.row.le;simp at l1;omega
 obtain ⟨g,rest,hA,dD,_⟩:=Dx.row.opened hc;refine ⟨g,r.bp.c,u0,u1,ls,?_,⟨?_,h0,h1,dD,hc⟩,Gj,hm,hf⟩
 ·rw [<- hA];have:(2:Nat)=r.bp.n:=l1
  rw [this]
 ·have:=Dx.row
  rw [hA,<- l1] at this;exact this
theorem Own.apart {n c:Nat} {l:List α} (h:Own w lo e sz enc A n c l) (hg:w.grownBy w' row) (hs:∀ g,aJ A c=some g->row≠some g) : Own w' lo e sz enc A n c l:=by
 refine h.grown hg ?_;cases e:aJ A c with
 | none=>exact .inl rfl
 | some g=>exact .inr (fun e2=>hs g e e2.symm)
theorem gD.Hc {g c:Nat} {s:ao×ao} (h:gD w lo g c u0 u1 s) (hs:xT lv [u0,u1]) (hg:w.grownBy w' (aJ lv.A lv.c)) (hG:rL w w' 147) : gD w' lo g c u0 u1 s :=
 ⟨h.row.aK hG rfl,⟨h.z0.from_,h.z0.pj,h.z0.free.apart hg (hs u0 (by simp)),h.z0.types.aK hG rfl⟩,⟨h.z1.from_,h.z1.pj,h.z1.free.apart hg (hs u1 (by simp)),h.z1.types.aK hG rfl⟩,h.IL,h.pos⟩
structure Q6 (w0:World) (li:gb) (b1:Nat) (o:Option Nat) : Prop where
 out:∀ k,o=some k->k≠b1∧aJ li.A li.c≠some k∧k<w0.heap.size
theorem Q6.ne {o:Option Nat} (h:Q6 w0 li b1 o) (hr:∀ k,row=some k->k=b1∨aJ li.A li.c=some k∨w0.heap.size<=k) : ∀ g,o=some g->row≠some g:=fun g e e2=>by
 obtain ⟨h1,h2,h3⟩:=h.out g e;rcases hr g e2 with h|h|h
 ·exact h1 h
 ·exact h2 h
 ·omega
theorem Own.px {n c:Nat} {l:List α} (h:Own w0 lo e sz enc A n c l) {ls:List dx} (hl:gl w0 lo li ls L) (hb:aS w0 b1 41 cs) (h1:Nat.beq 41 e=false) (h2:Nat.beq e 159=false) : Q6 w0 li b1 (aJ A c) :=
 ⟨fun k hk=>⟨fun e=>h.fi hb h1 (by rw [hk,e]),by
  rcases h.row with ⟨_,rfl⟩|⟨hc,g,jV,rfl,_,hg,_⟩
  ·simp [aJ] at hk
  ·simp only [aJ,Nat.pos_iff_ne_zero.1 hc,if_false,Option.map_some,Option.some.injEq] at hk;subst hk;exact hl.row.fi (cs:=jV.toList) (by unfold aS;simpa using hg) h2,h.lt_size k hk⟩⟩
theorem Own.oW {n c c':Nat} {l:List α} {l':List β} (h:Own w0 lo e sz enc A n c l) (h':Own w0 oA e' Z2 V9 A' n' c' l') (bJ:Nat.beq e e'=false) : ∀ k,aJ A c=some k->aJ A' c'≠some k:=fun k hk=>by
 rcases h.row with ⟨_,rfl⟩|⟨hc,g,jV,rfl,_,hg,_⟩
 ·simp [aJ] at hk
 ·simp only [aJ,Nat.pos_iff_ne_zero.1 hc,if_false,Option.map_some,Option.some.injEq] at hk;subst hk;exact h'.fi (cs:=jV.toList) (by unfold aS;simpa using hg) bJ
theorem gD.parts {g c:Nat} {s:ao×ao} (h:gD w lo g c u0 u1 s) (hg:w.grownBy w' row) (h0:∀ k,aJ (some (⟨g,0,none⟩ : Addr)) c=some k->row≠some k) (h1:∀ k,aJ u0.aj.A u0.aj.c=some k->row≠some k) (h2:∀ k,aJ u0.Types.A u0.Types.c=some k->row≠some k)
 (h3:∀ k,aJ u1.aj.A u1.aj.c=some k->row≠some k) (h4:∀ k,aJ u1.Types.A u1.Types.c=some k->row≠some k) : gD w' lo g c u0 u1 s :=
 ⟨h.row.apart hg h0,⟨h.z0.from_,h.z0.pj,h.z0.free.apart hg h1,h.z0.types.apart hg h2⟩,⟨h.z1.from_,h.z1.pj,h.z1.free.apart hg h3,h.z1.types.apart hg h4⟩,h.IL,h.pos⟩
def ob (s:gb) : Option Nat:=aJ s.A s.c
def Q7 (a b:dx) : Prop := ∀ g,ob a.ax=some g->ob b.ax≠some g
theorem JW {a b:dx} (h:Q7 a b) : Q7 b a:=fun g e e2=>h g e2 e
theorem vm {ls:List dx}:GX ls↔ls.Pairwise Q7:=by
 rw [adl];refine ⟨fun h i j hi hj pk g e=>h i j hi hj (by omega) g e,fun h i j hi hj pk g e => ?_⟩;rcases aep pk with h1|h1
 ·exact h i j hi hj h1 g e
 ·exact JW (h j i hj hi h1) g e
structure Bz (n:Nat) (li:gb) (ls:List dx) (OO:gb) (JX:List dx) : Prop where
 sep:GX JX
 of:∀ y∈JX,∀ g,ob y.ax=some g->(∃ x∈ls,ob x.ax=some g)∨n<=g
 row:∀ k,ob OO=some k->ob li=some k∨n<=k
theorem Bz.tI {n:Nat} {ls:List dx} {y:dx} (hs:GX ls) (eX:∀ x∈ls,∀ g,ob x.ax=some g->g<n) (hi:i<ls.length) (hy:∀ g,ob y.ax=some g->ob ls[i].ax=some g∨n<=g) : Bz n li ls li (ls.set i y):=by
 refine ⟨fun a b ha hb PN g e e2 => ?_,fun z hz g e => ?_,fun k e => .inl e⟩
 ·simp only [List.length_set] at ha hb
  change ob ((ls.set i y)[a]).ax=some g at e
  change ob ((ls.set i y)[b]).ax=some g at e2
  simp only [List.getElem_set] at e e2;by_cases h1:i=a
  ·rw [if_pos h1] at e;rw [if_neg (by omega)] at e2;rcases hy g e with h|h
   ·subst h1;exact hs _ _ hi hb PN g h e2
   ·have:=eX _ (adb hb) g e2;omega
  ·rw [if_neg h1] at e;by_cases h2:i=b
   ·rw [if_pos h2] at e2;rcases hy g e2 with h|h
    ·subst h2;exact hs _ _ ha hi PN g e h
    ·have:=eX _ (adb ha) g e;omega
   ·rw [if_neg h2] at e2;exact hs _ _ ha hb PN g e e2
 ·rcases ads hz with h|rfl
  ·exact .inl ⟨z,h,e⟩
  ·rcases hy g e with h|h
   ·exact .inl ⟨_,adb hi,h⟩
   ·exact .inr h
theorem Bz.ins {n:Nat} {ls:List dx} {y:dx} (hs:GX ls) (eX:∀ x∈ls,∀ g,ob x.ax=some g->g<n) (hy:∀ g,ob y.ax=some g->n<=g) (hr:∀ k,ob OO=some k->ob li=some k∨n<=k) : Bz n li ls OO (aN ls i y):=by
 have hm:∀ z,z∈aN ls i y->z∈ls∨z=y:=fun z hz=>by
  unfold aN at hz;rw [adm,adm,ae3] at hz;rcases hz with (hz|hz)|hz
  ·exact .inl (adE hz)
  ·exact .inr hz
  ·exact .inl (adU hz)
 refine ⟨?_,fun z hz g e => ?_,hr⟩
 ·have hs:=vm.1 hs;rw [<- adh i ls,adA] at hs;obtain ⟨h1,h2,h3⟩:=hs;rw [vm];unfold aN;rw [adj,adA];refine ⟨h1,?_,fun a ha b hb => ?_⟩
  ·rw [adz,ad8];exact ⟨fun b hb g e e2=>by have:=hy g e;have:=eX b (adU hb) g e2;omega,h2⟩
  ·rw [adz,aee] at hb;rcases hb with rfl|hb
   ·exact fun g e e2=>by have:=hy g e2;have:=eX a (adE ha) g e;omega
   ·exact h3 a ha b hb
 ·rcases hm z hz with h|rfl
  ·exact .inl ⟨z,h,e⟩
  ·exact .inr (hy g e)
theorem SW.DB {n:Nat} {rest:List Oper} {L:Env} {pos:String} {z:Value} {c:Nat} {l ys:List α} [bz P t e sz] [dr P e z sz bytes] [iy enc sz] {x:Operand}
 (hO:Own w lo e sz enc A k c l) (hS:Sl w sz enc X m ys) (dD:lo<=w.heap.size) (Eh : 0<m) (hx:cT L x=some (.slice A k c)) (hy:cT L y=some (.slice X m c2)) (hn:Nat.blt dd n=true)
 (hb:(k+m)*bytes<=140737488355328) (hm:k+m<=9223372036854775807)
 (h:∀ A' c' w',Own w' lo e sz enc A' (k+m) c' (l++ys)->w.grownBy w' (aJ A c)->(∀ g,aJ A' c'=some g->aJ A c=some g∨w.heap.size<=g)->SW P n ops (.gM Q) rest ((dd,.slice A' (k+m) c')::L) w') :
 SW P n ops (.gM Q) (⟨some dd,.call ⟨.builtin .append,#[x,y],#[t,t]⟩,T,pos,af,none⟩::rest) L w:=by
 refine SW.yF hO hS dD Eh hx hy hn hb hm fun A' c' w' hh => ?_
 rcases hh with ⟨rfl,rfl,h1,h2⟩|⟨h1,h2⟩
 ·exact h _ _ _ h1 h2 (fun g e => .inl e)
 ·exact h _ _ _ (h1.low dD) ⟨h2.os,h2.tape,h2.output,h2.size,fun k hk _=>h2.block k hk (fun e=>by cases e)⟩ (fun g e => .inr (h1.a9 g e))
variable {Lm:List dx} {L1:List aT} {ys:List β} {Wc:gb} {F:World->Prop}
structure OP (F:World->Prop) (w:World) : Prop where
 at_:F w
 all:∀ w w',Ext w w'->F w->F w'
theorem OP.ext (h:OP F w) (hx:Ext w w') : OP F w':=⟨h.all _ _ hx h.at_,h.all⟩
theorem OP.to (h:OP F w) (hf:F w') : OP F w':=⟨hf,h.all⟩
theorem gg.aN {R : α -> β -> Prop} {xs:List α} (h:gg R xs ys) (hi:i<=xs.length) {x : α} {y : β} (hr:R x y) : gg R (aN xs i x) (aN ys i y):=by
 have hl:=h.len;refine ⟨by rw [di _ hi,di _ (by omega),hl],fun k h1 h2 => ?_⟩
 have iB:∀ {γ:Type} (zs:List γ) (z : γ) (k:Nat) (hk:k<(Proofs.YtohigmjjbgpfmaaGreatDoor.aN zs i z).length) (u : γ),(Proofs.YtohigmjjbgpfmaaGreatDoor.aN zs i z)[k]?=some u->(Proofs.YtohigmjjbgpfmaaGreatDoor.aN zs i z)[k]=u:=fun zs z k hk u hu=>by
  rw [adi hk] at hu;exact Option.some.inj hu
 rw [di _ hi] at h1;rcases adO k i with e|e|e
 ·rw [iB xs x k _ (xs[k]'(by omega)) (by rw [vh hi e,adi]),iB ys y k _ (ys[k]'(by omega)) (by rw [vh (by omega) e,adi])];exact h.get k (by omega) (by omega)
 ·subst e;rw [iB xs x k _ x (lH hi),iB ys y k _ y (lH (by omega))];exact hr
 ·obtain ⟨j,rfl⟩ : ∃ j,k=j+1:=⟨k-1,by omega⟩;rw [iB xs x (j+1) _ (xs[j]'(by omega)) (by rw [zG hi (by omega),adi]),iB ys y (j+1) _ (ys[j]'(by omega)) (by rw [zG (by omega) (by omega),adi])];exact h.get j (by omega) (by omega)
theorem gg.setAt {R R' : α -> β -> Prop} {xs:List α} (h:gg R xs ys) {x : α} {y : β} (hr:R' x y) (ho:∀ (k:Nat) (h1:k<xs.length) (h2:k<ys.length),k≠i->R xs[k] ys[k]->R' xs[k] ys[k]) : gg R' (xs.set i x) (ys.set i y):=by
 refine ⟨by simp [h.len],fun k h1 h2 => ?_⟩;simp only [List.length_set] at h1 h2;rw [adB,adB];by_cases e:i=k
 ·rw [if_pos e,if_pos e];exact hr
 ·rw [if_neg e,if_neg e];exact ho k h1 h2 (fun h=>e h.symm) (h.get k h1 h2)
structure E3 (n:Nat) (w:World) (lo:Nat) (F:World->Prop) (L:List aT) (x:aT) (p:Int) (Wc:gb) (Lm:List dx) (L1:List aT) : Prop where
 own:gl w lo Wc Lm L1
 lt:bu L x<L1.length
 tI:L1.set (bu L x) ⟨x.ga,x.ao,x.Ty,L1[bu L x].ax++[p]⟩=iZ L ⟨x.ga,x.ao,x.Ty,dh L x++[p]⟩
 key:jg L1[bu L x] x
 sep:∀ (j:Nat) (hk:bu L x<Lm.length) (hj:j<Lm.length),j≠bu L x -> ∀ g,aJ Lm[bu L x].ax.A Lm[bu L x].ax.c=some g->aJ Lm[j].ax.A Lm[j].ax.c≠some g
 Wd:∀ (hk:bu L x<Lm.length) (w w':World),w.grownBy w' (aJ Lm[bu L x].ax.A Lm[bu L x].ax.c)->F w->F w'
 small:L1[bu L x].ax.length<=1000
 size:n<=w.heap.size
theorem E3.ext {n:Nat} {x:aT} {p:Int} (h:E3 n w lo F L x p Wc Lm L1) (hx:Ext w w') : E3 n w' lo F L x p Wc Lm L1 :=
 ⟨h.own.ext hx,h.lt,h.tI,h.key,h.sep,h.Wd,h.small,adf h.size hx.size⟩
set_option maxHeartbeats 8000000 in
theorem E4 (Z m:gb) (cp:Int) (li lv:gb) (L:List aT) (ls:List dx) (x:aT) (y:dx) (p:Int) (F:World->Prop) (b1:Nat) (w w0:World) (hw:Ext w w0) (D6:w.heap.size<=b1) (aZ:aS w0 b1 41 (dG ⟨Z,m,cp,li,lv⟩)) (hl:gl w0 w.heap.size li ls L) (hk:wC y x) (Sr:y.ax = .nil) (UU:x.ax=[])
 (Ew:GX ls) (hs:EN L) (hn:(li.n+1)*48<=140737488355328) (Ml:∀ l∈L,l.ax.length<=1000) (sB:OP F w0) (N6:∀ (w w':World) (row:Option Nat),w.grownBy w' row->(∀ k,row=some k->k=b1∨aJ li.A li.c=some k∨w0.heap.size<=k)->F w->F w')
 (Ss:∀ (i:Nat) (hi:i<ls.length) (w w':World),w.grownBy w' (aJ ls[i].ax.A ls[i].ax.c)->F w->F w') :
 iO prog 98 [.pointer (some ⟨b1,0,none⟩),.agg (cm y).toArray,.int .i64 p] w0 fun v w'=>Ext w w'∧F w' ∧ ∃ OO JX,aS w' b1 41 (dG ⟨Z,m,cp,OO,lv⟩)∧gl w' w.heap.size OO JX (iZ L ⟨x.ga,x.ao,x.Ty,dh L x++[p]⟩)∧Bz w0.heap.size li ls OO JX:=by
 refine dl func98 rfl ntmps98 rfl ?_;have Z3:jg x ⟨x.ga,x.ao,x.Ty,dh L x++[p]⟩:=⟨rfl,rfl,rfl⟩
 obtain ⟨Yf,Yg⟩:=kC (L:=L) Z3;refine CW.seq (CW.region (SW.box rfl rfl fun b4 w1 ak fP aI => ?_));have eH:=hw.up fP
 have Tz:=hl.row.lt_size
 have TA:∀ z∈ls,∀ g,ob z.ax=some g->g<w0.heap.size:=fun z hz g e=>by
  obtain ⟨j,hj,rfl⟩:=ade hz;exact (hl.each.get j hj (by rw [<- hl.each.len];exact hj)).bC.lt_size g e
 (obtain ⟨hw,aZ,hl,sB⟩:=dv ak hw aZ hl sB);obtain ⟨l1,l2⟩:=hl.rd.len;obtain ⟨q,hq⟩ : ∃ q,dB L x=q:=⟨_,rfl⟩
 have cL:∀ w',zw w' li ls L->bF prog 99 [.agg (dG ⟨Z,m,cp,li,lv⟩).toArray,.agg (cm y).toArray] w' fun v _=>v = .tuple #[.int .i64 (bu L x:Int),.bool q]:=fun w' h=>by
  have:=wD ⟨Z,m,cp,li,lv⟩ L ls x y w' h hk (by simp only;omega)
  rwa [hq] at this
 cases q
 ·have iE:=ny L x;have We:bu L x<=ls.length:=by omega
  refine Wz ?_;(apply CW.bH mixed;(· kernel_rfl);rotate_left;intro w1 ai;obtain ⟨hw,aZ,aI,hl,sB⟩:=fD ai hw aZ aI hl sB;clear ai;rotate_right);repeat' (first|refine Wz ?_|(refine CW.gu rfl ?_)|refine SW.dK rfl rfl (fun w1 ai=>(cL _ (hl.rd.ext ai))) ?_|exact SW.eU rfl)
  clear cL;obtain ⟨yc,yz,yt,yp⟩:=y;simp only at Sr;subst Sr;refine Wb (i:=3) aI fun w3 de xO => ?_
  have hw:=hw.own eH xO;have aZ:=aZ.aK (aI.gr xO) rfl;have Z4:=N6 _ _ _ xO (fun k e=>by cases e;exact .inr (.inr fP)) sB.at_;have sB:=sB.to Z4;have hl:gl w3 w.heap.size li ls L:=⟨hl.row.grown xO (.inr (fun e=>by have:=Tz _ e;omega)),hl.each.mono fun _ _ h=>h.aK (aI.gr xO) rfl⟩;have aI:aS w3 b4 159 (cm ⟨yc,yz,yt,.nil⟩):=de;clear de;refine Wz ?_;have Q8:=hl.row.sl.base;refine CW.gn 8 11 (fun _=>True) mixed (by kernel_rfl) fun w1 ai aG => ?_
  obtain ⟨hw,aZ,aI,hl,sB⟩:=fD ai hw aZ aI hl sB;clear ai;refine SF.cr 0 [] aG rfl (by kernel_rfl) (by kernel_rfl) (by kernel_rfl) (aR rfl) (fun w2 hS=>aR rfl) rfl ?_;refine Wp 1 [4,3,2] [] aG rfl rfl ?_;refine Wt 2 [4,3] [] aG rfl (aF rfl) ?_;refine Wt 3 [4] [] aG rfl (aA rfl) ?_;refine Wt 4 [] [] aG rfl (aU rfl (aZ.cell (i:=3) (v := .slice li.A li.n li.c) rfl)) ?_;refine Wp 5 [] [] aG rfl rfl ?_;refine Wt 6 [7] [] aG rfl (aX rfl rfl ((fun _ _=>aI.cell))) ?_;refine SF.one 7 rfl (by kernel_rfl) rfl ?_;refine SW.dI rfl rfl rfl rfl rfl fun b w4 ak hb hB => ?_
  have E5:w0.heap.size<=w4.heap.size:=adf (aeq (Nat.lt_of_le_of_lt fP aI.lt)) ak.size
  have wk:aJ li.A li.c≠some b:=fun e=>by have:=hl.row.lt_size _ e;omega
  (obtain ⟨hw,aZ,hl,sB⟩:=dv ak hw aZ hl sB);refine SW.nil (ae.sf ak ?_);refine SF.turn rfl (by kernel_rfl) rfl ?_;refine SW.dX rfl rfl (zW li.A li.n li.c w.heap.size ls _ hl.row (bu L x) (by omega) ⟨yc,yz,yt,.nil⟩ b hB wk hn hw.size) fun v w5 hv => ?_
  obtain ⟨A2,c2,rfl,bj,hg,kq⟩:=hv;have hG:=hl.row.gr hg;have hS:True:=trivial
  have hw:=aD hw hg (adg _) hl.row.a9;have TB:=N6 _ _ _ hg (fun k e => .inr (.inl e)) sB.at_;have sB:=sB.to TB;have aZ:=aZ.aK hG rfl;have UW:=(hl.each.mono fun _ _ h=>h.aK hG rfl).aN (i:=bu L x) (x:=⟨yc,yz,yt,.nil⟩) (y:=⟨x.ga,x.ao,x.Ty,[]⟩) (by omega) ⟨hk.1,hk.2.1,hk.2.2,Own.fF _ _ _ _ _ _⟩;refine SW.nil (ae.sg hS ?_);refine SG.one 9 rfl (by kernel_rfl) rfl ?_;repeat ((show SW _ _ _ _ (⟨_,Op.nilCheck _,_,_,_,none⟩::_) _ _;refine SW.st (aF rfl) rfl ?_))
  refine SW.nil (ae.sg hS ?_);refine SG.one 10 rfl (by kernel_rfl) rfl ?_;repeat ((show SW _ _ _ _ (⟨_,Op.fieldAddr _ _ _,_,_,_,none⟩::_) _ _;refine SW.st (aA rfl) rfl ?_))
  refine SW.nil (ae.sg hS ?_);refine SG.last rfl (by kernel_rfl) (by kernel_rfl) ?_;refine Wb (i:=3) aZ fun w6 tE uf => ?_
  have yG:=aZ.gr uf;have Wg:w0.heap.size<=w6.heap.size:=adf E5 (adf hg.size uf.size)
  have TC:=kq;have hw:=hw.own D6 uf;have TD:=N6 _ _ _ uf (fun k e=>by cases e;exact .inl rfl) sB.at_;have sB:=sB.to TD;have bj:=bj.aK yG rfl;have UW:=UW.mono fun _ _ h=>h.aK yG rfl
  have aZ:aS w6 b1 41 (dG ⟨Z,m,cp,⟨A2,li.n+1,c2⟩,lv⟩):=tE;clear tE
  have iB:∀ h:bu L x<(aN L (bu L x) (⟨x.ga,x.ao,x.Ty,[]⟩ : aT)).length,(aN L (bu L x) (⟨x.ga,x.ao,x.Ty,[]⟩ : aT))[bu L x]=⟨x.ga,x.ao,x.Ty,[]⟩:=fun h=>by
   have:=lH (x:=(⟨x.ga,x.ao,x.Ty,[]⟩ : aT)) iE
   rw [adi h] at this;exact Option.some.inj this
  have Mm:∀ h:bu L x<(aN ls (bu L x) (⟨yc,yz,yt,.nil⟩ : dx)).length,(aN ls (bu L x) (⟨yc,yz,yt,.nil⟩ : dx))[bu L x]=⟨yc,yz,yt,.nil⟩:=fun h=>by
   have:=lH (l:=ls) (i:=bu L x) (x:=(⟨yc,yz,yt,.nil⟩ : dx)) (by omega)
   rw [adi h] at this;exact Option.some.inj this
  have OQ:bu L x<(aN L (bu L x) (⟨x.ga,x.ao,x.Ty,[]⟩ : aT)).length:=by rw [di _ iE];omega
  have hR:E3 w0.heap.size w6 w.heap.size F L x p ⟨A2,li.n+1,c2⟩ (aN ls (bu L x) ⟨yc,yz,yt,.nil⟩) (aN L (bu L x) ⟨x.ga,x.ao,x.Ty,[]⟩):=by
   refine ⟨⟨bj,UW⟩,OQ,?_,?_,fun j h1 h2 nk g e => ?_,fun h1 w w' hg => ?_,?_,Wg⟩
   ·rw [iB OQ,wx iE,sr (by rw [<- Yg];exact hq),<- Yf,nM hq]
   ·rw [iB OQ];exact ⟨rfl,rfl,rfl⟩
   ·rw [Mm h1] at e;cases e
   ·rw [Mm h1] at hg;exact sB.all _ _ (aD (Ext.refl w) hg (adg _) (fun k e=>by cases e))
   ·rw [iB OQ];simp
  clear UW bj hl aI;refine Wz ?_;have hA:=hR.own.row.sl.base;have gp:bu L x<(li.n+1):=by have:=hR.own.rd.len;have:=hR.lt;omega
  have pM:bu L x<((aN ls (bu L x) (⟨yc,yz,yt,.nil⟩ : dx))).length:=by have:=hR.own.rd.len;have:=hR.lt;omega
  have eX:=hR.lt;have rV:=hR.small;refine CW.gn 15 18 (fun w2=>aS w2 b1 41 (dG ⟨Z,m,cp,⟨A2,li.n+1,c2⟩,lv⟩)) mixed (by kernel_rfl) fun w1 ai aG => ?_
  obtain ⟨hw,aZ,hR,sB⟩:=dv ai hw aZ hR sB;clear ai;refine SF.cr 0 [] aG rfl (by kernel_rfl) (by kernel_rfl) (by kernel_rfl) (aR rfl) (fun w2 hS=>aR rfl) rfl ?_;refine SF.cr 1 [] aG rfl (by kernel_rfl) (by kernel_rfl) (by kernel_rfl) (aF rfl) (fun w2 hS=>aF rfl) rfl ?_;refine SF.cr 2 [] aG rfl (by kernel_rfl) (by kernel_rfl) (by kernel_rfl) (aA rfl) (fun w2 hS=>aA rfl) rfl ?_;refine SF.cr 3 [] aG rfl (by kernel_rfl) (by kernel_rfl) (by kernel_rfl) (aU rfl (aZ.cell (i:=3) (v := .slice A2 (li.n+1) c2) rfl)) (fun w2 hS=>aU rfl (hS.cell (i:=3) (v := .slice A2 (li.n+1) c2) rfl)) rfl ?_;refine SF.cr 4 [] aG rfl (by kernel_rfl) (by kernel_rfl) (by kernel_rfl) (aR rfl) (fun w2 hS=>aR rfl) rfl ?_;refine Wp 5 [12,11,10,8,7,6] [] aG rfl rfl ?_;refine Wt 6 [12,11,10,8,7] [] aG rfl (aF rfl) ?_;refine Wt 7 [12,11,10,8] [] aG rfl (aA rfl) ?_;refine Wt 8 [12,11,10] [] aG rfl (aU rfl (aZ.cell (i:=3) (v := .slice A2 (li.n+1) c2) rfl)) ?_;refine Wp 9 [12,11,10] [] aG rfl rfl ?_;refine Wt 10 [12,11] [] aG rfl (cd rfl rfl (by assumption) (by omega)) ?_;refine Wt 11 [12] [] aG rfl (aA rfl) ?_;refine Wt 12 [] [] aG rfl (aU rfl (hR.own.row.sl.jR gp (j:=3) (u := .slice ((aN ls (bu L x) (⟨yc,yz,yt,.nil⟩ : dx)))[bu L x].ax.A ((aN ls (bu L x) (⟨yc,yz,yt,.nil⟩ : dx)))[bu L x].ax.n ((aN ls (bu L x) (⟨yc,yz,yt,.nil⟩ : dx)))[bu L x].ax.c) rfl)) ?_;refine Wp 13 [14] [] aG rfl rfl ?_;refine SF.one 14 rfl (by kernel_rfl) rfl ?_;refine SW.dI rfl rfl rfl rfl rfl fun b w4 ak hb hB => ?_
  (obtain ⟨hw,aZ,hR,sB⟩:=dv ak hw aZ hR sB);have Q9:w0.heap.size<=w4.heap.size:=hR.size
  refine SW.nil (ae.sf ak ?_);refine SF.turn rfl (by kernel_rfl) rfl ?_;have DC:=hR.own.each.get (bu L x) pM eX;have IM:=DC.bC;have E6:=IM.sl.len;refine SW.DB IM (aS.ue (enc:=bw) hB) hw.size (by decide) rfl rfl rfl (by omega) (by omega) fun A3 c3 w5 lD hg Mn => ?_
  have hS:=aZ.aK (IM.gr hg) rfl;have gm:=hR.own.row.aK (IM.gr hg) rfl;have TB:=hR.Wd pM _ _ hg sB.at_;have hw:=aD hw hg (adg _) IM.a9;refine SW.nil (ae.sg hS ?_);refine SG.one 16 rfl (by kernel_rfl) rfl ?_;repeat ((show SW _ _ _ _ (⟨_,Op.indexAddr _ _ _,_,_,_,none⟩::_) _ _;refine SW.st (cd rfl rfl (by assumption) (by omega)) rfl ?_))
  refine SW.nil (ae.sg hS ?_);refine SG.one 17 rfl (by kernel_rfl) rfl ?_;repeat ((show SW _ _ _ _ (⟨_,Op.fieldAddr _ _ _,_,_,_,none⟩::_) _ _;refine SW.st (aA rfl) rfl ?_))
  refine SW.nil (ae.sg hS ?_);refine SG.last rfl (by kernel_rfl) (by kernel_rfl) ?_;refine SW.gZ (bu L x) 3 ⟨((aN ls (bu L x) (⟨yc,yz,yt,.nil⟩ : dx)))[bu L x].ga,((aN ls (bu L x) (⟨yc,yz,yt,.nil⟩ : dx)))[bu L x].ao,((aN ls (bu L x) (⟨yc,yz,yt,.nil⟩ : dx)))[bu L x].Ty,⟨A3,((aN ls (bu L x) (⟨yc,yz,yt,.nil⟩ : dx)))[bu L x].ax.n+1,c3⟩⟩ gm rfl rfl rfl gp (by decide) rfl rfl fun w6 kD uf => ?_
  have yG:=gm.gr uf;have TD:=N6 _ _ _ uf (fun k e=>by rcases kq k e with h|h;exact .inr (.inl h);exact .inr (.inr (adf E5 h))) TB;have hw:=aD hw uf (adg _) gm.a9;refine Wz ?_;refine ae.pV rfl ⟨_,rfl,hw,TD,⟨A2,li.n+1,c2⟩,((aN ls (bu L x) (⟨yc,yz,yt,.nil⟩ : dx))).set (bu L x) ⟨((aN ls (bu L x) (⟨yc,yz,yt,.nil⟩ : dx)))[bu L x].ga,((aN ls (bu L x) (⟨yc,yz,yt,.nil⟩ : dx)))[bu L x].ao,((aN ls (bu L x) (⟨yc,yz,yt,.nil⟩ : dx)))[bu L x].Ty,⟨A3,((aN ls (bu L x) (⟨yc,yz,yt,.nil⟩ : dx)))[bu L x].ax.n+1,c3⟩⟩,hS.aK (b:=b1) (t':=41) yG rfl,?_⟩
  have Wh:Bz w0.heap.size li ls ⟨A2,li.n+1,c2⟩ ((aN ls (bu L x) (⟨yc,yz,yt,.nil⟩ : dx)).set (bu L x) ⟨((aN ls (bu L x) (⟨yc,yz,yt,.nil⟩ : dx)))[bu L x].ga,((aN ls (bu L x) (⟨yc,yz,yt,.nil⟩ : dx)))[bu L x].ao,((aN ls (bu L x) (⟨yc,yz,yt,.nil⟩ : dx)))[bu L x].Ty,⟨A3,((aN ls (bu L x) (⟨yc,yz,yt,.nil⟩ : dx)))[bu L x].ax.n+1,c3⟩⟩):=by
   rw [wx We];refine Bz.ins Ew TA (fun g e => ?_) (fun k e=>(TC k e).imp id (fun h=>adf E5 h));rcases Mn g e with h|h
   ·rw [Mm pM] at h;cases h
   ·exact adf Q9 h
  refine ⟨?_,Wh⟩;rw [<- hR.tI];refine ⟨kD,gg.setAt (R:=rM _ w.heap.size) hR.own.each ⟨DC.cpu.trans hR.key.1,DC.kr.trans hR.key.2.1,DC.ty.trans hR.key.2.2,lD.aK yG rfl⟩ fun j h1 h2 nk ho=>⟨ho.cpu,ho.kr,ho.ty,?_⟩⟩;refine (ho.bC.grown hg ?_).aK yG rfl;cases eo:aJ ((aN ls (bu L x) (⟨yc,yz,yt,.nil⟩ : dx)))[j].ax.A ((aN ls (bu L x) (⟨yc,yz,yt,.nil⟩ : dx)))[j].ax.c with
  | none=>exact .inl rfl
  | some g =>
    right;intro e;exact hR.sep j pM h1 nk g e.symm eo
 ·obtain ⟨iE,qX⟩:=j8 hq;refine Wz ?_;(apply CW.bH mixed;(· kernel_rfl);rotate_left;intro w1 ai;obtain ⟨hw,aZ,aI,hl,sB⟩:=fD ai hw aZ aI hl sB;clear ai;rotate_right);repeat' (first|refine Wz ?_|(refine CW.fY rfl ?_)|refine SW.dK rfl rfl (fun w1 ai=>(cL _ (hl.rd.ext ai))) ?_|exact SW.eU rfl)
  clear cL;have E5:=adf fP (aeq aI.lt);have hR:=(⟨hl,iE,by rw [sq (by rw [<- Yg];exact hq),<- Yf,iQ hq iE],qX,fun j h1 h2 nk g e=>Ew _ _ h1 h2 (Ne.symm nk) g e,fun h1 w w' hg=>Ss _ h1 w w' hg,Ml _ (adb iE),E5⟩ : E3 w0.heap.size _ w.heap.size F L x p li ls L);clear hl;have hA:=hR.own.row.sl.base;have gp:bu L x<li.n:=by have:=hR.own.rd.len;have:=hR.lt;omega
  have pM:bu L x<(ls).length:=by have:=hR.own.rd.len;have:=hR.lt;omega
  have eX:=hR.lt;have rV:=hR.small;refine CW.gn 15 18 (fun w2=>aS w2 b1 41 (dG ⟨Z,m,cp,li,lv⟩)) mixed (by kernel_rfl) fun w1 ai aG => ?_
  obtain ⟨hw,aZ,hR,sB⟩:=dv ai hw aZ hR sB;clear ai;refine SF.cr 0 [] aG rfl (by kernel_rfl) (by kernel_rfl) (by kernel_rfl) (aR rfl) (fun w2 hS=>aR rfl) rfl ?_;refine SF.cr 1 [] aG rfl (by kernel_rfl) (by kernel_rfl) (by kernel_rfl) (aF rfl) (fun w2 hS=>aF rfl) rfl ?_;refine SF.cr 2 [] aG rfl (by kernel_rfl) (by kernel_rfl) (by kernel_rfl) (aA rfl) (fun w2 hS=>aA rfl) rfl ?_;refine SF.cr 3 [] aG rfl (by kernel_rfl) (by kernel_rfl) (by kernel_rfl) (aU rfl (aZ.cell (i:=3) (v := .slice li.A li.n li.c) rfl)) (fun w2 hS=>aU rfl (hS.cell (i:=3) (v := .slice li.A li.n li.c) rfl)) rfl ?_;refine SF.cr 4 [] aG rfl (by kernel_rfl) (by kernel_rfl) (by kernel_rfl) (aR rfl) (fun w2 hS=>aR rfl) rfl ?_;refine Wp 5 [12,11,10,8,7,6] [] aG rfl rfl ?_;refine Wt 6 [12,11,10,8,7] [] aG rfl (aF rfl) ?_;refine Wt 7 [12,11,10,8] [] aG rfl (aA rfl) ?_;refine Wt 8 [12,11,10] [] aG rfl (aU rfl (aZ.cell (i:=3) (v := .slice li.A li.n li.c) rfl)) ?_;refine Wp 9 [12,11,10] [] aG rfl rfl ?_;refine Wt 10 [12,11] [] aG rfl (cd rfl rfl (by assumption) (by omega)) ?_;refine Wt 11 [12] [] aG rfl (aA rfl) ?_;refine Wt 12 [] [] aG rfl (aU rfl (hR.own.row.sl.jR gp (j:=3) (u := .slice (ls)[bu L x].ax.A (ls)[bu L x].ax.n (ls)[bu L x].ax.c) rfl)) ?_;refine Wp 13 [14] [] aG rfl rfl ?_;refine SF.one 14 rfl (by kernel_rfl) rfl ?_;refine SW.dI rfl rfl rfl rfl rfl fun b w4 ak hb hB => ?_
  (obtain ⟨hw,aZ,hR,sB⟩:=dv ak hw aZ hR sB);have Q9:w0.heap.size<=w4.heap.size:=hR.size
  refine SW.nil (ae.sf ak ?_);refine SF.turn rfl (by kernel_rfl) rfl ?_;have DC:=hR.own.each.get (bu L x) pM eX;have IM:=DC.bC;have E6:=IM.sl.len;refine SW.DB IM (aS.ue (enc:=bw) hB) hw.size (by decide) rfl rfl rfl (by omega) (by omega) fun A3 c3 w5 lD hg Mn => ?_
  have hS:=aZ.aK (IM.gr hg) rfl;have gm:=hR.own.row.aK (IM.gr hg) rfl;have TB:=hR.Wd pM _ _ hg sB.at_;have hw:=aD hw hg (adg _) IM.a9;refine SW.nil (ae.sg hS ?_);refine SG.one 16 rfl (by kernel_rfl) rfl ?_;repeat ((show SW _ _ _ _ (⟨_,Op.indexAddr _ _ _,_,_,_,none⟩::_) _ _;refine SW.st (cd rfl rfl (by assumption) (by omega)) rfl ?_))
  refine SW.nil (ae.sg hS ?_);refine SG.one 17 rfl (by kernel_rfl) rfl ?_;repeat ((show SW _ _ _ _ (⟨_,Op.fieldAddr _ _ _,_,_,_,none⟩::_) _ _;refine SW.st (aA rfl) rfl ?_))
  refine SW.nil (ae.sg hS ?_);refine SG.last rfl (by kernel_rfl) (by kernel_rfl) ?_;refine SW.gZ (bu L x) 3 ⟨(ls)[bu L x].ga,(ls)[bu L x].ao,(ls)[bu L x].Ty,⟨A3,(ls)[bu L x].ax.n+1,c3⟩⟩ gm rfl rfl rfl gp (by decide) rfl rfl fun w6 kD uf => ?_
  have yG:=gm.gr uf;have TD:=N6 _ _ _ uf (fun k e => .inr (.inl e)) TB;have hw:=aD hw uf (adg _) gm.a9;refine Wz ?_;refine ae.pV rfl ⟨_,rfl,hw,TD,li,(ls).set (bu L x) ⟨(ls)[bu L x].ga,(ls)[bu L x].ao,(ls)[bu L x].Ty,⟨A3,(ls)[bu L x].ax.n+1,c3⟩⟩,hS.aK (b:=b1) (t':=41) yG rfl,?_⟩
  have Wh:Bz w0.heap.size li ls li ((ls).set (bu L x) ⟨(ls)[bu L x].ga,(ls)[bu L x].ao,(ls)[bu L x].Ty,⟨A3,(ls)[bu L x].ax.n+1,c3⟩⟩):=by
   refine Bz.tI Ew TA pM (fun g e => ?_);rcases Mn g e with h|h
   ·exact .inl h
   ·exact .inr (adf Q9 h)
  refine ⟨?_,Wh⟩;rw [<- hR.tI];refine ⟨kD,gg.setAt (R:=rM _ w.heap.size) hR.own.each ⟨DC.cpu.trans hR.key.1,DC.kr.trans hR.key.2.1,DC.ty.trans hR.key.2.2,lD.aK yG rfl⟩ fun j h1 h2 nk ho=>⟨ho.cpu,ho.kr,ho.ty,?_⟩⟩;refine (ho.bC.grown hg ?_).aK yG rfl;cases eo:aJ (ls)[j].ax.A (ls)[j].ax.c with
  | none=>exact .inl rfl
  | some g =>
    right;intro e;exact hR.sep j pM h1 nk g e.symm eo
def dQ (n:ByteArray) (c:aQ) : Bool:=tH c.Names n
def zX (z:Int) (c:aQ) : Bool:=decide (c.az=z)
def ah.zero:ah:=⟨[],.zero,[]⟩
def mQ (l:List ByteArray) (n:ByteArray) : Nat:=(l.takeWhile fun m=>eJ m n).length
theorem vn (l:List ByteArray) (n:ByteArray) : mQ l n<=l.length:=by
 unfold mQ;exact (List.takeWhile_sublist _).length_le
theorem IN {l:List ByteArray} (h:j<mQ l n) (hj:j<l.length) : eJ l[j] n=true:=by
 unfold mQ at h;have h1:(l.takeWhile fun m=>eJ m n)[j]=l[j]:=List.IsPrefix.getElem (List.takeWhile_prefix _) h
 rw [<- h1];have:=List.all_takeWhile (p:=fun m=>eJ m n) (l:=l)
 rw [List.all_eq_true] at this;exact this _ (adb h)
theorem IP {l:List ByteArray} (h:mQ l n<l.length) : eJ l[mQ l n] n=false:=by
 induction l with
 | nil=>simp at h
 | cons a r ih =>
   unfold mQ at h ih ⊢;by_cases e:eJ a n=true
   ·simp only [List.takeWhile_cons,e,if_true,List.length_cons] at h ih ⊢;simp only [List.getElem_cons_succ];exact ih (by omega)
   ·have e':eJ a n=false:=by simpa using e
    simp [e']
theorem JY {l:List ByteArray} (hk:k<=l.length) (h1:∀ j (hj:j<l.length),j<k->eJ l[j] n=true) (h2:∀ h:k<l.length,eJ l[k] n=false) : mQ l n=k:=by
 rcases adO (mQ l n) k with h|h|h
 ·have:=h1 (mQ l n) (by omega) h
  rw [IP (by omega)] at this;cases this
 ·exact h
 ·have:=IN h (by have:=vn l n;omega)
  rw [h2 (by have:=vn l n;omega)] at this;cases this
def Hd (l:List ByteArray) : Prop := ∀ (i j:Nat) (hi:i<l.length) (hj:j<l.length),i<j->eJ l[i] l[j]=true
theorem yE.n9 {acc l:List ByteArray} (h:yE acc l) : Hd l:=by
 have:∀ (d i:Nat) (hi:i<l.length) (hj:i+d+1<l.length),eJ l[i] l[i+d+1]=true:=by
  intro d;induction d with
  | zero=>intro i hi hj;exact (h.each (i+1) hj).2.2 (by omega)
  | succ d ih =>
    intro i hi hj;exact oP (ih i hi (by omega)) ((h.each (i+(d+1)+1) hj).2.2 (by omega))
 intro i j hi hj pk;obtain ⟨d,rfl⟩ : ∃ d,j=i+d+1:=⟨j-i-1,by omega⟩;exact this d i hi hj
theorem OR {l:List ByteArray} (hs:Hd l) (h:mQ l n<=j) (hj:j<l.length) : eJ l[j] n=false:=by
 have h0:=IP (l:=l) (n:=n) (by omega);by_cases e:mQ l n=j
 ·subst e;exact h0
 ·cases c:eJ l[j] n
  ·rfl
  ·have:=oP (hs (mQ l n) j (by omega) hj (by omega)) c
   rw [h0] at this;cases this
def rQ (size align:Int) : Int:=(size+align-1) / align*align
def jL (a:Int) : Prop:=a=1∨a=2∨a=4∨a=8
theorem IQ {align:Int} (ha:jL align) (h : 1<=size∧size<=64) : size<=rQ size align∧rQ size align<size+align∧rQ size align % align=0∧rQ size align<=64:=by
 unfold rQ;rcases ha with rfl|rfl|rfl|rfl<;>omega
def dT (s:ah) (n:ByteArray) (z:Int) : aQ:=⟨[n],z,(dp z).2.1,(dp z).1,[],List.replicate s.Heap.bG.toNat (-1)⟩
def dH (c:aQ) (n:ByteArray) : aQ:=⟨aN c.Names (mQ c.Names n) n,c.az,c.bL,c.Order,c.ab,c.ap⟩
theorem ta.Cd {s:ah} {hi:i<s.aa.length} (h:ta s i hi) (hH:bK s.Heap) (hI:∀ (j:Nat) (h:j<s.aa.length),ta s j h) : s.aa[i].Names.length<=3512479453921:=by
 have h1:=E1 hH i (by omega) (fun j hj _=>hI j hj);have h2:=qY (l:=s.aa[i].Names) h1.1.1 s.aa[i].Names.length (fun k hk _=>(h.names.each k hk).2.1);rw [ad2] at h2;refine E0 (adT.1 h2).2.1 fun n hn => ?_
 obtain ⟨k,hk,rfl⟩:=ade hn;exact (h.names.each k hk).1
inductive lI (s:ah) (n:ByteArray) (size align:Int) : ah×Int->Prop where
 | bad (h:fW s=false) : lI s n size align (.zero,8)
 | form (h:fW s=true) (hn : ¬ (gz n=true∧jL align)) : lI s n size align (.zero,3)
 | range (h:fW s=true) (hn:gz n=true∧jL align) (hs : ¬ (1<=size∧size<=64)) : lI s n size align (.zero,1)
 | gE (h:fW s=true) (hn:gz n=true∧jL align) (hs : 1<=size∧size<=64) (ht:s.aa.any (dQ n)=true) : lI s n size align (.zero,5)
 | uM {i:Nat} (h:fW s=true) (hn:gz n=true∧jL align) (hs : 1<=size∧size<=64) (ht:s.aa.any (dQ n)=false) (hi:i<s.aa.length) (hz:s.aa[i].az=rQ size align) (ha:∀ j (hj:j<s.aa.length),j<i->s.aa[j].az≠rQ size align) :
    lI s n size align (⟨s.Words,s.Heap,s.aa.set i (dH s.aa[i] n)⟩,0)
 | full (h:fW s=true) (hn:gz n=true∧jL align) (hs : 1<=size∧size<=64) (ht:s.aa.any (dQ n)=false) (hz:∀ j (hj:j<s.aa.length),s.aa[j].az≠rQ size align) (hc:s.aa.length=20) : lI s n size align (.zero,9)
 | new (h:fW s=true) (hn:gz n=true∧jL align) (hs : 1<=size∧size<=64) (ht:s.aa.any (dQ n)=false) (hz:∀ j (hj:j<s.aa.length),s.aa[j].az≠rQ size align) (hc:s.aa.length<20) :
    lI s n size align (⟨s.Words,s.Heap,s.aa++[dT s n (rQ size align)]⟩,0)
theorem lI.dq {s:ah} {align:Int} {u v:ah×Int} (a:lI s n size align u) (b:lI s n size align v) : u=v:=by
 cases a with
 | bad h=>cases b with
   | bad=>rfl
   | form h'|range h'|gE h'|uM h'|full h'|new h'=>rw [h] at h';cases h'
 | form h hn=>cases b with
   | bad h'=>rw [h] at h';cases h'
   | form=>rfl
   | range _ h'|gE _ h'|uM _ h'|full _ h'|new _ h'=>exact absurd h' hn
 | range h hn hs=>cases b with
   | bad h'=>rw [h] at h';cases h'
   | form _ h'=>exact absurd hn h'
   | range=>rfl
   | gE _ _ h'|uM _ _ h'|full _ _ h'|new _ _ h'=>exact absurd h' hs
 | gE h hn hs ht=>cases b with
   | bad h'=>rw [h] at h';cases h'
   | form _ h'=>exact absurd hn h'
   | range _ _ h'=>exact absurd hs h'
   | gE=>rfl
   | uM _ _ _ h'|full _ _ _ h'|new _ _ _ h'=>rw [ht] at h';cases h'
 | @uM i h hn hs ht hi hz ha=>cases b with
   | bad h'=>rw [h] at h';cases h'
   | form _ h'=>exact absurd hn h'
   | range _ _ h'=>exact absurd hs h'
   | gE _ _ _ h'=>rw [ht] at h';cases h'
   | @uM j _ _ _ _ hj oB mA =>
     rcases adO i j with g|g|g
     ·exact absurd hz (mA i hi g)
     ·subst g;rfl
     ·exact absurd oB (ha j hj g)
   | full _ _ _ _ h'|new _ _ _ _ h'=>exact absurd hz (h' i hi)
 | full h hn hs ht hz hc=>cases b with
   | bad h'=>rw [h] at h';cases h'
   | form _ h'=>exact absurd hn h'
   | range _ _ h'=>exact absurd hs h'
   | gE _ _ _ h'=>rw [ht] at h';cases h'
   | uM _ _ _ _ hi h'=>exact absurd h' (hz _ hi)
   | full=>rfl
   | new _ _ _ _ _ h'=>omega
 | new h hn hs ht hz hc=>cases b with
   | bad h'=>rw [h] at h';cases h'
   | form _ h'=>exact absurd hn h'
   | range _ _ h'=>exact absurd hs h'
   | gE _ _ _ h'=>rw [ht] at h';cases h'
   | uM _ _ _ _ hi h'=>exact absurd h' (hz _ hi)
   | full _ _ _ _ _ h'=>omega
   | new=>rfl
def iT (lo:Nat) (u:ah×Int) (v:Value) (w:World) : Prop := ∃ q,v = .tuple #[.agg (aP q).toArray,.int .i64 u.2]∧iY w lo q u.1
theorem iT.zero (e:Int) (lo:Nat) (w:World) : iT lo (.zero,e) (.tuple #[.agg (aP .zero).toArray,.int .i64 e]) w :=
 ⟨.zero,rfl,Own.fF _ _ _ _ _ _,jH.zero w lo,⟨[],fw.nil _ _⟩⟩
theorem Heap.kX:Heap.zero.small:=by constructor<;>simp [Heap.zero]
theorem ah.kX:ah.zero.small:=⟨by simp [ah.zero],Heap.kX,by simp [ah.zero],by simp [ah.zero]⟩
theorem lI.small {s:ah} {align:Int} {u:ah×Int} (a:lI s n size align u) (hs:s.small) : u.1.small:=by
 cases a with
 | bad|form|range|gE|full=>exact ah.kX
 | @uM i h hn nt ht hi hz ha =>
   have hM:=iS.1 h;have hc:=hs.each _ (adb hi);refine ⟨hs.words,hs.heap,by simp only [List.length_set];exact hs.br,fun c hm => ?_⟩;rcases ads hm with hm|rfl
   ·exact hs.each c hm
   ·have hl:=(hM.each i hi).Cd hM.heap (fun j h=>hM.each j h);refine ⟨?_,hc.aE,hc.ba⟩;simp only [dH];rw [di _ (vn _ _)];omega
 | new h hn nt ht hz hc =>
   have hM:=iS.1 h;refine ⟨hs.words,hs.heap,by simp only [List.length_append,List.length_singleton];omega,fun c hm => ?_⟩;rcases adm.1 hm with hm|hm
   ·exact hs.each c hm
   ·simp only [List.mem_singleton] at hm;subst hm;have:=hM.heap.cpus
    refine ⟨by simp [dT],by simp [dT],?_⟩;simp only [dT,List.length_replicate];omega
open Go.ChangeShapes Go.WideShapes Go.ChangeAt Go.RowKit Go.Deep Go.Joins
variable {H:Type} {Z5:FuncId} {ds gs:List (DataW H)} {before:List MemPlace} {tb:TypeId} {W W':World}
theorem own:ownKnob prog.godebug=none:=by kernel_rfl
theorem laidOut:laidOutB prog=true:=by kernel_rfl
theorem tU {enc:TypeId×Value->H} (hl:laidOutB P=true) (hb:Below W.heap.size W W') :
 ∀ (ts:List TypeId) (vs:List Value) (ds:List (DataW H)) (ps:List MemPlace),(∀ t∈ts,P.readableRec t=true∧t<P.types.size) ->
  DataW.TrodAll enc P W 0 (fun _=>true) true ts vs ds ps->(∀ x∈ps,x.block<W.heap.size)->DataW.TrodAll enc P W' 0 (fun b=>decide (b<W.heap.size)) true ts vs ds ps
 | [],[],[],_,_,h,_=>h
 | t::ts,v::vs,d::ds,ps,TE,h,eX=>by
   obtain ⟨p,q,h1,h2,rfl⟩:=h
   exact ⟨p,q,Below.trod hl (TE t (by simp)).1 (TE t (by simp)).2 h1 hb (fun x hx=>eX x (by simp [hx])),
    tU hl hb ts vs ds q (fun u hu=>TE u (by simp [hu])) h2 (fun x hx=>eX x (by simp [hx])),rfl⟩
 | [],_::_,_,_,_,h,_=>by simp [DataW.TrodAll] at h
 | [],[],_::_,_,_,h,_=>by simp [DataW.TrodAll] at h
 | _::_,[],_,_,_,h,_=>by simp [DataW.TrodAll] at h
 | _::_,_::_,[],_,_,h,_=>by simp [DataW.TrodAll] at h
theorem JZ {enc:TypeId×Value->H} {f:Func} {s:ChangeSpec} {args:Array Value}
 (hl:laidOutB P=true) (TE:∀ t∈f.params.toList,P.readableRec t=true∧t<P.types.size) (hr:f.resultTypes = #[tb]) (hb:P.underlying tb=some .bool) (hv:s.vars=[])
 (Ln:(s.fn H (ds++[])).results=[.lit (.bool true)]∧(s.fn H (ds++[])).args=ds∧(s.fn H (ds++[])).vars=[])
 (hW:DataW.Whole enc P f.params.toList s.vars false W args.toList ds gs before) (h:bF P Z5 args.toList W fun v _=>v = .bool true) :
 Calls P Z5 args W fun e W' => ∃ v,e = .returned v∧s.post enc P f false true false false W args v W':=by
 have TF:=hW;obtain ⟨p,q,hA,hV,rfl,_,_⟩:=hW;rw [hv] at hV;obtain ⟨rfl,rfl⟩:=trodVars_none hV;simp only [List.append_nil] at TF;have eX:∀ x∈p,x.block<W.heap.size:=fun x hx=>by simpa using TF.lt x hx
 refine Calls.mono h.out ?_;rintro e W' ⟨v,rfl,hx,rfl⟩
 obtain ⟨s1,s2,s3⟩:=Ln;refine ⟨_,rfl,ds,[],p,[],p,[],TF,?_,?_,?_,Below.frame hx _,fun h=>by cases h⟩
 ·rw [s1,hr];exact trodAll_mk1 (shut_bool hb true)
 ·rw [s2];exact tU hl hx _ _ _ _ TE hA eX
 ·rw [s3,hv]
  rfl
set_option maxRecDepth 100000
open Go.ChangeShapes Go.WideShapes Go.ChangeAt Go.RowKit Go.Deep Go.Joins
variable {b0:Nat} {en:α -> List Value} {Good:α -> Prop}
def Ra (z:Int) : Prop := -9223372036854775808<=z∧z<=9223372036854775807
section
variable {H:Type} {enc:TypeId×Value->H} {W:World} {base:Nat} {spare:Nat->Bool} {held:Bool} {fuel:Nat} {cs:List Value} {x:DataW H×List MemPlace}
theorem in64_of_wf {z:Int} (h:(Lit.int .i64 z).wf=true) : Ra z:=by
 have h1:IntKind.i64.min = -9223372036854775808:=rfl
 have h2:IntKind.i64.max=9223372036854775807:=rfl
 simp only [Lit.wf,Bool.and_eq_true,decide_eq_true_eq] at h;unfold Ra;omega
theorem DD (ht:prog.underlying t=some (.int .i64)) (h:DataW.trod enc prog W base spare held fuel t cs=some x) : ∃ z:Int,cs=bw z∧Ra z:=by
 obtain ⟨z,rfl,_,hw⟩:=DataW.trod_int ht h;exact ⟨z,rfl,in64_of_wf hw⟩
theorem OS {t e:Nat} [S:bz prog t e sz] (hc:prog.cellsOf e=sz)
 (EF:∀ fuel cs x,DataW.trod enc prog W base spare held fuel e cs=some x -> ∃ a : α,cs=en a∧Good a) (h:DataW.trod enc prog W base spare held fuel t cs=some x) :
 ∃ A n c l,cs=[.slice A n c]∧Sl W sz en A n l∧n<=c∧c<=maxLen∧(∀ a∈l,Good a)∧((x.1 = .nil∧n=0) ∨ ∃ es sp,x.1 = .slice es sp∧es.length=n):=by
 rcases open_slice S.oz h with ⟨h1,h2⟩|⟨a,len,cap,m,k,D,Pl,h1,hb,hl,hm,Vo,hx,hi⟩
 ·exact ⟨none,0,0,[],h1,Sl.fF _ _ _ _,by simp,by simp,by simp,.inl ⟨by rw [h2],rfl⟩⟩
 ·have hlm:len<=m:=by rw [Vo];split<;>omega
  have hex:∀ i,i<len -> ∃ q : α,Good q ∧ ∀ j u,(en q)[j]?=some u->W.cell? ((a.add (i*sz)).add j)=some u:=fun i eX=>by
   obtain ⟨cs',lT,ht⟩:=hi i (by omega);obtain ⟨q,rfl,hg⟩:=EF _ _ _ ht;obtain ⟨_,OT,lg⟩:=World.cells?_some lT;rw [hc] at OT lg;refine ⟨q,hg,fun j u hu => ?_⟩
   have hj:j<(en q).length:=by
    rcases adL j (en q).length with h|h
    ·exact h
    ·simp [List.getElem?_eq_none h] at hu
   rw [lg j (by omega)];exact hu
  by_cases h0:len=0
  ·subst h0;exact ⟨some a,0,cap,[],h1,Sl.fF _ _ _ _,hl,hm,by simp,.inr ⟨_,_,by rw [hx],by simp⟩⟩
  have J0:∃ f:Nat -> α,∀ i,i<len->Good (f i) ∧ ∀ j u,(en (f i))[j]?=some u->W.cell? ((a.add (i*sz)).add j)=some u:=by
   have bJ:Nonempty α := ⟨(hex 0 (by omega)).choose⟩
   exact ⟨fun i=>if h:i<len then (hex i h).choose else Classical.choice bJ,fun i h=>by simp only [h,dif_pos];exact (hex i h).choose_spec⟩
  obtain ⟨f,hf⟩:=J0;refine ⟨some a,len,cap,(List.range len).map f,h1,⟨by simp,fun _=>rfl,fun i po j u hu => ?_⟩,hl,hm,?_,.inr ⟨_,_,by rw [hx],by simp⟩⟩
  ·simp at po;exact (hf i po).2 j u (by simpa using hu)
  ·intro q hq;obtain ⟨i,po,rfl⟩:=adv.1 hq;exact (hf i (by simpa using po)).1
theorem E7 {r:Reach} {t e:Nat} [S:bz prog t e sz] (hc:prog.cellsOf e=sz)
 (EF:∀ fuel cs x,DataW.trod enc prog W base spare held fuel e cs=some x -> ∃ a : α,cs=en a∧Good a) {v:Value} {d:DataW H} {p:List MemPlace} (hv:Value.okWide prog W r b0 t v) (h:DataW.Trod enc prog W base spare held t v d p) :
 ∃ A n c l,v = .slice A n c∧Sl W sz en A n l∧n<=c∧c<=maxLen∧(∀ a∈l,Good a)∧((d = .nil∧n=0) ∨ ∃ es sp,d = .slice es sp∧es.length=n):=by
 obtain ⟨a0,len,cap,rfl⟩:=okWide_slice S.oz hv;obtain ⟨fuel,hf⟩:=h;obtain ⟨A,n,c,l,h1,h2,h3,h4,h5,h6⟩:=OS hc EF hf;simp [Value.cells] at h1;obtain ⟨rfl,rfl,rfl⟩:=h1;exact ⟨a0,len,cap,l,rfl,h2,h3,h4,h5,h6⟩
theorem Mo {ts:List TypeId} {ds:List (DataW H)} (oD:(DataW.weightsEach prog ts ds).all (· <= reachBytes)=true) {j t e sz n b:Nat} {d:DataW H} [S:bz prog t e sz] (ht:ts[j]?=some t) (hd:ds[j]?=some d) (hb:prog.bytesOf e=b)
 (h:(d = .nil∧n=0) ∨ ∃ es sp,d = .slice es sp∧es.length=n) : n*b<=140737488351232:=by
 rcases h with ⟨_,rfl⟩|⟨es,sp,rfl,rfl⟩
 ·omega
 ·have:=sized_slice oD ht hd S.oz
  rw [hb] at this;simp only [reachBytes] at this;refine adf (adD _ (Nat.le_add_right _ _)) this
end
section
variable {H:Type} {P:Program}
end
section
variable {H:Type} {enc:TypeId×Value->H} {W:World} {base:Nat} {spare:Nat->Bool} {held:Bool} {fuel:Nat} {cs:List Value} {x:DataW H×List MemPlace}
end
set_option maxRecDepth 100000
open Go.ChangeShapes Go.WideShapes Go.ChangeAt Go.RowKit Go.Deep Go.Joins
section
variable {H:Type} {enc:TypeId×Value->H} {W:World} {base:Nat} {spare:Nat->Bool} {held:Bool} {fuel:Nat} {cs:List Value} {x:DataW H×List MemPlace}
end
set_option maxRecDepth 100000
open Go.ChangeShapes Go.WideShapes Go.ChangeAt Go.RowKit Go.Deep Go.Joins
section
variable {H:Type} {enc:TypeId×Value->H} {W:World} {base:Nat} {spare:Nat->Bool} {held:Bool} {fuel:Nat} {cs:List Value} {x:DataW H×List MemPlace}
end
theorem xZ (A:Option Addr) (n c:Nat) (l:List ByteArray) (x:ByteArray) (w:World) (hl:Sl w 1 encStr A n l) (hn:n<=9223372036854775807) :
 bF prog 139 [.slice A n c,.string x] w fun v _ => ∃ i:Int,v = .int .i64 i∧decide (0<=i)=tH l x:=by
 refine aC func139 rfl ntmps139 rfl ?_;have hw:=Ext.refl w;have hA:=hl.base;have mH:=hl.len;refine Wz ?_
 refine CW.loop (fun k:Nat=>[(0,.slice A n c),(1,.string x),(7,.int .i64 (n:Int)),(8,.int .i64 (k:Int))]) (fun k w'=>k<=n∧Ext w w' ∧ ∀ (i:Nat) (h:i<l.length),i<k->l[i]≠x)
  (fun k=>n-k) 0 ⟨rfl,rfl,rfl,rfl,trivial⟩ ⟨by omega,hw,fun i h hi=>by omega⟩ ?_
 clear hw;rintro k w' ⟨hk,hw,hI⟩
 by_cases gp:k<n
 ·by_cases hx:x=l[k]
  ·repeat' (first|refine Wz ?_|refine Wn hw (hl.one gp rfl) ?_|(refine SW.st ((mO rfl rfl).eq (congrArg Value.bool (decide_eq_true hx))) rfl ?_))
   refine ae.bg rfl rfl ⟨_,rfl,hw,_,rfl,?_⟩;rw [jD.2 (hx ▸ adb (hl.lt gp))];simp
  ·repeat' (first|refine Wz ?_|refine Wn hw (hl.one gp rfl) ?_|(refine SW.st ((mO rfl rfl).eq (congrArg Value.bool (decide_eq_false hx))) rfl ?_))
   refine ae.again (k+1) ⟨rfl,rfl,rfl,rfl,trivial⟩ (by omega) ⟨by omega,hw,fun i h' hi => ?_⟩;by_cases Eo:i=k
   ·subst Eo;exact fun e=>hx e.symm
   ·exact hI i h' (by omega)
 ·refine Wz ?_;refine ae.bg rfl rfl ⟨_,rfl,hw,_,rfl,?_⟩
  have hx:tH l x=false:=by
   cases e:tH l x
   ·rfl
   ·obtain ⟨i,hi,e⟩:=ade (jD.1 e);exact absurd e (hI i hi (by omega))
  rw [hx];simp
theorem oc (A:Option Addr) (n c:Nat) (l:List ByteArray) (x:ByteArray) (w:World) (hl:Sl w 1 encStr A n l) (hn:n<=9223372036854775807) :
 bF prog 88 [.slice A n c,.string x] w fun v _=>v = .bool (tH l x):=by
 refine aC func88 rfl ntmps88 rfl ?_;have hw:=Ext.refl w;refine Wz ?_;refine Wk (xZ _ _ _ _ _ _ (hl.ext hw) hn) fun v w1 ai hv => ?_
 obtain ⟨i,rfl,hi⟩:=hv;have hw:=hw.trans ai;refine Wz ?_;exact ae.bg rfl rfl ⟨_,rfl,hw,by rw [hi]⟩
theorem mR {q : β -> Bool} {l:List α} {m:List β} (hl:l.length=m.length) (h:∀ (k:Nat) (h1:k<l.length) (h2:k<m.length),p l[k]=q m[k]) : idxOf p l=idxOf q m∧l.any p=m.any q:=by
 have e:l.map p=m.map q:=ad1 (by simp [hl]) fun k h1 h2=>by simpa using h k (by simpa using h1) (by simpa using h2)
 have a1:l.any p=m.any q:=by
  have x1:(l.map p).any id=l.any p:=by rw [afg];rfl
  have x2:(m.map q).any id=m.any q:=by rw [afg];rfl
  rw [<- x1,<- x2,e]
 have a2:l.findIdx p=m.findIdx q:=by
  have x1:(l.map p).findIdx id=l.findIdx p:=by rw [List.findIdx_map];rfl
  have x2:(m.map q).findIdx id=m.findIdx q:=by rw [List.findIdx_map];rfl
  rw [<- x1,<- x2,e]
 unfold idxOf;rw [a1,a2];exact ⟨rfl,rfl⟩
theorem He {n:Nat} {l l':List ByteArray} (h:Sl w 1 encStr A n l) (h':Sl w 1 encStr A n l') : l=l':=by
 have e1:=h.len;have e2:=h'.len;refine ad1 (by omega) fun k h1 h2 => ?_
 have a:=h.one (i:=k) (by omega) (u := .string l[k]) rfl;have b:=h'.one (i:=k) (by omega) (u := .string l'[k]) rfl;rw [a] at b;simpa using b
theorem J1 (w:World) (n:ByteArray) : ∃ p:dS->Bool,∀ x c,GY w x c->p x=dQ n c:=by
 classical
 refine ⟨fun x=>decide (∃ c,GY w x c∧dQ n c=true),fun x c h => ?_⟩;cases e:dQ n c
 ·refine decide_eq_false ?_;rintro ⟨c',h',e'⟩
  unfold dQ at e e';rw [He h'.names h.names,e] at e';cases e'
 ·exact decide_eq_true ⟨c,h,e⟩
theorem Hf (x:dS) (c:aQ) (b3:Nat) (n:ByteArray) (w:World) (h3:aS w b3 9 [.string n]) (hx:GY w x c) (hn:x.Names.n<=9223372036854775807) :
 bF prog 87 ([.agg (fQ x).toArray]++[.pointer (some ⟨b3,0,none⟩)]) w fun v _=>v = .bool (dQ n c):=by
 refine aC func87 rfl ntmps87 rfl ?_;refine CW.seq (CW.region (SW.box rfl rfl fun b1 w1 hw lp aZ => ?_));have h3:=h3.ext hw;have P1:=h3.cell (i:=0) (v := .string n) rfl;rw [add_zero] at P1;repeat' (first|refine Wz ?_|refine Wl P1 ?_|(refine Wk (oc _ _ _ _ _ _ (hx.names.ext hw) hn) ?_;intro v w1 ai hv;subst hv;obtain ⟨hw,aZ⟩:=df ai hw aZ;clear ai))
 exact ae.bg rfl rfl ⟨_,rfl,hw,rfl⟩
theorem Ce (r:da) (s:ah) (n:ByteArray) (w:World) (hr:Bh w r s) (hs:s.small) :
 bF prog 48 [.agg (aP r).toArray,.string n] w fun v _=>v = .tuple #[.int .i64 (idxOf (dQ n) s.aa),.bool (s.aa.any (dQ n))]:=by
 refine aC func48 rfl ntmps48 rfl ?_;obtain ⟨cs,hc⟩:=hr.br;obtain ⟨z1,z2⟩:=hc.len;have m3:=hs.br;obtain ⟨p,hp⟩:=J1 w n;have p9:=mR (p:=p) (q:=dQ n) (l:=cs) (m:=s.aa) (by omega) fun k h1 h2=>hp _ _ (hc.each.get k h1 h2)
 refine CW.seq (CW.region (SW.box rfl rfl fun b2 w1 hw fA au => ?_));refine SW.LD rfl rfl rfl fun b3 w2 bt cg aq => ?_
 (obtain ⟨hw,au⟩:=df bt hw au);repeat' (first|refine Wz ?_|(refine SW.st (iK (vs:=[.pointer (some ⟨b3,0,none⟩)]) rfl) rfl ?_))
 refine Wk (lF _ _ _ _ _ (hc.row.ext hw) _ [.pointer (some ⟨b3,0,none⟩)] p (fun x => .agg (fQ x).toArray) (fun x=>rfl) (fun x hx w1 kW=>by
  obtain ⟨k,hk,rfl⟩:=ade hx;have bW:k<s.aa.length:=by omega
  have j3:=hc.each.get k hk bW;have q1:=(hs.each _ (adb bW)).names;have q2:=j3.names.len;rw [hp _ _ j3];exact Hf _ _ b3 n w1 (aq.ext kW) (j3.ext (hw.trans kW)) (by omega)) (by omega)) fun v w4 kz hv => ?_
 subst hv;rw [p9.1];have hw:=hw.trans kz;have Ly:=ly (dQ n) s.aa;refine Wz ?_;all_goals exact ae.dm rfl rfl rfl ⟨_,rfl,hw,by rw [Ly]⟩
theorem Hg (x:ByteArray) (w:World) : bF prog 140 [.string x] w fun v _=>v = .bool false:=by
 refine aC func140 rfl ntmps140 rfl ?_;have hw:=Ext.refl w;repeat' (first|refine Wz ?_|(refine SW.st ((wm rfl rfl).eq (congrArg Value.bool (decide_eq_false (fun h=>h rfl)))) rfl ?_))
 exact ae.bg rfl rfl ⟨_,rfl,hw,rfl⟩
theorem Hh (x:ByteArray) (w:World) : bF prog 90 [.string x] w fun v _=>v = .bool false:=by
 refine aC func90 rfl ntmps90 rfl ?_;have hw:=Ext.refl w;repeat' (first|refine Wz ?_|(refine SW.st ((wm rfl rfl).eq (congrArg Value.bool (decide_eq_false (fun h=>h rfl)))) rfl ?_))
 exact ae.bg rfl rfl ⟨_,rfl,hw,rfl⟩
theorem E8 (x y:ByteArray) (w:World) : bF prog 89 [.string x,.string y] w fun v _=>v = .bool (eJ x y):=by
 refine aC func89 rfl ntmps89 rfl ?_;have hw:=Ext.refl w;repeat' (first|refine Wz ?_|(refine Wk (Hg _ _) ?_;intro v w1 ai hv;subst hv;have hw:=hw.trans ai;clear ai)|(refine SW.st (LY rfl rfl) rfl ?_))
 exact ae.bg rfl rfl ⟨_,rfl,hw,rfl⟩
theorem Hi (A:Option Addr) (n c:Nat) (l:List ByteArray) (x:ByteArray) (w:World) (hl:Sl w 1 encStr A n l) (hs:Hd l) (hn:n<=1000000000000000000) :
 bF prog 51 [.slice A n c,.string x] w fun v _ => ∃ b,v = .tuple #[.int .i64 (mQ l x:Int),.bool b]:=by
 refine aC func51 rfl ntmps51 rfl ?_;have hw:=Ext.refl w;have hA:=hl.base;have mH:=hl.len;refine Wz ?_
 refine CW.loop (fun s:Nat×Nat=>[(0,.slice A n c),(1,.string x),(6,.int .i64 (n:Int)),(7,.int .i64 (s.1:Int)),(8,.int .i64 (s.2:Int))])
  (fun s w'=>s.1<=s.2∧s.2<=n∧Ext w w'∧(∀ (k:Nat) (h:k<l.length),k<s.1->eJ l[k] x=true)∧(∀ (k:Nat) (h:k<l.length),s.2<=k->eJ l[k] x=false)) (fun s=>s.2-s.1) (0,n)
  ⟨rfl,rfl,rfl,rfl,rfl,trivial⟩ ⟨by omega,by omega,hw,fun k h h'=>by omega,fun k h h'=>by omega⟩ ?_
 clear hw;rintro ⟨i,j⟩ w' ⟨pk,pO,hw,hI,hJ⟩
 simp only at pk pO hI hJ ⊢;by_cases eX:i<j
 ·have hk:(i+j) / 2<n:=by omega
  have iE:=hl.lt hk;obtain ⟨q,hq⟩ : ∃ q,eJ (l[(i+j) / 2]) x=q:=⟨_,rfl⟩
  have cL:∀ w',bF prog 89 [.string (l[(i+j) / 2]),.string x] w' fun v _=>v = .bool q:=fun w'=>by
   have:=E8 (l[(i+j) / 2]) x w'
   rwa [hq] at this
  cases q
  ·repeat' (first|refine Wz ?_|refine Wn hw (hl.one hk rfl) ?_|(refine Wk (cL _) ?_;intro v w1 ai hv;subst hv;have hw:=hw.trans ai;clear ai)|(refine SW.st ((mK Tryz.underlying3 mJ rfl).eq (congrArg (Value.int .u64) (wrap_u64 (by omega) (by omega)))) rfl ?_)|(refine SW.st ((mK mJ Tryz.underlying3 rfl).eq (congrArg (Value.int .i64) (jl (by omega) (by omega)))) rfl ?_)|(refine SW.st (yv rfl rfl) rfl ?_))
   refine ae.again (i,(i+j) / 2) ⟨rfl,rfl,rfl,rfl,congrArg (fun z=>some (Value.int .i64 z)) (by omega),trivial⟩ (by simp only;omega) ⟨by simp only;omega,by simp only;omega,hw,hI,fun k h h' => ?_⟩;simp only at h';by_cases e:k=(i+j) / 2
   ·subst e;exact hq
   ·cases c:eJ l[k] x
    ·rfl
    ·have:=oP (hs ((i+j) / 2) k iE h (by omega)) c
     rw [hq] at this;cases this
  ·repeat' (first|refine Wz ?_|refine Wn hw (hl.one hk rfl) ?_|(refine Wk (cL _) ?_;intro v w1 ai hv;subst hv;have hw:=hw.trans ai;clear ai)|(refine SW.st ((mK Tryz.underlying3 mJ rfl).eq (congrArg (Value.int .u64) (wrap_u64 (by omega) (by omega)))) rfl ?_)|(refine SW.st ((mK mJ Tryz.underlying3 rfl).eq (congrArg (Value.int .i64) (jl (by omega) (by omega)))) rfl ?_)|(refine SW.st (yv rfl rfl) rfl ?_))
   refine ae.again ((i+j) / 2+1,j) ⟨rfl,rfl,rfl,congrArg (fun z=>some (Value.int .i64 z)) (by omega),rfl,trivial⟩ (by simp only;omega) ⟨by simp only;omega,pO,hw,fun k h h' => ?_,hJ⟩;simp only at h';by_cases e:k=(i+j) / 2
   ·subst e;exact hq
   ·exact oP (hs k ((i+j) / 2) h iE (by omega)) hq
 ·obtain rfl:i=j:=by omega
  have hp:mQ l x=i:=JY (by omega) (fun j hj h=>hI j hj h) (fun h=>hJ i h (by omega))
  rw [hp];by_cases cy:i<n
  ·by_cases he:l[i]'(hl.lt cy)=x
   ·repeat' (first|refine Wz ?_|refine Wn hw (hl.one cy rfl) ?_|(refine SW.st ((mO rfl rfl).eq (congrArg Value.bool (decide_eq_true he))) rfl ?_))
    exact ae.dm rfl rfl rfl ⟨_,rfl,hw,_,rfl⟩
   ·repeat' (first|refine Wz ?_|refine Wn hw (hl.one cy rfl) ?_|(refine Wk (Hh _ _) ?_;intro v w1 ai hv;subst hv;have hw:=hw.trans ai;clear ai)|(refine SW.st ((mO rfl rfl).eq (congrArg Value.bool (decide_eq_false he))) rfl ?_))
    exact ae.dm rfl rfl rfl ⟨_,rfl,hw,_,rfl⟩
  ·refine Wz ?_;exact ae.dm rfl rfl rfl ⟨_,rfl,hw,_,rfl⟩
variable {Z:List Value}
theorem te:∀ (vs X Y Z:List Value),vs.length=Y.length->setAt (X++Y++Z) X.length vs=X++vs++Z
 | [],X,Y,Z,h=>by
   have:Y=[]:=List.length_eq_zero_iff.1 (by simpa using h.symm)
   subst this;rfl
 | v::r,X,[],Z,h=>by simp at h
 | v::r,X,y::Y,Z,h=>by
   have e:=te r (X++[v]) Y Z (by simpa using h);simp only [List.length_append,List.length_singleton] at e;simp only [setAt]
   have e2:(X++(y::Y)++Z).set X.length v=X++[v]++Y++Z:=by
    rw [adj,aec _ _ (adg _)];simp
   rw [e2,e];simp
theorem Mp {u v:Value} {ds:List Value} (hu:u.cells.toList=cs) (hv:v.cells.toList=ds) (hc:cs.length=sz) (hd:ds.length=sz) (hZ:Z.length=2*sz) :
 Instr.fill (fun i=>some (i*sz,sz)) Z.toArray [(0,u),(1,v)]=some (cs++ds).toArray:=by
 have h1:u.cells.size=sz:=by rw [<- ael,hu,hc]
 have h2:v.cells.size=sz:=by rw [<- ael,hv,hd]
 have eZ:Z=[]++Z.take sz++Z.drop sz:=by simp
 have s1:setAt Z 0 cs=cs++Z.drop sz:=by
  have:=te cs [] (Z.take sz) (Z.drop sz) (by simp;omega)
  rw [<- eZ] at this;simpa using this
 have s2:setAt (cs++Z.drop sz) sz ds=cs++ds:=by
  have:=te ds cs (Z.drop sz) [] (by simp;omega)
  rw [aeA,hc] at this;simpa using this
 have fold:∀ (x:Value) (off:Nat) (X:List Value),Array.foldl (fun (cs:Array Value) (p:Value×Nat)=>cs.setIfInBounds (off+p.2) p.1) X.toArray x.cells.zipIdx=(setAt X off x.cells.toList).toArray:=fun x off X=>by
  have:=qG x.cells.toList 0 off X
  rw [aeW] at this;rw [<- this,<- ae2];simp [Array.toList_zipIdx]
 simp only [Instr.fill];rw [if_neg (by simp;omega)];have f1:=fold u (0*sz) Z;rw [hu,Nat.zero_mul,s1] at f1;have f2:=fold v (1*sz) (cs++Z.drop sz);rw [hv,Nat.one_mul,s2] at f2;simp only [Nat.zero_mul,Nat.one_mul] at f1 f2 ⊢;simp only [f1,f2];rw [if_neg (by simp;omega)]
theorem SW.wI {n:Nat} {rest:List Oper} {L:Env} {pos:String} {z:Value}
 [S:bz P t e sz] [E:dr P e z sz bytes] [C:iy enc sz] {x:Operand} {u v:Value} (a b : α) (hx:cT L x=some u) (hy:cT L y=some v) (hu:u.cells.toList=enc a) (hv:v.cells.toList=enc b) (hs:Nat.ble sz 1000=true)
 (hn:Nat.blt d n=true) (h:∀ g w',Ext w w'->w.heap.size<=g->Own w' w.heap.size e sz enc (some ⟨g,0,none⟩) 2 2 [a,b]->SW P n ops (.gM Q) rest ((d,.slice (some ⟨g,0,none⟩) 2 2)::L) w') :
 SW P n ops (.gM Q) (⟨some d,.buildSlice t 2 #[(0,x),(1,y)],T,pos,af,none⟩::rest) L w :=
 ⟨fun q hq=>by
  obtain ⟨i,hi,hz,nt,yo⟩:=eB P e (z:=z) (sz:=sz) (bytes:=bytes);have hle:sz<=1000:=by simpa using hs
  have hp : 0<sz:=E.pos
  simp only [swp];refine wpList_buildSlice rfl t e 2 _ rfl (enc a++enc b).toArray i z S.oz hi hz (by rw [nt];omega) (by rw [nt];omega) ?_ ?_
  ·have e1:(Array.map (fun (p:Nat×Operand)=>(p.1,q.eval p.2)) #[(0,x),(1,y)]).toList=[(0,u),(1,v)]:=by
    simp [hq.eval hx,hq.eval hy]
   have e2:∀ X:Array Value,X=X.toList.toArray:=fun X=>rfl
   rw [e1,e2 (Array.map _ (Array.range _)),nt];exact Mp hu hv (C.len a) (C.len b) (by simp)
  ·refine (h w.heap.size _ (Ext.alloc w _) (adg _) ⟨rfl,.inr ⟨by omega,w.heap.size,_,rfl,adg _,aS.new w e (enc a++enc b),adg _,by simp only [maxLen];omega,by simp [C.len];omega,?_⟩⟩).out _ (hq.put hn _);simp only [List.flatMap_cons,List.flatMap_nil,List.append_nil];exact adr (by simp [C.len];omega)⟩
variable {ad:Addr} {ty:TypeId}
section
variable {P:Program} {L:Env} {w:World} {d:Option Nat} {T:TypeId} {pos:String} {af:Array Edge} {g:Option (Nat×Bool)}
theorem E9 [c:IE P t] {x lo hi:Operand} {s r:ByteArray} {i j:Int} (hx:cT L x=some (.string s)) (dD:cT L lo=some (.int .i64 i)) (Z6:cT L hi=some (.int .i64 j)) (h0 : 0<=i) (h1:i<=j) (h2:j<=s.size) (hr:s.extract i.toNat j.toNat=r) :
 St P ⟨d,.slice t x (some lo) (some hi) none,T,pos,af,g⟩ L w (.string r) :=
 ⟨fun _ a ha w' _=>by
  subst hr;have e1:=ha.eval hx;have e2:=ha.eval dD;have e3:=ha.eval Z6;have h3:i<=(j.toNat:Int):=by omega
  have h4 : ¬ max j 0<i:=by omega
  generalize a.eval = ρ at *
  simp [execOp,e1,e2,e3,Instr.sliceAt,Instr.slice,Instr.sliceBounds,Instr.sliceBound,asIntOf,run_underlying c.oz,h0,h1,h2,h3,h4,show 0<=j by omega]⟩
theorem J2 {x:Operand} {s r:ByteArray} (hx:cT L x=some (.string s)) (hy:cT L y=some (.string r)) (hb:s.size+r.size<=9223372036854775807) : St P ⟨d,.binOp .add t x y ty,T,pos,af,g⟩ L w (.string (s++r)) :=
 ⟨fun _ a ha w' _=>by
  have e1:=ha.eval hx;have e2:=ha.eval hy;generalize a.eval = ρ at *
  have h1 : ¬ IntKind.i64.max<((s.size+r.size:Nat) : Int):=by
   have:IntKind.i64.max=9223372036854775807:=rfl
   omega
  simp only [Int.natCast_add] at h1;simp [go_sem,e1,e2,Op.stringOp,h1];omega⟩
theorem Fa {len:Nat} [c:y4 P t len e sz] {x:Operand} (hx:cT L x=some (.pointer (some ad))) : St P ⟨d,.slice t x none none none,T,pos,af,g⟩ L w (.slice (some ad) len len) :=
 ⟨fun _ a ha w' _=>by
  have e1:=ha.eval hx;generalize a.eval = ρ at *
  simp [execOp,e1,Instr.sliceAt,Instr.sureAddr,Instr.sliceBounds,run_underlying c.oz,run_sizeOf c.size,add_zero]⟩
end
end Go.Proofs.YtohigmjjbgpfmaaGreatDoor
