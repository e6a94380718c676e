/- Part 3 of what topEnds_holds leans on. -/
import Derived.Test.YtenhkiaaebnggaaGreatDoorPackTopEnds2
import Derived.Maps.OwnSet
import Derived.Great.BuildSlice
import Derived.ArgAppend
import Derived.SizedLaws
import Derived.JoinedCond
import Derived.Deep.Slices
import Derived.Deep.Fields
import Derived.Lib.SmallJoins
set_option linter.unusedVariables false
set_option linter.unusedSimpArgs false
set_option linter.defProp false
open Go.Proofs.Tryz
namespace Go.Proofs.YtenhkiaaebnggaaGreatDoor
open Go.RowKit
variable {α:Type} {bs l:List Block} {p:α -> Bool}
def CB {q:α -> Bool}:∀ {l:List α},(∀ x∈l,p x=true->q x=true)->(∃ x∈l,p x=false∧q x=true)->l.countP p<l.countP q
 | [],_,h=>by obtain ⟨x,hx,_⟩:=h;simp at hx
 | a::l,h1,h2=>by
   rw [List.countP_cons,List.countP_cons];have hle:l.countP p<=l.countP q:=List.countP_mono_left (fun x hx=>h1 x (by simp [hx]))
   obtain ⟨x,hx,hp,hq⟩:=h2;rcases afx.1 hx with rfl|hx
   ·simp [hp,hq];omega
   ·have ih:=CB (l:=l) (fun y hy=>h1 y (by simp [hy])) ⟨x,hx,hp,hq⟩;have:=h1 a (by simp)
    cases Pt:p a<;>cases hqa:q a<;>simp [Pt,hqa] at this ⊢<;>omega
def Ac:∀ {l:List Block} {cs bs:List Block},(∀ b∈l,1<=pw b.Order)->bB (some cs) l=some bs->cs.length<=(List.range 256).countP (eI cs)->(∀ x∈cs,0<=x.At∧1<=pw x.Order)->bs.length<=(List.range 256).countP (eI bs)
 | [],cs,bs,_,h,hc,_=>by injection h with h;subst h;exact hc
 | b::l,cs,bs,hp,h,hc,hg=>by
   have h':bB (mq (some cs) b) l=some bs:=h
   cases e:mq (some cs) b with
   | none=>rw [e,jn] at h';cases h'
   | some ds =>
     rw [e] at h';obtain ⟨cs',e1,hf,rfl⟩:=qg e;injection e1 with e1
     subst e1;have h1:=hp b (by simp);have mm:=(tr hg h1).2 hf;refine Ac (fun x hx=>hp x (by simp [hx])) h' ?_ (fun x hx => ?_)
     ·have:=CB (p:=eI cs) (q:=eI (cs++[b])) (l:=List.range 256) (fun x _ hx=>by simp only [eI,List.any_append,Bool.or_eq_true] at hx ⊢;exact .inl hx)
       ⟨b.At.toNat,by simp;have:=hf.1;have:=hf.2.1;omega,mm.2.2.2 _ (by have:=hf.1;omega) (by have:=hf.1;omega),by
        simp only [eI,List.any_append,Bool.or_eq_true];right;have:=hf.1
        simp [qP];omega⟩
      simp;omega
     ·rcases aeC.1 hx with hx|hx
      ·exact hg x hx
      ·simp at hx;subst hx;exact ⟨hf.1,h1⟩
def HE (hp:∀ b∈l,1<=pw b.Order) (h:bB (some []) l=some bs) : bs.length<=256:=by
 have:=Ac hp h (by simp) (fun x hx=>by simp at hx)
 have h2:(List.range 256).countP (eI bs)<=(List.range 256).length:=List.countP_le_length
 simp at h2;omega
section
variable {P:Program} {n:Nat} {ops:Array Oper} {Q:Exit->Act->World->Prop} {rest:List Oper} {L:Env} {w:World}
end
def QK (b:Nat) : (⟨b,0,none⟩ : Addr).add 0=⟨b,0,none⟩:=by unfold Addr.add;simp
variable {a cpu o:Int} {i j k:Nat} {z0 z1:aj}
def k7 (h:gf l) : l.Pairwise fun x y=>x.At<y.At:=by
 have key:∀ (d i:Nat) (hj:i+d+1<l.length),(l[i]'(by omega)).At<l[i+d+1].At:=by
  intro d;induction d with
  | zero=>intro i hj;exact h.next i hj
  | succ d ih=>intro i hj;exact Int.lt_trans (ih i (by omega)) (h.next (i+d+1) (by omega))
 rw [aeB];intro i j hi hj o6;have:=key (j-i-1) i (by omega)
 have e:i+(j-i-1)+1=j:=by omega
 simp only [e] at this;exact this
def jJ (h:bM l a=true) : ∃ hk:bE l a<l.length,l[bE l a].At=a:=by
 unfold bM at h;split at h
 ·rename_i hk;exact ⟨hk,of_decide_eq_true h⟩
 ·cases h
def rm (hu:l.Pairwise fun x y=>x.At<y.At) (hk:k<l.length) (h:l[k].At=a) : bE l a=k∧bM l a=true:=by
 rw [aeB] at hu;have e:bE l a=k:=I8 (by omega) (fun j hj my=>by have:=hu j k hj hk my;omega) (fun _=>by omega)
 refine ⟨e,?_⟩;unfold bM;simp only [e,dif_pos hk];exact decide_eq_true h
def Ad (h:∀ (k:Nat) (hk:k<l.length),l[k].At≠a) : bM l a=false:=by
 unfold bM;split
 ·rename_i hk;exact decide_eq_false (h _ hk)
 ·rfl
def MV (hu:l.Pairwise fun x y=>x.At<y.At) (hk:k<l.length) (ha:l[k].At=a) (ho:l[k].Order=o) : l.eraseIdx k=mS l a o:=by
 rw [aeB] at hu
 have bG:∀ (j:Nat) (hj:j<l.length),j≠k->BH a o l[j]=false:=fun j hj my=>by
  cases hh:BH a o l[j] with
  | false=>rfl
  | true =>
    obtain ⟨e1,e2⟩:=kn.1 hh;rcases ae6 j k with h1|h1|h1
    ·have:=hu j k hj hk h1;omega
    ·exact absurd h1 my
    ·have:=hu k j hk hj h1;omega
 have e:l=l.take k++l[k]::l.drop (k+1):=by simp
 have hL:∀ x∈l.take k,BH a o x=false:=fun x hx=>by
  obtain ⟨j,hj,rfl⟩:=aeu hx;simp at hj;rw [ae3];exact bG j (by omega) (by omega)
 have hR:∀ x∈l.drop (k+1),BH a o x=false:=fun x hx=>by
  obtain ⟨j,hj,rfl⟩:=aeu hx;simp at hj;rw [afl];exact bG _ (by omega) (by omega)
 have hm:BH a o l[k]=true:=kn.2 ⟨ha,ho⟩
 unfold mS;rw [aeR]
 conv=>rhs;rw [e]
 rw [List.filter_append,List.filter_cons];simp only [hm,Bool.not_true,Bool.false_eq_true,if_false];rw [af0.2 (fun x hx=>by simp [hL x hx]),af0.2 (fun x hx=>by simp [hR x hx])]
noncomputable def Ae (z:aj) (a:Int) : Int:=z.Types.getD ((a-z.aT) / 8).toNat 0
noncomputable def keyOf (z0 z1:aj) (cpu a:Int) : aS:=⟨cpu,if a<z0.To then 0 else 1,if a<z0.To then Ae z0 a else Ae z1 a,[]⟩
def nE (x:aS) (pg:List Int) : aS:=⟨x.gl,x.aj,x.Ty,pg⟩
noncomputable def sI (h:Heap) (z0 z1:aj) (b:Block) (lv:List Block) : Heap:=⟨[(gJ (z0,z1) b).1,(gJ (z0,z1) b).2],h.dP,h.bJ,h.au,lv⟩
noncomputable def kT (h:Heap) (z0 z1:aj) (x:aS) (pg:List Int) (lv:List Block) : Heap :=
 if 8<pg.length then ⟨[(bX (z0,z1) ((pg.take 4).map ct)).1,(bX (z0,z1) ((pg.take 4).map ct)).2],h.dP,h.bJ,jk h.au (nE x (pg.drop 4)),lv⟩ else ⟨[z0,z1],h.dP,h.bJ,jk h.au (nE x pg),lv⟩
noncomputable def gK (h:Heap) (cpu a:Int) : Heap:=match h.bl with
 | [z0,z1]=>if 0<(h.Live.getD (bE h.Live a) ⟨0,0,0⟩).Order then sI h z0 z1 (h.Live.getD (bE h.Live a) ⟨0,0,0⟩) (h.Live.eraseIdx (bE h.Live a)) else kT h z0 z1 (keyOf z0 z1 cpu a) (dh h.au (keyOf z0 z1 cpu a)++[a]) (h.Live.eraseIdx (bE h.Live a))
 | _=>⟨[],[],0,[],[]⟩
noncomputable def fq (h:Heap) (cpu a:Int) : Int×Heap :=
 if jo h then (if 0<=cpu∧cpu<h.bJ then (if bM h.Live a then (0,gK h cpu a) else (4,⟨[],[],0,[],[]⟩)) else (1,⟨[],[],0,[],[]⟩)) else (8,⟨[],[],0,[],[]⟩)
def Jj {h:Heap} (hb:jo h=false) : fq h cpu a=(8,⟨[],[],0,[],[]⟩):=by simp [fq,hb]
def yW {h:Heap} (hb:jo h=true) (hc : ¬ (0<=cpu∧cpu<h.bJ)) : fq h cpu a=(1,⟨[],[],0,[],[]⟩):=by simp only [fq,hb,if_true,if_neg hc]
def Jk {h:Heap} (hb:jo h=true) (hc : 0<=cpu∧cpu<h.bJ) (hf:bM h.Live a=false) : fq h cpu a=(4,⟨[],[],0,[],[]⟩):=by simp only [fq,hb,if_true,if_pos hc,hf,Bool.false_eq_true,if_false]
def lS {h:Heap} (hb:jo h=true) (hc : 0<=cpu∧cpu<h.bJ) (hf:bM h.Live a=true) : fq h cpu a=(0,gK h cpu a):=by simp only [fq,hb,if_true,if_pos hc,hf]
def rn {h:Heap} (hz:h.bl=[z0,z1]) (hk:k<h.Live.length) (e:bE h.Live a=k) (ho : 0<h.Live[k].Order) : gK h cpu a=sI h z0 z1 h.Live[k] (h.Live.eraseIdx k):=by
 have:h.Live.getD k ⟨0,0,0⟩=h.Live[k]:=by rw [afh,aez hk];rfl
 simp only [gK,hz,e,this,if_pos ho]
def rp {h:Heap} (hz:h.bl=[z0,z1]) (hk:k<h.Live.length) (e:bE h.Live a=k) (ho : ¬ 0<h.Live[k].Order) : gK h cpu a=kT h z0 z1 (keyOf z0 z1 cpu a) (dh h.au (keyOf z0 z1 cpu a)++[a]) (h.Live.eraseIdx k):=by
 have:h.Live.getD k ⟨0,0,0⟩=h.Live[k]:=by rw [afh,aez hk];rfl
 simp only [gK,hz,e,this,if_neg ho]
structure jK (h:Heap) (z0 z1:aj) : Prop where
 d:oD h z0 z1
 lT:Fl h.au
 live:gf h.Live
 lists:∀ l∈h.au,1<=l.av.length∧l.av.length<=8
 all:(bB (some []) (z0.ai++z1.ai++a9 h.au++h.Live)).isSome=true
 cpus : 1<=h.bJ∧h.bJ<=4
 count:h.au.length<=256
def CC {m:List Block} (h:∀ x∈l,x∈m) (ho:kz m a o=false) : kz l a o=false:=by
 unfold kz at *;rw [aeS] at *;exact fun x hx=>ho x (h x hx)
def qo.sub {m:List Block} {b:Block} (h:qo m b) (hs:∀ x∈l,x∈m) : qo l b:=⟨h.ord,h.at_,h.al,⟨h.fits.1,h.fits.2.1,CC hs h.fits.2.2⟩,fun x hx=>h.D0 x (hs x hx)⟩
def jK.next {h:Heap} (f:jK h z0 z1) (hk:k<h.Live.length) : qo (z0.ai++z1.ai) h.Live[k]:=by
 have fc:=f.all;have e:z0.ai++z1.ai++a9 h.au++h.Live=(z0.ai++z1.ai++a9 h.au++h.Live.take k)++h.Live[k]::h.Live.drop (k+1):=by simp
 rw [e] at fc;have hf:=rh fc;have hl:=f.live.each k hk;have hs:∀ x∈z0.ai++z1.ai,x∈z0.ai++z1.ai++a9 h.au++h.Live.take k:=fun x hx=>aeU _ (aeU _ hx)
 obtain ⟨l1,l2,l3,l4⟩:=hl;refine ⟨l1,by omega,l3,⟨hf.1,hf.2.1,CC hs hf.2.2⟩,fun x hx => ?_⟩;rcases aeC.1 hx with hx|hx
 ·exact lz f.d.mr x hx
 ·exact lz f.d.lQ x hx
def jK.HF {h:Heap} (f:jK h z0 z1) (hi:i<h.au.length) (hj:j<h.au[i].av.length) : qo (z0.ai++z1.ai++(h.au[i].av.take j).map ct) (ct h.au[i].av[j]):=by
 obtain ⟨hK,Up⟩:=yU hi hj;have hN:=f.d.next hK;rw [Up] at hN;refine hN.sub fun x hx => ?_
 rcases aeC.1 hx with hx|hx
 ·exact aeU _ hx
 ·refine afg _ ?_;obtain ⟨p,hp,rfl⟩:=aeH.1 hx;obtain ⟨m,hm,rfl⟩:=aeu hp;simp only [List.length_take] at hm;rw [ae3];obtain ⟨hM,hMe⟩:=yU hi (show m<h.au[i].av.length by omega);rw [<- hMe];exact afs.2 ⟨kG h.au i+m,by omega,rfl⟩
def jK.inv {h:Heap} (f:jK h z0 z1) (hi:i<h.au.length) : ∀ j,j<=h.au[i].av.length->rf (bX (z0,z1) ((h.au[i].av.take j).map ct)) (z0.ai++z1.ai++(h.au[i].av.take j).map ct)
 | 0,_=>by simpa [bX] using f.d.start
 | j+1,hj=>by
   have ih:=(f.inv hi j (by omega)).back (f.HF hi (show j<_ by omega))
   have e:(h.au[i].av.take (j+1)).map ct=(h.au[i].av.take j).map ct++[ct h.au[i].av[j]]:=by
    rw [aeA (by omega),aeV];rfl
   rw [e,<- aey,oC];exact ih.1
def gL {h:Heap} (hm:bK h) : ∃ z0 z1,jK h z0 z1:=by
 obtain ⟨z0,z1,h1,h2,h3,h4,h5,h6,h7,h8⟩:=hm.cq;have hd:oD h z0 z1:=⟨h1,h2,h3,h4,h5,h6,kc h8⟩
 have hl:∀ l∈h.au,1<=l.av.length∧l.av.length<=8:=fun l hl=>by
  obtain ⟨i,hi,rfl⟩:=aeu hl;exact (h7.head i hi).2.2.2
 refine ⟨z0,z1,hd,D5 h7,hm.live,hl,h8,hm.cpus,?_⟩
 have key:∀ k,k<=h.au.length->k<=kG h.au k:=by
  intro k;induction k with
  | zero=>intro _;omega
  | succ k ih =>
    intro hk;have:=ih (by omega)
    have:=(hl _ (aet (show k<h.au.length by omega))).1
    rw [zZ (show k<h.au.length by omega)];omega
 have hc:=key _ (aew _);rw [D4] at hc
 have hb:(a9 h.au).length<=256:=by
  obtain ⟨bs,Tv⟩:=aeZ.1 hd.all;have h9:=HE hd.pw Tv;have e:=pq Tv;rw [afn] at e;subst e;simp only [List.length_append] at h9;omega
 omega
variable {most per size:Int} {c:aN} {s:ag} {acc Xk ws:List Int}
def RW {x y:Int} (h1 : 0<=x) (h2:x<=64) (h3 : 0<=y) (h4:y<=64) : 0<=x*y∧x*y<=4096 :=
 ⟨af5 h1 h3,by have:=Int.mul_le_mul h2 h4 h3 (by omega:(0:Int)<=64);omega⟩
def iu (size per t a:Int) : Bool:=decide (0<=a-t*16) && decide (a-t*16<per*size) && decide ((a-t*16) % size=0)
def Af {t:Int} (hs : 1<=size) (hk:(k:Int)<per) (h:a=16*t+k*size) : iu size per t a=true:=by
 have e:a-t*16=k*size:=by omega
 unfold iu;rw [e,decide_eq_true (af5 (by omega) (by omega)),decide_eq_true (Int.mul_lt_mul_of_pos_right hk (by omega)),decide_eq_true (Int.mul_emod_left _ _)]
 rfl
def bO (ws:List Int) (size per:Int) (x:Slab) (out:List Int) : Prop:=gb ws per x.cj [] (some out)∧(out.length:Int)=x.ai ∧ ∀ a∈out,iu size per x.At a=true
def gb.mem {l:List Int} {x:Int} {r:Option (List Int)} (h:gb l most x acc r) : (∀ a∈acc,0<=a∧a<(l.length:Int)) -> ∀ out,r=some out -> ∀ a∈out,0<=a∧a<(l.length:Int):=by
 induction h with
 | done out=>intro ha o e;cases e;exact ha
 | bad=>intro _ _ e;cases e
 | @step k out r h1 hk h3 h ih =>
   intro ha o e;refine ih (fun a hm => ?_) o e;rcases aeC.1 hm with hm|hm
   ·exact ha a hm
   ·simp at hm;subst hm;exact ⟨by omega,by omega⟩
def bO.dm {x:Slab} {out:List Int} (h:bO ws size per x out) (h':bO ws size per x Xk) : out=Xk:=by
 have:=h.1.dm h'.1
 injection this
def o8 (l:List Block) (a:Int) : Int:=if bM l a then (l.getD (bE l a) ⟨0,0,0⟩).Order else -1
def Ag (h:bM l a=true) (hk:bE l a<l.length) : o8 l a=l[bE l a].Order:=by
 unfold o8;rw [if_pos h];simp [List.getD,hk]
def Ea (h:bM l a=false) : o8 l a = -1:=by
 unfold o8;rw [h]
 rfl
structure vC (s:ag) (c:aN) (i:Nat) (h:i<c.ab.length) : Prop where
 live:o8 s.Heap.Live c.ab[i].At=c.Order
 next : 0<i->(c.ab[i-1]'(by omega)).At<c.ab[i].At
 chain:∃ out,bO s.Words c.ay c.bL c.ab[i] out
def yu (t:Int) (x:Slab) : Bool:=decide (x.At=t)
def uJ (c:aN) (i:Nat) (h:i<c.ak.length) : Prop:=c.ak[i] = -1∨(c.ak[i]∉c.ak.take i∧c.ab.any (yu c.ak[i])=true)
structure dE (s:ag) (c:aN) : Prop where
 lay:dp c.ay=(c.Order,c.bL,0)
 names : 0<c.Names.length
 aV:(c.ak.length:Int)=s.Heap.bJ
 aB:∀ (i:Nat) (h:i<c.ab.length),vC s c i h
 cX:∀ (i:Nat) (h:i<c.ak.length),uJ c i h
noncomputable def pO (s:ag) (c:aN) : Bool := @decide (dE s c) (Classical.propDecidable _)
def Ah (a:dE s c) : pO s c=true:=by unfold pO;exact @decide_eq_true _ (Classical.propDecidable _) a
def oE (a : ¬ dE s c) : pO s c=false:=by unfold pO;exact @decide_eq_false _ (Classical.propDecidable _) a
def HG:pO s c=true↔dE s c:=by
 by_cases a:dE s c
 ·simp [Ah a,a]
 ·simp [oE a,a]
def bV {x n:Int} (h:dp x=(o,n,0)) : (1<=x∧x<=64)∧(0<=o∧o<=2)∧(1<=n∧n<=64):=by
 unfold dp at h;split at h
 ·rename_i hx;have k1 : 64 / x<=64:=af8 _ (by omega)
  have k2 : 1<=64 / x:=by rw [Int.le_ediv_iff_mul_le (by omega)];omega
  have k3 : 16 / x<=16:=af8 _ (by omega)
  have k4 : 32 / x<=32:=af8 _ (by omega)
  split at h
  ·simp only [Prod.mk.injEq] at h;omega
  ·split at h
   ·simp only [Prod.mk.injEq] at h;omega
   ·simp only [Prod.mk.injEq] at h;omega
 ·simp only [Prod.mk.injEq] at h;omega
def ba (cs:List aN) : List ByteArray:=cs.flatMap fun c=>c.Names
def aH (cs:List aN) : List Int:=cs.flatMap fun c=>c.ab.map fun x=>x.At
structure tu (acc l:List ByteArray) : Prop where
 each:∀ (k:Nat) (h:k<l.length),gx l[k]=true∧l[k]∉acc++l.take k∧(0<k->ew (l[k-1]'(by omega)) l[k]=true)
def tv (acc:List Int) (l:List Slab) : Prop := ∀ (k:Nat) (h:k<l.length),l[k].At∉acc++(l.take k).map fun x=>x.At
structure tw (s:ag) (i:Nat) (h:i<s.aa.length) : Prop where
 may:dE s s.aa[i]
 size:∀ (j:Nat) (hj:j<i),(s.aa[j]'(by omega)).ay≠s.aa[i].ay
 names:tu (ba (s.aa.take i)) s.aa[i].Names
 aB:tv (aH (s.aa.take i)) s.aa[i].ab
structure aA (s:ag) : Prop where
 words:s.Words.length=4096
 heap:bK s.Heap
 most:s.aa.length<=20
 each:∀ (i:Nat) (h:i<s.aa.length),tw s i h
noncomputable def gg (s:ag) : Bool := @decide (aA s) (Classical.propDecidable _)
def jS (a:aA s) : gg s=true:=by unfold gg;exact @decide_eq_true _ (Classical.propDecidable _) a
def wU (a : ¬ aA s) : gg s=false:=by unfold gg;exact @decide_eq_false _ (Classical.propDecidable _) a
def iE:gg s=true↔aA s:=by
 by_cases a:aA s
 ·simp [jS a,a]
 ·simp [wU a,a]
def rS (cs:List aN) (i:Nat) (h:i<cs.length) : ba (cs.take (i+1))=ba (cs.take i)++cs[i].Names:=by
 unfold ba;rw [aeA h,aeM];simp
def rT (cs:List aN) (i:Nat) (h:i<cs.length) : aH (cs.take (i+1))=aH (cs.take i)++cs[i].ab.map fun x=>x.At:=by
 unfold aH;rw [aeA h,aeM];simp
def MW {z:Int} (h1 : -18446744073709551616<z) (h2:z < -9223372036854775808) : IntKind.i64.wrap z=z+18446744073709551616:=by
 simp [IntKind.wrap,IntKind.bits,IntKind.signed];omega
def Ai (r:dT) (t a:Int) (w:World) (hs : 1<=r.ay∧r.ay<=64) (hp : 1<=r.bL∧r.bL<=64) (ht : 0<=t∧t<=255) (ha : -9223372036854775808<=a∧a<=9223372036854775807) :
 bI prog 118 [.agg (fu r).toArray,.int .i64 t,.int .i64 a] w fun v _=>v = .bool (iu r.ay r.bL t a):=by
 refine Wj func118 ntmps118 ?_;refine Ww fun b1 w1 hw lD aX => ?_;have hm:=RW (x:=r.bL) (y:=r.ay) (by omega) (by omega) (by omega) (by omega);unfold iu;by_cases dt:a-t*16 < -9223372036854775808
 ·have e:=MW (z:=a-t*16) (by omega) dt;rw [decide_eq_false (show ¬ 0<=a-t*16 by omega)];repeat' (first|refine Wz ?_|(refine SW.st ((yK rfl rfl).eq (congrArg (Value.int .i64) e)) rfl ?_))
  all_goals try omega
  exact ae.bh rfl rfl ⟨_,rfl,hw,rfl⟩
 ·by_cases h0 : 0<=a-t*16
  ·have e:(a-t*16).tmod r.ay=(a-t*16) % r.ay:=ae7 h0
   rw [decide_eq_true h0];by_cases h1:a-t*16<r.bL*r.ay
   ·rw [decide_eq_true h1];refine Wz ?_;all_goals try omega
    refine ae.bh rfl rfl ⟨_,rfl,hw,?_⟩;rw [e];rfl
   ·rw [decide_eq_false h1];refine Wz ?_;all_goals try omega
    exact ae.bh rfl rfl ⟨_,rfl,hw,rfl⟩
  ·rw [decide_eq_false h0];refine Wz ?_;all_goals try omega
   exact ae.bh rfl rfl ⟨_,rfl,hw,rfl⟩
def HH (a:Int) (b4 b5:Nat) (q:dT) (x:Slab) (w:World) (h4:aR w b4 103 (fu q)) (h5:aR w b5 107 (bd x))
 (hs : 1<=q.ay∧q.ay<=64) (hp : 1<=q.bL∧q.bL<=64) (ht : 0<=x.At∧x.At<=255) (ha : 0<=a∧a<9223372036854775807) :
 bI prog 150 ([.int .i64 a]++[.pointer (some ⟨b4,0,none⟩),.pointer (some ⟨b5,0,none⟩)]) w fun v _=>v = .bool (!iu q.ay q.bL x.At a):=by
 refine Wj func150 ntmps150 ?_;have hw:=Ext.refl w;repeat' (first|refine Wz ?_|(refine Wk (Ai q x.At a _ hs hp ht (by omega)) ?_;intro v w1 ah hv;subst hv;have hw:=hw.trans ah;clear ah))
 exact ae.bh rfl rfl ⟨_,rfl,hw,rfl⟩
def MX (lo:Nat) (ws:List Int) (size per:Int) (x:Slab) (v:Value) (w:World) : Prop :=
 (∃ out A k,bO ws size per x out∧v = .tuple #[.slice A out.length k,.bool true]∧Own w lo 3 1 bt A out.length k out∧out.length<=17592186044416) ∨
 ((∀ out,¬ bO ws size per x out)∧v = .tuple #[.slice none 0 0,.bool false])
def CD (r:de) (q:dT) (x:Slab) (ws:List Int) (w:World) (hl:Sl w 1 bt r.Words.A r.Words.n ws) (hn:r.Words.n*8<=140737488355328)
 (hs : 1<=q.ay∧q.ay<=64) (hp : 1<=q.bL∧q.bL<=64) (ht : 0<=x.At∧x.At<=255) :
 bI prog 119 [.agg (aK r).toArray,.agg (fu q).toArray,.agg (bd x).toArray] w fun v w'=>MX w.heap.size ws q.ay q.bL x v w':=by
 refine Wj func119 ntmps119 ?_;refine Ww fun b3 w1 hw cg ao => ?_;refine SW.box rfl rfl fun b4 w2 bq fw aE => ?_
 (obtain ⟨hw,ao⟩:=cT bq hw ao);refine SW.box rfl rfl fun b5 w3 nL gI aL => ?_
 (obtain ⟨hw,ao,aE⟩:=cd nL hw ao aE);refine Wz ?_;have dt:=hw.size;refine Wk (HB _ _ _ _ _ _ _ (hl.ext hw) hn) fun v w4 kN hv => ?_
 obtain ⟨res,hF,hV⟩:=hv;(obtain ⟨hw,ao,aE,aL⟩:=dJ kN hw ao aE aL);have TC:=hl.len;rcases res with _|out
 ·subst hV;refine Wz ?_;refine ae.dl rfl rfl rfl ⟨_,rfl,hw,.inr ⟨fun o h => ?_,rfl⟩⟩;have:=hF.dm h.1
  cases this
 ·obtain ⟨A,k,rfl,hO,hlen⟩:=hV;have hO:=hO.low dt;by_cases lH:(out.length:Int)=x.ai
  ·have cC:∀ w',Ext w4 w'->bI prog 100 [.slice A out.length k,.func (.func 150) #[] [.pointer (some ⟨b4,0,none⟩),.pointer (some ⟨b5,0,none⟩)].toArray] w' fun v _=>v = .bool (out.any fun a => !iu q.ay q.bL x.At a):=fun w' hx =>
    iY _ _ _ _ _ (hO.sl.ext hx) _ [.pointer (some ⟨b4,0,none⟩),.pointer (some ⟨b5,0,none⟩)] (fun a => !iu q.ay q.bL x.At a) (fun x => .int .i64 x) (fun x=>rfl)
     (fun a ha w1 lj=>by
       have hm:=hF.mem (by simp) out rfl a ha;exact HH a b4 b5 q x w1 ((aE.ext hx).ext lj) ((aL.ext hx).ext lj) hs hp ht ⟨hm.1,by omega⟩) (by omega)
   have h44:=Ext.refl w4;repeat' (first|refine Wz ?_|(refine SW.st (iX (vs:=[.pointer (some ⟨b4,0,none⟩),.pointer (some ⟨b5,0,none⟩)]) rfl) rfl ?_))
   refine Wk (cC _ h44) fun v w5 oX hv => ?_
   (obtain ⟨hw,hO⟩:=cT oX hw hO);subst hv;cases iU:out.any fun a => !iu q.ay q.bL x.At a
   ·refine Wz ?_;refine ae.dl rfl rfl rfl ⟨_,rfl,hw,.inl ⟨out,A,k,⟨hF,lH,fun a ha => ?_⟩,rfl,hO,hlen⟩⟩;rw [aeS] at iU;simpa using iU a ha
   ·refine Wz ?_;refine ae.dl rfl rfl rfl ⟨_,rfl,hw,.inr ⟨fun o h => ?_,rfl⟩⟩;obtain ⟨a,ha,Zk⟩:=aeG.1 iU;have e:=hF.dm h.1;injection e with e
    subst e;rw [h.2.2 a ha] at Zk;cases Zk
  ·refine Wz ?_;all_goals try omega
   refine ae.dl rfl rfl rfl ⟨_,rfl,hw,.inr ⟨fun o h => ?_,rfl⟩⟩;have e:=hF.dm h.1;injection e with e
   subst e;exact lH h.2.1
variable {w:World}
def wV (y:dw) (x:aS) : Prop:=y.gl=x.gl∧y.aj=x.aj∧y.Ty=x.Ty
def RF.key {r:dw} {l:aS} (h:RF w r l) : wV r l:=⟨h.cpu,h.kE,h.ty⟩
def wW (r:jH) (L:List aS) (ls:List dw) (x:aS) (y:dw) (w:World) (hl:zR w r.au ls L) (hk:wV y x) (hn:r.au.n<=1000000000000000000) :
 bI prog 94 [.agg (dD r).toArray,.agg (cm y).toArray] w fun v _=>v = .tuple #[.int .i64 (br L x:Int),.bool (dz L x)]:=by
 refine Wj func94 ntmps94 ?_;refine Ww fun b2 w1 hw eW aq => ?_;refine SW.box rfl rfl fun b3 w2 bq cg ao => ?_
 (obtain ⟨hw,aq⟩:=cT bq hw aq);obtain ⟨l1,l2⟩:=hl.len;have hA:=hl.row.base;refine Wz ?_
 refine CW.loop (fun i:Nat=>[(2,.pointer (some ⟨b2,0,none⟩)),(3,.pointer (some ⟨b3,0,none⟩)),(6,.int .i64 (i:Int))])
  (fun i w'=>i<=r.au.n∧Ext w w'∧aR w' b2 41 (dD r)∧aR w' b3 155 (cm y) ∧ ∀ (k:Nat) (h:k<L.length),k<i->dg L[k] x) (fun i=>r.au.n-i) 0
  ⟨rfl,rfl,rfl,trivial⟩ ⟨by omega,hw,aq,ao,fun k h h'=>by omega⟩ ?_
 clear hw aq ao;rintro i w' ⟨hi,hw,aq,ao,hI⟩
 by_cases cx:i<r.au.n
 ·have tU:i<L.length:=by omega
  have BZ:i<ls.length:=by omega
  have Zl:=hl.each.get i BZ tU;obtain ⟨q,hq⟩ : ∃ q,decide (dg L[i] x)=q:=⟨_,rfl⟩;obtain ⟨p,hp⟩ : ∃ p,decide (dg x L[i])=p:=⟨_,rfl⟩
  have cL:∀ w',bI prog 139 [.agg (cm ls[i]).toArray,.agg (cm y).toArray] w' fun v _=>v = .bool q:=fun w'=>by
   have:=wR ls[i] y L[i] x w' Zl.key hk
   rwa [hq] at this
  have cR:∀ w',bI prog 139 [.agg (cm y).toArray,.agg (cm ls[i]).toArray] w' fun v _=>v = .bool p:=fun w'=>by
   have:=wR y ls[i] x L[i] w' hk Zl.key
   rwa [hp] at this
  cases q
  ·have ov:=of_decide_eq_false hq;have ek:br L x=i:=wO (by omega) hI (fun _=>ov)
   have eh:dz L x = !p:=by
    unfold dz;simp only [ek,dif_pos tU,<- hp];rcases CA L[i] x with e|e|e
    ·exact absurd e ov
    ·have : ¬ dg x L[i]:=by unfold dg jr at *;omega
     simp [e,this]
    ·have:=(Kp e).2.1
     simp [e,this]
   rw [ek,eh];cases p
   all_goals
    repeat' (first|refine Wz ?_|((apply CW.bH mixed;(· kernel_rfl);rotate_left;intro w1 ah;obtain ⟨hw,aq,ao⟩:=cd ah hw aq ao;clear ah;rotate_right))|refine Wo hw ((hl.row.all cx)) ?_|refine SW.dI rfl rfl (fun w1 ah=>(cL _)) ?_|refine SW.dI rfl rfl (fun w1 ah=>(cR _)) ?_|exact SW.eU rfl)
    exact ae.dl rfl rfl rfl ⟨_,rfl,hw,rfl⟩
  ·have Xl:=of_decide_eq_true hq;repeat' (first|refine Wz ?_|((apply CW.bH mixed;(· kernel_rfl);rotate_left;intro w1 ah;obtain ⟨hw,aq,ao⟩:=cd ah hw aq ao;clear ah;rotate_right))|refine Wo hw ((hl.row.all cx)) ?_|refine SW.dI rfl rfl (fun w1 ah=>(cL _)) ?_|exact SW.eU rfl)
   exact ae.again (i+1) ⟨rfl,rfl,rfl,trivial⟩ (by omega) ⟨by omega,hw,aq,ao,fun k h h'=>by
    by_cases e:k=i
    ·subst e;exact Xl
    ·exact hI k h (by omega)⟩
 ·have ek:br L x=i:=wO (by omega) hI (fun h=>by omega)
  have eh:dz L x=false:=by unfold dz;rw [dif_neg (by omega)]
  rw [ek,eh];repeat' (first|refine Wz ?_|((apply CW.bH mixed;(· kernel_rfl);rotate_left;intro w1 ah;obtain ⟨hw,aq,ao⟩:=cd ah hw aq ao;clear ah;rotate_right))|exact SW.eU rfl)
  exact ae.dl rfl rfl rfl ⟨_,rfl,hw,rfl⟩
def sJ (A:Option Addr) (n c:Nat) (l:List Block) (a:Int) (w:World) (hl:Sl w 3 aO A n l) (f:FuncId) [Body prog f] (cv:Block->Int) (hf:∀ x∈l,∀ w',Ext w w'->bI prog f ([.agg (aO x).toArray,.int .i64 a]++[]) w' fun v _=>v = .int .i64 (cv x))
 (bG:∀ x∈l,cv x≠0) (hn:n<=1000000000000000000) : bI prog 106 [.slice A n c,.int .i64 a,.func (.func f) #[] #[]] w fun v _ => ∃ i:Nat,v = .tuple #[.int .i64 (i:Int),.bool false]:=by
 refine Wj func106 ntmps106 ?_;have hw:=Ext.refl w;have hA:=hl.base;have mx:=hl.len;refine Wz ?_
 refine CW.loop (fun s:Nat×Nat=>[(0,.slice A n c),(1,.int .i64 a),(2,.func (.func f) #[] #[]),(8,.int .i64 (n:Int)),(9,.int .i64 (s.1:Int)),(10,.int .i64 (s.2:Int))])
  (fun s w'=>s.1<=s.2∧s.2<=n∧Ext w w') (fun s=>s.2-s.1) (0,n)
  ⟨rfl,rfl,rfl,rfl,rfl,rfl,trivial⟩ ⟨by omega,by omega,hw⟩ ?_
 clear hw;rintro ⟨i,j⟩ w' ⟨o6,p7,hw⟩
 simp only at o6 p7 ⊢;by_cases e8:i<j
 ·have hk:(i+j) / 2<n:=by omega
  have iR:=hl.lt hk;have xE:=fun w1 h1=>hf (l[(i+j) / 2]) (aet iR) w1 h1
  repeat' (first|refine Wz ?_|refine Wo hw ((hl.all hk)) ?_|(refine SW.st ((m6 Tryz.underlying3 mZ rfl).eq (congrArg (Value.int .u64) (wrap_u64 (by omega) (by omega)))) rfl ?_)|(refine SW.st ((m6 mZ Tryz.underlying3 rfl).eq (congrArg (Value.int .i64) (ju (by omega) (by omega)))) rfl ?_)|(refine SW.st (yP rfl rfl) rfl ?_))
  refine SW.vk (cap:=[]) rfl rfl rfl (xE _ hw) fun v w1 ah hv => ?_
  subst hv;have hw:=hw.trans ah;by_cases T4:cv l[(i+j) / 2]<0
  ·refine Wz ?_;exact ae.again ((i+j) / 2+1,j) ⟨rfl,rfl,rfl,rfl,congrArg (fun z=>some (Value.int .i64 z)) (by omega),rfl,trivial⟩ (by simp only;omega) ⟨by simp only;omega,p7,hw⟩
  ·refine Wz ?_;exact ae.again (i,(i+j) / 2) ⟨rfl,rfl,rfl,rfl,rfl,congrArg (fun z=>some (Value.int .i64 z)) (by omega),trivial⟩ (by simp only;omega) ⟨by simp only;omega,by simp only;omega,hw⟩
 ·obtain rfl:i=j:=by omega
  by_cases cx:i<n
  ·have iR:=hl.lt cx;have xE:=fun w1 h1=>hf (l[i]) (aet iR) w1 h1
   have h0:=bG (l[i]) (aet iR);repeat' (first|refine Wz ?_|refine Wo hw ((hl.all cx)) ?_)
   refine SW.vk (cap:=[]) rfl rfl rfl (xE _ hw) fun v w1 ah hv => ?_
   subst hv;have hw:=hw.trans ah;refine Wz ?_;refine ae.dl rfl rfl rfl ⟨_,rfl,hw,i,?_⟩;rw [decide_eq_false h0]
  ·refine Wz ?_;exact ae.dl rfl rfl rfl ⟨_,rfl,hw,i,rfl⟩
def sK (x:Block) (a:Int) (w:World) : bI prog 107 ([.agg (aO x).toArray,.int .i64 a]++[]) w fun v _=>v = .int .i64 (IntKind.i64.wrap (x.At-a)):=by
 refine Wj func107 ntmps107 ?_;refine Ww fun b1 w1 hw lD aX => ?_;repeat' (first|refine Wz ?_|(refine SW.st (yK rfl rfl) rfl ?_))
 exact ae.bh rfl rfl ⟨_,rfl,hw,rfl⟩
def wrap_zero {z:Int} (h1 : -18446744073709551616<z) (h2:z<18446744073709551616) (h:IntKind.i64.wrap z=0) : z=0:=by
 simp [IntKind.wrap,IntKind.bits,IntKind.signed] at h;omega
def Jl (l:List Block) (a:Int) (v:Value) : Prop:=(bM l a=true->v = .tuple #[.int .i64 (bE l a:Int),.bool true])∧(bM l a=false -> ∃ i:Nat,v = .tuple #[.int .i64 (i:Int),.bool false])
def Kt (r:jH) (l:List Block) (a:Int) (w:World) (hl:Sl w 3 aO r.Live.A r.Live.n l) (hu:l.Pairwise fun x y=>x.At<y.At) (hb:∀ b∈l,0<=b.At∧b.At<=255) (hn:r.Live.n<=1000000000000000000) (ha : -9223372036854775808<=a∧a<=9223372036854775807) :
 bI prog 60 [.agg (dD r).toArray,.int .i64 a] w fun v _=>Jl l a v:=by
 refine Wj func60 ntmps60 ?_;refine Ww fun b1 w1 hw lD aX => ?_;refine Wz ?_;by_cases cx : -1000000<=a∧a<=1000000
 ·refine Wk (jI _ _ _ _ a _ (hl.ext hw) _ (fun x hx w' _=>by
   have:=sK x a w'
   have h:=hb x hx;rwa [ju (by omega) (by omega)] at this) hu hn) fun v w2 bq hv => ?_
  subst hv;have hw:=hw.trans bq;refine Wz ?_;refine ae.dl rfl rfl rfl ⟨_,rfl,hw,?_⟩;exact ⟨fun h=>by rw [h];rfl,fun h=>⟨bE l a,by rw [h];rfl⟩⟩
 ·have hf:bM l a=false:=by
   unfold bM;split
   ·rename_i h;have:=hb _ (aet h)
    exact decide_eq_false (by omega)
   ·rfl
  refine Wk (sJ _ _ _ _ a _ (hl.ext hw) _ (fun x=>IntKind.i64.wrap (x.At-a)) (fun x hx w' _=>sK x a w') (fun x hx h0=>by
   have h:=hb x hx;have:=wrap_zero (by omega) (by omega) h0
   omega) hn) fun v w2 bq hv => ?_
  obtain ⟨i,rfl⟩:=hv;have hw:=hw.trans bq;refine Wz ?_;refine ae.dl rfl rfl rfl ⟨_,rfl,hw,?_⟩;exact ⟨fun h=>absurd (hf.symm.trans h) (by simp),fun _=>⟨i,rfl⟩⟩
def xM (x:Block) (a:Int) (w:World) : bI prog 131 ([.agg (aO x).toArray,.int .i64 a]++[]) w fun v _=>v = .int .i64 (IntKind.i64.wrap (x.At-a)):=by
 refine Wj func131 ntmps131 ?_;refine Ww fun b1 w1 hw lD aX => ?_;repeat' (first|refine Wz ?_|(refine SW.st (yK rfl rfl) rfl ?_))
 exact ae.bh rfl rfl ⟨_,rfl,hw,rfl⟩
def Ft (A:Option Addr) (n c:Nat) (l:List Block) (a:Int) (w:World) (hl:Sl w 3 aO A n l) (hu:l.Pairwise fun x y=>x.At<y.At) (hb:∀ b∈l,0<=b.At∧b.At<=255) (hn:n<=1000000000000000000) (ha : -9223372036854775808<=a∧a<=9223372036854775807) :
 bI prog 106 [.slice A n c,.int .i64 a,.func (.func 131) #[] #[]] w fun v _=>Jl l a v:=by
 by_cases cx : -1000000<=a∧a<=1000000
 ·refine (jI _ _ _ _ a _ hl _ (fun x hx w' _=>by
   have:=xM x a w'
   have h:=hb x hx;rwa [ju (by omega) (by omega)] at this) hu hn).mono fun v w2 bq hv => ?_
  subst hv;exact ⟨fun h=>by rw [h],fun h=>⟨bE l a,by rw [h]⟩⟩
 ·have hf:bM l a=false:=by
   unfold bM;split
   ·rename_i h;have:=hb _ (aet h)
    exact decide_eq_false (by omega)
   ·rfl
  refine (sJ _ _ _ _ a _ hl _ (fun x=>IntKind.i64.wrap (x.At-a)) (fun x hx w' _=>xM x a w') (fun x hx h0=>by
   have h:=hb x hx;have:=wrap_zero (by omega) (by omega) h0
   omega) hn).mono fun v w2 bq hv => ?_
  obtain ⟨i,rfl⟩:=hv;exact ⟨fun h=>absurd (hf.symm.trans h) (by simp),fun _=>⟨i,rfl⟩⟩
def Ku (x:Slab) (b3:Nat) (t:Int) (w:World) (h3:aR w b3 3 [.int .i64 t]) :
 bI prog 154 ([.agg (bd x).toArray]++[.pointer (some ⟨b3,0,none⟩)]) w fun v _=>v = .bool (yu t x):=by
 refine Wj func154 ntmps154 ?_;refine Ww fun b1 w1 hw lD aX => ?_;have h3:=h3.ext hw;have QL:=h3.cell (i:=0) (v := .int .i64 t) rfl;rw [add_zero] at QL;repeat' (first|refine Wz ?_|refine Wl QL ?_)
 exact ae.bh rfl rfl ⟨_,rfl,hw,rfl⟩
def Fu (q:dT) (l:List Slab) (t:Int) (w:World) (hl:Sl w 3 bd q.ab.A q.ab.n l) (hn:q.ab.n<=9223372036854775807) :
 bI prog 132 [.agg (fu q).toArray,.int .i64 t] w fun v _=>v = .int .i64 (idxOf (yu t) l):=by
 refine Wj func132 ntmps132 ?_;refine Ww fun b2 w1 hw eW aq => ?_;refine SW.Mv rfl rfl rfl fun b3 w2 bq cg ao => ?_
 (obtain ⟨hw,aq⟩:=cT bq hw aq);repeat' (first|refine Wz ?_|(refine SW.st (iX (vs:=[.pointer (some ⟨b3,0,none⟩)]) rfl) rfl ?_))
 refine Wk (jW _ _ _ _ _ (hl.ext hw) _ [.pointer (some ⟨b3,0,none⟩)] (yu t) (fun x => .agg (bd x).toArray) (fun x=>rfl) (fun x _ w1 lj=>Ku x b3 t w1 (ao.ext lj)) hn) fun v w4 kN hv => ?_
 subst hv;have hw:=hw.trans kN;refine Wz ?_;exact ae.bh rfl rfl ⟨_,rfl,hw,rfl⟩
def CE {x:Int} {f:FuncId} {n e:Int} (h:bI prog f [.int .i64 x] w fun v _=>v=pp x) (hE:dp x=(o,n,e)) : bI prog f [.int .i64 x] w fun v _=>v = .tuple #[.int .i64 o,.int .i64 n,.int .i64 e]:=by
 refine h.mono fun v w' _ hv => ?_
 rw [hv,pp,hE]
set_option maxHeartbeats 4000000 in
def Kv (r:de) (s:ag) (q:dT) (c:aN) (w:World) (hr:zU w r s) (hq:Hx w q c) (hs:s.small) (kK:c.small) (hH:bK s.Heap) (kZ:∀ x∈c.ab,-9223372036854775808<=x.At∧x.At<=9223372036854775807) :
 bI prog 77 [.agg (aK r).toArray,.agg (fu q).toArray] w fun v _=>v = .bool (pO s c):=by
 refine Wj func77 ntmps77 ?_;refine Ww fun b2 w1 hw eW aq => ?_;refine SW.box rfl rfl fun b3 w2 bq cg ao => ?_
 (obtain ⟨hw,aq⟩:=cT bq hw aq);obtain ⟨o,n,e,hE⟩ : ∃ o n e,dp c.ay=(o,n,e):=⟨_,_,_,rfl⟩;have eS:=hq.size;have eP:=hq.per;have eO:=hq.order;have n1:=hq.names.len;have n2:=hq.aB.len;have n3:=hq.aV.len;have m1:=kK.names;have m2:=kK.aB;have m3:=kK.aV;have eC:=hr.heap.cpus;have wl:=hr.words.len;have m4:=hs.words;have mx:=hr.heap.live.len;have m5:=hs.heap.live;have Pc:=hq.cap;have cL:∀ w',bI prog 48 [.int .i64 q.ay] w' fun v _=>v = .tuple #[.int .i64 o,.int .i64 n,.int .i64 e]:=fun w'=>CE (zV q.ay w') (by rw [eS];exact hE)
 rcases (show ¬ (e=0∧c.Order=o∧c.bL=n∧0<c.Names.length∧(c.ak.length:Int)=s.Heap.bJ)∨(e=0∧c.Order=o∧c.bL=n∧0<c.Names.length∧(c.ak.length:Int)=s.Heap.bJ) by omega) with yr|⟨h1,h2,h3,h4,h5⟩
 ·have hF:pO s c=false:=oE fun hm=>yr (by
   have:=hm.lay
   rw [hE] at this;simp only [Prod.mk.injEq] at this;exact ⟨this.2.2,this.1.symm,this.2.1.symm,hm.names,hm.aV⟩)
  rw [hF];rcases (show e≠0∨(e=0∧c.Order≠o)∨(e=0∧c.Order=o∧c.bL≠n)∨(e=0∧c.Order=o∧c.bL=n∧c.Names.length=0)∨(e=0∧c.Order=o∧c.bL=n∧0<c.Names.length∧(c.ak.length:Int)≠s.Heap.bJ) by omega) with g|g|g|g|g
  all_goals
   repeat' (first|refine Wz ?_|(refine Wk (cL _) ?_;intro v w1 ah hv;subst hv;obtain ⟨hw,aq,ao⟩:=cd ah hw aq ao;clear ah))
   all_goals try omega
   exact ae.bh rfl rfl ⟨_,rfl,hw,rfl⟩
 ·subst h1;have MY:dp c.ay=(c.Order,c.bL,0):=by rw [hE,h2,h3]
  obtain ⟨l1,l2,l3⟩:=bV hE;have e8:=k7 hH.live
  have OS:∀ b∈s.Heap.Live,0<=b.At∧b.At<=255:=fun b hb=>by
   obtain ⟨i,hi,rfl⟩:=aeu hb;exact (hH.live.each i hi).2.1
  repeat' (first|refine Wz ?_|(refine Wk (cL _) ?_;intro v w1 ah hv;subst hv;obtain ⟨hw,aq,ao⟩:=cd ah hw aq ao;clear ah))
  all_goals try omega
  clear cL
  refine CW.loop (fun k:Nat=>[(2,.pointer (some ⟨b2,0,none⟩)),(3,.pointer (some ⟨b3,0,none⟩)),(5,.int .i64 o),(53,.slice q.ab.A q.ab.n q.ab.c),(54,.int .i64 (q.ab.n:Int)),(55,.int .i64 (k:Int))])
   (fun k w'=>k<=q.ab.n∧Ext w w'∧aR w' b2 44 (aK r)∧aR w' b3 103 (fu q) ∧ ∀ (i:Nat) (h:i<c.ab.length),i<k->vC s c i h) (fun k=>q.ab.n-k) 0
   ⟨rfl,rfl,rfl,rfl,rfl,rfl,trivial⟩ ⟨by omega,hw,aq,ao,fun i h h'=>by omega⟩ ?_
  clear hw aq ao;rintro k w' ⟨hk,hw,aq,ao,hI⟩
  have hA:=hq.aB.base;by_cases gC:k<q.ab.n
  ·have iR:k<c.ab.length:=by omega
   repeat' (first|refine Wz ?_|refine Wo hw ((hq.aB.all gC)) ?_)
   refine SW.alloc rfl fun b9 w1 ah oz bF => ?_
   refine Wz ?_;refine Wg bF (iK.one (enc:=bd) _) fun w2 j5 hg => ?_
   have ar:=ah.own oz hg;have sy:=hw.up oz
   obtain ⟨hw,aq,ao⟩:=cd ar hw aq ao;have bF:=j5;clear j5 ah hg ar;refine Wz ?_;refine Wk (Ft _ _ _ _ _ _ (hr.heap.live.ext hw) e8 OS (by omega) (kZ _ (aet iR))) fun v w4 kN hv => ?_
   (obtain ⟨hw,aq,ao,bF⟩:=dJ kN hw aq ao bF);cases MZ:bM s.Heap.Live c.ab[k].At
   ·obtain ⟨j,rfl⟩:=hv.2 MZ
    have hF:pO s c=false:=oE fun hm=>by
     have:=(hm.aB k iR).live
     rw [Ea MZ] at this;omega
    rw [hF];repeat' (first|refine Wz ?_|((apply CW.bH mixed;(· kernel_rfl);rotate_left;intro w1 ah;obtain ⟨hw,aq,ao,bF⟩:=dJ ah hw aq ao bF;clear ah;rotate_right))|refine SW.skip rfl rfl rfl rfl ?_|exact SW.eU rfl)
    exact ae.bh rfl rfl ⟨_,rfl,hw,rfl⟩
   ·have tV:=hv.1 MZ;subst tV;obtain ⟨ER,hma⟩:=jJ MZ;have Xm:=Ag MZ ER;obtain ⟨m,em⟩ : ∃ m,bE s.Heap.Live c.ab[k].At=m:=⟨_,rfl⟩;simp only [em] at ER hma Xm hv ⊢;have Zm:m<r.Heap.Live.n:=by omega
    have Zn:=hr.heap.live.base;have gO:=hr.heap.live.jF Zm (j:=1) (u := .int .i64 s.Heap.Live[m].Order) rfl
    have ht : 0<=c.ab[k].At∧c.ab[k].At<=255:=by
     have:=OS _ (aet ER)
     omega
    have hS : 1<=q.ay∧q.ay<=64:=by omega
    have hP : 1<=q.bL∧q.bL<=64:=by omega
    by_cases ym:s.Heap.Live[m].Order=o
    ·by_cases HI : 0<k->(c.ab[k-1]'(by omega)).At<c.ab[k].At
     ·rcases aeL k with BG|BG
      all_goals
       first
       | (have gP:=hq.aB.jF (show k-1<q.ab.n by omega) (j:=0) (u := .int .i64 (c.ab[k-1]'(by omega)).At) rfl
          have BL:=HI BG)
       | skip
      all_goals
       repeat' (first|refine Wz ?_|((apply CW.bH mixed;(· kernel_rfl);rotate_left;intro w1 ah;obtain ⟨hw,aq,ao,bF⟩:=dJ ah hw aq ao bF;clear ah;rotate_right))|refine SW.want rfl rfl ?_|refine SW.st (cn (k-1) rfl rfl (by assumption) (by omega) (by omega)) rfl ?_|refine Wn hw gO ?_|refine Wn hw gP ?_|exact SW.eU rfl)
       all_goals try omega
       refine Wk (CD r q c.ab[k] s.Words _ (hr.words.ext hw) (by omega) hS hP ht) fun v w5 oX Fv => ?_
       (obtain ⟨hw,aq,ao⟩:=cd oX hw aq ao);rw [eS,eP] at Fv;rcases Fv with ⟨out,A5,c5,hC,rfl,_,_⟩|⟨ov,rfl⟩
       ·repeat' (first|refine Wz ?_|(refine CW.gj rfl ?_))
        exact ae.again (k+1) ⟨rfl,rfl,rfl,rfl,rfl,rfl,trivial⟩ (by omega) ⟨by omega,hw,aq,ao,fun i h h'=>by
         by_cases ei:i=k
         ·subst ei;exact ⟨by omega,HI,⟨out,hC⟩⟩
         ·exact hI i h (by omega)⟩
       ·rw [oE fun hm=>(hm.aB k iR).chain.elim ov];repeat' (first|refine Wz ?_|(refine CW.gG rfl ?_))
        exact ae.bh rfl rfl ⟨_,rfl,hw,rfl⟩
     ·have BG : 0<k:=by
       rcases aeL k with h|h
       ·exact absurd (fun h'=>by omega) HI
       ·exact h
      have Mq : ¬ (c.ab[k-1]'(by omega)).At<c.ab[k].At:=fun h=>HI fun _=>h
      have gP:=hq.aB.jF (show k-1<q.ab.n by omega) (j:=0) (u := .int .i64 (c.ab[k-1]'(by omega)).At) rfl;rw [oE fun hm=>Mq ((hm.aB k iR).next BG)];repeat' (first|refine Wz ?_|((apply CW.bH mixed;(· kernel_rfl);rotate_left;intro w1 ah;obtain ⟨hw,aq,ao,bF⟩:=dJ ah hw aq ao bF;clear ah;rotate_right))|refine SW.want rfl rfl ?_|refine SW.st (cn (k-1) rfl rfl (by assumption) (by omega) (by omega)) rfl ?_|refine Wn hw gO ?_|refine Wn hw gP ?_|exact SW.eU rfl)
      all_goals try omega
      exact ae.bh rfl rfl ⟨_,rfl,hw,rfl⟩
    ·rw [oE fun hm=>ym (by have:=(hm.aB k iR).live;omega)];repeat' (first|refine Wz ?_|((apply CW.bH mixed;(· kernel_rfl);rotate_left;intro w1 ah;obtain ⟨hw,aq,ao,bF⟩:=dJ ah hw aq ao bF;clear ah;rotate_right))|refine SW.want rfl rfl ?_|refine Wn hw gO ?_|exact SW.eU rfl)
     all_goals try omega
     exact ae.bh rfl rfl ⟨_,rfl,hw,rfl⟩
  ·have fc:∀ (i:Nat) (h:i<c.ab.length),vC s c i h:=fun i h=>hI i h (by omega)
   refine Wz ?_;clear hI gC hk hA
   refine CW.loop (fun k:Nat=>[(3,.pointer (some ⟨b3,0,none⟩)),(109,.slice q.ak.A q.ak.n q.ak.c),(110,.int .i64 (q.ak.n:Int)),(111,.int .i64 (k:Int))])
    (fun k w'=>k<=q.ak.n∧Ext w w'∧aR w' b3 103 (fu q) ∧ ∀ (i:Nat) (h:i<c.ak.length),i<k->uJ c i h) (fun k=>q.ak.n-k) 0
    ⟨rfl,rfl,rfl,rfl,trivial⟩ ⟨by omega,hw,ao,fun i h h'=>by omega⟩ ?_
   clear hw ao aq;rintro k w' ⟨hk,hw,ao,hI⟩
   have hA:=hq.aV.base;by_cases gC:k<q.ak.n
   ·have iR:k<c.ak.length:=by omega
    obtain ⟨a,ea⟩ : ∃ a,c.ak[k]=a:=⟨_,rfl⟩;have gA:=hq.aV.one gC (u := .int .i64 a) (by rw [<- ea];rfl);by_cases ha:a = -1
    ·repeat' (first|refine Wz ?_|refine Wn hw gA ?_)
     exact ae.again (k+1) ⟨rfl,rfl,rfl,rfl,trivial⟩ (by omega) ⟨by omega,hw,ao,fun i h h'=>by
      by_cases ei:i=k
      ·subst ei;exact .inl (by omega)
      ·exact hI i h (by omega)⟩
    ·have cN:∀ w',Ext w w'->bI prog 120 [.slice q.ak.A k q.ak.c,.int .i64 a] w' fun v _=>v = .bool (decide (a∈c.ak.take k)):=fun w' hx=>iy _ _ _ _ _ _ ((hq.aV.ext hx).pre (show k<=q.ak.n by omega)) (by omega)
     obtain ⟨z,hz⟩ : ∃ z,idxOf (yu a) c.ab=z:=⟨_,rfl⟩;have tx:=lJ (yu a) c.ab;rw [hz] at tx
     have cF:∀ w',Ext w w'->bI prog 132 [.agg (fu q).toArray,.int .i64 a] w' fun v _=>v = .int .i64 z:=fun w' hx=>by
      have:=Fu q c.ab a w' (hq.aB.ext hx) (by omega)
      rwa [hz] at this
     have QM:(a∈c.ak.take k ∨ ¬ 0<=z)->pO s c=false:=fun h=>oE fun hm=>by
      rcases hm.cX k iR with g|⟨g1,g2⟩
      ·omega
      ·rw [ea] at g1 g2;rcases h with h|h
       ·exact g1 h
       ·rw [g2] at tx;exact h (of_decide_eq_true tx)
     by_cases kF:a∈c.ak.take k
     ·rw [decide_eq_true kF] at cN;rw [QM (.inl kF)];repeat' (first|refine Wz ?_|refine Wn hw gA ?_|(refine Wk (cN _ hw) ?_;intro v w1 ah hv;subst hv;obtain ⟨hw,ao⟩:=cT ah hw ao;clear ah)|(refine SW.st (cW (k:=k) rfl rfl (by omega)) rfl ?_))
      all_goals try omega
      exact ae.bh rfl rfl ⟨_,rfl,hw,rfl⟩
     ·rw [decide_eq_false kF] at cN;by_cases MU : 0<=z
      ·repeat' (first|refine Wz ?_|refine Wn hw gA ?_|((first|refine Wk (cN _ hw) ?_|refine Wk (cF _ hw) ?_);intro v w1 ah hv;subst hv;obtain ⟨hw,ao⟩:=cT ah hw ao;clear ah)|(refine SW.st (cW (k:=k) rfl rfl (by omega)) rfl ?_))
       all_goals try omega
       exact ae.again (k+1) ⟨rfl,rfl,rfl,rfl,trivial⟩ (by omega) ⟨by omega,hw,ao,fun i h h'=>by
        by_cases ei:i=k
        ·subst ei;exact .inr ⟨by rw [ea];exact kF,by rw [ea,<- tx];exact decide_eq_true MU⟩
        ·exact hI i h (by omega)⟩
      ·rw [QM (.inr MU)];repeat' (first|refine Wz ?_|refine Wn hw gA ?_|((first|refine Wk (cN _ hw) ?_|refine Wk (cF _ hw) ?_);intro v w1 ah hv;subst hv;obtain ⟨hw,ao⟩:=cT ah hw ao;clear ah)|(refine SW.st (cW (k:=k) rfl rfl (by omega)) rfl ?_))
       all_goals try omega
       exact ae.bh rfl rfl ⟨_,rfl,hw,rfl⟩
   ·rw [Ah ⟨MY,h4,h5,fc,fun i h=>hI i h (by omega)⟩];refine Wz ?_;exact ae.bh rfl rfl ⟨_,rfl,hw,rfl⟩
open Go.RowKit Go.Maps
variable {keys:List Lit} {kl:Lit} {b d:Nat} {y:Operand} {g:Option (Nat×Bool)} {row:Option Nat} {P:Program} {e t:TypeId} {w':World}
structure qp (w:World) (P:Program) (k e:TypeId) (b:Nat) (keys:List Lit) : Prop where
 own:w.ownsMap (H:=Unit) P k (plainElem P e) b keys.length (setOf (.lit (.bool true)) keys)
 ok:∀ x∈keys,WideAt.IsKeyLit x
def qp.ext {k:TypeId} (h:qp w P k e b keys) (hx:Ext w w') : qp w' P k e b keys:=⟨h.own.kept (row:=none) ⟨hx.os,hx.tape,hx.output,hx.size,fun i hi _=>hx.block i hi⟩ (by simp),h.ok⟩
def qp.grown {k:TypeId} (h:qp w P k e b keys) (hg:w.grownBy w' row) (bG:some b≠row) : qp w' P k e b keys:=⟨h.own.kept hg bG,h.ok⟩
def qp.lt {k:TypeId} (h:qp w P k e b keys) : b<w.heap.size:=h.own.lt
def Aj (u z:DataW Unit) (k:Lit) : ∀ (acc:List Lit) (m:DataW Unit),IsMap m->(∀ x∈acc,WideAt.IsKeyLit x)->(acc.foldl (fun m x=>m.put x u) m).atKey k z=if acc.any (fun x=>x.sameKey k) then u else m.atKey k z
 | [],m,_,_=>by simp
 | x::r,m,hm,h=>by
   rw [List.foldl_cons,Aj u z k r (m.put x u) (hm.put x u) (fun y hy=>h y (by simp [hy])),List.any_cons];by_cases e:k=x
   ·subst e;rw [atKey_put_same hm (h k (by simp)),WideAt.sameKey_self (h k (by simp))];simp
   ·rw [atKey_put_other e,sameKey_ne (fun e'=>e e'.symm)];simp
def Kw (k:Lit) (acc:List Lit) (h:∀ x∈acc,WideAt.IsKeyLit x) : (setOf (.lit (.bool true)) acc:DataW Unit).atKey k (.lit (.bool false)) = .lit (.bool (acc.any fun x=>x.sameKey k)):=by
 rw [setOf,Aj _ _ k acc _ isMap_empty h];cases acc.any fun x=>x.sameKey k<;>rfl
section
variable {P:Program} {n:Nat} {ops:Array Oper} {Q:Exit->Act->World->Prop} {rest:List Oper} {L:Env} {w:World} {T:TypeId} {pos:String} {af:Array Edge}
def SW.makeMap (k e:TypeId) (hn:Nat.blt d n=true) (h:∀ b w',Ext w w'->w.heap.size<=b->qp w' P k e b []->SW P n ops (.gd Q) rest ((d,.map (some b))::L) w') :
 SW P n ops (.gd Q) (⟨some d,.makeMap t none,T,pos,af,none⟩::rest) L w :=
 ⟨fun a ha=>by
  simp only [swp,wpList,Region.wanted,if_true];refine .inl ?_;unfold Oper.wp
  have:(execOp a.eval ⟨some d,.makeMap t none,T,pos,af,none⟩).run P w = .ok (.value (.map (some w.heap.size))) (w.alloc (.map #[] 0)):=by
   simp [execOp,run_makeMap]
  rw [this,Oper.upon_value];exact (h _ _ (Ext.alloc w _) (aew _) ⟨World.ownsMap_made w P k _,fun x hx=>by simp at hx⟩).out _ (ha.put hn _)⟩
def Ak {d:Option Nat} {k:TypeId} {m x:Operand} {key:Value} (hB:qp w P k e b keys) (K:Keyed P k) (ht:P.underlying t=some (.map k e)) (he:P.underlying e=some .bool) (hz:∀ w,(zeroValue e).run P w = .ok (.bool false) w)
 (hm:cy L m=some (.map (some b))) (hx:cy L x=some key) (rq:Go.keyOf P k key=some kl) : St P ⟨d,.lookup t m x false,T,pos,af,g⟩ L w (.bool (keys.any fun y=>y.sameKey kl)) :=
 ⟨fun n a ha w' Xn=>by
  have wA:=hB.ext Xn;obtain ⟨v,ps,sL,hv⟩:=wA.own.lookup K ht (hz w') (plainElem_bool he false) rq;rw [Kw _ _ hB.ok] at hv
  have T7:v = .bool (keys.any fun y=>y.sameKey kl):=by
   unfold plainElem at hv;rw [he] at hv;cases v<;>simp at hv
   rw [hv.1]
  subst T7;simp [execOp,ha.eval hm,ha.eval hx,sL]⟩
def SW.HJ {k:TypeId} {m x:Operand} {key:Value} (hB:qp w P k e b keys) (K:Keyed P k) (ht:P.underlying t=some (.map k e)) (he:P.underlying e=some .bool) (kM:keys.length<maxLen)
 (hm:cy L m=some (.map (some b))) (hx:cy L x=some key) (hy:cy L y=some (.bool true)) (rq:Go.keyOf P k key=some kl) (hk:WideAt.IsKeyLit kl)
 (h:∀ w',qp w' P k e b (keys++[kl])->w.grownBy w' (some b)->SW P n ops (.gd Q) rest L w') : SW P n ops (.gd Q) (⟨none,.mapUpdate t m x y,T,pos,af,none⟩::rest) L w :=
 ⟨fun a ha=>by
  obtain ⟨w',sL,r1,r2⟩:=hB.own.update K ht kM rq (plainElem_bool he true);simp only [swp,wpList,Region.wanted,if_true];refine .inl ?_;unfold Oper.wp
  have:(execOp a.eval ⟨none,.mapUpdate t m x y,T,pos,af,none⟩).run P w = .ok .skip w':=by
   simp [execOp,ha.eval hm,ha.eval hx,ha.eval hy,sL]
  rw [this,Oper.upon_skip];refine (h w' ⟨?_,fun z hz => ?_⟩ r2).out _ ha
  ·rw [setOf_snoc];simpa using r1
  ·rcases aeC.1 hz with hz|hz
   ·exact hB.ok z hz
   ·simp at hz;subst hz;exact hk⟩
end
open Go.RowKit Go.Maps
variable {n:ByteArray}
def nQ (s:ByteArray) : Lit := .string s.data.toList
def yv (z:Int) : Lit := .int .i64 z
def nR (l:List ByteArray) (n:ByteArray) : Bool:=l.any fun m=>decide (m=n)
def fA {l:List ByteArray}:nR l n=true↔n∈l:=by
 unfold nR;rw [aeG];exact ⟨fun ⟨m,h,e⟩=>of_decide_eq_true e ▸ h,fun h=>⟨n,h,decide_eq_true rfl⟩⟩
def M0 (l:List ByteArray) (n:ByteArray) : ((l.map nQ).any fun y=>y.sameKey (nQ n))=nR l n:=by
 rw [agh,aeG,fA];constructor
 ·rintro ⟨y,hy,hs⟩
  obtain ⟨m,hm,rfl⟩:=aeH.1 hy;have:=WideAt.sameKey_eq hs
  simp only [nQ,Lit.string.injEq] at this
  have e:m=n:=by
   cases m;cases n
   simpa using this
  rw [<- e];exact hm
 ·intro h;exact ⟨nQ n,aeH.2 ⟨n,h,rfl⟩,WideAt.sameKey_self trivial⟩
def M1 (l:List Int) (n:Int) : ((l.map yv).any fun y=>y.sameKey (yv n))=decide (n∈l):=by
 rw [agh,aeG,decide_eq_true_iff];constructor
 ·rintro ⟨y,hy,hs⟩
  obtain ⟨m,hm,rfl⟩:=aeH.1 hy;have:=WideAt.sameKey_eq hs
  simp only [yv,Lit.int.injEq] at this;rw [<- this.2];exact hm
 ·intro h;exact ⟨yv n,aeH.2 ⟨n,h,rfl⟩,WideAt.sameKey_self trivial⟩
def nS:prog.underlying 9=some .string:=by kernel_rfl
def nT:prog.underlying 3=some (.int .i64):=by kernel_rfl
def sM:prog.underlying 4=some .bool:=by kernel_rfl
def Al:prog.underlying 159=some (.map 9 4):=by kernel_rfl
def Fw:prog.underlying 160=some (.map 3 4):=by kernel_rfl
def CF (w:World) : (zeroValue 4).run prog w = .ok (.bool false) w:=by
 obtain ⟨inf,hi,hz,hs,yL⟩:=eM prog 4 (z := .bool false) (sz:=1) (bytes:=1);simp [zeroValue,typeInfo,hi,hz]
def kq (s:ByteArray) (h:s.size<=140737488351232) : Go.keyOf prog 9 (.string s)=some (nQ s):=by
 simp [Go.keyOf,mapKey,nQ];unfold maxLen;omega
def keyOf_int {z:Int} (h : -9223372036854775808<=z∧z<=9223372036854775807) : Go.keyOf prog 3 (.int .i64 z)=some (yv z):=keyOf_int_mk nT (by
 have h1:IntKind.i64.min = -9223372036854775808:=by decide
 have h2:IntKind.i64.max=9223372036854775807:=by decide
 simp [Lit.wf,h1,h2];omega)
section
variable {L:Env} {w:World} {d:Option Nat} {T:TypeId} {pos:String} {af:Array Edge} {g:Option (Nat×Bool)}
def vD {l:List ByteArray} {m x:Operand} (hB:qp w prog 9 4 b (l.map nQ)) (hn:n.size<=140737488351232) (hm:cy L m=some (.map (some b))) (hx:cy L x=some (.string n)) :
 St prog ⟨d,.lookup 159 m x false,T,pos,af,g⟩ L w (.bool (nR l n)) :=
 (Ak hB (string_keyed nS) Al sM CF hm hx (kq n hn)).eq (by rw [M0])
def Fx {l:List Int} {n:Int} {m x:Operand} (hB:qp w prog 3 4 b (l.map yv)) (hn : -9223372036854775808<=n∧n<=9223372036854775807) (hm:cy L m=some (.map (some b))) (hx:cy L x=some (.int .i64 n)) :
 St prog ⟨d,.lookup 160 m x false,T,pos,af,g⟩ L w (.bool (decide (n∈l))) :=
 (Ak hB (int_keyed nT) Fw sM CF hm hx (keyOf_int hn)).eq (by rw [M1])
end
def Kx (d:dT) (b6:Nat) (q:dT) (w:World) (h6:aR w b6 103 (fu q)) :
 bI prog 79 ([.agg (fu d).toArray]++[.pointer (some ⟨b6,0,none⟩)]) w fun v _=>v = .bool (decide (d.ay=q.ay)):=by
 refine Wj func79 ntmps79 ?_;refine Ww fun b1 w1 hw lD aX => ?_;have h6:=h6.ext hw;refine Wz ?_;exact ae.bh rfl rfl ⟨_,rfl,hw,rfl⟩
structure ag.cS (s:ag) : Prop where
 small:s.small
 cq:∀ z∈s.Heap.bl,fV z
 aB:∀ c∈s.aa,∀ x∈c.ab,-9223372036854775808<=x.At∧x.At<=9223372036854775807
 names:∀ c∈s.aa,∀ n∈c.Names,n.size<=140737488351232
def Am (cs:List aN) (h:∀ c∈cs,c.small) : (ba cs).length<=cs.length*8796093022208:=by
 induction cs with
 | nil=>simp [ba]
 | cons c r ih =>
   have h1:=(h c (by simp)).names;have h2:=ih (fun x hx=>h x (by simp [hx]));simp only [ba,List.flatMap_cons,List.length_append,List.length_cons] at h2 ⊢;omega
def An (cs:List aN) (h:∀ c∈cs,c.small) : (aH cs).length<=cs.length*8796093022208:=by
 induction cs with
 | nil=>simp [aH]
 | cons c r ih =>
   have h1:=(h c (by simp)).aB;have h2:=ih (fun x hx=>h x (by simp [hx]));simp only [aH,List.flatMap_cons,List.length_append,List.length_cons,List.length_map] at h2 ⊢;omega
set_option maxHeartbeats 4000000 in
def mI (r:de) (s:ag) (w:World) (hr:zU w r s) (hf:s.cS) :
 bI prog 41 [.agg (aK r).toArray] w fun v _=>v = .int .i64 (if gg s then 0 else 8):=by
 refine Wj func41 ntmps41 ?_;refine Ww fun b1 w1 hw lD aX => ?_;obtain ⟨cs,hc⟩:=hr.bo;obtain ⟨z1,z2⟩:=hc.len;have wl:=hr.words.len;have hs:=hf.small;have m3:=hs.bo;have Pc:=hc.cap;obtain ⟨q,hq⟩ : ∃ q,jo s.Heap=q:=⟨_,rfl⟩
 have c1:∀ w',Ext w w'->bI prog 56 [.agg (dD r.Heap).toArray] w' fun v _=>v = .int .i64 (if q then 0 else 8):=fun w' hx=>by
  have:=rl r.Heap s.Heap w' (hr.heap.ext hx) hs.heap hf.cq
  rwa [hq] at this
 by_cases sN:s.Words.length=4096∧q=true∧s.aa.length<=20
 ·obtain ⟨g1,g2,g3⟩:=sN;subst g2;have hH:=bT.1 hq;simp only [if_true] at c1;repeat' (first|refine Wz ?_|refine Wm ((mH aX)) ?_|(refine Wk (c1 _ hw) ?_;intro v w1 ah hv;subst hv;obtain ⟨hw,aX⟩:=cT ah hw aX;clear ah))
  all_goals try omega
  clear c1;refine SW.makeMap 9 4 rfl fun bN w3 nL Uq hN => ?_
  have Zo:=hw.up Uq
  have O3:=aX.lt;(obtain ⟨hw,aX⟩:=cT nL hw aX);refine SW.makeMap 3 4 rfl fun bS w4 kN Ur hS => ?_
  have hbS:=hw.up Ur
  have O4:=hN.lt;(obtain ⟨hw,aX,hN⟩:=cd kN hw aX hN);have Us:b1≠bN:=by omega
  have Xo:b1≠bS:=by omega
  have RX:bN≠bS:=by omega
  clear O3 O4 Uq Ur;refine Wz ?_
  refine CW.loop (fun k:Nat=>[(1,.pointer (some ⟨b1,0,none⟩)),(3,.map (some bN)),(4,.map (some bS)),(30,.slice r.aa.A r.aa.n r.aa.c),(31,.int .i64 (r.aa.n:Int)),(32,.int .i64 (k:Int))])
   (fun k w'=>k<=r.aa.n∧Ext w w'∧aR w' b1 44 (aK r)∧qp w' prog 9 4 bN ((ba (s.aa.take k)).map nQ)∧qp w' prog 3 4 bS ((aH (s.aa.take k)).map yv) ∧ ∀ (i:Nat) (h:i<s.aa.length),i<k->tw s i h) (fun k=>r.aa.n-k) 0
   ⟨rfl,rfl,rfl,rfl,rfl,rfl,trivial⟩ ⟨by omega,hw,aX,hN,hS,fun i h h'=>by omega⟩ ?_
  clear hw aX hN hS;rintro k w' ⟨hk,hw,aX,hN,hS,hI⟩
  have hA:=hc.row.base;by_cases gC:k<r.aa.n
  ·have OO:k<cs.length:=by omega
   have iR:k<s.aa.length:=by omega
   have kf:=hc.each.get k OO iR;have sm:=hs.each _ (aet iR);have fS:=hf.aB _ (aet iR);have fN:=hf.names _ (aet iR);have q1:=kf.names.len;have q2:=kf.aB.len;have q4:=sm.names;have q5:=sm.aB;have bn:=Am (s.aa.take k) (fun c hc=>hs.each c (aeX hc));have bs:=An (s.aa.take k) (fun c hc=>hs.each c (aeX hc));rw [agb] at bn bs;repeat' (first|refine Wz ?_|refine Wo hw ((hc.row.all gC)) ?_)
   have Xp:=hN.lt;have Xq:=hS.lt;refine SW.alloc rfl fun b6 w1 ah dv ap => ?_
   refine Wz ?_;refine Wg ap (Cz _) fun w2 bQ hg => ?_
   have ar:=ah.own dv hg;have cQ:=hw.up dv
   obtain ⟨hw,aX,hN,hS⟩:=dJ ar hw aX hN hS;have ap:=bQ;clear bQ ah hg ar;have Ut:bN≠b6:=by omega
   have abe:bS≠b6:=by omega
   clear Xp Xq;obtain ⟨qc,Xr⟩ : ∃ qc,pO s s.aa[k]=qc:=⟨_,rfl⟩
   have cC:∀ w',Ext w w'->bI prog 77 [.agg (aK r).toArray,.agg (fu cs[k]).toArray] w' fun v _=>v = .bool qc:=fun w' hx=>by
    have:=Kv r s cs[k] s.aa[k] w' (hr.ext hx) (kf.ext hx) hs sm hH fS
    rwa [Xr] at this
   cases qc
   ·have hF:gg s=false:=wU fun hm=>by
     have:=Ah (hm.each k iR).may
     rw [Xr] at this;cases this
    rw [hF];repeat' (first|refine Wz ?_|refine SW.skip rfl rfl rfl rfl ?_|(refine Wk (cC _ hw) ?_;intro v w1 ah hv;subst hv;obtain ⟨hw,aX,ap,hN,hS⟩:=fH ah hw aX ap hN hS;clear ah))
    exact ae.bh rfl rfl ⟨_,rfl,hw,rfl⟩
   ·have QN:=HG.1 Xr;obtain ⟨y,hy⟩ : ∃ y,((cs.take k).any fun d=>decide (d.ay=cs[k].ay))=y:=⟨_,rfl⟩
    have cD:∀ w',Ext w w'->aR w' b6 103 (fu cs[k])->bI prog 78 [.slice r.aa.A k r.aa.c,.func (.func 79) #[] [.pointer (some ⟨b6,0,none⟩)].toArray] w' fun v _=>v = .bool y:=fun w' hx h6=>by
     have:=na r.aa.A k r.aa.c (cs.take k) w' ((hc.row.ext hx).pre (show k<=r.aa.n by omega)) 79 [.pointer (some ⟨b6,0,none⟩)] (fun d=>decide (d.ay=cs[k].ay)) (fun d => .agg (fu d).toArray) (fun x=>rfl)
      (fun x _ w1 lj=>Kx x b6 cs[k] w1 (h6.ext lj)) (by omega)
     rwa [hy] at this
    cases y
    ·have nq:∀ (j:Nat) (hj:j<k),(s.aa[j]'(by omega)).ay≠s.aa[k].ay:=fun j hj e=>by
      rw [aeS] at hy;refine hy cs[j] (afs.2 ⟨j,by omega,rfl⟩) ?_;have e1:=(hc.each.get j (by omega) (by omega)).size;have e2:=kf.size;exact decide_eq_true (by rw [e1,e2];exact e)
     repeat' (first|refine Wz ?_|refine SW.want rfl rfl ?_|((first|refine Wk (cC _ hw) ?_|refine Wk (cD _ hw ap) ?_);intro v w1 ah hv;subst hv;obtain ⟨hw,aX,ap,hN,hS⟩:=fH ah hw aX ap hN hS;clear ah)|(refine SW.st (cW (k:=k) rfl rfl (by omega)) rfl ?_)|(refine SW.st (iX (vs:=[.pointer (some ⟨b6,0,none⟩)]) rfl) rfl ?_))
     obtain ⟨acc,Pu⟩ : ∃ acc,ba (s.aa.take k)=acc:=⟨_,rfl⟩;rw [Pu] at hN bn;obtain ⟨QO,Pv⟩ : ∃ QO,aH (s.aa.take k)=QO:=⟨_,rfl⟩;rw [Pv] at hS bs;clear cC cD
     refine CW.loop (fun j:Nat=>[(1,.pointer (some ⟨b1,0,none⟩)),(3,.map (some bN)),(4,.map (some bS)),(6,.pointer (some ⟨b6,0,none⟩)),(30,.slice r.aa.A r.aa.n r.aa.c),(31,.int .i64 (r.aa.n:Int)),(32,.int .i64 (k:Int)),(50,.slice cs[k].Names.A cs[k].Names.n cs[k].Names.c),(51,.int .i64 (cs[k].Names.n:Int)),(52,.int .i64 (j:Int))])
      (fun j w'=>j<=cs[k].Names.n∧Ext w w'∧aR w' b1 44 (aK r)∧aR w' b6 103 (fu cs[k])∧qp w' prog 9 4 bN ((acc++s.aa[k].Names.take j).map nQ)∧qp w' prog 3 4 bS (QO.map yv) ∧
        ∀ (i:Nat) (h:i<s.aa[k].Names.length),i<j->gx s.aa[k].Names[i]=true∧s.aa[k].Names[i]∉acc++s.aa[k].Names.take i∧(0<i->ew (s.aa[k].Names[i-1]'(by omega)) s.aa[k].Names[i]=true)) (fun j=>cs[k].Names.n-j) 0
      ⟨rfl,rfl,rfl,rfl,rfl,rfl,rfl,rfl,rfl,rfl,trivial⟩ ⟨by omega,hw,aX,ap,by simpa using hN,hS,fun i h h'=>by omega⟩ ?_
     clear hw aX hN hS ap;rintro j w' ⟨hj,hw,aX,ap,hN,hS,hJ⟩
     have pr:=kf.names.base;by_cases p7:j<cs[k].Names.n
     ·have pZ:j<s.aa[k].Names.length:=by omega
      obtain ⟨nm,pu⟩ : ∃ nm,s.aa[k].Names[j]=nm:=⟨_,rfl⟩;have gN:=kf.names.one p7 (u := .string nm) (by rw [<- pu];rfl);have RY:nm.size<=140737488351232:=by rw [<- pu];exact fN _ (aet pZ)
      obtain ⟨qn,Xs⟩ : ∃ qn,gx nm=qn:=⟨_,rfl⟩;obtain ⟨qh,RZ⟩ : ∃ qh,nR (acc++s.aa[k].Names.take j) nm=qh:=⟨_,rfl⟩
      have Uu:∀ w',bI prog 42 [.string nm] w' fun v _=>v = .bool qn:=fun w'=>by
       have:=Ff nm w' RY
       rwa [Xs] at this
      have M3:(qn=false∨qh=true ∨ ∃ Hr : 0<j,ew (s.aa[k].Names[j-1]'(by omega)) nm=false)->gg s=false:=fun h=>wU fun hm=>by
       have h1:=(hm.each k iR).names.each j pZ;rw [pu,Pu] at h1;rcases h with h|h|⟨Hr,h⟩
       ·rw [Xs,h] at h1;exact absurd h1.1 (by simp)
       ·exact h1.2.1 (fA.1 (by rw [RZ,h]))
       ·rw [h1.2.2 Hr] at h;cases h
      cases qn
      ·rw [M3 (.inl rfl)];repeat' (first|refine Wz ?_|refine SW.skip rfl rfl rfl rfl ?_|refine Wn hw gN ?_|(refine Wk (Uu _) ?_;intro v w1 ah hv;subst hv;obtain ⟨hw,aX,ap,hN,hS⟩:=fH ah hw aX ap hN hS;clear ah))
       exact ae.bh rfl rfl ⟨_,rfl,hw,rfl⟩
      ·cases qh
       ·have go:∀ (QP : 0<j->ew (s.aa[k].Names[j-1]'(by omega)) nm=true) (i:Nat) (h:i<s.aa[k].Names.length),i<j+1->gx s.aa[k].Names[i]=true∧s.aa[k].Names[i]∉acc++s.aa[k].Names.take i∧(0<i->ew (s.aa[k].Names[i-1]'(by omega)) s.aa[k].Names[i]=true):=fun QP i h h'=>by
         by_cases ei:i=j
         ·subst ei;rw [pu];exact ⟨Xs,(fun hm=>by rw [fA.2 hm] at RZ;cases RZ),QP⟩
         ·exact hJ i h (by omega)
        rcases aeL j with Hr|Hr
        ·repeat' (first|refine Wz ?_|refine SW.want rfl rfl ?_|refine Wn hw gN ?_|(refine Wk (Uu _) ?_;intro v w1 ah hv;subst hv;obtain ⟨hw,aX,ap,hN,hS⟩:=fH ah hw aX ap hN hS;clear ah)|(refine SW.st ((vD hN RY rfl rfl).eq (congrArg Value.bool RZ)) rfl ?_))
         all_goals try omega
         refine SW.HJ hN (string_keyed nS) Al sM (by simp only [List.length_map,List.length_append,List.length_take];unfold maxLen;omega) rfl rfl rfl (kq nm RY) trivial fun w5 Uv hg => ?_
         have hw:=hw.own Zo hg;have aX:=aX.grown hg (by simpa using Us);have ap:=ap.grown hg (by simpa using Ut.symm);have hS:=hS.grown hg (by simpa using RX.symm);have eN:(acc++s.aa[k].Names.take j).map nQ++[nQ nm]=(acc++s.aa[k].Names.take (j+1)).map nQ:=by rw [aeA pZ,pu];simp
         rw [eN] at Uv;refine Wz ?_;exact ae.again (j+1) ⟨rfl,rfl,rfl,rfl,rfl,rfl,rfl,rfl,rfl,rfl,trivial⟩ (by omega) ⟨by omega,hw,aX,ap,Uv,hS,go (fun h=>by omega)⟩
        ·obtain ⟨ql,Uw⟩ : ∃ ql,(!ew (s.aa[k].Names[j-1]'(by omega)) nm)=ql:=⟨_,rfl⟩;have gP:=kf.names.one (show j-1<cs[k].Names.n by omega) (u := .string (s.aa[k].Names[j-1]'(by omega))) rfl;cases ql
         ·repeat' (first|refine Wz ?_|refine SW.want rfl rfl ?_|refine SW.st (cn (j-1) rfl rfl (by assumption) (by omega) (by omega)) rfl ?_|refine Wn hw gN ?_|refine Wn hw gP ?_|(refine Wk (Uu _) ?_;intro v w1 ah hv;subst hv;obtain ⟨hw,aX,ap,hN,hS⟩:=fH ah hw aX ap hN hS;clear ah)|(refine SW.st ((vD hN RY rfl rfl).eq (congrArg Value.bool RZ)) rfl ?_)|(refine SW.st ((Fe rfl rfl).eq (congrArg Value.bool Uw)) rfl ?_))
          all_goals try omega
          refine SW.HJ hN (string_keyed nS) Al sM (by simp only [List.length_map,List.length_append,List.length_take];unfold maxLen;omega) rfl rfl rfl (kq nm RY) trivial fun w5 Uv hg => ?_
          have hw:=hw.own Zo hg;have aX:=aX.grown hg (by simpa using Us);have ap:=ap.grown hg (by simpa using Ut.symm);have hS:=hS.grown hg (by simpa using RX.symm);have eN:(acc++s.aa[k].Names.take j).map nQ++[nQ nm]=(acc++s.aa[k].Names.take (j+1)).map nQ:=by rw [aeA pZ,pu];simp
          rw [eN] at Uv;refine Wz ?_;exact ae.again (j+1) ⟨rfl,rfl,rfl,rfl,rfl,rfl,rfl,rfl,rfl,rfl,trivial⟩ (by omega) ⟨by omega,hw,aX,ap,Uv,hS,go (fun _=>by simpa using Uw)⟩
         ·rw [M3 (.inr (.inr ⟨Hr,by simpa using Uw⟩))];repeat' (first|refine Wz ?_|refine SW.want rfl rfl ?_|refine SW.st (cn (j-1) rfl rfl (by assumption) (by omega) (by omega)) rfl ?_|refine Wn hw gN ?_|refine Wn hw gP ?_|(refine Wk (Uu _) ?_;intro v w1 ah hv;subst hv;obtain ⟨hw,aX,ap,hN,hS⟩:=fH ah hw aX ap hN hS;clear ah)|(refine SW.st ((vD hN RY rfl rfl).eq (congrArg Value.bool RZ)) rfl ?_)|(refine SW.st ((Fe rfl rfl).eq (congrArg Value.bool Uw)) rfl ?_))
          all_goals try omega
          exact ae.bh rfl rfl ⟨_,rfl,hw,rfl⟩
       ·rw [M3 (.inr (.inl rfl))];repeat' (first|refine Wz ?_|refine SW.want rfl rfl ?_|refine Wn hw gN ?_|(refine Wk (Uu _) ?_;intro v w1 ah hv;subst hv;obtain ⟨hw,aX,ap,hN,hS⟩:=fH ah hw aX ap hN hS;clear ah)|(refine SW.st ((vD hN RY rfl rfl).eq (congrArg Value.bool RZ)) rfl ?_))
        exact ae.bh rfl rfl ⟨_,rfl,hw,rfl⟩
     ·have Xt:tu (ba (s.aa.take k)) s.aa[k].Names:=⟨fun i h=>by rw [Pu];exact hJ i h (by omega)⟩
      rw [aeF (by omega)] at hN;refine Wz ?_;clear hJ hj p7 pr
      refine CW.loop (fun j:Nat=>[(1,.pointer (some ⟨b1,0,none⟩)),(3,.map (some bN)),(4,.map (some bS)),(30,.slice r.aa.A r.aa.n r.aa.c),(31,.int .i64 (r.aa.n:Int)),(32,.int .i64 (k:Int)),(83,.slice cs[k].ab.A cs[k].ab.n cs[k].ab.c),(84,.int .i64 (cs[k].ab.n:Int)),(85,.int .i64 (j:Int))])
       (fun j w'=>j<=cs[k].ab.n∧Ext w w'∧aR w' b1 44 (aK r)∧qp w' prog 9 4 bN ((acc++s.aa[k].Names).map nQ)∧qp w' prog 3 4 bS ((QO++(s.aa[k].ab.take j).map fun x=>x.At).map yv) ∧
         ∀ (i:Nat) (h:i<s.aa[k].ab.length),i<j->s.aa[k].ab[i].At∉QO++(s.aa[k].ab.take i).map fun x=>x.At) (fun j=>cs[k].ab.n-j) 0
       ⟨rfl,rfl,rfl,rfl,rfl,rfl,rfl,rfl,rfl,trivial⟩ ⟨by omega,hw,aX,hN,by simpa using hS,fun i h h'=>by omega⟩ ?_
      clear hw aX hN hS ap;rintro j w' ⟨hj,hw,aX,hN,hS,hJ⟩
      have pr:=kf.aB.base;by_cases p7:j<cs[k].ab.n
      ·have pZ:j<s.aa[k].ab.length:=by omega
       obtain ⟨x,hx⟩ : ∃ x,s.aa[k].ab[j]=x:=⟨_,rfl⟩;have gS:=kf.aB.all p7;rw [hx] at gS;have fx : -9223372036854775808<=x.At∧x.At<=9223372036854775807:=by rw [<- hx];exact fS _ (aet pZ)
       repeat' (first|refine Wz ?_|refine Wo hw gS ?_)
       refine SW.alloc rfl fun oF w1 ah nb aC => ?_
       skip;refine Wg aC (iK.one (enc:=bd) _) fun w2 bA hg => ?_
       have ar:=ah.own nb hg;have il:=hw.up nb
       obtain ⟨hw,aX,hN,hS⟩:=dJ ar hw aX hN hS;have aC:=bA;clear bA ah hg ar;by_cases kF:x.At∈QO++(s.aa[k].ab.take j).map fun x=>x.At
       ·have Xu:=decide_eq_true kF
        rw [wU fun hm=>by
         have:=(hm.each k iR).aB j pZ
         rw [hx,Pv] at this;exact this kF]
        repeat' (first|refine Wz ?_|(refine SW.st ((Fx hS fx rfl rfl).eq (congrArg Value.bool Xu)) rfl ?_))
        exact ae.bh rfl rfl ⟨_,rfl,hw,rfl⟩
       ·have Xu:=decide_eq_false kF;repeat' (first|refine Wz ?_|(refine SW.st ((Fx hS fx rfl rfl).eq (congrArg Value.bool Xu)) rfl ?_))
        refine SW.HJ hS (int_keyed nT) Fw sM (by simp only [List.length_map,List.length_append,List.length_take];unfold maxLen;omega) rfl rfl rfl (keyOf_int fx) trivial fun w5 Ky hg => ?_
        have hw:=hw.own hbS hg;have aX:=aX.grown hg (by simpa using Xo);have hN:=hN.grown hg (by simpa using RX);have eN:(QO++(s.aa[k].ab.take j).map fun x=>x.At).map yv++[yv x.At]=(QO++(s.aa[k].ab.take (j+1)).map fun x=>x.At).map yv:=by rw [aeA pZ,hx];simp
        rw [eN] at Ky;refine Wz ?_
        exact ae.again (j+1) ⟨rfl,rfl,rfl,rfl,rfl,rfl,rfl,rfl,rfl,trivial⟩ (by omega) ⟨by omega,hw,aX,hN,Ky,fun i h h'=>by
         by_cases ei:i=j
         ·subst ei;rw [hx];exact kF
         ·exact hJ i h (by omega)⟩
      ·rw [aeF (by omega),<- Pv,<- rT s.aa k iR] at hS;rw [<- Pu,<- rS s.aa k iR] at hN;refine Wz ?_
       exact ae.again (k+1) ⟨rfl,rfl,rfl,rfl,rfl,rfl,trivial⟩ (by omega) ⟨by omega,hw,aX,hN,hS,fun i h h'=>by
        by_cases ei:i=k
        ·subst ei;exact ⟨QN,nq,Xt,fun i h=>by rw [Pv];exact hJ i h (by omega)⟩
        ·exact hI i h (by omega)⟩
    ·have hF:gg s=false:=wU fun hm=>by
      obtain ⟨d,hd,he⟩:=aeG.1 hy;obtain ⟨j,hj,rfl⟩:=afs.1 hd;have e1:=(hc.each.get j (by omega) (by omega)).size;have e2:=kf.size;have:=of_decide_eq_true he
      exact (hm.each k iR).size j (by omega) (by rw [<- e1,<- e2];exact this)
     rw [hF];repeat' (first|refine Wz ?_|refine SW.want rfl rfl ?_|((first|refine Wk (cC _ hw) ?_|refine Wk (cD _ hw ap) ?_);intro v w1 ah hv;subst hv;obtain ⟨hw,aX,ap,hN,hS⟩:=fH ah hw aX ap hN hS;clear ah)|(refine SW.st (cW (k:=k) rfl rfl (by omega)) rfl ?_)|(refine SW.st (iX (vs:=[.pointer (some ⟨b6,0,none⟩)]) rfl) rfl ?_))
     exact ae.bh rfl rfl ⟨_,rfl,hw,rfl⟩
  ·rw [jS ⟨g1,hH,g3,fun i h=>hI i h (by omega)⟩];refine Wz ?_;exact ae.bh rfl rfl ⟨_,rfl,hw,rfl⟩
 ·have hF:gg s=false:=wU fun hm=>sN ⟨hm.words,by rw [<- hq];exact DP hm.heap,hm.most⟩
  rw [hF];cases q
  all_goals simp only [if_true,Bool.false_eq_true,if_false] at c1
  all_goals simp only [true_and,Bool.false_eq_true,false_and,and_false,not_false_eq_true] at sN
  ·rcases (show s.Words.length≠4096∨s.Words.length=4096 by omega) with g|g
   all_goals
    repeat' (first|refine Wz ?_|refine Wm ((mH aX)) ?_|(refine Wk (c1 _ hw) ?_;intro v w1 ah hv;subst hv;obtain ⟨hw,aX⟩:=cT ah hw aX;clear ah))
    all_goals try omega
    exact ae.bh rfl rfl ⟨_,rfl,hw,rfl⟩
  ·rcases (show s.Words.length≠4096∨(s.Words.length=4096∧20<s.aa.length) by omega) with g|g
   all_goals
    repeat' (first|refine Wz ?_|refine Wm ((mH aX)) ?_|(refine Wk (c1 _ hw) ?_;intro v w1 ah hv;subst hv;obtain ⟨hw,aX⟩:=cT ah hw aX;clear ah))
    all_goals try omega
    exact ae.bh rfl rfl ⟨_,rfl,hw,rfl⟩
variable {β:Type}
def vE:∀ (n:Nat) (l:List Nat),l.Nodup->(∀ x∈l,x<n)->l.length<=n
 | 0,l,_,h=>by
   cases l with
   | nil=>simp
   | cons a r=>exact absurd (h a (by simp)) (by omega)
 | n+1,l,hd,h=>by
   have h1:=vE n (l.erase n) (hd.erase n) (fun x hx=>by
    have:=hd.mem_erase_iff.1 hx
    have:=h x this.2
    omega)
   have h2:l.length<=(l.erase n).length+1:=by
    rw [List.length_erase];split<;>omega
   omega
def CG {f : α -> β} {l:List α} (hd:l.Nodup) (hf:∀ x∈l,∀ y∈l,f x=f y->x=y) : (l.map f).Nodup:=by
 induction l with
 | nil=>simp
 | cons a r ih =>
   rw [aft] at hd;rw [afO,aft];refine ⟨fun h => ?_,ih hd.2 fun x hx y hy=>hf x (by simp [hx]) y (by simp [hy])⟩;obtain ⟨b,hb,e⟩:=aeH.1 h;have:=hf b (by simp [hb]) a (by simp) e
   subst this;exact hd.1 hb
def rr {acc l:List α} (h:acc.Nodup) : ∀ (j:Nat),(∀ (k:Nat) (hk:k<l.length),k<j->l[k]∉acc++l.take k)->(acc++l.take j).Nodup
 | 0,_=>by simpa using h
 | j+1,hi=>by
   have ih:=rr (l:=l) h j (fun k hk hj=>hi k hk (by omega));by_cases hj:j<l.length
   ·rw [aeA hj,<- aey,afe];refine ⟨ih,by simp,fun a ha b hb e => ?_⟩;simp at hb;subst hb e;exact hi j hj (by omega) ha
   ·rw [aeF (by omega)];rwa [aeF (by omega)] at ih
def Eb (b:UInt8) : Nat:=if b.toNat<97 then b.toNat-47 else b.toNat-86
def rU:List UInt8->Nat
 | []=>0
 | b::r=>Eb b+37*rU r
def vF {b:UInt8} (h:tS b=false) : 1<=Eb b∧Eb b<=36:=by
 unfold tS at h;simp at h;unfold Eb;split<;>omega
def M4 {b c:UInt8} (h:tS b=false) (k:tS c=false) (e:Eb b=Eb c) : b=c:=by
 unfold tS at h k;simp at h k;unfold Eb at e;apply UInt8.toNat_inj.1;split at e<;>split at e<;>omega
def Fy:∀ (l:List UInt8),(∀ b∈l,tS b=false)->rU l<37 ^ l.length
 | [],_=>by simp [rU]
 | b::r,h=>by
   have h1:=vF (h b (by simp));have h2:=Fy r (fun x hx=>h x (by simp [hx]));simp only [rU,List.length_cons,Nat.pow_succ];omega
def CH:∀ (l m:List UInt8),(∀ b∈l,tS b=false)->(∀ b∈m,tS b=false)->rU l=rU m->l=m
 | [],[],_,_,_=>rfl
 | [],c::t,_,k,e=>by
   have:=vF (k c (by simp))
   simp only [rU] at e;omega
 | b::r,[],h,_,e=>by
   have:=vF (h b (by simp))
   simp only [rU] at e;omega
 | b::r,c::t,h,k,e=>by
   have h1:=vF (h b (by simp));have h2:=vF (k c (by simp));simp only [rU] at e;have e1:Eb b=Eb c:=by omega
   have e2:rU r=rU t:=by omega
   rw [M4 (h b (by simp)) (k c (by simp)) e1,CH r t (fun x hx=>h x (by simp [hx])) (fun x hx=>k x (by simp [hx])) e2]
def wX {s:ByteArray}:gx s=true↔(1<=s.size∧s.size<=8) ∧ ∀ b∈s.data.toList,tS b=false:=by
 unfold gx;rw [ae9,decide_eq_true_iff,agw,aeS];constructor
 ·rintro ⟨h,k⟩
  exact ⟨by omega,fun b hb=>by simpa using k b hb⟩
 ·rintro ⟨h,k⟩
  exact ⟨by omega,fun b hb=>by simp [k b hb]⟩
def Fz {l:List ByteArray} (hd:l.Nodup) (hv:∀ n∈l,gx n=true) : l.length<=3512479453921:=by
 have h:=vE 3512479453921 (l.map fun n=>rU n.data.toList) (CG hd fun x hx y hy e => ?_) (fun z hz => ?_)
 ·simpa using h
 ·have h1:=CH _ _ (wX.1 (hv x hx)).2 (wX.1 (hv y hy)).2 e;cases x;cases y
  simpa using h1
 ·obtain ⟨n,hn,rfl⟩:=aeH.1 hz;obtain ⟨h1,h2⟩:=wX.1 (hv n hn);have h3:=Fy _ h2;have h4:n.data.toList.length<=8:=by rw [afF];exact h1.2
  have h5 : 37 ^ n.data.toList.length<=37 ^ 8:=Nat.pow_le_pow_right (by omega) h4
  exact afp h3 h5
def Pw (h:gf l) (hf:bM l a=true) : 0<=a∧a<=255:=by
 obtain ⟨hm,e⟩:=jJ hf;have:=(h.each _ hm).2.1
 omega
def vC.at_ {h:i<c.ab.length} (hm:vC s c i h) (hH:bK s.Heap) (ho : 0<=c.Order) : bM s.Heap.Live c.ab[i].At=true∧0<=c.ab[i].At∧c.ab[i].At<=255:=by
 have hf:bM s.Heap.Live c.ab[i].At=true:=by
  cases hf:bM s.Heap.Live c.ab[i].At
  ·have:=hm.live
   rw [Ea hf] at this;omega
  ·rfl
 exact ⟨hf,Pw hH.live hf⟩
def dE.px (hm:dE s c) (hH:bK s.Heap) : ∀ x∈c.ab,0<=x.At∧x.At<=255:=fun x hx=>by
 obtain ⟨i,hi,rfl⟩:=aeu hx;exact ((hm.aB i hi).at_ hH (bV hm.lay).2.1.1).2
def FA (hH:bK s.Heap) : ∀ (k:Nat),k<=s.aa.length->(∀ (i:Nat) (h:i<s.aa.length),i<k->tw s i h) ->
 ((ba (s.aa.take k)).Nodup ∧ ∀ n∈ba (s.aa.take k),gx n=true)∧((aH (s.aa.take k)).Nodup ∧ ∀ a∈aH (s.aa.take k),0<=a∧a<=255)
 | 0,_,_=>by simp [ba,aH]
 | k+1,hk,hI=>by
   obtain ⟨⟨h1,h2⟩,h3,h4⟩:=FA hH k (by omega) (fun i h h'=>hI i h (by omega));have hc:=hI k (by omega) (by omega);rw [rS _ _ (by omega),rT _ _ (by omega)];refine ⟨⟨?_,fun n hn => ?_⟩,?_,fun a ha => ?_⟩
   ·have:=rr (l:=(s.aa[k]'(by omega)).Names) h1 (s.aa[k]'(by omega)).Names.length (fun i hi _=>(hc.names.each i hi).2.1)
    rwa [afk] at this
   ·rcases aeC.1 hn with hn|hn
    ·exact h2 n hn
    ·obtain ⟨i,hi,rfl⟩:=aeu hn;exact (hc.names.each i hi).1
   ·have:=rr (l:=(s.aa[k]'(by omega)).ab.map fun x=>x.At) h3 (s.aa[k]'(by omega)).ab.length (fun i hi _=>by
     have:=hc.aB i (by simpa using hi)
     simpa [List.map_take] using this)
    rwa [<- agu,afk] at this
   ·rcases aeC.1 ha with ha|ha
    ·exact h4 a ha
    ·obtain ⟨x,hx,rfl⟩:=aeH.1 ha;exact hc.may.px hH x hx
variable {af:Array Edge} {ops:Array Oper} {Q:Exit->Act->World->Prop} {bytes c2 dd lo m sz:Nat} {A X:Option Addr} {T:TypeId} {enc:α -> List Value}
section
variable {P:Program} {n:Nat} {ops:Array Oper} {Q:Exit->Act->World->Prop} {rest:List Oper} {L:Env} {w:World} {d:Nat} {T:TypeId} {pos:String} {af:Array Edge}
end
section
variable {α:Type} {P:Program} {w:World} {lo:Nat} {t e:TypeId} {z:Value} {sz bytes:Nat} {enc : α -> List Value} {A X:Option Addr} {n c m d:Nat} {l ys:List α}
def FB [S:bu P t e sz] [T:dn P e z sz bytes] [E:iK enc sz] (ty:TypeId) (hO:Own w lo e sz enc A n c l) (hS:Sl w sz enc X m ys) (dt:lo<=w.heap.size) (ER : 0<m)
 (hb:(n+m)*bytes<=140737488355328) (hm:n+m<=maxLen) :
 ∃ A' c' w',(Builtin.append_ #[t,t] ty #[.slice A n c,.slice X m d]).run P w = .ok (.slice A' (n+m) c') w' ∧
  ((A'=A∧c'=c∧Own w' lo e sz enc A (n+m) c (l++ys)∧w.grownBy w' (aG A c))∨(Own w' w.heap.size e sz enc A' (n+m) c' (l++ys)∧w.grownBy w' none)):=by
 obtain ⟨i,hi,hz,hs,yL⟩:=eM P e (z:=z) (sz:=sz) (bytes:=bytes);have L7:(ys.flatMap enc).length=m*sz:=by rw [aQ,hS.len]
 have pH:∀ u∈ys.flatMap enc,u.oneCell'=true:=fun u hu=>by
  obtain ⟨x,_,hx⟩:=aeK.1 hu;exact E.one x u hx
 have Ru:(l++ys).flatMap enc=l.flatMap enc++ys.flatMap enc:=aeM
 have mx:(l++ys).length=n+m:=by rw [aeD,hO.len,hS.len]
 obtain ⟨ad,rfl⟩:=aeZ.1 (hS.base ER);have vi:=du T.pos hS;have Xv:(l.flatMap enc).length=n*sz:=by rw [aQ,hO.len]
 have u6:∀ b,A=some b->c<n+m->(∀ j u,(l.flatMap enc)[j]?=some u->w.cell? (b.add j)=some u) ->
  ∃ A' c' w',(Builtin.append_ #[t,t] ty #[.slice A n c,.slice (some ad) m d]).run P w = .ok (.slice A' (n+m) c') w'∧(Own w' w.heap.size e sz enc A' (n+m) c' (l++ys)∧w.grownBy w' none):=by
  rintro b rfl e8 hold;obtain ⟨v',w',hr,h2,h3⟩:=run_append_arg_grows (P:=P) w t ty e i z sz bytes S.ot hi hz hs yL T.zc T.pos b n c (l.flatMap enc) Xv hold ad m d (ys.flatMap enc) L7 vi e8 hm hb;rw [<- Ru] at h2;obtain ⟨A',c',rfl,ho⟩:=Own.tm h2 mx;exact ⟨A',c',w',hr,ho,h3⟩
 rcases hO.row with ⟨rfl,rfl⟩|⟨hc,g,ka,rfl,Qs,dB,oZ,yi,ES,uB⟩
 ·have hl:l=[]:=aeN hO.len
  subst hl;cases A with
  | none =>
    obtain ⟨v',w',hr,h2,h3,_⟩:=run_append_own (P:=P) w w.heap.size t ty e i z sz bytes S.ot hi hz hs yL T.zc T.pos (.slice none 0 0) 0 [] (World.ownsRow_nil _ _ _ _) ad m d (ys.flatMap enc) L7 vi pH hm hb (aew _);obtain ⟨A',c',rfl,ho⟩:=Own.tm (m:=0+m) (l:=[]++ys) (enc:=enc) (by simpa using h2) (by simpa using hS.len);exact ⟨A',c',w',hr,.inr ⟨ho,by simpa [Value.ownBlock] using h3⟩⟩
  | some b =>
    obtain ⟨A',c',w',hr,h⟩:=u6 b rfl (by omega) (by simp);exact ⟨A',c',w',hr,.inr h⟩
 ·by_cases kM:n+m<=c
  ·obtain ⟨A',c',w',hr,h1,h2⟩:=sr (P:=P) (t:=t) ty hO hS (d:=d) dt hb hm;have qN:=run_append_room (P:=P) w t ty e i S.ot hi g n c ka dB ad m d (ys.flatMap enc) (by rw [hs];exact L7) vi pH kM (by rw [hs,L7,ES,<- afi];exact aeW _ kM);have he:=hr.symm.trans qN;injection he with he _
   injection he with e1 _ e3
   subst e1 e3;exact ⟨_,_,w',hr,.inl ⟨rfl,rfl,h1,h2⟩⟩
  ·obtain ⟨A',c',w',hr,h⟩:=u6 ⟨g,0,none⟩ rfl (by omega) ((hO.owns hc).cells (g:=g) (by simp [Value.ownBlock]));exact ⟨A',c',w',hr,.inr h⟩
end
def SW.yX {n:Nat} {rest:List Oper} {L:Env} {pos:String} {z:Value} {c:Nat} {l ys:List α} [bu P t e sz] [dn P e z sz bytes] [iK enc sz] {x:Operand}
 (hO:Own w lo e sz enc A k c l) (hS:Sl w sz enc X m ys) (dt:lo<=w.heap.size) (ER : 0<m) (hx:cy L x=some (.slice A k c)) (hy:cy L y=some (.slice X m c2)) (hn:Nat.blt dd n=true)
 (hb:(k+m)*bytes<=140737488355328) (hm:k+m<=9223372036854775807)
 (h:∀ A' c' w',((A'=A∧c'=c∧Own w' lo e sz enc A (k+m) c (l++ys)∧w.grownBy w' (aG A c))∨(Own w' w.heap.size e sz enc A' (k+m) c' (l++ys)∧w.grownBy w' none))->SW P n ops (.gd Q) rest ((dd,.slice A' (k+m) c')::L) w') :
 SW P n ops (.gd Q) (⟨some dd,.call ⟨.builtin .append,#[x,y],#[t,t]⟩,T,pos,af,none⟩::rest) L w :=
 ⟨fun a ha=>by
  obtain ⟨A',c',w',hr,h1⟩:=FB (P:=P) (t:=t) T hO hS (d:=c2) dt ER hb (by simp only [maxLen];omega);simp only [swp,wpList,Region.wanted,if_true];refine .inl ?_;unfold Oper.wp
  have:(execOp a.eval ⟨some dd,.call ⟨.builtin .append,#[x,y],#[t,t]⟩,T,pos,af,none⟩).run P w = .ok (.value (.slice A' (k+m) c')) w':=by
   simp [execOp,resolve,invoke,builtin,ha.eval hx,ha.eval hy,hr]
  rw [this,Oper.upon_value];exact (h A' c' w' h1).out _ (ha.put hn _)⟩
set_option maxHeartbeats 4000000 in
def Ao (A:Option Addr) (n c lo:Nat) (l:List dw) (w:World) (hO:Own w lo 155 4 cm A n c l) (i:Nat) (hi:i<=n) (x:dw) (b:Nat) (hB:aR w b 155 (cm x)) (bG:aG A c≠some b) (hn:(n+1)*48<=140737488355328) (dt:lo<=w.heap.size) :
 iO prog 138 [.slice A n c,.int .i64 (i:Int),.slice (some ⟨b,0,none⟩) 1 1] w fun v w' => ∃ A' c',v = .slice A' (n+1) c'∧Own w' lo 155 4 cm A' (n+1) c' (aM l i x)∧w.grownBy w' (aG A c) ∧ ∀ k,aG A' c'=some k->aG A c=some k∨w.heap.size<=k:=by
 refine dc func138 rfl ntmps138 rfl ?_;have hle:=hO.le;have mx:=hO.len;have hA:=hO.sl.base;have hw:=Ext.refl w;have lj:Sl w 4 cm (some ⟨b,0,none⟩) 1 [x]:=aR.wv hB
 have od:(cm x).length=4:=rfl
 have nK:∀ q:List dw,(q.flatMap cm).length=q.length*4:=fun q=>aQ q
 have pH:∀ (q:List dw) (v:Value),v∈q.flatMap cm->v.oneCell'=true:=fun q v hv=>by
  obtain ⟨u,_,hu⟩:=aeK.1 hv;exact iK.one (enc:=cm) u v hu
 by_cases cx:i=n
 ·subst cx;repeat' (first|refine Wz ?_|(refine SW.st (aZ (k:=i) rfl rfl (by omega) (by omega)) rfl ?_))
  all_goals try omega
  refine SW.yX hO lj dt (by omega) rfl rfl rfl (by omega) (by omega) fun A2 c2 w2 uj => ?_
  have jw:Own w2 lo 155 4 cm A2 (i+1) c2 (l++[x])∧w.grownBy w2 (aG A c) ∧ ∀ k,aG A2 c2=some k->aG A c=some k∨w.heap.size<=k:=by
   rcases uj with ⟨rfl,rfl,h1,h2⟩|⟨h1,h2⟩
   ·exact ⟨h1,h2,fun k e => .inl e⟩
   ·exact ⟨h1.low dt,(aD (Ext.refl w) h2 (aew _) (fun k e=>by cases e)).gr _,fun k e => .inr (h1.aW k e)⟩
  obtain ⟨bg,hg,kb⟩:=jw;refine Wz ?_;refine ae.bh rfl rfl ⟨_,rfl,A2,c2,rfl,?_,hg,kb⟩;have e:aM l i x=l++[x]:=by unfold aM;rw [aeF (by omega),afH (by omega)];simp
  rw [e];exact bg
 ·by_cases kM:n+1<=c
  ·obtain ⟨g,rest,rfl,h1,h2,h3,h4,h5,h6⟩:=hO.opened (by omega);have EH:g≠b:=fun e=>bG (by rw [h6,e])
   have es:l.flatMap cm++rest=(l.take i).flatMap cm++((l.drop i).flatMap cm++rest):=by rw [<- aey,<- aeM,aex]
   have e1:((l.take i).flatMap cm).length=i*4:=by rw [nK];simp;omega
   have e2:((l.drop i).flatMap cm).length=(n-i)*4:=by rw [nK];simp [mx]
   have mn:=hO.sl.drop i c (by omega) (by omega);rw [if_neg (by omega)] at mn;rw [es] at h2
   have J6:∀ w',Ext w w'->(Extern.SlicesOverlaps.overlaps #[38,38] #[4] #[.slice (some ⟨b,0,none⟩) 1 1,.slice (if c=i+1 then (some ⟨g,0,none⟩) else (some (⟨g,0,none⟩ : Addr)).map (·.add ((i+1)*4))) (n+1-(i+1)) (c-(i+1))]).run prog w' = .ok (.bool false) w':=fun w' hx=>by
    rw [if_neg (by omega),age,cJ];have b1:=hB.ext hx;have b2:=h2.ext hx;unfold aR at b1 b2
    exact Lib.run_overlaps_apart w' 38 4 155 (bu.ot (t:=38)) 4 (fun w0=>run_sizeOf (bu.size (t:=38)) w0) ⟨b,0,none⟩ ⟨g,(i+1)*4,none⟩ 1 1 _ _ (fun e=>EH e.symm) 155 155 (cm x).toArray.size ((l.take i).flatMap cm++((l.drop i).flatMap cm++rest)).toArray.size
     (by simp only [World.shape?,b1]) (by simp only [World.shape?,b2]) (by simp [e1,e2];omega) (by simp [World.frozen?,b1]) (by simp [World.frozen?,b1])
   repeat' (first|refine Wz ?_|(refine CW.gG rfl ?_)|(refine SW.st (aZ (k:=i) rfl rfl (by omega) (by omega)) rfl ?_)|(refine SW.st (cW (k:=n+1) rfl rfl (by omega)) rfl ?_)|(refine SW.st (aZ (k:=i+1) rfl rfl (by omega) (by omega)) rfl ?_)|(refine SW.entry func160 (by kernel_rfl) (by kernel_rfl) (by kernel_rfl) (e:=Extern.SlicesOverlaps.overlaps #[38,38] #[4]) (by kernel_rfl) rfl rfl (J6 _ hw) ?_))
   all_goals try omega
   have nq:((n-i)+1)*4<=((l.drop i).flatMap cm++rest).length:=by rw [aeD,e2];omega
   have e4:(l.drop i).flatMap cm++rest=((l.drop i).flatMap cm++rest).take 4++(((l.drop i).flatMap cm++rest).drop 4).take ((n-i)*4)++((l.drop i).flatMap cm++rest).drop (4+(n-i)*4):=by
    rw [aey,<- afB,aex,aex]
   generalize Hg:((l.drop i).flatMap cm++rest).take 4=D1 at e4
   generalize Hh:(((l.drop i).flatMap cm++rest).drop 4).take ((n-i)*4)=D2 at e4
   generalize Hi:((l.drop i).flatMap cm++rest).drop (4+(n-i)*4)=D3 at e4
   have f1:D1.length=4:=by rw [<- Hg];simp only [List.length_take];omega
   have f2:D2.length=(n-i)*4:=by rw [<- Hh];simp only [List.length_take,List.length_drop];omega
   have f3:D3.length+4=rest.length:=by rw [<- Hi];simp only [List.length_drop,List.length_append,e2];omega
   rw [e4] at h2;refine CW.any 8 mixed (db (by kernel_rfl)) rfl fun w1 ah aI => ?_
   obtain ⟨hw,hO,hB,h2⟩:=dJ ah hw hO hB h2;clear ah;refine Wa ?_;refine Wu 4 aI rfl (aZ (k:=i+1) rfl rfl (by omega) (by omega)) ?_;refine Wa ?_;refine Wu 7 aI rfl (aZ (k:=i) rfl rfl (by omega) (by omega)) ?_;refine SA.fZ ?_;refine SW.copy (k:=n-i) ((i+1)*4) ((l.drop i).flatMap cm) h2 rfl rfl rfl (by omega) e2 (by simp only [List.length_append,e1,e2,f1,f2];omega) (fun h0=>⟨by rw [if_neg (by omega)];simp [cJ],(⟨g,0,none⟩ : Addr).add (i*4),by rw [if_neg (by omega)];rfl,fun j v hv=>du (by omega) (mn.ext hw) j v hv⟩) (pH _) fun w3 nI oZ => ?_
   have g1:=eH ((l.take i).flatMap cm++D1) D2 D3 ((l.drop i).flatMap cm) (by rw [e2,f2]) (o:=(i+1)*4) (by rw [aeD,e1,f1];omega);have g0:(l.take i).flatMap cm++(D1++D2++D3)=(l.take i).flatMap cm++D1++D2++D3:=by simp only [List.append_assoc]
   rw [g0,g1] at nI;have DL:=bC (hw.gr (aG (some ⟨g,0,none⟩) c)) oZ (.inl h6.symm);have RG:=hB.grown oZ (by simpa using fun e=>EH e.symm);repeat' (first|refine Wz ?_|(refine SW.st (aZ (k:=i) rfl rfl (by omega) (by omega)) rfl ?_))
   refine SW.copy (k:=1) (i*4) (cm x) nI rfl rfl rfl (by omega) od (by simp only [List.length_append,e1,e2,f1,od];omega) (fun h0=>⟨by rw [if_neg (by omega)];simp [cJ],⟨b,0,none⟩,rfl,fun j v hv=>RG.cell hv⟩) (iK.one (enc:=cm) x) fun w4 oy yi => ?_
   have g2:=eH ((l.take i).flatMap cm) D1 ((l.drop i).flatMap cm++D3) (cm x) (by rw [od,f1]) (o:=i*4) e1.symm;have g3:(l.take i).flatMap cm++D1++(l.drop i).flatMap cm++D3=(l.take i).flatMap cm++D1++((l.drop i).flatMap cm++D3):=by simp only [List.append_assoc]
   have g4:(l.take i).flatMap cm++cm x++((l.drop i).flatMap cm++D3)=(aM l i x).flatMap cm++D3:=by unfold aM;simp only [List.flatMap_append,List.flatMap_cons,List.flatMap_nil,List.append_nil,List.append_assoc]
   rw [g3,g2,g4] at oy;have E2:=Own.closed (n:=n+1) (c:=c) (l:=aM l i x) (by unfold aM;simp;omega) oy (by omega) kM (by omega) h5 h1;have eE:=bC DL yi (.inl h6.symm);refine Wz ?_;exact ae.bh rfl rfl ⟨_,rfl,_,_,rfl,E2,eE,fun k e => .inl e⟩
  ·have Tt:c=n:=by omega
   have mn:=hO.sl.drop i c (by omega) (by omega);have BP:=hO.sl.pre (i:=i) (by omega);repeat' (first|refine Wz ?_|(refine SW.st (aZ (k:=i) rfl rfl (by omega) (by omega)) rfl ?_)|(refine SW.st (cW (k:=i) rfl rfl (by omega)) rfl ?_))
   all_goals try omega
   refine SW.yO (k:=n+1-i) BP Tryz.underlying3 rfl rfl (by omega) rfl (by omega) (by omega) (by omega) (by omega) fun g rest c2 w2 bq dB h2 h3 h4 h5 => ?_
   have e1:((l.take i).flatMap cm).length=i*4:=by rw [nK];simp;omega
   have e2:((l.drop i).flatMap cm).length=(n-i)*4:=by rw [nK];simp [mx]
   have nq:((n-i)+1)*4<=rest.length:=by omega
   have e4:rest=rest.take 4++(rest.drop 4).take ((n-i)*4)++rest.drop (4+(n-i)*4):=by
    rw [aey,<- afB,aex,aex]
   generalize Hg:rest.take 4=D1 at e4
   generalize Hh:(rest.drop 4).take ((n-i)*4)=D2 at e4
   generalize Hi:rest.drop (4+(n-i)*4)=D3 at e4
   have f1:D1.length=4:=by rw [<- Hg];simp only [List.length_take];omega
   have f2:D2.length=(n-i)*4:=by rw [<- Hh];simp only [List.length_take,List.length_drop];omega
   have f3:D3.length+((n-i)+1)*4=rest.length:=by rw [<- Hi];simp only [List.length_drop];omega
   rw [e4] at h2;have fP:aG A c≠some g:=fun e=>by have:=hO.lt_size _ e;omega
   have EH:b≠g:=by have:=hB.lt;omega
   obtain ⟨mn,hB,hw⟩:=cd bq mn hB hw;repeat' (first|refine Wz ?_|(refine SW.st (aZ (k:=i) rfl rfl (by omega) (by omega)) rfl ?_))
   refine SW.copy (k:=1) (i*4) (cm x) h2 rfl rfl rfl (by omega) od (by simp only [List.length_append,e1,f1,f2,od];omega) (fun h0=>⟨by rw [if_neg (by omega)];simp [cJ],⟨b,0,none⟩,rfl,fun j v hv=>hB.cell hv⟩) (iK.one (enc:=cm) x) fun w3 nI oZ => ?_
   have g2:=eH ((l.take i).flatMap cm) D1 (D2++D3) (cm x) (by rw [od,f1]) (o:=i*4) e1.symm;have g3:(l.take i).flatMap cm++(D1++D2++D3)=(l.take i).flatMap cm++D1++(D2++D3):=by simp only [List.append_assoc]
   rw [g3,g2] at nI;have MA:Ext w w3:=hw.own dB oZ
   have lK:Sl w3 4 cm (if c=i then A else A.map (·.add (i*4))) (n-i) (l.drop i):=(hO.sl.drop i c (by omega) (by omega)).ext MA
   have hw:=MA;refine Wz ?_;refine CW.any 8 mixed (db (by kernel_rfl)) rfl fun w1 ah aI => ?_
   obtain ⟨hw,nI,lK⟩:=cd ah hw nI lK;clear ah;refine Wa ?_;refine Wu 4 aI rfl (aZ (k:=i+1) rfl rfl (by omega) (by omega)) ?_;refine Wa ?_;refine Wu 7 aI rfl (aZ (k:=i) rfl rfl (by omega) (by omega)) ?_;refine SA.fZ ?_;refine SW.copy (k:=n-i) ((i+1)*4) ((l.drop i).flatMap cm) nI rfl rfl rfl (by omega) e2 (by simp only [List.length_append,e1,e2,f2,od];omega) (fun h0=>⟨by rw [if_neg (by omega)];simp [cJ],(if c=i then A else A.map (·.add (i*4))).getD default,?_,fun j v hv=>du (by omega) lK j v hv⟩) (pH _) fun w4 oy yi => ?_
   ·obtain ⟨a,ha⟩:=aeZ.1 (lK.base h0);rw [ha];rfl
   ·have g4:=eH ((l.take i).flatMap cm++cm x) D2 D3 ((l.drop i).flatMap cm) (by rw [e2,f2]) (o:=(i+1)*4) (by rw [aeD,e1,od];omega);have g5:(l.take i).flatMap cm++cm x++(D2++D3)=(l.take i).flatMap cm++cm x++D2++D3:=by simp only [List.append_assoc]
    have g6:(l.take i).flatMap cm++cm x++(l.drop i).flatMap cm++D3=(aM l i x).flatMap cm++D3:=by unfold aM;simp only [List.flatMap_append,List.flatMap_cons,List.flatMap_nil,List.append_nil,List.append_assoc]
    rw [g5,g4,g6] at oy;have E2:=Own.closed (n:=n+1) (c:=c2) (lo:=lo) (l:=aM l i x) (by unfold aM;simp;omega) oy (by omega) (by omega) (by omega) h5 (by omega);have kN:Ext w w4:=hw.own dB yi
    have e9:i+(n+1-i)=n+1:=by omega
    refine Wz ?_;rw [e9]
    exact ae.bh rfl rfl ⟨_,rfl,_,_,rfl,E2,kN.gr _,fun k e => .inr (by
     have:k=g:=by
      unfold aG at e;split at e
      ·cases e
      ·simpa using e.symm
     omega)⟩
def SW.qq {n:Nat} {rest:List Oper} {L:Env} {pos:String} [E:iK enc sz] {c:Nat} {l:List α} [G:fG P t sz] {x:Operand} (k:Nat) (x' : α)
 (hO:Own w lo e sz enc A m c l) (hx:cy L x=some (.pointer (some ((A.getD default).add (k*sz))))) (hy:cy L y=some (.agg (enc x').toArray)) (hk:k<m)
 (h:∀ w',Own w' lo e sz enc A m c (l.set k x')->w.grownBy w' (aG A c)->SW P n ops (.gd Q) rest L w') : SW P n ops (.gd Q) (⟨none,.store t x y,T,pos,af,none⟩::rest) L w :=
 ⟨fun a ha=>by
  have hc : 0<c:=by have:=hO.le;omega
  obtain ⟨g,r,rfl,dt,hB,hr,hmc,hmx,how⟩:=hO.opened hc;have iR:k<l.length:=by rw [hO.len];exact hk
  have pY:(k+1)*sz<=m*sz:=aeW _ hk
  rw [afi,Nat.one_mul] at pY;have nK:(l.flatMap enc).length=m*sz:=by rw [aQ,hO.len]
  have e0:(((some (⟨g,0,none⟩ : Addr)).getD default).add (k*sz))=⟨g,k*sz,none⟩:=cJ g _
  rw [e0] at hx;have el:l=l.take k++[l[k]]++l.drop (k+1):=by simp
  have hX:((l.take k).flatMap enc).length=k*sz:=by rw [aQ,agb,Nat.min_eq_left (by omega)]
  have e1:l.flatMap enc++r=(l.take k).flatMap enc++enc l[k]++((l.drop (k+1)).flatMap enc++r):=by
   have e3:l.flatMap enc=(l.take k++[l[k]]++l.drop (k+1)).flatMap enc:=by rw [<- el]
   rw [e3,aeM,aeM];simp only [List.flatMap_cons,List.flatMap_nil,List.append_nil,List.append_assoc]
  have BF:=run_storeCells_at P g (k*sz) e (enc x') 0 (l.flatMap enc++r).toArray w hB (by simp only [List.size_toArray,List.length_append,nK,E.len];omega) (E.one x')
  have e2:((l.flatMap enc++r).toArray.toList.take (k*sz+0)++enc x'++(l.flatMap enc++r).toArray.toList.drop (k*sz+0+(enc x').length))=(l.set k x').flatMap enc++r:=by
   have:=eH ((l.take k).flatMap enc) (enc l[k]) ((l.drop (k+1)).flatMap enc++r) (enc x') (by rw [E.len,E.len]) hX.symm
   rw [<- e1] at this;unfold lay at this;simp only [Nat.add_zero];rw [this,afo,if_pos iR];simp
  rw [e2] at BF;simp only [swp,wpList,Region.wanted,if_true];refine .inl ?_;unfold Oper.wp
  have sL:(execOp a.eval ⟨none,.store t x y,T,pos,af,none⟩).run P w = .ok .skip (w.setRow g ((l.set k x').flatMap enc++r).toArray):=by
   simp [execOp,ha.eval hx,ha.eval hy,Instr.storeAt,Instr.sureAddr,storeVar,Value.cells,run_sizeOf G.size,E.len,BF]
  rw [sL,Oper.upon_skip];obtain ⟨wA,L9⟩:=iC (cs:=(l.set k x').flatMap enc++r) hB;refine (h _ (Own.closed (by rw [ae0];exact hO.len) wA hr hmc hc hmx dt) ?_).out _ ha;rw [how];exact L9⟩
variable {z:aj}
structure gM (w:World) (lo g c:Nat) (u0 u1:eG) (s:aj×aj) : Prop where
 row:Own w lo 113 4 dq (some ⟨g,0,none⟩) 2 c [u0,u1]
 z0:iS w lo u0 s.1
 z1:iS w lo u1 s.2
 Jm:lo<=g
 pos : 0<c
section
variable {w w':World} {lo oV g c t:Nat} {u0 u1:eG} {s:aj×aj}
def gM.ext (h:gM w lo g c u0 u1 s) (hx:Ext w w') : gM w' lo g c u0 u1 s:=⟨h.row.ext hx,h.z0.ext hx,h.z1.ext hx,h.Jm,h.pos⟩
def gM.aJ (h:gM w lo g c u0 u1 s) (hG:se w w' t) (bG:(Nat.beq t 113 || (Nat.beq t 3 || Nat.beq t 143))=false) : gM w' lo g c u0 u1 s:=by
 rw [afZ] at bG;exact ⟨h.row.aJ hG bG.1,h.z0.aJ hG bG.2,h.z1.aJ hG bG.2,h.Jm,h.pos⟩
def gM.own (h:gM w lo g c u0 u1 s) : aG (some (⟨g,0,none⟩ : Addr)) c=some g:=by simp [aG,Nat.pos_iff_ne_zero.1 h.pos]
def gM.gr (h:gM w lo g c u0 u1 s) (hg:w.grownBy w' (some g)) : se w w' 113:=h.row.gr (by rw [h.own];exact hg)
def tz {u:eG} (h:iS w lo u z) (hz:bW z) : (u.ai.n+1)*24<=140737488355328∧u.Types.n*8<=140737488355328∧(0<=u.aT∧u.aT<=256)∧(0<=u.To∧u.To<=256):=by
 have e1:=h.free.sl.len;have e2:=h.types.sl.len;have e3:=h.from_;have e4:=h.pJ;have hl:=kO hz;obtain ⟨o1,o2,o3,o4,o5⟩:=hz.ok;refine ⟨aev (aeW 24 (show u.ai.n+1<=258 by omega)) (by decide),by omega,by omega,by omega⟩
end
def wY (r:jH) (u0 u1:eG) (p:Int) (w:World) (hz:Sl w 4 dq r.bl.A r.bl.n [u0,u1]) :
 bI prog 91 [.agg (dD r).toArray,.int .i64 p] w fun v _=>v = .int .i64 (if p<u0.To then 0 else 1):=by
 refine Wj func91 ntmps91 ?_;refine Ww fun b1 w1 hw lD aX => ?_;have hA:=hz.base;have hn : 2=r.bl.n:=hz.len
 have h0 : 0<r.bl.n:=by omega
 have f0:=hz.jF h0 (j:=1) (u := .int .i64 u0.To) rfl;repeat' (first|refine Wz ?_|(refine CW.vd rfl (fun h => ?_) (fun h => ?_))|refine Wn hw f0 ?_)
 all_goals
  refine ae.bh rfl rfl ⟨_,rfl,hw,?_⟩
  first|(rw [if_pos (by omega)])|(rw [if_neg (by omega)])
def Px (w:World) (lo g c:Nat) (s:aj×aj) (b:Block) (w':World) : Prop:=w.grownBy w' (some g) ∧ ∃ u0 u1,gM w' lo g c u0 u1 (gJ s b)
def wZ (m:fY) (cp:Int) (li lv:fY) (u0 u1:eG) (s:aj×aj) (bs:List Block) (b:Block) (lo g c b1:Nat) (w:World) (aX:aR w b1 41 (dD ⟨⟨some ⟨g,0,none⟩,2,c⟩,m,cp,li,lv⟩)) (hZ:gM w lo g c u0 u1 s) (dt:lo<=w.heap.size) (hD:rf s bs) (hN:qo bs b) :
 iO prog 90 [.pointer (some ⟨b1,0,none⟩),.int .i64 b.At,.int .i64 b.Order] w fun v w'=>Px w lo g c s b w':=by
 refine dc func90 rfl ntmps90 rfl ?_;have hw:=Ext.refl w;have eT:=hZ.z0.pJ;obtain ⟨q1,q2,q3,q4⟩:=tz hZ.z0 hD.mr;obtain ⟨p1,p2,p3,p4⟩:=tz hZ.z1 hD.lQ;have hA:=hZ.row.sl.base;have cz:∀ w',Sl w' 4 dq (some ⟨g,0,none⟩) 2 [u0,u1]->bI prog 91 [.agg (dD ⟨⟨some ⟨g,0,none⟩,2,c⟩,m,cp,li,lv⟩).toArray,.int .i64 b.At] w' fun v _=>v = .int .i64 (if b.At<u0.To then 0 else 1):=fun w' h=>wY ⟨⟨some ⟨g,0,none⟩,2,c⟩,m,cp,li,lv⟩ u0 u1 b.At w' h
 by_cases hx:b.At<u0.To
 ·have eP:gJ s b=((ga s.1 b.At b.Order).2,s.2):=by unfold gJ;rw [if_pos (by omega)]
  simp only [if_pos hx] at cz;have MU:=hZ.row.sl;have k0 : 0<2:=by omega
  repeat' (first|refine Wz ?_|(refine Wk (cz _ hZ.row.sl) ?_;intro v w1 ah hv;subst hv;obtain ⟨hw,aX,hZ⟩:=cd ah hw aX hZ;clear ah))
  refine CW.gB 19 19 (fun _=>True) mixed (by kernel_rfl) fun w1 ah aI => ?_
  obtain ⟨hw,aX,hZ⟩:=cd ah hw aX hZ;clear ah;refine Wp 0 [] [] aI rfl rfl ?_;refine Wt 1 [] [] aI rfl (aF rfl) ?_;refine Wt 2 [] [] aI rfl (az rfl) ?_;refine Wt 3 [] [] aI rfl (aP rfl (aX.cell rfl)) ?_;refine Wp 4 [] [] aI rfl rfl ?_;refine Wp 5 [] [] aI rfl rfl ?_;refine Wt 6 [] [] aI rfl (aF rfl) ?_;refine Wt 7 [] [] aI rfl (az rfl) ?_;refine Wt 8 [] [] aI rfl (aP rfl (aX.cell rfl)) ?_;refine Wp 9 [] [] aI rfl rfl ?_;refine Wt 10 [] [] aI rfl (cf rfl rfl (by assumption) (by omega)) ?_;refine Wt 11 [] [] aI rfl (aY rfl rfl ((hZ.row.sl.all k0))) ?_;refine Wp 12 [] [] aI rfl rfl ?_;refine Wp 13 [] [] aI rfl rfl ?_;refine SF.bZ 14 ?_;refine Wk (qf u0 s.1 b.At b.Order _ hZ.z0.rd q1 q2 ⟨by omega,by omega⟩ ⟨by omega,by omega⟩) fun v w4 ar hv => ?_
  obtain ⟨u',rfl,nJ⟩:=hv;have nJ:=nJ.low (aev dt hw.size);(obtain ⟨hw,aX,hZ⟩:=cd ar hw aX hZ);refine SW.nil (ae.sf ar ?_);refine Wp 15 [] [] aI rfl rfl ?_;refine Wp 16 [] [] aI rfl rfl ?_;refine SF.Cq 17 aI rfl (by kernel_rfl) (by kernel_rfl) rfl (fun _=>bi rfl) rfl ?_;refine Wt 18 [] [] aI rfl (cf rfl rfl (by assumption) (by omega)) ?_;refine SF.ff ?_;refine SW.qq (enc:=dq) 0 u' hZ.row rfl rfl k0 fun w5 hO hg => ?_
  rw [hZ.own] at hg;have hG:=hZ.gr hg;have xG:=bC (hw.gr (some g)) hg (.inl rfl);refine Wz ?_;exact ae.qi rfl ⟨_,rfl,xG,u',u1,by rw [eP];exact ⟨hO,nJ.aJ hG rfl,hZ.z1.aJ hG rfl,hZ.Jm,hZ.pos⟩⟩
 ·have eP:gJ s b=(s.1,(ga s.2 b.At b.Order).2):=by unfold gJ;rw [if_neg (by omega)]
  simp only [if_neg hx] at cz;have k0 : 1<2:=by omega
  repeat' (first|refine Wz ?_|(refine Wk (cz _ hZ.row.sl) ?_;intro v w1 ah hv;subst hv;obtain ⟨hw,aX,hZ⟩:=cd ah hw aX hZ;clear ah))
  refine CW.gB 19 19 (fun _=>True) mixed (by kernel_rfl) fun w1 ah aI => ?_
  obtain ⟨hw,aX,hZ⟩:=cd ah hw aX hZ;clear ah;refine Wp 0 [] [] aI rfl rfl ?_;refine Wt 1 [] [] aI rfl (aF rfl) ?_;refine Wt 2 [] [] aI rfl (az rfl) ?_;refine Wt 3 [] [] aI rfl (aP rfl (aX.cell rfl)) ?_;refine Wp 4 [] [] aI rfl rfl ?_;refine Wp 5 [] [] aI rfl rfl ?_;refine Wt 6 [] [] aI rfl (aF rfl) ?_;refine Wt 7 [] [] aI rfl (az rfl) ?_;refine Wt 8 [] [] aI rfl (aP rfl (aX.cell rfl)) ?_;refine Wp 9 [] [] aI rfl rfl ?_;refine Wt 10 [] [] aI rfl (cf rfl rfl (by assumption) (by omega)) ?_;refine Wt 11 [] [] aI rfl (aY rfl rfl ((hZ.row.sl.all k0))) ?_;refine Wp 12 [] [] aI rfl rfl ?_;refine Wp 13 [] [] aI rfl rfl ?_;refine SF.bZ 14 ?_;refine Wk (qf u1 s.2 b.At b.Order _ hZ.z1.rd p1 p2 ⟨by omega,by omega⟩ ⟨by omega,by omega⟩) fun v w4 ar hv => ?_
  obtain ⟨u',rfl,nJ⟩:=hv;have nJ:=nJ.low (aev dt hw.size);(obtain ⟨hw,aX,hZ⟩:=cd ar hw aX hZ);refine SW.nil (ae.sf ar ?_);refine Wp 15 [] [] aI rfl rfl ?_;refine Wp 16 [] [] aI rfl rfl ?_;refine SF.Cq 17 aI rfl (by kernel_rfl) (by kernel_rfl) rfl (fun _=>bi rfl) rfl ?_;refine Wt 18 [] [] aI rfl (cf rfl rfl (by assumption) (by omega)) ?_;refine SF.ff ?_;refine SW.qq (enc:=dq) 1 u' hZ.row rfl rfl k0 fun w5 hO hg => ?_
  rw [hZ.own] at hg;have hG:=hZ.gr hg;have xG:=bC (hw.gr (some g)) hg (.inl rfl);refine Wz ?_;exact ae.qi rfl ⟨_,rfl,xG,u0,u',by rw [eP];exact ⟨hO,hZ.z0.aJ hG rfl,nJ.aJ hG rfl,hZ.Jm,hZ.pos⟩⟩
variable {L:List aS} {cs:List Value} {b1 oV n' sz':Nat} {A':Option Addr} {li Py lv:fY} {e':TypeId} {w0:World} {u0 u1:eG} {Xw:β -> List Value}
def MP.split {r:jH} {h:Heap} (a:MP w lo r h) (hz:h.bl=[z0,z1]) : ∃ g c u0 u1 ls,r.bl=⟨some ⟨g,0,none⟩,2,c⟩∧gM w lo g c u0 u1 (z0,z1)∧gw w lo r.au ls h.au∧vx r.dP [u0,u1] ls∧yo r.Live [u0,u1]:=by
 obtain ⟨zs,ls,D8,EL,hm,hf⟩:=a.all;have l0:=D8.each.len;rw [hz] at l0;obtain ⟨u0,u1,rfl⟩:=z9 (show zs.length=2 from l0);have l1:=D8.row.len;have h0:=D8.each.get 0 (by simp) (by simp [hz]);have h1:=D8.each.get 1 (by simp) (by simp [hz]);simp only [hz] at h0 h1;have hc : 0<r.bl.c:=by have:=D8.row.le;simp at l1;omega
 obtain ⟨g,rest,hA,dt,_⟩:=D8.row.opened hc;refine ⟨g,r.bl.c,u0,u1,ls,?_,⟨?_,h0,h1,dt,hc⟩,EL,hm,hf⟩
 ·rw [<- hA];have:(2:Nat)=r.bl.n:=l1
  rw [this]
 ·have:=D8.row
  rw [hA,<- l1] at this;exact this
def Own.apart {n c:Nat} {l:List α} (h:Own w lo e sz enc A n c l) (hg:w.grownBy w' row) (hs:∀ g,aG A c=some g->row≠some g) : Own w' lo e sz enc A n c l:=by
 refine h.grown hg ?_;cases e:aG A c with
 | none=>exact .inl rfl
 | some g=>exact .inr (fun e2=>hs g e e2.symm)
def gM.HL {g c:Nat} {s:aj×aj} (h:gM w lo g c u0 u1 s) (hs:yo lv [u0,u1]) (hg:w.grownBy w' (aG lv.A lv.c)) (hG:se w w' 143) : gM w' lo g c u0 u1 s :=
 ⟨h.row.aJ hG rfl,⟨h.z0.from_,h.z0.pJ,h.z0.free.apart hg (hs u0 (by simp)),h.z0.types.aJ hG rfl⟩,⟨h.z1.from_,h.z1.pJ,h.z1.free.apart hg (hs u1 (by simp)),h.z1.types.aJ hG rfl⟩,h.Jm,h.pos⟩
structure R0 (w0:World) (li:fY) (b1:Nat) (o:Option Nat) : Prop where
 out:∀ k,o=some k->k≠b1∧aG li.A li.c≠some k∧k<w0.heap.size
def R0.ne {o:Option Nat} (h:R0 w0 li b1 o) (hr:∀ k,row=some k->k=b1∨aG li.A li.c=some k∨w0.heap.size<=k) : ∀ g,o=some g->row≠some g:=fun g e e2=>by
 obtain ⟨h1,h2,h3⟩:=h.out g e;rcases hr g e2 with h|h|h
 ·exact h1 h
 ·exact h2 h
 ·omega
def Own.o9 {n c:Nat} {l:List α} (h:Own w0 lo e sz enc A n c l) {ls:List dw} (hl:gw w0 lo li ls L) (hb:aR w0 b1 41 cs) (h1:Nat.beq 41 e=false) (h2:Nat.beq e 155=false) : R0 w0 li b1 (aG A c) :=
 ⟨fun k hk=>⟨fun e=>h.fr hb h1 (by rw [hk,e]),by
  rcases h.row with ⟨_,rfl⟩|⟨hc,g,ka,rfl,_,hg,_⟩
  ·simp [aG] at hk
  ·simp only [aG,Nat.pos_iff_ne_zero.1 hc,if_false,Option.map_some,Option.some.injEq] at hk;subst hk;exact hl.row.fr (cs:=ka.toList) (by unfold aR;simpa using hg) h2,h.lt_size k hk⟩⟩
def Own.py {n c c':Nat} {l:List α} {l':List β} (h:Own w0 lo e sz enc A n c l) (h':Own w0 oV e' sz' Xw A' n' c' l') (bG:Nat.beq e e'=false) : ∀ k,aG A c=some k->aG A' c'≠some k:=fun k hk=>by
 rcases h.row with ⟨_,rfl⟩|⟨hc,g,ka,rfl,_,hg,_⟩
 ·simp [aG] at hk
 ·simp only [aG,Nat.pos_iff_ne_zero.1 hc,if_false,Option.map_some,Option.some.injEq] at hk;subst hk;exact h'.fr (cs:=ka.toList) (by unfold aR;simpa using hg) bG
def gM.parts {g c:Nat} {s:aj×aj} (h:gM w lo g c u0 u1 s) (hg:w.grownBy w' row) (h0:∀ k,aG (some (⟨g,0,none⟩ : Addr)) c=some k->row≠some k) (h1:∀ k,aG u0.ai.A u0.ai.c=some k->row≠some k) (h2:∀ k,aG u0.Types.A u0.Types.c=some k->row≠some k)
 (h3:∀ k,aG u1.ai.A u1.ai.c=some k->row≠some k) (h4:∀ k,aG u1.Types.A u1.Types.c=some k->row≠some k) : gM w' lo g c u0 u1 s :=
 ⟨h.row.apart hg h0,⟨h.z0.from_,h.z0.pJ,h.z0.free.apart hg h1,h.z0.types.apart hg h2⟩,⟨h.z1.from_,h.z1.pJ,h.z1.free.apart hg h3,h.z1.types.apart hg h4⟩,h.Jm,h.pos⟩
def ob (s:fY) : Option Nat:=aG s.A s.c
def R1 (a b:dw) : Prop := ∀ g,ob a.av=some g->ob b.av≠some g
def Kz {a b:dw} (h:R1 a b) : R1 b a:=fun g e e2=>h g e2 e
def vG {ls:List dw}:Hw ls↔ls.Pairwise R1:=by
 rw [aeB];refine ⟨fun h i j hi hj o6 g e=>h i j hi hj (by omega) g e,fun h i j hi hj o6 g e => ?_⟩;rcases afJ o6 with h1|h1
 ·exact h i j hi hj h1 g e
 ·exact Kz (h j i hj hi h1) g e
structure B9 (n:Nat) (li:fY) (ls:List dw) (Py:fY) (KA:List dw) : Prop where
 sep:Hw KA
 of:∀ y∈KA,∀ g,ob y.av=some g->(∃ x∈ls,ob x.av=some g)∨n<=g
 row:∀ k,ob Py=some k->ob li=some k∨n<=k
def B9.tW {n:Nat} {ls:List dw} {y:dw} (hs:Hw ls) (e8:∀ x∈ls,∀ g,ob x.av=some g->g<n) (hi:i<ls.length) (hy:∀ g,ob y.av=some g->ob ls[i].av=some g∨n<=g) : B9 n li ls li (ls.set i y):=by
 refine ⟨fun a b ha hb Qx g e e2 => ?_,fun z hz g e => ?_,fun k e => .inl e⟩
 ·simp only [List.length_set] at ha hb
  change ob ((ls.set i y)[a]).av=some g at e
  change ob ((ls.set i y)[b]).av=some g at e2
  simp only [List.getElem_set] at e e2;by_cases h1:i=a
  ·rw [if_pos h1] at e;rw [if_neg (by omega)] at e2;rcases hy g e with h|h
   ·subst h1;exact hs _ _ hi hb Qx g h e2
   ·have:=e8 _ (aet hb) g e2;omega
  ·rw [if_neg h1] at e;by_cases h2:i=b
   ·rw [if_pos h2] at e2;rcases hy g e2 with h|h
    ·subst h2;exact hs _ _ ha hi Qx g e h
    ·have:=e8 _ (aet ha) g e;omega
   ·rw [if_neg h2] at e2;exact hs _ _ ha hb Qx g e e2
 ·rcases aeI hz with h|rfl
  ·exact .inl ⟨z,h,e⟩
  ·rcases hy g e with h|h
   ·exact .inl ⟨_,aet hi,h⟩
   ·exact .inr h
def B9.ins {n:Nat} {ls:List dw} {y:dw} (hs:Hw ls) (e8:∀ x∈ls,∀ g,ob x.av=some g->g<n) (hy:∀ g,ob y.av=some g->n<=g) (hr:∀ k,ob Py=some k->ob li=some k∨n<=k) : B9 n li ls Py (aM ls i y):=by
 have hm:∀ z,z∈aM ls i y->z∈ls∨z=y:=fun z hz=>by
  unfold aM at hz;rw [aeC,aeC,agn] at hz;rcases hz with (hz|hz)|hz
  ·exact .inl (aeX hz)
  ·exact .inr hz
  ·exact .inl (afa hz)
 refine ⟨?_,fun z hz g e => ?_,hr⟩
 ·have hs:=vG.1 hs;rw [<- aex i ls,aeT] at hs;obtain ⟨h1,h2,h3⟩:=hs;rw [vG];unfold aM;rw [aey,aeT];refine ⟨h1,?_,fun a ha b hb => ?_⟩
  ·rw [aeO,afq];exact ⟨fun b hb g e e2=>by have:=hy g e;have:=e8 b (afa hb) g e2;omega,h2⟩
  ·rw [aeO,afx] at hb;rcases hb with rfl|hb
   ·exact fun g e e2=>by have:=hy g e2;have:=e8 a (aeX ha) g e;omega
   ·exact h3 a ha b hb
 ·rcases hm z hz with h|rfl
  ·exact .inl ⟨z,h,e⟩
  ·exact .inr (hy g e)
def SW.Ec {n:Nat} {rest:List Oper} {L:Env} {pos:String} {z:Value} {c:Nat} {l ys:List α} [bu P t e sz] [dn P e z sz bytes] [iK enc sz] {x:Operand}
 (hO:Own w lo e sz enc A k c l) (hS:Sl w sz enc X m ys) (dt:lo<=w.heap.size) (ER : 0<m) (hx:cy L x=some (.slice A k c)) (hy:cy L y=some (.slice X m c2)) (hn:Nat.blt dd n=true)
 (hb:(k+m)*bytes<=140737488355328) (hm:k+m<=9223372036854775807)
 (h:∀ A' c' w',Own w' lo e sz enc A' (k+m) c' (l++ys)->w.grownBy w' (aG A c)->(∀ g,aG A' c'=some g->aG A c=some g∨w.heap.size<=g)->SW P n ops (.gd Q) rest ((dd,.slice A' (k+m) c')::L) w') :
 SW P n ops (.gd Q) (⟨some dd,.call ⟨.builtin .append,#[x,y],#[t,t]⟩,T,pos,af,none⟩::rest) L w:=by
 refine SW.yX hO hS dt ER hx hy hn hb hm fun A' c' w' hh => ?_
 rcases hh with ⟨rfl,rfl,h1,h2⟩|⟨h1,h2⟩
 ·exact h _ _ _ h1 h2 (fun g e => .inl e)
 ·exact h _ _ _ (h1.low dt) ⟨h2.os,h2.tape,h2.output,h2.size,fun k hk _=>h2.block k hk (fun e=>by cases e)⟩ (fun g e => .inr (h1.aW g e))
variable {Mb:List dw} {L1:List aS} {ys:List β} {Xx:fY} {F:World->Prop}
structure Pz (F:World->Prop) (w:World) : Prop where
 at_:F w
 all:∀ w w',Ext w w'->F w->F w'
def Pz.ext (h:Pz F w) (hx:Ext w w') : Pz F w':=⟨h.all _ _ hx h.at_,h.all⟩
def Pz.to (h:Pz F w) (hf:F w') : Pz F w':=⟨hf,h.all⟩
def fK.aM {R : α -> β -> Prop} {xs:List α} (h:fK R xs ys) (hi:i<=xs.length) {x : α} {y : β} (hr:R x y) : fK R (aM xs i x) (aM ys i y):=by
 have hl:=h.len;refine ⟨by rw [di _ hi,di _ (by omega),hl],fun k h1 h2 => ?_⟩
 have ig:∀ {γ:Type} (zs:List γ) (z : γ) (k:Nat) (hk:k<(Proofs.YtenhkiaaebnggaaGreatDoor.aM zs i z).length) (u : γ),(Proofs.YtenhkiaaebnggaaGreatDoor.aM zs i z)[k]?=some u->(Proofs.YtenhkiaaebnggaaGreatDoor.aM zs i z)[k]=u:=fun zs z k hk u hu=>by
  rw [aez hk] at hu;exact Option.some.inj hu
 rw [di _ hi] at h1;rcases ae6 k i with e|e|e
 ·rw [ig xs x k _ (xs[k]'(by omega)) (by rw [vA hi e,aez]),ig ys y k _ (ys[k]'(by omega)) (by rw [vA (by omega) e,aez])];exact h.get k (by omega) (by omega)
 ·subst e;rw [ig xs x k _ x (lR hi),ig ys y k _ y (lR (by omega))];exact hr
 ·obtain ⟨j,rfl⟩ : ∃ j,k=j+1:=⟨k-1,by omega⟩;rw [ig xs x (j+1) _ (xs[j]'(by omega)) (by rw [z7 hi (by omega),aez]),ig ys y (j+1) _ (ys[j]'(by omega)) (by rw [z7 (by omega) (by omega),aez])];exact h.get j (by omega) (by omega)
def fK.setAt {R R' : α -> β -> Prop} {xs:List α} (h:fK R xs ys) {x : α} {y : β} (hr:R' x y) (ho:∀ (k:Nat) (h1:k<xs.length) (h2:k<ys.length),k≠i->R xs[k] ys[k]->R' xs[k] ys[k]) : fK R' (xs.set i x) (ys.set i y):=by
 refine ⟨by simp [h.len],fun k h1 h2 => ?_⟩;simp only [List.length_set] at h1 h2;rw [aeP,aeP];by_cases e:i=k
 ·rw [if_pos e,if_pos e];exact hr
 ·rw [if_neg e,if_neg e];exact ho k h1 h2 (fun h=>e h.symm) (h.get k h1 h2)
structure FC (n:Nat) (w:World) (lo:Nat) (F:World->Prop) (L:List aS) (x:aS) (p:Int) (Xx:fY) (Mb:List dw) (L1:List aS) : Prop where
 own:gw w lo Xx Mb L1
 lt:br L x<L1.length
 tW:L1.set (br L x) ⟨x.gl,x.aj,x.Ty,L1[br L x].av++[p]⟩=jk L ⟨x.gl,x.aj,x.Ty,dh L x++[p]⟩
 key:jr L1[br L x] x
 sep:∀ (j:Nat) (hk:br L x<Mb.length) (hj:j<Mb.length),j≠br L x -> ∀ g,aG Mb[br L x].av.A Mb[br L x].av.c=some g->aG Mb[j].av.A Mb[j].av.c≠some g
 Xy:∀ (hk:br L x<Mb.length) (w w':World),w.grownBy w' (aG Mb[br L x].av.A Mb[br L x].av.c)->F w->F w'
 small:L1[br L x].av.length<=1000
 size:n<=w.heap.size
def FC.ext {n:Nat} {x:aS} {p:Int} (h:FC n w lo F L x p Xx Mb L1) (hx:Ext w w') : FC n w' lo F L x p Xx Mb L1 :=
 ⟨h.own.ext hx,h.lt,h.tW,h.key,h.sep,h.Xy,h.small,aev h.size hx.size⟩
set_option maxHeartbeats 8000000 in
def FD (Z m:fY) (cp:Int) (li lv:fY) (L:List aS) (ls:List dw) (x:aS) (y:dw) (p:Int) (F:World->Prop) (b1:Nat) (w w0:World) (hw:Ext w w0) (EG:w.heap.size<=b1) (aX:aR w0 b1 41 (dD ⟨Z,m,cp,li,lv⟩)) (hl:gw w0 w.heap.size li ls L) (hk:wV y x) (TD:y.av = .nil) (VX:x.av=[])
 (E4:Hw ls) (hs:Fl L) (hn:(li.n+1)*48<=140737488355328) (Mc:∀ l∈L,l.av.length<=1000) (sO:Pz F w0) (OT:∀ (w w':World) (row:Option Nat),w.grownBy w' row->(∀ k,row=some k->k=b1∨aG li.A li.c=some k∨w0.heap.size<=k)->F w->F w')
 (TE:∀ (i:Nat) (hi:i<ls.length) (w w':World),w.grownBy w' (aG ls[i].av.A ls[i].av.c)->F w->F w') :
 iO prog 93 [.pointer (some ⟨b1,0,none⟩),.agg (cm y).toArray,.int .i64 p] w0 fun v w'=>Ext w w'∧F w' ∧ ∃ Py KA,aR w' b1 41 (dD ⟨Z,m,cp,Py,lv⟩)∧gw w' w.heap.size Py KA (jk L ⟨x.gl,x.aj,x.Ty,dh L x++[p]⟩)∧B9 w0.heap.size li ls Py KA:=by
 refine dc func93 rfl ntmps93 rfl ?_;have hkx:jr x ⟨x.gl,x.aj,x.Ty,dh L x++[p]⟩:=⟨rfl,rfl,rfl⟩
 obtain ⟨Zp,Zq⟩:=kR (L:=L) hkx;refine Ww fun b4 w1 ar fw aE => ?_;have dQ:=hw.up fw
 have Ux:=hl.row.lt_size
 have Uy:∀ z∈ls,∀ g,ob z.av=some g->g<w0.heap.size:=fun z hz g e=>by
  obtain ⟨j,hj,rfl⟩:=aeu hz;exact (hl.each.get j hj (by rw [<- hl.each.len];exact hj)).bD.lt_size g e
 (obtain ⟨hw,aX,hl,sO⟩:=dJ ar hw aX hl sO);obtain ⟨l1,l2⟩:=hl.rd.len;obtain ⟨q,hq⟩ : ∃ q,dz L x=q:=⟨_,rfl⟩
 have cL:∀ w',zR w' li ls L->bI prog 94 [.agg (dD ⟨Z,m,cp,li,lv⟩).toArray,.agg (cm y).toArray] w' fun v _=>v = .tuple #[.int .i64 (br L x:Int),.bool q]:=fun w' h=>by
  have:=wW ⟨Z,m,cp,li,lv⟩ L ls x y w' h hk (by simp only;omega)
  rwa [hq] at this
 cases q
 ·have iR:=nP L x;have Xz:br L x<=ls.length:=by omega
  refine Wz ?_;(apply CW.bH mixed;(· kernel_rfl);rotate_left;intro w1 ah;obtain ⟨hw,aX,aE,hl,sO⟩:=fH ah hw aX aE hl sO;clear ah;rotate_right);repeat' (first|refine Wz ?_|(refine CW.gG rfl ?_)|refine SW.dI rfl rfl (fun w1 ah=>(cL _ (hl.rd.ext ah))) ?_|exact SW.eU rfl)
  clear cL;obtain ⟨yc,yz,yt,yp⟩:=y;simp only at TD;subst TD;refine Wb (i:=3) aE fun w3 df yi => ?_
  have hw:=hw.own dQ yi;have aX:=aX.aJ (aE.gr yi) rfl;have hF3:=OT _ _ _ yi (fun k e=>by cases e;exact .inr (.inr fw)) sO.at_;have sO:=sO.to hF3;have hl:gw w3 w.heap.size li ls L:=⟨hl.row.grown yi (.inr (fun e=>by have:=Ux _ e;omega)),hl.each.mono fun _ _ h=>h.aJ (aE.gr yi) rfl⟩;have aE:aR w3 b4 155 (cm ⟨yc,yz,yt,.nil⟩):=df;clear df;refine Wz ?_;have R2:=hl.row.sl.base;refine CW.gB 8 11 (fun _=>True) mixed (by kernel_rfl) fun w1 ah aI => ?_
  obtain ⟨hw,aX,aE,hl,sO⟩:=fH ah hw aX aE hl sO;clear ah;refine Wi 0 [] aI rfl (bi rfl) (fun w2 hS=>bi rfl) ?_;refine Wp 1 [4,3,2] [] aI rfl rfl ?_;refine Wt 2 [4,3] [] aI rfl (aF rfl) ?_;refine Wt 3 [4] [] aI rfl (az rfl) ?_;refine Wt 4 [] [] aI rfl (aP rfl (aX.cell (i:=3) (v := .slice li.A li.n li.c) rfl)) ?_;refine Wp 5 [] [] aI rfl rfl ?_;refine Wt 6 [7] [] aI rfl (aY rfl rfl ((fun _ _=>aE.cell))) ?_;refine SF.bZ 7 ?_;refine SW.dR rfl rfl rfl rfl rfl fun b w4 ar hb hB => ?_
  have FE:w0.heap.size<=w4.heap.size:=aev (afK (ago fw aE.lt)) ar.size
  have wJ:aG li.A li.c≠some b:=fun e=>by have:=hl.row.lt_size _ e;omega
  (obtain ⟨hw,aX,hl,sO⟩:=dJ ar hw aX hl sO);refine SW.nil (ae.sf ar ?_);refine SF.iA ?_;refine SW.dK rfl rfl (Ao li.A li.n li.c w.heap.size ls _ hl.row (br L x) (by omega) ⟨yc,yz,yt,.nil⟩ b hB wJ hn hw.size) fun v w5 hv => ?_
  obtain ⟨A2,c2,rfl,bg,hg,kb⟩:=hv;have hG:=hl.row.gr hg;have hS:True:=trivial
  have hw:=aD hw hg (aew _) hl.row.aW;have Uz:=OT _ _ _ hg (fun k e => .inr (.inl e)) sO.at_;have sO:=sO.to Uz;have aX:=aX.aJ hG rfl;have VY:=(hl.each.mono fun _ _ h=>h.aJ hG rfl).aM (i:=br L x) (x:=⟨yc,yz,yt,.nil⟩) (y:=⟨x.gl,x.aj,x.Ty,[]⟩) (by omega) ⟨hk.1,hk.2.1,hk.2.2,Own.fC _ _ _ _ _ _⟩;refine SW.nil (ae.sg hS ?_);refine SG.bZ 9 ?_;repeat ((show SW _ _ _ _ (⟨_,Op.nilCheck _,_,_,_,none⟩::_) _ _;refine SW.st (aF rfl) rfl ?_))
  refine SW.nil (ae.sg hS ?_);refine SG.bZ 10 ?_;repeat ((show SW _ _ _ _ (⟨_,Op.fieldAddr _ _ _,_,_,_,none⟩::_) _ _;refine SW.st (az rfl) rfl ?_))
  refine SW.nil (ae.sg hS ?_);refine SG.ff ?_;refine Wb (i:=3) aX fun w6 tT uB => ?_
  have yY:=aX.gr uB;have XB:w0.heap.size<=w6.heap.size:=aev FE (aev hg.size uB.size)
  have UA:=kb;have hw:=hw.own EG uB;have UB:=OT _ _ _ uB (fun k e=>by cases e;exact .inl rfl) sO.at_;have sO:=sO.to UB;have bg:=bg.aJ yY rfl;have VY:=VY.mono fun _ _ h=>h.aJ yY rfl
  have aX:aR w6 b1 41 (dD ⟨Z,m,cp,⟨A2,li.n+1,c2⟩,lv⟩):=tT;clear tT
  have ig:∀ h:br L x<(aM L (br L x) (⟨x.gl,x.aj,x.Ty,[]⟩ : aS)).length,(aM L (br L x) (⟨x.gl,x.aj,x.Ty,[]⟩ : aS))[br L x]=⟨x.gl,x.aj,x.Ty,[]⟩:=fun h=>by
   have:=lR (x:=(⟨x.gl,x.aj,x.Ty,[]⟩ : aS)) iR
   rw [aez h] at this;exact Option.some.inj this
  have M5:∀ h:br L x<(aM ls (br L x) (⟨yc,yz,yt,.nil⟩ : dw)).length,(aM ls (br L x) (⟨yc,yz,yt,.nil⟩ : dw))[br L x]=⟨yc,yz,yt,.nil⟩:=fun h=>by
   have:=lR (l:=ls) (i:=br L x) (x:=(⟨yc,yz,yt,.nil⟩ : dw)) (by omega)
   rw [aez h] at this;exact Option.some.inj this
  have PA:br L x<(aM L (br L x) (⟨x.gl,x.aj,x.Ty,[]⟩ : aS)).length:=by rw [di _ iR];omega
  have hR:FC w0.heap.size w6 w.heap.size F L x p ⟨A2,li.n+1,c2⟩ (aM ls (br L x) ⟨yc,yz,yt,.nil⟩) (aM L (br L x) ⟨x.gl,x.aj,x.Ty,[]⟩):=by
   refine ⟨⟨bg,VY⟩,PA,?_,?_,fun j h1 h2 my g e => ?_,fun h1 w w' hg => ?_,?_,XB⟩
   ·rw [ig PA,wP iR,sH (by rw [<- Zq];exact hq),<- Zp,og hq]
   ·rw [ig PA];exact ⟨rfl,rfl,rfl⟩
   ·rw [M5 h1] at e;cases e
   ·rw [M5 h1] at hg;exact sO.all _ _ (aD (Ext.refl w) hg (aew _) (fun k e=>by cases e))
   ·rw [ig PA];simp
  clear VY bg hl aE;refine Wz ?_;have hA:=hR.own.row.sl.base;have gC:br L x<(li.n+1):=by have:=hR.own.rd.len;have:=hR.lt;omega
  have pY:br L x<((aM ls (br L x) (⟨yc,yz,yt,.nil⟩ : dw))).length:=by have:=hR.own.rd.len;have:=hR.lt;omega
  have e8:=hR.lt;have ri:=hR.small;refine CW.gB 15 18 (fun w2=>aR w2 b1 41 (dD ⟨Z,m,cp,⟨A2,li.n+1,c2⟩,lv⟩)) mixed (by kernel_rfl) fun w1 ah aI => ?_
  obtain ⟨hw,aX,hR,sO⟩:=dJ ah hw aX hR sO;clear ah;refine Wi 0 [] aI rfl (bi rfl) (fun w2 hS=>bi rfl) ?_;refine SF.jl 1 [] aI rfl (by kernel_rfl) (by kernel_rfl) (by kernel_rfl) (aF rfl) (fun w2 hS=>aF rfl) rfl ?_;refine Wi 2 [] aI rfl (az rfl) (fun w2 hS=>az rfl) ?_;refine SF.jl 3 [] aI rfl (by kernel_rfl) (by kernel_rfl) (by kernel_rfl) (aP rfl (aX.cell (i:=3) (v := .slice A2 (li.n+1) c2) rfl)) (fun w2 hS=>aP rfl (hS.cell (i:=3) (v := .slice A2 (li.n+1) c2) rfl)) rfl ?_;refine Wi 4 [] aI rfl (bi rfl) (fun w2 hS=>bi rfl) ?_;refine Wp 5 [12,11,10,8,7,6] [] aI rfl rfl ?_;refine Wt 6 [12,11,10,8,7] [] aI rfl (aF rfl) ?_;refine Wt 7 [12,11,10,8] [] aI rfl (az rfl) ?_;refine Wt 8 [12,11,10] [] aI rfl (aP rfl (aX.cell (i:=3) (v := .slice A2 (li.n+1) c2) rfl)) ?_;refine Wp 9 [12,11,10] [] aI rfl rfl ?_;refine Wt 10 [12,11] [] aI rfl (cf rfl rfl (by assumption) (by omega)) ?_;refine Wt 11 [12] [] aI rfl (az rfl) ?_;refine Wt 12 [] [] aI rfl (aP rfl (hR.own.row.sl.jF gC (j:=3) (u := .slice ((aM ls (br L x) (⟨yc,yz,yt,.nil⟩ : dw)))[br L x].av.A ((aM ls (br L x) (⟨yc,yz,yt,.nil⟩ : dw)))[br L x].av.n ((aM ls (br L x) (⟨yc,yz,yt,.nil⟩ : dw)))[br L x].av.c) rfl)) ?_;refine Wp 13 [14] [] aI rfl rfl ?_;refine SF.bZ 14 ?_;refine SW.dR rfl rfl rfl rfl rfl fun b w4 ar hb hB => ?_
  (obtain ⟨hw,aX,hR,sO⟩:=dJ ar hw aX hR sO);have R3:w0.heap.size<=w4.heap.size:=hR.size
  refine SW.nil (ae.sf ar ?_);refine SF.iA ?_;have Ed:=hR.own.each.get (br L x) pY e8;have Jn:=Ed.bD;have Ee:=Jn.sl.len;refine SW.Ec Jn (aR.wv (enc:=bt) hB) hw.size (by decide) rfl rfl rfl (by omega) (by omega) fun A3 c3 w5 lO hg M6 => ?_
  have hS:=aX.aJ (Jn.gr hg) rfl;have fP:=hR.own.row.aJ (Jn.gr hg) rfl;have Uz:=hR.Xy pY _ _ hg sO.at_;have hw:=aD hw hg (aew _) Jn.aW;refine SW.nil (ae.sg hS ?_);refine SG.bZ 16 ?_;repeat ((show SW _ _ _ _ (⟨_,Op.indexAddr _ _ _,_,_,_,none⟩::_) _ _;refine SW.st (cf rfl rfl (by assumption) (by omega)) rfl ?_))
  refine SW.nil (ae.sg hS ?_);refine SG.bZ 17 ?_;repeat ((show SW _ _ _ _ (⟨_,Op.fieldAddr _ _ _,_,_,_,none⟩::_) _ _;refine SW.st (az rfl) rfl ?_))
  refine SW.nil (ae.sg hS ?_);refine SG.ff ?_;refine SW.gH (br L x) 3 ⟨((aM ls (br L x) (⟨yc,yz,yt,.nil⟩ : dw)))[br L x].gl,((aM ls (br L x) (⟨yc,yz,yt,.nil⟩ : dw)))[br L x].aj,((aM ls (br L x) (⟨yc,yz,yt,.nil⟩ : dw)))[br L x].Ty,⟨A3,((aM ls (br L x) (⟨yc,yz,yt,.nil⟩ : dw)))[br L x].av.n+1,c3⟩⟩ fP rfl rfl rfl gC (by decide) rfl rfl fun w6 ke uB => ?_
  have yY:=fP.gr uB;have UB:=OT _ _ _ uB (fun k e=>by rcases kb k e with h|h;exact .inr (.inl h);exact .inr (.inr (aev FE h))) Uz;have hw:=aD hw uB (aew _) fP.aW;refine Wz ?_;refine ae.qi rfl ⟨_,rfl,hw,UB,⟨A2,li.n+1,c2⟩,((aM ls (br L x) (⟨yc,yz,yt,.nil⟩ : dw))).set (br L x) ⟨((aM ls (br L x) (⟨yc,yz,yt,.nil⟩ : dw)))[br L x].gl,((aM ls (br L x) (⟨yc,yz,yt,.nil⟩ : dw)))[br L x].aj,((aM ls (br L x) (⟨yc,yz,yt,.nil⟩ : dw)))[br L x].Ty,⟨A3,((aM ls (br L x) (⟨yc,yz,yt,.nil⟩ : dw)))[br L x].av.n+1,c3⟩⟩,hS.aJ (b:=b1) (t':=41) yY rfl,?_⟩
  have XC:B9 w0.heap.size li ls ⟨A2,li.n+1,c2⟩ ((aM ls (br L x) (⟨yc,yz,yt,.nil⟩ : dw)).set (br L x) ⟨((aM ls (br L x) (⟨yc,yz,yt,.nil⟩ : dw)))[br L x].gl,((aM ls (br L x) (⟨yc,yz,yt,.nil⟩ : dw)))[br L x].aj,((aM ls (br L x) (⟨yc,yz,yt,.nil⟩ : dw)))[br L x].Ty,⟨A3,((aM ls (br L x) (⟨yc,yz,yt,.nil⟩ : dw)))[br L x].av.n+1,c3⟩⟩):=by
   rw [wP Xz];refine B9.ins E4 Uy (fun g e => ?_) (fun k e=>(UA k e).imp id (fun h=>aev FE h));rcases M6 g e with h|h
   ·rw [M5 pY] at h;cases h
   ·exact aev R3 h
  refine ⟨?_,XC⟩;rw [<- hR.tW];refine ⟨ke,fK.setAt (R:=rV _ w.heap.size) hR.own.each ⟨Ed.cpu.trans hR.key.1,Ed.kE.trans hR.key.2.1,Ed.ty.trans hR.key.2.2,lO.aJ yY rfl⟩ fun j h1 h2 my ho=>⟨ho.cpu,ho.kE,ho.ty,?_⟩⟩;refine (ho.bD.grown hg ?_).aJ yY rfl;cases eo:aG ((aM ls (br L x) (⟨yc,yz,yt,.nil⟩ : dw)))[j].av.A ((aM ls (br L x) (⟨yc,yz,yt,.nil⟩ : dw)))[j].av.c with
  | none=>exact .inl rfl
  | some g =>
    right;intro e;exact hR.sep j pY h1 my g e.symm eo
 ·obtain ⟨iR,rq⟩:=ko hq;refine Wz ?_;(apply CW.bH mixed;(· kernel_rfl);rotate_left;intro w1 ah;obtain ⟨hw,aX,aE,hl,sO⟩:=fH ah hw aX aE hl sO;clear ah;rotate_right);repeat' (first|refine Wz ?_|(refine CW.gj rfl ?_)|refine SW.dI rfl rfl (fun w1 ah=>(cL _ (hl.rd.ext ah))) ?_|exact SW.eU rfl)
  clear cL;have FE:=aev fw (afK aE.lt);have hR:=(⟨hl,iR,by rw [sG (by rw [<- Zq];exact hq),<- Zp,je hq iR],rq,fun j h1 h2 my g e=>E4 _ _ h1 h2 (Ne.symm my) g e,fun h1 w w' hg=>TE _ h1 w w' hg,Mc _ (aet iR),FE⟩ : FC w0.heap.size _ w.heap.size F L x p li ls L);clear hl;have hA:=hR.own.row.sl.base;have gC:br L x<li.n:=by have:=hR.own.rd.len;have:=hR.lt;omega
  have pY:br L x<(ls).length:=by have:=hR.own.rd.len;have:=hR.lt;omega
  have e8:=hR.lt;have ri:=hR.small;refine CW.gB 15 18 (fun w2=>aR w2 b1 41 (dD ⟨Z,m,cp,li,lv⟩)) mixed (by kernel_rfl) fun w1 ah aI => ?_
  obtain ⟨hw,aX,hR,sO⟩:=dJ ah hw aX hR sO;clear ah;refine Wi 0 [] aI rfl (bi rfl) (fun w2 hS=>bi rfl) ?_;refine SF.jl 1 [] aI rfl (by kernel_rfl) (by kernel_rfl) (by kernel_rfl) (aF rfl) (fun w2 hS=>aF rfl) rfl ?_;refine Wi 2 [] aI rfl (az rfl) (fun w2 hS=>az rfl) ?_;refine SF.jl 3 [] aI rfl (by kernel_rfl) (by kernel_rfl) (by kernel_rfl) (aP rfl (aX.cell (i:=3) (v := .slice li.A li.n li.c) rfl)) (fun w2 hS=>aP rfl (hS.cell (i:=3) (v := .slice li.A li.n li.c) rfl)) rfl ?_;refine Wi 4 [] aI rfl (bi rfl) (fun w2 hS=>bi rfl) ?_;refine Wp 5 [12,11,10,8,7,6] [] aI rfl rfl ?_;refine Wt 6 [12,11,10,8,7] [] aI rfl (aF rfl) ?_;refine Wt 7 [12,11,10,8] [] aI rfl (az rfl) ?_;refine Wt 8 [12,11,10] [] aI rfl (aP rfl (aX.cell (i:=3) (v := .slice li.A li.n li.c) rfl)) ?_;refine Wp 9 [12,11,10] [] aI rfl rfl ?_;refine Wt 10 [12,11] [] aI rfl (cf rfl rfl (by assumption) (by omega)) ?_;refine Wt 11 [12] [] aI rfl (az rfl) ?_;refine Wt 12 [] [] aI rfl (aP rfl (hR.own.row.sl.jF gC (j:=3) (u := .slice (ls)[br L x].av.A (ls)[br L x].av.n (ls)[br L x].av.c) rfl)) ?_;refine Wp 13 [14] [] aI rfl rfl ?_;refine SF.bZ 14 ?_;refine SW.dR rfl rfl rfl rfl rfl fun b w4 ar hb hB => ?_
  (obtain ⟨hw,aX,hR,sO⟩:=dJ ar hw aX hR sO);have R3:w0.heap.size<=w4.heap.size:=hR.size
  refine SW.nil (ae.sf ar ?_);refine SF.iA ?_;have Ed:=hR.own.each.get (br L x) pY e8;have Jn:=Ed.bD;have Ee:=Jn.sl.len;refine SW.Ec Jn (aR.wv (enc:=bt) hB) hw.size (by decide) rfl rfl rfl (by omega) (by omega) fun A3 c3 w5 lO hg M6 => ?_
  have hS:=aX.aJ (Jn.gr hg) rfl;have fP:=hR.own.row.aJ (Jn.gr hg) rfl;have Uz:=hR.Xy pY _ _ hg sO.at_;have hw:=aD hw hg (aew _) Jn.aW;refine SW.nil (ae.sg hS ?_);refine SG.bZ 16 ?_;repeat ((show SW _ _ _ _ (⟨_,Op.indexAddr _ _ _,_,_,_,none⟩::_) _ _;refine SW.st (cf rfl rfl (by assumption) (by omega)) rfl ?_))
  refine SW.nil (ae.sg hS ?_);refine SG.bZ 17 ?_;repeat ((show SW _ _ _ _ (⟨_,Op.fieldAddr _ _ _,_,_,_,none⟩::_) _ _;refine SW.st (az rfl) rfl ?_))
  refine SW.nil (ae.sg hS ?_);refine SG.ff ?_;refine SW.gH (br L x) 3 ⟨(ls)[br L x].gl,(ls)[br L x].aj,(ls)[br L x].Ty,⟨A3,(ls)[br L x].av.n+1,c3⟩⟩ fP rfl rfl rfl gC (by decide) rfl rfl fun w6 ke uB => ?_
  have yY:=fP.gr uB;have UB:=OT _ _ _ uB (fun k e => .inr (.inl e)) Uz;have hw:=aD hw uB (aew _) fP.aW;refine Wz ?_;refine ae.qi rfl ⟨_,rfl,hw,UB,li,(ls).set (br L x) ⟨(ls)[br L x].gl,(ls)[br L x].aj,(ls)[br L x].Ty,⟨A3,(ls)[br L x].av.n+1,c3⟩⟩,hS.aJ (b:=b1) (t':=41) yY rfl,?_⟩
  have XC:B9 w0.heap.size li ls li ((ls).set (br L x) ⟨(ls)[br L x].gl,(ls)[br L x].aj,(ls)[br L x].Ty,⟨A3,(ls)[br L x].av.n+1,c3⟩⟩):=by
   refine B9.tW E4 Uy pY (fun g e => ?_);rcases M6 g e with h|h
   ·exact .inl h
   ·exact .inr (aev R3 h)
  refine ⟨?_,XC⟩;rw [<- hR.tW];refine ⟨ke,fK.setAt (R:=rV _ w.heap.size) hR.own.each ⟨Ed.cpu.trans hR.key.1,Ed.kE.trans hR.key.2.1,Ed.ty.trans hR.key.2.2,lO.aJ yY rfl⟩ fun j h1 h2 my ho=>⟨ho.cpu,ho.kE,ho.ty,?_⟩⟩;refine (ho.bD.grown hg ?_).aJ yY rfl;cases eo:aG (ls)[j].av.A (ls)[j].av.c with
  | none=>exact .inl rfl
  | some g =>
    right;intro e;exact hR.sep j pY h1 my g e.symm eo
def dr (n:ByteArray) (c:aN) : Bool:=nR c.Names n
def Ap (z:Int) (c:aN) : Bool:=decide (c.ay=z)
def ag.zero:ag:=⟨[],.zero,[]⟩
def kg (l:List ByteArray) (n:ByteArray) : Nat:=(l.takeWhile fun m=>ew m n).length
def vH (l:List ByteArray) (n:ByteArray) : kg l n<=l.length:=by
 unfold kg;exact (List.takeWhile_sublist _).length_le
def Jo {l:List ByteArray} (h:j<kg l n) (hj:j<l.length) : ew l[j] n=true:=by
 unfold kg at h;have h1:(l.takeWhile fun m=>ew m n)[j]=l[j]:=List.IsPrefix.getElem (List.takeWhile_prefix _) h
 rw [<- h1];have:=List.all_takeWhile (p:=fun m=>ew m n) (l:=l)
 rw [List.all_eq_true] at this;exact this _ (aet h)
def Jp {l:List ByteArray} (h:kg l n<l.length) : ew l[kg l n] n=false:=by
 induction l with
 | nil=>simp at h
 | cons a r ih =>
   unfold kg at h ih ⊢;by_cases e:ew a n=true
   ·simp only [List.takeWhile_cons,e,if_true,List.length_cons] at h ih ⊢;simp only [List.getElem_cons_succ];exact ih (by omega)
   ·have e':ew a n=false:=by simpa using e
    simp [e']
def CI {l:List ByteArray} (hk:k<=l.length) (h1:∀ j (hj:j<l.length),j<k->ew l[j] n=true) (h2:∀ h:k<l.length,ew l[k] n=false) : kg l n=k:=by
 rcases ae6 (kg l n) k with h|h|h
 ·have:=h1 (kg l n) (by omega) h
  rw [Jp (by omega)] at this;cases this
 ·exact h
 ·have:=Jo h (by have:=vH l n;omega)
  rw [h2 (by have:=vH l n;omega)] at this;cases this
def Ef (l:List ByteArray) : Prop := ∀ (i j:Nat) (hi:i<l.length) (hj:j<l.length),i<j->ew l[i] l[j]=true
def tu.lT {acc l:List ByteArray} (h:tu acc l) : Ef l:=by
 have:∀ (d i:Nat) (hi:i<l.length) (hj:i+d+1<l.length),ew l[i] l[i+d+1]=true:=by
  intro d;induction d with
  | zero=>intro i hi hj;exact (h.each (i+1) hj).2.2 (by omega)
  | succ d ih =>
    intro i hi hj;exact po (ih i hi (by omega)) ((h.each (i+(d+1)+1) hj).2.2 (by omega))
 intro i j hi hj o6;obtain ⟨d,rfl⟩ : ∃ d,j=i+d+1:=⟨j-i-1,by omega⟩;exact this d i hi hj
def PB {l:List ByteArray} (hs:Ef l) (h:kg l n<=j) (hj:j<l.length) : ew l[j] n=false:=by
 have h0:=Jp (l:=l) (n:=n) (by omega);by_cases e:kg l n=j
 ·subst e;exact h0
 ·cases c:ew l[j] n
  ·rfl
  ·have:=po (hs (kg l n) j (by omega) hj (by omega)) c
   rw [h0] at this;cases this
def rZ (size align:Int) : Int:=(size+align-1) / align*align
def jX (a:Int) : Prop:=a=1∨a=2∨a=4∨a=8
def Jq {align:Int} (ha:jX align) (h : 1<=size∧size<=64) : size<=rZ size align∧rZ size align<size+align∧rZ size align % align=0∧rZ size align<=64:=by
 unfold rZ;rcases ha with rfl|rfl|rfl|rfl<;>omega
def dW (s:ag) (n:ByteArray) (z:Int) : aN:=⟨[n],z,(dp z).2.1,(dp z).1,[],List.replicate s.Heap.bJ.toNat (-1)⟩
def dF (c:aN) (n:ByteArray) : aN:=⟨aM c.Names (kg c.Names n) n,c.ay,c.bL,c.Order,c.ab,c.ak⟩
def tw.xa {s:ag} {hi:i<s.aa.length} (h:tw s i hi) (hH:bK s.Heap) (hI:∀ (j:Nat) (h:j<s.aa.length),tw s j h) : s.aa[i].Names.length<=3512479453921:=by
 have h1:=FA hH i (by omega) (fun j hj _=>hI j hj);have h2:=rr (l:=s.aa[i].Names) h1.1.1 s.aa[i].Names.length (fun k hk _=>(h.names.each k hk).2.1);rw [afk] at h2;refine Fz (afe.1 h2).2.1 fun n hn => ?_
 obtain ⟨k,hk,rfl⟩:=aeu hn;exact (h.names.each k hk).1
inductive lU (s:ag) (n:ByteArray) (size align:Int) : ag×Int->Prop where
 | bad (h:gg s=false) : lU s n size align (.zero,8)
 | form (h:gg s=true) (hn : ¬ (gx n=true∧jX align)) : lU s n size align (.zero,3)
 | range (h:gg s=true) (hn:gx n=true∧jX align) (hs : ¬ (1<=size∧size<=64)) : lU s n size align (.zero,1)
 | gQ (h:gg s=true) (hn:gx n=true∧jX align) (hs : 1<=size∧size<=64) (ht:s.aa.any (dr n)=true) : lU s n size align (.zero,5)
 | u7 {i:Nat} (h:gg s=true) (hn:gx n=true∧jX align) (hs : 1<=size∧size<=64) (ht:s.aa.any (dr n)=false) (hi:i<s.aa.length) (hz:s.aa[i].ay=rZ size align) (ha:∀ j (hj:j<s.aa.length),j<i->s.aa[j].ay≠rZ size align) :
    lU s n size align (⟨s.Words,s.Heap,s.aa.set i (dF s.aa[i] n)⟩,0)
 | full (h:gg s=true) (hn:gx n=true∧jX align) (hs : 1<=size∧size<=64) (ht:s.aa.any (dr n)=false) (hz:∀ j (hj:j<s.aa.length),s.aa[j].ay≠rZ size align) (hc:s.aa.length=20) : lU s n size align (.zero,9)
 | new (h:gg s=true) (hn:gx n=true∧jX align) (hs : 1<=size∧size<=64) (ht:s.aa.any (dr n)=false) (hz:∀ j (hj:j<s.aa.length),s.aa[j].ay≠rZ size align) (hc:s.aa.length<20) :
    lU s n size align (⟨s.Words,s.Heap,s.aa++[dW s n (rZ size align)]⟩,0)
def lU.dm {s:ag} {align:Int} {u v:ag×Int} (a:lU s n size align u) (b:lU s n size align v) : u=v:=by
 cases a with
 | bad h=>cases b with
   | bad=>rfl
   | form h'|range h'|gQ h'|u7 h'|full h'|new h'=>rw [h] at h';cases h'
 | form h hn=>cases b with
   | bad h'=>rw [h] at h';cases h'
   | form=>rfl
   | range _ h'|gQ _ h'|u7 _ h'|full _ h'|new _ h'=>exact absurd h' hn
 | range h hn hs=>cases b with
   | bad h'=>rw [h] at h';cases h'
   | form _ h'=>exact absurd hn h'
   | range=>rfl
   | gQ _ _ h'|u7 _ _ h'|full _ _ h'|new _ _ h'=>exact absurd h' hs
 | gQ h hn hs ht=>cases b with
   | bad h'=>rw [h] at h';cases h'
   | form _ h'=>exact absurd hn h'
   | range _ _ h'=>exact absurd hs h'
   | gQ=>rfl
   | u7 _ _ _ h'|full _ _ _ h'|new _ _ _ h'=>rw [ht] at h';cases h'
 | @u7 i h hn hs ht hi hz ha=>cases b with
   | bad h'=>rw [h] at h';cases h'
   | form _ h'=>exact absurd hn h'
   | range _ _ h'=>exact absurd hs h'
   | gQ _ _ _ h'=>rw [ht] at h';cases h'
   | @u7 j _ _ _ _ hj oW mR =>
     rcases ae6 i j with g|g|g
     ·exact absurd hz (mR i hi g)
     ·subst g;rfl
     ·exact absurd oW (ha j hj g)
   | full _ _ _ _ h'|new _ _ _ _ h'=>exact absurd hz (h' i hi)
 | full h hn hs ht hz hc=>cases b with
   | bad h'=>rw [h] at h';cases h'
   | form _ h'=>exact absurd hn h'
   | range _ _ h'=>exact absurd hs h'
   | gQ _ _ _ h'=>rw [ht] at h';cases h'
   | u7 _ _ _ _ hi h'=>exact absurd h' (hz _ hi)
   | full=>rfl
   | new _ _ _ _ _ h'=>omega
 | new h hn hs ht hz hc=>cases b with
   | bad h'=>rw [h] at h';cases h'
   | form _ h'=>exact absurd hn h'
   | range _ _ h'=>exact absurd hs h'
   | gQ _ _ _ h'=>rw [ht] at h';cases h'
   | u7 _ _ _ _ hi h'=>exact absurd h' (hz _ hi)
   | full _ _ _ _ _ h'=>omega
   | new=>rfl
def gR (lo:Nat) (u:ag×Int) (v:Value) (w:World) : Prop := ∃ q,v = .tuple #[.agg (aK q).toArray,.int .i64 u.2]∧jj w lo q u.1
def gR.zero (e:Int) (lo:Nat) (w:World) : gR lo (.zero,e) (.tuple #[.agg (aK .zero).toArray,.int .i64 e]) w :=
 ⟨.zero,rfl,Own.fC _ _ _ _ _ _,jP.zero w lo,⟨[],fI.nil _ _⟩⟩
def Heap.kh:Heap.zero.small:=by constructor<;>simp [Heap.zero]
def ag.kh:ag.zero.small:=⟨by simp [ag.zero],Heap.kh,by simp [ag.zero],by simp [ag.zero]⟩
def lU.small {s:ag} {align:Int} {u:ag×Int} (a:lU s n size align u) (hs:s.small) : u.1.small:=by
 cases a with
 | bad|form|range|gQ|full=>exact ag.kh
 | @u7 i h hn nJ ht hi hz ha =>
   have hM:=iE.1 h;have hc:=hs.each _ (aet hi);refine ⟨hs.words,hs.heap,by simp only [List.length_set];exact hs.bo,fun c hm => ?_⟩;rcases aeI hm with hm|rfl
   ·exact hs.each c hm
   ·have hl:=(hM.each i hi).xa hM.heap (fun j h=>hM.each j h);refine ⟨?_,hc.aB,hc.aV⟩;simp only [dF];rw [di _ (vH _ _)];omega
 | new h hn nJ ht hz hc =>
   have hM:=iE.1 h;refine ⟨hs.words,hs.heap,by simp only [List.length_append,List.length_singleton];omega,fun c hm => ?_⟩;rcases aeC.1 hm with hm|hm
   ·exact hs.each c hm
   ·simp only [List.mem_singleton] at hm;subst hm;have:=hM.heap.cpus
    refine ⟨by simp [dW],by simp [dW],?_⟩;simp only [dW,List.length_replicate];omega
open Go.ChangeShapes Go.WideShapes Go.ChangeAt Go.RowKit Go.Deep Go.Joins
variable {H:Type} {fid:FuncId} {ds gs:List (DataW H)} {before:List MemPlace} {tb:TypeId} {W W':World}
def own:ownKnob prog.godebug=none:=by kernel_rfl
def laidOut:laidOutB prog=true:=by kernel_rfl
def uk {enc:TypeId×Value->H} (hl:laidOutB P=true) (hb:Below W.heap.size W W') :
 ∀ (ts:List TypeId) (vs:List Value) (ds:List (DataW H)) (ps:List MemPlace),(∀ t∈ts,P.readableRec t=true∧t<P.types.size) ->
  DataW.TrodAll enc P W 0 (fun _=>true) true ts vs ds ps->(∀ x∈ps,x.block<W.heap.size)->DataW.TrodAll enc P W' 0 (fun b=>decide (b<W.heap.size)) true ts vs ds ps
 | [],[],[],_,_,h,_=>h
 | t::ts,v::vs,d::ds,ps,UC,h,e8=>by
   obtain ⟨p,q,h1,h2,rfl⟩:=h
   exact ⟨p,q,Below.trod hl (UC t (by simp)).1 (UC t (by simp)).2 h1 hb (fun x hx=>e8 x (by simp [hx])),
    uk hl hb ts vs ds q (fun u hu=>UC u (by simp [hu])) h2 (fun x hx=>e8 x (by simp [hx])),rfl⟩
 | [],_::_,_,_,_,h,_=>by simp [DataW.TrodAll] at h
 | [],[],_::_,_,_,h,_=>by simp [DataW.TrodAll] at h
 | _::_,[],_,_,_,h,_=>by simp [DataW.TrodAll] at h
 | _::_,_::_,[],_,_,h,_=>by simp [DataW.TrodAll] at h
def KB {enc:TypeId×Value->H} {f:Func} {s:ChangeSpec} {args:Array Value}
 (hl:laidOutB P=true) (UC:∀ t∈f.params.toList,P.readableRec t=true∧t<P.types.size) (hr:f.resultTypes = #[tb]) (hb:P.underlying tb=some .bool) (hv:s.vars=[])
 (Me:(s.fn H (ds++[])).results=[.lit (.bool true)]∧(s.fn H (ds++[])).args=ds∧(s.fn H (ds++[])).vars=[])
 (hW:DataW.Whole enc P f.params.toList s.vars false W args.toList ds gs before) (h:bI P fid args.toList W fun v _=>v = .bool true) :
 Calls P fid args W fun e W' => ∃ v,e = .returned v∧s.post enc P f false true false false W args v W':=by
 have UD:=hW;obtain ⟨p,q,hA,hV,rfl,_,_⟩:=hW;rw [hv] at hV;obtain ⟨rfl,rfl⟩:=trodVars_none hV;simp only [List.append_nil] at UD;have e8:∀ x∈p,x.block<W.heap.size:=fun x hx=>by simpa using UD.lt x hx
 refine Calls.mono h.out ?_;rintro e W' ⟨v,rfl,hx,rfl⟩
 obtain ⟨s1,s2,s3⟩:=Me;refine ⟨_,rfl,ds,[],p,[],p,[],UD,?_,?_,?_,Below.frame hx _,fun h=>by cases h⟩
 ·rw [s1,hr];exact trodAll_mk1 (shut_bool hb true)
 ·rw [s2];exact uk hl hx _ _ _ _ UC hA e8
 ·rw [s3,hv]
  rfl
set_option maxRecDepth 100000
open Go.ChangeShapes Go.WideShapes Go.ChangeAt Go.RowKit Go.Deep Go.Joins
variable {b0:Nat} {en:α -> List Value} {Good:α -> Prop}
def R4 (z:Int) : Prop := -9223372036854775808<=z∧z<=9223372036854775807
section
variable {H:Type} {enc:TypeId×Value->H} {W:World} {base:Nat} {spare:Nat->Bool} {held:Bool} {fuel:Nat} {cs:List Value} {x:DataW H×List MemPlace}
def in64_of_wf {z:Int} (h:(Lit.int .i64 z).wf=true) : R4 z:=by
 have h1:IntKind.i64.min = -9223372036854775808:=rfl
 have h2:IntKind.i64.max=9223372036854775807:=rfl
 simp only [Lit.wf,Bool.and_eq_true,decide_eq_true_eq] at h;unfold R4;omega
def Eg (ht:prog.underlying t=some (.int .i64)) (h:DataW.trod enc prog W base spare held fuel t cs=some x) : ∃ z:Int,cs=bt z∧R4 z:=by
 obtain ⟨z,rfl,_,hw⟩:=DataW.trod_int ht h;exact ⟨z,rfl,in64_of_wf hw⟩
def PC {t e:Nat} [S:bu prog t e sz] (hc:prog.cellsOf e=sz)
 (GX:∀ fuel cs x,DataW.trod enc prog W base spare held fuel e cs=some x -> ∃ a : α,cs=en a∧Good a) (h:DataW.trod enc prog W base spare held fuel t cs=some x) :
 ∃ A n c l,cs=[.slice A n c]∧Sl W sz en A n l∧n<=c∧c<=maxLen∧(∀ a∈l,Good a)∧((x.1 = .nil∧n=0) ∨ ∃ es sp,x.1 = .slice es sp∧es.length=n):=by
 rcases open_slice S.ot h with ⟨h1,h2⟩|⟨a,len,cap,m,k,D,Pl,h1,hb,hl,hm,Rx,hx,hi⟩
 ·exact ⟨none,0,0,[],h1,Sl.fC _ _ _ _,by simp,by simp,by simp,.inl ⟨by rw [h2],rfl⟩⟩
 ·have hlm:len<=m:=by rw [Rx];split<;>omega
  have hex:∀ i,i<len -> ∃ q : α,Good q ∧ ∀ j u,(en q)[j]?=some u->W.cell? ((a.add (i*sz)).add j)=some u:=fun i e8=>by
   obtain ⟨cs',kK,ht⟩:=hi i (by omega);obtain ⟨q,rfl,hg⟩:=GX _ _ _ ht;obtain ⟨_,PD,kZ⟩:=World.cells?_some kK;rw [hc] at PD kZ;refine ⟨q,hg,fun j u hu => ?_⟩
   have hj:j<(en q).length:=by
    rcases ae5 j (en q).length with h|h
    ·exact h
    ·simp [List.getElem?_eq_none h] at hu
   rw [kZ j (by omega)];exact hu
  by_cases h0:len=0
  ·subst h0;exact ⟨some a,0,cap,[],h1,Sl.fC _ _ _ _,hl,hm,by simp,.inr ⟨_,_,by rw [hx],by simp⟩⟩
  have KC:∃ f:Nat -> α,∀ i,i<len->Good (f i) ∧ ∀ j u,(en (f i))[j]?=some u->W.cell? ((a.add (i*sz)).add j)=some u:=by
   have bG:Nonempty α := ⟨(hex 0 (by omega)).choose⟩
   exact ⟨fun i=>if h:i<len then (hex i h).choose else Classical.choice bG,fun i h=>by simp only [h,dif_pos];exact (hex i h).choose_spec⟩
  obtain ⟨f,hf⟩:=KC;refine ⟨some a,len,cap,(List.range len).map f,h1,⟨by simp,fun _=>rfl,fun i mo j u hu => ?_⟩,hl,hm,?_,.inr ⟨_,_,by rw [hx],by simp⟩⟩
  ·simp at mo;exact (hf i mo).2 j u (by simpa using hu)
  ·intro q hq;obtain ⟨i,mo,rfl⟩:=aeH.1 hq;exact (hf i (by simpa using mo)).1
def FF {r:Reach} {t e:Nat} [S:bu prog t e sz] (hc:prog.cellsOf e=sz)
 (GX:∀ fuel cs x,DataW.trod enc prog W base spare held fuel e cs=some x -> ∃ a : α,cs=en a∧Good a) {v:Value} {d:DataW H} {p:List MemPlace} (hv:Value.okWide prog W r b0 t v) (h:DataW.Trod enc prog W base spare held t v d p) :
 ∃ A n c l,v = .slice A n c∧Sl W sz en A n l∧n<=c∧c<=maxLen∧(∀ a∈l,Good a)∧((d = .nil∧n=0) ∨ ∃ es sp,d = .slice es sp∧es.length=n):=by
 obtain ⟨a0,len,cap,rfl⟩:=okWide_slice S.ot hv;obtain ⟨fuel,hf⟩:=h;obtain ⟨A,n,c,l,h1,h2,h3,h4,h5,h6⟩:=PC hc GX hf;simp [Value.cells] at h1;obtain ⟨rfl,rfl,rfl⟩:=h1;exact ⟨a0,len,cap,l,rfl,h2,h3,h4,h5,h6⟩
def M7 {ts:List TypeId} {ds:List (DataW H)} (nq:(DataW.weightsEach prog ts ds).all (· <= reachBytes)=true) {j t e sz n b:Nat} {d:DataW H} [S:bu prog t e sz] (ht:ts[j]?=some t) (hd:ds[j]?=some d) (hb:prog.bytesOf e=b)
 (h:(d = .nil∧n=0) ∨ ∃ es sp,d = .slice es sp∧es.length=n) : n*b<=140737488351232:=by
 rcases h with ⟨_,rfl⟩|⟨es,sp,rfl,rfl⟩
 ·omega
 ·have:=sized_slice nq ht hd S.ot
  rw [hb] at this;simp only [reachBytes] at this;refine aev (aeW _ (Nat.le_add_right _ _)) this
end
section
variable {H:Type} {P:Program}
end
section
variable {H:Type} {enc:TypeId×Value->H} {W:World} {base:Nat} {spare:Nat->Bool} {held:Bool} {fuel:Nat} {cs:List Value} {x:DataW H×List MemPlace}
end
set_option maxRecDepth 100000
open Go.ChangeShapes Go.WideShapes Go.ChangeAt Go.RowKit Go.Deep Go.Joins
section
variable {H:Type} {enc:TypeId×Value->H} {W:World} {base:Nat} {spare:Nat->Bool} {held:Bool} {fuel:Nat} {cs:List Value} {x:DataW H×List MemPlace}
end
set_option maxRecDepth 100000
open Go.ChangeShapes Go.WideShapes Go.ChangeAt Go.RowKit Go.Deep Go.Joins
section
variable {H:Type} {enc:TypeId×Value->H} {W:World} {base:Nat} {spare:Nat->Bool} {held:Bool} {fuel:Nat} {cs:List Value} {x:DataW H×List MemPlace}
end
def yw (A:Option Addr) (n c:Nat) (l:List ByteArray) (x:ByteArray) (w:World) (hl:Sl w 1 encStr A n l) (hn:n<=9223372036854775807) :
 bI prog 134 [.slice A n c,.string x] w fun v _ => ∃ i:Int,v = .int .i64 i∧decide (0<=i)=nR l x:=by
 refine Wj func134 ntmps134 ?_;have hw:=Ext.refl w;have hA:=hl.base;have mx:=hl.len;refine Wz ?_
 refine CW.loop (fun k:Nat=>[(0,.slice A n c),(1,.string x),(7,.int .i64 (n:Int)),(8,.int .i64 (k:Int))]) (fun k w'=>k<=n∧Ext w w' ∧ ∀ (i:Nat) (h:i<l.length),i<k->l[i]≠x)
  (fun k=>n-k) 0 ⟨rfl,rfl,rfl,rfl,trivial⟩ ⟨by omega,hw,fun i h hi=>by omega⟩ ?_
 clear hw;rintro k w' ⟨hk,hw,hI⟩
 by_cases gC:k<n
 ·by_cases hx:x=l[k]
  ·repeat' (first|refine Wz ?_|refine Wn hw (hl.one gC rfl) ?_|(refine SW.st ((lN rfl rfl).eq (congrArg Value.bool (decide_eq_true hx))) rfl ?_))
   refine ae.bh rfl rfl ⟨_,rfl,hw,_,rfl,?_⟩;rw [fA.2 (hx ▸ aet (hl.lt gC))];simp
  ·repeat' (first|refine Wz ?_|refine Wn hw (hl.one gC rfl) ?_|(refine SW.st ((lN rfl rfl).eq (congrArg Value.bool (decide_eq_false hx))) rfl ?_))
   refine ae.again (k+1) ⟨rfl,rfl,rfl,rfl,trivial⟩ (by omega) ⟨by omega,hw,fun i h' hi => ?_⟩;by_cases EX:i=k
   ·subst EX;exact fun e=>hx e.symm
   ·exact hI i h' (by omega)
 ·refine Wz ?_;refine ae.bh rfl rfl ⟨_,rfl,hw,_,rfl,?_⟩
  have hx:nR l x=false:=by
   cases e:nR l x
   ·rfl
   ·obtain ⟨i,hi,e⟩:=aeu (fA.1 e);exact absurd e (hI i hi (by omega))
  rw [hx];simp
def oG (A:Option Addr) (n c:Nat) (l:List ByteArray) (x:ByteArray) (w:World) (hl:Sl w 1 encStr A n l) (hn:n<=9223372036854775807) :
 bI prog 83 [.slice A n c,.string x] w fun v _=>v = .bool (nR l x):=by
 refine Wj func83 ntmps83 ?_;have hw:=Ext.refl w;refine Wz ?_;refine Wk (yw _ _ _ _ _ _ (hl.ext hw) hn) fun v w1 ah hv => ?_
 obtain ⟨i,rfl,hi⟩:=hv;have hw:=hw.trans ah;refine Wz ?_;exact ae.bh rfl rfl ⟨_,rfl,hw,by rw [hi]⟩
def nc {q : β -> Bool} {l:List α} {m:List β} (hl:l.length=m.length) (h:∀ (k:Nat) (h1:k<l.length) (h2:k<m.length),p l[k]=q m[k]) : idxOf p l=idxOf q m∧l.any p=m.any q:=by
 have e:l.map p=m.map q:=afj (by simp [hl]) fun k h1 h2=>by simpa using h k (by simpa using h1) (by simpa using h2)
 have a1:l.any p=m.any q:=by
  have x1:(l.map p).any id=l.any p:=by rw [agB];rfl
  have x2:(m.map q).any id=m.any q:=by rw [agB];rfl
  rw [<- x1,<- x2,e]
 have a2:l.findIdx p=m.findIdx q:=by
  have x1:(l.map p).findIdx id=l.findIdx p:=by rw [List.findIdx_map];rfl
  have x2:(m.map q).findIdx id=m.findIdx q:=by rw [List.findIdx_map];rfl
  rw [<- x1,<- x2,e]
 unfold idxOf;rw [a1,a2];exact ⟨rfl,rfl⟩
def HM {n:Nat} {l l':List ByteArray} (h:Sl w 1 encStr A n l) (h':Sl w 1 encStr A n l') : l=l':=by
 have e1:=h.len;have e2:=h'.len;refine afj (by omega) fun k h1 h2 => ?_
 have a:=h.one (i:=k) (by omega) (u := .string l[k]) rfl;have b:=h'.one (i:=k) (by omega) (u := .string l'[k]) rfl;rw [a] at b;simpa using b
def KD (w:World) (n:ByteArray) : ∃ p:dT->Bool,∀ x c,Hx w x c->p x=dr n c:=by
 classical
 refine ⟨fun x=>decide (∃ c,Hx w x c∧dr n c=true),fun x c h => ?_⟩;cases e:dr n c
 ·refine decide_eq_false ?_;rintro ⟨c',h',e'⟩
  unfold dr at e e';rw [HM h'.names h.names,e] at e';cases e'
 ·exact decide_eq_true ⟨c,h,e⟩
def HN (x:dT) (c:aN) (b3:Nat) (n:ByteArray) (w:World) (h3:aR w b3 9 [.string n]) (hx:Hx w x c) (hn:x.Names.n<=9223372036854775807) :
 bI prog 82 ([.agg (fu x).toArray]++[.pointer (some ⟨b3,0,none⟩)]) w fun v _=>v = .bool (dr n c):=by
 refine Wj func82 ntmps82 ?_;refine Ww fun b1 w1 hw lD aX => ?_;have h3:=h3.ext hw;have QL:=h3.cell (i:=0) (v := .string n) rfl;rw [add_zero] at QL;repeat' (first|refine Wz ?_|refine Wl QL ?_|(refine Wk (oG _ _ _ _ _ _ (hx.names.ext hw) hn) ?_;intro v w1 ah hv;subst hv;obtain ⟨hw,aX⟩:=cT ah hw aX;clear ah))
 exact ae.bh rfl rfl ⟨_,rfl,hw,rfl⟩
def CJ (r:de) (s:ag) (n:ByteArray) (w:World) (hr:zU w r s) (hs:s.small) :
 bI prog 43 [.agg (aK r).toArray,.string n] w fun v _=>v = .tuple #[.int .i64 (idxOf (dr n) s.aa),.bool (s.aa.any (dr n))]:=by
 refine Wj func43 ntmps43 ?_;obtain ⟨cs,hc⟩:=hr.bo;obtain ⟨z1,z2⟩:=hc.len;have m3:=hs.bo;obtain ⟨p,hp⟩:=KD w n;have qs:=nc (p:=p) (q:=dr n) (l:=cs) (m:=s.aa) (by omega) fun k h1 h2=>hp _ _ (hc.each.get k h1 h2)
 refine Ww fun b2 w1 hw eW aq => ?_;refine SW.Mv rfl rfl rfl fun b3 w2 bq cg ao => ?_
 (obtain ⟨hw,aq⟩:=cT bq hw aq);repeat' (first|refine Wz ?_|(refine SW.st (iX (vs:=[.pointer (some ⟨b3,0,none⟩)]) rfl) rfl ?_))
 refine Wk (lP _ _ _ _ _ (hc.row.ext hw) _ [.pointer (some ⟨b3,0,none⟩)] p (fun x => .agg (fu x).toArray) (fun x=>rfl) (fun x hx w1 lj=>by
  obtain ⟨k,hk,rfl⟩:=aeu hx;have bP:k<s.aa.length:=by omega
  have kf:=hc.each.get k hk bP;have q1:=(hs.each _ (aet bP)).names;have q2:=kf.names.len;rw [hp _ _ kf];exact HN _ _ b3 n w1 (ao.ext lj) (kf.ext (hw.trans lj)) (by omega)) (by omega)) fun v w4 kN hv => ?_
 subst hv;rw [qs.1];have hw:=hw.trans kN;have Mq:=lJ (dr n) s.aa;refine Wz ?_;all_goals exact ae.dl rfl rfl rfl ⟨_,rfl,hw,by rw [Mq]⟩
def HO (x:ByteArray) (w:World) : bI prog 135 [.string x] w fun v _=>v = .bool false:=by
 refine Wj func135 ntmps135 ?_;have hw:=Ext.refl w;repeat' (first|refine Wz ?_|(refine SW.st ((wK rfl rfl).eq (congrArg Value.bool (decide_eq_false (fun h=>h rfl)))) rfl ?_))
 exact ae.bh rfl rfl ⟨_,rfl,hw,rfl⟩
def HQ (x:ByteArray) (w:World) : bI prog 85 [.string x] w fun v _=>v = .bool false:=by
 refine Wj func85 ntmps85 ?_;have hw:=Ext.refl w;repeat' (first|refine Wz ?_|(refine SW.st ((wK rfl rfl).eq (congrArg Value.bool (decide_eq_false (fun h=>h rfl)))) rfl ?_))
 exact ae.bh rfl rfl ⟨_,rfl,hw,rfl⟩
def FG (x y:ByteArray) (w:World) : bI prog 84 [.string x,.string y] w fun v _=>v = .bool (ew x y):=by
 refine Wj func84 ntmps84 ?_;have hw:=Ext.refl w;repeat' (first|refine Wz ?_|(refine Wk (HO _ _) ?_;intro v w1 ah hv;subst hv;have hw:=hw.trans ah;clear ah)|(refine SW.st (MN rfl rfl) rfl ?_))
 exact ae.bh rfl rfl ⟨_,rfl,hw,rfl⟩
def Aq (A:Option Addr) (n c:Nat) (l:List ByteArray) (x:ByteArray) (w:World) (hl:Sl w 1 encStr A n l) (hs:Ef l) (hn:n<=1000000000000000000) :
 bI prog 46 [.slice A n c,.string x] w fun v _ => ∃ b,v = .tuple #[.int .i64 (kg l x:Int),.bool b]:=by
 refine Wj func46 ntmps46 ?_;have hw:=Ext.refl w;have hA:=hl.base;have mx:=hl.len;refine Wz ?_
 refine CW.loop (fun s:Nat×Nat=>[(0,.slice A n c),(1,.string x),(6,.int .i64 (n:Int)),(7,.int .i64 (s.1:Int)),(8,.int .i64 (s.2:Int))])
  (fun s w'=>s.1<=s.2∧s.2<=n∧Ext w w'∧(∀ (k:Nat) (h:k<l.length),k<s.1->ew l[k] x=true)∧(∀ (k:Nat) (h:k<l.length),s.2<=k->ew l[k] x=false)) (fun s=>s.2-s.1) (0,n)
  ⟨rfl,rfl,rfl,rfl,rfl,trivial⟩ ⟨by omega,by omega,hw,fun k h h'=>by omega,fun k h h'=>by omega⟩ ?_
 clear hw;rintro ⟨i,j⟩ w' ⟨o6,p7,hw,hI,hJ⟩
 simp only at o6 p7 hI hJ ⊢;by_cases e8:i<j
 ·have hk:(i+j) / 2<n:=by omega
  have iR:=hl.lt hk;obtain ⟨q,hq⟩ : ∃ q,ew (l[(i+j) / 2]) x=q:=⟨_,rfl⟩
  have cL:∀ w',bI prog 84 [.string (l[(i+j) / 2]),.string x] w' fun v _=>v = .bool q:=fun w'=>by
   have:=FG (l[(i+j) / 2]) x w'
   rwa [hq] at this
  cases q
  ·repeat' (first|refine Wz ?_|refine Wn hw (hl.one hk rfl) ?_|(refine Wk (cL _) ?_;intro v w1 ah hv;subst hv;have hw:=hw.trans ah;clear ah)|(refine SW.st ((m6 Tryz.underlying3 mZ rfl).eq (congrArg (Value.int .u64) (wrap_u64 (by omega) (by omega)))) rfl ?_)|(refine SW.st ((m6 mZ Tryz.underlying3 rfl).eq (congrArg (Value.int .i64) (ju (by omega) (by omega)))) rfl ?_)|(refine SW.st (yP rfl rfl) rfl ?_))
   refine ae.again (i,(i+j) / 2) ⟨rfl,rfl,rfl,rfl,congrArg (fun z=>some (Value.int .i64 z)) (by omega),trivial⟩ (by simp only;omega) ⟨by simp only;omega,by simp only;omega,hw,hI,fun k h h' => ?_⟩;simp only at h';by_cases e:k=(i+j) / 2
   ·subst e;exact hq
   ·cases c:ew l[k] x
    ·rfl
    ·have:=po (hs ((i+j) / 2) k iR h (by omega)) c
     rw [hq] at this;cases this
  ·repeat' (first|refine Wz ?_|refine Wn hw (hl.one hk rfl) ?_|(refine Wk (cL _) ?_;intro v w1 ah hv;subst hv;have hw:=hw.trans ah;clear ah)|(refine SW.st ((m6 Tryz.underlying3 mZ rfl).eq (congrArg (Value.int .u64) (wrap_u64 (by omega) (by omega)))) rfl ?_)|(refine SW.st ((m6 mZ Tryz.underlying3 rfl).eq (congrArg (Value.int .i64) (ju (by omega) (by omega)))) rfl ?_)|(refine SW.st (yP rfl rfl) rfl ?_))
   refine ae.again ((i+j) / 2+1,j) ⟨rfl,rfl,rfl,congrArg (fun z=>some (Value.int .i64 z)) (by omega),rfl,trivial⟩ (by simp only;omega) ⟨by simp only;omega,p7,hw,fun k h h' => ?_,hJ⟩;simp only at h';by_cases e:k=(i+j) / 2
   ·subst e;exact hq
   ·exact po (hs k ((i+j) / 2) h iR (by omega)) hq
 ·obtain rfl:i=j:=by omega
  have hp:kg l x=i:=CI (by omega) (fun j hj h=>hI j hj h) (fun h=>hJ i h (by omega))
  rw [hp];by_cases cx:i<n
  ·by_cases he:l[i]'(hl.lt cx)=x
   ·repeat' (first|refine Wz ?_|refine Wn hw (hl.one cx rfl) ?_|(refine SW.st ((lN rfl rfl).eq (congrArg Value.bool (decide_eq_true he))) rfl ?_))
    exact ae.dl rfl rfl rfl ⟨_,rfl,hw,_,rfl⟩
   ·repeat' (first|refine Wz ?_|refine Wn hw (hl.one cx rfl) ?_|(refine Wk (HQ _ _) ?_;intro v w1 ah hv;subst hv;have hw:=hw.trans ah;clear ah)|(refine SW.st ((lN rfl rfl).eq (congrArg Value.bool (decide_eq_false he))) rfl ?_))
    exact ae.dl rfl rfl rfl ⟨_,rfl,hw,_,rfl⟩
  ·refine Wz ?_;exact ae.dl rfl rfl rfl ⟨_,rfl,hw,_,rfl⟩
variable {Z:List Value}
def tA:∀ (vs X Y Z:List Value),vs.length=Y.length->setAt (X++Y++Z) X.length vs=X++vs++Z
 | [],X,Y,Z,h=>by
   have:Y=[]:=List.length_eq_zero_iff.1 (by simpa using h.symm)
   subst this;rfl
 | v::r,X,[],Z,h=>by simp at h
 | v::r,X,y::Y,Z,h=>by
   have e:=tA r (X++[v]) Y Z (by simpa using h);simp only [List.length_append,List.length_singleton] at e;simp only [setAt]
   have e2:(X++(y::Y)++Z).set X.length v=X++[v]++Y++Z:=by
    rw [aey,afu _ _ (aew _)];simp
   rw [e2,e];simp
def M8 {u v:Value} {ds:List Value} (hu:u.cells.toList=cs) (hv:v.cells.toList=ds) (hc:cs.length=sz) (hd:ds.length=sz) (hZ:Z.length=2*sz) :
 Instr.fill (fun i=>some (i*sz,sz)) Z.toArray [(0,u),(1,v)]=some (cs++ds).toArray:=by
 have h1:u.cells.size=sz:=by rw [<- afF,hu,hc]
 have h2:v.cells.size=sz:=by rw [<- afF,hv,hd]
 have eZ:Z=[]++Z.take sz++Z.drop sz:=by simp
 have s1:setAt Z 0 cs=cs++Z.drop sz:=by
  have:=tA cs [] (Z.take sz) (Z.drop sz) (by simp;omega)
  rw [<- eZ] at this;simpa using this
 have s2:setAt (cs++Z.drop sz) sz ds=cs++ds:=by
  have:=tA ds cs (Z.drop sz) [] (by simp;omega)
  rw [afU,hc] at this;simpa using this
 have fold:∀ (x:Value) (off:Nat) (X:List Value),Array.foldl (fun (cs:Array Value) (p:Value×Nat)=>cs.setIfInBounds (off+p.2) p.1) X.toArray x.cells.zipIdx=(setAt X off x.cells.toList).toArray:=fun x off X=>by
  have:=qU x.cells.toList 0 off X
  rw [agf] at this;rw [<- this,<- agm];simp [Array.toList_zipIdx]
 simp only [Instr.fill];rw [if_neg (by simp;omega)];have f1:=fold u (0*sz) Z;rw [hu,Nat.zero_mul,s1] at f1;have f2:=fold v (1*sz) (cs++Z.drop sz);rw [hv,Nat.one_mul,s2] at f2;simp only [Nat.zero_mul,Nat.one_mul] at f1 f2 ⊢;simp only [f1,f2];rw [if_neg (by simp;omega)]
def SW.xb {n:Nat} {rest:List Oper} {L:Env} {pos:String} {z:Value}
 [S:bu P t e sz] [E:dn P e z sz bytes] [C:iK enc sz] {x:Operand} {u v:Value} (a b : α) (hx:cy L x=some u) (hy:cy L y=some v) (hu:u.cells.toList=enc a) (hv:v.cells.toList=enc b) (hs:Nat.ble sz 1000=true)
 (hn:Nat.blt d n=true) (h:∀ g w',Ext w w'->w.heap.size<=g->Own w' w.heap.size e sz enc (some ⟨g,0,none⟩) 2 2 [a,b]->SW P n ops (.gd Q) rest ((d,.slice (some ⟨g,0,none⟩) 2 2)::L) w') :
 SW P n ops (.gd Q) (⟨some d,.buildSlice t 2 #[(0,x),(1,y)],T,pos,af,none⟩::rest) L w :=
 ⟨fun q hq=>by
  obtain ⟨i,hi,hz,nJ,yL⟩:=eM P e (z:=z) (sz:=sz) (bytes:=bytes);have hle:sz<=1000:=by simpa using hs
  have hp : 0<sz:=E.pos
  simp only [swp];refine wpList_buildSlice rfl t e 2 _ rfl (enc a++enc b).toArray i z S.ot hi hz (by rw [nJ];omega) (by rw [nJ];omega) ?_ ?_
  ·have e1:(Array.map (fun (p:Nat×Operand)=>(p.1,q.eval p.2)) #[(0,x),(1,y)]).toList=[(0,u),(1,v)]:=by
    simp [hq.eval hx,hq.eval hy]
   have e2:∀ X:Array Value,X=X.toList.toArray:=fun X=>rfl
   rw [e1,e2 (Array.map _ (Array.range _)),nJ];exact M8 hu hv (C.len a) (C.len b) (by simp)
  ·refine (h w.heap.size _ (Ext.alloc w _) (aew _) ⟨rfl,.inr ⟨by omega,w.heap.size,_,rfl,aew _,aR.new w e (enc a++enc b),aew _,by simp only [maxLen];omega,by simp [C.len];omega,?_⟩⟩).out _ (hq.put hn _);simp only [List.flatMap_cons,List.flatMap_nil,List.append_nil];exact aeF (by simp [C.len];omega)⟩
variable {ad:Addr} {ty:TypeId}
section
variable {P:Program} {L:Env} {w:World} {d:Option Nat} {T:TypeId} {pos:String} {af:Array Edge} {g:Option (Nat×Bool)}
def FH [c:Fc P t] {x lo hi:Operand} {s r:ByteArray} {i j:Int} (hx:cy L x=some (.string s)) (dt:cy L lo=some (.int .i64 i)) (XD:cy L hi=some (.int .i64 j)) (h0 : 0<=i) (h1:i<=j) (h2:j<=s.size) (hr:s.extract i.toNat j.toNat=r) :
 St P ⟨d,.slice t x (some lo) (some hi) none,T,pos,af,g⟩ L w (.string r) :=
 ⟨fun _ a ha w' _=>by
  subst hr;have e1:=ha.eval hx;have e2:=ha.eval dt;have e3:=ha.eval XD;have h3:i<=(j.toNat:Int):=by omega
  have h4 : ¬ max j 0<i:=by omega
  generalize a.eval = ρ at *
  simp [execOp,e1,e2,e3,Instr.sliceAt,Instr.slice,Instr.sliceBounds,Instr.sliceBound,asIntOf,run_underlying c.ot,h0,h1,h2,h3,h4,show 0<=j by omega]⟩
def KE {x:Operand} {s r:ByteArray} (hx:cy L x=some (.string s)) (hy:cy L y=some (.string r)) (hb:s.size+r.size<=9223372036854775807) : St P ⟨d,.binOp .add t x y ty,T,pos,af,g⟩ L w (.string (s++r)) :=
 ⟨fun _ a ha w' _=>by
  have e1:=ha.eval hx;have e2:=ha.eval hy;generalize a.eval = ρ at *
  have h1 : ¬ IntKind.i64.max<((s.size+r.size:Nat) : Int):=by
   have:IntKind.i64.max=9223372036854775807:=rfl
   omega
  simp only [Int.natCast_add] at h1;simp [go_sem,e1,e2,Op.stringOp,h1];omega⟩
def FI {len:Nat} [c:zu P t len e sz] {x:Operand} (hx:cy L x=some (.pointer (some ad))) : St P ⟨d,.slice t x none none none,T,pos,af,g⟩ L w (.slice (some ad) len len) :=
 ⟨fun _ a ha w' _=>by
  have e1:=ha.eval hx;generalize a.eval = ρ at *
  simp [execOp,e1,Instr.sliceAt,Instr.sureAddr,Instr.sliceBounds,run_underlying c.ot,run_sizeOf c.size,add_zero]⟩
end
end Go.Proofs.YtenhkiaaebnggaaGreatDoor
